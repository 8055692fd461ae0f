-- Printed by fprint.py and zip.py, programs of this session's, over the kit's print; Lean checks it.
import Derived.Test.YtdigplhjfjchnaaZf33
namespace Go.Proofs.Ytdigplhjfjchnaa.PQ
open Go.RowKit Go.Proofs.YtdigplhjfjchnaaW.PrintWords Go.Proofs.YtdigplhjfjchnaaW.PrintLast Go.Proofs.YtdigplhjfjchnaaW.PrintMore
attribute [local go_sem] max2_int min2_int max_two min_two max_three min_three max_four min_four   -- for this text's walks alone
set_option linter.unusedVariables false
set_option linter.unusedSimpArgs false
mutual
def hopmeshref49_Agreed.j0 : Nat → Bool → ByteArray → List Int → List Bool → List Bool → Int → Int → Option (Bool)
 | 0,_,_,_,_,_,_,_ => none
 | k + 1,x3,x757000,x757001,x757002,x757003,x757004,x757005 => hopmeshref49_Agreed.l0 k x3 0 x757000 x757001 x757002 x757003 x757004 x757005
def hopmeshref49_Agreed.l0 : Nat → Bool → Int → ByteArray → List Int → List Bool → List Bool → Int → Int → Option (Bool)
 | 0,_,_,_,_,_,_,_,_ => none
 | k + 1,x3,x4,x757000,x757001,x757002,x757003,x757004,x757005 => if x3 = true then (if x4 < (x757003.length : Int) then (if 0 ≤ x4 then (hopmeshref49_Agreed.l0 k (rdOf false x757003 x4) (wrap64 (x4 + 1)) x757000 x757001 x757002 x757003 x757004 x757005) else (none)) else (some x3)) else (some x3)
end
def hopmeshref49_Agreed.f (k : Nat) (a0_0 : ByteArray) (l0_1 : List Int) (l0_2 : List Bool) (l0_3 : List Bool) (a0_4 a0_5 : Int) : Option (Bool):=(hopmeshref49_Valid.f k a0_0 l0_1 l0_2 l0_3 a0_4 a0_5).bind fun t757 => (if t757 = 0 then (hopmeshref49_Agreed.j0 k (decide (a0_5 > 0)) a0_0 l0_1 l0_2 l0_3 a0_4 a0_5) else (hopmeshref49_Agreed.j0 k false a0_0 l0_1 l0_2 l0_3 a0_4 a0_5))
set_option maxHeartbeats 8000000 in
set_option maxRecDepth 100000 in
theorem hopmeshref49_Agreed.calls (k : Nat) (a0_0 : ByteArray) (A0_1 : Option Addr) (c0_1 : Nat) (l0_1 : List Int) (A0_2 : Option Addr) (c0_2 : Nat) (l0_2 : List Bool) (A0_3 : Option Addr) (c0_3 : Nat) (l0_3 : List Bool) (a0_4 a0_5 : Int) (r : Bool) (w : World) (hr0_1 : Kd.C (Kd.int .i64) w A0_1 l0_1.length l0_1) (hc0_1 : l0_1.length ≤ c0_1) (hr0_2 : Kd.C Kd.bool w A0_2 l0_2.length l0_2) (hc0_2 : l0_2.length ≤ c0_2) (hr0_3 : Kd.C Kd.bool w A0_3 l0_3.length l0_3) (hc0_3 : l0_3.length ≤ c0_3) (h : hopmeshref49_Agreed.f k a0_0 l0_1 l0_2 l0_3 a0_4 a0_5 = some r) :
 Calls Try.prog 35 #[.agg #[.string a0_0,.slice A0_1 l0_1.length c0_1,.slice A0_2 l0_2.length c0_2,.slice A0_3 l0_3.length c0_3,.int .i64 a0_4,.int .i64 a0_5]] w fun e w' => e = .returned (.bool r) ∧ Below w.heap.size w w':=by
 have hu50:=Try.underlying50
 have HR0_1:=Aside0.mk hr0_1
 have HC0_1:=Aside0.mk hc0_1
 clear hr0_1 hc0_1
 have HR0_2:=Aside0.mk hr0_2
 have HC0_2:=Aside0.mk hc0_2
 clear hr0_2 hc0_2
 have HR0_3:=Aside0.mk hr0_3
 have HC0_3:=Aside0.mk hc0_3
 clear hr0_3 hc0_3
 have HB:=Aside0.mk (Below.refl w.heap.size w)
 have H : ((hopmeshref49_Valid.f k a0_0 l0_1 l0_2 l0_3 a0_4 a0_5).bind fun t757 => (if t757 = 0 then (hopmeshref49_Agreed.j0 k (decide (a0_5 > 0)) a0_0 l0_1 l0_2 l0_3 a0_4 a0_5) else (hopmeshref49_Agreed.j0 k false a0_0 l0_1 l0_2 l0_3 a0_4 a0_5))) = some r:=h
 clear h
 have HC2:=Aside0.mk H
 clear H
 go_enter Try.func35,Try.ntmps35
 go_upto_region 1 with (first | ((with_reducible refine gate_dst (N:=1) rfl ?_);(try (refine gate_guard (by rfl) ?_;dsimp only));refine boxE 1 #[.string a0_0,.slice A0_1 l0_1.length c0_1,.slice A0_2 l0_2.length c0_2,.slice A0_3 l0_3.length c0_3,.int .i64 a0_4,.int .i64 a0_5] 50 ?_;intro gb756 hg w3 hbox hb;have BK756:=Aside0.mk (hbox);have GW756:=gw hg HB;have GE756:=gw hg HB;replace HB:=hbS HB hb;clear hb hbox hg))
 (try simp only [Act.put,List.setIfInBounds_toArray,List.set_cons_zero,List.set_cons_succ])
 go_cut [3] (fun v3 wc => ∃ (kq : Nat) (x3_1 : Bool),v3 = .bool x3_1 ∧ Aside0 (hopmeshref49_Agreed.j0 kq x3_1 a0_0 l0_1 l0_2 l0_3 a0_4 a0_5 = some r) ∧ Aside0 (kq ≤ k) ∧ Aside0 (wc.heap[gb756]? = some (.cells #[.string a0_0,(.slice A0_1 l0_1.length c0_1),(.slice A0_2 l0_2.length c0_2),(.slice A0_3 l0_3.length c0_3),.int .i64 a0_4,.int .i64 a0_5] 50 (0,0))) ∧ Aside0 (Below w.heap.size w wc))
 case first =>
  have H:=HC2.out
  clear HC2
  replace H:=Option.bind_eq_some_iff.mp H
  obtain ⟨t757,A40,H⟩:=H
  (try dsimp only at H)
  have A4:=Aside0.mk A40
  clear A40
  by_cases c5 : t757 = 0
  ·rw [if_pos c5] at H
   have c5b0 : (t757 == 0) = true:=beq_iff_eq.mpr c5
   have c5b1 : (t757 != 0) = false:=bne_eq_false_iff_eq.mpr c5
   clear c5
   (first | rw [c5b0] | (simp only [i64_w,i32_w];rw [c5b0]) | skip)
   have H':=Aside0.mk H
   clear H
   obtain ⟨z0,z1,z2,z3,z4,z5,y0,y1,y2,y3,y4,y5⟩:=bc6 BK756
   go_wp2_with (first | ((with_reducible refine gate_callee (f:=33) rfl ?_);refine goesL_ (some 6) rfl rfl Try.func33 (by kernel_rfl) rfl #[.agg #[.string a0_0,.slice A0_1 l0_1.length c0_1,.slice A0_2 l0_2.length c0_2,.slice A0_3 l0_3.length c0_3,.int .i64 a0_4,.int .i64 a0_5]] rfl sma ?_;(with_reducible refine (hopmeshref49_Valid.calls k a0_0 _ _ l0_1 _ _ l0_2 _ _ l0_3 a0_4 a0_5 t757 _ (cb HR0_1 HB) HC0_1.out (cb HR0_2 HB) HC0_2.out (cb HR0_3 HB) HC0_3.out A4.out).mono ?_);rintro e w7 ⟨rfl,hb⟩;refine ⟨_,rfl,?_⟩;replace BK756:=bkB BK756 hb;replace HB:=hbS HB hb;(try clear hb);(try clear hb2);(try clear hk);(try clear hi);obtain ⟨z0,z1,z2,z3,z4,z5,y0,y1,y2,y3,y4,y5⟩:=bc6 BK756))
   go_meet
   case rel => exact ⟨_,(decide (a0_5 > 0)),rfs,H',kle,bkA BK756,hbA HB⟩
  ·rw [if_neg c5] at H
   have c5b0 : (t757 == 0) = false:=beq_eq_false_iff_ne.mpr c5
   have c5b1 : (t757 != 0) = true:=bne_iff_ne.mpr c5
   (first | rw [c5b0] | (simp only [i64_w,i32_w];rw [c5b0]) | skip)
   have H':=Aside0.mk H
   clear H
   obtain ⟨z0,z1,z2,z3,z4,z5,y0,y1,y2,y3,y4,y5⟩:=bc6 BK756
   go_wp2_with (first | ((with_reducible refine gate_callee (f:=33) rfl ?_);refine goesL_ (some 6) rfl rfl Try.func33 (by kernel_rfl) rfl #[.agg #[.string a0_0,.slice A0_1 l0_1.length c0_1,.slice A0_2 l0_2.length c0_2,.slice A0_3 l0_3.length c0_3,.int .i64 a0_4,.int .i64 a0_5]] rfl sma ?_;(with_reducible refine (hopmeshref49_Valid.calls k a0_0 _ _ l0_1 _ _ l0_2 _ _ l0_3 a0_4 a0_5 t757 _ (cb HR0_1 HB) HC0_1.out (cb HR0_2 HB) HC0_2.out (cb HR0_3 HB) HC0_3.out A4.out).mono ?_);rintro e w10 ⟨rfl,hb⟩;refine ⟨_,rfl,?_⟩;replace BK756:=bkB BK756 hb;replace HB:=hbS HB hb;(try clear hb);(try clear hb2);(try clear hk);(try clear hi)))
   go_meet
   case rel => exact ⟨_,(false),rfs,H',kle,bkA BK756,hbA HB⟩
 case rest =>
  clear HC2
  obtain ⟨kq,x3_1,rfl,HA,HJ1,BK756,HB⟩:=hcut
  cases kq with
  | zero => exact absurd HA.out (by simp [hopmeshref49_Agreed.j0])
  | succ kj1 =>
   have H:=HA.out
   clear HA
   simp only [hopmeshref49_Agreed.j0] at H
   have H':=Aside0.mk H
   clear H
   go_wp2
   go_loopg [3,4] kj1 (fun kq v3 v4 w' => ∃ (x3_2 : Bool) (x4_2 : Int),v3 = .bool x3_2 ∧ v4 = .int .i64 x4_2 ∧ Aside0 (hopmeshref49_Agreed.l0 kq x3_2 x4_2 a0_0 l0_1 l0_2 l0_3 a0_4 a0_5 = some r) ∧ Aside0 (kq ≤ kj1) ∧ Aside0 (w'.heap[gb756]? = some (.cells #[.string a0_0,(.slice A0_1 l0_1.length c0_1),(.slice A0_2 l0_2.length c0_2),(.slice A0_3 l0_3.length c0_3),.int .i64 a0_4,.int .i64 a0_5] 50 (0,0))) ∧ Aside0 (Below w.heap.size w w'))
   case atStart => exact ⟨(x3_1),(0),rfs,rfs,H',⟨Nat.le_refl _⟩,bkA BK756,hbA HB⟩
   case round =>
    clear H'
    obtain ⟨x3_2,x4_2,rfl,rfl,HA,HK2,BK756,HB⟩:=hrel
    cases gk with
    | zero => exact absurd HA.out (by simp [hopmeshref49_Agreed.l0])
    | succ k2 =>
     have H:=HA.out
     clear HA
     simp only [hopmeshref49_Agreed.l0] at H
     by_cases c11 : x3_2 = true
     ·subst c11
      rw [if_pos rfl] at H
      by_cases c12 : x4_2 < (l0_3.length : Int)
      ·rw [if_pos c12] at H
       have c12b0 : decide (x4_2 < (l0_3.length : Int)) = true:=decide_eq_true c12
       clear c12
       by_cases c13 : 0 ≤ x4_2
       ·rw [if_pos c13] at H
        have c13b0 : decide (0 ≤ x4_2) = true:=decide_eq_true c13
        clear c13
        have H':=Aside0.mk H
        clear H
        obtain ⟨z0,z1,z2,z3,z4,z5,y0,y1,y2,y3,y4,y5⟩:=bc6 BK756
        have p758 : 0 ≤ (x4_2 : Int):=pos_
        have q758 : x4_2 < (l0_3.length : Int):=pos_
        obtain ⟨ad758,e758,hx758_0⟩:=Kd.at_bool HR0_3.out x4_2 p758 q758
        cases e758
        replace hx758_0:=(HB.out.cell (World.block_lt_of_cell? w _ hx758_0)).trans hx758_0
        replace p758:=eq_true p758
        replace q758:=eq_true q758
        go_wp2
        go_roundg k2
        case measure => have:=HJ1.out;have:=HK2.out;omega
        case rel => exact ⟨(rdOf false l0_3 x4_2),(wrap64 (x4_2 + 1)),rfs,rfs,H',⟨by have:=HJ1.out;have:=HK2.out;omega⟩,bkA BK756,hbA HB⟩
       ·rw [if_neg c13] at H
        exact absurd H (by simp)
      ·rw [if_neg c12] at H
       have c12b0 : decide (x4_2 < (l0_3.length : Int)) = false:=decide_eq_false c12
       clear c12
       obtain rfl:=Option.some.inj H
       obtain ⟨z0,z1,z2,z3,z4,z5,y0,y1,y2,y3,y4,y5⟩:=bc6 BK756
       go_wp2
       go_ret
       exact ⟨rerr,hbx HB⟩
     ·replace c11:=Bool.eq_false_iff.mpr c11
      subst c11
      rw [if_neg (show ¬ (false = true) by decide)] at H
      obtain rfl:=Option.some.inj H
      go_wp2
      go_ret
      exact ⟨rerr,hbx HB⟩
end Go.Proofs.Ytdigplhjfjchnaa.PQ
