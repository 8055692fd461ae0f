-- Printed by fprint.py and zip.py, programs of this session's, over the kit's print; Lean checks it.
import Derived.Test.YtdigplhjfjchnaaZf16
import Derived.Test.YtdigplhjfjchnaaZa
import Derived.Test.YtdigplhjfjchnaaZ0
namespace Go.Proofs.Ytdigplhjfjchnaa.PQ
open Go.RowKit Go.Proofs.YtdigplhjfjchnaaW.PrintWords Go.Proofs.YtdigplhjfjchnaaW.PrintLast Go.Proofs.YtdigplhjfjchnaaW.PrintMore
attribute [local go_sem] max2_int min2_int max_two min_two max_three min_three max_four min_four   -- for this text's walks alone
set_option linter.unusedVariables false
set_option linter.unusedSimpArgs false
def install_Complete.j0 : Nat → ByteArray → Bool → ByteArray → ByteArray → Bool → ByteArray → Int → Int → Option (ByteArray × ByteArray × Bool × ByteArray × Int × Int × Int)
 | 0,_,_,_,_,_,_,_,_ => none
 | k + 1,x1,x13,x109000,x109001,x109002,x109003,x109004,x109005 => if x13 = true then (some ((⟨#[]⟩ : ByteArray),(⟨#[]⟩ : ByteArray),false,(⟨#[]⟩ : ByteArray),0,0,1)) else (if x109002 = true then (if x109003.toList = x1.toList then (some (x109000,x1,x109002,x109003,x109004,x109005,0)) else ((install_disarm.f x109000 x1 x109002 x109003 x109004 x109005).bind fun bt112 => (some (bt112.1,bt112.2.1,bt112.2.2.1,bt112.2.2.2.1,bt112.2.2.2.2.1,bt112.2.2.2.2.2,0)))) else (some (x109000,x1,x109002,x109003,x109004,x109005,0)))
def install_Complete.f (k : Nat) (a0_0 a0_1 : ByteArray) (a0_2 : Bool) (a0_3 : ByteArray) (a0_4 a0_5 : Int) (a1 : ByteArray) : Option (ByteArray × ByteArray × Bool × ByteArray × Int × Int × Int):=(install_Check.f k a0_0 a0_1 a0_2 a0_3 a0_4 a0_5).bind fun t110 => (if t110 = 0 then ((install_identifier.f a1).bind fun t111 => (install_Complete.j0 k a1 (!t111) a0_0 a0_1 a0_2 a0_3 a0_4 a0_5)) else (install_Complete.j0 k a1 true a0_0 a0_1 a0_2 a0_3 a0_4 a0_5))
set_option maxHeartbeats 8000000 in
set_option maxRecDepth 100000 in
theorem install_Complete.calls (k : Nat) (a0_0 a0_1 : ByteArray) (a0_2 : Bool) (a0_3 : ByteArray) (a0_4 a0_5 : Int) (a1 r1 r2 : ByteArray) (r3 : Bool) (r4 : ByteArray) (r5 r6 r7 : Int) (w : World) (h : install_Complete.f k a0_0 a0_1 a0_2 a0_3 a0_4 a0_5 a1 = some (r1,r2,r3,r4,r5,r6,r7)) :
 Calls Try.prog 12 #[.agg #[.string a0_0,.string a0_1,.bool a0_2,.string a0_3,.int .i64 a0_4,.int .i64 a0_5],.string a1] w fun e w' => e = .returned (.tuple #[.agg #[.string r1,.string r2,.bool r3,.string r4,.int .i64 r5,.int .i64 r6],.int .i64 r7]) ∧ Below w.heap.size w w':=by
 have hu28:=Try.underlying28
 have HB:=Aside0.mk (Below.refl w.heap.size w)
 have H : ((install_Check.f k a0_0 a0_1 a0_2 a0_3 a0_4 a0_5).bind fun t110 => (if t110 = 0 then ((install_identifier.f a1).bind fun t111 => (install_Complete.j0 k a1 (!t111) a0_0 a0_1 a0_2 a0_3 a0_4 a0_5)) else (install_Complete.j0 k a1 true a0_0 a0_1 a0_2 a0_3 a0_4 a0_5))) = some (r1,r2,r3,r4,r5,r6,r7):=h
 clear h
 have HC3:=Aside0.mk H
 clear H
 go_enter Try.func12,Try.ntmps12
 go_upto_region 1 with (first | ((with_reducible refine gate_dst (N:=2) rfl ?_);refine boxE 2 #[.string a0_0,.string a0_1,.bool a0_2,.string a0_3,.int .i64 a0_4,.int .i64 a0_5] 28 ?_;intro gb108 hg w4 hbox hb;have BK108:=Aside0.mk (hbox);have GW108:=gw hg HB;have GE108:=gw hg HB;replace HB:=hbS HB hb;clear hb hbox hg) | ((with_reducible refine gate_dst (N:=4) rfl ?_);refine boxE 4 #[.string (⟨#[]⟩ : ByteArray),.string (⟨#[]⟩ : ByteArray),.bool false,.string (⟨#[]⟩ : ByteArray),.int .i64 0,.int .i64 0] 28 ?_;intro gb109 hg w5 hbox hb;have BK109:=Aside0.mk (hbox);have GW109:=gw hg HB;have GE109:=gw hg HB;replace HB:=hbS HB hb;have NB108_109:=nbl hg BK108;have NB109_108:=nbg hg BK108;replace BK108:=bkB BK108 hb;clear hb hbox hg))
 (try simp only [Act.put,List.setIfInBounds_toArray,List.set_cons_zero,List.set_cons_succ])
 go_cut [13] (fun v13 wc => ∃ (kq : Nat) (x13_2 : Bool),v13 = .bool x13_2 ∧ Aside0 (install_Complete.j0 kq a1 x13_2 a0_0 a0_1 a0_2 a0_3 a0_4 a0_5 = some (r1,r2,r3,r4,r5,r6,r7)) ∧ Aside0 (kq ≤ k) ∧ Aside0 (wc.heap[gb108]? = some (.cells #[.string a0_0,.string a0_1,.bool a0_2,.string a0_3,.int .i64 a0_4,.int .i64 a0_5] 28 (0,0))) ∧ Aside0 (wc.heap[gb109]? = some (.cells #[.string (⟨#[]⟩ : ByteArray),.string (⟨#[]⟩ : ByteArray),.bool false,.string (⟨#[]⟩ : ByteArray),.int .i64 0,.int .i64 0] 28 (0,0))) ∧ Aside0 (Below w.heap.size w wc))
 case first =>
  have H:=HC3.out
  clear HC3
  replace H:=Option.bind_eq_some_iff.mp H
  obtain ⟨t110,A60,H⟩:=H
  (try dsimp only at H)
  have A6:=Aside0.mk A60
  clear A60
  by_cases c7 : t110 = 0
  ·rw [if_pos c7] at H
   have c7b0 : (t110 == 0) = true:=beq_iff_eq.mpr c7
   have c7b1 : (t110 != 0) = false:=bne_eq_false_iff_eq.mpr c7
   clear c7
   (first | rw [c7b0] | (simp only [i64_w,i32_w];rw [c7b0]) | skip)
   replace H:=Option.bind_eq_some_iff.mp H
   obtain ⟨t111,A80,H⟩:=H
   (try dsimp only at H)
   have A8:=Aside0.mk A80
   clear A80
   have H':=Aside0.mk H
   clear H
   have hnb9:=NB108_109.out
   have hnc9:=NB109_108.out
   obtain ⟨z0,z1,z2,z3,z4,z5,y0,y1,y2,y3,y4,y5⟩:=bc6 BK108
   go_wp2_with (first | ((with_reducible refine gate_callee (f:=16) rfl ?_);refine goesL_ (some 7) rfl rfl Try.func16 (by kernel_rfl) rfl #[.agg #[.string a0_0,.string a0_1,.bool a0_2,.string a0_3,.int .i64 a0_4,.int .i64 a0_5]] rfl sma ?_;(with_reducible refine (install_Check.calls k a0_0 a0_1 a0_2 a0_3 a0_4 a0_5 t110 _ A6.out).mono ?_);rintro e w11 ⟨rfl,hb⟩;refine ⟨_,rfl,?_⟩;replace BK108:=bkB BK108 hb;replace BK109:=bkB BK109 hb;replace HB:=hbS HB hb;(try clear hb);(try clear hb2);(try clear hk);(try clear hi)) | (go_at_call 42;(with_reducible refine (install_identifier.calls a1 t111 _ A8.out).mono ?_);rintro e w' ⟨rfl,⟨nd,rfl⟩⟩))
   go_meet
   case rel => exact ⟨_,(!t111),rfs,H',kle,bkA BK108,bkA BK109,hbA HB⟩
  ·rw [if_neg c7] at H
   have c7b0 : (t110 == 0) = false:=beq_eq_false_iff_ne.mpr c7
   have c7b1 : (t110 != 0) = true:=bne_iff_ne.mpr c7
   (first | rw [c7b0] | (simp only [i64_w,i32_w];rw [c7b0]) | skip)
   have H':=Aside0.mk H
   clear H
   have hnb12:=NB108_109.out
   have hnc12:=NB109_108.out
   obtain ⟨z0,z1,z2,z3,z4,z5,y0,y1,y2,y3,y4,y5⟩:=bc6 BK108
   go_wp2_with (first | ((with_reducible refine gate_callee (f:=16) rfl ?_);refine goesL_ (some 7) rfl rfl Try.func16 (by kernel_rfl) rfl #[.agg #[.string a0_0,.string a0_1,.bool a0_2,.string a0_3,.int .i64 a0_4,.int .i64 a0_5]] rfl sma ?_;(with_reducible refine (install_Check.calls k a0_0 a0_1 a0_2 a0_3 a0_4 a0_5 t110 _ A6.out).mono ?_);rintro e w14 ⟨rfl,hb⟩;refine ⟨_,rfl,?_⟩;replace BK108:=bkB BK108 hb;replace BK109:=bkB BK109 hb;replace HB:=hbS HB hb;(try clear hb);(try clear hb2);(try clear hk);(try clear hi)))
   go_meet
   case rel => exact ⟨_,(true),rfs,H',kle,bkA BK108,bkA BK109,hbA HB⟩
 case rest =>
  clear HC3
  obtain ⟨kq,x13_2,rfl,HA,HJ2,BK108,BK109,HB⟩:=hcut
  cases kq with
  | zero => exact absurd HA.out (by simp [install_Complete.j0])
  | succ kj2 =>
   have H:=HA.out
   clear HA
   simp only [install_Complete.j0] at H
   by_cases c15 : x13_2 = true
   ·subst c15
    rw [if_pos rfl] at H
    simp only [Option.some.injEq,Prod.mk.injEq] at H
    obtain ⟨rfl,rfl,rfl,rfl,rfl,rfl,rfl⟩:=H
    have hnb16:=NB109_108.out
    have hnc16:=NB108_109.out
    obtain ⟨z0,z1,z2,z3,z4,z5,y0,y1,y2,y3,y4,y5⟩:=bc6 BK109
    go_wp2
    refine bodyPost_ret (results_ct rfl _ _ gb109 28 #[.string (⟨#[]⟩ : ByteArray),.string (⟨#[]⟩ : ByteArray),.bool false,.string (⟨#[]⟩ : ByteArray),.int .i64 0,.int .i64 0] (0,0) _ rfl (bkp BK109) Try.underlying28 rfl (by kernel_rfl)) rfl ?_
    exact ⟨rerr,hbx HB⟩
   ·replace c15:=Bool.eq_false_iff.mpr c15
    subst c15
    rw [if_neg (show ¬ (false = true) by decide)] at H
    by_cases c18 : a0_2 = true
    ·subst c18
     rw [if_pos rfl] at H
     by_cases c19 : a0_3.toList = a1.toList
     ·rw [if_pos c19] at H
      have c19b0 : (a0_3.toList == a1.toList) = true:=beq_iff_eq.mpr c19
      have c19b1 : (a0_3.toList != a1.toList) = false:=bne_eq_false_iff_eq.mpr c19
      clear c19
      simp only [Option.some.injEq,Prod.mk.injEq] at H
      obtain ⟨rfl,rfl,rfl,rfl,rfl,rfl,rfl⟩:=H
      have hnb20:=NB108_109.out
      have hnc20:=NB109_108.out
      obtain ⟨z0,z1,z2,z3,z4,z5,y0,y1,y2,y3,y4,y5⟩:=bc6 BK108
      obtain ⟨z0,z1,z2,z3,z4,z5,y0,y1,y2,y3,y4,y5⟩:=bc6 BK109
      go_wp2
      refine bodyPost_ret (results_ct rfl _ _ gb109 28 #[.string a0_0,.string a1,.bool true,.string a0_3,.int .i64 a0_4,.int .i64 a0_5] (0,0) _ rfl (bkp BK109) Try.underlying28 rfl (by kernel_rfl)) rfl ?_
      exact ⟨rerr,hbx HB⟩
     ·rw [if_neg c19] at H
      have c19b0 : (a0_3.toList == a1.toList) = false:=beq_eq_false_iff_ne.mpr c19
      have c19b1 : (a0_3.toList != a1.toList) = true:=bne_iff_ne.mpr c19
      replace H:=Option.bind_eq_some_iff.mp H
      obtain ⟨⟨t112,t113,t114,t115,t116,t117⟩,A230,H⟩:=H
      (try dsimp only at H)
      have A23:=Aside0.mk A230
      clear A230
      simp only [Option.some.injEq,Prod.mk.injEq] at H
      obtain ⟨rfl,rfl,rfl,rfl,rfl,rfl,rfl⟩:=H
      have hnb24:=NB108_109.out
      have hnc24:=NB109_108.out
      obtain ⟨z0,z1,z2,z3,z4,z5,y0,y1,y2,y3,y4,y5⟩:=bc6 BK108
      go_wp2_with (first | ((with_reducible refine gate_callee (f:=43) rfl ?_);refine goesL_ (some 26) rfl rfl Try.func43 (by kernel_rfl) rfl #[.agg #[.string a0_0,.string a1,.bool true,.string a0_3,.int .i64 a0_4,.int .i64 a0_5]] rfl sma ?_;(with_reducible refine (install_disarm.calls a0_0 a1 true a0_3 a0_4 a0_5 t112 t113 t114 t115 t116 t117 _ A23.out).mono ?_);rintro e w26 ⟨rfl,hb⟩;refine ⟨_,rfl,?_⟩;replace BK108:=Aside0.mk (blk_below (o:=.cells #[.string a0_0,.string a1,.bool true,.string a0_3,.int .i64 a0_4,.int .i64 a0_5] 28 (0,0)) (bkp BK108) hb);replace BK109:=bkfB BK109 hb;replace HB:=hbS HB hb;(try clear hb);(try clear hb2);(try clear hk);(try clear hi);obtain ⟨z0,z1,z2,z3,z4,z5,y0,y1,y2,y3,y4,y5⟩:=bc6 BK108;obtain ⟨z0,z1,z2,z3,z4,z5,y0,y1,y2,y3,y4,y5⟩:=bc6 BK109))
      refine bodyPost_ret (results_ct rfl _ _ gb109 28 #[.string t112,.string t113,.bool t114,.string t115,.int .i64 t116,.int .i64 t117] (0,0) _ rfl (bkp BK109) Try.underlying28 rfl (by kernel_rfl)) rfl ?_
      exact ⟨rerr,hbx HB⟩
    ·replace c18:=Bool.eq_false_iff.mpr c18
     subst c18
     rw [if_neg (show ¬ (false = true) by decide)] at H
     simp only [Option.some.injEq,Prod.mk.injEq] at H
     obtain ⟨rfl,rfl,rfl,rfl,rfl,rfl,rfl⟩:=H
     have hnb29:=NB108_109.out
     have hnc29:=NB109_108.out
     obtain ⟨z0,z1,z2,z3,z4,z5,y0,y1,y2,y3,y4,y5⟩:=bc6 BK108
     obtain ⟨z0,z1,z2,z3,z4,z5,y0,y1,y2,y3,y4,y5⟩:=bc6 BK109
     go_wp2
     refine bodyPost_ret (results_ct rfl _ _ gb109 28 #[.string a0_0,.string a1,.bool false,.string a0_3,.int .i64 a0_4,.int .i64 a0_5] (0,0) _ rfl (bkp BK109) Try.underlying28 rfl (by kernel_rfl)) rfl ?_
     exact ⟨rerr,hbx HB⟩
end Go.Proofs.Ytdigplhjfjchnaa.PQ
namespace Go.Proofs.Ytdigplhjfjchnaa.PQ
open Go.RowKit Go.Proofs.YtdigplhjfjchnaaW.PrintWords Go.Proofs.YtdigplhjfjchnaaW.PrintLast Go.Proofs.YtdigplhjfjchnaaW.PrintMore
attribute [local go_sem] max2_int min2_int max_two min_two max_three min_three max_four min_four   -- for this text's walks alone
set_option linter.unusedVariables false
set_option linter.unusedSimpArgs false
def install_list.l0 : Nat → List Int → List Int → Int → Int → Option (Bool)
 | 0,_,_,_,_ => none
 | k + 1,x0,x5,x6,x7 => if x7 < x6 then (if 0 ≤ x7 then (if x7 < (x5.length : Int) then (if (rd x5 x7) < 0 then (some false) else (if (rd x5 x7) ≥ 32 then (some false) else (if x7 > 0 then (if 0 ≤ (wrap64 (x7 - 1)) then (if (wrap64 (x7 - 1)) < (x0.length : Int) then (if (rd x0 (wrap64 (x7 - 1))) ≥ (rd x5 x7) then (some false) else (install_list.l0 k x0 x5 x6 (wrap64 (x7 + 1)))) else (none)) else (none)) else (install_list.l0 k x0 x5 x6 (wrap64 (x7 + 1)))))) else (none)) else (none)) else (some (decide ((x0.length : Int) > 0)))
def install_list.f (k : Nat) (l0 : List Int) : Option (Bool):=install_list.l0 k l0 l0 (l0.length : Int) 0
set_option maxHeartbeats 8000000 in
set_option maxRecDepth 100000 in
theorem install_list.calls (k : Nat) (A0 : Option Addr) (c0 : Nat) (l0 : List Int) (r : Bool) (w : World) (hr0 : Kd.C (Kd.int .i64) w A0 l0.length l0) (hc0 : l0.length ≤ c0) (h : install_list.f k l0 = some r) :
 Calls Try.prog 51 #[.slice A0 l0.length c0] w fun e w' => e = .returned (.bool r) ∧ Drawn0 w w':=by
 have HR0:=Aside0.mk hr0
 have HC0:=Aside0.mk hc0
 clear hr0 hc0
 have H : (install_list.l0 k l0 l0 (l0.length : Int) 0) = some r:=h
 clear h
 have H':=Aside0.mk H
 clear H
 go_enter Try.func51,Try.ntmps51
 go_wp2
 go_loopg [7] k (fun kq v7 w' => ∃ (x7_1 : Int),v7 = .int .i64 x7_1 ∧ Aside0 (install_list.l0 kq l0 l0 (l0.length : Int) x7_1 = some r) ∧ Aside0 (kq ≤ k) ∧ Drawn0 w w')
 case atStart => exact ⟨(0),rfs,H',⟨Nat.le_refl _⟩,by repeat (first | exact Drawn0.refl _ | apply Drawn0.step)⟩
 case round =>
  clear H'
  obtain ⟨x7_1,rfl,HA,HK1,⟨m1,rfl⟩⟩:=hrel
  cases gk with
  | zero => exact absurd HA.out (by simp [install_list.l0])
  | succ k1 =>
   have H:=HA.out
   clear HA
   simp only [install_list.l0] at H
   by_cases c2 : x7_1 < (l0.length : Int)
   ·rw [if_pos c2] at H
    have c2b0 : decide (x7_1 < (l0.length : Int)) = true:=decide_eq_true c2
    clear c2
    by_cases c3 : 0 ≤ x7_1
    ·rw [if_pos c3] at H
     have c3b0 : decide (0 ≤ x7_1) = true:=decide_eq_true c3
     clear c3
     by_cases c4 : x7_1 < (l0.length : Int)
     ·rw [if_pos c4] at H
      have c4b0 : decide (x7_1 < (l0.length : Int)) = true:=decide_eq_true c4
      clear c4
      by_cases c5 : (rd l0 x7_1) < 0
      ·rw [if_pos c5] at H
       have c5b0 : decide ((rd l0 x7_1) < 0) = true:=decide_eq_true c5
       clear c5
       obtain rfl:=Option.some.inj H
       have p118 : 0 ≤ (x7_1 : Int):=pos_
       have q118 : x7_1 < (l0.length : Int):=pos_
       obtain ⟨ad118,e118,hx118_0⟩:=Kd.at_int HR0.out x7_1 p118 q118
       cases e118
       replace p118:=eq_true p118
       replace q118:=eq_true q118
       go_wp2
       go_ret
       exact ⟨by first | rfl | (simp;done) | (simp [*];done),by repeat (first | exact Drawn0.refl _ | apply Drawn0.step)⟩
      ·rw [if_neg c5] at H
       have c5b0 : decide ((rd l0 x7_1) < 0) = false:=decide_eq_false c5
       clear c5
       by_cases c6 : (rd l0 x7_1) ≥ 32
       ·rw [if_pos c6] at H
        have c6b0 : decide (32 ≤ (rd l0 x7_1)) = true:=decide_eq_true c6
        clear c6
        obtain rfl:=Option.some.inj H
        have p118 : 0 ≤ (x7_1 : Int):=pos_
        have q118 : x7_1 < (l0.length : Int):=pos_
        obtain ⟨ad118,e118,hx118_0⟩:=Kd.at_int HR0.out x7_1 p118 q118
        cases e118
        replace p118:=eq_true p118
        replace q118:=eq_true q118
        go_wp2
        go_ret
        exact ⟨by first | rfl | (simp;done) | (simp [*];done),by repeat (first | exact Drawn0.refl _ | apply Drawn0.step)⟩
       ·rw [if_neg c6] at H
        have c6b0 : decide (32 ≤ (rd l0 x7_1)) = false:=decide_eq_false c6
        clear c6
        by_cases c7 : x7_1 > 0
        ·rw [if_pos c7] at H
         have c7b0 : decide (0 < x7_1) = true:=decide_eq_true c7
         clear c7
         obtain ⟨ji8,hji8⟩ : ∃ j_ : Int,(wrap64 (x7_1 - 1)) = j_:=⟨_,rfl⟩
         replace H : (if 0 ≤ (ji8) then (if (ji8) < (l0.length : Int) then (if (rd l0 (ji8)) ≥ (rd l0 x7_1) then (some false) else (install_list.l0 k1 l0 l0 (l0.length : Int) (wrap64 (x7_1 + 1)))) else (none)) else (none)) = some r:=by first | (rw [hji8] at H;exact H) | (simp only [hji8] at H ⊢;exact H)
         have hji8w : (IntKind.i64.wrap (x7_1 - 1)) = ji8:=(i64_w _).trans hji8
         by_cases c9 : 0 ≤ (ji8)
         ·rw [if_pos c9] at H
          have c9b0 : decide (0 ≤ (ji8)) = true:=decide_eq_true c9
          clear c9
          by_cases c10 : (ji8) < (l0.length : Int)
          ·rw [if_pos c10] at H
           have c10b0 : decide ((ji8) < (l0.length : Int)) = true:=decide_eq_true c10
           clear c10
           by_cases c11 : (rd l0 (ji8)) ≥ (rd l0 x7_1)
           ·rw [if_pos c11] at H
            have c11b0 : decide ((rd l0 x7_1) ≤ (rd l0 (ji8))) = true:=decide_eq_true c11
            clear c11
            obtain rfl:=Option.some.inj H
            have p118 : 0 ≤ (x7_1 : Int):=pos_
            have q118 : x7_1 < (l0.length : Int):=pos_
            obtain ⟨ad118,e118,hx118_0⟩:=Kd.at_int HR0.out x7_1 p118 q118
            cases e118
            replace p118:=eq_true p118
            replace q118:=eq_true q118
            have p119 : 0 ≤ ((ji8) : Int):=pos_
            have q119 : (ji8) < (l0.length : Int):=pos_
            obtain ⟨ad119,e119,hx119_0⟩:=Kd.at_int HR0.out (ji8) p119 q119
            obtain rfl : ad118 = ad119:=(by injection e119)
            replace p119:=eq_true p119
            replace q119:=eq_true q119
            go_wp2
            go_ret
            exact ⟨by first | rfl | (simp;done) | (simp only [← hji8] <;> (first | rfl | simp)) | (simp [*];done),by repeat (first | exact Drawn0.refl _ | apply Drawn0.step)⟩
           ·rw [if_neg c11] at H
            have c11b0 : decide ((rd l0 x7_1) ≤ (rd l0 (ji8))) = false:=decide_eq_false c11
            clear c11
            have H':=Aside0.mk H
            clear H
            have p118 : 0 ≤ (x7_1 : Int):=pos_
            have q118 : x7_1 < (l0.length : Int):=pos_
            obtain ⟨ad118,e118,hx118_0⟩:=Kd.at_int HR0.out x7_1 p118 q118
            cases e118
            replace p118:=eq_true p118
            replace q118:=eq_true q118
            have p119 : 0 ≤ ((ji8) : Int):=pos_
            have q119 : (ji8) < (l0.length : Int):=pos_
            obtain ⟨ad119,e119,hx119_0⟩:=Kd.at_int HR0.out (ji8) p119 q119
            obtain rfl : ad118 = ad119:=(by injection e119)
            replace p119:=eq_true p119
            replace q119:=eq_true q119
            go_wp2
            go_roundg k1
            case measure => have:=HK1.out;omega
            case rel => exact ⟨(wrap64 (x7_1 + 1)),rfs,H',⟨by have:=HK1.out;omega⟩,by repeat (first | exact Drawn0.refl _ | apply Drawn0.step)⟩
          ·rw [if_neg c10] at H
           exact absurd H (by simp)
         ·rw [if_neg c9] at H
          exact absurd H (by simp)
        ·rw [if_neg c7] at H
         have c7b0 : decide (0 < x7_1) = false:=decide_eq_false c7
         clear c7
         have H':=Aside0.mk H
         clear H
         have p118 : 0 ≤ (x7_1 : Int):=pos_
         have q118 : x7_1 < (l0.length : Int):=pos_
         obtain ⟨ad118,e118,hx118_0⟩:=Kd.at_int HR0.out x7_1 p118 q118
         cases e118
         replace p118:=eq_true p118
         replace q118:=eq_true q118
         go_wp2
         go_roundg k1
         case measure => have:=HK1.out;omega
         case rel => exact ⟨(wrap64 (x7_1 + 1)),rfs,H',⟨by have:=HK1.out;omega⟩,by repeat (first | exact Drawn0.refl _ | apply Drawn0.step)⟩
     ·rw [if_neg c4] at H
      exact absurd H (by simp)
    ·rw [if_neg c3] at H
     exact absurd H (by simp)
   ·rw [if_neg c2] at H
    have c2b0 : decide (x7_1 < (l0.length : Int)) = false:=decide_eq_false c2
    clear c2
    obtain rfl:=Option.some.inj H
    go_wp2
    go_ret
    exact ⟨by first | rfl | (simp;done) | (simp [*];done),by repeat (first | exact Drawn0.refl _ | apply Drawn0.step)⟩
end Go.Proofs.Ytdigplhjfjchnaa.PQ
namespace Go.Proofs.Ytdigplhjfjchnaa.PQ
open Go.RowKit Go.Proofs.YtdigplhjfjchnaaW.PrintWords Go.Proofs.YtdigplhjfjchnaaW.PrintLast Go.Proofs.YtdigplhjfjchnaaW.PrintMore
attribute [local go_sem] max2_int min2_int max_two min_two max_three min_three max_four min_four   -- for this text's walks alone
set_option linter.unusedVariables false
set_option linter.unusedSimpArgs false
def install_command.j0 : Nat → Bool → Int → Int → Int → ByteArray → List Int → Option (Bool)
 | 0,_,_,_,_,_,_ => none
 | k + 1,x22,x121000,x121001,x121002,x121003,x121004 => if x22 = true then (some false) else (if x121001 = 1 then (if x121002 ≥ 1 then (some (decide (x121002 ≤ 1073741824))) else (some false)) else (if x121001 = 2 then (some (x121002 == 0)) else (some false)))
def install_command.f (k : Nat) (a0_0 a0_1 a0_2 : Int) (a0_3 : ByteArray) (l0_4 : List Int) : Option (Bool):=if a0_0 < 1 then (install_command.j0 k true a0_0 a0_1 a0_2 a0_3 l0_4) else (if a0_0 > 1048576 then (install_command.j0 k true a0_0 a0_1 a0_2 a0_3 l0_4) else ((install_identifier.f a0_3).bind fun t121 => (if t121 = true then ((install_list.f k l0_4).bind fun t122 => (install_command.j0 k (!t122) a0_0 a0_1 a0_2 a0_3 l0_4)) else (install_command.j0 k true a0_0 a0_1 a0_2 a0_3 l0_4))))
set_option maxHeartbeats 8000000 in
set_option maxRecDepth 100000 in
theorem install_command.calls (k : Nat) (a0_0 a0_1 a0_2 : Int) (a0_3 : ByteArray) (A0_4 : Option Addr) (c0_4 : Nat) (l0_4 : List Int) (r : Bool) (w : World) (hr0_4 : Kd.C (Kd.int .i64) w A0_4 l0_4.length l0_4) (hc0_4 : l0_4.length ≤ c0_4) (h : install_command.f k a0_0 a0_1 a0_2 a0_3 l0_4 = some r) :
 Calls Try.prog 44 #[.agg #[.int .i64 a0_0,.int .i64 a0_1,.int .i64 a0_2,.string a0_3,.slice A0_4 l0_4.length c0_4]] w fun e w' => e = .returned (.bool r) ∧ Below w.heap.size w w':=by
 have hu36:=Try.underlying36
 have HR0_4:=Aside0.mk hr0_4
 have HC0_4:=Aside0.mk hc0_4
 clear hr0_4 hc0_4
 have HB:=Aside0.mk (Below.refl w.heap.size w)
 have H : (if a0_0 < 1 then (install_command.j0 k true a0_0 a0_1 a0_2 a0_3 l0_4) else (if a0_0 > 1048576 then (install_command.j0 k true a0_0 a0_1 a0_2 a0_3 l0_4) else ((install_identifier.f a0_3).bind fun t121 => (if t121 = true then ((install_list.f k l0_4).bind fun t122 => (install_command.j0 k (!t122) a0_0 a0_1 a0_2 a0_3 l0_4)) else (install_command.j0 k true a0_0 a0_1 a0_2 a0_3 l0_4))))) = some r:=h
 clear h
 have HC2:=Aside0.mk H
 clear H
 go_enter Try.func44,Try.ntmps44
 go_upto_region 1 with (first | ((with_reducible refine gate_dst (N:=1) rfl ?_);refine boxE 1 #[.int .i64 a0_0,.int .i64 a0_1,.int .i64 a0_2,.string a0_3,.slice A0_4 l0_4.length c0_4] 36 ?_;intro gb120 hg w3 hbox hb;have BK120:=Aside0.mk (hbox);have GW120:=gw hg HB;have GE120:=gw hg HB;replace HB:=hbS HB hb;clear hb hbox hg))
 (try simp only [Act.put,List.setIfInBounds_toArray,List.set_cons_zero,List.set_cons_succ])
 go_cut [22] (fun v22 wc => ∃ (kq : Nat) (x22_1 : Bool),v22 = .bool x22_1 ∧ Aside0 (install_command.j0 kq x22_1 a0_0 a0_1 a0_2 a0_3 l0_4 = some r) ∧ Aside0 (kq ≤ k) ∧ Aside0 (wc.heap[gb120]? = some (.cells #[.int .i64 a0_0,.int .i64 a0_1,.int .i64 a0_2,.string a0_3,(.slice A0_4 l0_4.length c0_4)] 36 (0,0))) ∧ Aside0 (Below w.heap.size w wc))
 case first =>
  have H:=HC2.out
  clear HC2
  by_cases c4 : a0_0 < 1
  ·rw [if_pos c4] at H
   have c4b0 : decide (a0_0 < 1) = true:=decide_eq_true c4
   clear c4
   (first | rw [c4b0] | (simp only [i64_w,i32_w];rw [c4b0]) | skip)
   have H':=Aside0.mk H
   clear H
   obtain ⟨z0,z1,z2,z3,z4,y0,y1,y2,y3,y4⟩:=bc5 BK120
   go_wp2
   go_meet
   case rel => exact ⟨_,(true),rfs,H',kle,bkA BK120,hbA HB⟩
  ·rw [if_neg c4] at H
   have c4b0 : decide (a0_0 < 1) = false:=decide_eq_false c4
   clear c4
   (first | rw [c4b0] | (simp only [i64_w,i32_w];rw [c4b0]) | skip)
   by_cases c6 : a0_0 > 1048576
   ·rw [if_pos c6] at H
    have c6b0 : decide (1048576 < a0_0) = true:=decide_eq_true c6
    clear c6
    have H':=Aside0.mk H
    clear H
    obtain ⟨z0,z1,z2,z3,z4,y0,y1,y2,y3,y4⟩:=bc5 BK120
    go_wp2
    go_meet
    case rel => exact ⟨_,(true),rfs,H',kle,bkA BK120,hbA HB⟩
   ·rw [if_neg c6] at H
    have c6b0 : decide (1048576 < a0_0) = false:=decide_eq_false c6
    clear c6
    replace H:=Option.bind_eq_some_iff.mp H
    obtain ⟨t121,A80,H⟩:=H
    (try dsimp only at H)
    have A8:=Aside0.mk A80
    clear A80
    by_cases c9 : t121 = true
    ·subst c9
     rw [if_pos rfl] at H
     replace H:=Option.bind_eq_some_iff.mp H
     obtain ⟨t122,A100,H⟩:=H
     (try dsimp only at H)
     have A10:=Aside0.mk A100
     clear A100
     have H':=Aside0.mk H
     clear H
     obtain ⟨z0,z1,z2,z3,z4,y0,y1,y2,y3,y4⟩:=bc5 BK120
     go_wp2_with (first | (go_at_call 42;(with_reducible refine (install_identifier.calls a0_3 true _ A8.out).mono ?_);rintro e w' ⟨rfl,⟨nd,rfl⟩⟩) | (go_at_call 51;(with_reducible refine (install_list.calls k _ _ l0_4 t122 _ ?side1 HC0_4.out A10.out).mono ?_);(case side1 => repeat (first | exact (Kd.C_below HR0_4.out (hbx HB)) | (with_reducible refine Kd.C_alloc ?_ _) | (with_reducible refine Kd.C_drewN ?_ _) | (with_reducible refine Kd.C_drew ?_)));rintro e w' ⟨rfl,⟨nd,rfl⟩⟩))
     go_meet
     case rel => exact ⟨_,(!t122),rfs,H',kle,bkA BK120,hbA HB⟩
    ·replace c9:=Bool.eq_false_iff.mpr c9
     subst c9
     rw [if_neg (show ¬ (false = true) by decide)] at H
     have H':=Aside0.mk H
     clear H
     obtain ⟨z0,z1,z2,z3,z4,y0,y1,y2,y3,y4⟩:=bc5 BK120
     go_wp2_with (first | (go_at_call 42;(with_reducible refine (install_identifier.calls a0_3 false _ A8.out).mono ?_);rintro e w' ⟨rfl,⟨nd,rfl⟩⟩))
     go_meet
     case rel => exact ⟨_,(true),rfs,H',kle,bkA BK120,hbA HB⟩
 case rest =>
  clear HC2
  obtain ⟨kq,x22_1,rfl,HA,HJ1,BK120,HB⟩:=hcut
  cases kq with
  | zero => exact absurd HA.out (by simp [install_command.j0])
  | succ kj1 =>
   have H:=HA.out
   clear HA
   simp only [install_command.j0] at H
   by_cases c13 : x22_1 = true
   ·subst c13
    rw [if_pos rfl] at H
    obtain rfl:=Option.some.inj H
    go_wp2
    go_ret
    exact ⟨rerr,hbx HB⟩
   ·replace c13:=Bool.eq_false_iff.mpr c13
    subst c13
    rw [if_neg (show ¬ (false = true) by decide)] at H
    by_cases c14 : a0_1 = 1
    ·rw [if_pos c14] at H
     have c14b0 : (a0_1 == 1) = true:=beq_iff_eq.mpr c14
     have c14b1 : (a0_1 != 1) = false:=bne_eq_false_iff_eq.mpr c14
     clear c14
     by_cases c15 : a0_2 ≥ 1
     ·rw [if_pos c15] at H
      have c15b0 : decide (1 ≤ a0_2) = true:=decide_eq_true c15
      clear c15
      obtain rfl:=Option.some.inj H
      obtain ⟨z0,z1,z2,z3,z4,y0,y1,y2,y3,y4⟩:=bc5 BK120
      go_wp2
      go_ret
      exact ⟨rerr,hbx HB⟩
     ·rw [if_neg c15] at H
      have c15b0 : decide (1 ≤ a0_2) = false:=decide_eq_false c15
      clear c15
      obtain rfl:=Option.some.inj H
      obtain ⟨z0,z1,z2,z3,z4,y0,y1,y2,y3,y4⟩:=bc5 BK120
      go_wp2
      go_ret
      exact ⟨rerr,hbx HB⟩
    ·rw [if_neg c14] at H
     have c14b0 : (a0_1 == 1) = false:=beq_eq_false_iff_ne.mpr c14
     have c14b1 : (a0_1 != 1) = true:=bne_iff_ne.mpr c14
     by_cases c18 : a0_1 = 2
     ·rw [if_pos c18] at H
      have c18b0 : (a0_1 == 2) = true:=beq_iff_eq.mpr c18
      have c18b1 : (a0_1 != 2) = false:=bne_eq_false_iff_eq.mpr c18
      clear c18
      obtain rfl:=Option.some.inj H
      obtain ⟨z0,z1,z2,z3,z4,y0,y1,y2,y3,y4⟩:=bc5 BK120
      go_wp2
      go_ret
      exact ⟨rerr,hbx HB⟩
     ·rw [if_neg c18] at H
      have c18b0 : (a0_1 == 2) = false:=beq_eq_false_iff_ne.mpr c18
      have c18b1 : (a0_1 != 2) = true:=bne_iff_ne.mpr c18
      obtain rfl:=Option.some.inj H
      obtain ⟨z0,z1,z2,z3,z4,y0,y1,y2,y3,y4⟩:=bc5 BK120
      go_wp2
      go_ret
      exact ⟨rerr,hbx HB⟩
end Go.Proofs.Ytdigplhjfjchnaa.PQ
namespace Go.Proofs.Ytdigplhjfjchnaa.PQ
open Go.RowKit Go.Proofs.YtdigplhjfjchnaaW.PrintWords Go.Proofs.YtdigplhjfjchnaaW.PrintLast Go.Proofs.YtdigplhjfjchnaaW.PrintMore
attribute [local go_sem] max2_int min2_int max_two min_two max_three min_three max_four min_four   -- for this text's walks alone
set_option linter.unusedVariables false
set_option linter.unusedSimpArgs false
def hopmeshref49_SameCommand.f (k : Nat) (a0_0 a0_1 a0_2 : Int) (a0_3 : ByteArray) (l0_4 : List Int) (a1_0 a1_1 a1_2 : Int) (a1_3 : ByteArray) (l1_4 : List Int) : Option (Bool):=if a0_0 = a1_0 then (if a0_1 = a1_1 then (if a0_2 = a1_2 then (if a0_3.toList = a1_3.toList then ((hopmeshref49_ints.f k l0_4 l1_4).bind fun t684 => (some t684)) else (some false)) else (some false)) else (some false)) else (some false)
set_option maxHeartbeats 8000000 in
set_option maxRecDepth 100000 in
theorem hopmeshref49_SameCommand.calls (k : Nat) (a0_0 a0_1 a0_2 : Int) (a0_3 : ByteArray) (A0_4 : Option Addr) (c0_4 : Nat) (l0_4 : List Int) (a1_0 a1_1 a1_2 : Int) (a1_3 : ByteArray) (A1_4 : Option Addr) (c1_4 : Nat) (l1_4 : List Int) (r : Bool) (w : World) (hr0_4 : Kd.C (Kd.int .i64) w A0_4 l0_4.length l0_4) (hc0_4 : l0_4.length ≤ c0_4) (hr1_4 : Kd.C (Kd.int .i64) w A1_4 l1_4.length l1_4) (hc1_4 : l1_4.length ≤ c1_4) (h : hopmeshref49_SameCommand.f k a0_0 a0_1 a0_2 a0_3 l0_4 a1_0 a1_1 a1_2 a1_3 l1_4 = some r) :
 Calls Try.prog 28 #[.agg #[.int .i64 a0_0,.int .i64 a0_1,.int .i64 a0_2,.string a0_3,.slice A0_4 l0_4.length c0_4],.agg #[.int .i64 a1_0,.int .i64 a1_1,.int .i64 a1_2,.string a1_3,.slice A1_4 l1_4.length c1_4]] w fun e w' => e = .returned (.bool r) ∧ Below w.heap.size w w':=by
 have hu36:=Try.underlying36
 have HR0_4:=Aside0.mk hr0_4
 have HC0_4:=Aside0.mk hc0_4
 clear hr0_4 hc0_4
 have HR1_4:=Aside0.mk hr1_4
 have HC1_4:=Aside0.mk hc1_4
 clear hr1_4 hc1_4
 have HB:=Aside0.mk (Below.refl w.heap.size w)
 have H : (if a0_0 = a1_0 then (if a0_1 = a1_1 then (if a0_2 = a1_2 then (if a0_3.toList = a1_3.toList then ((hopmeshref49_ints.f k l0_4 l1_4).bind fun t684 => (some t684)) else (some false)) else (some false)) else (some false)) else (some false)) = some r:=h
 clear h
 by_cases c3 : a0_0 = a1_0
 ·rw [if_pos c3] at H
  have c3b0 : (a0_0 == a1_0) = true:=beq_iff_eq.mpr c3
  have c3b1 : (a0_0 != a1_0) = false:=bne_eq_false_iff_eq.mpr c3
  clear c3
  by_cases c4 : a0_1 = a1_1
  ·rw [if_pos c4] at H
   have c4b0 : (a0_1 == a1_1) = true:=beq_iff_eq.mpr c4
   have c4b1 : (a0_1 != a1_1) = false:=bne_eq_false_iff_eq.mpr c4
   clear c4
   by_cases c5 : a0_2 = a1_2
   ·rw [if_pos c5] at H
    have c5b0 : (a0_2 == a1_2) = true:=beq_iff_eq.mpr c5
    have c5b1 : (a0_2 != a1_2) = false:=bne_eq_false_iff_eq.mpr c5
    clear c5
    by_cases c6 : a0_3.toList = a1_3.toList
    ·rw [if_pos c6] at H
     have c6b0 : (a0_3.toList == a1_3.toList) = true:=beq_iff_eq.mpr c6
     have c6b1 : (a0_3.toList != a1_3.toList) = false:=bne_eq_false_iff_eq.mpr c6
     clear c6
     replace H:=Option.bind_eq_some_iff.mp H
     obtain ⟨t684,A70,H⟩:=H
     (try dsimp only at H)
     have A7:=Aside0.mk A70
     clear A70
     obtain rfl:=Option.some.inj H
     go_enter Try.func28,Try.ntmps28
     go_wp2_with (first | ((with_reducible refine gate_dst (N:=2) rfl ?_);refine boxE 2 #[.int .i64 a0_0,.int .i64 a0_1,.int .i64 a0_2,.string a0_3,.slice A0_4 l0_4.length c0_4] 36 ?_;intro gb682 hg w8 hbox hb;have BK682:=Aside0.mk (hbox);have GW682:=gw hg HB;have GE682:=gw hg HB;replace HB:=hbS HB hb;clear hb hbox hg) | ((with_reducible refine gate_dst (N:=3) rfl ?_);refine boxE 3 #[.int .i64 a1_0,.int .i64 a1_1,.int .i64 a1_2,.string a1_3,.slice A1_4 l1_4.length c1_4] 36 ?_;intro gb683 hg w9 hbox hb;have BK683:=Aside0.mk (hbox);have GW683:=gw hg HB;have GE683:=gw hg HB;replace HB:=hbS HB hb;have NB682_683:=nbl hg BK682;have NB683_682:=nbg hg BK682;replace BK682:=bkB BK682 hb;clear hb hbox hg;have hnb10:=NB682_683.out;have hnc10:=NB683_682.out;obtain ⟨z0,z1,z2,z3,z4,y0,y1,y2,y3,y4⟩:=bc5 BK682;obtain ⟨z0,z1,z2,z3,z4,y0,y1,y2,y3,y4⟩:=bc5 BK683) | (go_at_call 61;(with_reducible refine (hopmeshref49_ints.calls k _ _ l0_4 _ _ l1_4 t684 _ (cb HR0_4 HB) HC0_4.out (cb HR1_4 HB) HC1_4.out A7.out).mono ?_);rintro e w' ⟨rfl,⟨nd,rfl⟩⟩))
     go_ret
     exact ⟨rerr,hbx HB⟩
    ·rw [if_neg c6] at H
     have c6b0 : (a0_3.toList == a1_3.toList) = false:=beq_eq_false_iff_ne.mpr c6
     have c6b1 : (a0_3.toList != a1_3.toList) = true:=bne_iff_ne.mpr c6
     obtain rfl:=Option.some.inj H
     go_enter Try.func28,Try.ntmps28
     go_wp2_with (first | ((with_reducible refine gate_dst (N:=2) rfl ?_);refine boxE 2 #[.int .i64 a0_0,.int .i64 a0_1,.int .i64 a0_2,.string a0_3,.slice A0_4 l0_4.length c0_4] 36 ?_;intro gb682 hg w13 hbox hb;have BK682:=Aside0.mk (hbox);have GW682:=gw hg HB;have GE682:=gw hg HB;replace HB:=hbS HB hb;clear hb hbox hg) | ((with_reducible refine gate_dst (N:=3) rfl ?_);refine boxE 3 #[.int .i64 a1_0,.int .i64 a1_1,.int .i64 a1_2,.string a1_3,.slice A1_4 l1_4.length c1_4] 36 ?_;intro gb683 hg w14 hbox hb;have BK683:=Aside0.mk (hbox);have GW683:=gw hg HB;have GE683:=gw hg HB;replace HB:=hbS HB hb;have NB682_683:=nbl hg BK682;have NB683_682:=nbg hg BK682;replace BK682:=bkB BK682 hb;clear hb hbox hg;have hnb15:=NB682_683.out;have hnc15:=NB683_682.out;obtain ⟨z0,z1,z2,z3,z4,y0,y1,y2,y3,y4⟩:=bc5 BK682;obtain ⟨z0,z1,z2,z3,z4,y0,y1,y2,y3,y4⟩:=bc5 BK683))
     go_ret
     exact ⟨rerr,hbx HB⟩
   ·rw [if_neg c5] at H
    have c5b0 : (a0_2 == a1_2) = false:=beq_eq_false_iff_ne.mpr c5
    have c5b1 : (a0_2 != a1_2) = true:=bne_iff_ne.mpr c5
    obtain rfl:=Option.some.inj H
    go_enter Try.func28,Try.ntmps28
    go_wp2_with (first | ((with_reducible refine gate_dst (N:=2) rfl ?_);refine boxE 2 #[.int .i64 a0_0,.int .i64 a0_1,.int .i64 a0_2,.string a0_3,.slice A0_4 l0_4.length c0_4] 36 ?_;intro gb682 hg w18 hbox hb;have BK682:=Aside0.mk (hbox);have GW682:=gw hg HB;have GE682:=gw hg HB;replace HB:=hbS HB hb;clear hb hbox hg) | ((with_reducible refine gate_dst (N:=3) rfl ?_);refine boxE 3 #[.int .i64 a1_0,.int .i64 a1_1,.int .i64 a1_2,.string a1_3,.slice A1_4 l1_4.length c1_4] 36 ?_;intro gb683 hg w19 hbox hb;have BK683:=Aside0.mk (hbox);have GW683:=gw hg HB;have GE683:=gw hg HB;replace HB:=hbS HB hb;have NB682_683:=nbl hg BK682;have NB683_682:=nbg hg BK682;replace BK682:=bkB BK682 hb;clear hb hbox hg;have hnb20:=NB682_683.out;have hnc20:=NB683_682.out;obtain ⟨z0,z1,z2,z3,z4,y0,y1,y2,y3,y4⟩:=bc5 BK682;obtain ⟨z0,z1,z2,z3,z4,y0,y1,y2,y3,y4⟩:=bc5 BK683))
    go_ret
    exact ⟨rerr,hbx HB⟩
  ·rw [if_neg c4] at H
   have c4b0 : (a0_1 == a1_1) = false:=beq_eq_false_iff_ne.mpr c4
   have c4b1 : (a0_1 != a1_1) = true:=bne_iff_ne.mpr c4
   obtain rfl:=Option.some.inj H
   go_enter Try.func28,Try.ntmps28
   go_wp2_with (first | ((with_reducible refine gate_dst (N:=2) rfl ?_);refine boxE 2 #[.int .i64 a0_0,.int .i64 a0_1,.int .i64 a0_2,.string a0_3,.slice A0_4 l0_4.length c0_4] 36 ?_;intro gb682 hg w23 hbox hb;have BK682:=Aside0.mk (hbox);have GW682:=gw hg HB;have GE682:=gw hg HB;replace HB:=hbS HB hb;clear hb hbox hg) | ((with_reducible refine gate_dst (N:=3) rfl ?_);refine boxE 3 #[.int .i64 a1_0,.int .i64 a1_1,.int .i64 a1_2,.string a1_3,.slice A1_4 l1_4.length c1_4] 36 ?_;intro gb683 hg w24 hbox hb;have BK683:=Aside0.mk (hbox);have GW683:=gw hg HB;have GE683:=gw hg HB;replace HB:=hbS HB hb;have NB682_683:=nbl hg BK682;have NB683_682:=nbg hg BK682;replace BK682:=bkB BK682 hb;clear hb hbox hg;have hnb25:=NB682_683.out;have hnc25:=NB683_682.out;obtain ⟨z0,z1,z2,z3,z4,y0,y1,y2,y3,y4⟩:=bc5 BK682;obtain ⟨z0,z1,z2,z3,z4,y0,y1,y2,y3,y4⟩:=bc5 BK683))
   go_ret
   exact ⟨rerr,hbx HB⟩
 ·rw [if_neg c3] at H
  have c3b0 : (a0_0 == a1_0) = false:=beq_eq_false_iff_ne.mpr c3
  have c3b1 : (a0_0 != a1_0) = true:=bne_iff_ne.mpr c3
  obtain rfl:=Option.some.inj H
  go_enter Try.func28,Try.ntmps28
  go_wp2_with (first | ((with_reducible refine gate_dst (N:=2) rfl ?_);refine boxE 2 #[.int .i64 a0_0,.int .i64 a0_1,.int .i64 a0_2,.string a0_3,.slice A0_4 l0_4.length c0_4] 36 ?_;intro gb682 hg w28 hbox hb;have BK682:=Aside0.mk (hbox);have GW682:=gw hg HB;have GE682:=gw hg HB;replace HB:=hbS HB hb;clear hb hbox hg) | ((with_reducible refine gate_dst (N:=3) rfl ?_);refine boxE 3 #[.int .i64 a1_0,.int .i64 a1_1,.int .i64 a1_2,.string a1_3,.slice A1_4 l1_4.length c1_4] 36 ?_;intro gb683 hg w29 hbox hb;have BK683:=Aside0.mk (hbox);have GW683:=gw hg HB;have GE683:=gw hg HB;replace HB:=hbS HB hb;have NB682_683:=nbl hg BK682;have NB683_682:=nbg hg BK682;replace BK682:=bkB BK682 hb;clear hb hbox hg;have hnb30:=NB682_683.out;have hnc30:=NB683_682.out;obtain ⟨z0,z1,z2,z3,z4,y0,y1,y2,y3,y4⟩:=bc5 BK682;obtain ⟨z0,z1,z2,z3,z4,y0,y1,y2,y3,y4⟩:=bc5 BK683))
  go_ret
  exact ⟨rerr,hbx HB⟩
end Go.Proofs.Ytdigplhjfjchnaa.PQ
