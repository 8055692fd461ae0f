-- Printed by fprint.py and zip.py, programs of this session's, over the kit's print; Lean checks it.
import Derived.Test.YtdigplhjfjchnaaZf32
import Derived.Test.YtdigplhjfjchnaaZ0
namespace Go.Proofs.Ytdigplhjfjchnaa.PQ
open Go.RowKit Go.Proofs.YtdigplhjfjchnaaW.PrintWords Go.Proofs.YtdigplhjfjchnaaW.PrintLast Go.Proofs.YtdigplhjfjchnaaW.PrintMore
attribute [local go_sem] max2_int min2_int max_two min_two max_three min_three max_four min_four   -- for this text's walks alone
set_option linter.unusedVariables false
set_option linter.unusedSimpArgs false
def install_Ready.f (k : Nat) (a0_0 : ByteArray) (l0_1 : List Int) (l0_2 : List Bool) (l0_3 : List Bool) (a0_4 a0_5 : Int) : Option (Bool):=(install_Valid.f k a0_0 l0_1 l0_2 l0_3 a0_4 a0_5).bind fun t171 => (if t171 = 0 then ((slices_Contains_bool_bool.f k l0_2 false).bind fun t172 => (some (!t172))) else (some false))
set_option maxHeartbeats 8000000 in
set_option maxRecDepth 100000 in
theorem install_Ready.calls (k : Nat) (a0_0 : ByteArray) (A0_1 : Option Addr) (c0_1 : Nat) (l0_1 : List Int) (A0_2 : Option Addr) (c0_2 : Nat) (l0_2 : List Bool) (A0_3 : Option Addr) (c0_3 : Nat) (l0_3 : List Bool) (a0_4 a0_5 : Int) (r : Bool) (w : World) (hr0_1 : Kd.C (Kd.int .i64) w A0_1 l0_1.length l0_1) (hc0_1 : l0_1.length ≤ c0_1) (hr0_2 : Kd.C Kd.bool w A0_2 l0_2.length l0_2) (hc0_2 : l0_2.length ≤ c0_2) (hr0_3 : Kd.C Kd.bool w A0_3 l0_3.length l0_3) (hc0_3 : l0_3.length ≤ c0_3) (h : install_Ready.f k a0_0 l0_1 l0_2 l0_3 a0_4 a0_5 = some r) :
 Calls Try.prog 20 #[.agg #[.string a0_0,.slice A0_1 l0_1.length c0_1,.slice A0_2 l0_2.length c0_2,.slice A0_3 l0_3.length c0_3,.int .i64 a0_4,.int .i64 a0_5]] w fun e w' => e = .returned (.bool r) ∧ Below w.heap.size w w':=by
 have hu50:=Try.underlying50
 have HR0_1:=Aside0.mk hr0_1
 have HC0_1:=Aside0.mk hc0_1
 clear hr0_1 hc0_1
 have HR0_2:=Aside0.mk hr0_2
 have HC0_2:=Aside0.mk hc0_2
 clear hr0_2 hc0_2
 have HR0_3:=Aside0.mk hr0_3
 have HC0_3:=Aside0.mk hc0_3
 clear hr0_3 hc0_3
 have HB:=Aside0.mk (Below.refl w.heap.size w)
 have H : ((install_Valid.f k a0_0 l0_1 l0_2 l0_3 a0_4 a0_5).bind fun t171 => (if t171 = 0 then ((slices_Contains_bool_bool.f k l0_2 false).bind fun t172 => (some (!t172))) else (some false))) = some r:=h
 clear h
 replace H:=Option.bind_eq_some_iff.mp H
 obtain ⟨t171,A20,H⟩:=H
 (try dsimp only at H)
 have A2:=Aside0.mk A20
 clear A20
 by_cases c3 : t171 = 0
 ·rw [if_pos c3] at H
  have c3b0 : (t171 == 0) = true:=beq_iff_eq.mpr c3
  have c3b1 : (t171 != 0) = false:=bne_eq_false_iff_eq.mpr c3
  clear c3
  replace H:=Option.bind_eq_some_iff.mp H
  obtain ⟨t172,A40,H⟩:=H
  (try dsimp only at H)
  have A4:=Aside0.mk A40
  clear A40
  obtain rfl:=Option.some.inj H
  go_enter Try.func20,Try.ntmps20
  go_wp2_with (first | ((with_reducible refine gate_dst (N:=1) rfl ?_);refine boxE 1 #[.string a0_0,.slice A0_1 l0_1.length c0_1,.slice A0_2 l0_2.length c0_2,.slice A0_3 l0_3.length c0_3,.int .i64 a0_4,.int .i64 a0_5] 50 ?_;intro gb170 hg w5 hbox hb;have BK170:=Aside0.mk (hbox);have GW170:=gw hg HB;have GE170:=gw hg HB;replace HB:=hbS HB hb;clear hb hbox hg;obtain ⟨z0,z1,z2,z3,z4,z5,y0,y1,y2,y3,y4,y5⟩:=bc6 BK170) | ((with_reducible refine gate_callee (f:=32) rfl ?_);refine goesL_ (some 4) rfl rfl Try.func32 (by kernel_rfl) rfl #[.agg #[.string a0_0,.slice A0_1 l0_1.length c0_1,.slice A0_2 l0_2.length c0_2,.slice A0_3 l0_3.length c0_3,.int .i64 a0_4,.int .i64 a0_5]] rfl sma ?_;(with_reducible refine (install_Valid.calls k a0_0 _ _ l0_1 _ _ l0_2 _ _ l0_3 a0_4 a0_5 t171 _ (cb HR0_1 HB) HC0_1.out (cb HR0_2 HB) HC0_2.out (cb HR0_3 HB) HC0_3.out A2.out).mono ?_);rintro e w7 ⟨rfl,hb⟩;refine ⟨_,rfl,?_⟩;replace BK170:=bkB BK170 hb;replace HB:=hbS HB hb;(try clear hb);(try clear hb2);(try clear hk);(try clear hi);obtain ⟨z0,z1,z2,z3,z4,z5,y0,y1,y2,y3,y4,y5⟩:=bc6 BK170) | (go_at_call 54;(with_reducible refine (slices_Contains_bool_bool.calls k _ _ l0_2 false t172 _ (cb HR0_2 HB) HC0_2.out A4.out).mono ?_);rintro e w' ⟨rfl,⟨nd,rfl⟩⟩))
  go_ret
  exact ⟨rerr,hbx HB⟩
 ·rw [if_neg c3] at H
  have c3b0 : (t171 == 0) = false:=beq_eq_false_iff_ne.mpr c3
  have c3b1 : (t171 != 0) = true:=bne_iff_ne.mpr c3
  obtain rfl:=Option.some.inj H
  go_enter Try.func20,Try.ntmps20
  go_wp2_with (first | ((with_reducible refine gate_dst (N:=1) rfl ?_);refine boxE 1 #[.string a0_0,.slice A0_1 l0_1.length c0_1,.slice A0_2 l0_2.length c0_2,.slice A0_3 l0_3.length c0_3,.int .i64 a0_4,.int .i64 a0_5] 50 ?_;intro gb170 hg w9 hbox hb;have BK170:=Aside0.mk (hbox);have GW170:=gw hg HB;have GE170:=gw hg HB;replace HB:=hbS HB hb;clear hb hbox hg;obtain ⟨z0,z1,z2,z3,z4,z5,y0,y1,y2,y3,y4,y5⟩:=bc6 BK170) | ((with_reducible refine gate_callee (f:=32) rfl ?_);refine goesL_ (some 4) rfl rfl Try.func32 (by kernel_rfl) rfl #[.agg #[.string a0_0,.slice A0_1 l0_1.length c0_1,.slice A0_2 l0_2.length c0_2,.slice A0_3 l0_3.length c0_3,.int .i64 a0_4,.int .i64 a0_5]] rfl sma ?_;(with_reducible refine (install_Valid.calls k a0_0 _ _ l0_1 _ _ l0_2 _ _ l0_3 a0_4 a0_5 t171 _ (cb HR0_1 HB) HC0_1.out (cb HR0_2 HB) HC0_2.out (cb HR0_3 HB) HC0_3.out A2.out).mono ?_);rintro e w11 ⟨rfl,hb⟩;refine ⟨_,rfl,?_⟩;replace BK170:=bkB BK170 hb;replace HB:=hbS HB hb;(try clear hb);(try clear hb2);(try clear hk);(try clear hi)))
  go_ret
  exact ⟨rerr,hbx HB⟩
end Go.Proofs.Ytdigplhjfjchnaa.PQ
namespace Go.Proofs.Ytdigplhjfjchnaa.PQ
open Go.RowKit Go.Proofs.YtdigplhjfjchnaaW.PrintWords Go.Proofs.YtdigplhjfjchnaaW.PrintLast Go.Proofs.YtdigplhjfjchnaaW.PrintMore
attribute [local go_sem] max2_int min2_int max_two min_two max_three min_three max_four min_four   -- for this text's walks alone
set_option linter.unusedVariables false
set_option linter.unusedSimpArgs false
def install_number.l0 : Nat → Int → Int → List Int → Int → Int → Option (ByteArray)
 | 0,_,_,_,_,_ => none
 | k + 1,x0,x1,x5,x10,x11 => if x11 < x10 then (if 0 ≤ (wrap64 (8 * (wrap64 ((wrap64 (x1 - 1)) - x11)))) then (if 0 ≤ x11 then (if x11 < (x5.length : Int) then (install_number.l0 k x0 x1 (x5.set (x11 : Int).toNat ((shr .i64 x0 (wrap64 (8 * (wrap64 ((wrap64 (x1 - 1)) - x11))))) % 256)) x10 (wrap64 (x11 + 1))) else (none)) else (none)) else (none)) else (some (strOfNums x5))
def install_number.f (k : Nat) (a0 a1 : Int) : Option (ByteArray):=if 0 ≤ a1 then (if (a1 : Int).toNat ≤ 281474976710656 then ((some (List.replicate (a1 : Int).toNat 0 : List Int)).bind fun y173 => (install_number.l0 k a0 a1 y173 (y173.length : Int) 0)) else (none)) else (none)
set_option maxHeartbeats 8000000 in
set_option maxRecDepth 100000 in
theorem install_number.calls (k : Nat) (a0 a1 : Int) (r : ByteArray) (w : World) (h : install_number.f k a0 a1 = some r) :
 Calls Try.prog 56 #[.int .i64 a0,.int .i64 a1] w fun e w' => e = .returned (.string r) ∧ Below w.heap.size w w':=by
 have HB:=Aside0.mk (Below.refl w.heap.size w)
 have H : (if 0 ≤ a1 then (if (a1 : Int).toNat ≤ 281474976710656 then ((some (List.replicate (a1 : Int).toNat 0 : List Int)).bind fun y173 => (install_number.l0 k a0 a1 y173 (y173.length : Int) 0)) else (none)) else (none)) = some r:=h
 clear h
 by_cases c3 : 0 ≤ a1
 ·rw [if_pos c3] at H
  have c3b0:=eq_true c3
  have c3b1 : decide (0 ≤ a1) = true:=decide_eq_true c3
  clear c3
  by_cases c4 : (a1 : Int).toNat ≤ 281474976710656
  ·rw [if_pos c4] at H
   have c4b0:=eq_true c4
   have c4b1 : decide ((a1 : Int).toNat ≤ 281474976710656) = true:=decide_eq_true c4
   clear c4
   obtain ⟨y173,hy173⟩ : ∃ y_ : List Int,y_ = (List.replicate (a1 : Int).toNat 0):=⟨_,rfl⟩
   replace H : (install_number.l0 k a0 a1 y173 (y173.length : Int) 0) = some r:=by first | (rw [hy173];with_reducible exact H) | (have H2_:=(Option.bind_some _ _).symm.trans H;rw [hy173];with_reducible exact H2_) | (have H2_:=(Option.bind_some _ _).symm.trans H;with_reducible exact H2_) | with_reducible exact H | (rw [hy173];exact H) | exact H
   have Ny173:=Aside0.mk hy173
   clear hy173
   have H':=Aside0.mk H
   clear H
   go_enter Try.func56,Try.ntmps56
   go_wp2_with (first | ((with_reducible refine gate_dst (N:=8) rfl ?_);refine Kd.R_make (Kd.int .u8) _ 5 rfl (N:=8) rfl 24 _ _ rfl a1 rfl rfl Try.underlying24 (.int .u8 0) 1 info5 rfl (by decide) (by omega) 0 (ok:=fun _ => True) (okp:=fun _ => True) rfl (fun _ hk => hk) trivial (pos_) (Nat.le_trans (Nat.mul_le_mul_right _ (pos_ : a1.toNat ≤ 281474976710656)) (by omega)) (Below.refl _ _) (Nat.le_refl _) ?_;intro v174 w5 ho6 hb hg_ hnew_;clear hg_ hnew_;(first | rw [← Ny173.out] at ho6 | (simp only [Int.reduceToNat] at ho6;rw [← Ny173.out] at ho6));have HO175:=Aside0.mk (Kd.R_lower ho6 (below_size (hbx HB)));replace HB:=hbS HB hb;clear hb ho6;obtain ⟨Ao7,co7,eo7⟩:=Kd.R_slice HO175.out;subst eo7))
   go_loopg [11] k (fun kq v11 w' => ∃ (x5_1 : List Int) (x11_1 : Int),v11 = .int .i64 x11_1 ∧ Aside0 (install_number.l0 kq a0 a1 x5_1 (y173.length : Int) x11_1 = some r) ∧ Aside0 (kq ≤ k) ∧ Aside0 (Kd.R (Kd.int .u8) 5 w' w.heap.size (fun _ => True) (.slice Ao7 y173.length co7) x5_1) ∧ Aside0 (Below w.heap.size w w'))
   case atStart => exact ⟨(y173),(0),rfs,H',⟨Nat.le_refl _⟩,roA HO175,hbA HB⟩
   case round =>
    clear H'
    try clear c3
    try clear c3b0
    try clear c3b1
    try clear c4
    try clear c4b0
    try clear c4b1
    obtain ⟨x5_1,x11_1,rfl,HA,HK1,HO_5,HB⟩:=hrel
    have hl5_1:=(Kd.R_reads' HO_5.out).1
    rw [hl5_1] at HO_5
    (try simp only [hl5_1])
    cases gk with
    | zero => exact absurd HA.out (by simp [install_number.l0])
    | succ k1 =>
     have H:=HA.out
     clear HA
     simp only [install_number.l0] at H
     by_cases c8 : x11_1 < (y173.length : Int)
     ·rw [if_pos c8] at H
      have c8b0 : decide (x11_1 < (y173.length : Int)) = true:=decide_eq_true c8
      (try (have c8b0h:=c8b0;simp only [hl5_1] at c8b0h))
      clear c8
      obtain ⟨ji9,hji9⟩ : ∃ j_ : Int,(wrap64 (8 * (wrap64 ((wrap64 (a1 - 1)) - x11_1)))) = j_:=⟨_,rfl⟩
      replace H : (if 0 ≤ (ji9) then (if 0 ≤ x11_1 then (if x11_1 < (x5_1.length : Int) then (install_number.l0 k1 a0 a1 (x5_1.set (x11_1 : Int).toNat ((shr .i64 a0 (ji9)) % 256)) (y173.length : Int) (wrap64 (x11_1 + 1))) else (none)) else (none)) else (none)) = some r:=by first | (rw [hji9] at H;exact H) | (simp only [hji9] at H ⊢;exact H)
      have hji9w : (IntKind.i64.wrap (8 * (wrap64 ((wrap64 (a1 - 1)) - x11_1)))) = ji9:=(i64_w _).trans hji9
      by_cases c10 : 0 ≤ (ji9)
      ·rw [if_pos c10] at H
       have c10b0:=eq_true c10
       have c10b1 : decide (0 ≤ (ji9)) = true:=decide_eq_true c10
       clear c10
       obtain ⟨ji11,hji11⟩ : ∃ j_ : Int,(shr .i64 a0 (ji9)) = j_:=⟨_,rfl⟩
       replace H : (if 0 ≤ x11_1 then (if x11_1 < (x5_1.length : Int) then (install_number.l0 k1 a0 a1 (x5_1.set (x11_1 : Int).toNat ((ji11) % 256)) (y173.length : Int) (wrap64 (x11_1 + 1))) else (none)) else (none)) = some r:=by first | (rw [hji11] at H;exact H) | (simp only [hji11] at H ⊢;exact H)
       have hji11_ : (a0 / 2 ^ min (ji9).toNat 64) = ji11:=hji11
       have hji11z : (ji9) ≤ 64 → (a0 / 2 ^ (ji9).toNat) = ji11:=shr_small hji11
       by_cases c12 : 0 ≤ x11_1
       ·rw [if_pos c12] at H
        have c12b0 : decide (0 ≤ x11_1) = true:=decide_eq_true c12
        (try (have c12b0h:=c12b0;simp only [hl5_1] at c12b0h))
        clear c12
        by_cases c13 : x11_1 < (x5_1.length : Int)
        ·rw [if_pos c13] at H
         have c13b0 : decide (x11_1 < (x5_1.length : Int)) = true:=decide_eq_true c13
         (try (have c13b0h:=c13b0;simp only [hl5_1] at c13b0h))
         clear c13
         obtain ⟨y176,hy176⟩ : ∃ y_ : List Int,y_ = (x5_1.set (x11_1 : Int).toNat ((ji11) % 256)):=⟨_,rfl⟩
         replace H : (install_number.l0 k1 a0 a1 y176 (y173.length : Int) (wrap64 (x11_1 + 1))) = some r:=by first | (rw [hy176];with_reducible exact H) | (have H2_:=(Option.bind_some _ _).symm.trans H;rw [hy176];with_reducible exact H2_) | (have H2_:=(Option.bind_some _ _).symm.trans H;with_reducible exact H2_) | with_reducible exact H | (rw [hy176];exact H) | exact H
         have Ny176:=Aside0.mk hy176
         clear hy176
         have H':=Aside0.mk H
         clear H
         have p14 : 0 ≤ (x11_1 : Int):=pos_
         have q14 : (x11_1 : Int) < ((x5_1.length : Int) : Int):=pos_
         obtain ⟨go14,co14,eo14,gb14,gl14,cl14,HG14⟩:=Kd.R_form HO_5.out (by omega)
         (first | cases eo14 | (injection eo14 with ea_ en_ ec_;(first | subst ea_ | (injection ea_ with ea_;subst ea_));subst ec_;clear en_))
         have GB14:=Aside0.mk gb14
         have GG14:=Aside0.mk HG14
         clear gb14 gl14 HG14
         obtain ⟨hx14_0,hf14_0⟩:=Kd.R_celln 0 HO_5.out (x11_1 : Int) p14 q14
         replace p14:=eq_true p14
         replace q14:=eq_true q14
         have HP15:=Kd.R_putg HO_5.out (x11_1 : Int) ((ji11) % 256)
         go_wp2_with (first | ((with_reducible refine gate_store (t:=5) (p:=24) rfl ?_);refine store_event (t:=5) (p:=24) (v:=?vo_w16) (w1:=(wr.setCell ⟨go14,(x11_1 : Int).toNat,none⟩ (.int .u8 ((ji11) % 256)))) ?hg ?ho ?hn ?hr ?_;(case ho => rfl);(case hg => rfl);(case hn => rfl);(case hr => first | (go_simp;done) | (go_simp;rfl));intro w16 hw;have hg : wr.grownBy w16 (some go14):=(by rw [hw];exact HP15.2);have hp_ : Kd.R (Kd.int .u8) 5 w16 w.heap.size (fun _ => True) (.slice (some ⟨go14,0,none⟩) x5_1.length co7) y176:=(by rw [hw,Ny176.out];exact HP15.1);clear HP15;replace HO_5:=Aside0.mk (hp_);replace HB:=Aside0.mk ((by rw [hw];exact below_set (HB.out) GB14.out : Below w.heap.size w w16));clear hg hw hp_))
         (try simp only [← hl5_1])
         go_roundg k1
         case measure => have:=HK1.out;omega
         case rel => exact ⟨(y176),(wrap64 (x11_1 + 1)),rfs,H',⟨by have:=HK1.out;omega⟩,⟨by (try simp only [hl5_1]);(with_reducible repeat (first | apply Kd.R_alloc | apply Kd.R_drewN | apply Kd.R_drew));exact HO_5.out⟩,hbA HB⟩
        ·rw [if_neg c13] at H
         exact absurd H (by simp)
       ·rw [if_neg c12] at H
        exact absurd H (by simp)
      ·rw [if_neg c10] at H
       exact absurd H (by simp)
     ·rw [if_neg c8] at H
      have c8b0 : decide (x11_1 < (y173.length : Int)) = false:=decide_eq_false c8
      (try (have c8b0h:=c8b0;simp only [hl5_1] at c8b0h))
      clear c8
      obtain rfl:=Option.some.inj H
      have hcv17:=own_string (P:=Try.prog) Try.underlying24 Try.underlying5 Try.underlying9 (Kd.own_of_R HO_5.out)
      go_wp2
      go_ret
      exact ⟨rerr,hbx HB⟩
  ·rw [if_neg c4] at H
   exact absurd H (by simp)
 ·rw [if_neg c3] at H
  exact absurd H (by simp)
end Go.Proofs.Ytdigplhjfjchnaa.PQ
namespace Go.Proofs.Ytdigplhjfjchnaa.PQ
open Go.RowKit Go.Proofs.YtdigplhjfjchnaaW.PrintWords Go.Proofs.YtdigplhjfjchnaaW.PrintLast Go.Proofs.YtdigplhjfjchnaaW.PrintMore
attribute [local go_sem] max2_int min2_int max_two min_two max_three min_three max_four min_four   -- for this text's walks alone
set_option linter.unusedVariables false
set_option linter.unusedSimpArgs false
def install_Agreed.f (k : Nat) (a0_0 : ByteArray) (l0_1 : List Int) (l0_2 : List Bool) (l0_3 : List Bool) (a0_4 a0_5 : Int) : Option (Bool):=(install_Valid.f k a0_0 l0_1 l0_2 l0_3 a0_4 a0_5).bind fun t458 => (if t458 = 0 then (if a0_5 = 0 then (some false) else ((slices_Contains_bool_bool.f k l0_3 false).bind fun t459 => (some (!t459)))) else (some false))
set_option maxHeartbeats 8000000 in
set_option maxRecDepth 100000 in
theorem install_Agreed.calls (k : Nat) (a0_0 : ByteArray) (A0_1 : Option Addr) (c0_1 : Nat) (l0_1 : List Int) (A0_2 : Option Addr) (c0_2 : Nat) (l0_2 : List Bool) (A0_3 : Option Addr) (c0_3 : Nat) (l0_3 : List Bool) (a0_4 a0_5 : Int) (r : Bool) (w : World) (hr0_1 : Kd.C (Kd.int .i64) w A0_1 l0_1.length l0_1) (hc0_1 : l0_1.length ≤ c0_1) (hr0_2 : Kd.C Kd.bool w A0_2 l0_2.length l0_2) (hc0_2 : l0_2.length ≤ c0_2) (hr0_3 : Kd.C Kd.bool w A0_3 l0_3.length l0_3) (hc0_3 : l0_3.length ≤ c0_3) (h : install_Agreed.f k a0_0 l0_1 l0_2 l0_3 a0_4 a0_5 = some r) :
 Calls Try.prog 21 #[.agg #[.string a0_0,.slice A0_1 l0_1.length c0_1,.slice A0_2 l0_2.length c0_2,.slice A0_3 l0_3.length c0_3,.int .i64 a0_4,.int .i64 a0_5]] w fun e w' => e = .returned (.bool r) ∧ Below w.heap.size w w':=by
 have hu50:=Try.underlying50
 have HR0_1:=Aside0.mk hr0_1
 have HC0_1:=Aside0.mk hc0_1
 clear hr0_1 hc0_1
 have HR0_2:=Aside0.mk hr0_2
 have HC0_2:=Aside0.mk hc0_2
 clear hr0_2 hc0_2
 have HR0_3:=Aside0.mk hr0_3
 have HC0_3:=Aside0.mk hc0_3
 clear hr0_3 hc0_3
 have HB:=Aside0.mk (Below.refl w.heap.size w)
 have H : ((install_Valid.f k a0_0 l0_1 l0_2 l0_3 a0_4 a0_5).bind fun t458 => (if t458 = 0 then (if a0_5 = 0 then (some false) else ((slices_Contains_bool_bool.f k l0_3 false).bind fun t459 => (some (!t459)))) else (some false))) = some r:=h
 clear h
 replace H:=Option.bind_eq_some_iff.mp H
 obtain ⟨t458,A20,H⟩:=H
 (try dsimp only at H)
 have A2:=Aside0.mk A20
 clear A20
 by_cases c3 : t458 = 0
 ·rw [if_pos c3] at H
  have c3b0 : (t458 == 0) = true:=beq_iff_eq.mpr c3
  have c3b1 : (t458 != 0) = false:=bne_eq_false_iff_eq.mpr c3
  clear c3
  by_cases c4 : a0_5 = 0
  ·rw [if_pos c4] at H
   have c4b0 : (a0_5 == 0) = true:=beq_iff_eq.mpr c4
   have c4b1 : (a0_5 != 0) = false:=bne_eq_false_iff_eq.mpr c4
   clear c4
   obtain rfl:=Option.some.inj H
   go_enter Try.func21,Try.ntmps21
   go_wp2_with (first | ((with_reducible refine gate_dst (N:=1) rfl ?_);refine boxE 1 #[.string a0_0,.slice A0_1 l0_1.length c0_1,.slice A0_2 l0_2.length c0_2,.slice A0_3 l0_3.length c0_3,.int .i64 a0_4,.int .i64 a0_5] 50 ?_;intro gb457 hg w5 hbox hb;have BK457:=Aside0.mk (hbox);have GW457:=gw hg HB;have GE457:=gw hg HB;replace HB:=hbS HB hb;clear hb hbox hg;obtain ⟨z0,z1,z2,z3,z4,z5,y0,y1,y2,y3,y4,y5⟩:=bc6 BK457) | ((with_reducible refine gate_callee (f:=32) rfl ?_);refine goesL_ (some 4) rfl rfl Try.func32 (by kernel_rfl) rfl #[.agg #[.string a0_0,.slice A0_1 l0_1.length c0_1,.slice A0_2 l0_2.length c0_2,.slice A0_3 l0_3.length c0_3,.int .i64 a0_4,.int .i64 a0_5]] rfl sma ?_;(with_reducible refine (install_Valid.calls k a0_0 _ _ l0_1 _ _ l0_2 _ _ l0_3 a0_4 a0_5 t458 _ (cb HR0_1 HB) HC0_1.out (cb HR0_2 HB) HC0_2.out (cb HR0_3 HB) HC0_3.out A2.out).mono ?_);rintro e w7 ⟨rfl,hb⟩;refine ⟨_,rfl,?_⟩;replace BK457:=bkB BK457 hb;replace HB:=hbS HB hb;(try clear hb);(try clear hb2);(try clear hk);(try clear hi);obtain ⟨z0,z1,z2,z3,z4,z5,y0,y1,y2,y3,y4,y5⟩:=bc6 BK457))
   go_ret
   exact ⟨rerr,hbx HB⟩
  ·rw [if_neg c4] at H
   have c4b0 : (a0_5 == 0) = false:=beq_eq_false_iff_ne.mpr c4
   have c4b1 : (a0_5 != 0) = true:=bne_iff_ne.mpr c4
   replace H:=Option.bind_eq_some_iff.mp H
   obtain ⟨t459,A90,H⟩:=H
   (try dsimp only at H)
   have A9:=Aside0.mk A90
   clear A90
   obtain rfl:=Option.some.inj H
   go_enter Try.func21,Try.ntmps21
   go_wp2_with (first | ((with_reducible refine gate_dst (N:=1) rfl ?_);refine boxE 1 #[.string a0_0,.slice A0_1 l0_1.length c0_1,.slice A0_2 l0_2.length c0_2,.slice A0_3 l0_3.length c0_3,.int .i64 a0_4,.int .i64 a0_5] 50 ?_;intro gb457 hg w10 hbox hb;have BK457:=Aside0.mk (hbox);have GW457:=gw hg HB;have GE457:=gw hg HB;replace HB:=hbS HB hb;clear hb hbox hg;obtain ⟨z0,z1,z2,z3,z4,z5,y0,y1,y2,y3,y4,y5⟩:=bc6 BK457) | ((with_reducible refine gate_callee (f:=32) rfl ?_);refine goesL_ (some 4) rfl rfl Try.func32 (by kernel_rfl) rfl #[.agg #[.string a0_0,.slice A0_1 l0_1.length c0_1,.slice A0_2 l0_2.length c0_2,.slice A0_3 l0_3.length c0_3,.int .i64 a0_4,.int .i64 a0_5]] rfl sma ?_;(with_reducible refine (install_Valid.calls k a0_0 _ _ l0_1 _ _ l0_2 _ _ l0_3 a0_4 a0_5 t458 _ (cb HR0_1 HB) HC0_1.out (cb HR0_2 HB) HC0_2.out (cb HR0_3 HB) HC0_3.out A2.out).mono ?_);rintro e w12 ⟨rfl,hb⟩;refine ⟨_,rfl,?_⟩;replace BK457:=bkB BK457 hb;replace HB:=hbS HB hb;(try clear hb);(try clear hb2);(try clear hk);(try clear hi);obtain ⟨z0,z1,z2,z3,z4,z5,y0,y1,y2,y3,y4,y5⟩:=bc6 BK457) | (go_at_call 54;(with_reducible refine (slices_Contains_bool_bool.calls k _ _ l0_3 false t459 _ (cb HR0_3 HB) HC0_3.out A9.out).mono ?_);rintro e w' ⟨rfl,⟨nd,rfl⟩⟩))
   go_ret
   exact ⟨rerr,hbx HB⟩
 ·rw [if_neg c3] at H
  have c3b0 : (t458 == 0) = false:=beq_eq_false_iff_ne.mpr c3
  have c3b1 : (t458 != 0) = true:=bne_iff_ne.mpr c3
  obtain rfl:=Option.some.inj H
  go_enter Try.func21,Try.ntmps21
  go_wp2_with (first | ((with_reducible refine gate_dst (N:=1) rfl ?_);refine boxE 1 #[.string a0_0,.slice A0_1 l0_1.length c0_1,.slice A0_2 l0_2.length c0_2,.slice A0_3 l0_3.length c0_3,.int .i64 a0_4,.int .i64 a0_5] 50 ?_;intro gb457 hg w14 hbox hb;have BK457:=Aside0.mk (hbox);have GW457:=gw hg HB;have GE457:=gw hg HB;replace HB:=hbS HB hb;clear hb hbox hg;obtain ⟨z0,z1,z2,z3,z4,z5,y0,y1,y2,y3,y4,y5⟩:=bc6 BK457) | ((with_reducible refine gate_callee (f:=32) rfl ?_);refine goesL_ (some 4) rfl rfl Try.func32 (by kernel_rfl) rfl #[.agg #[.string a0_0,.slice A0_1 l0_1.length c0_1,.slice A0_2 l0_2.length c0_2,.slice A0_3 l0_3.length c0_3,.int .i64 a0_4,.int .i64 a0_5]] rfl sma ?_;(with_reducible refine (install_Valid.calls k a0_0 _ _ l0_1 _ _ l0_2 _ _ l0_3 a0_4 a0_5 t458 _ (cb HR0_1 HB) HC0_1.out (cb HR0_2 HB) HC0_2.out (cb HR0_3 HB) HC0_3.out A2.out).mono ?_);rintro e w16 ⟨rfl,hb⟩;refine ⟨_,rfl,?_⟩;replace BK457:=bkB BK457 hb;replace HB:=hbS HB hb;(try clear hb);(try clear hb2);(try clear hk);(try clear hi)))
  go_ret
  exact ⟨rerr,hbx HB⟩
end Go.Proofs.Ytdigplhjfjchnaa.PQ
