-- Printed by fprint.py and zip.py, programs of this session's, over the kit's print; Lean checks it.
import Derived.Test.YtdigplhjfjchnaaZ0
import Derived.Test.YtdigplhjfjchnaaZf42
import Derived.Test.YtdigplhjfjchnaaZf47
namespace Go.Proofs.Ytdigplhjfjchnaa.PQ
open Go.RowKit Go.Proofs.YtdigplhjfjchnaaW.PrintWords Go.Proofs.YtdigplhjfjchnaaW.PrintLast Go.Proofs.YtdigplhjfjchnaaW.PrintMore
attribute [local go_sem] max2_int min2_int max_two min_two max_three min_three max_four min_four   -- for this text's walks alone
set_option linter.unusedVariables false
set_option linter.unusedSimpArgs false
mutual
def install_Check.j0 : Nat → Bool → ByteArray → ByteArray → Bool → ByteArray → Int → Int → Option (Int)
 | 0, _, _, _, _, _, _, _ => none
 | k + 1, x4, x103000, x103001, x103002, x103003, x103004, x103005 => if x103003.toList = ([] : List UInt8) then (install_Check.j1 k x4 (x103004 == 0) x103000 x103001 x103002 x103003 x103004 x103005) else (install_Check.j1 k x4 false x103000 x103001 x103002 x103003 x103004 x103005)
def install_Check.j1 : Nat → Bool → Bool → ByteArray → ByteArray → Bool → ByteArray → Int → Int → Option (Int)
 | 0, _, _, _, _, _, _, _, _ => none
 | k + 1, x4, x5, x103000, x103001, x103002, x103003, x103004, x103005 => (install_Check_1.f x103000).bind fun t104 => (if t104 = true then ((install_Check_1.f x103001).bind fun t105 => (if t105 = true then (if x103005 < 0 then (some 1) else (if x103005 > 1048576 then (some 1) else (if x103002 = true then (if x4 = true then (some 0) else (some 1)) else (if x5 = true then (some 0) else (some 1))))) else (some 1))) else (some 1))
end
def install_Check.f (k : Nat) (a0_0 : ByteArray) (a0_1 : ByteArray) (a0_2 : Bool) (a0_3 : ByteArray) (a0_4 : Int) (a0_5 : Int) : Option (Int) := (install_identifier.f a0_3).bind fun t103 => (if t103 = true then (if a0_3.toList = a0_1.toList then (if a0_4 ≥ 1 then (install_Check.j0 k (decide (a0_4 ≤ 1073741824)) a0_0 a0_1 a0_2 a0_3 a0_4 a0_5) else (install_Check.j0 k false a0_0 a0_1 a0_2 a0_3 a0_4 a0_5)) else (install_Check.j0 k false a0_0 a0_1 a0_2 a0_3 a0_4 a0_5)) else (install_Check.j0 k false a0_0 a0_1 a0_2 a0_3 a0_4 a0_5))
theorem install_Check.mono_l : ∀ k, (∀ y0 y1 y2 y3 y4 y5 y6, LeO (install_Check.j0 k y0 y1 y2 y3 y4 y5 y6) (install_Check.j0 (k + 1) y0 y1 y2 y3 y4 y5 y6)) ∧ (∀ y0 y1 y2 y3 y4 y5 y6 y7, LeO (install_Check.j1 k y0 y1 y2 y3 y4 y5 y6 y7) (install_Check.j1 (k + 1) y0 y1 y2 y3 y4 y5 y6 y7))
 | 0 => ⟨fun _ _ _ _ _ _ _ r h => by simp [install_Check.j0] at h, fun _ _ _ _ _ _ _ _ r h => by simp [install_Check.j1] at h⟩
 | k + 1 => by
  obtain ⟨ih0, ih1⟩ := install_Check.mono_l k
  refine ⟨?_, ?_⟩
  ·intro y0 y1 y2 y3 y4 y5 y6
   unfold install_Check.j0
   repeat' first
   | (with_reducible exact ih0 _ _ _ _ _ _ _)
   | (with_reducible exact ih1 _ _ _ _ _ _ _ _)
   | (with_reducible exact LeO.refl _)
   | (with_reducible exact LeO.none _)
   | (with_reducible refine LeO.ite ?_ ?_)
   | (with_reducible refine LeO.bind ?_ (fun _ => ?_))
   | exact ih0 _ _ _ _ _ _ _
   | exact ih1 _ _ _ _ _ _ _ _
   | exact LeO.none _
   | refine LeO.ite ?_ ?_
   | refine LeO.bind ?_ (fun _ => ?_)
  ·intro y0 y1 y2 y3 y4 y5 y6 y7
   unfold install_Check.j1
   repeat' first
   | (with_reducible exact ih0 _ _ _ _ _ _ _)
   | (with_reducible exact ih1 _ _ _ _ _ _ _ _)
   | (with_reducible exact LeO.refl _)
   | (with_reducible exact LeO.none _)
   | (with_reducible refine LeO.ite ?_ ?_)
   | (with_reducible refine LeO.bind ?_ (fun _ => ?_))
   | exact ih0 _ _ _ _ _ _ _
   | exact ih1 _ _ _ _ _ _ _ _
   | exact LeO.none _
   | refine LeO.ite ?_ ?_
   | refine LeO.bind ?_ (fun _ => ?_)
theorem install_Check.mono : ∀ a0 a1 a2 a3 a4 a5 k, LeO (install_Check.f k a0 a1 a2 a3 a4 a5) (install_Check.f (k + 1) a0 a1 a2 a3 a4 a5) := by
 intro a0 a1 a2 a3 a4 a5 k
 obtain ⟨ih0, ih1⟩ := install_Check.mono_l k
 unfold install_Check.f
 repeat' first
  | (with_reducible exact ih0 _ _ _ _ _ _ _)
  | (with_reducible exact ih1 _ _ _ _ _ _ _ _)
  | (with_reducible exact LeO.refl _)
  | (with_reducible exact LeO.none _)
  | (with_reducible refine LeO.ite ?_ ?_)
  | (with_reducible refine LeO.bind ?_ (fun _ => ?_))
  | exact ih0 _ _ _ _ _ _ _
  | exact ih1 _ _ _ _ _ _ _ _
  | exact LeO.none _
  | refine LeO.ite ?_ ?_
  | refine LeO.bind ?_ (fun _ => ?_)
set_option maxHeartbeats 8000000 in
set_option maxRecDepth 100000 in
theorem install_Check.calls (k : Nat) (a0_0 : ByteArray) (a0_1 : ByteArray) (a0_2 : Bool) (a0_3 : ByteArray) (a0_4 : Int) (a0_5 : Int) (r : Int) (w : World) (h : install_Check.f k a0_0 a0_1 a0_2 a0_3 a0_4 a0_5 = some r) :
 Calls Try.prog 16 #[.agg #[.string a0_0, .string a0_1, .bool a0_2, .string a0_3, .int .i64 a0_4, .int .i64 a0_5]] w fun e w' => e = .returned (.int .i64 r) ∧ Below w.heap.size w w' := by
 have hu28 := Try.underlying28
 have HB := Aside0.mk (Below.refl w.heap.size w)
 have H : ((install_identifier.f a0_3).bind fun t103 => (if t103 = true then (if a0_3.toList = a0_1.toList then (if a0_4 ≥ 1 then (install_Check.j0 k (decide (a0_4 ≤ 1073741824)) a0_0 a0_1 a0_2 a0_3 a0_4 a0_5) else (install_Check.j0 k false a0_0 a0_1 a0_2 a0_3 a0_4 a0_5)) else (install_Check.j0 k false a0_0 a0_1 a0_2 a0_3 a0_4 a0_5)) else (install_Check.j0 k false a0_0 a0_1 a0_2 a0_3 a0_4 a0_5))) = some r := h
 clear h
 have HC2 := Aside0.mk H
 clear H
 go_enter Try.func16, Try.ntmps16
 go_upto_region 2 with (first | ((with_reducible refine gate_dst (N := 1) rfl ?_); refine boxE 1 #[.string a0_0, .string a0_1, .bool a0_2, .string a0_3, .int .i64 a0_4, .int .i64 a0_5] 28 ?_; intro gb102 hg w3 hbox hb; have BK102 := Aside0.mk (hbox); have GW102 := gw hg HB; have GE102 := gw hg HB; replace HB := hbS HB hb; clear hb hbox hg))
 (try simp only [Act.put, List.setIfInBounds_toArray, List.set_cons_zero, List.set_cons_succ])
 go_cut [4] (fun v4 wc => ∃ (kq : Nat) (x4_1 : Bool), v4 = .bool x4_1 ∧ Aside0 (install_Check.j0 kq x4_1 a0_0 a0_1 a0_2 a0_3 a0_4 a0_5 = some r) ∧ Aside0 (kq ≤ k) ∧ Aside0 (wc.heap[gb102]? = some (.cells #[.string a0_0, .string a0_1, .bool a0_2, .string a0_3, .int .i64 a0_4, .int .i64 a0_5] 28 (0, 0))) ∧ Aside0 (Below w.heap.size w wc))
 case first =>
  have H := HC2.out
  clear HC2
  replace H := Option.bind_eq_some_iff.mp H
  obtain ⟨t103, A40, H⟩ := H
  (try dsimp only at H)
  have A4 := Aside0.mk A40
  clear A40
  by_cases c5 : t103 = true
  ·subst c5
   rw [if_pos rfl] at H
   by_cases c6 : a0_3.toList = a0_1.toList
   ·rw [if_pos c6] at H
    have c6b0 : (a0_3.toList == a0_1.toList) = true := beq_iff_eq.mpr c6
    have c6b1 : (a0_3.toList != a0_1.toList) = false := bne_eq_false_iff_eq.mpr c6
    clear c6
    (first | rw [c6b0] | (simp only [i64_w, i32_w]; rw [c6b0]) | skip)
    by_cases c7 : a0_4 ≥ 1
    ·rw [if_pos c7] at H
     have c7b0 : decide (1 ≤ a0_4) = true := decide_eq_true c7
     clear c7
     have H' := Aside0.mk H
     clear H
     obtain ⟨z0, z1, z2, z3, z4, z5, y0, y1, y2, y3, y4, y5⟩ := bc6 BK102
     go_wp2_with (first | ((with_reducible refine gate_callee (f := 42) rfl ?_); refine goesL_ (some 8) rfl rfl Try.func42 (by kernel_rfl) rfl #[.string a0_3] rfl sma ?_; (with_reducible refine (install_identifier.calls a0_3 true _ A4.out).mono ?_); rintro e w' ⟨rfl, ⟨nd, rfl⟩⟩; refine ⟨_, rfl, ?_⟩))
     go_meet
     case rel => exact ⟨_, (decide (a0_4 ≤ 1073741824)), rfs, H', kle, bkA BK102, hbA HB⟩
    ·rw [if_neg c7] at H
     have c7b0 : decide (1 ≤ a0_4) = false := decide_eq_false c7
     clear c7
     have H' := Aside0.mk H
     clear H
     obtain ⟨z0, z1, z2, z3, z4, z5, y0, y1, y2, y3, y4, y5⟩ := bc6 BK102
     go_wp2_with (first | ((with_reducible refine gate_callee (f := 42) rfl ?_); refine goesL_ (some 8) rfl rfl Try.func42 (by kernel_rfl) rfl #[.string a0_3] rfl sma ?_; (with_reducible refine (install_identifier.calls a0_3 true _ A4.out).mono ?_); rintro e w' ⟨rfl, ⟨nd, rfl⟩⟩; refine ⟨_, rfl, ?_⟩))
     go_meet
     case rel => exact ⟨_, (false), rfs, H', kle, bkA BK102, hbA HB⟩
   ·rw [if_neg c6] at H
    have c6b0 : (a0_3.toList == a0_1.toList) = false := beq_eq_false_iff_ne.mpr c6
    have c6b1 : (a0_3.toList != a0_1.toList) = true := bne_iff_ne.mpr c6
    (first | rw [c6b0] | (simp only [i64_w, i32_w]; rw [c6b0]) | skip)
    have H' := Aside0.mk H
    clear H
    obtain ⟨z0, z1, z2, z3, z4, z5, y0, y1, y2, y3, y4, y5⟩ := bc6 BK102
    go_wp2_with (first | ((with_reducible refine gate_callee (f := 42) rfl ?_); refine goesL_ (some 8) rfl rfl Try.func42 (by kernel_rfl) rfl #[.string a0_3] rfl sma ?_; (with_reducible refine (install_identifier.calls a0_3 true _ A4.out).mono ?_); rintro e w' ⟨rfl, ⟨nd, rfl⟩⟩; refine ⟨_, rfl, ?_⟩))
    go_meet
    case rel => exact ⟨_, (false), rfs, H', kle, bkA BK102, hbA HB⟩
  ·replace c5 := Bool.eq_false_iff.mpr c5
   subst c5
   rw [if_neg (show ¬ (false = true) by decide)] at H
   have H' := Aside0.mk H
   clear H
   obtain ⟨z0, z1, z2, z3, z4, z5, y0, y1, y2, y3, y4, y5⟩ := bc6 BK102
   go_wp2_with (first | ((with_reducible refine gate_callee (f := 42) rfl ?_); refine goesL_ (some 8) rfl rfl Try.func42 (by kernel_rfl) rfl #[.string a0_3] rfl sma ?_; (with_reducible refine (install_identifier.calls a0_3 false _ A4.out).mono ?_); rintro e w' ⟨rfl, ⟨nd, rfl⟩⟩; refine ⟨_, rfl, ?_⟩))
   go_meet
   case rel => exact ⟨_, (false), rfs, H', kle, bkA BK102, hbA HB⟩
 case rest =>
  clear HC2
  obtain ⟨kq, x4_1, rfl, HA, HJ1, BK102, HB⟩ := hcut
  cases kq with
  | zero => exact absurd HA.out (by simp [install_Check.j0])
  | succ kj1 =>
   have H := HA.out
   clear HA
   simp only [install_Check.j0] at H
   have HC12 := Aside0.mk H
   clear H
   go_upto_region 3 with (fail)
   go_cut [5] (fun v5 wc => ∃ (kq : Nat) (x5_11 : Bool), v5 = .bool x5_11 ∧ Aside0 (install_Check.j1 kq x4_1 x5_11 a0_0 a0_1 a0_2 a0_3 a0_4 a0_5 = some r) ∧ Aside0 (kq ≤ kj1) ∧ Aside0 (wc.heap[gb102]? = some (.cells #[.string a0_0, .string a0_1, .bool a0_2, .string a0_3, .int .i64 a0_4, .int .i64 a0_5] 28 (0, 0))) ∧ Aside0 (Below w.heap.size w wc))
   case first =>
    have H := HC12.out
    clear HC12
    by_cases c13 : a0_3.toList = ([] : List UInt8)
    ·rw [if_pos c13] at H
     have c13b0 : (a0_3.toList == ([] : List UInt8)) = true := beq_iff_eq.mpr c13
     have c13b1 : (a0_3.toList != ([] : List UInt8)) = false := bne_eq_false_iff_eq.mpr c13
     clear c13
     (first | rw [c13b0] | (simp only [i64_w, i32_w]; rw [c13b0]) | skip)
     have H' := Aside0.mk H
     clear H
     obtain ⟨z0, z1, z2, z3, z4, z5, y0, y1, y2, y3, y4, y5⟩ := bc6 BK102
     go_wp2
     go_meet
     case rel => exact ⟨_, ((a0_4 == 0)), rfs, H', ⟨by have := HJ1.out; first | omega | exact Nat.le_refl _⟩, bkA BK102, hbA HB⟩
    ·rw [if_neg c13] at H
     have c13b0 : (a0_3.toList == ([] : List UInt8)) = false := beq_eq_false_iff_ne.mpr c13
     have c13b1 : (a0_3.toList != ([] : List UInt8)) = true := bne_iff_ne.mpr c13
     (first | rw [c13b0] | (simp only [i64_w, i32_w]; rw [c13b0]) | skip)
     have H' := Aside0.mk H
     clear H
     obtain ⟨z0, z1, z2, z3, z4, z5, y0, y1, y2, y3, y4, y5⟩ := bc6 BK102
     go_wp2
     go_meet
     case rel => exact ⟨_, (false), rfs, H', ⟨by have := HJ1.out; first | omega | exact Nat.le_refl _⟩, bkA BK102, hbA HB⟩
   case rest =>
    clear HC12
    obtain ⟨kq, x5_11, rfl, HA, HJ11, BK102, HB⟩ := hcut
    cases kq with
    | zero => exact absurd HA.out (by simp [install_Check.j1])
    | succ kj11 =>
     have H := HA.out
     clear HA
     simp only [install_Check.j1] at H
     replace H := Option.bind_eq_some_iff.mp H
     obtain ⟨t104, A160, H⟩ := H
     (try dsimp only at H)
     have A16 := Aside0.mk A160
     clear A160
     by_cases c17 : t104 = true
     ·subst c17
      rw [if_pos rfl] at H
      replace H := Option.bind_eq_some_iff.mp H
      obtain ⟨t105, A180, H⟩ := H
      (try dsimp only at H)
      have A18 := Aside0.mk A180
      clear A180
      by_cases c19 : t105 = true
      ·subst c19
       rw [if_pos rfl] at H
       by_cases c20 : a0_5 < 0
       ·rw [if_pos c20] at H
        have c20b0 : decide (a0_5 < 0) = true := decide_eq_true c20
        clear c20
        obtain rfl := Option.some.inj H
        obtain ⟨z0, z1, z2, z3, z4, z5, y0, y1, y2, y3, y4, y5⟩ := bc6 BK102
        go_wp2_with (first | (go_at_call 47; (with_reducible refine (install_Check_1.calls a0_0 true _ A16.out).mono ?_); rintro e w' ⟨rfl, ⟨nd, rfl⟩⟩) | (go_at_call 47; (with_reducible refine (install_Check_1.calls a0_1 true _ A18.out).mono ?_); rintro e w' ⟨rfl, ⟨nd, rfl⟩⟩))
        go_ret
        exact ⟨rerr, hbx HB⟩
       ·rw [if_neg c20] at H
        have c20b0 : decide (a0_5 < 0) = false := decide_eq_false c20
        clear c20
        by_cases c22 : a0_5 > 1048576
        ·rw [if_pos c22] at H
         have c22b0 : decide (1048576 < a0_5) = true := decide_eq_true c22
         clear c22
         obtain rfl := Option.some.inj H
         obtain ⟨z0, z1, z2, z3, z4, z5, y0, y1, y2, y3, y4, y5⟩ := bc6 BK102
         go_wp2_with (first | (go_at_call 47; (with_reducible refine (install_Check_1.calls a0_0 true _ A16.out).mono ?_); rintro e w' ⟨rfl, ⟨nd, rfl⟩⟩) | (go_at_call 47; (with_reducible refine (install_Check_1.calls a0_1 true _ A18.out).mono ?_); rintro e w' ⟨rfl, ⟨nd, rfl⟩⟩))
         go_ret
         exact ⟨rerr, hbx HB⟩
        ·rw [if_neg c22] at H
         have c22b0 : decide (1048576 < a0_5) = false := decide_eq_false c22
         clear c22
         by_cases c24 : a0_2 = true
         ·subst c24
          rw [if_pos rfl] at H
          by_cases c25 : x4_1 = true
          ·subst c25
           rw [if_pos rfl] at H
           obtain rfl := Option.some.inj H
           obtain ⟨z0, z1, z2, z3, z4, z5, y0, y1, y2, y3, y4, y5⟩ := bc6 BK102
           go_wp2_with (first | (go_at_call 47; (with_reducible refine (install_Check_1.calls a0_0 true _ A16.out).mono ?_); rintro e w' ⟨rfl, ⟨nd, rfl⟩⟩) | (go_at_call 47; (with_reducible refine (install_Check_1.calls a0_1 true _ A18.out).mono ?_); rintro e w' ⟨rfl, ⟨nd, rfl⟩⟩))
           go_ret
           exact ⟨rerr, hbx HB⟩
          ·replace c25 := Bool.eq_false_iff.mpr c25
           subst c25
           rw [if_neg (show ¬ (false = true) by decide)] at H
           obtain rfl := Option.some.inj H
           obtain ⟨z0, z1, z2, z3, z4, z5, y0, y1, y2, y3, y4, y5⟩ := bc6 BK102
           go_wp2_with (first | (go_at_call 47; (with_reducible refine (install_Check_1.calls a0_0 true _ A16.out).mono ?_); rintro e w' ⟨rfl, ⟨nd, rfl⟩⟩) | (go_at_call 47; (with_reducible refine (install_Check_1.calls a0_1 true _ A18.out).mono ?_); rintro e w' ⟨rfl, ⟨nd, rfl⟩⟩))
           go_ret
           exact ⟨rerr, hbx HB⟩
         ·replace c24 := Bool.eq_false_iff.mpr c24
          subst c24
          rw [if_neg (show ¬ (false = true) by decide)] at H
          by_cases c28 : x5_11 = true
          ·subst c28
           rw [if_pos rfl] at H
           obtain rfl := Option.some.inj H
           obtain ⟨z0, z1, z2, z3, z4, z5, y0, y1, y2, y3, y4, y5⟩ := bc6 BK102
           go_wp2_with (first | (go_at_call 47; (with_reducible refine (install_Check_1.calls a0_0 true _ A16.out).mono ?_); rintro e w' ⟨rfl, ⟨nd, rfl⟩⟩) | (go_at_call 47; (with_reducible refine (install_Check_1.calls a0_1 true _ A18.out).mono ?_); rintro e w' ⟨rfl, ⟨nd, rfl⟩⟩))
           go_ret
           exact ⟨rerr, hbx HB⟩
          ·replace c28 := Bool.eq_false_iff.mpr c28
           subst c28
           rw [if_neg (show ¬ (false = true) by decide)] at H
           obtain rfl := Option.some.inj H
           obtain ⟨z0, z1, z2, z3, z4, z5, y0, y1, y2, y3, y4, y5⟩ := bc6 BK102
           go_wp2_with (first | (go_at_call 47; (with_reducible refine (install_Check_1.calls a0_0 true _ A16.out).mono ?_); rintro e w' ⟨rfl, ⟨nd, rfl⟩⟩) | (go_at_call 47; (with_reducible refine (install_Check_1.calls a0_1 true _ A18.out).mono ?_); rintro e w' ⟨rfl, ⟨nd, rfl⟩⟩))
           go_ret
           exact ⟨rerr, hbx HB⟩
      ·replace c19 := Bool.eq_false_iff.mpr c19
       subst c19
       rw [if_neg (show ¬ (false = true) by decide)] at H
       obtain rfl := Option.some.inj H
       obtain ⟨z0, z1, z2, z3, z4, z5, y0, y1, y2, y3, y4, y5⟩ := bc6 BK102
       go_wp2_with (first | (go_at_call 47; (with_reducible refine (install_Check_1.calls a0_0 true _ A16.out).mono ?_); rintro e w' ⟨rfl, ⟨nd, rfl⟩⟩) | (go_at_call 47; (with_reducible refine (install_Check_1.calls a0_1 false _ A18.out).mono ?_); rintro e w' ⟨rfl, ⟨nd, rfl⟩⟩))
       go_ret
       exact ⟨rerr, hbx HB⟩
     ·replace c17 := Bool.eq_false_iff.mpr c17
      subst c17
      rw [if_neg (show ¬ (false = true) by decide)] at H
      obtain rfl := Option.some.inj H
      obtain ⟨z0, z1, z2, z3, z4, z5, y0, y1, y2, y3, y4, y5⟩ := bc6 BK102
      go_wp2_with (first | (go_at_call 47; (with_reducible refine (install_Check_1.calls a0_0 false _ A16.out).mono ?_); rintro e w' ⟨rfl, ⟨nd, rfl⟩⟩))
      go_ret
      exact ⟨rerr, hbx HB⟩
end Go.Proofs.Ytdigplhjfjchnaa.PQ
