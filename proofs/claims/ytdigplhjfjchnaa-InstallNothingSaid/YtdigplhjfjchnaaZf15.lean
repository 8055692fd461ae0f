-- Printed by fprint.py and zip.py, programs of this session's, over the kit's print; Lean checks it.
import Derived.Test.YtdigplhjfjchnaaZ0
import Derived.Test.YtdigplhjfjchnaaZf16
import Derived.Test.YtdigplhjfjchnaaZf43
namespace Go.Proofs.Ytdigplhjfjchnaa.PQ
open Go.RowKit Go.Proofs.YtdigplhjfjchnaaW.PrintWords Go.Proofs.YtdigplhjfjchnaaW.PrintLast Go.Proofs.YtdigplhjfjchnaaW.PrintMore
attribute [local go_sem] max2_int min2_int max_two min_two max_three min_three max_four min_four   -- for this text's walks alone
set_option linter.unusedVariables false
set_option linter.unusedSimpArgs false
mutual
def install_Step.j0 : Nat → Int → Bool → ByteArray → ByteArray → Bool → ByteArray → Int → Int → Option (ByteArray × ByteArray × Bool × ByteArray × Int × Int × Bool × Int)
 | 0, _, _, _, _, _, _, _, _ => none
 | k + 1, x1, x13, x138000, x138001, x138002, x138003, x138004, x138005 => if x13 = true then (some ((⟨#[]⟩ : ByteArray), (⟨#[]⟩ : ByteArray), false, (⟨#[]⟩ : ByteArray), 0, 0, false, 2)) else (if x138002 = true then (install_Step.j1 k x1 (decide (x1 < x138004)) x138000 x138001 x138002 x138003 x138004 x138005) else (install_Step.j1 k x1 true x138000 x138001 x138002 x138003 x138004 x138005))
def install_Step.j1 : Nat → Int → Bool → ByteArray → ByteArray → Bool → ByteArray → Int → Int → Option (ByteArray × ByteArray × Bool × ByteArray × Int × Int × Bool × Int)
 | 0, _, _, _, _, _, _, _, _ => none
 | k + 1, x1, x21, x138000, x138001, x138002, x138003, x138004, x138005 => if x21 = true then (some (x138000, x138001, x138002, x138003, x138004, x138005, false, 0)) else (if x1 = x138004 then ((install_disarm.f x138003 x138001 x138002 x138003 x138004 x138005).bind fun bt140 => (some (bt140.1, bt140.2.1, bt140.2.2.1, bt140.2.2.2.1, bt140.2.2.2.2.1, bt140.2.2.2.2.2, (x1 == x138004), 0))) else ((install_disarm.f x138000 x138001 x138002 x138003 x138004 x138005).bind fun bt146 => (some (bt146.1, bt146.2.1, bt146.2.2.1, bt146.2.2.2.1, bt146.2.2.2.2.1, bt146.2.2.2.2.2, (x1 == x138004), 0))))
end
def install_Step.f (k : Nat) (a0_0 : ByteArray) (a0_1 : ByteArray) (a0_2 : Bool) (a0_3 : ByteArray) (a0_4 : Int) (a0_5 : Int) (a1 : Int) : Option (ByteArray × ByteArray × Bool × ByteArray × Int × Int × Bool × Int) := (install_Check.f k a0_0 a0_1 a0_2 a0_3 a0_4 a0_5).bind fun t139 => (if t139 = 0 then (if a1 < 0 then (install_Step.j0 k a1 true a0_0 a0_1 a0_2 a0_3 a0_4 a0_5) else (install_Step.j0 k a1 (decide (a1 > 1073741824)) a0_0 a0_1 a0_2 a0_3 a0_4 a0_5)) else (some ((⟨#[]⟩ : ByteArray), (⟨#[]⟩ : ByteArray), false, (⟨#[]⟩ : ByteArray), 0, 0, false, 1)))
theorem install_Step.mono_l : ∀ k, (∀ y0 y1 y2 y3 y4 y5 y6 y7, LeO (install_Step.j0 k y0 y1 y2 y3 y4 y5 y6 y7) (install_Step.j0 (k + 1) y0 y1 y2 y3 y4 y5 y6 y7)) ∧ (∀ y0 y1 y2 y3 y4 y5 y6 y7, LeO (install_Step.j1 k y0 y1 y2 y3 y4 y5 y6 y7) (install_Step.j1 (k + 1) y0 y1 y2 y3 y4 y5 y6 y7))
 | 0 => ⟨fun _ _ _ _ _ _ _ _ r h => by simp [install_Step.j0] at h, fun _ _ _ _ _ _ _ _ r h => by simp [install_Step.j1] at h⟩
 | k + 1 => by
  obtain ⟨ih0, ih1⟩ := install_Step.mono_l k
  refine ⟨?_, ?_⟩
  ·intro y0 y1 y2 y3 y4 y5 y6 y7
   unfold install_Step.j0
   repeat' first
   | (with_reducible exact ih0 _ _ _ _ _ _ _ _)
   | (with_reducible exact ih1 _ _ _ _ _ _ _ _)
   | (with_reducible exact install_Check.mono _ _ _ _ _ _ _)
   | (with_reducible exact LeO.refl _)
   | (with_reducible exact LeO.none _)
   | (with_reducible refine LeO.ite ?_ ?_)
   | (with_reducible refine LeO.bind ?_ (fun _ => ?_))
   | exact ih0 _ _ _ _ _ _ _ _
   | exact ih1 _ _ _ _ _ _ _ _
   | exact install_Check.mono _ _ _ _ _ _ _
   | exact LeO.none _
   | refine LeO.ite ?_ ?_
   | refine LeO.bind ?_ (fun _ => ?_)
  ·intro y0 y1 y2 y3 y4 y5 y6 y7
   unfold install_Step.j1
   repeat' first
   | (with_reducible exact ih0 _ _ _ _ _ _ _ _)
   | (with_reducible exact ih1 _ _ _ _ _ _ _ _)
   | (with_reducible exact install_Check.mono _ _ _ _ _ _ _)
   | (with_reducible exact LeO.refl _)
   | (with_reducible exact LeO.none _)
   | (with_reducible refine LeO.ite ?_ ?_)
   | (with_reducible refine LeO.bind ?_ (fun _ => ?_))
   | exact ih0 _ _ _ _ _ _ _ _
   | exact ih1 _ _ _ _ _ _ _ _
   | exact install_Check.mono _ _ _ _ _ _ _
   | exact LeO.none _
   | refine LeO.ite ?_ ?_
   | refine LeO.bind ?_ (fun _ => ?_)
theorem install_Step.mono : ∀ a0 a1 a2 a3 a4 a5 a6 k, LeO (install_Step.f k a0 a1 a2 a3 a4 a5 a6) (install_Step.f (k + 1) a0 a1 a2 a3 a4 a5 a6) := by
 intro a0 a1 a2 a3 a4 a5 a6 k
 obtain ⟨ih0, ih1⟩ := install_Step.mono_l k
 unfold install_Step.f
 repeat' first
  | (with_reducible exact ih0 _ _ _ _ _ _ _ _)
  | (with_reducible exact ih1 _ _ _ _ _ _ _ _)
  | (with_reducible exact install_Check.mono _ _ _ _ _ _ _)
  | (with_reducible exact LeO.refl _)
  | (with_reducible exact LeO.none _)
  | (with_reducible refine LeO.ite ?_ ?_)
  | (with_reducible refine LeO.bind ?_ (fun _ => ?_))
  | exact ih0 _ _ _ _ _ _ _ _
  | exact ih1 _ _ _ _ _ _ _ _
  | exact install_Check.mono _ _ _ _ _ _ _
  | exact LeO.none _
  | refine LeO.ite ?_ ?_
  | refine LeO.bind ?_ (fun _ => ?_)
set_option maxHeartbeats 8000000 in
set_option maxRecDepth 100000 in
theorem install_Step.calls (k : Nat) (a0_0 : ByteArray) (a0_1 : ByteArray) (a0_2 : Bool) (a0_3 : ByteArray) (a0_4 : Int) (a0_5 : Int) (a1 : Int) (r1 : ByteArray) (r2 : ByteArray) (r3 : Bool) (r4 : ByteArray) (r5 : Int) (r6 : Int) (r7 : Bool) (r8 : Int) (w : World) (h : install_Step.f k a0_0 a0_1 a0_2 a0_3 a0_4 a0_5 a1 = some (r1, r2, r3, r4, r5, r6, r7, r8)) :
 Calls Try.prog 15 #[.agg #[.string a0_0, .string a0_1, .bool a0_2, .string a0_3, .int .i64 a0_4, .int .i64 a0_5], .int .i64 a1] w fun e w' => e = .returned (.tuple #[.agg #[.string r1, .string r2, .bool r3, .string r4, .int .i64 r5, .int .i64 r6], .bool r7, .int .i64 r8]) ∧ Below w.heap.size w w' := by
 have hu28 := Try.underlying28
 have HB := Aside0.mk (Below.refl w.heap.size w)
 have H : ((install_Check.f k a0_0 a0_1 a0_2 a0_3 a0_4 a0_5).bind fun t139 => (if t139 = 0 then (if a1 < 0 then (install_Step.j0 k a1 true a0_0 a0_1 a0_2 a0_3 a0_4 a0_5) else (install_Step.j0 k a1 (decide (a1 > 1073741824)) a0_0 a0_1 a0_2 a0_3 a0_4 a0_5)) else (some ((⟨#[]⟩ : ByteArray), (⟨#[]⟩ : ByteArray), false, (⟨#[]⟩ : ByteArray), 0, 0, false, 1)))) = some (r1, r2, r3, r4, r5, r6, r7, r8) := h
 clear h
 replace H := Option.bind_eq_some_iff.mp H
 obtain ⟨t139, A30, H⟩ := H
 (try dsimp only at H)
 have A3 := Aside0.mk A30
 clear A30
 by_cases c4 : t139 = 0
 ·rw [if_pos c4] at H
  have c4b0 : (t139 == 0) = true := beq_iff_eq.mpr c4
  have c4b1 : (t139 != 0) = false := bne_eq_false_iff_eq.mpr c4
  clear c4
  have HC5 := Aside0.mk H
  clear H
  go_enter Try.func15, Try.ntmps15
  go_upto_region 3 with (first | ((with_reducible refine gate_dst (N := 2) rfl ?_); refine boxE 2 #[.string a0_0, .string a0_1, .bool a0_2, .string a0_3, .int .i64 a0_4, .int .i64 a0_5] 28 ?_; intro gb137 hg w6 hbox hb; have BK137 := Aside0.mk (hbox); have GW137 := gw hg HB; have GE137 := gw hg HB; replace HB := hbS HB hb; clear hb hbox hg) | ((with_reducible refine gate_dst (N := 4) rfl ?_); refine boxE 4 #[.string (⟨#[]⟩ : ByteArray), .string (⟨#[]⟩ : ByteArray), .bool false, .string (⟨#[]⟩ : ByteArray), .int .i64 0, .int .i64 0] 28 ?_; intro gb138 hg w7 hbox hb; have BK138 := Aside0.mk (hbox); have GW138 := gw hg HB; have GE138 := gw hg HB; replace HB := hbS HB hb; have NB137_138 := nbl hg BK137; have NB138_137 := nbg hg BK137; replace BK137 := bkB BK137 hb; clear hb hbox hg; have hnb8 := NB137_138.out; have hnc8 := NB138_137.out; obtain ⟨z0, z1, z2, z3, z4, z5, y0, y1, y2, y3, y4, y5⟩ := bc6 BK137) | ((with_reducible refine gate_callee (f := 16) rfl ?_); refine goesL_ (some 10) rfl rfl Try.func16 (by kernel_rfl) rfl #[.agg #[.string a0_0, .string a0_1, .bool a0_2, .string a0_3, .int .i64 a0_4, .int .i64 a0_5]] rfl sma ?_; (with_reducible refine (install_Check.calls k a0_0 a0_1 a0_2 a0_3 a0_4 a0_5 t139 _ A3.out).mono ?_); rintro e w10 ⟨rfl, hb⟩; refine ⟨_, rfl, ?_⟩; replace BK137 := bkB BK137 hb; replace BK138 := bkB BK138 hb; replace HB := hbS HB hb; (try clear hb); (try clear hb2); (try clear hk); (try clear hi)))
  (try simp only [Act.put, List.setIfInBounds_toArray, List.set_cons_zero, List.set_cons_succ])
  go_cut [13] (fun v13 wc => ∃ (kq : Nat) (x13_4 : Bool), v13 = .bool x13_4 ∧ Aside0 (install_Step.j0 kq a1 x13_4 a0_0 a0_1 a0_2 a0_3 a0_4 a0_5 = some (r1, r2, r3, r4, r5, r6, r7, r8)) ∧ Aside0 (kq ≤ k) ∧ Aside0 (wc.heap[gb137]? = some (.cells #[.string a0_0, .string a0_1, .bool a0_2, .string a0_3, .int .i64 a0_4, .int .i64 a0_5] 28 (0, 0))) ∧ Aside0 (wc.heap[gb138]? = some (.cells #[.string (⟨#[]⟩ : ByteArray), .string (⟨#[]⟩ : ByteArray), .bool false, .string (⟨#[]⟩ : ByteArray), .int .i64 0, .int .i64 0] 28 (0, 0))) ∧ Aside0 (Below w.heap.size w wc))
  case first =>
   have H := HC5.out
   clear HC5
   by_cases c11 : a1 < 0
   ·rw [if_pos c11] at H
    have c11b0 : decide (a1 < 0) = true := decide_eq_true c11
    clear c11
    (first | rw [c11b0] | (simp only [i64_w, i32_w]; rw [c11b0]) | skip)
    have H' := Aside0.mk H
    clear H
    go_wp2
    go_meet
    case rel => exact ⟨_, (true), rfs, H', kle, bkA BK137, bkA BK138, hbA HB⟩
   ·rw [if_neg c11] at H
    have c11b0 : decide (a1 < 0) = false := decide_eq_false c11
    clear c11
    (first | rw [c11b0] | (simp only [i64_w, i32_w]; rw [c11b0]) | skip)
    have H' := Aside0.mk H
    clear H
    go_wp2
    go_meet
    case rel => exact ⟨_, (decide (a1 > 1073741824)), rfs, H', kle, bkA BK137, bkA BK138, hbA HB⟩
  case rest =>
   clear HC5
   try clear c4
   try clear c4b0
   try clear c4b1
   try clear hcz9_0
   try clear hcz9_1
   try clear hcz9_2
   try clear hcz9_3
   try clear hcz9_4
   try clear hcz9_5
   try clear hfz9_0
   try clear hfz9_1
   try clear hfz9_2
   try clear hfz9_3
   try clear hfz9_4
   try clear hfz9_5
   obtain ⟨kq, x13_4, rfl, HA, HJ4, BK137, BK138, HB⟩ := hcut
   cases kq with
   | zero => exact absurd HA.out (by simp [install_Step.j0])
   | succ kj4 =>
    have H := HA.out
    clear HA
    simp only [install_Step.j0] at H
    by_cases c12 : x13_4 = true
    ·subst c12
     rw [if_pos rfl] at H
     simp only [Option.some.injEq, Prod.mk.injEq] at H
     obtain ⟨rfl, rfl, rfl, rfl, rfl, rfl, rfl, rfl⟩ := H
     have hnb13 := NB138_137.out
     have hnc13 := NB137_138.out
     obtain ⟨z0, z1, z2, z3, z4, z5, y0, y1, y2, y3, y4, y5⟩ := bc6 BK138
     go_wp2
     refine bodyPost_ret (results_ctt rfl _ _ gb138 28 #[.string (⟨#[]⟩ : ByteArray), .string (⟨#[]⟩ : ByteArray), .bool false, .string (⟨#[]⟩ : ByteArray), .int .i64 0, .int .i64 0] (0, 0) _ rfl (bkp BK138) Try.underlying28 rfl (by kernel_rfl)) rfl ?_
     exact ⟨rerr, hbx HB⟩
    ·replace c12 := Bool.eq_false_iff.mpr c12
     subst c12
     rw [if_neg (show ¬ (false = true) by decide)] at H
     have HC15 := Aside0.mk H
     clear H
     go_upto_region 5 with (fail)
     go_cut [21] (fun v21 wc => ∃ (kq : Nat) (x21_14 : Bool), v21 = .bool x21_14 ∧ Aside0 (install_Step.j1 kq a1 x21_14 a0_0 a0_1 a0_2 a0_3 a0_4 a0_5 = some (r1, r2, r3, r4, r5, r6, r7, r8)) ∧ Aside0 (kq ≤ kj4) ∧ Aside0 (wc.heap[gb137]? = some (.cells #[.string a0_0, .string a0_1, .bool a0_2, .string a0_3, .int .i64 a0_4, .int .i64 a0_5] 28 (0, 0))) ∧ Aside0 (wc.heap[gb138]? = some (.cells #[.string (⟨#[]⟩ : ByteArray), .string (⟨#[]⟩ : ByteArray), .bool false, .string (⟨#[]⟩ : ByteArray), .int .i64 0, .int .i64 0] 28 (0, 0))) ∧ Aside0 (Below w.heap.size w wc))
     case first =>
      have H := HC15.out
      clear HC15
      by_cases c16 : a0_2 = true
      ·subst c16
       rw [if_pos rfl] at H
       have H' := Aside0.mk H
       clear H
       have hnb17 := NB137_138.out
       have hnc17 := NB138_137.out
       obtain ⟨z0, z1, z2, z3, z4, z5, y0, y1, y2, y3, y4, y5⟩ := bc6 BK137
       go_wp2
       go_meet
       case rel => exact ⟨_, (decide (a1 < a0_4)), rfs, H', ⟨by have := HJ4.out; first | omega | exact Nat.le_refl _⟩, bkA BK137, bkA BK138, hbA HB⟩
      ·replace c16 := Bool.eq_false_iff.mpr c16
       subst c16
       rw [if_neg (show ¬ (false = true) by decide)] at H
       have H' := Aside0.mk H
       clear H
       have hnb19 := NB137_138.out
       have hnc19 := NB138_137.out
       obtain ⟨z0, z1, z2, z3, z4, z5, y0, y1, y2, y3, y4, y5⟩ := bc6 BK137
       go_wp2
       go_meet
       case rel => exact ⟨_, (true), rfs, H', ⟨by have := HJ4.out; first | omega | exact Nat.le_refl _⟩, bkA BK137, bkA BK138, hbA HB⟩
     case rest =>
      clear HC15
      try clear c4
      try clear c4b0
      try clear c4b1
      try clear c12
      try clear hcz9_0
      try clear hcz9_1
      try clear hcz9_2
      try clear hcz9_3
      try clear hcz9_4
      try clear hcz9_5
      try clear hfz9_0
      try clear hfz9_1
      try clear hfz9_2
      try clear hfz9_3
      try clear hfz9_4
      try clear hfz9_5
      obtain ⟨kq, x21_14, rfl, HA, HJ14, BK137, BK138, HB⟩ := hcut
      cases kq with
      | zero => exact absurd HA.out (by simp [install_Step.j1])
      | succ kj14 =>
       have H := HA.out
       clear HA
       simp only [install_Step.j1] at H
       by_cases c21 : x21_14 = true
       ·subst c21
        rw [if_pos rfl] at H
        simp only [Option.some.injEq, Prod.mk.injEq] at H
        obtain ⟨rfl, rfl, rfl, rfl, rfl, rfl, rfl, rfl⟩ := H
        have hnb22 := NB137_138.out
        have hnc22 := NB138_137.out
        obtain ⟨z0, z1, z2, z3, z4, z5, y0, y1, y2, y3, y4, y5⟩ := bc6 BK137
        obtain ⟨z0, z1, z2, z3, z4, z5, y0, y1, y2, y3, y4, y5⟩ := bc6 BK138
        go_wp2
        refine bodyPost_ret (results_ctt rfl _ _ gb138 28 #[.string a0_0, .string a0_1, .bool a0_2, .string a0_3, .int .i64 a0_4, .int .i64 a0_5] (0, 0) _ rfl (bkp BK138) Try.underlying28 rfl (by kernel_rfl)) rfl ?_
        exact ⟨rerr, hbx HB⟩
       ·replace c21 := Bool.eq_false_iff.mpr c21
        subst c21
        rw [if_neg (show ¬ (false = true) by decide)] at H
        by_cases c25 : a1 = a0_4
        ·rw [if_pos c25] at H
         have c25b0 : (a1 == a0_4) = true := beq_iff_eq.mpr c25
         have c25b1 : (a1 != a0_4) = false := bne_eq_false_iff_eq.mpr c25
         clear c25
         replace H := Option.bind_eq_some_iff.mp H
         obtain ⟨⟨t140, t141, t142, t143, t144, t145⟩, A260, H⟩ := H
         (try dsimp only at H)
         have A26 := Aside0.mk A260
         clear A260
         simp only [Option.some.injEq, Prod.mk.injEq] at H
         obtain ⟨rfl, rfl, rfl, rfl, rfl, rfl, rfl, rfl⟩ := H
         have hnb27 := NB137_138.out
         have hnc27 := NB138_137.out
         obtain ⟨z0, z1, z2, z3, z4, z5, y0, y1, y2, y3, y4, y5⟩ := bc6 BK137
         go_wp2_with (first | ((with_reducible refine gate_callee (f := 43) rfl ?_); refine goesL_ (some 41) rfl rfl Try.func43 (by kernel_rfl) rfl #[.agg #[.string a0_3, .string a0_1, .bool a0_2, .string a0_3, .int .i64 a0_4, .int .i64 a0_5]] rfl sma ?_; (with_reducible refine (install_disarm.calls a0_3 a0_1 a0_2 a0_3 a0_4 a0_5 t140 t141 t142 t143 t144 t145 _ A26.out).mono ?_); rintro e w29 ⟨rfl, hb⟩; refine ⟨_, rfl, ?_⟩; replace BK137 := Aside0.mk (blk_below (o := .cells #[.string a0_3, .string a0_1, .bool a0_2, .string a0_3, .int .i64 a0_4, .int .i64 a0_5] 28 (0, 0)) (bkp BK137) hb); replace BK138 := bkfB BK138 hb; replace HB := hbS HB hb; (try clear hb); (try clear hb2); (try clear hk); (try clear hi); obtain ⟨z0, z1, z2, z3, z4, z5, y0, y1, y2, y3, y4, y5⟩ := bc6 BK138))
         refine bodyPost_ret (results_ctt rfl _ _ gb138 28 #[.string t140, .string t141, .bool t142, .string t143, .int .i64 t144, .int .i64 t145] (0, 0) _ rfl (bkp BK138) Try.underlying28 rfl (by kernel_rfl)) rfl ?_
         exact ⟨rerr, hbx HB⟩
        ·rw [if_neg c25] at H
         have c25b0 : (a1 == a0_4) = false := beq_eq_false_iff_ne.mpr c25
         have c25b1 : (a1 != a0_4) = true := bne_iff_ne.mpr c25
         replace H := Option.bind_eq_some_iff.mp H
         obtain ⟨⟨t146, t147, t148, t149, t150, t151⟩, A310, H⟩ := H
         (try dsimp only at H)
         have A31 := Aside0.mk A310
         clear A310
         simp only [Option.some.injEq, Prod.mk.injEq] at H
         obtain ⟨rfl, rfl, rfl, rfl, rfl, rfl, rfl, rfl⟩ := H
         have hnb32 := NB137_138.out
         have hnc32 := NB138_137.out
         obtain ⟨z0, z1, z2, z3, z4, z5, y0, y1, y2, y3, y4, y5⟩ := bc6 BK137
         go_wp2_with (first | ((with_reducible refine gate_callee (f := 43) rfl ?_); refine goesL_ (some 41) rfl rfl Try.func43 (by kernel_rfl) rfl #[.agg #[.string a0_0, .string a0_1, .bool a0_2, .string a0_3, .int .i64 a0_4, .int .i64 a0_5]] rfl sma ?_; (with_reducible refine (install_disarm.calls a0_0 a0_1 a0_2 a0_3 a0_4 a0_5 t146 t147 t148 t149 t150 t151 _ A31.out).mono ?_); rintro e w34 ⟨rfl, hb⟩; refine ⟨_, rfl, ?_⟩; replace BK137 := bkB BK137 hb; replace BK138 := bkB BK138 hb; replace HB := hbS HB hb; (try clear hb); (try clear hb2); (try clear hk); (try clear hi); obtain ⟨z0, z1, z2, z3, z4, z5, y0, y1, y2, y3, y4, y5⟩ := bc6 BK138))
         refine bodyPost_ret (results_ctt rfl _ _ gb138 28 #[.string t146, .string t147, .bool t148, .string t149, .int .i64 t150, .int .i64 t151] (0, 0) _ rfl (bkp BK138) Try.underlying28 rfl (by kernel_rfl)) rfl ?_
         exact ⟨rerr, hbx HB⟩
 ·rw [if_neg c4] at H
  have c4b0 : (t139 == 0) = false := beq_eq_false_iff_ne.mpr c4
  have c4b1 : (t139 != 0) = true := bne_iff_ne.mpr c4
  simp only [Option.some.injEq, Prod.mk.injEq] at H
  obtain ⟨rfl, rfl, rfl, rfl, rfl, rfl, rfl, rfl⟩ := H
  go_enter Try.func15, Try.ntmps15
  go_wp2_with (first | ((with_reducible refine gate_dst (N := 2) rfl ?_); refine boxE 2 #[.string a0_0, .string a0_1, .bool a0_2, .string a0_3, .int .i64 a0_4, .int .i64 a0_5] 28 ?_; intro gb137 hg w36 hbox hb; have BK137 := Aside0.mk (hbox); have GW137 := gw hg HB; have GE137 := gw hg HB; replace HB := hbS HB hb; clear hb hbox hg) | ((with_reducible refine gate_dst (N := 4) rfl ?_); refine boxE 4 #[.string (⟨#[]⟩ : ByteArray), .string (⟨#[]⟩ : ByteArray), .bool false, .string (⟨#[]⟩ : ByteArray), .int .i64 0, .int .i64 0] 28 ?_; intro gb138 hg w37 hbox hb; have BK138 := Aside0.mk (hbox); have GW138 := gw hg HB; have GE138 := gw hg HB; replace HB := hbS HB hb; have NB137_138 := nbl hg BK137; have NB138_137 := nbg hg BK137; replace BK137 := bkB BK137 hb; clear hb hbox hg; have hnb38 := NB137_138.out; have hnc38 := NB138_137.out; obtain ⟨z0, z1, z2, z3, z4, z5, y0, y1, y2, y3, y4, y5⟩ := bc6 BK137) | ((with_reducible refine gate_callee (f := 16) rfl ?_); refine goesL_ (some 10) rfl rfl Try.func16 (by kernel_rfl) rfl #[.agg #[.string a0_0, .string a0_1, .bool a0_2, .string a0_3, .int .i64 a0_4, .int .i64 a0_5]] rfl sma ?_; (with_reducible refine (install_Check.calls k a0_0 a0_1 a0_2 a0_3 a0_4 a0_5 t139 _ A3.out).mono ?_); rintro e w40 ⟨rfl, hb⟩; refine ⟨_, rfl, ?_⟩; replace BK137 := bkB BK137 hb; replace BK138 := bkB BK138 hb; replace HB := hbS HB hb; (try clear hb); (try clear hb2); (try clear hk); (try clear hi); obtain ⟨z0, z1, z2, z3, z4, z5, y0, y1, y2, y3, y4, y5⟩ := bc6 BK138))
  refine bodyPost_ret (results_ctt rfl _ _ gb138 28 #[.string (⟨#[]⟩ : ByteArray), .string (⟨#[]⟩ : ByteArray), .bool false, .string (⟨#[]⟩ : ByteArray), .int .i64 0, .int .i64 0] (0, 0) _ rfl (bkp BK138) Try.underlying28 rfl (by kernel_rfl)) rfl ?_
  exact ⟨rerr, hbx HB⟩
end Go.Proofs.Ytdigplhjfjchnaa.PQ
