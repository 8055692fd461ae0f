-- Written by fprint.py, a program of this session's, over the kit's print, with hand-proved functions among them. Lean checks it.
import Derived.Test.YtdigplhjfjchnaaPQx0
import Derived.Test.YtdigplhjfjchnaaPQxf16
import Derived.Test.YtdigplhjfjchnaaPQxf43
namespace Go.Proofs.Ytdigplhjfjchnaa.PQ
open Go.RowKit Go.Proofs.YtdigplhjfjchnaaW.PrintWords Go.Proofs.YtdigplhjfjchnaaW.PrintLast Go.Proofs.YtdigplhjfjchnaaW.PrintMore
attribute [local go_sem] max2_int min2_int max_two min_two max_three min_three max_four min_four   -- for this text's walks alone
set_option linter.unusedVariables false
set_option linter.unusedSimpArgs false

/-! ### install_Step: function 15 -/
mutual
def install_Step.j0 : Nat → Int → Bool → ByteArray → ByteArray → Bool → ByteArray → Int → Int → Option (ByteArray × ByteArray × Bool × ByteArray × Int × Int × Bool × Int)
  | 0, _, _, _, _, _, _, _, _ => none
  | k + 1, x1, x13, x138000, x138001, x138002, x138003, x138004, x138005 => if x13 = true then (some ((⟨#[]⟩ : ByteArray), (⟨#[]⟩ : ByteArray), false, (⟨#[]⟩ : ByteArray), 0, 0, false, 2)) else (if x138002 = true then (install_Step.j1 k x1 (decide (x1 < x138004)) x138000 x138001 x138002 x138003 x138004 x138005) else (install_Step.j1 k x1 true x138000 x138001 x138002 x138003 x138004 x138005))
def install_Step.j1 : Nat → Int → Bool → ByteArray → ByteArray → Bool → ByteArray → Int → Int → Option (ByteArray × ByteArray × Bool × ByteArray × Int × Int × Bool × Int)
  | 0, _, _, _, _, _, _, _, _ => none
  | k + 1, x1, x21, x138000, x138001, x138002, x138003, x138004, x138005 => if x21 = true then (some (x138000, x138001, x138002, x138003, x138004, x138005, false, 0)) else (if x1 = x138004 then ((install_disarm.f x138003 x138001 x138002 x138003 x138004 x138005).bind fun bt140 => (some (bt140.1, bt140.2.1, bt140.2.2.1, bt140.2.2.2.1, bt140.2.2.2.2.1, bt140.2.2.2.2.2, (x1 == x138004), 0))) else ((install_disarm.f x138000 x138001 x138002 x138003 x138004 x138005).bind fun bt146 => (some (bt146.1, bt146.2.1, bt146.2.2.1, bt146.2.2.2.1, bt146.2.2.2.2.1, bt146.2.2.2.2.2, (x1 == x138004), 0))))
end
def install_Step.f (k : Nat) (a0_0 : ByteArray) (a0_1 : ByteArray) (a0_2 : Bool) (a0_3 : ByteArray) (a0_4 : Int) (a0_5 : Int) (a1 : Int) : Option (ByteArray × ByteArray × Bool × ByteArray × Int × Int × Bool × Int) := (install_Check.f k a0_0 a0_1 a0_2 a0_3 a0_4 a0_5).bind fun t139 => (if t139 = 0 then (if a1 < 0 then (install_Step.j0 k a1 true a0_0 a0_1 a0_2 a0_3 a0_4 a0_5) else (install_Step.j0 k a1 (decide (a1 > 1073741824)) a0_0 a0_1 a0_2 a0_3 a0_4 a0_5)) else (some ((⟨#[]⟩ : ByteArray), (⟨#[]⟩ : ByteArray), false, (⟨#[]⟩ : ByteArray), 0, 0, false, 1)))
theorem install_Step.mono_l : ∀ k, (∀ y0 y1 y2 y3 y4 y5 y6 y7, LeO (install_Step.j0 k y0 y1 y2 y3 y4 y5 y6 y7) (install_Step.j0 (k + 1) y0 y1 y2 y3 y4 y5 y6 y7)) ∧ (∀ y0 y1 y2 y3 y4 y5 y6 y7, LeO (install_Step.j1 k y0 y1 y2 y3 y4 y5 y6 y7) (install_Step.j1 (k + 1) y0 y1 y2 y3 y4 y5 y6 y7))
  | 0 => ⟨fun _ _ _ _ _ _ _ _ r h => by simp [install_Step.j0] at h, fun _ _ _ _ _ _ _ _ r h => by simp [install_Step.j1] at h⟩
  | k + 1 => by
    obtain ⟨ih0, ih1⟩ := install_Step.mono_l k
    refine ⟨?_, ?_⟩
    · intro y0 y1 y2 y3 y4 y5 y6 y7
      unfold install_Step.j0
      repeat' first
      | (with_reducible exact ih0 _ _ _ _ _ _ _ _)
      | (with_reducible exact ih1 _ _ _ _ _ _ _ _)
      | (with_reducible exact install_Check.mono _ _ _ _ _ _ _)
      | (with_reducible exact LeO.refl _)
      | (with_reducible exact LeO.none _)
      | (with_reducible refine LeO.ite ?_ ?_)
      | (with_reducible refine LeO.bind ?_ (fun _ => ?_))
      | exact ih0 _ _ _ _ _ _ _ _
      | exact ih1 _ _ _ _ _ _ _ _
      | exact install_Check.mono _ _ _ _ _ _ _
      | exact LeO.none _
      | refine LeO.ite ?_ ?_
      | refine LeO.bind ?_ (fun _ => ?_)
    · intro y0 y1 y2 y3 y4 y5 y6 y7
      unfold install_Step.j1
      repeat' first
      | (with_reducible exact ih0 _ _ _ _ _ _ _ _)
      | (with_reducible exact ih1 _ _ _ _ _ _ _ _)
      | (with_reducible exact install_Check.mono _ _ _ _ _ _ _)
      | (with_reducible exact LeO.refl _)
      | (with_reducible exact LeO.none _)
      | (with_reducible refine LeO.ite ?_ ?_)
      | (with_reducible refine LeO.bind ?_ (fun _ => ?_))
      | exact ih0 _ _ _ _ _ _ _ _
      | exact ih1 _ _ _ _ _ _ _ _
      | exact install_Check.mono _ _ _ _ _ _ _
      | exact LeO.none _
      | refine LeO.ite ?_ ?_
      | refine LeO.bind ?_ (fun _ => ?_)
theorem install_Step.mono : ∀ a0 a1 a2 a3 a4 a5 a6 k, LeO (install_Step.f k a0 a1 a2 a3 a4 a5 a6) (install_Step.f (k + 1) a0 a1 a2 a3 a4 a5 a6) := by
  intro a0 a1 a2 a3 a4 a5 a6 k
  obtain ⟨ih0, ih1⟩ := install_Step.mono_l k
  unfold install_Step.f
  repeat' first
      | (with_reducible exact ih0 _ _ _ _ _ _ _ _)
      | (with_reducible exact ih1 _ _ _ _ _ _ _ _)
      | (with_reducible exact install_Check.mono _ _ _ _ _ _ _)
      | (with_reducible exact LeO.refl _)
      | (with_reducible exact LeO.none _)
      | (with_reducible refine LeO.ite ?_ ?_)
      | (with_reducible refine LeO.bind ?_ (fun _ => ?_))
      | exact ih0 _ _ _ _ _ _ _ _
      | exact ih1 _ _ _ _ _ _ _ _
      | exact install_Check.mono _ _ _ _ _ _ _
      | exact LeO.none _
      | refine LeO.ite ?_ ?_
      | refine LeO.bind ?_ (fun _ => ?_)
set_option maxHeartbeats 8000000 in
set_option maxRecDepth 100000 in
theorem install_Step.calls (k : Nat) (a0_0 : ByteArray) (a0_1 : ByteArray) (a0_2 : Bool) (a0_3 : ByteArray) (a0_4 : Int) (a0_5 : Int) (a1 : Int) (r1 : ByteArray) (r2 : ByteArray) (r3 : Bool) (r4 : ByteArray) (r5 : Int) (r6 : Int) (r7 : Bool) (r8 : Int) (w : World) (h : install_Step.f k a0_0 a0_1 a0_2 a0_3 a0_4 a0_5 a1 = some (r1, r2, r3, r4, r5, r6, r7, r8)) :
    Calls Try.prog 15 #[.agg #[.string a0_0, .string a0_1, .bool a0_2, .string a0_3, .int .i64 a0_4, .int .i64 a0_5], .int .i64 a1] w fun e w' => e = .returned (.tuple #[.agg #[.string r1, .string r2, .bool r3, .string r4, .int .i64 r5, .int .i64 r6], .bool r7, .int .i64 r8]) ∧ Below w.heap.size w w' := by
  have hu28 := Try.underlying28
  have HB := Aside0.mk (Below.refl w.heap.size w)
  have H : ((install_Check.f k a0_0 a0_1 a0_2 a0_3 a0_4 a0_5).bind fun t139 => (if t139 = 0 then (if a1 < 0 then (install_Step.j0 k a1 true a0_0 a0_1 a0_2 a0_3 a0_4 a0_5) else (install_Step.j0 k a1 (decide (a1 > 1073741824)) a0_0 a0_1 a0_2 a0_3 a0_4 a0_5)) else (some ((⟨#[]⟩ : ByteArray), (⟨#[]⟩ : ByteArray), false, (⟨#[]⟩ : ByteArray), 0, 0, false, 1)))) = some (r1, r2, r3, r4, r5, r6, r7, r8) := h
  clear h
  replace H := Option.bind_eq_some_iff.mp H
  obtain ⟨t139, A30, H⟩ := H
  replace H : (if t139 = 0 then (if a1 < 0 then (install_Step.j0 k a1 true a0_0 a0_1 a0_2 a0_3 a0_4 a0_5) else (install_Step.j0 k a1 (decide (a1 > 1073741824)) a0_0 a0_1 a0_2 a0_3 a0_4 a0_5)) else (some ((⟨#[]⟩ : ByteArray), (⟨#[]⟩ : ByteArray), false, (⟨#[]⟩ : ByteArray), 0, 0, false, 1))) = some (r1, r2, r3, r4, r5, r6, r7, r8) := H
  have A3 := Aside0.mk A30
  clear A30
  by_cases c4 : t139 = 0
  · rw [if_pos c4] at H
    have c4b0 : (t139 == 0) = true := beq_iff_eq.mpr c4
    have c4b1 : (t139 != 0) = false := bne_eq_false_iff_eq.mpr c4
    clear c4
    have HC5 := Aside0.mk H
    clear H
    go_enter Try.func15, Try.ntmps15
    go_upto_region 3 with (first | ((with_reducible refine gate_dst (N := 2) rfl ?_); refine box_event ?hg (N := 2) ?hd (cs := #[.string a0_0, .string a0_1, .bool a0_2, .string a0_3, .int .i64 a0_4, .int .i64 a0_5]) (t := 28) ?hr ?_; (case hd => rfl); (case hg => rfl); (case hr => first | (go_simp; done) | (go_simp; rfl)); intro gb137 hg w6 hbox hb; have n0_ := Aside0.mk (below_step (by repeat (first | (with_reducible first | exact HB.out | apply below_alloc | apply pw_below_drewN | apply below_drew1) | exact HB.out)) hb); have n1_ := Aside0.mk (hbox); have n2_ := Aside0.mk ((by rw [hg]; exact (below_size (by repeat (first | (with_reducible first | exact HB.out | apply below_alloc | apply pw_below_drewN | apply below_drew1) | exact HB.out))) : w.heap.size ≤ gb137)); have n3_ := Aside0.mk ((by rw [hg]; exact (below_size (by repeat (first | (with_reducible first | exact HB.out | apply below_alloc | apply pw_below_drewN | apply below_drew1) | exact HB.out))) : w.heap.size ≤ gb137)); clear HB; have HB := n0_; have BK137 := n1_; have GW137 := n2_; have GE137 := n3_; clear n0_ n1_ n2_ n3_; clear hb hbox hg) | ((with_reducible refine gate_dst (N := 4) rfl ?_); refine box_event ?hg (N := 4) ?hd (cs := #[.string (⟨#[]⟩ : ByteArray), .string (⟨#[]⟩ : ByteArray), .bool false, .string (⟨#[]⟩ : ByteArray), .int .i64 0, .int .i64 0]) (t := 28) ?hr ?_; (case hd => rfl); (case hg => rfl); (case hr => first | (go_simp; done) | (go_simp; rfl)); intro gb138 hg w7 hbox hb; have n0_ := Aside0.mk (blk_below (g := gb137) (o := .cells #[.string a0_0, .string a0_1, .bool a0_2, .string a0_3, .int .i64 a0_4, .int .i64 a0_5] 28 (0, 0)) (by (with_reducible repeat (first | refine blk_drewN ?_ _ | refine blk_drew ?_ | refine blk_alloc ?_ _)); exact BK137.out) hb); have n1_ := Aside0.mk (below_step (by repeat (first | (with_reducible first | exact HB.out | apply below_alloc | apply pw_below_drewN | apply below_drew1 | refine below_set ?_ GE137.out) | exact HB.out)) hb); have n2_ := Aside0.mk (hbox); have n3_ := Aside0.mk ((by rw [hg]; exact (below_size (by repeat (first | (with_reducible first | exact HB.out | apply below_alloc | apply pw_below_drewN | apply below_drew1 | refine below_set ?_ GE137.out) | exact HB.out))) : w.heap.size ≤ gb138)); have n4_ := Aside0.mk ((by rw [hg]; exact (below_size (by repeat (first | (with_reducible first | exact HB.out | apply below_alloc | apply pw_below_drewN | apply below_drew1 | refine below_set ?_ GE137.out) | exact HB.out))) : w.heap.size ≤ gb138)); have n5_ := Aside0.mk ((by rw [hg]; exact Nat.ne_of_lt (blk_lt (g := gb137) (o := .cells #[.string a0_0, .string a0_1, .bool a0_2, .string a0_3, .int .i64 a0_4, .int .i64 a0_5] 28 (0, 0)) (by (with_reducible repeat (first | refine blk_drewN ?_ _ | refine blk_drew ?_ | refine blk_alloc ?_ _)); exact BK137.out)) : gb137 ≠ gb138)); have n6_ := Aside0.mk ((by rw [hg]; exact Nat.ne_of_gt (blk_lt (g := gb137) (o := .cells #[.string a0_0, .string a0_1, .bool a0_2, .string a0_3, .int .i64 a0_4, .int .i64 a0_5] 28 (0, 0)) (by (with_reducible repeat (first | refine blk_drewN ?_ _ | refine blk_drew ?_ | refine blk_alloc ?_ _)); exact BK137.out)) : gb138 ≠ gb137)); clear BK137; clear HB; have BK137 := n0_; have HB := n1_; have BK138 := n2_; have GW138 := n3_; have GE138 := n4_; have NB137_138 := n5_; have NB138_137 := n6_; clear n0_ n1_ n2_ n3_ n4_ n5_ n6_; clear hb hbox hg; have hnb8 := NB137_138.out; have hnc8 := NB138_137.out; have hcz9_0 : w7.cell? ⟨gb137, 0, none⟩ = some (.string a0_0) := (blk_cell BK137.out 0).trans rfl; have hcz9_1 : w7.cell? ⟨gb137, 1, none⟩ = some (.string a0_1) := (blk_cell BK137.out 1).trans rfl; have hcz9_2 : w7.cell? ⟨gb137, 2, none⟩ = some (.bool a0_2) := (blk_cell BK137.out 2).trans rfl; have hcz9_3 : w7.cell? ⟨gb137, 3, none⟩ = some (.string a0_3) := (blk_cell BK137.out 3).trans rfl; have hcz9_4 : w7.cell? ⟨gb137, 4, none⟩ = some (.int .i64 a0_4) := (blk_cell BK137.out 4).trans rfl; have hcz9_5 : w7.cell? ⟨gb137, 5, none⟩ = some (.int .i64 a0_5) := (blk_cell BK137.out 5).trans rfl; have hfz9_0 := blk_frozen BK137.out 0; have hfz9_1 := blk_frozen BK137.out 1; have hfz9_2 := blk_frozen BK137.out 2; have hfz9_3 := blk_frozen BK137.out 3; have hfz9_4 := blk_frozen BK137.out 4; have hfz9_5 := blk_frozen BK137.out 5) | ((with_reducible refine gate_callee (f := 16) rfl ?_); refine goesL_ (some 10) rfl rfl Try.func16 (by kernel_rfl) rfl #[.agg #[.string a0_0, .string a0_1, .bool a0_2, .string a0_3, .int .i64 a0_4, .int .i64 a0_5]] rfl (by (try simp only [List.map_toArray, List.map_cons, List.map_nil]); first | done | rfl | (simp only [List.length_drop, List.length_take]; rfl)) ?_; (with_reducible refine (install_Check.calls k a0_0 a0_1 a0_2 a0_3 a0_4 a0_5 t139 _ A3.out).mono ?_); rintro e w10 ⟨rfl, hb⟩; refine ⟨_, rfl, ?_⟩; have n0_ := Aside0.mk (blk_below (g := gb137) (o := .cells #[.string a0_0, .string a0_1, .bool a0_2, .string a0_3, .int .i64 a0_4, .int .i64 a0_5] 28 (0, 0)) (by (with_reducible repeat (first | refine blk_drewN ?_ _ | refine blk_drew ?_ | refine blk_alloc ?_ _)); exact BK137.out) hb); have n1_ := Aside0.mk (blk_below (g := gb138) (o := .cells #[.string (⟨#[]⟩ : ByteArray), .string (⟨#[]⟩ : ByteArray), .bool false, .string (⟨#[]⟩ : ByteArray), .int .i64 0, .int .i64 0] 28 (0, 0)) (by (with_reducible repeat (first | refine blk_drewN ?_ _ | refine blk_drew ?_ | refine blk_alloc ?_ _)); exact BK138.out) hb); have n2_ := Aside0.mk (below_step (by repeat (first | (with_reducible first | exact HB.out | apply below_alloc | apply pw_below_drewN | apply below_drew1 | refine below_set ?_ GE137.out | refine below_set ?_ GE138.out) | exact HB.out)) hb); clear BK137; clear BK138; clear HB; have BK137 := n0_; have BK138 := n1_; have HB := n2_; clear n0_ n1_ n2_; (try clear hb); (try clear hb2); (try clear hk); (try clear hi)))
    (try simp only [Act.put, List.setIfInBounds_toArray, List.set_cons_zero, List.set_cons_succ])
    go_cut [13] (fun v13 wc => ∃ (kq : Nat) (x13_4 : Bool), v13 = .bool x13_4 ∧ Aside0 (install_Step.j0 kq a1 x13_4 a0_0 a0_1 a0_2 a0_3 a0_4 a0_5 = some (r1, r2, r3, r4, r5, r6, r7, r8)) ∧ Aside0 (kq ≤ k) ∧ Aside0 (wc.heap[gb137]? = some (.cells #[.string a0_0, .string a0_1, .bool a0_2, .string a0_3, .int .i64 a0_4, .int .i64 a0_5] 28 (0, 0))) ∧ Aside0 (wc.heap[gb138]? = some (.cells #[.string (⟨#[]⟩ : ByteArray), .string (⟨#[]⟩ : ByteArray), .bool false, .string (⟨#[]⟩ : ByteArray), .int .i64 0, .int .i64 0] 28 (0, 0))) ∧ Aside0 (Below w.heap.size w wc))
    case first =>
      have H := HC5.out
      clear HC5
      by_cases c11 : a1 < 0
      · rw [if_pos c11] at H
        have c11b0 : decide (a1 < 0) = true := decide_eq_true c11
        clear c11
        (first | rw [c11b0] | (simp only [i64_w, i32_w]; rw [c11b0]) | skip)
        have H' := Aside0.mk H
        clear H
        go_wp2
        go_meet
        case rel => exact ⟨_, (true), (by first | rfl | (simp; done) | (simp [*]; done)), H', ⟨by first | omega | exact Nat.le_refl _⟩, ⟨by (with_reducible repeat (first | refine blk_drewN ?_ _ | refine blk_drew ?_ | refine blk_alloc ?_ _)); exact BK137.out⟩, ⟨by (with_reducible repeat (first | refine blk_drewN ?_ _ | refine blk_drew ?_ | refine blk_alloc ?_ _)); exact BK138.out⟩, ⟨by repeat (first | (with_reducible first | exact HB.out | apply below_alloc | apply pw_below_drewN | apply below_drew1 | refine below_set ?_ GE137.out | refine below_set ?_ GE138.out) | exact HB.out)⟩⟩
      · rw [if_neg c11] at H
        have c11b0 : decide (a1 < 0) = false := decide_eq_false c11
        clear c11
        (first | rw [c11b0] | (simp only [i64_w, i32_w]; rw [c11b0]) | skip)
        have H' := Aside0.mk H
        clear H
        go_wp2
        go_meet
        case rel => exact ⟨_, (decide (a1 > 1073741824)), (by first | rfl | (simp; done) | (simp [*]; done)), H', ⟨by first | omega | exact Nat.le_refl _⟩, ⟨by (with_reducible repeat (first | refine blk_drewN ?_ _ | refine blk_drew ?_ | refine blk_alloc ?_ _)); exact BK137.out⟩, ⟨by (with_reducible repeat (first | refine blk_drewN ?_ _ | refine blk_drew ?_ | refine blk_alloc ?_ _)); exact BK138.out⟩, ⟨by repeat (first | (with_reducible first | exact HB.out | apply below_alloc | apply pw_below_drewN | apply below_drew1 | refine below_set ?_ GE137.out | refine below_set ?_ GE138.out) | exact HB.out)⟩⟩
    case rest =>
      clear HC5
      try clear c1
      try clear p2
      try clear c4
      try clear c4b0
      try clear c4b1
      try clear c8
      try clear c11
      try clear c11b0
      try clear hcz9_0
      try clear hcz9_1
      try clear hcz9_2
      try clear hcz9_3
      try clear hcz9_4
      try clear hcz9_5
      try clear hfz9_0
      try clear hfz9_1
      try clear hfz9_2
      try clear hfz9_3
      try clear hfz9_4
      try clear hfz9_5
      obtain ⟨kq, x13_4, rfl, HA, HJ4, BK137, BK138, HB⟩ := hcut
      cases kq with
      | zero => exact absurd HA.out (by simp [install_Step.j0])
      | succ kj4 =>
        have H := HA.out
        clear HA
        simp only [install_Step.j0] at H
        by_cases c12 : x13_4 = true
        · subst c12
          have H1 : (some ((⟨#[]⟩ : ByteArray), (⟨#[]⟩ : ByteArray), false, (⟨#[]⟩ : ByteArray), 0, 0, false, 2)) = some (r1, r2, r3, r4, r5, r6, r7, r8) := by rw [if_pos rfl] at H; exact H
          clear H
          have H := H1
          clear H1
          simp only [Option.some.injEq, Prod.mk.injEq] at H
          obtain ⟨rfl, rfl, rfl, rfl, rfl, rfl, rfl, rfl⟩ := H
          have hnb13 := NB138_137.out
          have hnc13 := NB137_138.out
          have hcz14_0 : wc.cell? ⟨gb138, 0, none⟩ = some (.string (⟨#[]⟩ : ByteArray)) := (blk_cell BK138.out 0).trans rfl
          have hcz14_1 : wc.cell? ⟨gb138, 1, none⟩ = some (.string (⟨#[]⟩ : ByteArray)) := (blk_cell BK138.out 1).trans rfl
          have hcz14_2 : wc.cell? ⟨gb138, 2, none⟩ = some (.bool false) := (blk_cell BK138.out 2).trans rfl
          have hcz14_3 : wc.cell? ⟨gb138, 3, none⟩ = some (.string (⟨#[]⟩ : ByteArray)) := (blk_cell BK138.out 3).trans rfl
          have hcz14_4 : wc.cell? ⟨gb138, 4, none⟩ = some (.int .i64 0) := (blk_cell BK138.out 4).trans rfl
          have hcz14_5 : wc.cell? ⟨gb138, 5, none⟩ = some (.int .i64 0) := (blk_cell BK138.out 5).trans rfl
          have hfz14_0 := blk_frozen BK138.out 0
          have hfz14_1 := blk_frozen BK138.out 1
          have hfz14_2 := blk_frozen BK138.out 2
          have hfz14_3 := blk_frozen BK138.out 3
          have hfz14_4 := blk_frozen BK138.out 4
          have hfz14_5 := blk_frozen BK138.out 5
          go_wp2
          refine bodyPost_ret (results_ctt rfl _ _ gb138 28 #[.string (⟨#[]⟩ : ByteArray), .string (⟨#[]⟩ : ByteArray), .bool false, .string (⟨#[]⟩ : ByteArray), .int .i64 0, .int .i64 0] (0, 0) _ rfl (by (with_reducible repeat (first | refine blk_drewN ?_ _ | refine blk_drew ?_ | refine blk_alloc ?_ _)); refine blk_put (cs := #[.string (⟨#[]⟩ : ByteArray), .string (⟨#[]⟩ : ByteArray), .bool false, .string (⟨#[]⟩ : ByteArray), .int .i64 0, .int .i64 0]) ?_ 5 _ rfl; (with_reducible repeat (first | refine blk_drewN ?_ _ | refine blk_drew ?_ | refine blk_alloc ?_ _)); refine blk_put (cs := #[.string (⟨#[]⟩ : ByteArray), .string (⟨#[]⟩ : ByteArray), .bool false, .string (⟨#[]⟩ : ByteArray), .int .i64 0, .int .i64 0]) ?_ 4 _ rfl; (with_reducible repeat (first | refine blk_drewN ?_ _ | refine blk_drew ?_ | refine blk_alloc ?_ _)); refine blk_put (cs := #[.string (⟨#[]⟩ : ByteArray), .string (⟨#[]⟩ : ByteArray), .bool false, .string (⟨#[]⟩ : ByteArray), .int .i64 0, .int .i64 0]) ?_ 3 _ rfl; (with_reducible repeat (first | refine blk_drewN ?_ _ | refine blk_drew ?_ | refine blk_alloc ?_ _)); refine blk_put (cs := #[.string (⟨#[]⟩ : ByteArray), .string (⟨#[]⟩ : ByteArray), .bool false, .string (⟨#[]⟩ : ByteArray), .int .i64 0, .int .i64 0]) ?_ 2 _ rfl; (with_reducible repeat (first | refine blk_drewN ?_ _ | refine blk_drew ?_ | refine blk_alloc ?_ _)); refine blk_put (cs := #[.string (⟨#[]⟩ : ByteArray), .string (⟨#[]⟩ : ByteArray), .bool false, .string (⟨#[]⟩ : ByteArray), .int .i64 0, .int .i64 0]) ?_ 1 _ rfl; (with_reducible repeat (first | refine blk_drewN ?_ _ | refine blk_drew ?_ | refine blk_alloc ?_ _)); refine blk_put (cs := #[.string (⟨#[]⟩ : ByteArray), .string (⟨#[]⟩ : ByteArray), .bool false, .string (⟨#[]⟩ : ByteArray), .int .i64 0, .int .i64 0]) ?_ 0 _ rfl; (with_reducible repeat (first | refine blk_drewN ?_ _ | refine blk_drew ?_ | refine blk_alloc ?_ _)); exact BK138.out) Try.underlying28 rfl (by kernel_rfl)) rfl ?_
          exact ⟨by first | rfl | (simp [errW_none, errW_some] <;> rfl) | (simp [*, errW_none, errW_some] <;> rfl), by repeat (first | (with_reducible first | exact HB.out | apply below_alloc | apply pw_below_drewN | apply below_drew1 | refine below_set ?_ GE137.out | refine below_set ?_ GE138.out) | exact HB.out)⟩
        · replace c12 := Bool.eq_false_iff.mpr c12
          subst c12
          have H1 : (if a0_2 = true then (install_Step.j1 kj4 a1 (decide (a1 < a0_4)) a0_0 a0_1 a0_2 a0_3 a0_4 a0_5) else (install_Step.j1 kj4 a1 true a0_0 a0_1 a0_2 a0_3 a0_4 a0_5)) = some (r1, r2, r3, r4, r5, r6, r7, r8) := by rw [if_neg (show ¬ (false = true) by decide)] at H; exact H
          clear H
          have H := H1
          clear H1
          have HC15 := Aside0.mk H
          clear H
          go_upto_region 5 with (fail)
          go_cut [21] (fun v21 wc => ∃ (kq : Nat) (x21_14 : Bool), v21 = .bool x21_14 ∧ Aside0 (install_Step.j1 kq a1 x21_14 a0_0 a0_1 a0_2 a0_3 a0_4 a0_5 = some (r1, r2, r3, r4, r5, r6, r7, r8)) ∧ Aside0 (kq ≤ kj4) ∧ Aside0 (wc.heap[gb137]? = some (.cells #[.string a0_0, .string a0_1, .bool a0_2, .string a0_3, .int .i64 a0_4, .int .i64 a0_5] 28 (0, 0))) ∧ Aside0 (wc.heap[gb138]? = some (.cells #[.string (⟨#[]⟩ : ByteArray), .string (⟨#[]⟩ : ByteArray), .bool false, .string (⟨#[]⟩ : ByteArray), .int .i64 0, .int .i64 0] 28 (0, 0))) ∧ Aside0 (Below w.heap.size w wc))
          case first =>
            have H := HC15.out
            clear HC15
            by_cases c16 : a0_2 = true
            · subst c16
              have H1 : (install_Step.j1 kj4 a1 (decide (a1 < a0_4)) a0_0 a0_1 true a0_3 a0_4 a0_5) = some (r1, r2, r3, r4, r5, r6, r7, r8) := by rw [if_pos rfl] at H; exact H
              clear H
              have H := H1
              clear H1
              have H' := Aside0.mk H
              clear H
              have hnb17 := NB137_138.out
              have hnc17 := NB138_137.out
              have hcz18_0 : wc.cell? ⟨gb137, 0, none⟩ = some (.string a0_0) := (blk_cell BK137.out 0).trans rfl
              have hcz18_1 : wc.cell? ⟨gb137, 1, none⟩ = some (.string a0_1) := (blk_cell BK137.out 1).trans rfl
              have hcz18_2 : wc.cell? ⟨gb137, 2, none⟩ = some (.bool true) := (blk_cell BK137.out 2).trans rfl
              have hcz18_3 : wc.cell? ⟨gb137, 3, none⟩ = some (.string a0_3) := (blk_cell BK137.out 3).trans rfl
              have hcz18_4 : wc.cell? ⟨gb137, 4, none⟩ = some (.int .i64 a0_4) := (blk_cell BK137.out 4).trans rfl
              have hcz18_5 : wc.cell? ⟨gb137, 5, none⟩ = some (.int .i64 a0_5) := (blk_cell BK137.out 5).trans rfl
              have hfz18_0 := blk_frozen BK137.out 0
              have hfz18_1 := blk_frozen BK137.out 1
              have hfz18_2 := blk_frozen BK137.out 2
              have hfz18_3 := blk_frozen BK137.out 3
              have hfz18_4 := blk_frozen BK137.out 4
              have hfz18_5 := blk_frozen BK137.out 5
              go_wp2
              go_meet
              case rel => exact ⟨_, (decide (a1 < a0_4)), (by first | rfl | (simp; done) | (simp [*]; done)), H', ⟨by have := HJ4.out; first | omega | exact Nat.le_refl _⟩, ⟨by (with_reducible repeat (first | refine blk_drewN ?_ _ | refine blk_drew ?_ | refine blk_alloc ?_ _)); exact BK137.out⟩, ⟨by (with_reducible repeat (first | refine blk_drewN ?_ _ | refine blk_drew ?_ | refine blk_alloc ?_ _)); exact BK138.out⟩, ⟨by repeat (first | (with_reducible first | exact HB.out | apply below_alloc | apply pw_below_drewN | apply below_drew1 | refine below_set ?_ GE137.out | refine below_set ?_ GE138.out) | exact HB.out)⟩⟩
            · replace c16 := Bool.eq_false_iff.mpr c16
              subst c16
              have H1 : (install_Step.j1 kj4 a1 true a0_0 a0_1 false a0_3 a0_4 a0_5) = some (r1, r2, r3, r4, r5, r6, r7, r8) := by rw [if_neg (show ¬ (false = true) by decide)] at H; exact H
              clear H
              have H := H1
              clear H1
              have H' := Aside0.mk H
              clear H
              have hnb19 := NB137_138.out
              have hnc19 := NB138_137.out
              have hcz20_0 : wc.cell? ⟨gb137, 0, none⟩ = some (.string a0_0) := (blk_cell BK137.out 0).trans rfl
              have hcz20_1 : wc.cell? ⟨gb137, 1, none⟩ = some (.string a0_1) := (blk_cell BK137.out 1).trans rfl
              have hcz20_2 : wc.cell? ⟨gb137, 2, none⟩ = some (.bool false) := (blk_cell BK137.out 2).trans rfl
              have hcz20_3 : wc.cell? ⟨gb137, 3, none⟩ = some (.string a0_3) := (blk_cell BK137.out 3).trans rfl
              have hcz20_4 : wc.cell? ⟨gb137, 4, none⟩ = some (.int .i64 a0_4) := (blk_cell BK137.out 4).trans rfl
              have hcz20_5 : wc.cell? ⟨gb137, 5, none⟩ = some (.int .i64 a0_5) := (blk_cell BK137.out 5).trans rfl
              have hfz20_0 := blk_frozen BK137.out 0
              have hfz20_1 := blk_frozen BK137.out 1
              have hfz20_2 := blk_frozen BK137.out 2
              have hfz20_3 := blk_frozen BK137.out 3
              have hfz20_4 := blk_frozen BK137.out 4
              have hfz20_5 := blk_frozen BK137.out 5
              go_wp2
              go_meet
              case rel => exact ⟨_, (true), (by first | rfl | (simp; done) | (simp [*]; done)), H', ⟨by have := HJ4.out; first | omega | exact Nat.le_refl _⟩, ⟨by (with_reducible repeat (first | refine blk_drewN ?_ _ | refine blk_drew ?_ | refine blk_alloc ?_ _)); exact BK137.out⟩, ⟨by (with_reducible repeat (first | refine blk_drewN ?_ _ | refine blk_drew ?_ | refine blk_alloc ?_ _)); exact BK138.out⟩, ⟨by repeat (first | (with_reducible first | exact HB.out | apply below_alloc | apply pw_below_drewN | apply below_drew1 | refine below_set ?_ GE137.out | refine below_set ?_ GE138.out) | exact HB.out)⟩⟩
          case rest =>
            clear HC15
            try clear c1
            try clear p2
            try clear c4
            try clear c4b0
            try clear c4b1
            try clear c8
            try clear c11
            try clear c11b0
            try clear c12
            try clear c13
            try clear c15
            try clear c16
            try clear c17
            try clear c19
            try clear hcz14_0
            try clear hcz14_1
            try clear hcz14_2
            try clear hcz14_3
            try clear hcz14_4
            try clear hcz14_5
            try clear hcz18_0
            try clear hcz18_1
            try clear hcz18_2
            try clear hcz18_3
            try clear hcz18_4
            try clear hcz18_5
            try clear hcz20_0
            try clear hcz20_1
            try clear hcz20_2
            try clear hcz20_3
            try clear hcz20_4
            try clear hcz20_5
            try clear hcz9_0
            try clear hcz9_1
            try clear hcz9_2
            try clear hcz9_3
            try clear hcz9_4
            try clear hcz9_5
            try clear hfz14_0
            try clear hfz14_1
            try clear hfz14_2
            try clear hfz14_3
            try clear hfz14_4
            try clear hfz14_5
            try clear hfz18_0
            try clear hfz18_1
            try clear hfz18_2
            try clear hfz18_3
            try clear hfz18_4
            try clear hfz18_5
            try clear hfz20_0
            try clear hfz20_1
            try clear hfz20_2
            try clear hfz20_3
            try clear hfz20_4
            try clear hfz20_5
            try clear hfz9_0
            try clear hfz9_1
            try clear hfz9_2
            try clear hfz9_3
            try clear hfz9_4
            try clear hfz9_5
            try clear p2
            obtain ⟨kq, x21_14, rfl, HA, HJ14, BK137, BK138, HB⟩ := hcut
            cases kq with
            | zero => exact absurd HA.out (by simp [install_Step.j1])
            | succ kj14 =>
              have H := HA.out
              clear HA
              simp only [install_Step.j1] at H
              by_cases c21 : x21_14 = true
              · subst c21
                have H1 : (some (a0_0, a0_1, a0_2, a0_3, a0_4, a0_5, false, 0)) = some (r1, r2, r3, r4, r5, r6, r7, r8) := by rw [if_pos rfl] at H; exact H
                clear H
                have H := H1
                clear H1
                simp only [Option.some.injEq, Prod.mk.injEq] at H
                obtain ⟨rfl, rfl, rfl, rfl, rfl, rfl, rfl, rfl⟩ := H
                have hnb22 := NB137_138.out
                have hnc22 := NB138_137.out
                have hcz23_0 : wc.cell? ⟨gb137, 0, none⟩ = some (.string a0_0) := (blk_cell BK137.out 0).trans rfl
                have hcz23_1 : wc.cell? ⟨gb137, 1, none⟩ = some (.string a0_1) := (blk_cell BK137.out 1).trans rfl
                have hcz23_2 : wc.cell? ⟨gb137, 2, none⟩ = some (.bool a0_2) := (blk_cell BK137.out 2).trans rfl
                have hcz23_3 : wc.cell? ⟨gb137, 3, none⟩ = some (.string a0_3) := (blk_cell BK137.out 3).trans rfl
                have hcz23_4 : wc.cell? ⟨gb137, 4, none⟩ = some (.int .i64 a0_4) := (blk_cell BK137.out 4).trans rfl
                have hcz23_5 : wc.cell? ⟨gb137, 5, none⟩ = some (.int .i64 a0_5) := (blk_cell BK137.out 5).trans rfl
                have hfz23_0 := blk_frozen BK137.out 0
                have hfz23_1 := blk_frozen BK137.out 1
                have hfz23_2 := blk_frozen BK137.out 2
                have hfz23_3 := blk_frozen BK137.out 3
                have hfz23_4 := blk_frozen BK137.out 4
                have hfz23_5 := blk_frozen BK137.out 5
                have hcz24_0 : wc.cell? ⟨gb138, 0, none⟩ = some (.string (⟨#[]⟩ : ByteArray)) := (blk_cell BK138.out 0).trans rfl
                have hcz24_1 : wc.cell? ⟨gb138, 1, none⟩ = some (.string (⟨#[]⟩ : ByteArray)) := (blk_cell BK138.out 1).trans rfl
                have hcz24_2 : wc.cell? ⟨gb138, 2, none⟩ = some (.bool false) := (blk_cell BK138.out 2).trans rfl
                have hcz24_3 : wc.cell? ⟨gb138, 3, none⟩ = some (.string (⟨#[]⟩ : ByteArray)) := (blk_cell BK138.out 3).trans rfl
                have hcz24_4 : wc.cell? ⟨gb138, 4, none⟩ = some (.int .i64 0) := (blk_cell BK138.out 4).trans rfl
                have hcz24_5 : wc.cell? ⟨gb138, 5, none⟩ = some (.int .i64 0) := (blk_cell BK138.out 5).trans rfl
                have hfz24_0 := blk_frozen BK138.out 0
                have hfz24_1 := blk_frozen BK138.out 1
                have hfz24_2 := blk_frozen BK138.out 2
                have hfz24_3 := blk_frozen BK138.out 3
                have hfz24_4 := blk_frozen BK138.out 4
                have hfz24_5 := blk_frozen BK138.out 5
                go_wp2
                refine bodyPost_ret (results_ctt rfl _ _ gb138 28 #[.string a0_0, .string a0_1, .bool a0_2, .string a0_3, .int .i64 a0_4, .int .i64 a0_5] (0, 0) _ rfl (by (with_reducible repeat (first | refine blk_drewN ?_ _ | refine blk_drew ?_ | refine blk_alloc ?_ _)); refine blk_put (cs := #[.string a0_0, .string a0_1, .bool a0_2, .string a0_3, .int .i64 a0_4, .int .i64 0]) ?_ 5 _ rfl; (with_reducible repeat (first | refine blk_drewN ?_ _ | refine blk_drew ?_ | refine blk_alloc ?_ _)); refine blk_put (cs := #[.string a0_0, .string a0_1, .bool a0_2, .string a0_3, .int .i64 0, .int .i64 0]) ?_ 4 _ rfl; (with_reducible repeat (first | refine blk_drewN ?_ _ | refine blk_drew ?_ | refine blk_alloc ?_ _)); refine blk_put (cs := #[.string a0_0, .string a0_1, .bool a0_2, .string (⟨#[]⟩ : ByteArray), .int .i64 0, .int .i64 0]) ?_ 3 _ rfl; (with_reducible repeat (first | refine blk_drewN ?_ _ | refine blk_drew ?_ | refine blk_alloc ?_ _)); refine blk_put (cs := #[.string a0_0, .string a0_1, .bool false, .string (⟨#[]⟩ : ByteArray), .int .i64 0, .int .i64 0]) ?_ 2 _ rfl; (with_reducible repeat (first | refine blk_drewN ?_ _ | refine blk_drew ?_ | refine blk_alloc ?_ _)); refine blk_put (cs := #[.string a0_0, .string (⟨#[]⟩ : ByteArray), .bool false, .string (⟨#[]⟩ : ByteArray), .int .i64 0, .int .i64 0]) ?_ 1 _ rfl; (with_reducible repeat (first | refine blk_drewN ?_ _ | refine blk_drew ?_ | refine blk_alloc ?_ _)); refine blk_put (cs := #[.string (⟨#[]⟩ : ByteArray), .string (⟨#[]⟩ : ByteArray), .bool false, .string (⟨#[]⟩ : ByteArray), .int .i64 0, .int .i64 0]) ?_ 0 _ rfl; (with_reducible repeat (first | refine blk_drewN ?_ _ | refine blk_drew ?_ | refine blk_alloc ?_ _)); exact BK138.out) Try.underlying28 rfl (by kernel_rfl)) rfl ?_
                exact ⟨by first | rfl | (simp [errW_none, errW_some] <;> rfl) | (simp [*, errW_none, errW_some] <;> rfl), by repeat (first | (with_reducible first | exact HB.out | apply below_alloc | apply pw_below_drewN | apply below_drew1 | refine below_set ?_ GE137.out | refine below_set ?_ GE138.out) | exact HB.out)⟩
              · replace c21 := Bool.eq_false_iff.mpr c21
                subst c21
                have H1 : (if a1 = a0_4 then ((install_disarm.f a0_3 a0_1 a0_2 a0_3 a0_4 a0_5).bind fun bt140 => (some (bt140.1, bt140.2.1, bt140.2.2.1, bt140.2.2.2.1, bt140.2.2.2.2.1, bt140.2.2.2.2.2, (a1 == a0_4), 0))) else ((install_disarm.f a0_0 a0_1 a0_2 a0_3 a0_4 a0_5).bind fun bt146 => (some (bt146.1, bt146.2.1, bt146.2.2.1, bt146.2.2.2.1, bt146.2.2.2.2.1, bt146.2.2.2.2.2, (a1 == a0_4), 0)))) = some (r1, r2, r3, r4, r5, r6, r7, r8) := by rw [if_neg (show ¬ (false = true) by decide)] at H; exact H
                clear H
                have H := H1
                clear H1
                by_cases c25 : a1 = a0_4
                · rw [if_pos c25] at H
                  have c25b0 : (a1 == a0_4) = true := beq_iff_eq.mpr c25
                  have c25b1 : (a1 != a0_4) = false := bne_eq_false_iff_eq.mpr c25
                  clear c25
                  replace H := Option.bind_eq_some_iff.mp H
                  obtain ⟨⟨t140, t141, t142, t143, t144, t145⟩, A260, H⟩ := H
                  replace H : (some (t140, t141, t142, t143, t144, t145, (a1 == a0_4), 0)) = some (r1, r2, r3, r4, r5, r6, r7, r8) := H
                  have A26 := Aside0.mk A260
                  clear A260
                  simp only [Option.some.injEq, Prod.mk.injEq] at H
                  obtain ⟨rfl, rfl, rfl, rfl, rfl, rfl, rfl, rfl⟩ := H
                  have hnb27 := NB137_138.out
                  have hnc27 := NB138_137.out
                  have hcz28_0 : wc.cell? ⟨gb137, 0, none⟩ = some (.string a0_0) := (blk_cell BK137.out 0).trans rfl
                  have hcz28_1 : wc.cell? ⟨gb137, 1, none⟩ = some (.string a0_1) := (blk_cell BK137.out 1).trans rfl
                  have hcz28_2 : wc.cell? ⟨gb137, 2, none⟩ = some (.bool a0_2) := (blk_cell BK137.out 2).trans rfl
                  have hcz28_3 : wc.cell? ⟨gb137, 3, none⟩ = some (.string a0_3) := (blk_cell BK137.out 3).trans rfl
                  have hcz28_4 : wc.cell? ⟨gb137, 4, none⟩ = some (.int .i64 a0_4) := (blk_cell BK137.out 4).trans rfl
                  have hcz28_5 : wc.cell? ⟨gb137, 5, none⟩ = some (.int .i64 a0_5) := (blk_cell BK137.out 5).trans rfl
                  have hfz28_0 := blk_frozen BK137.out 0
                  have hfz28_1 := blk_frozen BK137.out 1
                  have hfz28_2 := blk_frozen BK137.out 2
                  have hfz28_3 := blk_frozen BK137.out 3
                  have hfz28_4 := blk_frozen BK137.out 4
                  have hfz28_5 := blk_frozen BK137.out 5
                  go_wp2_with (first | ((with_reducible refine gate_callee (f := 43) rfl ?_); refine goesL_ (some 41) rfl rfl Try.func43 (by kernel_rfl) rfl #[.agg #[.string a0_3, .string a0_1, .bool a0_2, .string a0_3, .int .i64 a0_4, .int .i64 a0_5]] rfl (by (try simp only [List.map_toArray, List.map_cons, List.map_nil]); first | done | rfl | (simp only [List.length_drop, List.length_take]; rfl)) ?_; (with_reducible refine (install_disarm.calls a0_3 a0_1 a0_2 a0_3 a0_4 a0_5 t140 t141 t142 t143 t144 t145 _ A26.out).mono ?_); rintro e w29 ⟨rfl, hb⟩; refine ⟨_, rfl, ?_⟩; have n0_ := Aside0.mk (blk_below (g := gb137) (o := .cells #[.string a0_3, .string a0_1, .bool a0_2, .string a0_3, .int .i64 a0_4, .int .i64 a0_5] 28 (0, 0)) (by (with_reducible repeat (first | refine blk_drewN ?_ _ | refine blk_drew ?_ | refine blk_alloc ?_ _)); refine blk_put (cs := #[.string a0_0, .string a0_1, .bool a0_2, .string a0_3, .int .i64 a0_4, .int .i64 a0_5]) ?_ 0 _ rfl; (with_reducible repeat (first | refine blk_drewN ?_ _ | refine blk_drew ?_ | refine blk_alloc ?_ _)); exact BK137.out) hb); have n1_ := Aside0.mk (blk_below (g := gb138) (o := .cells #[.string (⟨#[]⟩ : ByteArray), .string (⟨#[]⟩ : ByteArray), .bool false, .string (⟨#[]⟩ : ByteArray), .int .i64 0, .int .i64 0] 28 (0, 0)) (by (with_reducible repeat (first | refine blk_drewN ?_ _ | refine blk_drew ?_ | refine blk_alloc ?_ _)); refine blk_far ?_ NB138_137.out _; (with_reducible repeat (first | refine blk_drewN ?_ _ | refine blk_drew ?_ | refine blk_alloc ?_ _)); exact BK138.out) hb); have n2_ := Aside0.mk (below_step (by repeat (first | (with_reducible first | exact HB.out | apply below_alloc | apply pw_below_drewN | apply below_drew1 | refine below_set ?_ GE137.out | refine below_set ?_ GE138.out) | exact HB.out)) hb); clear BK137; clear BK138; clear HB; have BK137 := n0_; have BK138 := n1_; have HB := n2_; clear n0_ n1_ n2_; (try clear hb); (try clear hb2); (try clear hk); (try clear hi); have hcz30_0 : w29.cell? ⟨gb138, 0, none⟩ = some (.string (⟨#[]⟩ : ByteArray)) := (blk_cell BK138.out 0).trans rfl; have hcz30_1 : w29.cell? ⟨gb138, 1, none⟩ = some (.string (⟨#[]⟩ : ByteArray)) := (blk_cell BK138.out 1).trans rfl; have hcz30_2 : w29.cell? ⟨gb138, 2, none⟩ = some (.bool false) := (blk_cell BK138.out 2).trans rfl; have hcz30_3 : w29.cell? ⟨gb138, 3, none⟩ = some (.string (⟨#[]⟩ : ByteArray)) := (blk_cell BK138.out 3).trans rfl; have hcz30_4 : w29.cell? ⟨gb138, 4, none⟩ = some (.int .i64 0) := (blk_cell BK138.out 4).trans rfl; have hcz30_5 : w29.cell? ⟨gb138, 5, none⟩ = some (.int .i64 0) := (blk_cell BK138.out 5).trans rfl; have hfz30_0 := blk_frozen BK138.out 0; have hfz30_1 := blk_frozen BK138.out 1; have hfz30_2 := blk_frozen BK138.out 2; have hfz30_3 := blk_frozen BK138.out 3; have hfz30_4 := blk_frozen BK138.out 4; have hfz30_5 := blk_frozen BK138.out 5))
                  refine bodyPost_ret (results_ctt rfl _ _ gb138 28 #[.string t140, .string t141, .bool t142, .string t143, .int .i64 t144, .int .i64 t145] (0, 0) _ rfl (by (with_reducible repeat (first | refine blk_drewN ?_ _ | refine blk_drew ?_ | refine blk_alloc ?_ _)); refine blk_put (cs := #[.string t140, .string t141, .bool t142, .string t143, .int .i64 t144, .int .i64 0]) ?_ 5 _ rfl; (with_reducible repeat (first | refine blk_drewN ?_ _ | refine blk_drew ?_ | refine blk_alloc ?_ _)); refine blk_put (cs := #[.string t140, .string t141, .bool t142, .string t143, .int .i64 0, .int .i64 0]) ?_ 4 _ rfl; (with_reducible repeat (first | refine blk_drewN ?_ _ | refine blk_drew ?_ | refine blk_alloc ?_ _)); refine blk_put (cs := #[.string t140, .string t141, .bool t142, .string (⟨#[]⟩ : ByteArray), .int .i64 0, .int .i64 0]) ?_ 3 _ rfl; (with_reducible repeat (first | refine blk_drewN ?_ _ | refine blk_drew ?_ | refine blk_alloc ?_ _)); refine blk_put (cs := #[.string t140, .string t141, .bool false, .string (⟨#[]⟩ : ByteArray), .int .i64 0, .int .i64 0]) ?_ 2 _ rfl; (with_reducible repeat (first | refine blk_drewN ?_ _ | refine blk_drew ?_ | refine blk_alloc ?_ _)); refine blk_put (cs := #[.string t140, .string (⟨#[]⟩ : ByteArray), .bool false, .string (⟨#[]⟩ : ByteArray), .int .i64 0, .int .i64 0]) ?_ 1 _ rfl; (with_reducible repeat (first | refine blk_drewN ?_ _ | refine blk_drew ?_ | refine blk_alloc ?_ _)); refine blk_put (cs := #[.string (⟨#[]⟩ : ByteArray), .string (⟨#[]⟩ : ByteArray), .bool false, .string (⟨#[]⟩ : ByteArray), .int .i64 0, .int .i64 0]) ?_ 0 _ rfl; (with_reducible repeat (first | refine blk_drewN ?_ _ | refine blk_drew ?_ | refine blk_alloc ?_ _)); exact BK138.out) Try.underlying28 rfl (by kernel_rfl)) rfl ?_
                  exact ⟨by first | rfl | (simp [errW_none, errW_some] <;> rfl) | (simp [*, errW_none, errW_some] <;> rfl), by repeat (first | (with_reducible first | exact HB.out | apply below_alloc | apply pw_below_drewN | apply below_drew1 | refine below_set ?_ GE137.out | refine below_set ?_ GE138.out) | exact HB.out)⟩
                · rw [if_neg c25] at H
                  have c25b0 : (a1 == a0_4) = false := beq_eq_false_iff_ne.mpr c25
                  have c25b1 : (a1 != a0_4) = true := bne_iff_ne.mpr c25
                  replace H := Option.bind_eq_some_iff.mp H
                  obtain ⟨⟨t146, t147, t148, t149, t150, t151⟩, A310, H⟩ := H
                  replace H : (some (t146, t147, t148, t149, t150, t151, (a1 == a0_4), 0)) = some (r1, r2, r3, r4, r5, r6, r7, r8) := H
                  have A31 := Aside0.mk A310
                  clear A310
                  simp only [Option.some.injEq, Prod.mk.injEq] at H
                  obtain ⟨rfl, rfl, rfl, rfl, rfl, rfl, rfl, rfl⟩ := H
                  have hnb32 := NB137_138.out
                  have hnc32 := NB138_137.out
                  have hcz33_0 : wc.cell? ⟨gb137, 0, none⟩ = some (.string a0_0) := (blk_cell BK137.out 0).trans rfl
                  have hcz33_1 : wc.cell? ⟨gb137, 1, none⟩ = some (.string a0_1) := (blk_cell BK137.out 1).trans rfl
                  have hcz33_2 : wc.cell? ⟨gb137, 2, none⟩ = some (.bool a0_2) := (blk_cell BK137.out 2).trans rfl
                  have hcz33_3 : wc.cell? ⟨gb137, 3, none⟩ = some (.string a0_3) := (blk_cell BK137.out 3).trans rfl
                  have hcz33_4 : wc.cell? ⟨gb137, 4, none⟩ = some (.int .i64 a0_4) := (blk_cell BK137.out 4).trans rfl
                  have hcz33_5 : wc.cell? ⟨gb137, 5, none⟩ = some (.int .i64 a0_5) := (blk_cell BK137.out 5).trans rfl
                  have hfz33_0 := blk_frozen BK137.out 0
                  have hfz33_1 := blk_frozen BK137.out 1
                  have hfz33_2 := blk_frozen BK137.out 2
                  have hfz33_3 := blk_frozen BK137.out 3
                  have hfz33_4 := blk_frozen BK137.out 4
                  have hfz33_5 := blk_frozen BK137.out 5
                  go_wp2_with (first | ((with_reducible refine gate_callee (f := 43) rfl ?_); refine goesL_ (some 41) rfl rfl Try.func43 (by kernel_rfl) rfl #[.agg #[.string a0_0, .string a0_1, .bool a0_2, .string a0_3, .int .i64 a0_4, .int .i64 a0_5]] rfl (by (try simp only [List.map_toArray, List.map_cons, List.map_nil]); first | done | rfl | (simp only [List.length_drop, List.length_take]; rfl)) ?_; (with_reducible refine (install_disarm.calls a0_0 a0_1 a0_2 a0_3 a0_4 a0_5 t146 t147 t148 t149 t150 t151 _ A31.out).mono ?_); rintro e w34 ⟨rfl, hb⟩; refine ⟨_, rfl, ?_⟩; have n0_ := Aside0.mk (blk_below (g := gb137) (o := .cells #[.string a0_0, .string a0_1, .bool a0_2, .string a0_3, .int .i64 a0_4, .int .i64 a0_5] 28 (0, 0)) (by (with_reducible repeat (first | refine blk_drewN ?_ _ | refine blk_drew ?_ | refine blk_alloc ?_ _)); exact BK137.out) hb); have n1_ := Aside0.mk (blk_below (g := gb138) (o := .cells #[.string (⟨#[]⟩ : ByteArray), .string (⟨#[]⟩ : ByteArray), .bool false, .string (⟨#[]⟩ : ByteArray), .int .i64 0, .int .i64 0] 28 (0, 0)) (by (with_reducible repeat (first | refine blk_drewN ?_ _ | refine blk_drew ?_ | refine blk_alloc ?_ _)); exact BK138.out) hb); have n2_ := Aside0.mk (below_step (by repeat (first | (with_reducible first | exact HB.out | apply below_alloc | apply pw_below_drewN | apply below_drew1 | refine below_set ?_ GE137.out | refine below_set ?_ GE138.out) | exact HB.out)) hb); clear BK137; clear BK138; clear HB; have BK137 := n0_; have BK138 := n1_; have HB := n2_; clear n0_ n1_ n2_; (try clear hb); (try clear hb2); (try clear hk); (try clear hi); have hcz35_0 : w34.cell? ⟨gb138, 0, none⟩ = some (.string (⟨#[]⟩ : ByteArray)) := (blk_cell BK138.out 0).trans rfl; have hcz35_1 : w34.cell? ⟨gb138, 1, none⟩ = some (.string (⟨#[]⟩ : ByteArray)) := (blk_cell BK138.out 1).trans rfl; have hcz35_2 : w34.cell? ⟨gb138, 2, none⟩ = some (.bool false) := (blk_cell BK138.out 2).trans rfl; have hcz35_3 : w34.cell? ⟨gb138, 3, none⟩ = some (.string (⟨#[]⟩ : ByteArray)) := (blk_cell BK138.out 3).trans rfl; have hcz35_4 : w34.cell? ⟨gb138, 4, none⟩ = some (.int .i64 0) := (blk_cell BK138.out 4).trans rfl; have hcz35_5 : w34.cell? ⟨gb138, 5, none⟩ = some (.int .i64 0) := (blk_cell BK138.out 5).trans rfl; have hfz35_0 := blk_frozen BK138.out 0; have hfz35_1 := blk_frozen BK138.out 1; have hfz35_2 := blk_frozen BK138.out 2; have hfz35_3 := blk_frozen BK138.out 3; have hfz35_4 := blk_frozen BK138.out 4; have hfz35_5 := blk_frozen BK138.out 5))
                  refine bodyPost_ret (results_ctt rfl _ _ gb138 28 #[.string t146, .string t147, .bool t148, .string t149, .int .i64 t150, .int .i64 t151] (0, 0) _ rfl (by (with_reducible repeat (first | refine blk_drewN ?_ _ | refine blk_drew ?_ | refine blk_alloc ?_ _)); refine blk_put (cs := #[.string t146, .string t147, .bool t148, .string t149, .int .i64 t150, .int .i64 0]) ?_ 5 _ rfl; (with_reducible repeat (first | refine blk_drewN ?_ _ | refine blk_drew ?_ | refine blk_alloc ?_ _)); refine blk_put (cs := #[.string t146, .string t147, .bool t148, .string t149, .int .i64 0, .int .i64 0]) ?_ 4 _ rfl; (with_reducible repeat (first | refine blk_drewN ?_ _ | refine blk_drew ?_ | refine blk_alloc ?_ _)); refine blk_put (cs := #[.string t146, .string t147, .bool t148, .string (⟨#[]⟩ : ByteArray), .int .i64 0, .int .i64 0]) ?_ 3 _ rfl; (with_reducible repeat (first | refine blk_drewN ?_ _ | refine blk_drew ?_ | refine blk_alloc ?_ _)); refine blk_put (cs := #[.string t146, .string t147, .bool false, .string (⟨#[]⟩ : ByteArray), .int .i64 0, .int .i64 0]) ?_ 2 _ rfl; (with_reducible repeat (first | refine blk_drewN ?_ _ | refine blk_drew ?_ | refine blk_alloc ?_ _)); refine blk_put (cs := #[.string t146, .string (⟨#[]⟩ : ByteArray), .bool false, .string (⟨#[]⟩ : ByteArray), .int .i64 0, .int .i64 0]) ?_ 1 _ rfl; (with_reducible repeat (first | refine blk_drewN ?_ _ | refine blk_drew ?_ | refine blk_alloc ?_ _)); refine blk_put (cs := #[.string (⟨#[]⟩ : ByteArray), .string (⟨#[]⟩ : ByteArray), .bool false, .string (⟨#[]⟩ : ByteArray), .int .i64 0, .int .i64 0]) ?_ 0 _ rfl; (with_reducible repeat (first | refine blk_drewN ?_ _ | refine blk_drew ?_ | refine blk_alloc ?_ _)); exact BK138.out) Try.underlying28 rfl (by kernel_rfl)) rfl ?_
                  exact ⟨by first | rfl | (simp [errW_none, errW_some] <;> rfl) | (simp [*, errW_none, errW_some] <;> rfl), by repeat (first | (with_reducible first | exact HB.out | apply below_alloc | apply pw_below_drewN | apply below_drew1 | refine below_set ?_ GE137.out | refine below_set ?_ GE138.out) | exact HB.out)⟩
  · rw [if_neg c4] at H
    have c4b0 : (t139 == 0) = false := beq_eq_false_iff_ne.mpr c4
    have c4b1 : (t139 != 0) = true := bne_iff_ne.mpr c4
    simp only [Option.some.injEq, Prod.mk.injEq] at H
    obtain ⟨rfl, rfl, rfl, rfl, rfl, rfl, rfl, rfl⟩ := H
    go_enter Try.func15, Try.ntmps15
    go_wp2_with (first | ((with_reducible refine gate_dst (N := 2) rfl ?_); refine box_event ?hg (N := 2) ?hd (cs := #[.string a0_0, .string a0_1, .bool a0_2, .string a0_3, .int .i64 a0_4, .int .i64 a0_5]) (t := 28) ?hr ?_; (case hd => rfl); (case hg => rfl); (case hr => first | (go_simp; done) | (go_simp; rfl)); intro gb137 hg w36 hbox hb; have n0_ := Aside0.mk (below_step (by repeat (first | (with_reducible first | exact HB.out | apply below_alloc | apply pw_below_drewN | apply below_drew1) | exact HB.out)) hb); have n1_ := Aside0.mk (hbox); have n2_ := Aside0.mk ((by rw [hg]; exact (below_size (by repeat (first | (with_reducible first | exact HB.out | apply below_alloc | apply pw_below_drewN | apply below_drew1) | exact HB.out))) : w.heap.size ≤ gb137)); have n3_ := Aside0.mk ((by rw [hg]; exact (below_size (by repeat (first | (with_reducible first | exact HB.out | apply below_alloc | apply pw_below_drewN | apply below_drew1) | exact HB.out))) : w.heap.size ≤ gb137)); clear HB; have HB := n0_; have BK137 := n1_; have GW137 := n2_; have GE137 := n3_; clear n0_ n1_ n2_ n3_; clear hb hbox hg) | ((with_reducible refine gate_dst (N := 4) rfl ?_); refine box_event ?hg (N := 4) ?hd (cs := #[.string (⟨#[]⟩ : ByteArray), .string (⟨#[]⟩ : ByteArray), .bool false, .string (⟨#[]⟩ : ByteArray), .int .i64 0, .int .i64 0]) (t := 28) ?hr ?_; (case hd => rfl); (case hg => rfl); (case hr => first | (go_simp; done) | (go_simp; rfl)); intro gb138 hg w37 hbox hb; have n0_ := Aside0.mk (blk_below (g := gb137) (o := .cells #[.string a0_0, .string a0_1, .bool a0_2, .string a0_3, .int .i64 a0_4, .int .i64 a0_5] 28 (0, 0)) (by (with_reducible repeat (first | refine blk_drewN ?_ _ | refine blk_drew ?_ | refine blk_alloc ?_ _)); exact BK137.out) hb); have n1_ := Aside0.mk (below_step (by repeat (first | (with_reducible first | exact HB.out | apply below_alloc | apply pw_below_drewN | apply below_drew1 | refine below_set ?_ GE137.out) | exact HB.out)) hb); have n2_ := Aside0.mk (hbox); have n3_ := Aside0.mk ((by rw [hg]; exact (below_size (by repeat (first | (with_reducible first | exact HB.out | apply below_alloc | apply pw_below_drewN | apply below_drew1 | refine below_set ?_ GE137.out) | exact HB.out))) : w.heap.size ≤ gb138)); have n4_ := Aside0.mk ((by rw [hg]; exact (below_size (by repeat (first | (with_reducible first | exact HB.out | apply below_alloc | apply pw_below_drewN | apply below_drew1 | refine below_set ?_ GE137.out) | exact HB.out))) : w.heap.size ≤ gb138)); have n5_ := Aside0.mk ((by rw [hg]; exact Nat.ne_of_lt (blk_lt (g := gb137) (o := .cells #[.string a0_0, .string a0_1, .bool a0_2, .string a0_3, .int .i64 a0_4, .int .i64 a0_5] 28 (0, 0)) (by (with_reducible repeat (first | refine blk_drewN ?_ _ | refine blk_drew ?_ | refine blk_alloc ?_ _)); exact BK137.out)) : gb137 ≠ gb138)); have n6_ := Aside0.mk ((by rw [hg]; exact Nat.ne_of_gt (blk_lt (g := gb137) (o := .cells #[.string a0_0, .string a0_1, .bool a0_2, .string a0_3, .int .i64 a0_4, .int .i64 a0_5] 28 (0, 0)) (by (with_reducible repeat (first | refine blk_drewN ?_ _ | refine blk_drew ?_ | refine blk_alloc ?_ _)); exact BK137.out)) : gb138 ≠ gb137)); clear BK137; clear HB; have BK137 := n0_; have HB := n1_; have BK138 := n2_; have GW138 := n3_; have GE138 := n4_; have NB137_138 := n5_; have NB138_137 := n6_; clear n0_ n1_ n2_ n3_ n4_ n5_ n6_; clear hb hbox hg; have hnb38 := NB137_138.out; have hnc38 := NB138_137.out; have hcz39_0 : w37.cell? ⟨gb137, 0, none⟩ = some (.string a0_0) := (blk_cell BK137.out 0).trans rfl; have hcz39_1 : w37.cell? ⟨gb137, 1, none⟩ = some (.string a0_1) := (blk_cell BK137.out 1).trans rfl; have hcz39_2 : w37.cell? ⟨gb137, 2, none⟩ = some (.bool a0_2) := (blk_cell BK137.out 2).trans rfl; have hcz39_3 : w37.cell? ⟨gb137, 3, none⟩ = some (.string a0_3) := (blk_cell BK137.out 3).trans rfl; have hcz39_4 : w37.cell? ⟨gb137, 4, none⟩ = some (.int .i64 a0_4) := (blk_cell BK137.out 4).trans rfl; have hcz39_5 : w37.cell? ⟨gb137, 5, none⟩ = some (.int .i64 a0_5) := (blk_cell BK137.out 5).trans rfl; have hfz39_0 := blk_frozen BK137.out 0; have hfz39_1 := blk_frozen BK137.out 1; have hfz39_2 := blk_frozen BK137.out 2; have hfz39_3 := blk_frozen BK137.out 3; have hfz39_4 := blk_frozen BK137.out 4; have hfz39_5 := blk_frozen BK137.out 5) | ((with_reducible refine gate_callee (f := 16) rfl ?_); refine goesL_ (some 10) rfl rfl Try.func16 (by kernel_rfl) rfl #[.agg #[.string a0_0, .string a0_1, .bool a0_2, .string a0_3, .int .i64 a0_4, .int .i64 a0_5]] rfl (by (try simp only [List.map_toArray, List.map_cons, List.map_nil]); first | done | rfl | (simp only [List.length_drop, List.length_take]; rfl)) ?_; (with_reducible refine (install_Check.calls k a0_0 a0_1 a0_2 a0_3 a0_4 a0_5 t139 _ A3.out).mono ?_); rintro e w40 ⟨rfl, hb⟩; refine ⟨_, rfl, ?_⟩; have n0_ := Aside0.mk (blk_below (g := gb137) (o := .cells #[.string a0_0, .string a0_1, .bool a0_2, .string a0_3, .int .i64 a0_4, .int .i64 a0_5] 28 (0, 0)) (by (with_reducible repeat (first | refine blk_drewN ?_ _ | refine blk_drew ?_ | refine blk_alloc ?_ _)); exact BK137.out) hb); have n1_ := Aside0.mk (blk_below (g := gb138) (o := .cells #[.string (⟨#[]⟩ : ByteArray), .string (⟨#[]⟩ : ByteArray), .bool false, .string (⟨#[]⟩ : ByteArray), .int .i64 0, .int .i64 0] 28 (0, 0)) (by (with_reducible repeat (first | refine blk_drewN ?_ _ | refine blk_drew ?_ | refine blk_alloc ?_ _)); exact BK138.out) hb); have n2_ := Aside0.mk (below_step (by repeat (first | (with_reducible first | exact HB.out | apply below_alloc | apply pw_below_drewN | apply below_drew1 | refine below_set ?_ GE137.out | refine below_set ?_ GE138.out) | exact HB.out)) hb); clear BK137; clear BK138; clear HB; have BK137 := n0_; have BK138 := n1_; have HB := n2_; clear n0_ n1_ n2_; (try clear hb); (try clear hb2); (try clear hk); (try clear hi); have hcz41_0 : w40.cell? ⟨gb138, 0, none⟩ = some (.string (⟨#[]⟩ : ByteArray)) := (blk_cell BK138.out 0).trans rfl; have hcz41_1 : w40.cell? ⟨gb138, 1, none⟩ = some (.string (⟨#[]⟩ : ByteArray)) := (blk_cell BK138.out 1).trans rfl; have hcz41_2 : w40.cell? ⟨gb138, 2, none⟩ = some (.bool false) := (blk_cell BK138.out 2).trans rfl; have hcz41_3 : w40.cell? ⟨gb138, 3, none⟩ = some (.string (⟨#[]⟩ : ByteArray)) := (blk_cell BK138.out 3).trans rfl; have hcz41_4 : w40.cell? ⟨gb138, 4, none⟩ = some (.int .i64 0) := (blk_cell BK138.out 4).trans rfl; have hcz41_5 : w40.cell? ⟨gb138, 5, none⟩ = some (.int .i64 0) := (blk_cell BK138.out 5).trans rfl; have hfz41_0 := blk_frozen BK138.out 0; have hfz41_1 := blk_frozen BK138.out 1; have hfz41_2 := blk_frozen BK138.out 2; have hfz41_3 := blk_frozen BK138.out 3; have hfz41_4 := blk_frozen BK138.out 4; have hfz41_5 := blk_frozen BK138.out 5))
    refine bodyPost_ret (results_ctt rfl _ _ gb138 28 #[.string (⟨#[]⟩ : ByteArray), .string (⟨#[]⟩ : ByteArray), .bool false, .string (⟨#[]⟩ : ByteArray), .int .i64 0, .int .i64 0] (0, 0) _ rfl (by (with_reducible repeat (first | refine blk_drewN ?_ _ | refine blk_drew ?_ | refine blk_alloc ?_ _)); refine blk_put (cs := #[.string (⟨#[]⟩ : ByteArray), .string (⟨#[]⟩ : ByteArray), .bool false, .string (⟨#[]⟩ : ByteArray), .int .i64 0, .int .i64 0]) ?_ 5 _ rfl; (with_reducible repeat (first | refine blk_drewN ?_ _ | refine blk_drew ?_ | refine blk_alloc ?_ _)); refine blk_put (cs := #[.string (⟨#[]⟩ : ByteArray), .string (⟨#[]⟩ : ByteArray), .bool false, .string (⟨#[]⟩ : ByteArray), .int .i64 0, .int .i64 0]) ?_ 4 _ rfl; (with_reducible repeat (first | refine blk_drewN ?_ _ | refine blk_drew ?_ | refine blk_alloc ?_ _)); refine blk_put (cs := #[.string (⟨#[]⟩ : ByteArray), .string (⟨#[]⟩ : ByteArray), .bool false, .string (⟨#[]⟩ : ByteArray), .int .i64 0, .int .i64 0]) ?_ 3 _ rfl; (with_reducible repeat (first | refine blk_drewN ?_ _ | refine blk_drew ?_ | refine blk_alloc ?_ _)); refine blk_put (cs := #[.string (⟨#[]⟩ : ByteArray), .string (⟨#[]⟩ : ByteArray), .bool false, .string (⟨#[]⟩ : ByteArray), .int .i64 0, .int .i64 0]) ?_ 2 _ rfl; (with_reducible repeat (first | refine blk_drewN ?_ _ | refine blk_drew ?_ | refine blk_alloc ?_ _)); refine blk_put (cs := #[.string (⟨#[]⟩ : ByteArray), .string (⟨#[]⟩ : ByteArray), .bool false, .string (⟨#[]⟩ : ByteArray), .int .i64 0, .int .i64 0]) ?_ 1 _ rfl; (with_reducible repeat (first | refine blk_drewN ?_ _ | refine blk_drew ?_ | refine blk_alloc ?_ _)); refine blk_put (cs := #[.string (⟨#[]⟩ : ByteArray), .string (⟨#[]⟩ : ByteArray), .bool false, .string (⟨#[]⟩ : ByteArray), .int .i64 0, .int .i64 0]) ?_ 0 _ rfl; (with_reducible repeat (first | refine blk_drewN ?_ _ | refine blk_drew ?_ | refine blk_alloc ?_ _)); exact BK138.out) Try.underlying28 rfl (by kernel_rfl)) rfl ?_
    exact ⟨by first | rfl | (simp [errW_none, errW_some] <;> rfl) | (simp [*, errW_none, errW_some] <;> rfl), by repeat (first | (with_reducible first | exact HB.out | apply below_alloc | apply pw_below_drewN | apply below_drew1 | refine below_set ?_ GE137.out | refine below_set ?_ GE138.out) | exact HB.out)⟩

end Go.Proofs.Ytdigplhjfjchnaa.PQ
