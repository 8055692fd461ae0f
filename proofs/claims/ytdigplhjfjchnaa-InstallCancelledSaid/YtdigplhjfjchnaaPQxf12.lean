-- Written by fprint.py, a program of this session's, over the kit's print, with hand-proved functions among them. Lean checks it.
import Derived.Test.YtdigplhjfjchnaaPQx0
import Derived.Test.YtdigplhjfjchnaaPQxf42
import Derived.Test.YtdigplhjfjchnaaPQxf16
import Derived.Test.YtdigplhjfjchnaaPQxf43
namespace Go.Proofs.Ytdigplhjfjchnaa.PQ
open Go.RowKit Go.Proofs.YtdigplhjfjchnaaW.PrintWords Go.Proofs.YtdigplhjfjchnaaW.PrintLast Go.Proofs.YtdigplhjfjchnaaW.PrintMore
attribute [local go_sem] max2_int min2_int max_two min_two max_three min_three max_four min_four   -- for this text's walks alone
set_option linter.unusedVariables false
set_option linter.unusedSimpArgs false

/-! ### install_Complete: function 12 -/
def install_Complete.j0 : Nat → ByteArray → Bool → ByteArray → ByteArray → Bool → ByteArray → Int → Int → Option (ByteArray × ByteArray × Bool × ByteArray × Int × Int × Int)
  | 0, _, _, _, _, _, _, _, _ => none
  | k + 1, x1, x13, x109000, x109001, x109002, x109003, x109004, x109005 => if x13 = true then (some ((⟨#[]⟩ : ByteArray), (⟨#[]⟩ : ByteArray), false, (⟨#[]⟩ : ByteArray), 0, 0, 1)) else (if x109002 = true then (if x109003.toList = x1.toList then (some (x109000, x1, x109002, x109003, x109004, x109005, 0)) else ((install_disarm.f x109000 x1 x109002 x109003 x109004 x109005).bind fun bt112 => (some (bt112.1, bt112.2.1, bt112.2.2.1, bt112.2.2.2.1, bt112.2.2.2.2.1, bt112.2.2.2.2.2, 0)))) else (some (x109000, x1, x109002, x109003, x109004, x109005, 0)))
def install_Complete.f (k : Nat) (a0_0 : ByteArray) (a0_1 : ByteArray) (a0_2 : Bool) (a0_3 : ByteArray) (a0_4 : Int) (a0_5 : Int) (a1 : ByteArray) : Option (ByteArray × ByteArray × Bool × ByteArray × Int × Int × Int) := (install_Check.f k a0_0 a0_1 a0_2 a0_3 a0_4 a0_5).bind fun t110 => (if t110 = 0 then ((install_identifier.f a1).bind fun t111 => (install_Complete.j0 k a1 (!t111) a0_0 a0_1 a0_2 a0_3 a0_4 a0_5)) else (install_Complete.j0 k a1 true a0_0 a0_1 a0_2 a0_3 a0_4 a0_5))
theorem install_Complete.mono_l : ∀ k, (∀ y0 y1 y2 y3 y4 y5 y6 y7, LeO (install_Complete.j0 k y0 y1 y2 y3 y4 y5 y6 y7) (install_Complete.j0 (k + 1) y0 y1 y2 y3 y4 y5 y6 y7))
  | 0 => fun _ _ _ _ _ _ _ _ r h => by simp [install_Complete.j0] at h
  | k + 1 => by
    have ih0 := install_Complete.mono_l k
    · intro y0 y1 y2 y3 y4 y5 y6 y7
      unfold install_Complete.j0
      repeat' first
      | (with_reducible exact ih0 _ _ _ _ _ _ _ _)
      | (with_reducible exact install_Check.mono _ _ _ _ _ _ _)
      | (with_reducible exact LeO.refl _)
      | (with_reducible exact LeO.none _)
      | (with_reducible refine LeO.ite ?_ ?_)
      | (with_reducible refine LeO.bind ?_ (fun _ => ?_))
      | exact ih0 _ _ _ _ _ _ _ _
      | exact install_Check.mono _ _ _ _ _ _ _
      | exact LeO.none _
      | refine LeO.ite ?_ ?_
      | refine LeO.bind ?_ (fun _ => ?_)
theorem install_Complete.mono : ∀ a0 a1 a2 a3 a4 a5 a6 k, LeO (install_Complete.f k a0 a1 a2 a3 a4 a5 a6) (install_Complete.f (k + 1) a0 a1 a2 a3 a4 a5 a6) := by
  intro a0 a1 a2 a3 a4 a5 a6 k
  have ih0 := install_Complete.mono_l k
  unfold install_Complete.f
  repeat' first
      | (with_reducible exact ih0 _ _ _ _ _ _ _ _)
      | (with_reducible exact install_Check.mono _ _ _ _ _ _ _)
      | (with_reducible exact LeO.refl _)
      | (with_reducible exact LeO.none _)
      | (with_reducible refine LeO.ite ?_ ?_)
      | (with_reducible refine LeO.bind ?_ (fun _ => ?_))
      | exact ih0 _ _ _ _ _ _ _ _
      | exact install_Check.mono _ _ _ _ _ _ _
      | exact LeO.none _
      | refine LeO.ite ?_ ?_
      | refine LeO.bind ?_ (fun _ => ?_)
set_option maxHeartbeats 8000000 in
set_option maxRecDepth 100000 in
theorem install_Complete.calls (k : Nat) (a0_0 : ByteArray) (a0_1 : ByteArray) (a0_2 : Bool) (a0_3 : ByteArray) (a0_4 : Int) (a0_5 : Int) (a1 : ByteArray) (r1 : ByteArray) (r2 : ByteArray) (r3 : Bool) (r4 : ByteArray) (r5 : Int) (r6 : Int) (r7 : Int) (w : World) (h : install_Complete.f k a0_0 a0_1 a0_2 a0_3 a0_4 a0_5 a1 = some (r1, r2, r3, r4, r5, r6, r7)) :
    Calls Try.prog 12 #[.agg #[.string a0_0, .string a0_1, .bool a0_2, .string a0_3, .int .i64 a0_4, .int .i64 a0_5], .string a1] w fun e w' => e = .returned (.tuple #[.agg #[.string r1, .string r2, .bool r3, .string r4, .int .i64 r5, .int .i64 r6], .int .i64 r7]) ∧ Below w.heap.size w w' := by
  have hu28 := Try.underlying28
  have HB := Aside0.mk (Below.refl w.heap.size w)
  have H : ((install_Check.f k a0_0 a0_1 a0_2 a0_3 a0_4 a0_5).bind fun t110 => (if t110 = 0 then ((install_identifier.f a1).bind fun t111 => (install_Complete.j0 k a1 (!t111) a0_0 a0_1 a0_2 a0_3 a0_4 a0_5)) else (install_Complete.j0 k a1 true a0_0 a0_1 a0_2 a0_3 a0_4 a0_5))) = some (r1, r2, r3, r4, r5, r6, r7) := h
  clear h
  have HC3 := Aside0.mk H
  clear H
  go_enter Try.func12, Try.ntmps12
  go_upto_region 1 with (first | ((with_reducible refine gate_dst (N := 2) rfl ?_); refine box_event ?hg (N := 2) ?hd (cs := #[.string a0_0, .string a0_1, .bool a0_2, .string a0_3, .int .i64 a0_4, .int .i64 a0_5]) (t := 28) ?hr ?_; (case hd => rfl); (case hg => rfl); (case hr => first | (go_simp; done) | (go_simp; rfl)); intro gb108 hg w4 hbox hb; have n0_ := Aside0.mk (below_step (by repeat (first | (with_reducible first | exact HB.out | apply below_alloc | apply pw_below_drewN | apply below_drew1) | exact HB.out)) hb); have n1_ := Aside0.mk (hbox); have n2_ := Aside0.mk ((by rw [hg]; exact (below_size (by repeat (first | (with_reducible first | exact HB.out | apply below_alloc | apply pw_below_drewN | apply below_drew1) | exact HB.out))) : w.heap.size ≤ gb108)); have n3_ := Aside0.mk ((by rw [hg]; exact (below_size (by repeat (first | (with_reducible first | exact HB.out | apply below_alloc | apply pw_below_drewN | apply below_drew1) | exact HB.out))) : w.heap.size ≤ gb108)); clear HB; have HB := n0_; have BK108 := n1_; have GW108 := n2_; have GE108 := n3_; clear n0_ n1_ n2_ n3_; clear hb hbox hg) | ((with_reducible refine gate_dst (N := 4) rfl ?_); refine box_event ?hg (N := 4) ?hd (cs := #[.string (⟨#[]⟩ : ByteArray), .string (⟨#[]⟩ : ByteArray), .bool false, .string (⟨#[]⟩ : ByteArray), .int .i64 0, .int .i64 0]) (t := 28) ?hr ?_; (case hd => rfl); (case hg => rfl); (case hr => first | (go_simp; done) | (go_simp; rfl)); intro gb109 hg w5 hbox hb; have n0_ := Aside0.mk (blk_below (g := gb108) (o := .cells #[.string a0_0, .string a0_1, .bool a0_2, .string a0_3, .int .i64 a0_4, .int .i64 a0_5] 28 (0, 0)) (by (with_reducible repeat (first | refine blk_drewN ?_ _ | refine blk_drew ?_ | refine blk_alloc ?_ _)); exact BK108.out) hb); have n1_ := Aside0.mk (below_step (by repeat (first | (with_reducible first | exact HB.out | apply below_alloc | apply pw_below_drewN | apply below_drew1 | refine below_set ?_ GE108.out) | exact HB.out)) hb); have n2_ := Aside0.mk (hbox); have n3_ := Aside0.mk ((by rw [hg]; exact (below_size (by repeat (first | (with_reducible first | exact HB.out | apply below_alloc | apply pw_below_drewN | apply below_drew1 | refine below_set ?_ GE108.out) | exact HB.out))) : w.heap.size ≤ gb109)); have n4_ := Aside0.mk ((by rw [hg]; exact (below_size (by repeat (first | (with_reducible first | exact HB.out | apply below_alloc | apply pw_below_drewN | apply below_drew1 | refine below_set ?_ GE108.out) | exact HB.out))) : w.heap.size ≤ gb109)); have n5_ := Aside0.mk ((by rw [hg]; exact Nat.ne_of_lt (blk_lt (g := gb108) (o := .cells #[.string a0_0, .string a0_1, .bool a0_2, .string a0_3, .int .i64 a0_4, .int .i64 a0_5] 28 (0, 0)) (by (with_reducible repeat (first | refine blk_drewN ?_ _ | refine blk_drew ?_ | refine blk_alloc ?_ _)); exact BK108.out)) : gb108 ≠ gb109)); have n6_ := Aside0.mk ((by rw [hg]; exact Nat.ne_of_gt (blk_lt (g := gb108) (o := .cells #[.string a0_0, .string a0_1, .bool a0_2, .string a0_3, .int .i64 a0_4, .int .i64 a0_5] 28 (0, 0)) (by (with_reducible repeat (first | refine blk_drewN ?_ _ | refine blk_drew ?_ | refine blk_alloc ?_ _)); exact BK108.out)) : gb109 ≠ gb108)); clear BK108; clear HB; have BK108 := n0_; have HB := n1_; have BK109 := n2_; have GW109 := n3_; have GE109 := n4_; have NB108_109 := n5_; have NB109_108 := n6_; clear n0_ n1_ n2_ n3_ n4_ n5_ n6_; clear hb hbox hg))
  (try simp only [Act.put, List.setIfInBounds_toArray, List.set_cons_zero, List.set_cons_succ])
  go_cut [13] (fun v13 wc => ∃ (kq : Nat) (x13_2 : Bool), v13 = .bool x13_2 ∧ Aside0 (install_Complete.j0 kq a1 x13_2 a0_0 a0_1 a0_2 a0_3 a0_4 a0_5 = some (r1, r2, r3, r4, r5, r6, r7)) ∧ Aside0 (kq ≤ k) ∧ Aside0 (wc.heap[gb108]? = some (.cells #[.string a0_0, .string a0_1, .bool a0_2, .string a0_3, .int .i64 a0_4, .int .i64 a0_5] 28 (0, 0))) ∧ Aside0 (wc.heap[gb109]? = some (.cells #[.string (⟨#[]⟩ : ByteArray), .string (⟨#[]⟩ : ByteArray), .bool false, .string (⟨#[]⟩ : ByteArray), .int .i64 0, .int .i64 0] 28 (0, 0))) ∧ Aside0 (Below w.heap.size w wc))
  case first =>
    have H := HC3.out
    clear HC3
    replace H := Option.bind_eq_some_iff.mp H
    obtain ⟨t110, A60, H⟩ := H
    replace H : (if t110 = 0 then ((install_identifier.f a1).bind fun t111 => (install_Complete.j0 k a1 (!t111) a0_0 a0_1 a0_2 a0_3 a0_4 a0_5)) else (install_Complete.j0 k a1 true a0_0 a0_1 a0_2 a0_3 a0_4 a0_5)) = some (r1, r2, r3, r4, r5, r6, r7) := H
    have A6 := Aside0.mk A60
    clear A60
    by_cases c7 : t110 = 0
    · rw [if_pos c7] at H
      have c7b0 : (t110 == 0) = true := beq_iff_eq.mpr c7
      have c7b1 : (t110 != 0) = false := bne_eq_false_iff_eq.mpr c7
      clear c7
      (first | rw [c7b0] | (simp only [i64_w, i32_w]; rw [c7b0]) | skip)
      replace H := Option.bind_eq_some_iff.mp H
      obtain ⟨t111, A80, H⟩ := H
      replace H : (install_Complete.j0 k a1 (!t111) a0_0 a0_1 a0_2 a0_3 a0_4 a0_5) = some (r1, r2, r3, r4, r5, r6, r7) := H
      have A8 := Aside0.mk A80
      clear A80
      have H' := Aside0.mk H
      clear H
      have hnb9 := NB108_109.out
      have hnc9 := NB109_108.out
      have hcz10_0 : w5.cell? ⟨gb108, 0, none⟩ = some (.string a0_0) := (blk_cell BK108.out 0).trans rfl
      have hcz10_1 : w5.cell? ⟨gb108, 1, none⟩ = some (.string a0_1) := (blk_cell BK108.out 1).trans rfl
      have hcz10_2 : w5.cell? ⟨gb108, 2, none⟩ = some (.bool a0_2) := (blk_cell BK108.out 2).trans rfl
      have hcz10_3 : w5.cell? ⟨gb108, 3, none⟩ = some (.string a0_3) := (blk_cell BK108.out 3).trans rfl
      have hcz10_4 : w5.cell? ⟨gb108, 4, none⟩ = some (.int .i64 a0_4) := (blk_cell BK108.out 4).trans rfl
      have hcz10_5 : w5.cell? ⟨gb108, 5, none⟩ = some (.int .i64 a0_5) := (blk_cell BK108.out 5).trans rfl
      have hfz10_0 := blk_frozen BK108.out 0
      have hfz10_1 := blk_frozen BK108.out 1
      have hfz10_2 := blk_frozen BK108.out 2
      have hfz10_3 := blk_frozen BK108.out 3
      have hfz10_4 := blk_frozen BK108.out 4
      have hfz10_5 := blk_frozen BK108.out 5
      go_wp2_with (first | ((with_reducible refine gate_callee (f := 16) rfl ?_); refine goesL_ (some 7) rfl rfl Try.func16 (by kernel_rfl) rfl #[.agg #[.string a0_0, .string a0_1, .bool a0_2, .string a0_3, .int .i64 a0_4, .int .i64 a0_5]] rfl (by (try simp only [List.map_toArray, List.map_cons, List.map_nil]); first | done | rfl | (simp only [List.length_drop, List.length_take]; rfl)) ?_; (with_reducible refine (install_Check.calls k a0_0 a0_1 a0_2 a0_3 a0_4 a0_5 t110 _ A6.out).mono ?_); rintro e w11 ⟨rfl, hb⟩; refine ⟨_, rfl, ?_⟩; have n0_ := Aside0.mk (blk_below (g := gb108) (o := .cells #[.string a0_0, .string a0_1, .bool a0_2, .string a0_3, .int .i64 a0_4, .int .i64 a0_5] 28 (0, 0)) (by (with_reducible repeat (first | refine blk_drewN ?_ _ | refine blk_drew ?_ | refine blk_alloc ?_ _)); exact BK108.out) hb); have n1_ := Aside0.mk (blk_below (g := gb109) (o := .cells #[.string (⟨#[]⟩ : ByteArray), .string (⟨#[]⟩ : ByteArray), .bool false, .string (⟨#[]⟩ : ByteArray), .int .i64 0, .int .i64 0] 28 (0, 0)) (by (with_reducible repeat (first | refine blk_drewN ?_ _ | refine blk_drew ?_ | refine blk_alloc ?_ _)); exact BK109.out) hb); have n2_ := Aside0.mk (below_step (by repeat (first | (with_reducible first | exact HB.out | apply below_alloc | apply pw_below_drewN | apply below_drew1 | refine below_set ?_ GE108.out | refine below_set ?_ GE109.out) | exact HB.out)) hb); clear BK108; clear BK109; clear HB; have BK108 := n0_; have BK109 := n1_; have HB := n2_; clear n0_ n1_ n2_; (try clear hb); (try clear hb2); (try clear hk); (try clear hi)) | (go_at_call 42; (with_reducible refine (install_identifier.calls a1 t111 _ A8.out).mono ?_); rintro e w' ⟨rfl, ⟨nd, rfl⟩⟩))
      go_meet
      case rel => exact ⟨_, (!t111), (by first | rfl | (simp; done) | (simp [*]; done)), H', ⟨by first | omega | exact Nat.le_refl _⟩, ⟨by (with_reducible repeat (first | refine blk_drewN ?_ _ | refine blk_drew ?_ | refine blk_alloc ?_ _)); exact BK108.out⟩, ⟨by (with_reducible repeat (first | refine blk_drewN ?_ _ | refine blk_drew ?_ | refine blk_alloc ?_ _)); exact BK109.out⟩, ⟨by repeat (first | (with_reducible first | exact HB.out | apply below_alloc | apply pw_below_drewN | apply below_drew1 | refine below_set ?_ GE108.out | refine below_set ?_ GE109.out) | exact HB.out)⟩⟩
    · rw [if_neg c7] at H
      have c7b0 : (t110 == 0) = false := beq_eq_false_iff_ne.mpr c7
      have c7b1 : (t110 != 0) = true := bne_iff_ne.mpr c7
      (first | rw [c7b0] | (simp only [i64_w, i32_w]; rw [c7b0]) | skip)
      have H' := Aside0.mk H
      clear H
      have hnb12 := NB108_109.out
      have hnc12 := NB109_108.out
      have hcz13_0 : w5.cell? ⟨gb108, 0, none⟩ = some (.string a0_0) := (blk_cell BK108.out 0).trans rfl
      have hcz13_1 : w5.cell? ⟨gb108, 1, none⟩ = some (.string a0_1) := (blk_cell BK108.out 1).trans rfl
      have hcz13_2 : w5.cell? ⟨gb108, 2, none⟩ = some (.bool a0_2) := (blk_cell BK108.out 2).trans rfl
      have hcz13_3 : w5.cell? ⟨gb108, 3, none⟩ = some (.string a0_3) := (blk_cell BK108.out 3).trans rfl
      have hcz13_4 : w5.cell? ⟨gb108, 4, none⟩ = some (.int .i64 a0_4) := (blk_cell BK108.out 4).trans rfl
      have hcz13_5 : w5.cell? ⟨gb108, 5, none⟩ = some (.int .i64 a0_5) := (blk_cell BK108.out 5).trans rfl
      have hfz13_0 := blk_frozen BK108.out 0
      have hfz13_1 := blk_frozen BK108.out 1
      have hfz13_2 := blk_frozen BK108.out 2
      have hfz13_3 := blk_frozen BK108.out 3
      have hfz13_4 := blk_frozen BK108.out 4
      have hfz13_5 := blk_frozen BK108.out 5
      go_wp2_with (first | ((with_reducible refine gate_callee (f := 16) rfl ?_); refine goesL_ (some 7) rfl rfl Try.func16 (by kernel_rfl) rfl #[.agg #[.string a0_0, .string a0_1, .bool a0_2, .string a0_3, .int .i64 a0_4, .int .i64 a0_5]] rfl (by (try simp only [List.map_toArray, List.map_cons, List.map_nil]); first | done | rfl | (simp only [List.length_drop, List.length_take]; rfl)) ?_; (with_reducible refine (install_Check.calls k a0_0 a0_1 a0_2 a0_3 a0_4 a0_5 t110 _ A6.out).mono ?_); rintro e w14 ⟨rfl, hb⟩; refine ⟨_, rfl, ?_⟩; have n0_ := Aside0.mk (blk_below (g := gb108) (o := .cells #[.string a0_0, .string a0_1, .bool a0_2, .string a0_3, .int .i64 a0_4, .int .i64 a0_5] 28 (0, 0)) (by (with_reducible repeat (first | refine blk_drewN ?_ _ | refine blk_drew ?_ | refine blk_alloc ?_ _)); exact BK108.out) hb); have n1_ := Aside0.mk (blk_below (g := gb109) (o := .cells #[.string (⟨#[]⟩ : ByteArray), .string (⟨#[]⟩ : ByteArray), .bool false, .string (⟨#[]⟩ : ByteArray), .int .i64 0, .int .i64 0] 28 (0, 0)) (by (with_reducible repeat (first | refine blk_drewN ?_ _ | refine blk_drew ?_ | refine blk_alloc ?_ _)); exact BK109.out) hb); have n2_ := Aside0.mk (below_step (by repeat (first | (with_reducible first | exact HB.out | apply below_alloc | apply pw_below_drewN | apply below_drew1 | refine below_set ?_ GE108.out | refine below_set ?_ GE109.out) | exact HB.out)) hb); clear BK108; clear BK109; clear HB; have BK108 := n0_; have BK109 := n1_; have HB := n2_; clear n0_ n1_ n2_; (try clear hb); (try clear hb2); (try clear hk); (try clear hi)))
      go_meet
      case rel => exact ⟨_, (true), (by first | rfl | (simp; done) | (simp [*]; done)), H', ⟨by first | omega | exact Nat.le_refl _⟩, ⟨by (with_reducible repeat (first | refine blk_drewN ?_ _ | refine blk_drew ?_ | refine blk_alloc ?_ _)); exact BK108.out⟩, ⟨by (with_reducible repeat (first | refine blk_drewN ?_ _ | refine blk_drew ?_ | refine blk_alloc ?_ _)); exact BK109.out⟩, ⟨by repeat (first | (with_reducible first | exact HB.out | apply below_alloc | apply pw_below_drewN | apply below_drew1 | refine below_set ?_ GE108.out | refine below_set ?_ GE109.out) | exact HB.out)⟩⟩
  case rest =>
    clear HC3
    try clear c1
    try clear p2
    try clear c7
    try clear c7b0
    try clear c7b1
    try clear c9
    try clear c12
    try clear hcz10_0
    try clear hcz10_1
    try clear hcz10_2
    try clear hcz10_3
    try clear hcz10_4
    try clear hcz10_5
    try clear hcz13_0
    try clear hcz13_1
    try clear hcz13_2
    try clear hcz13_3
    try clear hcz13_4
    try clear hcz13_5
    try clear hfz10_0
    try clear hfz10_1
    try clear hfz10_2
    try clear hfz10_3
    try clear hfz10_4
    try clear hfz10_5
    try clear hfz13_0
    try clear hfz13_1
    try clear hfz13_2
    try clear hfz13_3
    try clear hfz13_4
    try clear hfz13_5
    obtain ⟨kq, x13_2, rfl, HA, HJ2, BK108, BK109, HB⟩ := hcut
    cases kq with
    | zero => exact absurd HA.out (by simp [install_Complete.j0])
    | succ kj2 =>
      have H := HA.out
      clear HA
      simp only [install_Complete.j0] at H
      by_cases c15 : x13_2 = true
      · subst c15
        have H1 : (some ((⟨#[]⟩ : ByteArray), (⟨#[]⟩ : ByteArray), false, (⟨#[]⟩ : ByteArray), 0, 0, 1)) = some (r1, r2, r3, r4, r5, r6, r7) := by rw [if_pos rfl] at H; exact H
        clear H
        have H := H1
        clear H1
        simp only [Option.some.injEq, Prod.mk.injEq] at H
        obtain ⟨rfl, rfl, rfl, rfl, rfl, rfl, rfl⟩ := H
        have hnb16 := NB109_108.out
        have hnc16 := NB108_109.out
        have hcz17_0 : wc.cell? ⟨gb109, 0, none⟩ = some (.string (⟨#[]⟩ : ByteArray)) := (blk_cell BK109.out 0).trans rfl
        have hcz17_1 : wc.cell? ⟨gb109, 1, none⟩ = some (.string (⟨#[]⟩ : ByteArray)) := (blk_cell BK109.out 1).trans rfl
        have hcz17_2 : wc.cell? ⟨gb109, 2, none⟩ = some (.bool false) := (blk_cell BK109.out 2).trans rfl
        have hcz17_3 : wc.cell? ⟨gb109, 3, none⟩ = some (.string (⟨#[]⟩ : ByteArray)) := (blk_cell BK109.out 3).trans rfl
        have hcz17_4 : wc.cell? ⟨gb109, 4, none⟩ = some (.int .i64 0) := (blk_cell BK109.out 4).trans rfl
        have hcz17_5 : wc.cell? ⟨gb109, 5, none⟩ = some (.int .i64 0) := (blk_cell BK109.out 5).trans rfl
        have hfz17_0 := blk_frozen BK109.out 0
        have hfz17_1 := blk_frozen BK109.out 1
        have hfz17_2 := blk_frozen BK109.out 2
        have hfz17_3 := blk_frozen BK109.out 3
        have hfz17_4 := blk_frozen BK109.out 4
        have hfz17_5 := blk_frozen BK109.out 5
        go_wp2
        refine bodyPost_ret (results_ct rfl _ _ gb109 28 #[.string (⟨#[]⟩ : ByteArray), .string (⟨#[]⟩ : ByteArray), .bool false, .string (⟨#[]⟩ : ByteArray), .int .i64 0, .int .i64 0] (0, 0) _ rfl (by (with_reducible repeat (first | refine blk_drewN ?_ _ | refine blk_drew ?_ | refine blk_alloc ?_ _)); refine blk_put (cs := #[.string (⟨#[]⟩ : ByteArray), .string (⟨#[]⟩ : ByteArray), .bool false, .string (⟨#[]⟩ : ByteArray), .int .i64 0, .int .i64 0]) ?_ 5 _ rfl; (with_reducible repeat (first | refine blk_drewN ?_ _ | refine blk_drew ?_ | refine blk_alloc ?_ _)); refine blk_put (cs := #[.string (⟨#[]⟩ : ByteArray), .string (⟨#[]⟩ : ByteArray), .bool false, .string (⟨#[]⟩ : ByteArray), .int .i64 0, .int .i64 0]) ?_ 4 _ rfl; (with_reducible repeat (first | refine blk_drewN ?_ _ | refine blk_drew ?_ | refine blk_alloc ?_ _)); refine blk_put (cs := #[.string (⟨#[]⟩ : ByteArray), .string (⟨#[]⟩ : ByteArray), .bool false, .string (⟨#[]⟩ : ByteArray), .int .i64 0, .int .i64 0]) ?_ 3 _ rfl; (with_reducible repeat (first | refine blk_drewN ?_ _ | refine blk_drew ?_ | refine blk_alloc ?_ _)); refine blk_put (cs := #[.string (⟨#[]⟩ : ByteArray), .string (⟨#[]⟩ : ByteArray), .bool false, .string (⟨#[]⟩ : ByteArray), .int .i64 0, .int .i64 0]) ?_ 2 _ rfl; (with_reducible repeat (first | refine blk_drewN ?_ _ | refine blk_drew ?_ | refine blk_alloc ?_ _)); refine blk_put (cs := #[.string (⟨#[]⟩ : ByteArray), .string (⟨#[]⟩ : ByteArray), .bool false, .string (⟨#[]⟩ : ByteArray), .int .i64 0, .int .i64 0]) ?_ 1 _ rfl; (with_reducible repeat (first | refine blk_drewN ?_ _ | refine blk_drew ?_ | refine blk_alloc ?_ _)); refine blk_put (cs := #[.string (⟨#[]⟩ : ByteArray), .string (⟨#[]⟩ : ByteArray), .bool false, .string (⟨#[]⟩ : ByteArray), .int .i64 0, .int .i64 0]) ?_ 0 _ rfl; (with_reducible repeat (first | refine blk_drewN ?_ _ | refine blk_drew ?_ | refine blk_alloc ?_ _)); exact BK109.out) Try.underlying28 rfl (by kernel_rfl)) rfl ?_
        exact ⟨by first | rfl | (simp [errW_none, errW_some] <;> rfl) | (simp [*, errW_none, errW_some] <;> rfl), by repeat (first | (with_reducible first | exact HB.out | apply below_alloc | apply pw_below_drewN | apply below_drew1 | refine below_set ?_ GE108.out | refine below_set ?_ GE109.out) | exact HB.out)⟩
      · replace c15 := Bool.eq_false_iff.mpr c15
        subst c15
        have H1 : (if a0_2 = true then (if a0_3.toList = a1.toList then (some (a0_0, a1, a0_2, a0_3, a0_4, a0_5, 0)) else ((install_disarm.f a0_0 a1 a0_2 a0_3 a0_4 a0_5).bind fun bt112 => (some (bt112.1, bt112.2.1, bt112.2.2.1, bt112.2.2.2.1, bt112.2.2.2.2.1, bt112.2.2.2.2.2, 0)))) else (some (a0_0, a1, a0_2, a0_3, a0_4, a0_5, 0))) = some (r1, r2, r3, r4, r5, r6, r7) := by rw [if_neg (show ¬ (false = true) by decide)] at H; exact H
        clear H
        have H := H1
        clear H1
        by_cases c18 : a0_2 = true
        · subst c18
          have H1 : (if a0_3.toList = a1.toList then (some (a0_0, a1, true, a0_3, a0_4, a0_5, 0)) else ((install_disarm.f a0_0 a1 true a0_3 a0_4 a0_5).bind fun bt112 => (some (bt112.1, bt112.2.1, bt112.2.2.1, bt112.2.2.2.1, bt112.2.2.2.2.1, bt112.2.2.2.2.2, 0)))) = some (r1, r2, r3, r4, r5, r6, r7) := by rw [if_pos rfl] at H; exact H
          clear H
          have H := H1
          clear H1
          by_cases c19 : a0_3.toList = a1.toList
          · rw [if_pos c19] at H
            have c19b0 : (a0_3.toList == a1.toList) = true := beq_iff_eq.mpr c19
            have c19b1 : (a0_3.toList != a1.toList) = false := bne_eq_false_iff_eq.mpr c19
            clear c19
            simp only [Option.some.injEq, Prod.mk.injEq] at H
            obtain ⟨rfl, rfl, rfl, rfl, rfl, rfl, rfl⟩ := H
            have hnb20 := NB108_109.out
            have hnc20 := NB109_108.out
            have hcz21_0 : wc.cell? ⟨gb108, 0, none⟩ = some (.string a0_0) := (blk_cell BK108.out 0).trans rfl
            have hcz21_1 : wc.cell? ⟨gb108, 1, none⟩ = some (.string a0_1) := (blk_cell BK108.out 1).trans rfl
            have hcz21_2 : wc.cell? ⟨gb108, 2, none⟩ = some (.bool true) := (blk_cell BK108.out 2).trans rfl
            have hcz21_3 : wc.cell? ⟨gb108, 3, none⟩ = some (.string a0_3) := (blk_cell BK108.out 3).trans rfl
            have hcz21_4 : wc.cell? ⟨gb108, 4, none⟩ = some (.int .i64 a0_4) := (blk_cell BK108.out 4).trans rfl
            have hcz21_5 : wc.cell? ⟨gb108, 5, none⟩ = some (.int .i64 a0_5) := (blk_cell BK108.out 5).trans rfl
            have hfz21_0 := blk_frozen BK108.out 0
            have hfz21_1 := blk_frozen BK108.out 1
            have hfz21_2 := blk_frozen BK108.out 2
            have hfz21_3 := blk_frozen BK108.out 3
            have hfz21_4 := blk_frozen BK108.out 4
            have hfz21_5 := blk_frozen BK108.out 5
            have hcz22_0 : wc.cell? ⟨gb109, 0, none⟩ = some (.string (⟨#[]⟩ : ByteArray)) := (blk_cell BK109.out 0).trans rfl
            have hcz22_1 : wc.cell? ⟨gb109, 1, none⟩ = some (.string (⟨#[]⟩ : ByteArray)) := (blk_cell BK109.out 1).trans rfl
            have hcz22_2 : wc.cell? ⟨gb109, 2, none⟩ = some (.bool false) := (blk_cell BK109.out 2).trans rfl
            have hcz22_3 : wc.cell? ⟨gb109, 3, none⟩ = some (.string (⟨#[]⟩ : ByteArray)) := (blk_cell BK109.out 3).trans rfl
            have hcz22_4 : wc.cell? ⟨gb109, 4, none⟩ = some (.int .i64 0) := (blk_cell BK109.out 4).trans rfl
            have hcz22_5 : wc.cell? ⟨gb109, 5, none⟩ = some (.int .i64 0) := (blk_cell BK109.out 5).trans rfl
            have hfz22_0 := blk_frozen BK109.out 0
            have hfz22_1 := blk_frozen BK109.out 1
            have hfz22_2 := blk_frozen BK109.out 2
            have hfz22_3 := blk_frozen BK109.out 3
            have hfz22_4 := blk_frozen BK109.out 4
            have hfz22_5 := blk_frozen BK109.out 5
            go_wp2
            refine bodyPost_ret (results_ct rfl _ _ gb109 28 #[.string a0_0, .string a1, .bool true, .string a0_3, .int .i64 a0_4, .int .i64 a0_5] (0, 0) _ rfl (by (with_reducible repeat (first | refine blk_drewN ?_ _ | refine blk_drew ?_ | refine blk_alloc ?_ _)); refine blk_put (cs := #[.string a0_0, .string a1, .bool true, .string a0_3, .int .i64 a0_4, .int .i64 0]) ?_ 5 _ rfl; (with_reducible repeat (first | refine blk_drewN ?_ _ | refine blk_drew ?_ | refine blk_alloc ?_ _)); refine blk_put (cs := #[.string a0_0, .string a1, .bool true, .string a0_3, .int .i64 0, .int .i64 0]) ?_ 4 _ rfl; (with_reducible repeat (first | refine blk_drewN ?_ _ | refine blk_drew ?_ | refine blk_alloc ?_ _)); refine blk_put (cs := #[.string a0_0, .string a1, .bool true, .string (⟨#[]⟩ : ByteArray), .int .i64 0, .int .i64 0]) ?_ 3 _ rfl; (with_reducible repeat (first | refine blk_drewN ?_ _ | refine blk_drew ?_ | refine blk_alloc ?_ _)); refine blk_put (cs := #[.string a0_0, .string a1, .bool false, .string (⟨#[]⟩ : ByteArray), .int .i64 0, .int .i64 0]) ?_ 2 _ rfl; (with_reducible repeat (first | refine blk_drewN ?_ _ | refine blk_drew ?_ | refine blk_alloc ?_ _)); refine blk_put (cs := #[.string a0_0, .string (⟨#[]⟩ : ByteArray), .bool false, .string (⟨#[]⟩ : ByteArray), .int .i64 0, .int .i64 0]) ?_ 1 _ rfl; (with_reducible repeat (first | refine blk_drewN ?_ _ | refine blk_drew ?_ | refine blk_alloc ?_ _)); refine blk_put (cs := #[.string (⟨#[]⟩ : ByteArray), .string (⟨#[]⟩ : ByteArray), .bool false, .string (⟨#[]⟩ : ByteArray), .int .i64 0, .int .i64 0]) ?_ 0 _ rfl; (with_reducible repeat (first | refine blk_drewN ?_ _ | refine blk_drew ?_ | refine blk_alloc ?_ _)); refine blk_far ?_ NB109_108.out _; (with_reducible repeat (first | refine blk_drewN ?_ _ | refine blk_drew ?_ | refine blk_alloc ?_ _)); exact BK109.out) Try.underlying28 rfl (by kernel_rfl)) rfl ?_
            exact ⟨by first | rfl | (simp [errW_none, errW_some] <;> rfl) | (simp [*, errW_none, errW_some] <;> rfl), by repeat (first | (with_reducible first | exact HB.out | apply below_alloc | apply pw_below_drewN | apply below_drew1 | refine below_set ?_ GE108.out | refine below_set ?_ GE109.out) | exact HB.out)⟩
          · rw [if_neg c19] at H
            have c19b0 : (a0_3.toList == a1.toList) = false := beq_eq_false_iff_ne.mpr c19
            have c19b1 : (a0_3.toList != a1.toList) = true := bne_iff_ne.mpr c19
            replace H := Option.bind_eq_some_iff.mp H
            obtain ⟨⟨t112, t113, t114, t115, t116, t117⟩, A230, H⟩ := H
            replace H : (some (t112, t113, t114, t115, t116, t117, 0)) = some (r1, r2, r3, r4, r5, r6, r7) := H
            have A23 := Aside0.mk A230
            clear A230
            simp only [Option.some.injEq, Prod.mk.injEq] at H
            obtain ⟨rfl, rfl, rfl, rfl, rfl, rfl, rfl⟩ := H
            have hnb24 := NB108_109.out
            have hnc24 := NB109_108.out
            have hcz25_0 : wc.cell? ⟨gb108, 0, none⟩ = some (.string a0_0) := (blk_cell BK108.out 0).trans rfl
            have hcz25_1 : wc.cell? ⟨gb108, 1, none⟩ = some (.string a0_1) := (blk_cell BK108.out 1).trans rfl
            have hcz25_2 : wc.cell? ⟨gb108, 2, none⟩ = some (.bool true) := (blk_cell BK108.out 2).trans rfl
            have hcz25_3 : wc.cell? ⟨gb108, 3, none⟩ = some (.string a0_3) := (blk_cell BK108.out 3).trans rfl
            have hcz25_4 : wc.cell? ⟨gb108, 4, none⟩ = some (.int .i64 a0_4) := (blk_cell BK108.out 4).trans rfl
            have hcz25_5 : wc.cell? ⟨gb108, 5, none⟩ = some (.int .i64 a0_5) := (blk_cell BK108.out 5).trans rfl
            have hfz25_0 := blk_frozen BK108.out 0
            have hfz25_1 := blk_frozen BK108.out 1
            have hfz25_2 := blk_frozen BK108.out 2
            have hfz25_3 := blk_frozen BK108.out 3
            have hfz25_4 := blk_frozen BK108.out 4
            have hfz25_5 := blk_frozen BK108.out 5
            go_wp2_with (first | ((with_reducible refine gate_callee (f := 43) rfl ?_); refine goesL_ (some 26) rfl rfl Try.func43 (by kernel_rfl) rfl #[.agg #[.string a0_0, .string a1, .bool true, .string a0_3, .int .i64 a0_4, .int .i64 a0_5]] rfl (by (try simp only [List.map_toArray, List.map_cons, List.map_nil]); first | done | rfl | (simp only [List.length_drop, List.length_take]; rfl)) ?_; (with_reducible refine (install_disarm.calls a0_0 a1 true a0_3 a0_4 a0_5 t112 t113 t114 t115 t116 t117 _ A23.out).mono ?_); rintro e w26 ⟨rfl, hb⟩; refine ⟨_, rfl, ?_⟩; have n0_ := Aside0.mk (blk_below (g := gb108) (o := .cells #[.string a0_0, .string a1, .bool true, .string a0_3, .int .i64 a0_4, .int .i64 a0_5] 28 (0, 0)) (by (with_reducible repeat (first | refine blk_drewN ?_ _ | refine blk_drew ?_ | refine blk_alloc ?_ _)); refine blk_put (cs := #[.string a0_0, .string a0_1, .bool true, .string a0_3, .int .i64 a0_4, .int .i64 a0_5]) ?_ 1 _ rfl; (with_reducible repeat (first | refine blk_drewN ?_ _ | refine blk_drew ?_ | refine blk_alloc ?_ _)); exact BK108.out) hb); have n1_ := Aside0.mk (blk_below (g := gb109) (o := .cells #[.string (⟨#[]⟩ : ByteArray), .string (⟨#[]⟩ : ByteArray), .bool false, .string (⟨#[]⟩ : ByteArray), .int .i64 0, .int .i64 0] 28 (0, 0)) (by (with_reducible repeat (first | refine blk_drewN ?_ _ | refine blk_drew ?_ | refine blk_alloc ?_ _)); refine blk_far ?_ NB109_108.out _; (with_reducible repeat (first | refine blk_drewN ?_ _ | refine blk_drew ?_ | refine blk_alloc ?_ _)); exact BK109.out) hb); have n2_ := Aside0.mk (below_step (by repeat (first | (with_reducible first | exact HB.out | apply below_alloc | apply pw_below_drewN | apply below_drew1 | refine below_set ?_ GE108.out | refine below_set ?_ GE109.out) | exact HB.out)) hb); clear BK108; clear BK109; clear HB; have BK108 := n0_; have BK109 := n1_; have HB := n2_; clear n0_ n1_ n2_; (try clear hb); (try clear hb2); (try clear hk); (try clear hi); have hcz27_0 : w26.cell? ⟨gb108, 0, none⟩ = some (.string a0_0) := (blk_cell BK108.out 0).trans rfl; have hcz27_1 : w26.cell? ⟨gb108, 1, none⟩ = some (.string a1) := (blk_cell BK108.out 1).trans rfl; have hcz27_2 : w26.cell? ⟨gb108, 2, none⟩ = some (.bool true) := (blk_cell BK108.out 2).trans rfl; have hcz27_3 : w26.cell? ⟨gb108, 3, none⟩ = some (.string a0_3) := (blk_cell BK108.out 3).trans rfl; have hcz27_4 : w26.cell? ⟨gb108, 4, none⟩ = some (.int .i64 a0_4) := (blk_cell BK108.out 4).trans rfl; have hcz27_5 : w26.cell? ⟨gb108, 5, none⟩ = some (.int .i64 a0_5) := (blk_cell BK108.out 5).trans rfl; have hfz27_0 := blk_frozen BK108.out 0; have hfz27_1 := blk_frozen BK108.out 1; have hfz27_2 := blk_frozen BK108.out 2; have hfz27_3 := blk_frozen BK108.out 3; have hfz27_4 := blk_frozen BK108.out 4; have hfz27_5 := blk_frozen BK108.out 5; have hcz28_0 : w26.cell? ⟨gb109, 0, none⟩ = some (.string (⟨#[]⟩ : ByteArray)) := (blk_cell BK109.out 0).trans rfl; have hcz28_1 : w26.cell? ⟨gb109, 1, none⟩ = some (.string (⟨#[]⟩ : ByteArray)) := (blk_cell BK109.out 1).trans rfl; have hcz28_2 : w26.cell? ⟨gb109, 2, none⟩ = some (.bool false) := (blk_cell BK109.out 2).trans rfl; have hcz28_3 : w26.cell? ⟨gb109, 3, none⟩ = some (.string (⟨#[]⟩ : ByteArray)) := (blk_cell BK109.out 3).trans rfl; have hcz28_4 : w26.cell? ⟨gb109, 4, none⟩ = some (.int .i64 0) := (blk_cell BK109.out 4).trans rfl; have hcz28_5 : w26.cell? ⟨gb109, 5, none⟩ = some (.int .i64 0) := (blk_cell BK109.out 5).trans rfl; have hfz28_0 := blk_frozen BK109.out 0; have hfz28_1 := blk_frozen BK109.out 1; have hfz28_2 := blk_frozen BK109.out 2; have hfz28_3 := blk_frozen BK109.out 3; have hfz28_4 := blk_frozen BK109.out 4; have hfz28_5 := blk_frozen BK109.out 5))
            refine bodyPost_ret (results_ct rfl _ _ gb109 28 #[.string t112, .string t113, .bool t114, .string t115, .int .i64 t116, .int .i64 t117] (0, 0) _ rfl (by (with_reducible repeat (first | refine blk_drewN ?_ _ | refine blk_drew ?_ | refine blk_alloc ?_ _)); refine blk_put (cs := #[.string t112, .string t113, .bool t114, .string t115, .int .i64 t116, .int .i64 0]) ?_ 5 _ rfl; (with_reducible repeat (first | refine blk_drewN ?_ _ | refine blk_drew ?_ | refine blk_alloc ?_ _)); refine blk_put (cs := #[.string t112, .string t113, .bool t114, .string t115, .int .i64 0, .int .i64 0]) ?_ 4 _ rfl; (with_reducible repeat (first | refine blk_drewN ?_ _ | refine blk_drew ?_ | refine blk_alloc ?_ _)); refine blk_put (cs := #[.string t112, .string t113, .bool t114, .string (⟨#[]⟩ : ByteArray), .int .i64 0, .int .i64 0]) ?_ 3 _ rfl; (with_reducible repeat (first | refine blk_drewN ?_ _ | refine blk_drew ?_ | refine blk_alloc ?_ _)); refine blk_put (cs := #[.string t112, .string t113, .bool false, .string (⟨#[]⟩ : ByteArray), .int .i64 0, .int .i64 0]) ?_ 2 _ rfl; (with_reducible repeat (first | refine blk_drewN ?_ _ | refine blk_drew ?_ | refine blk_alloc ?_ _)); refine blk_put (cs := #[.string t112, .string (⟨#[]⟩ : ByteArray), .bool false, .string (⟨#[]⟩ : ByteArray), .int .i64 0, .int .i64 0]) ?_ 1 _ rfl; (with_reducible repeat (first | refine blk_drewN ?_ _ | refine blk_drew ?_ | refine blk_alloc ?_ _)); refine blk_put (cs := #[.string (⟨#[]⟩ : ByteArray), .string (⟨#[]⟩ : ByteArray), .bool false, .string (⟨#[]⟩ : ByteArray), .int .i64 0, .int .i64 0]) ?_ 0 _ rfl; (with_reducible repeat (first | refine blk_drewN ?_ _ | refine blk_drew ?_ | refine blk_alloc ?_ _)); refine blk_far ?_ NB109_108.out _; (with_reducible repeat (first | refine blk_drewN ?_ _ | refine blk_drew ?_ | refine blk_alloc ?_ _)); refine blk_far ?_ NB109_108.out _; (with_reducible repeat (first | refine blk_drewN ?_ _ | refine blk_drew ?_ | refine blk_alloc ?_ _)); refine blk_far ?_ NB109_108.out _; (with_reducible repeat (first | refine blk_drewN ?_ _ | refine blk_drew ?_ | refine blk_alloc ?_ _)); refine blk_far ?_ NB109_108.out _; (with_reducible repeat (first | refine blk_drewN ?_ _ | refine blk_drew ?_ | refine blk_alloc ?_ _)); refine blk_far ?_ NB109_108.out _; (with_reducible repeat (first | refine blk_drewN ?_ _ | refine blk_drew ?_ | refine blk_alloc ?_ _)); refine blk_far ?_ NB109_108.out _; (with_reducible repeat (first | refine blk_drewN ?_ _ | refine blk_drew ?_ | refine blk_alloc ?_ _)); exact BK109.out) Try.underlying28 rfl (by kernel_rfl)) rfl ?_
            exact ⟨by first | rfl | (simp [errW_none, errW_some] <;> rfl) | (simp [*, errW_none, errW_some] <;> rfl), by repeat (first | (with_reducible first | exact HB.out | apply below_alloc | apply pw_below_drewN | apply below_drew1 | refine below_set ?_ GE108.out | refine below_set ?_ GE109.out) | exact HB.out)⟩
        · replace c18 := Bool.eq_false_iff.mpr c18
          subst c18
          have H1 : (some (a0_0, a1, false, a0_3, a0_4, a0_5, 0)) = some (r1, r2, r3, r4, r5, r6, r7) := by rw [if_neg (show ¬ (false = true) by decide)] at H; exact H
          clear H
          have H := H1
          clear H1
          simp only [Option.some.injEq, Prod.mk.injEq] at H
          obtain ⟨rfl, rfl, rfl, rfl, rfl, rfl, rfl⟩ := H
          have hnb29 := NB108_109.out
          have hnc29 := NB109_108.out
          have hcz30_0 : wc.cell? ⟨gb108, 0, none⟩ = some (.string a0_0) := (blk_cell BK108.out 0).trans rfl
          have hcz30_1 : wc.cell? ⟨gb108, 1, none⟩ = some (.string a0_1) := (blk_cell BK108.out 1).trans rfl
          have hcz30_2 : wc.cell? ⟨gb108, 2, none⟩ = some (.bool false) := (blk_cell BK108.out 2).trans rfl
          have hcz30_3 : wc.cell? ⟨gb108, 3, none⟩ = some (.string a0_3) := (blk_cell BK108.out 3).trans rfl
          have hcz30_4 : wc.cell? ⟨gb108, 4, none⟩ = some (.int .i64 a0_4) := (blk_cell BK108.out 4).trans rfl
          have hcz30_5 : wc.cell? ⟨gb108, 5, none⟩ = some (.int .i64 a0_5) := (blk_cell BK108.out 5).trans rfl
          have hfz30_0 := blk_frozen BK108.out 0
          have hfz30_1 := blk_frozen BK108.out 1
          have hfz30_2 := blk_frozen BK108.out 2
          have hfz30_3 := blk_frozen BK108.out 3
          have hfz30_4 := blk_frozen BK108.out 4
          have hfz30_5 := blk_frozen BK108.out 5
          have hcz31_0 : wc.cell? ⟨gb109, 0, none⟩ = some (.string (⟨#[]⟩ : ByteArray)) := (blk_cell BK109.out 0).trans rfl
          have hcz31_1 : wc.cell? ⟨gb109, 1, none⟩ = some (.string (⟨#[]⟩ : ByteArray)) := (blk_cell BK109.out 1).trans rfl
          have hcz31_2 : wc.cell? ⟨gb109, 2, none⟩ = some (.bool false) := (blk_cell BK109.out 2).trans rfl
          have hcz31_3 : wc.cell? ⟨gb109, 3, none⟩ = some (.string (⟨#[]⟩ : ByteArray)) := (blk_cell BK109.out 3).trans rfl
          have hcz31_4 : wc.cell? ⟨gb109, 4, none⟩ = some (.int .i64 0) := (blk_cell BK109.out 4).trans rfl
          have hcz31_5 : wc.cell? ⟨gb109, 5, none⟩ = some (.int .i64 0) := (blk_cell BK109.out 5).trans rfl
          have hfz31_0 := blk_frozen BK109.out 0
          have hfz31_1 := blk_frozen BK109.out 1
          have hfz31_2 := blk_frozen BK109.out 2
          have hfz31_3 := blk_frozen BK109.out 3
          have hfz31_4 := blk_frozen BK109.out 4
          have hfz31_5 := blk_frozen BK109.out 5
          go_wp2
          refine bodyPost_ret (results_ct rfl _ _ gb109 28 #[.string a0_0, .string a1, .bool false, .string a0_3, .int .i64 a0_4, .int .i64 a0_5] (0, 0) _ rfl (by (with_reducible repeat (first | refine blk_drewN ?_ _ | refine blk_drew ?_ | refine blk_alloc ?_ _)); refine blk_put (cs := #[.string a0_0, .string a1, .bool false, .string a0_3, .int .i64 a0_4, .int .i64 0]) ?_ 5 _ rfl; (with_reducible repeat (first | refine blk_drewN ?_ _ | refine blk_drew ?_ | refine blk_alloc ?_ _)); refine blk_put (cs := #[.string a0_0, .string a1, .bool false, .string a0_3, .int .i64 0, .int .i64 0]) ?_ 4 _ rfl; (with_reducible repeat (first | refine blk_drewN ?_ _ | refine blk_drew ?_ | refine blk_alloc ?_ _)); refine blk_put (cs := #[.string a0_0, .string a1, .bool false, .string (⟨#[]⟩ : ByteArray), .int .i64 0, .int .i64 0]) ?_ 3 _ rfl; (with_reducible repeat (first | refine blk_drewN ?_ _ | refine blk_drew ?_ | refine blk_alloc ?_ _)); refine blk_put (cs := #[.string a0_0, .string a1, .bool false, .string (⟨#[]⟩ : ByteArray), .int .i64 0, .int .i64 0]) ?_ 2 _ rfl; (with_reducible repeat (first | refine blk_drewN ?_ _ | refine blk_drew ?_ | refine blk_alloc ?_ _)); refine blk_put (cs := #[.string a0_0, .string (⟨#[]⟩ : ByteArray), .bool false, .string (⟨#[]⟩ : ByteArray), .int .i64 0, .int .i64 0]) ?_ 1 _ rfl; (with_reducible repeat (first | refine blk_drewN ?_ _ | refine blk_drew ?_ | refine blk_alloc ?_ _)); refine blk_put (cs := #[.string (⟨#[]⟩ : ByteArray), .string (⟨#[]⟩ : ByteArray), .bool false, .string (⟨#[]⟩ : ByteArray), .int .i64 0, .int .i64 0]) ?_ 0 _ rfl; (with_reducible repeat (first | refine blk_drewN ?_ _ | refine blk_drew ?_ | refine blk_alloc ?_ _)); refine blk_far ?_ NB109_108.out _; (with_reducible repeat (first | refine blk_drewN ?_ _ | refine blk_drew ?_ | refine blk_alloc ?_ _)); exact BK109.out) Try.underlying28 rfl (by kernel_rfl)) rfl ?_
          exact ⟨by first | rfl | (simp [errW_none, errW_some] <;> rfl) | (simp [*, errW_none, errW_some] <;> rfl), by repeat (first | (with_reducible first | exact HB.out | apply below_alloc | apply pw_below_drewN | apply below_drew1 | refine below_set ?_ GE108.out | refine below_set ?_ GE109.out) | exact HB.out)⟩

end Go.Proofs.Ytdigplhjfjchnaa.PQ
