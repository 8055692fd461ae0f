-- Printed by fprint.py and zip.py, programs of this session's, over the kit's print; Lean checks it.
import Derived.Test.YtnipgplobipeeaaZ0
import Derived.Test.YtnipgplobipeeaaZf43
namespace Go.Proofs.Ytnipgplobipeeaa.PQ
open Go.RowKit Go.Proofs.YtnipgplobipeeaaW.PrintWords Go.Proofs.YtnipgplobipeeaaW.PrintLast Go.Proofs.YtnipgplobipeeaaW.PrintMore
attribute [local go_sem] max2_int min2_int max_two min_two max_three min_three max_four min_four   -- for this text's walks alone
set_option linter.unusedVariables false
set_option linter.unusedSimpArgs false
theorem ins_one.calls (v f : Value) (b : Int) (w : World) (hb : b ≤ 1) :
 Calls Try.prog 59 #[v, .int .i64 0, .int .i64 b, f] w fun e w' => e = .returned (.tuple #[]) ∧ w' = w := by
 have c1 : decide (1 < b) = false := decide_eq_false (by omega)
 clear hb
 go_enter Try.func59, Try.ntmps59
 go_wp2
 go_loopg [8] 0 (fun kq v8 w' => v8 = .int .i64 1 ∧ w' = w)
 case atStart => exact ⟨rfl, rfl⟩
 case round =>
  obtain ⟨rfl, rfl⟩ := hrel
  go_wp2
  go_end0
  exact ⟨rfl, rfl⟩
theorem stable_one.calls (v f : Value) (n : Int) (w : World) (hn : n ≤ 1) :
 Calls Try.prog 58 #[v, .int .i64 n, f] w fun e w' => e = .returned (.tuple #[]) ∧ w' = w := by
 have c1 : decide (20 ≤ n) = false := decide_eq_false (by omega)
 have c2 : decide (20 < n) = false := decide_eq_false (by omega)
 have HN := Aside0.mk hn
 clear hn
 go_enter Try.func58, Try.ntmps58
 go_wp2
 go_loopg [7, 8] 0 (fun kq v7 v8 w' => v7 = .int .i64 0 ∧ v8 = .int .i64 20 ∧ w' = w)
 case atStart => exact ⟨rfl, rfl, rfl⟩
 case round =>
  obtain ⟨rfl, rfl, rfl⟩ := hrel
  go_wp2_with ((with_reducible refine gate_callee (f := 59) rfl ?_); refine goesL_ (some 27) rfl rfl Try.func59 (by kernel_rfl) rfl #[v, .int .i64 0, .int .i64 n, f] rfl (by (try simp only [List.map_toArray, List.map_cons, List.map_nil]); first | done | rfl) ?_; (with_reducible refine (ins_one.calls v f n _ HN.out).mono ?_); rintro e w1 ⟨rfl, rfl⟩; refine ⟨_, rfl, ?_⟩)
  simp only [Act.put, List.setIfInBounds_toArray, List.set_cons_zero, List.set_cons_succ]
  go_loopg [6, 7, 8] 0 (fun kq v6 v7 v8 w' => v6 = .int .i64 20 ∧ w' = w1)
  case atStart => exact ⟨rfl, rfl⟩
  case round =>
   obtain ⟨rfl, rfl⟩ := hrel
   go_wp2
   go_end0
   exact ⟨rfl, rfl⟩
theorem sort_one.calls (A : Option Addr) (n c : Nat) (f : Value) (w : World) (hn : n ≤ 1) :
 Calls Try.prog 55 #[.slice A n c, f] w fun e w' => e = .returned (.tuple #[]) ∧ w' = w := by
 have HN := Aside0.mk (show (n : Int) ≤ 1 by omega)
 clear hn
 go_enter Try.func55, Try.ntmps55
 go_wp2_with ((with_reducible refine gate_callee (f := 58) rfl ?_); refine goesL_ (some 8) rfl rfl Try.func58 (by kernel_rfl) rfl #[.slice A n c, .int .i64 (n : Int), f] rfl (by (try simp only [List.map_toArray, List.map_cons, List.map_nil]); first | done | rfl) ?_; (with_reducible refine (stable_one.calls (.slice A n c) f (n : Int) _ HN.out).mono ?_); rintro e w1 ⟨rfl, rfl⟩; refine ⟨_, rfl, ?_⟩)
 go_end0
 exact ⟨rfl, rfl⟩
mutual
def quality_rules_judge.l0 : Nat → List Int → List Int → List (S34) → Int → Int → Int → Int → Int → Int → Int → List (S34) → List Int → List Int → Option (List Int × List Int)
 | 0, _, _, _, _, _, _, _, _, _, _, _, _, _ => none
 | k + 1, x4, x5, x9, x10, x11, x158000, x158001, x158002, x158003, x159000, x159001, x159002, x159003 => if x11 < x10 then (if 0 ≤ x11 then (if x11 < (x9.length : Int) then (if x11 < (x159002.length : Int) then (if (rd x159002 x11) = 0 then (quality_rules_judge.j1 k x4 x5 x11 x9 x10 x11 (decide (((rd_T34 x9 x11).f0) < x158000)) x158000 x158001 x158002 x158003 x159000 x159001 x159002 x159003 ((rd_T34 x9 x11).f0) ((rd_T34 x9 x11).f1)) else (quality_rules_judge.j1 k x4 x5 x11 x9 x10 x11 true x158000 x158001 x158002 x158003 x159000 x159001 x159002 x159003 ((rd_T34 x9 x11).f0) ((rd_T34 x9 x11).f1))) else (none)) else (none)) else (none)) else (if (x4.length : Int) ≤ 1 then (some (x4, x5)) else (none))
def quality_rules_judge.j1 : Nat → List Int → List Int → Int → List (S34) → Int → Int → Bool → Int → Int → Int → Int → Int → List (S34) → List Int → List Int → Int → Int → Option (List Int × List Int)
 | 0, _, _, _, _, _, _, _, _, _, _, _, _, _, _, _, _, _ => none
 | k + 1, x4, x5, x6, x9, x10, x11, x16, x158000, x158001, x158002, x158003, x159000, x159001, x159002, x159003, x161000, x161001 => if x16 = true then (quality_rules_judge.l0 k x4 x5 x9 x10 (wrap64 (x11 + 1)) x158000 x158001 x158002 x158003 x159000 x159001 x159002 x159003) else ((quality_rate.f x161000 x161001).bind fun t162 => (if t162 < x158001 then (if x4.length < 17592186044416 then (quality_rules_judge.l0 k (x4 ++ [x6]) x5 x9 x10 (wrap64 (x11 + 1)) x158000 x158001 x158002 x158003 x159000 x159001 x159002 x159003) else (none)) else ((quality_rate.f x161000 x161001).bind fun t166 => (if t166 ≥ x158002 then (if x5.length < 17592186044416 then (quality_rules_judge.l0 k x4 (x5 ++ [x6]) x9 x10 (wrap64 (x11 + 1)) x158000 x158001 x158002 x158003 x159000 x159001 x159002 x159003) else (none)) else (quality_rules_judge.l0 k x4 x5 x9 x10 (wrap64 (x11 + 1)) x158000 x158001 x158002 x158003 x159000 x159001 x159002 x159003)))))
end
def quality_rules_judge.f (k : Nat) (a0_0 : Int) (a0_1 : Int) (a0_2 : Int) (a0_3 : Int) (a1_0 : Int) (l1_1 : List (S34)) (l1_2 : List Int) (l1_3 : List Int) : Option (List Int × List Int) := quality_rules_judge.l0 k ([] : List Int) ([] : List Int) l1_1 (l1_1.length : Int) 0 a0_0 a0_1 a0_2 a0_3 a1_0 l1_1 l1_2 l1_3
theorem quality_rules_judge.mono_l : ∀ k, (∀ y0 y1 y2 y3 y4 y5 y6 y7 y8 y9 y10 y11 y12, LeO (quality_rules_judge.l0 k y0 y1 y2 y3 y4 y5 y6 y7 y8 y9 y10 y11 y12) (quality_rules_judge.l0 (k + 1) y0 y1 y2 y3 y4 y5 y6 y7 y8 y9 y10 y11 y12)) ∧ (∀ y0 y1 y2 y3 y4 y5 y6 y7 y8 y9 y10 y11 y12 y13 y14 y15 y16, LeO (quality_rules_judge.j1 k y0 y1 y2 y3 y4 y5 y6 y7 y8 y9 y10 y11 y12 y13 y14 y15 y16) (quality_rules_judge.j1 (k + 1) y0 y1 y2 y3 y4 y5 y6 y7 y8 y9 y10 y11 y12 y13 y14 y15 y16))
 | 0 => ⟨fun _ _ _ _ _ _ _ _ _ _ _ _ _ r h => by simp [quality_rules_judge.l0] at h, fun _ _ _ _ _ _ _ _ _ _ _ _ _ _ _ _ _ r h => by simp [quality_rules_judge.j1] at h⟩
 | k + 1 => by
  obtain ⟨ih0, ih1⟩ := quality_rules_judge.mono_l k
  refine ⟨?_, ?_⟩
  ·intro y0 y1 y2 y3 y4 y5 y6 y7 y8 y9 y10 y11 y12
   unfold quality_rules_judge.l0
   repeat' first
   | (with_reducible exact ih0 _ _ _ _ _ _ _ _ _ _ _ _ _)
   | (with_reducible exact ih1 _ _ _ _ _ _ _ _ _ _ _ _ _ _ _ _ _)
   | (with_reducible exact LeO.refl _)
   | (with_reducible exact LeO.none _)
   | (with_reducible refine LeO.ite ?_ ?_)
   | (with_reducible refine LeO.bind ?_ (fun _ => ?_))
   | exact ih0 _ _ _ _ _ _ _ _ _ _ _ _ _
   | exact ih1 _ _ _ _ _ _ _ _ _ _ _ _ _ _ _ _ _
   | exact LeO.none _
   | refine LeO.ite ?_ ?_
   | refine LeO.bind ?_ (fun _ => ?_)
  ·intro y0 y1 y2 y3 y4 y5 y6 y7 y8 y9 y10 y11 y12 y13 y14 y15 y16
   unfold quality_rules_judge.j1
   repeat' first
   | (with_reducible exact ih0 _ _ _ _ _ _ _ _ _ _ _ _ _)
   | (with_reducible exact ih1 _ _ _ _ _ _ _ _ _ _ _ _ _ _ _ _ _)
   | (with_reducible exact LeO.refl _)
   | (with_reducible exact LeO.none _)
   | (with_reducible refine LeO.ite ?_ ?_)
   | (with_reducible refine LeO.bind ?_ (fun _ => ?_))
   | exact ih0 _ _ _ _ _ _ _ _ _ _ _ _ _
   | exact ih1 _ _ _ _ _ _ _ _ _ _ _ _ _ _ _ _ _
   | exact LeO.none _
   | refine LeO.ite ?_ ?_
   | refine LeO.bind ?_ (fun _ => ?_)
theorem quality_rules_judge.mono : ∀ a0 a1 a2 a3 a4 a5 a6 a7 k, LeO (quality_rules_judge.f k a0 a1 a2 a3 a4 a5 a6 a7) (quality_rules_judge.f (k + 1) a0 a1 a2 a3 a4 a5 a6 a7) := by
 intro a0 a1 a2 a3 a4 a5 a6 a7 k
 obtain ⟨ih0, ih1⟩ := quality_rules_judge.mono_l k
 unfold quality_rules_judge.f
 repeat' first
  | (with_reducible exact ih0 _ _ _ _ _ _ _ _ _ _ _ _ _)
  | (with_reducible exact ih1 _ _ _ _ _ _ _ _ _ _ _ _ _ _ _ _ _)
  | (with_reducible exact LeO.refl _)
  | (with_reducible exact LeO.none _)
  | (with_reducible refine LeO.ite ?_ ?_)
  | (with_reducible refine LeO.bind ?_ (fun _ => ?_))
  | exact ih0 _ _ _ _ _ _ _ _ _ _ _ _ _
  | exact ih1 _ _ _ _ _ _ _ _ _ _ _ _ _ _ _ _ _
  | exact LeO.none _
  | refine LeO.ite ?_ ?_
  | refine LeO.bind ?_ (fun _ => ?_)
set_option maxHeartbeats 8000000 in
set_option maxRecDepth 100000 in
theorem quality_rules_judge.calls (k : Nat) (a0_0 : Int) (a0_1 : Int) (a0_2 : Int) (a0_3 : Int) (a1_0 : Int) (A1_1 : Option Addr) (c1_1 : Nat) (l1_1 : List (S34)) (A1_2 : Option Addr) (c1_2 : Nat) (l1_2 : List Int) (A1_3 : Option Addr) (c1_3 : Nat) (l1_3 : List Int) (r1 : List Int) (r2 : List Int) (w : World) (hr1_1 : Kd.C k34 w A1_1 l1_1.length l1_1) (hc1_1 : l1_1.length ≤ c1_1) (hr1_2 : Kd.C (Kd.int .i64) w A1_2 l1_2.length l1_2) (hc1_2 : l1_2.length ≤ c1_2) (hr1_3 : Kd.C (Kd.int .i64) w A1_3 l1_3.length l1_3) (hc1_3 : l1_3.length ≤ c1_3) (h : quality_rules_judge.f k a0_0 a0_1 a0_2 a0_3 a1_0 l1_1 l1_2 l1_3 = some (r1, r2)) :
 Calls Try.prog 53 #[.agg #[.int .i64 a0_0, .int .i64 a0_1, .int .i64 a0_2, .int .i64 a0_3], .agg #[.int .i64 a1_0, .slice A1_1 l1_1.length c1_1, .slice A1_2 l1_2.length c1_2, .slice A1_3 l1_3.length c1_3]] w fun e w' => ∃ v0_ v1_ : Value, e = .returned (.tuple #[v0_, v1_]) ∧ Kd.R (Kd.int .i64) 3 w' w.heap.size (fun k_ => some k_ ≠ (v1_ : Value).ownBlock) v0_ r1 ∧ Kd.R (Kd.int .i64) 3 w' w.heap.size (fun k_ => some k_ ≠ (v0_ : Value).ownBlock) v1_ r2 ∧ Below w.heap.size w w' := by
 have hu69 := Try.underlying69
 have hu25 := Try.underlying25
 have hu34 := Try.underlying34
 have HR1_1 := Aside0.mk hr1_1
 have HC1_1 := Aside0.mk hc1_1
 clear hr1_1 hc1_1
 have HR1_2 := Aside0.mk hr1_2
 have HC1_2 := Aside0.mk hc1_2
 clear hr1_2 hc1_2
 have HR1_3 := Aside0.mk hr1_3
 have HC1_3 := Aside0.mk hc1_3
 clear hr1_3 hc1_3
 have HB := Aside0.mk (Below.refl w.heap.size w)
 have H : (quality_rules_judge.l0 k ([] : List Int) ([] : List Int) l1_1 (l1_1.length : Int) 0 a0_0 a0_1 a0_2 a0_3 a1_0 l1_1 l1_2 l1_3) = some (r1, r2) := h
 clear h
 have H' := Aside0.mk H
 clear H
 go_enter Try.func53, Try.ntmps53
 go_wp2_with (first | ((with_reducible refine gate_dst (N := 2) rfl ?_); refine box_event ?hg (N := 2) ?hd (cs := #[.int .i64 a0_0, .int .i64 a0_1, .int .i64 a0_2, .int .i64 a0_3]) (t := 69) ?hr ?_; (case hd => rfl); (case hg => rfl); (case hr => first | (go_simp; done) | (go_simp; rfl)); intro gb157 hg w3 hbox hb; have n0_ := Aside0.mk (below_step (by repeat (first | (with_reducible first | exact HB.out | apply below_alloc | apply pw_below_drewN | apply below_drew1) | exact HB.out)) hb); have n1_ := Aside0.mk (hbox); have n2_ := Aside0.mk ((by rw [hg]; exact (below_size (by repeat (first | (with_reducible first | exact HB.out | apply below_alloc | apply pw_below_drewN | apply below_drew1) | exact HB.out))) : w.heap.size ≤ gb157)); have n3_ := Aside0.mk ((by rw [hg]; exact (below_size (by repeat (first | (with_reducible first | exact HB.out | apply below_alloc | apply pw_below_drewN | apply below_drew1) | exact HB.out))) : w.heap.size ≤ gb157)); clear HB; have HB := n0_; have BK157 := n1_; have GW157 := n2_; have GE157 := n3_; clear n0_ n1_ n2_ n3_; clear hb hbox hg) | ((with_reducible refine gate_dst (N := 3) rfl ?_); refine box_event ?hg (N := 3) ?hd (cs := #[.int .i64 a1_0, .slice A1_1 l1_1.length c1_1, .slice A1_2 l1_2.length c1_2, .slice A1_3 l1_3.length c1_3]) (t := 25) ?hr ?_; (case hd => rfl); (case hg => rfl); (case hr => first | (go_simp; done) | (go_simp; rfl)); intro gb158 hg w4 hbox hb; have n0_ := Aside0.mk (blk_below (g := gb157) (o := .cells #[.int .i64 a0_0, .int .i64 a0_1, .int .i64 a0_2, .int .i64 a0_3] 69 (0, 0)) (by (with_reducible repeat (first | refine blk_drewN ?_ _ | refine blk_drew ?_ | refine blk_alloc ?_ _)); exact BK157.out) hb); have n1_ := Aside0.mk (below_step (by repeat (first | (with_reducible first | exact HB.out | apply below_alloc | apply pw_below_drewN | apply below_drew1 | refine below_set ?_ GE157.out) | exact HB.out)) hb); have n2_ := Aside0.mk (hbox); have n3_ := Aside0.mk ((by rw [hg]; exact (below_size (by repeat (first | (with_reducible first | exact HB.out | apply below_alloc | apply pw_below_drewN | apply below_drew1 | refine below_set ?_ GE157.out) | exact HB.out))) : w.heap.size ≤ gb158)); have n4_ := Aside0.mk ((by rw [hg]; exact (below_size (by repeat (first | (with_reducible first | exact HB.out | apply below_alloc | apply pw_below_drewN | apply below_drew1 | refine below_set ?_ GE157.out) | exact HB.out))) : w.heap.size ≤ gb158)); have n5_ := Aside0.mk ((by rw [hg]; exact Nat.ne_of_lt (blk_lt (g := gb157) (o := .cells #[.int .i64 a0_0, .int .i64 a0_1, .int .i64 a0_2, .int .i64 a0_3] 69 (0, 0)) (by (with_reducible repeat (first | refine blk_drewN ?_ _ | refine blk_drew ?_ | refine blk_alloc ?_ _)); exact BK157.out)) : gb157 ≠ gb158)); have n6_ := Aside0.mk ((by rw [hg]; exact Nat.ne_of_gt (blk_lt (g := gb157) (o := .cells #[.int .i64 a0_0, .int .i64 a0_1, .int .i64 a0_2, .int .i64 a0_3] 69 (0, 0)) (by (with_reducible repeat (first | refine blk_drewN ?_ _ | refine blk_drew ?_ | refine blk_alloc ?_ _)); exact BK157.out)) : gb158 ≠ gb157)); clear BK157; clear HB; have BK157 := n0_; have HB := n1_; have BK158 := n2_; have GW158 := n3_; have GE158 := n4_; have NB157_158 := n5_; have NB158_157 := n6_; clear n0_ n1_ n2_ n3_ n4_ n5_ n6_; clear hb hbox hg; have hnb5 := NB158_157.out; have hnc5 := NB157_158.out; have hcz6_0 : w4.cell? ⟨gb158, 0, none⟩ = some (.int .i64 a1_0) := (blk_cell BK158.out 0).trans rfl; have hcz6_1 : w4.cell? ⟨gb158, 1, none⟩ = some (.slice A1_1 l1_1.length c1_1) := (blk_cell BK158.out 1).trans rfl; have hcz6_2 : w4.cell? ⟨gb158, 2, none⟩ = some (.slice A1_2 l1_2.length c1_2) := (blk_cell BK158.out 2).trans rfl; have hcz6_3 : w4.cell? ⟨gb158, 3, none⟩ = some (.slice A1_3 l1_3.length c1_3) := (blk_cell BK158.out 3).trans rfl; have hfz6_0 := blk_frozen BK158.out 0; have hfz6_1 := blk_frozen BK158.out 1; have hfz6_2 := blk_frozen BK158.out 2; have hfz6_3 := blk_frozen BK158.out 3))
 go_loopg [4, 5, 11] k (fun kq v4 v5 v11 w' => ∃ (x4_1 : List Int) (x5_1 : List Int) (x11_1 : Int), v11 = .int .i64 x11_1 ∧ Aside0 (quality_rules_judge.l0 kq x4_1 x5_1 l1_1 (l1_1.length : Int) x11_1 a0_0 a0_1 a0_2 a0_3 a1_0 l1_1 l1_2 l1_3 = some (r1, r2)) ∧ Aside0 (kq ≤ k) ∧ Aside0 (Kd.R (Kd.int .i64) 3 w' w.heap.size (fun k_ => some k_ ≠ (v5 : Value).ownBlock) v4 x4_1) ∧ Aside0 (Kd.R (Kd.int .i64) 3 w' w.heap.size (fun k_ => some k_ ≠ (v4 : Value).ownBlock) v5 x5_1) ∧ Aside0 (w'.heap[gb157]? = some (.cells #[.int .i64 a0_0, .int .i64 a0_1, .int .i64 a0_2, .int .i64 a0_3] 69 (0, 0))) ∧ Aside0 (w'.heap[gb158]? = some (.cells #[.int .i64 a1_0, (.slice A1_1 l1_1.length c1_1), (.slice A1_2 l1_2.length c1_2), (.slice A1_3 l1_3.length c1_3)] 25 (0, 0))) ∧ Aside0 (Below w.heap.size w w'))
 case atStart => exact ⟨(([] : List Int)), (([] : List Int)), (0), (by first | rfl | (simp; done) | (simp [*]; done)), H', ⟨Nat.le_refl _⟩, ⟨by first | exact Kd.R_nil _ _ _ _ _ | exact Kd.N_nil _ _ _ _ _ | exact Kd.V_nil _ _ _ _ _ | exact Kd.Q_nil _ _ _ _ _ | exact Kd.S_nil _ _ _ _ _⟩, ⟨by first | exact Kd.R_nil _ _ _ _ _ | exact Kd.N_nil _ _ _ _ _ | exact Kd.V_nil _ _ _ _ _ | exact Kd.Q_nil _ _ _ _ _ | exact Kd.S_nil _ _ _ _ _⟩, ⟨by (with_reducible repeat (first | refine blk_drewN ?_ _ | refine blk_drew ?_ | refine blk_alloc ?_ _)); exact BK157.out⟩, ⟨by (with_reducible repeat (first | refine blk_drewN ?_ _ | refine blk_drew ?_ | refine blk_alloc ?_ _)); exact BK158.out⟩, ⟨by repeat (first | (with_reducible first | exact HB.out | apply below_alloc | apply pw_below_drewN | apply below_drew1 | refine below_set ?_ GE157.out | refine below_set ?_ GE158.out) | exact HB.out)⟩⟩
 case round =>
  clear H'
  try clear hcz6_0
  try clear hcz6_1
  try clear hcz6_2
  try clear hcz6_3
  try clear hfz6_0
  try clear hfz6_1
  try clear hfz6_2
  try clear hfz6_3
  obtain ⟨x4_1, x5_1, x11_1, rfl, HA, HK1, HO_4, HO_5, BK157, BK158, HB⟩ := hrel
  cases gk with
  | zero => exact absurd HA.out (by simp [quality_rules_judge.l0])
  | succ k1 =>
   have H := HA.out
   clear HA
   simp only [quality_rules_judge.l0] at H
   by_cases c7 : x11_1 < (l1_1.length : Int)
   ·rw [if_pos c7] at H
    have c7b0 : decide (x11_1 < (l1_1.length : Int)) = true := decide_eq_true c7
    clear c7
    by_cases c8 : 0 ≤ x11_1
    ·rw [if_pos c8] at H
     have c8b0 : decide (0 ≤ x11_1) = true := decide_eq_true c8
     clear c8
     by_cases c9 : x11_1 < (l1_1.length : Int)
     ·rw [if_pos c9] at H
      have c9b0 : decide (x11_1 < (l1_1.length : Int)) = true := decide_eq_true c9
      clear c9
      have HC10 := Aside0.mk H
      clear H
      have p159 : 0 ≤ (x11_1 : Int) := of_decide_eq_true (by first | (with_reducible assumption) | assumption)
      have q159 : x11_1 < (l1_1.length : Int) := of_decide_eq_true (by first | (with_reducible assumption) | assumption)
      obtain ⟨ad159, e159, hx159_0, hx159_1⟩ := at_T34 HR1_1.out x11_1 p159 q159
      cases e159
      replace hx159_0 := (HB.out.cell (World.block_lt_of_cell? w _ hx159_0)).trans hx159_0
      replace hx159_1 := (HB.out.cell (World.block_lt_of_cell? w _ hx159_1)).trans hx159_1
      replace p159 := eq_true p159
      replace q159 := eq_true q159
      go_upto_region 4 with (first | ((with_reducible refine gate_dst (N := 7) rfl ?_); refine box_event ?hg (N := 7) ?hd (cs := #[.int .i64 0, .int .i64 0]) (t := 34) ?hr ?_; (case hd => rfl); (case hg => rfl); (case hr => first | (go_simp; done) | (go_simp; rfl)); intro gb160 hg w11 hbox hb; have n0_ := Aside0.mk (Kd.R_below (by (with_reducible repeat (first | apply Kd.R_alloc | apply Kd.R_drewN | apply Kd.R_drew)); exact HO_4.out) hb); have n1_ := Aside0.mk (Kd.R_below (by (with_reducible repeat (first | apply Kd.R_alloc | apply Kd.R_drewN | apply Kd.R_drew)); exact HO_5.out) hb); have n2_ := Aside0.mk (blk_below (g := gb157) (o := .cells #[.int .i64 a0_0, .int .i64 a0_1, .int .i64 a0_2, .int .i64 a0_3] 69 (0, 0)) (by (with_reducible repeat (first | refine blk_drewN ?_ _ | refine blk_drew ?_ | refine blk_alloc ?_ _)); exact BK157.out) hb); have n3_ := Aside0.mk (blk_below (g := gb158) (o := .cells #[.int .i64 a1_0, .slice (some ad159) l1_1.length c1_1, .slice A1_2 l1_2.length c1_2, .slice A1_3 l1_3.length c1_3] 25 (0, 0)) (by (with_reducible repeat (first | refine blk_drewN ?_ _ | refine blk_drew ?_ | refine blk_alloc ?_ _)); exact BK158.out) hb); have n4_ := Aside0.mk (below_step (by repeat (first | (with_reducible first | exact HB.out | apply below_alloc | apply pw_below_drewN | apply below_drew1 | refine below_set ?_ GE157.out | refine below_set ?_ GE158.out) | exact HB.out)) hb); have n5_ := Aside0.mk (hbox); have n6_ := Aside0.mk ((by rw [hg]; exact (below_size (by repeat (first | (with_reducible first | exact HB.out | apply below_alloc | apply pw_below_drewN | apply below_drew1 | refine below_set ?_ GE157.out | refine below_set ?_ GE158.out) | exact HB.out))) : w.heap.size ≤ gb160)); have n7_ := Aside0.mk ((by rw [hg]; exact (below_size (by repeat (first | (with_reducible first | exact HB.out | apply below_alloc | apply pw_below_drewN | apply below_drew1 | refine below_set ?_ GE157.out | refine below_set ?_ GE158.out) | exact HB.out))) : w.heap.size ≤ gb160)); have n8_ := Aside0.mk ((by rw [hg]; exact Nat.ne_of_lt (blk_lt (g := gb157) (o := .cells #[.int .i64 a0_0, .int .i64 a0_1, .int .i64 a0_2, .int .i64 a0_3] 69 (0, 0)) (by (with_reducible repeat (first | refine blk_drewN ?_ _ | refine blk_drew ?_ | refine blk_alloc ?_ _)); exact BK157.out)) : gb157 ≠ gb160)); have n9_ := Aside0.mk ((by rw [hg]; exact Nat.ne_of_gt (blk_lt (g := gb157) (o := .cells #[.int .i64 a0_0, .int .i64 a0_1, .int .i64 a0_2, .int .i64 a0_3] 69 (0, 0)) (by (with_reducible repeat (first | refine blk_drewN ?_ _ | refine blk_drew ?_ | refine blk_alloc ?_ _)); exact BK157.out)) : gb160 ≠ gb157)); have n10_ := Aside0.mk ((by rw [hg]; exact Nat.ne_of_lt (blk_lt (g := gb158) (o := .cells #[.int .i64 a1_0, .slice (some ad159) l1_1.length c1_1, .slice A1_2 l1_2.length c1_2, .slice A1_3 l1_3.length c1_3] 25 (0, 0)) (by (with_reducible repeat (first | refine blk_drewN ?_ _ | refine blk_drew ?_ | refine blk_alloc ?_ _)); exact BK158.out)) : gb158 ≠ gb160)); have n11_ := Aside0.mk ((by rw [hg]; exact Nat.ne_of_gt (blk_lt (g := gb158) (o := .cells #[.int .i64 a1_0, .slice (some ad159) l1_1.length c1_1, .slice A1_2 l1_2.length c1_2, .slice A1_3 l1_3.length c1_3] 25 (0, 0)) (by (with_reducible repeat (first | refine blk_drewN ?_ _ | refine blk_drew ?_ | refine blk_alloc ?_ _)); exact BK158.out)) : gb160 ≠ gb158)); clear HO_4; clear HO_5; clear BK157; clear BK158; clear HB; have HO_4 := n0_; have HO_5 := n1_; have BK157 := n2_; have BK158 := n3_; have HB := n4_; have BK160 := n5_; have GW160 := n6_; have GE160 := n7_; have NB157_160 := n8_; have NB160_157 := n9_; have NB158_160 := n10_; have NB160_158 := n11_; clear n0_ n1_ n2_ n3_ n4_ n5_ n6_ n7_ n8_ n9_ n10_ n11_; clear hb hbox hg; have hnb12 := NB160_157.out; have hnc12 := NB157_160.out; have hnb13 := NB160_158.out; have hnc13 := NB158_160.out; have hcz14_0 : w11.cell? ⟨gb160, 0, none⟩ = some (.int .i64 0) := (blk_cell BK160.out 0).trans rfl; have hcz14_1 : w11.cell? ⟨gb160, 1, none⟩ = some (.int .i64 0) := (blk_cell BK160.out 1).trans rfl; have hfz14_0 := blk_frozen BK160.out 0; have hfz14_1 := blk_frozen BK160.out 1))
      (try simp only [Act.put, List.setIfInBounds_toArray, List.set_cons_zero, List.set_cons_succ])
      go_cut [16] (fun v16 wc => ∃ (kq : Nat) (x16_9 : Bool), v16 = .bool x16_9 ∧ Aside0 (quality_rules_judge.j1 kq x4_1 x5_1 x11_1 l1_1 (l1_1.length : Int) x11_1 x16_9 a0_0 a0_1 a0_2 a0_3 a1_0 l1_1 l1_2 l1_3 ((rd_T34 l1_1 x11_1).f0) ((rd_T34 l1_1 x11_1).f1) = some (r1, r2)) ∧ Aside0 (kq ≤ k1) ∧ Aside0 (Kd.R (Kd.int .i64) 3 wc w.heap.size (fun k_ => some k_ ≠ (u5 : Value).ownBlock) u4 x4_1) ∧ Aside0 (Kd.R (Kd.int .i64) 3 wc w.heap.size (fun k_ => some k_ ≠ (u4 : Value).ownBlock) u5 x5_1) ∧ Aside0 (wc.heap[gb157]? = some (.cells #[.int .i64 a0_0, .int .i64 a0_1, .int .i64 a0_2, .int .i64 a0_3] 69 (0, 0))) ∧ Aside0 (wc.heap[gb158]? = some (.cells #[.int .i64 a1_0, (.slice (some ad159) l1_1.length c1_1), (.slice A1_2 l1_2.length c1_2), (.slice A1_3 l1_3.length c1_3)] 25 (0, 0))) ∧ Aside0 (wc.heap[gb160]? = some (.cells #[.int .i64 ((rd_T34 l1_1 x11_1).f0), .int .i64 ((rd_T34 l1_1 x11_1).f1)] 34 (0, 0))) ∧ Aside0 (Below w.heap.size w wc))
      case first =>
       have H := HC10.out
       clear HC10
       by_cases c15 : x11_1 < (l1_2.length : Int)
       ·rw [if_pos c15] at H
        have c15b0 : decide (x11_1 < (l1_2.length : Int)) = true := decide_eq_true c15
        clear c15
        (first | rw [c15b0] | (simp only [i64_w, i32_w]; rw [c15b0]) | skip)
        by_cases c16 : (rd l1_2 x11_1) = 0
        ·rw [if_pos c16] at H
         have c16b0 : ((rd l1_2 x11_1) == 0) = true := beq_iff_eq.mpr c16
         have c16b1 : ((rd l1_2 x11_1) != 0) = false := bne_eq_false_iff_eq.mpr c16
         clear c16
         have H' := Aside0.mk H
         clear H
         have hnb17 := NB158_157.out
         have hnc17 := NB157_158.out
         have hnb18 := NB158_160.out
         have hnc18 := NB160_158.out
         have hcz19_0 : w11.cell? ⟨gb158, 0, none⟩ = some (.int .i64 a1_0) := (blk_cell BK158.out 0).trans rfl
         have hcz19_1 : w11.cell? ⟨gb158, 1, none⟩ = some (.slice (some ad159) l1_1.length c1_1) := (blk_cell BK158.out 1).trans rfl
         have hcz19_2 : w11.cell? ⟨gb158, 2, none⟩ = some (.slice A1_2 l1_2.length c1_2) := (blk_cell BK158.out 2).trans rfl
         have hcz19_3 : w11.cell? ⟨gb158, 3, none⟩ = some (.slice A1_3 l1_3.length c1_3) := (blk_cell BK158.out 3).trans rfl
         have hfz19_0 := blk_frozen BK158.out 0
         have hfz19_1 := blk_frozen BK158.out 1
         have hfz19_2 := blk_frozen BK158.out 2
         have hfz19_3 := blk_frozen BK158.out 3
         have p161 : 0 ≤ (x11_1 : Int) := of_decide_eq_true (by first | (with_reducible assumption) | assumption)
         have q161 : x11_1 < (l1_2.length : Int) := of_decide_eq_true (by first | (with_reducible assumption) | assumption)
         obtain ⟨ad161, e161, hx161_0⟩ := Kd.at_int HR1_2.out x11_1 p161 q161
         cases e161
         have hn161_0 : ad161.block ≠ gb160 := Nat.ne_of_lt (Nat.lt_of_lt_of_le (by have := World.block_lt_of_cell? _ _ hx161_0; first | rwa [add_block] at this | exact this) GW160.out)
         have hn161_1 : ad161.block ≠ gb160 := Nat.ne_of_lt (Nat.lt_of_lt_of_le (by have := World.block_lt_of_cell? _ _ hx161_0; first | rwa [add_block] at this | exact this) GW160.out)
         replace hx161_0 := (HB.out.cell (World.block_lt_of_cell? w _ hx161_0)).trans hx161_0
         replace hx161_0 := (cell_far (p := ⟨gb160, 0, none⟩) (by first | (rw [add_block]; exact hn161_0) | (show (Addr.add _ _).block ≠ _; rw [add_block]; exact hn161_0) | exact hn161_0) (.int .i64 ((rd_T34 l1_1 x11_1).f0))).trans hx161_0
         replace hx161_0 := (cell_far (p := ⟨gb160, 1, none⟩) (by first | (rw [add_block]; exact hn161_1) | (show (Addr.add _ _).block ≠ _; rw [add_block]; exact hn161_1) | exact hn161_1) (.int .i64 ((rd_T34 l1_1 x11_1).f1))).trans hx161_0
         clear hn161_0
         clear hn161_1
         replace p161 := eq_true p161
         replace q161 := eq_true q161
         have hnb20 := NB160_157.out
         have hnc20 := NB157_160.out
         have hcz21_0 : w11.cell? ⟨gb160, 0, none⟩ = some (.int .i64 0) := (blk_cell BK160.out 0).trans rfl
         have hcz21_1 : w11.cell? ⟨gb160, 1, none⟩ = some (.int .i64 0) := (blk_cell BK160.out 1).trans rfl
         have hfz21_0 := blk_frozen BK160.out 0
         have hfz21_1 := blk_frozen BK160.out 1
         have hcz22_0 : w11.cell? ⟨gb157, 0, none⟩ = some (.int .i64 a0_0) := (blk_cell BK157.out 0).trans rfl
         have hcz22_1 : w11.cell? ⟨gb157, 1, none⟩ = some (.int .i64 a0_1) := (blk_cell BK157.out 1).trans rfl
         have hcz22_2 : w11.cell? ⟨gb157, 2, none⟩ = some (.int .i64 a0_2) := (blk_cell BK157.out 2).trans rfl
         have hcz22_3 : w11.cell? ⟨gb157, 3, none⟩ = some (.int .i64 a0_3) := (blk_cell BK157.out 3).trans rfl
         have hfz22_0 := blk_frozen BK157.out 0
         have hfz22_1 := blk_frozen BK157.out 1
         have hfz22_2 := blk_frozen BK157.out 2
         have hfz22_3 := blk_frozen BK157.out 3
         go_wp2
         go_meet
         case rel => exact ⟨_, (decide (((rd_T34 l1_1 x11_1).f0) < a0_0)), (by first | rfl | (simp; done) | (simp [*]; done)), H', ⟨by have := HK1.out; first | omega | exact Nat.le_refl _⟩, ⟨by (with_reducible repeat (first | apply Kd.R_alloc | apply Kd.R_drewN | apply Kd.R_drew)); exact Kd.R_mono (Kd.R_far (p := ⟨gb160, 1, none⟩) (Kd.R_far (p := ⟨gb160, 0, none⟩) (Kd.R_types HO_4.out BK160.out (by decide)) (fun _ hk => hk.2) (.int .i64 ((rd_T34 l1_1 x11_1).f0))) (fun _ hk => hk.2) (.int .i64 ((rd_T34 l1_1 x11_1).f1))) (fun _ hk => hk.1)⟩, ⟨by (with_reducible repeat (first | apply Kd.R_alloc | apply Kd.R_drewN | apply Kd.R_drew)); exact Kd.R_mono (Kd.R_far (p := ⟨gb160, 1, none⟩) (Kd.R_far (p := ⟨gb160, 0, none⟩) (Kd.R_types HO_5.out BK160.out (by decide)) (fun _ hk => hk.2) (.int .i64 ((rd_T34 l1_1 x11_1).f0))) (fun _ hk => hk.2) (.int .i64 ((rd_T34 l1_1 x11_1).f1))) (fun _ hk => hk.1)⟩, ⟨by (with_reducible repeat (first | refine blk_drewN ?_ _ | refine blk_drew ?_ | refine blk_alloc ?_ _)); refine blk_far ?_ NB157_160.out _; (with_reducible repeat (first | refine blk_drewN ?_ _ | refine blk_drew ?_ | refine blk_alloc ?_ _)); refine blk_far ?_ NB157_160.out _; (with_reducible repeat (first | refine blk_drewN ?_ _ | refine blk_drew ?_ | refine blk_alloc ?_ _)); exact BK157.out⟩, ⟨by (with_reducible repeat (first | refine blk_drewN ?_ _ | refine blk_drew ?_ | refine blk_alloc ?_ _)); refine blk_far ?_ NB158_160.out _; (with_reducible repeat (first | refine blk_drewN ?_ _ | refine blk_drew ?_ | refine blk_alloc ?_ _)); refine blk_far ?_ NB158_160.out _; (with_reducible repeat (first | refine blk_drewN ?_ _ | refine blk_drew ?_ | refine blk_alloc ?_ _)); exact BK158.out⟩, ⟨by (with_reducible repeat (first | refine blk_drewN ?_ _ | refine blk_drew ?_ | refine blk_alloc ?_ _)); refine blk_put (cs := #[.int .i64 ((rd_T34 l1_1 x11_1).f0), .int .i64 0]) ?_ 1 _ rfl; (with_reducible repeat (first | refine blk_drewN ?_ _ | refine blk_drew ?_ | refine blk_alloc ?_ _)); refine blk_put (cs := #[.int .i64 0, .int .i64 0]) ?_ 0 _ rfl; (with_reducible repeat (first | refine blk_drewN ?_ _ | refine blk_drew ?_ | refine blk_alloc ?_ _)); exact BK160.out⟩, ⟨by repeat (first | (with_reducible first | exact HB.out | apply below_alloc | apply pw_below_drewN | apply below_drew1 | refine below_set ?_ GE157.out | refine below_set ?_ GE158.out | refine below_set ?_ GE160.out) | exact HB.out)⟩⟩
        ·rw [if_neg c16] at H
         have c16b0 : ((rd l1_2 x11_1) == 0) = false := beq_eq_false_iff_ne.mpr c16
         have c16b1 : ((rd l1_2 x11_1) != 0) = true := bne_iff_ne.mpr c16
         have H' := Aside0.mk H
         clear H
         have hnb23 := NB158_157.out
         have hnc23 := NB157_158.out
         have hnb24 := NB158_160.out
         have hnc24 := NB160_158.out
         have hcz25_0 : w11.cell? ⟨gb158, 0, none⟩ = some (.int .i64 a1_0) := (blk_cell BK158.out 0).trans rfl
         have hcz25_1 : w11.cell? ⟨gb158, 1, none⟩ = some (.slice (some ad159) l1_1.length c1_1) := (blk_cell BK158.out 1).trans rfl
         have hcz25_2 : w11.cell? ⟨gb158, 2, none⟩ = some (.slice A1_2 l1_2.length c1_2) := (blk_cell BK158.out 2).trans rfl
         have hcz25_3 : w11.cell? ⟨gb158, 3, none⟩ = some (.slice A1_3 l1_3.length c1_3) := (blk_cell BK158.out 3).trans rfl
         have hfz25_0 := blk_frozen BK158.out 0
         have hfz25_1 := blk_frozen BK158.out 1
         have hfz25_2 := blk_frozen BK158.out 2
         have hfz25_3 := blk_frozen BK158.out 3
         have p161 : 0 ≤ (x11_1 : Int) := of_decide_eq_true (by first | (with_reducible assumption) | assumption)
         have q161 : x11_1 < (l1_2.length : Int) := of_decide_eq_true (by first | (with_reducible assumption) | assumption)
         obtain ⟨ad161, e161, hx161_0⟩ := Kd.at_int HR1_2.out x11_1 p161 q161
         cases e161
         have hn161_0 : ad161.block ≠ gb160 := Nat.ne_of_lt (Nat.lt_of_lt_of_le (by have := World.block_lt_of_cell? _ _ hx161_0; first | rwa [add_block] at this | exact this) GW160.out)
         have hn161_1 : ad161.block ≠ gb160 := Nat.ne_of_lt (Nat.lt_of_lt_of_le (by have := World.block_lt_of_cell? _ _ hx161_0; first | rwa [add_block] at this | exact this) GW160.out)
         replace hx161_0 := (HB.out.cell (World.block_lt_of_cell? w _ hx161_0)).trans hx161_0
         replace hx161_0 := (cell_far (p := ⟨gb160, 0, none⟩) (by first | (rw [add_block]; exact hn161_0) | (show (Addr.add _ _).block ≠ _; rw [add_block]; exact hn161_0) | exact hn161_0) (.int .i64 ((rd_T34 l1_1 x11_1).f0))).trans hx161_0
         replace hx161_0 := (cell_far (p := ⟨gb160, 1, none⟩) (by first | (rw [add_block]; exact hn161_1) | (show (Addr.add _ _).block ≠ _; rw [add_block]; exact hn161_1) | exact hn161_1) (.int .i64 ((rd_T34 l1_1 x11_1).f1))).trans hx161_0
         clear hn161_0
         clear hn161_1
         replace p161 := eq_true p161
         replace q161 := eq_true q161
         go_wp2
         go_meet
         case rel => exact ⟨_, (true), (by first | rfl | (simp; done) | (simp [*]; done)), H', ⟨by have := HK1.out; first | omega | exact Nat.le_refl _⟩, ⟨by (with_reducible repeat (first | apply Kd.R_alloc | apply Kd.R_drewN | apply Kd.R_drew)); exact Kd.R_mono (Kd.R_far (p := ⟨gb160, 1, none⟩) (Kd.R_far (p := ⟨gb160, 0, none⟩) (Kd.R_types HO_4.out BK160.out (by decide)) (fun _ hk => hk.2) (.int .i64 ((rd_T34 l1_1 x11_1).f0))) (fun _ hk => hk.2) (.int .i64 ((rd_T34 l1_1 x11_1).f1))) (fun _ hk => hk.1)⟩, ⟨by (with_reducible repeat (first | apply Kd.R_alloc | apply Kd.R_drewN | apply Kd.R_drew)); exact Kd.R_mono (Kd.R_far (p := ⟨gb160, 1, none⟩) (Kd.R_far (p := ⟨gb160, 0, none⟩) (Kd.R_types HO_5.out BK160.out (by decide)) (fun _ hk => hk.2) (.int .i64 ((rd_T34 l1_1 x11_1).f0))) (fun _ hk => hk.2) (.int .i64 ((rd_T34 l1_1 x11_1).f1))) (fun _ hk => hk.1)⟩, ⟨by (with_reducible repeat (first | refine blk_drewN ?_ _ | refine blk_drew ?_ | refine blk_alloc ?_ _)); refine blk_far ?_ NB157_160.out _; (with_reducible repeat (first | refine blk_drewN ?_ _ | refine blk_drew ?_ | refine blk_alloc ?_ _)); refine blk_far ?_ NB157_160.out _; (with_reducible repeat (first | refine blk_drewN ?_ _ | refine blk_drew ?_ | refine blk_alloc ?_ _)); exact BK157.out⟩, ⟨by (with_reducible repeat (first | refine blk_drewN ?_ _ | refine blk_drew ?_ | refine blk_alloc ?_ _)); refine blk_far ?_ NB158_160.out _; (with_reducible repeat (first | refine blk_drewN ?_ _ | refine blk_drew ?_ | refine blk_alloc ?_ _)); refine blk_far ?_ NB158_160.out _; (with_reducible repeat (first | refine blk_drewN ?_ _ | refine blk_drew ?_ | refine blk_alloc ?_ _)); exact BK158.out⟩, ⟨by (with_reducible repeat (first | refine blk_drewN ?_ _ | refine blk_drew ?_ | refine blk_alloc ?_ _)); refine blk_put (cs := #[.int .i64 ((rd_T34 l1_1 x11_1).f0), .int .i64 0]) ?_ 1 _ rfl; (with_reducible repeat (first | refine blk_drewN ?_ _ | refine blk_drew ?_ | refine blk_alloc ?_ _)); refine blk_put (cs := #[.int .i64 0, .int .i64 0]) ?_ 0 _ rfl; (with_reducible repeat (first | refine blk_drewN ?_ _ | refine blk_drew ?_ | refine blk_alloc ?_ _)); exact BK160.out⟩, ⟨by repeat (first | (with_reducible first | exact HB.out | apply below_alloc | apply pw_below_drewN | apply below_drew1 | refine below_set ?_ GE157.out | refine below_set ?_ GE158.out | refine below_set ?_ GE160.out) | exact HB.out)⟩⟩
       ·rw [if_neg c15] at H
        exact absurd H (by simp)
      case rest =>
       clear HC10
       try clear c7
       try clear c7b0
       try clear c8
       try clear c8b0
       try clear c9
       try clear c9b0
       try clear hcz14_0
       try clear hcz14_1
       try clear hcz6_0
       try clear hcz6_1
       try clear hcz6_2
       try clear hcz6_3
       try clear hfz14_0
       try clear hfz14_1
       try clear hfz6_0
       try clear hfz6_1
       try clear hfz6_2
       try clear hfz6_3
       try clear hx159_0
       try clear hx159_1
       try clear p159
       try clear q159
       obtain ⟨kq, x16_9, rfl, HA, HJ9, HO_4, HO_5, BK157, BK158, BK160, HB⟩ := hcut
       cases kq with
       | zero => exact absurd HA.out (by simp [quality_rules_judge.j1])
       | succ kj9 =>
        have H := HA.out
        clear HA
        simp only [quality_rules_judge.j1] at H
        by_cases c26 : x16_9 = true
        ·subst c26
         have H1 : (quality_rules_judge.l0 kj9 x4_1 x5_1 l1_1 (l1_1.length : Int) (wrap64 (x11_1 + 1)) a0_0 a0_1 a0_2 a0_3 a1_0 l1_1 l1_2 l1_3) = some (r1, r2) := by rw [if_pos rfl] at H; exact H
         clear H
         have H := H1
         clear H1
         have H' := Aside0.mk H
         clear H
         go_wp2
         go_roundg kj9
         case measure => have := HK1.out; have := HJ9.out; omega
         case rel => exact ⟨(x4_1), (x5_1), (wrap64 (x11_1 + 1)), (by first | rfl | (simp; done) | (simp [*]; done)), H', ⟨by have := HK1.out; have := HJ9.out; omega⟩, ⟨by (with_reducible repeat (first | apply Kd.R_alloc | apply Kd.R_drewN | apply Kd.R_drew)); exact HO_4.out⟩, ⟨by (with_reducible repeat (first | apply Kd.R_alloc | apply Kd.R_drewN | apply Kd.R_drew)); exact HO_5.out⟩, ⟨by (with_reducible repeat (first | refine blk_drewN ?_ _ | refine blk_drew ?_ | refine blk_alloc ?_ _)); exact BK157.out⟩, ⟨by (with_reducible repeat (first | refine blk_drewN ?_ _ | refine blk_drew ?_ | refine blk_alloc ?_ _)); exact BK158.out⟩, ⟨by repeat (first | (with_reducible first | exact HB.out | apply below_alloc | apply pw_below_drewN | apply below_drew1 | refine below_set ?_ GE157.out | refine below_set ?_ GE158.out | refine below_set ?_ GE160.out) | exact HB.out)⟩⟩
        ·replace c26 := Bool.eq_false_iff.mpr c26
         subst c26
         have H1 : ((quality_rate.f ((rd_T34 l1_1 x11_1).f0) ((rd_T34 l1_1 x11_1).f1)).bind fun t162 => (if t162 < a0_1 then (if x4_1.length < 17592186044416 then (quality_rules_judge.l0 kj9 (x4_1 ++ [x11_1]) x5_1 l1_1 (l1_1.length : Int) (wrap64 (x11_1 + 1)) a0_0 a0_1 a0_2 a0_3 a1_0 l1_1 l1_2 l1_3) else (none)) else ((quality_rate.f ((rd_T34 l1_1 x11_1).f0) ((rd_T34 l1_1 x11_1).f1)).bind fun t166 => (if t166 ≥ a0_2 then (if x5_1.length < 17592186044416 then (quality_rules_judge.l0 kj9 x4_1 (x5_1 ++ [x11_1]) l1_1 (l1_1.length : Int) (wrap64 (x11_1 + 1)) a0_0 a0_1 a0_2 a0_3 a1_0 l1_1 l1_2 l1_3) else (none)) else (quality_rules_judge.l0 kj9 x4_1 x5_1 l1_1 (l1_1.length : Int) (wrap64 (x11_1 + 1)) a0_0 a0_1 a0_2 a0_3 a1_0 l1_1 l1_2 l1_3))))) = some (r1, r2) := by rw [if_neg (show ¬ (false = true) by decide)] at H; exact H
         clear H
         have H := H1
         clear H1
         replace H := Option.bind_eq_some_iff.mp H
         obtain ⟨t162, A270, H⟩ := H
         replace H : (if t162 < a0_1 then (if x4_1.length < 17592186044416 then (quality_rules_judge.l0 kj9 (x4_1 ++ [x11_1]) x5_1 l1_1 (l1_1.length : Int) (wrap64 (x11_1 + 1)) a0_0 a0_1 a0_2 a0_3 a1_0 l1_1 l1_2 l1_3) else (none)) else ((quality_rate.f ((rd_T34 l1_1 x11_1).f0) ((rd_T34 l1_1 x11_1).f1)).bind fun t166 => (if t166 ≥ a0_2 then (if x5_1.length < 17592186044416 then (quality_rules_judge.l0 kj9 x4_1 (x5_1 ++ [x11_1]) l1_1 (l1_1.length : Int) (wrap64 (x11_1 + 1)) a0_0 a0_1 a0_2 a0_3 a1_0 l1_1 l1_2 l1_3) else (none)) else (quality_rules_judge.l0 kj9 x4_1 x5_1 l1_1 (l1_1.length : Int) (wrap64 (x11_1 + 1)) a0_0 a0_1 a0_2 a0_3 a1_0 l1_1 l1_2 l1_3)))) = some (r1, r2) := H
         have A27 := Aside0.mk A270
         clear A270
         by_cases c28 : t162 < a0_1
         ·rw [if_pos c28] at H
          have c28b0 : decide (t162 < a0_1) = true := decide_eq_true c28
          clear c28
          by_cases c29 : x4_1.length < 17592186044416
          ·rw [if_pos c29] at H
           have LMc29 := Aside0.mk c29
           clear c29
           obtain ⟨y163, hy163⟩ : ∃ y_ : List Int, y_ = (x4_1 ++ [x11_1]) := ⟨_, rfl⟩
           replace H : (quality_rules_judge.l0 kj9 y163 x5_1 l1_1 (l1_1.length : Int) (wrap64 (x11_1 + 1)) a0_0 a0_1 a0_2 a0_3 a1_0 l1_1 l1_2 l1_3) = some (r1, r2) := by first | (rw [hy163]; with_reducible exact H) | (have H2_ := (Option.bind_some _ _).symm.trans H; rw [hy163]; with_reducible exact H2_) | (have H2_ := (Option.bind_some _ _).symm.trans H; with_reducible exact H2_) | with_reducible exact H | (rw [hy163]; exact H) | exact H
           have Ny163 := Aside0.mk hy163
           clear hy163
           have H' := Aside0.mk H
           clear H
           try go_wp2
           have n0_ := Aside0.mk (Kd.R_drew HO_4.out)
           have n1_ := Aside0.mk (Kd.R_drew HO_5.out)
           have n2_ := Aside0.mk (blk_drew BK157.out)
           have n3_ := Aside0.mk (blk_drew BK158.out)
           have n4_ := Aside0.mk (blk_drew BK160.out)
           have n5_ := Aside0.mk (below_drew1 HB.out)
           clear HO_4
           clear HO_5
           clear BK157
           clear BK158
           clear BK160
           clear HB
           have HO_4 := n0_
           have HO_5 := n1_
           have BK157 := n2_
           have BK158 := n3_
           have BK160 := n4_
           have HB := n5_
           clear n0_ n1_ n2_ n3_ n4_ n5_
           refine start_ (n := 6) (S := fun w' => w'.cell? ⟨gb160, 0, none⟩ = some (.int .i64 ((rd_T34 l1_1 x11_1).f0)) ∧ w'.cell? ⟨gb160, 1, none⟩ = some (.int .i64 ((rd_T34 l1_1 x11_1).f1)) ∧ w'.cell? ⟨gb157, 0, none⟩ = some (.int .i64 a0_0) ∧ w'.cell? ⟨gb157, 1, none⟩ = some (.int .i64 a0_1) ∧ w'.cell? ⟨gb157, 2, none⟩ = some (.int .i64 a0_2) ∧ w'.cell? ⟨gb157, 3, none⟩ = some (.int .i64 a0_3)) (ds := []) #[false, false, false, false, false, false] (by kernel_rfl) rfl rfl ⟨(blk_cell BK160.out 0).trans rfl, (blk_cell BK160.out 1).trans rfl, (blk_cell BK157.out 0).trans rfl, (blk_cell BK157.out 1).trans rfl, (blk_cell BK157.out 2).trans rfl, (blk_cell BK157.out 3).trans rfl⟩ (fun hHeld => ?_)
           generalize wc.drew = w30 at HO_4 HO_5 BK157 BK158 BK160 HB hHeld ⊢
           refine pure_ (i := 2) (N := some 33) (v := ?_) (a' := ?_) #[false, false, true, false, false, false] rfl rfl (by kernel_rfl) (fun _ _ _ h => h) (Or.inl ⟨by rfl, ?_⟩) ?_ ?_
           rotate_left
           ·intro w'
            go_simp
            with_reducible rfl
           rotate_left
           ·simp only [Act.put, List.setIfInBounds_toArray, List.set_cons_zero, List.set_cons_succ, i64_w, i32_w]
            rfl
           refine take_ (i := 0) (N := some 31) (v := ?_) (a' := ?_) #[true, false, true, false, false, false] rfl rfl (by kernel_rfl) (fun _ _ _ h => h) (Or.inl ⟨by rfl, ?_⟩) hHeld ?_ ?_
           rotate_left
           ·rintro w' ⟨s0, s1, s2, s3, s4, s5⟩
            go_simp
            with_reducible rfl
           rotate_left
           ·simp only [Act.put, List.setIfInBounds_toArray, List.set_cons_zero, List.set_cons_succ, i64_w, i32_w]
            rfl
           refine take_ (i := 3) (N := some 34) (v := ?_) (a' := ?_) #[true, false, true, true, false, false] rfl rfl (by kernel_rfl) (fun _ _ _ h => h) (Or.inl ⟨by rfl, ?_⟩) hHeld ?_ ?_
           rotate_left
           ·rintro w' ⟨s0, s1, s2, s3, s4, s5⟩
            go_simp
            with_reducible rfl
           rotate_left
           ·simp only [Act.put, List.setIfInBounds_toArray, List.set_cons_zero, List.set_cons_succ, i64_w, i32_w]
            rfl
           refine one_ (i := 1) (N := some 32) #[true, true, true, true, false, false] rfl rfl (by kernel_rfl) (by decide) (fun K hK => ?_)
           refine goes_ Try.func43 (by kernel_rfl) rfl #[.agg #[.int .i64 ((rd_T34 l1_1 x11_1).f0), .int .i64 ((rd_T34 l1_1 x11_1).f1)]] (by rfl) rfl rfl (by (try simp only [List.map_toArray, List.map_cons, List.map_nil]); first | done | rfl | (simp only [List.length_drop, List.length_take]; rfl)) ?_
           with_reducible refine (quality_rate.calls ((rd_T34 l1_1 x11_1).f0) ((rd_T34 l1_1 x11_1).f1) t162 _ A27.out).mono ?_
           rintro e w31 ⟨rfl, hb⟩
           refine ⟨_, rfl, ?_⟩
           have n0_ := Aside0.mk (Kd.R_below (by (with_reducible repeat (first | apply Kd.R_alloc | apply Kd.R_drewN | apply Kd.R_drew)); exact HO_4.out) hb)
           have n1_ := Aside0.mk (Kd.R_below (by (with_reducible repeat (first | apply Kd.R_alloc | apply Kd.R_drewN | apply Kd.R_drew)); exact HO_5.out) hb)
           have n2_ := Aside0.mk (blk_below (g := gb157) (o := .cells #[.int .i64 a0_0, .int .i64 a0_1, .int .i64 a0_2, .int .i64 a0_3] 69 (0, 0)) (by (with_reducible repeat (first | refine blk_drewN ?_ _ | refine blk_drew ?_ | refine blk_alloc ?_ _)); exact BK157.out) hb)
           have n3_ := Aside0.mk (blk_below (g := gb158) (o := .cells #[.int .i64 a1_0, .slice (some ad159) l1_1.length c1_1, .slice A1_2 l1_2.length c1_2, .slice A1_3 l1_3.length c1_3] 25 (0, 0)) (by (with_reducible repeat (first | refine blk_drewN ?_ _ | refine blk_drew ?_ | refine blk_alloc ?_ _)); exact BK158.out) hb)
           have n4_ := Aside0.mk (blk_below (g := gb160) (o := .cells #[.int .i64 ((rd_T34 l1_1 x11_1).f0), .int .i64 ((rd_T34 l1_1 x11_1).f1)] 34 (0, 0)) (by (with_reducible repeat (first | refine blk_drewN ?_ _ | refine blk_drew ?_ | refine blk_alloc ?_ _)); exact BK160.out) hb)
           have n5_ := Aside0.mk (below_step (by repeat (first | (with_reducible first | exact HB.out | apply below_alloc | apply pw_below_drewN | apply below_drew1 | refine below_set ?_ GE157.out | refine below_set ?_ GE158.out | refine below_set ?_ GE160.out) | exact HB.out)) hb)
           clear HO_4
           clear HO_5
           clear BK157
           clear BK158
           clear BK160
           clear HB
           have HO_4 := n0_
           have HO_5 := n1_
           have BK157 := n2_
           have BK158 := n3_
           have BK160 := n4_
           have HB := n5_
           clear n0_ n1_ n2_ n3_ n4_ n5_
           (try clear hb)
           refine hK.out _ _ ⟨(blk_cell BK160.out 0).trans rfl, (blk_cell BK160.out 1).trans rfl, (blk_cell BK157.out 0).trans rfl, (blk_cell BK157.out 1).trans rfl, (blk_cell BK157.out 2).trans rfl, (blk_cell BK157.out 3).trans rfl⟩ (fun hHeld => ?_)
           clear hK K
           refine norm_ (a' := ?_) ?_ ?_
           rotate_left
           ·show Act.put _ (some 32) _ = _
            simp only [Act.put, List.setIfInBounds_toArray, List.set_cons_zero, List.set_cons_succ, i64_w, i32_w]
            rfl
           refine pure_ (i := 4) (N := some 35) (v := ?_) (a' := ?_) #[true, true, true, true, true, false] rfl rfl (by kernel_rfl) (fun _ _ _ h => h) (Or.inl ⟨by rfl, ?_⟩) ?_ ?_
           rotate_left
           ·intro w'
            go_simp
            with_reducible rfl
           rotate_left
           ·simp only [Act.put, List.setIfInBounds_toArray, List.set_cons_zero, List.set_cons_succ, i64_w, i32_w]
            rfl
           refine pure_ (i := 5) (N := some 30) (v := ?_) (a' := ?_) #[true, true, true, true, true, true] rfl rfl (by kernel_rfl) (fun _ _ _ h => h) (Or.inl ⟨by rfl, ?_⟩) ?_ ?_
           rotate_left
           ·intro w'
            go_simp
            with_reducible rfl
           rotate_left
           ·simp only [Act.put, List.setIfInBounds_toArray, List.set_cons_zero, List.set_cons_succ, i64_w, i32_w]
            rfl
           refine done_ (by kernel_rfl) ?_
           try go_wp2_with (first | ((with_reducible refine gate_builtin (b := .append) (xs := #[.tmp 36, .tmp 38]) rfl ?_); at_builtin; refine Kd.R_append (Kd.int .i64) (w0 := w) w.heap.size rfl (.tmp 36) (.tmp 38) 23 3 (.int .i64 0) 8 rfl Try.underlying23 info3 rfl (by decide) (by omega) u4 x4_1 x11_1 [.int .i64 x11_1] (fun k_ => some k_ ≠ (u5 : Value).ownBlock) (fun _ => False) rfl rfl ?aP (fun _ hk => hk.elim) ?aF ?aO ?aB ?aS ?aL ?_; (case aP => exact rfl); (case aB => exact (by repeat (first | (with_reducible first | exact HB.out | apply below_alloc | apply pw_below_drewN | apply below_drew1 | refine below_set ?_ GE157.out | refine below_set ?_ GE158.out | refine below_set ?_ GE160.out) | exact HB.out))); (case aF => exact (fun k_ hk => Kd.fresh' (Kd.R_lt (by (with_reducible repeat (first | apply Kd.R_alloc | apply Kd.R_drewN | apply Kd.R_drew)); exact HO_5.out)) k_ hk)); (case aO => exact (by (with_reducible repeat (first | apply Kd.R_alloc | apply Kd.R_drewN | apply Kd.R_drew)); exact HO_4.out)); (case aS => exact (below_size (by repeat (first | (with_reducible first | exact HB.out | apply below_alloc | apply pw_below_drewN | apply below_drew1 | refine below_set ?_ GE157.out | refine below_set ?_ GE158.out | refine below_set ?_ GE160.out) | exact HB.out)))); (case aL => have := LMc29.out; omega); intro v164 w32 ho hb hg hat; rw [← Ny163.out] at ho; have n0_ := Aside0.mk (Kd.R_after (ok := (fun _ => True)) (by (with_reducible repeat (first | apply Kd.R_alloc | apply Kd.R_drewN | apply Kd.R_drew)); exact Kd.R_mono HO_5.out (fun _ hk => ⟨trivial, hk⟩)) hg hat); have n1_ := Aside0.mk (blk_grown (g := gb157) (o := .cells #[.int .i64 a0_0, .int .i64 a0_1, .int .i64 a0_2, .int .i64 a0_3] 69 (0, 0)) (by (with_reducible repeat (first | refine blk_drewN ?_ _ | refine blk_drew ?_ | refine blk_alloc ?_ _)); exact BK157.out) hg (Kd.R_ne HO_4.out BK157.out (by decide))); have n2_ := Aside0.mk (blk_grown (g := gb158) (o := .cells #[.int .i64 a1_0, .slice (some ad159) l1_1.length c1_1, .slice A1_2 l1_2.length c1_2, .slice A1_3 l1_3.length c1_3] 25 (0, 0)) (by (with_reducible repeat (first | refine blk_drewN ?_ _ | refine blk_drew ?_ | refine blk_alloc ?_ _)); exact BK158.out) hg (Kd.R_ne HO_4.out BK158.out (by decide))); have n3_ := Aside0.mk (blk_grown (g := gb160) (o := .cells #[.int .i64 ((rd_T34 l1_1 x11_1).f0), .int .i64 ((rd_T34 l1_1 x11_1).f1)] 34 (0, 0)) (by (with_reducible repeat (first | refine blk_drewN ?_ _ | refine blk_drew ?_ | refine blk_alloc ?_ _)); exact BK160.out) hg (Kd.R_ne HO_4.out BK160.out (by decide))); have n4_ := Aside0.mk (hb); have n5_ := Aside0.mk (ho); clear HO_5; clear BK157; clear BK158; clear BK160; clear HB; clear HO_4; have HO_5 := n0_; have BK157 := n1_; have BK158 := n2_; have BK160 := n3_; have HB := n4_; have HO165 := n5_; clear n0_ n1_ n2_ n3_ n4_ n5_; clear ho hb hg hat))
           go_roundg kj9
           case measure => have := HK1.out; have := HJ9.out; omega
           case rel => exact ⟨(y163), (x5_1), (wrap64 (x11_1 + 1)), (by first | rfl | (simp; done) | (simp [*]; done)), H', ⟨by have := HK1.out; have := HJ9.out; omega⟩, ⟨by (with_reducible repeat (first | apply Kd.R_alloc | apply Kd.R_drewN | apply Kd.R_drew)); exact HO165.out⟩, ⟨by (with_reducible repeat (first | apply Kd.R_alloc | apply Kd.R_drewN | apply Kd.R_drew)); exact Kd.R_mono HO_5.out (fun _ hk => hk.2)⟩, ⟨by (with_reducible repeat (first | refine blk_drewN ?_ _ | refine blk_drew ?_ | refine blk_alloc ?_ _)); exact BK157.out⟩, ⟨by (with_reducible repeat (first | refine blk_drewN ?_ _ | refine blk_drew ?_ | refine blk_alloc ?_ _)); exact BK158.out⟩, ⟨by repeat (first | (with_reducible first | exact HB.out | apply below_alloc | apply pw_below_drewN | apply below_drew1 | refine below_set ?_ GE157.out | refine below_set ?_ GE158.out | refine below_set ?_ GE160.out) | exact HB.out)⟩⟩
          ·rw [if_neg c29] at H
           exact absurd H (by simp)
         ·rw [if_neg c28] at H
          have c28b0 : decide (t162 < a0_1) = false := decide_eq_false c28
          clear c28
          replace H := Option.bind_eq_some_iff.mp H
          obtain ⟨t166, A330, H⟩ := H
          replace H : (if t166 ≥ a0_2 then (if x5_1.length < 17592186044416 then (quality_rules_judge.l0 kj9 x4_1 (x5_1 ++ [x11_1]) l1_1 (l1_1.length : Int) (wrap64 (x11_1 + 1)) a0_0 a0_1 a0_2 a0_3 a1_0 l1_1 l1_2 l1_3) else (none)) else (quality_rules_judge.l0 kj9 x4_1 x5_1 l1_1 (l1_1.length : Int) (wrap64 (x11_1 + 1)) a0_0 a0_1 a0_2 a0_3 a1_0 l1_1 l1_2 l1_3)) = some (r1, r2) := H
          have A33 := Aside0.mk A330
          clear A330
          by_cases c34 : t166 ≥ a0_2
          ·rw [if_pos c34] at H
           have c34b0 : decide (a0_2 ≤ t166) = true := decide_eq_true c34
           clear c34
           by_cases c35 : x5_1.length < 17592186044416
           ·rw [if_pos c35] at H
            have LMc35 := Aside0.mk c35
            clear c35
            obtain ⟨y167, hy167⟩ : ∃ y_ : List Int, y_ = (x5_1 ++ [x11_1]) := ⟨_, rfl⟩
            replace H : (quality_rules_judge.l0 kj9 x4_1 y167 l1_1 (l1_1.length : Int) (wrap64 (x11_1 + 1)) a0_0 a0_1 a0_2 a0_3 a1_0 l1_1 l1_2 l1_3) = some (r1, r2) := by first | (rw [hy167]; with_reducible exact H) | (have H2_ := (Option.bind_some _ _).symm.trans H; rw [hy167]; with_reducible exact H2_) | (have H2_ := (Option.bind_some _ _).symm.trans H; with_reducible exact H2_) | with_reducible exact H | (rw [hy167]; exact H) | exact H
            have Ny167 := Aside0.mk hy167
            clear hy167
            have H' := Aside0.mk H
            clear H
            try go_wp2
            have n0_ := Aside0.mk (Kd.R_drew HO_4.out)
            have n1_ := Aside0.mk (Kd.R_drew HO_5.out)
            have n2_ := Aside0.mk (blk_drew BK157.out)
            have n3_ := Aside0.mk (blk_drew BK158.out)
            have n4_ := Aside0.mk (blk_drew BK160.out)
            have n5_ := Aside0.mk (below_drew1 HB.out)
            clear HO_4
            clear HO_5
            clear BK157
            clear BK158
            clear BK160
            clear HB
            have HO_4 := n0_
            have HO_5 := n1_
            have BK157 := n2_
            have BK158 := n3_
            have BK160 := n4_
            have HB := n5_
            clear n0_ n1_ n2_ n3_ n4_ n5_
            refine start_ (n := 6) (S := fun w' => w'.cell? ⟨gb160, 0, none⟩ = some (.int .i64 ((rd_T34 l1_1 x11_1).f0)) ∧ w'.cell? ⟨gb160, 1, none⟩ = some (.int .i64 ((rd_T34 l1_1 x11_1).f1)) ∧ w'.cell? ⟨gb157, 0, none⟩ = some (.int .i64 a0_0) ∧ w'.cell? ⟨gb157, 1, none⟩ = some (.int .i64 a0_1) ∧ w'.cell? ⟨gb157, 2, none⟩ = some (.int .i64 a0_2) ∧ w'.cell? ⟨gb157, 3, none⟩ = some (.int .i64 a0_3)) (ds := []) #[false, false, false, false, false, false] (by kernel_rfl) rfl rfl ⟨(blk_cell BK160.out 0).trans rfl, (blk_cell BK160.out 1).trans rfl, (blk_cell BK157.out 0).trans rfl, (blk_cell BK157.out 1).trans rfl, (blk_cell BK157.out 2).trans rfl, (blk_cell BK157.out 3).trans rfl⟩ (fun hHeld => ?_)
            generalize wc.drew = w36 at HO_4 HO_5 BK157 BK158 BK160 HB hHeld ⊢
            refine pure_ (i := 2) (N := some 33) (v := ?_) (a' := ?_) #[false, false, true, false, false, false] rfl rfl (by kernel_rfl) (fun _ _ _ h => h) (Or.inl ⟨by rfl, ?_⟩) ?_ ?_
            rotate_left
            ·intro w'
             go_simp
             with_reducible rfl
            rotate_left
            ·simp only [Act.put, List.setIfInBounds_toArray, List.set_cons_zero, List.set_cons_succ, i64_w, i32_w]
             rfl
            refine take_ (i := 0) (N := some 31) (v := ?_) (a' := ?_) #[true, false, true, false, false, false] rfl rfl (by kernel_rfl) (fun _ _ _ h => h) (Or.inl ⟨by rfl, ?_⟩) hHeld ?_ ?_
            rotate_left
            ·rintro w' ⟨s0, s1, s2, s3, s4, s5⟩
             go_simp
             with_reducible rfl
            rotate_left
            ·simp only [Act.put, List.setIfInBounds_toArray, List.set_cons_zero, List.set_cons_succ, i64_w, i32_w]
             rfl
            refine take_ (i := 3) (N := some 34) (v := ?_) (a' := ?_) #[true, false, true, true, false, false] rfl rfl (by kernel_rfl) (fun _ _ _ h => h) (Or.inl ⟨by rfl, ?_⟩) hHeld ?_ ?_
            rotate_left
            ·rintro w' ⟨s0, s1, s2, s3, s4, s5⟩
             go_simp
             with_reducible rfl
            rotate_left
            ·simp only [Act.put, List.setIfInBounds_toArray, List.set_cons_zero, List.set_cons_succ, i64_w, i32_w]
             rfl
            refine one_ (i := 1) (N := some 32) #[true, true, true, true, false, false] rfl rfl (by kernel_rfl) (by decide) (fun K hK => ?_)
            refine goes_ Try.func43 (by kernel_rfl) rfl #[.agg #[.int .i64 ((rd_T34 l1_1 x11_1).f0), .int .i64 ((rd_T34 l1_1 x11_1).f1)]] (by rfl) rfl rfl (by (try simp only [List.map_toArray, List.map_cons, List.map_nil]); first | done | rfl | (simp only [List.length_drop, List.length_take]; rfl)) ?_
            with_reducible refine (quality_rate.calls ((rd_T34 l1_1 x11_1).f0) ((rd_T34 l1_1 x11_1).f1) t162 _ A27.out).mono ?_
            rintro e w37 ⟨rfl, hb⟩
            refine ⟨_, rfl, ?_⟩
            have n0_ := Aside0.mk (Kd.R_below (by (with_reducible repeat (first | apply Kd.R_alloc | apply Kd.R_drewN | apply Kd.R_drew)); exact HO_4.out) hb)
            have n1_ := Aside0.mk (Kd.R_below (by (with_reducible repeat (first | apply Kd.R_alloc | apply Kd.R_drewN | apply Kd.R_drew)); exact HO_5.out) hb)
            have n2_ := Aside0.mk (blk_below (g := gb157) (o := .cells #[.int .i64 a0_0, .int .i64 a0_1, .int .i64 a0_2, .int .i64 a0_3] 69 (0, 0)) (by (with_reducible repeat (first | refine blk_drewN ?_ _ | refine blk_drew ?_ | refine blk_alloc ?_ _)); exact BK157.out) hb)
            have n3_ := Aside0.mk (blk_below (g := gb158) (o := .cells #[.int .i64 a1_0, .slice (some ad159) l1_1.length c1_1, .slice A1_2 l1_2.length c1_2, .slice A1_3 l1_3.length c1_3] 25 (0, 0)) (by (with_reducible repeat (first | refine blk_drewN ?_ _ | refine blk_drew ?_ | refine blk_alloc ?_ _)); exact BK158.out) hb)
            have n4_ := Aside0.mk (blk_below (g := gb160) (o := .cells #[.int .i64 ((rd_T34 l1_1 x11_1).f0), .int .i64 ((rd_T34 l1_1 x11_1).f1)] 34 (0, 0)) (by (with_reducible repeat (first | refine blk_drewN ?_ _ | refine blk_drew ?_ | refine blk_alloc ?_ _)); exact BK160.out) hb)
            have n5_ := Aside0.mk (below_step (by repeat (first | (with_reducible first | exact HB.out | apply below_alloc | apply pw_below_drewN | apply below_drew1 | refine below_set ?_ GE157.out | refine below_set ?_ GE158.out | refine below_set ?_ GE160.out) | exact HB.out)) hb)
            clear HO_4
            clear HO_5
            clear BK157
            clear BK158
            clear BK160
            clear HB
            have HO_4 := n0_
            have HO_5 := n1_
            have BK157 := n2_
            have BK158 := n3_
            have BK160 := n4_
            have HB := n5_
            clear n0_ n1_ n2_ n3_ n4_ n5_
            (try clear hb)
            refine hK.out _ _ ⟨(blk_cell BK160.out 0).trans rfl, (blk_cell BK160.out 1).trans rfl, (blk_cell BK157.out 0).trans rfl, (blk_cell BK157.out 1).trans rfl, (blk_cell BK157.out 2).trans rfl, (blk_cell BK157.out 3).trans rfl⟩ (fun hHeld => ?_)
            clear hK K
            refine norm_ (a' := ?_) ?_ ?_
            rotate_left
            ·show Act.put _ (some 32) _ = _
             simp only [Act.put, List.setIfInBounds_toArray, List.set_cons_zero, List.set_cons_succ, i64_w, i32_w]
             rfl
            refine pure_ (i := 4) (N := some 35) (v := ?_) (a' := ?_) #[true, true, true, true, true, false] rfl rfl (by kernel_rfl) (fun _ _ _ h => h) (Or.inl ⟨by rfl, ?_⟩) ?_ ?_
            rotate_left
            ·intro w'
             go_simp
             with_reducible rfl
            rotate_left
            ·simp only [Act.put, List.setIfInBounds_toArray, List.set_cons_zero, List.set_cons_succ, i64_w, i32_w]
             rfl
            refine pure_ (i := 5) (N := some 30) (v := ?_) (a' := ?_) #[true, true, true, true, true, true] rfl rfl (by kernel_rfl) (fun _ _ _ h => h) (Or.inl ⟨by rfl, ?_⟩) ?_ ?_
            rotate_left
            ·intro w'
             go_simp
             with_reducible rfl
            rotate_left
            ·simp only [Act.put, List.setIfInBounds_toArray, List.set_cons_zero, List.set_cons_succ, i64_w, i32_w]
             rfl
            refine done_ (by kernel_rfl) ?_
            try go_wp2
            have n0_ := Aside0.mk (Kd.R_drew HO_4.out)
            have n1_ := Aside0.mk (Kd.R_drew HO_5.out)
            have n2_ := Aside0.mk (blk_drew BK157.out)
            have n3_ := Aside0.mk (blk_drew BK158.out)
            have n4_ := Aside0.mk (blk_drew BK160.out)
            have n5_ := Aside0.mk (below_drew1 HB.out)
            clear HO_4
            clear HO_5
            clear BK157
            clear BK158
            clear BK160
            clear HB
            have HO_4 := n0_
            have HO_5 := n1_
            have BK157 := n2_
            have BK158 := n3_
            have BK160 := n4_
            have HB := n5_
            clear n0_ n1_ n2_ n3_ n4_ n5_
            refine start_ (n := 6) (S := fun w' => w'.cell? ⟨gb160, 0, none⟩ = some (.int .i64 ((rd_T34 l1_1 x11_1).f0)) ∧ w'.cell? ⟨gb160, 1, none⟩ = some (.int .i64 ((rd_T34 l1_1 x11_1).f1)) ∧ w'.cell? ⟨gb157, 0, none⟩ = some (.int .i64 a0_0) ∧ w'.cell? ⟨gb157, 1, none⟩ = some (.int .i64 a0_1) ∧ w'.cell? ⟨gb157, 2, none⟩ = some (.int .i64 a0_2) ∧ w'.cell? ⟨gb157, 3, none⟩ = some (.int .i64 a0_3)) (ds := []) #[false, false, false, false, false, false] (by kernel_rfl) rfl rfl ⟨(blk_cell BK160.out 0).trans rfl, (blk_cell BK160.out 1).trans rfl, (blk_cell BK157.out 0).trans rfl, (blk_cell BK157.out 1).trans rfl, (blk_cell BK157.out 2).trans rfl, (blk_cell BK157.out 3).trans rfl⟩ (fun hHeld => ?_)
            generalize w37.drew = w38 at HO_4 HO_5 BK157 BK158 BK160 HB hHeld ⊢
            refine pure_ (i := 2) (N := some 43) (v := ?_) (a' := ?_) #[false, false, true, false, false, false] rfl rfl (by kernel_rfl) (fun _ _ _ h => h) (Or.inl ⟨by rfl, ?_⟩) ?_ ?_
            rotate_left
            ·intro w'
             go_simp
             with_reducible rfl
            rotate_left
            ·simp only [Act.put, List.setIfInBounds_toArray, List.set_cons_zero, List.set_cons_succ, i64_w, i32_w]
             rfl
            refine take_ (i := 0) (N := some 41) (v := ?_) (a' := ?_) #[true, false, true, false, false, false] rfl rfl (by kernel_rfl) (fun _ _ _ h => h) (Or.inl ⟨by rfl, ?_⟩) hHeld ?_ ?_
            rotate_left
            ·rintro w' ⟨s0, s1, s2, s3, s4, s5⟩
             go_simp
             with_reducible rfl
            rotate_left
            ·simp only [Act.put, List.setIfInBounds_toArray, List.set_cons_zero, List.set_cons_succ, i64_w, i32_w]
             rfl
            refine take_ (i := 3) (N := some 44) (v := ?_) (a' := ?_) #[true, false, true, true, false, false] rfl rfl (by kernel_rfl) (fun _ _ _ h => h) (Or.inl ⟨by rfl, ?_⟩) hHeld ?_ ?_
            rotate_left
            ·rintro w' ⟨s0, s1, s2, s3, s4, s5⟩
             go_simp
             with_reducible rfl
            rotate_left
            ·simp only [Act.put, List.setIfInBounds_toArray, List.set_cons_zero, List.set_cons_succ, i64_w, i32_w]
             rfl
            refine one_ (i := 1) (N := some 42) #[true, true, true, true, false, false] rfl rfl (by kernel_rfl) (by decide) (fun K hK => ?_)
            refine goes_ Try.func43 (by kernel_rfl) rfl #[.agg #[.int .i64 ((rd_T34 l1_1 x11_1).f0), .int .i64 ((rd_T34 l1_1 x11_1).f1)]] (by rfl) rfl rfl (by (try simp only [List.map_toArray, List.map_cons, List.map_nil]); first | done | rfl | (simp only [List.length_drop, List.length_take]; rfl)) ?_
            with_reducible refine (quality_rate.calls ((rd_T34 l1_1 x11_1).f0) ((rd_T34 l1_1 x11_1).f1) t166 _ A33.out).mono ?_
            rintro e w39 ⟨rfl, hb⟩
            refine ⟨_, rfl, ?_⟩
            have n0_ := Aside0.mk (Kd.R_below (by (with_reducible repeat (first | apply Kd.R_alloc | apply Kd.R_drewN | apply Kd.R_drew)); exact HO_4.out) hb)
            have n1_ := Aside0.mk (Kd.R_below (by (with_reducible repeat (first | apply Kd.R_alloc | apply Kd.R_drewN | apply Kd.R_drew)); exact HO_5.out) hb)
            have n2_ := Aside0.mk (blk_below (g := gb157) (o := .cells #[.int .i64 a0_0, .int .i64 a0_1, .int .i64 a0_2, .int .i64 a0_3] 69 (0, 0)) (by (with_reducible repeat (first | refine blk_drewN ?_ _ | refine blk_drew ?_ | refine blk_alloc ?_ _)); exact BK157.out) hb)
            have n3_ := Aside0.mk (blk_below (g := gb158) (o := .cells #[.int .i64 a1_0, .slice (some ad159) l1_1.length c1_1, .slice A1_2 l1_2.length c1_2, .slice A1_3 l1_3.length c1_3] 25 (0, 0)) (by (with_reducible repeat (first | refine blk_drewN ?_ _ | refine blk_drew ?_ | refine blk_alloc ?_ _)); exact BK158.out) hb)
            have n4_ := Aside0.mk (blk_below (g := gb160) (o := .cells #[.int .i64 ((rd_T34 l1_1 x11_1).f0), .int .i64 ((rd_T34 l1_1 x11_1).f1)] 34 (0, 0)) (by (with_reducible repeat (first | refine blk_drewN ?_ _ | refine blk_drew ?_ | refine blk_alloc ?_ _)); exact BK160.out) hb)
            have n5_ := Aside0.mk (below_step (by repeat (first | (with_reducible first | exact HB.out | apply below_alloc | apply pw_below_drewN | apply below_drew1 | refine below_set ?_ GE157.out | refine below_set ?_ GE158.out | refine below_set ?_ GE160.out) | exact HB.out)) hb)
            clear HO_4
            clear HO_5
            clear BK157
            clear BK158
            clear BK160
            clear HB
            have HO_4 := n0_
            have HO_5 := n1_
            have BK157 := n2_
            have BK158 := n3_
            have BK160 := n4_
            have HB := n5_
            clear n0_ n1_ n2_ n3_ n4_ n5_
            (try clear hb)
            refine hK.out _ _ ⟨(blk_cell BK160.out 0).trans rfl, (blk_cell BK160.out 1).trans rfl, (blk_cell BK157.out 0).trans rfl, (blk_cell BK157.out 1).trans rfl, (blk_cell BK157.out 2).trans rfl, (blk_cell BK157.out 3).trans rfl⟩ (fun hHeld => ?_)
            clear hK K
            refine norm_ (a' := ?_) ?_ ?_
            rotate_left
            ·show Act.put _ (some 42) _ = _
             simp only [Act.put, List.setIfInBounds_toArray, List.set_cons_zero, List.set_cons_succ, i64_w, i32_w]
             rfl
            refine pure_ (i := 4) (N := some 45) (v := ?_) (a' := ?_) #[true, true, true, true, true, false] rfl rfl (by kernel_rfl) (fun _ _ _ h => h) (Or.inl ⟨by rfl, ?_⟩) ?_ ?_
            rotate_left
            ·intro w'
             go_simp
             with_reducible rfl
            rotate_left
            ·simp only [Act.put, List.setIfInBounds_toArray, List.set_cons_zero, List.set_cons_succ, i64_w, i32_w]
             rfl
            refine pure_ (i := 5) (N := some 40) (v := ?_) (a' := ?_) #[true, true, true, true, true, true] rfl rfl (by kernel_rfl) (fun _ _ _ h => h) (Or.inl ⟨by rfl, ?_⟩) ?_ ?_
            rotate_left
            ·intro w'
             go_simp
             with_reducible rfl
            rotate_left
            ·simp only [Act.put, List.setIfInBounds_toArray, List.set_cons_zero, List.set_cons_succ, i64_w, i32_w]
             rfl
            refine done_ (by kernel_rfl) ?_
            try go_wp2_with (first | ((with_reducible refine gate_builtin (b := .append) (xs := #[.tmp 46, .tmp 48]) rfl ?_); at_builtin; refine Kd.R_append (Kd.int .i64) (w0 := w) w.heap.size rfl (.tmp 46) (.tmp 48) 23 3 (.int .i64 0) 8 rfl Try.underlying23 info3 rfl (by decide) (by omega) u5 x5_1 x11_1 [.int .i64 x11_1] (fun k_ => some k_ ≠ (u4 : Value).ownBlock) (fun _ => False) rfl rfl ?aP (fun _ hk => hk.elim) ?aF ?aO ?aB ?aS ?aL ?_; (case aP => exact rfl); (case aB => exact (by repeat (first | (with_reducible first | exact HB.out | apply below_alloc | apply pw_below_drewN | apply below_drew1 | refine below_set ?_ GE157.out | refine below_set ?_ GE158.out | refine below_set ?_ GE160.out) | exact HB.out))); (case aF => exact (fun k_ hk => Kd.fresh' (Kd.R_lt (by (with_reducible repeat (first | apply Kd.R_alloc | apply Kd.R_drewN | apply Kd.R_drew)); exact HO_4.out)) k_ hk)); (case aO => exact (by (with_reducible repeat (first | apply Kd.R_alloc | apply Kd.R_drewN | apply Kd.R_drew)); exact HO_5.out)); (case aS => exact (below_size (by repeat (first | (with_reducible first | exact HB.out | apply below_alloc | apply pw_below_drewN | apply below_drew1 | refine below_set ?_ GE157.out | refine below_set ?_ GE158.out | refine below_set ?_ GE160.out) | exact HB.out)))); (case aL => have := LMc35.out; omega); intro v168 w40 ho hb hg hat; rw [← Ny167.out] at ho; have n0_ := Aside0.mk (Kd.R_after (ok := (fun _ => True)) (by (with_reducible repeat (first | apply Kd.R_alloc | apply Kd.R_drewN | apply Kd.R_drew)); exact Kd.R_mono HO_4.out (fun _ hk => ⟨trivial, hk⟩)) hg hat); have n1_ := Aside0.mk (blk_grown (g := gb157) (o := .cells #[.int .i64 a0_0, .int .i64 a0_1, .int .i64 a0_2, .int .i64 a0_3] 69 (0, 0)) (by (with_reducible repeat (first | refine blk_drewN ?_ _ | refine blk_drew ?_ | refine blk_alloc ?_ _)); exact BK157.out) hg (Kd.R_ne HO_5.out BK157.out (by decide))); have n2_ := Aside0.mk (blk_grown (g := gb158) (o := .cells #[.int .i64 a1_0, .slice (some ad159) l1_1.length c1_1, .slice A1_2 l1_2.length c1_2, .slice A1_3 l1_3.length c1_3] 25 (0, 0)) (by (with_reducible repeat (first | refine blk_drewN ?_ _ | refine blk_drew ?_ | refine blk_alloc ?_ _)); exact BK158.out) hg (Kd.R_ne HO_5.out BK158.out (by decide))); have n3_ := Aside0.mk (blk_grown (g := gb160) (o := .cells #[.int .i64 ((rd_T34 l1_1 x11_1).f0), .int .i64 ((rd_T34 l1_1 x11_1).f1)] 34 (0, 0)) (by (with_reducible repeat (first | refine blk_drewN ?_ _ | refine blk_drew ?_ | refine blk_alloc ?_ _)); exact BK160.out) hg (Kd.R_ne HO_5.out BK160.out (by decide))); have n4_ := Aside0.mk (hb); have n5_ := Aside0.mk (ho); clear HO_4; clear BK157; clear BK158; clear BK160; clear HB; clear HO_5; have HO_4 := n0_; have BK157 := n1_; have BK158 := n2_; have BK160 := n3_; have HB := n4_; have HO169 := n5_; clear n0_ n1_ n2_ n3_ n4_ n5_; clear ho hb hg hat))
            go_roundg kj9
            case measure => have := HK1.out; have := HJ9.out; omega
            case rel => exact ⟨(x4_1), (y167), (wrap64 (x11_1 + 1)), (by first | rfl | (simp; done) | (simp [*]; done)), H', ⟨by have := HK1.out; have := HJ9.out; omega⟩, ⟨by (with_reducible repeat (first | apply Kd.R_alloc | apply Kd.R_drewN | apply Kd.R_drew)); exact Kd.R_mono HO_4.out (fun _ hk => hk.2)⟩, ⟨by (with_reducible repeat (first | apply Kd.R_alloc | apply Kd.R_drewN | apply Kd.R_drew)); exact HO169.out⟩, ⟨by (with_reducible repeat (first | refine blk_drewN ?_ _ | refine blk_drew ?_ | refine blk_alloc ?_ _)); exact BK157.out⟩, ⟨by (with_reducible repeat (first | refine blk_drewN ?_ _ | refine blk_drew ?_ | refine blk_alloc ?_ _)); exact BK158.out⟩, ⟨by repeat (first | (with_reducible first | exact HB.out | apply below_alloc | apply pw_below_drewN | apply below_drew1 | refine below_set ?_ GE157.out | refine below_set ?_ GE158.out | refine below_set ?_ GE160.out) | exact HB.out)⟩⟩
           ·rw [if_neg c35] at H
            exact absurd H (by simp)
          ·rw [if_neg c34] at H
           have c34b0 : decide (a0_2 ≤ t166) = false := decide_eq_false c34
           clear c34
           have H' := Aside0.mk H
           clear H
           try go_wp2
           have n0_ := Aside0.mk (Kd.R_drew HO_4.out)
           have n1_ := Aside0.mk (Kd.R_drew HO_5.out)
           have n2_ := Aside0.mk (blk_drew BK157.out)
           have n3_ := Aside0.mk (blk_drew BK158.out)
           have n4_ := Aside0.mk (blk_drew BK160.out)
           have n5_ := Aside0.mk (below_drew1 HB.out)
           clear HO_4
           clear HO_5
           clear BK157
           clear BK158
           clear BK160
           clear HB
           have HO_4 := n0_
           have HO_5 := n1_
           have BK157 := n2_
           have BK158 := n3_
           have BK160 := n4_
           have HB := n5_
           clear n0_ n1_ n2_ n3_ n4_ n5_
           refine start_ (n := 6) (S := fun w' => w'.cell? ⟨gb160, 0, none⟩ = some (.int .i64 ((rd_T34 l1_1 x11_1).f0)) ∧ w'.cell? ⟨gb160, 1, none⟩ = some (.int .i64 ((rd_T34 l1_1 x11_1).f1)) ∧ w'.cell? ⟨gb157, 0, none⟩ = some (.int .i64 a0_0) ∧ w'.cell? ⟨gb157, 1, none⟩ = some (.int .i64 a0_1) ∧ w'.cell? ⟨gb157, 2, none⟩ = some (.int .i64 a0_2) ∧ w'.cell? ⟨gb157, 3, none⟩ = some (.int .i64 a0_3)) (ds := []) #[false, false, false, false, false, false] (by kernel_rfl) rfl rfl ⟨(blk_cell BK160.out 0).trans rfl, (blk_cell BK160.out 1).trans rfl, (blk_cell BK157.out 0).trans rfl, (blk_cell BK157.out 1).trans rfl, (blk_cell BK157.out 2).trans rfl, (blk_cell BK157.out 3).trans rfl⟩ (fun hHeld => ?_)
           generalize wc.drew = w41 at HO_4 HO_5 BK157 BK158 BK160 HB hHeld ⊢
           refine pure_ (i := 2) (N := some 33) (v := ?_) (a' := ?_) #[false, false, true, false, false, false] rfl rfl (by kernel_rfl) (fun _ _ _ h => h) (Or.inl ⟨by rfl, ?_⟩) ?_ ?_
           rotate_left
           ·intro w'
            go_simp
            with_reducible rfl
           rotate_left
           ·simp only [Act.put, List.setIfInBounds_toArray, List.set_cons_zero, List.set_cons_succ, i64_w, i32_w]
            rfl
           refine take_ (i := 0) (N := some 31) (v := ?_) (a' := ?_) #[true, false, true, false, false, false] rfl rfl (by kernel_rfl) (fun _ _ _ h => h) (Or.inl ⟨by rfl, ?_⟩) hHeld ?_ ?_
           rotate_left
           ·rintro w' ⟨s0, s1, s2, s3, s4, s5⟩
            go_simp
            with_reducible rfl
           rotate_left
           ·simp only [Act.put, List.setIfInBounds_toArray, List.set_cons_zero, List.set_cons_succ, i64_w, i32_w]
            rfl
           refine take_ (i := 3) (N := some 34) (v := ?_) (a' := ?_) #[true, false, true, true, false, false] rfl rfl (by kernel_rfl) (fun _ _ _ h => h) (Or.inl ⟨by rfl, ?_⟩) hHeld ?_ ?_
           rotate_left
           ·rintro w' ⟨s0, s1, s2, s3, s4, s5⟩
            go_simp
            with_reducible rfl
           rotate_left
           ·simp only [Act.put, List.setIfInBounds_toArray, List.set_cons_zero, List.set_cons_succ, i64_w, i32_w]
            rfl
           refine one_ (i := 1) (N := some 32) #[true, true, true, true, false, false] rfl rfl (by kernel_rfl) (by decide) (fun K hK => ?_)
           refine goes_ Try.func43 (by kernel_rfl) rfl #[.agg #[.int .i64 ((rd_T34 l1_1 x11_1).f0), .int .i64 ((rd_T34 l1_1 x11_1).f1)]] (by rfl) rfl rfl (by (try simp only [List.map_toArray, List.map_cons, List.map_nil]); first | done | rfl | (simp only [List.length_drop, List.length_take]; rfl)) ?_
           with_reducible refine (quality_rate.calls ((rd_T34 l1_1 x11_1).f0) ((rd_T34 l1_1 x11_1).f1) t162 _ A27.out).mono ?_
           rintro e w42 ⟨rfl, hb⟩
           refine ⟨_, rfl, ?_⟩
           have n0_ := Aside0.mk (Kd.R_below (by (with_reducible repeat (first | apply Kd.R_alloc | apply Kd.R_drewN | apply Kd.R_drew)); exact HO_4.out) hb)
           have n1_ := Aside0.mk (Kd.R_below (by (with_reducible repeat (first | apply Kd.R_alloc | apply Kd.R_drewN | apply Kd.R_drew)); exact HO_5.out) hb)
           have n2_ := Aside0.mk (blk_below (g := gb157) (o := .cells #[.int .i64 a0_0, .int .i64 a0_1, .int .i64 a0_2, .int .i64 a0_3] 69 (0, 0)) (by (with_reducible repeat (first | refine blk_drewN ?_ _ | refine blk_drew ?_ | refine blk_alloc ?_ _)); exact BK157.out) hb)
           have n3_ := Aside0.mk (blk_below (g := gb158) (o := .cells #[.int .i64 a1_0, .slice (some ad159) l1_1.length c1_1, .slice A1_2 l1_2.length c1_2, .slice A1_3 l1_3.length c1_3] 25 (0, 0)) (by (with_reducible repeat (first | refine blk_drewN ?_ _ | refine blk_drew ?_ | refine blk_alloc ?_ _)); exact BK158.out) hb)
           have n4_ := Aside0.mk (blk_below (g := gb160) (o := .cells #[.int .i64 ((rd_T34 l1_1 x11_1).f0), .int .i64 ((rd_T34 l1_1 x11_1).f1)] 34 (0, 0)) (by (with_reducible repeat (first | refine blk_drewN ?_ _ | refine blk_drew ?_ | refine blk_alloc ?_ _)); exact BK160.out) hb)
           have n5_ := Aside0.mk (below_step (by repeat (first | (with_reducible first | exact HB.out | apply below_alloc | apply pw_below_drewN | apply below_drew1 | refine below_set ?_ GE157.out | refine below_set ?_ GE158.out | refine below_set ?_ GE160.out) | exact HB.out)) hb)
           clear HO_4
           clear HO_5
           clear BK157
           clear BK158
           clear BK160
           clear HB
           have HO_4 := n0_
           have HO_5 := n1_
           have BK157 := n2_
           have BK158 := n3_
           have BK160 := n4_
           have HB := n5_
           clear n0_ n1_ n2_ n3_ n4_ n5_
           (try clear hb)
           refine hK.out _ _ ⟨(blk_cell BK160.out 0).trans rfl, (blk_cell BK160.out 1).trans rfl, (blk_cell BK157.out 0).trans rfl, (blk_cell BK157.out 1).trans rfl, (blk_cell BK157.out 2).trans rfl, (blk_cell BK157.out 3).trans rfl⟩ (fun hHeld => ?_)
           clear hK K
           refine norm_ (a' := ?_) ?_ ?_
           rotate_left
           ·show Act.put _ (some 32) _ = _
            simp only [Act.put, List.setIfInBounds_toArray, List.set_cons_zero, List.set_cons_succ, i64_w, i32_w]
            rfl
           refine pure_ (i := 4) (N := some 35) (v := ?_) (a' := ?_) #[true, true, true, true, true, false] rfl rfl (by kernel_rfl) (fun _ _ _ h => h) (Or.inl ⟨by rfl, ?_⟩) ?_ ?_
           rotate_left
           ·intro w'
            go_simp
            with_reducible rfl
           rotate_left
           ·simp only [Act.put, List.setIfInBounds_toArray, List.set_cons_zero, List.set_cons_succ, i64_w, i32_w]
            rfl
           refine pure_ (i := 5) (N := some 30) (v := ?_) (a' := ?_) #[true, true, true, true, true, true] rfl rfl (by kernel_rfl) (fun _ _ _ h => h) (Or.inl ⟨by rfl, ?_⟩) ?_ ?_
           rotate_left
           ·intro w'
            go_simp
            with_reducible rfl
           rotate_left
           ·simp only [Act.put, List.setIfInBounds_toArray, List.set_cons_zero, List.set_cons_succ, i64_w, i32_w]
            rfl
           refine done_ (by kernel_rfl) ?_
           try go_wp2
           have n0_ := Aside0.mk (Kd.R_drew HO_4.out)
           have n1_ := Aside0.mk (Kd.R_drew HO_5.out)
           have n2_ := Aside0.mk (blk_drew BK157.out)
           have n3_ := Aside0.mk (blk_drew BK158.out)
           have n4_ := Aside0.mk (blk_drew BK160.out)
           have n5_ := Aside0.mk (below_drew1 HB.out)
           clear HO_4
           clear HO_5
           clear BK157
           clear BK158
           clear BK160
           clear HB
           have HO_4 := n0_
           have HO_5 := n1_
           have BK157 := n2_
           have BK158 := n3_
           have BK160 := n4_
           have HB := n5_
           clear n0_ n1_ n2_ n3_ n4_ n5_
           refine start_ (n := 6) (S := fun w' => w'.cell? ⟨gb160, 0, none⟩ = some (.int .i64 ((rd_T34 l1_1 x11_1).f0)) ∧ w'.cell? ⟨gb160, 1, none⟩ = some (.int .i64 ((rd_T34 l1_1 x11_1).f1)) ∧ w'.cell? ⟨gb157, 0, none⟩ = some (.int .i64 a0_0) ∧ w'.cell? ⟨gb157, 1, none⟩ = some (.int .i64 a0_1) ∧ w'.cell? ⟨gb157, 2, none⟩ = some (.int .i64 a0_2) ∧ w'.cell? ⟨gb157, 3, none⟩ = some (.int .i64 a0_3)) (ds := []) #[false, false, false, false, false, false] (by kernel_rfl) rfl rfl ⟨(blk_cell BK160.out 0).trans rfl, (blk_cell BK160.out 1).trans rfl, (blk_cell BK157.out 0).trans rfl, (blk_cell BK157.out 1).trans rfl, (blk_cell BK157.out 2).trans rfl, (blk_cell BK157.out 3).trans rfl⟩ (fun hHeld => ?_)
           generalize w42.drew = w43 at HO_4 HO_5 BK157 BK158 BK160 HB hHeld ⊢
           refine pure_ (i := 2) (N := some 43) (v := ?_) (a' := ?_) #[false, false, true, false, false, false] rfl rfl (by kernel_rfl) (fun _ _ _ h => h) (Or.inl ⟨by rfl, ?_⟩) ?_ ?_
           rotate_left
           ·intro w'
            go_simp
            with_reducible rfl
           rotate_left
           ·simp only [Act.put, List.setIfInBounds_toArray, List.set_cons_zero, List.set_cons_succ, i64_w, i32_w]
            rfl
           refine take_ (i := 0) (N := some 41) (v := ?_) (a' := ?_) #[true, false, true, false, false, false] rfl rfl (by kernel_rfl) (fun _ _ _ h => h) (Or.inl ⟨by rfl, ?_⟩) hHeld ?_ ?_
           rotate_left
           ·rintro w' ⟨s0, s1, s2, s3, s4, s5⟩
            go_simp
            with_reducible rfl
           rotate_left
           ·simp only [Act.put, List.setIfInBounds_toArray, List.set_cons_zero, List.set_cons_succ, i64_w, i32_w]
            rfl
           refine take_ (i := 3) (N := some 44) (v := ?_) (a' := ?_) #[true, false, true, true, false, false] rfl rfl (by kernel_rfl) (fun _ _ _ h => h) (Or.inl ⟨by rfl, ?_⟩) hHeld ?_ ?_
           rotate_left
           ·rintro w' ⟨s0, s1, s2, s3, s4, s5⟩
            go_simp
            with_reducible rfl
           rotate_left
           ·simp only [Act.put, List.setIfInBounds_toArray, List.set_cons_zero, List.set_cons_succ, i64_w, i32_w]
            rfl
           refine one_ (i := 1) (N := some 42) #[true, true, true, true, false, false] rfl rfl (by kernel_rfl) (by decide) (fun K hK => ?_)
           refine goes_ Try.func43 (by kernel_rfl) rfl #[.agg #[.int .i64 ((rd_T34 l1_1 x11_1).f0), .int .i64 ((rd_T34 l1_1 x11_1).f1)]] (by rfl) rfl rfl (by (try simp only [List.map_toArray, List.map_cons, List.map_nil]); first | done | rfl | (simp only [List.length_drop, List.length_take]; rfl)) ?_
           with_reducible refine (quality_rate.calls ((rd_T34 l1_1 x11_1).f0) ((rd_T34 l1_1 x11_1).f1) t166 _ A33.out).mono ?_
           rintro e w44 ⟨rfl, hb⟩
           refine ⟨_, rfl, ?_⟩
           have n0_ := Aside0.mk (Kd.R_below (by (with_reducible repeat (first | apply Kd.R_alloc | apply Kd.R_drewN | apply Kd.R_drew)); exact HO_4.out) hb)
           have n1_ := Aside0.mk (Kd.R_below (by (with_reducible repeat (first | apply Kd.R_alloc | apply Kd.R_drewN | apply Kd.R_drew)); exact HO_5.out) hb)
           have n2_ := Aside0.mk (blk_below (g := gb157) (o := .cells #[.int .i64 a0_0, .int .i64 a0_1, .int .i64 a0_2, .int .i64 a0_3] 69 (0, 0)) (by (with_reducible repeat (first | refine blk_drewN ?_ _ | refine blk_drew ?_ | refine blk_alloc ?_ _)); exact BK157.out) hb)
           have n3_ := Aside0.mk (blk_below (g := gb158) (o := .cells #[.int .i64 a1_0, .slice (some ad159) l1_1.length c1_1, .slice A1_2 l1_2.length c1_2, .slice A1_3 l1_3.length c1_3] 25 (0, 0)) (by (with_reducible repeat (first | refine blk_drewN ?_ _ | refine blk_drew ?_ | refine blk_alloc ?_ _)); exact BK158.out) hb)
           have n4_ := Aside0.mk (blk_below (g := gb160) (o := .cells #[.int .i64 ((rd_T34 l1_1 x11_1).f0), .int .i64 ((rd_T34 l1_1 x11_1).f1)] 34 (0, 0)) (by (with_reducible repeat (first | refine blk_drewN ?_ _ | refine blk_drew ?_ | refine blk_alloc ?_ _)); exact BK160.out) hb)
           have n5_ := Aside0.mk (below_step (by repeat (first | (with_reducible first | exact HB.out | apply below_alloc | apply pw_below_drewN | apply below_drew1 | refine below_set ?_ GE157.out | refine below_set ?_ GE158.out | refine below_set ?_ GE160.out) | exact HB.out)) hb)
           clear HO_4
           clear HO_5
           clear BK157
           clear BK158
           clear BK160
           clear HB
           have HO_4 := n0_
           have HO_5 := n1_
           have BK157 := n2_
           have BK158 := n3_
           have BK160 := n4_
           have HB := n5_
           clear n0_ n1_ n2_ n3_ n4_ n5_
           (try clear hb)
           refine hK.out _ _ ⟨(blk_cell BK160.out 0).trans rfl, (blk_cell BK160.out 1).trans rfl, (blk_cell BK157.out 0).trans rfl, (blk_cell BK157.out 1).trans rfl, (blk_cell BK157.out 2).trans rfl, (blk_cell BK157.out 3).trans rfl⟩ (fun hHeld => ?_)
           clear hK K
           refine norm_ (a' := ?_) ?_ ?_
           rotate_left
           ·show Act.put _ (some 42) _ = _
            simp only [Act.put, List.setIfInBounds_toArray, List.set_cons_zero, List.set_cons_succ, i64_w, i32_w]
            rfl
           refine pure_ (i := 4) (N := some 45) (v := ?_) (a' := ?_) #[true, true, true, true, true, false] rfl rfl (by kernel_rfl) (fun _ _ _ h => h) (Or.inl ⟨by rfl, ?_⟩) ?_ ?_
           rotate_left
           ·intro w'
            go_simp
            with_reducible rfl
           rotate_left
           ·simp only [Act.put, List.setIfInBounds_toArray, List.set_cons_zero, List.set_cons_succ, i64_w, i32_w]
            rfl
           refine pure_ (i := 5) (N := some 40) (v := ?_) (a' := ?_) #[true, true, true, true, true, true] rfl rfl (by kernel_rfl) (fun _ _ _ h => h) (Or.inl ⟨by rfl, ?_⟩) ?_ ?_
           rotate_left
           ·intro w'
            go_simp
            with_reducible rfl
           rotate_left
           ·simp only [Act.put, List.setIfInBounds_toArray, List.set_cons_zero, List.set_cons_succ, i64_w, i32_w]
            rfl
           refine done_ (by kernel_rfl) ?_
           try go_wp2
           go_roundg kj9
           case measure => have := HK1.out; have := HJ9.out; omega
           case rel => exact ⟨(x4_1), (x5_1), (wrap64 (x11_1 + 1)), (by first | rfl | (simp; done) | (simp [*]; done)), H', ⟨by have := HK1.out; have := HJ9.out; omega⟩, ⟨by (with_reducible repeat (first | apply Kd.R_alloc | apply Kd.R_drewN | apply Kd.R_drew)); exact HO_4.out⟩, ⟨by (with_reducible repeat (first | apply Kd.R_alloc | apply Kd.R_drewN | apply Kd.R_drew)); exact HO_5.out⟩, ⟨by (with_reducible repeat (first | refine blk_drewN ?_ _ | refine blk_drew ?_ | refine blk_alloc ?_ _)); exact BK157.out⟩, ⟨by (with_reducible repeat (first | refine blk_drewN ?_ _ | refine blk_drew ?_ | refine blk_alloc ?_ _)); exact BK158.out⟩, ⟨by repeat (first | (with_reducible first | exact HB.out | apply below_alloc | apply pw_below_drewN | apply below_drew1 | refine below_set ?_ GE157.out | refine below_set ?_ GE158.out | refine below_set ?_ GE160.out) | exact HB.out)⟩⟩
     ·rw [if_neg c9] at H
      exact absurd H (by simp)
    ·rw [if_neg c8] at H
     exact absurd H (by simp)
   ·rw [if_neg c7] at H
    have c7b0 : decide (x11_1 < (l1_1.length : Int)) = false := decide_eq_false c7
    clear c7
    by_cases c45 : (x4_1.length : Int) ≤ 1
    ·rw [if_pos c45] at H
     have c45b0 := eq_true c45
     have c45b1 : decide ((x4_1.length : Int) ≤ 1) = true := decide_eq_true c45
     clear c45
     simp only [Option.some.injEq, Prod.mk.injEq] at H
     obtain ⟨rfl, rfl⟩ := H
     obtain ⟨Ao47, co47, eo47⟩ := Kd.R_slice HO_4.out
     subst eo47
     have hl46 := Aside0.mk (show x4_1.length ≤ 1 from by have h_ : ((x4_1.length : Int) : Int) ≤ 1 := of_decide_eq_true (by first | (with_reducible assumption) | assumption); omega)
     go_wp2_with (first | ((with_reducible refine gate_callee (f := 55) rfl ?_); refine goesL_ (some 53) rfl rfl Try.func55 (by kernel_rfl) rfl #[.slice Ao47 x4_1.length co47, .func (.func 56) #[] #[.pointer (some ⟨gb158, 0, none⟩)]] rfl (by (try simp only [List.map_toArray, List.map_cons, List.map_nil]); first | done | rfl) ?_; (with_reducible refine (sort_one.calls _ _ _ _ _ hl46.out).mono ?_); rintro e_ w_ ⟨rfl, hw_⟩; refine ⟨_, rfl, ?_⟩; rw [hw_]; clear hw_ w_))
     go_ret2
     exact ⟨_, _, by first | rfl | (simp [errW_none, errW_some] <;> rfl) | (simp [*, errW_none, errW_some] <;> rfl), by (with_reducible repeat (first | apply Kd.R_alloc | apply Kd.R_drewN | apply Kd.R_drew)); exact HO_4.out, by (with_reducible repeat (first | apply Kd.R_alloc | apply Kd.R_drewN | apply Kd.R_drew)); exact HO_5.out, by repeat (first | (with_reducible first | exact HB.out | apply below_alloc | apply pw_below_drewN | apply below_drew1 | refine below_set ?_ GE157.out | refine below_set ?_ GE158.out) | exact HB.out)⟩
    ·rw [if_neg c45] at H
     exact absurd H (by simp)
end Go.Proofs.Ytnipgplobipeeaa.PQ
