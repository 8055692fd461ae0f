-- Printed by fprint.py and zip.py, programs of this session's, over the kit's print; Lean checks it.
import Derived.Test.YtnipgplobipeeaaZ0
import Derived.Test.YtnipgplobipeeaaZf43
namespace Go.Proofs.Ytnipgplobipeeaa.PQ
open Go.RowKit Go.Proofs.YtnipgplobipeeaaW.PrintWords Go.Proofs.YtnipgplobipeeaaW.PrintLast Go.Proofs.YtnipgplobipeeaaW.PrintMore
attribute [local go_sem] max2_int min2_int max_two min_two max_three min_three max_four min_four   -- for this text's walks alone
set_option linter.unusedVariables false
set_option linter.unusedSimpArgs false
theorem ins_one.calls (v f : Value) (b : Int) (w : World) (hb : b ≤ 1) :
 Calls Try.prog 59 #[v, .int .i64 0, .int .i64 b, f] w fun e w' => e = .returned (.tuple #[]) ∧ w' = w := by
 have c1 : decide (1 < b) = false := decide_eq_false (by omega)
 clear hb
 go_enter Try.func59, Try.ntmps59
 go_wp2
 go_loopg [8] 0 (fun kq v8 w' => v8 = .int .i64 1 ∧ w' = w)
 case atStart => exact ⟨rfl, rfl⟩
 case round =>
  obtain ⟨rfl, rfl⟩ := hrel
  go_wp2
  go_end0
  exact ⟨rfl, rfl⟩
theorem stable_one.calls (v f : Value) (n : Int) (w : World) (hn : n ≤ 1) :
 Calls Try.prog 58 #[v, .int .i64 n, f] w fun e w' => e = .returned (.tuple #[]) ∧ w' = w := by
 have c1 : decide (20 ≤ n) = false := decide_eq_false (by omega)
 have c2 : decide (20 < n) = false := decide_eq_false (by omega)
 have HN := Aside0.mk hn
 clear hn
 go_enter Try.func58, Try.ntmps58
 go_wp2
 go_loopg [7, 8] 0 (fun kq v7 v8 w' => v7 = .int .i64 0 ∧ v8 = .int .i64 20 ∧ w' = w)
 case atStart => exact ⟨rfl, rfl, rfl⟩
 case round =>
  obtain ⟨rfl, rfl, rfl⟩ := hrel
  go_wp2_with ((with_reducible refine gate_callee (f := 59) rfl ?_); refine goesL_ (some 27) rfl rfl Try.func59 (by kernel_rfl) rfl #[v, .int .i64 0, .int .i64 n, f] rfl (by (try simp only [List.map_toArray, List.map_cons, List.map_nil]); first | done | rfl) ?_; (with_reducible refine (ins_one.calls v f n _ HN.out).mono ?_); rintro e w1 ⟨rfl, rfl⟩; refine ⟨_, rfl, ?_⟩)
  simp only [Act.put, List.setIfInBounds_toArray, List.set_cons_zero, List.set_cons_succ]
  go_loopg [6, 7, 8] 0 (fun kq v6 v7 v8 w' => v6 = .int .i64 20 ∧ w' = w1)
  case atStart => exact ⟨rfl, rfl⟩
  case round =>
   obtain ⟨rfl, rfl⟩ := hrel
   go_wp2
   go_end0
   exact ⟨rfl, rfl⟩
theorem sort_one.calls (A : Option Addr) (n c : Nat) (f : Value) (w : World) (hn : n ≤ 1) :
 Calls Try.prog 55 #[.slice A n c, f] w fun e w' => e = .returned (.tuple #[]) ∧ w' = w := by
 have HN := Aside0.mk (show (n : Int) ≤ 1 by omega)
 clear hn
 go_enter Try.func55, Try.ntmps55
 go_wp2_with ((with_reducible refine gate_callee (f := 58) rfl ?_); refine goesL_ (some 8) rfl rfl Try.func58 (by kernel_rfl) rfl #[.slice A n c, .int .i64 (n : Int), f] rfl (by (try simp only [List.map_toArray, List.map_cons, List.map_nil]); first | done | rfl) ?_; (with_reducible refine (stable_one.calls (.slice A n c) f (n : Int) _ HN.out).mono ?_); rintro e w1 ⟨rfl, rfl⟩; refine ⟨_, rfl, ?_⟩)
 go_end0
 exact ⟨rfl, rfl⟩
mutual
def quality_rules_judge.l0 : Nat → List Int → List Int → List (S34) → Int → Int → Int → Int → Int → Int → Int → List (S34) → List Int → List Int → Option (List Int × List Int)
 | 0, _, _, _, _, _, _, _, _, _, _, _, _, _ => none
 | k + 1, x4, x5, x9, x10, x11, x158000, x158001, x158002, x158003, x159000, x159001, x159002, x159003 => if x11 < x10 then (if 0 ≤ x11 then (if x11 < (x9.length : Int) then (if x11 < (x159002.length : Int) then (if (rd x159002 x11) = 0 then (quality_rules_judge.j1 k x4 x5 x11 x9 x10 x11 (decide (((rd_T34 x9 x11).f0) < x158000)) x158000 x158001 x158002 x158003 x159000 x159001 x159002 x159003 ((rd_T34 x9 x11).f0) ((rd_T34 x9 x11).f1)) else (quality_rules_judge.j1 k x4 x5 x11 x9 x10 x11 true x158000 x158001 x158002 x158003 x159000 x159001 x159002 x159003 ((rd_T34 x9 x11).f0) ((rd_T34 x9 x11).f1))) else (none)) else (none)) else (none)) else (if (x4.length : Int) ≤ 1 then (some (x4, x5)) else (none))
def quality_rules_judge.j1 : Nat → List Int → List Int → Int → List (S34) → Int → Int → Bool → Int → Int → Int → Int → Int → List (S34) → List Int → List Int → Int → Int → Option (List Int × List Int)
 | 0, _, _, _, _, _, _, _, _, _, _, _, _, _, _, _, _, _ => none
 | k + 1, x4, x5, x6, x9, x10, x11, x16, x158000, x158001, x158002, x158003, x159000, x159001, x159002, x159003, x161000, x161001 => if x16 = true then (quality_rules_judge.l0 k x4 x5 x9 x10 (wrap64 (x11 + 1)) x158000 x158001 x158002 x158003 x159000 x159001 x159002 x159003) else ((quality_rate.f x161000 x161001).bind fun t162 => (if t162 < x158001 then (if x4.length < 17592186044416 then (quality_rules_judge.l0 k (x4 ++ [x6]) x5 x9 x10 (wrap64 (x11 + 1)) x158000 x158001 x158002 x158003 x159000 x159001 x159002 x159003) else (none)) else ((quality_rate.f x161000 x161001).bind fun t166 => (if t166 ≥ x158002 then (if x5.length < 17592186044416 then (quality_rules_judge.l0 k x4 (x5 ++ [x6]) x9 x10 (wrap64 (x11 + 1)) x158000 x158001 x158002 x158003 x159000 x159001 x159002 x159003) else (none)) else (quality_rules_judge.l0 k x4 x5 x9 x10 (wrap64 (x11 + 1)) x158000 x158001 x158002 x158003 x159000 x159001 x159002 x159003)))))
end
def quality_rules_judge.f (k : Nat) (a0_0 : Int) (a0_1 : Int) (a0_2 : Int) (a0_3 : Int) (a1_0 : Int) (l1_1 : List (S34)) (l1_2 : List Int) (l1_3 : List Int) : Option (List Int × List Int) := quality_rules_judge.l0 k ([] : List Int) ([] : List Int) l1_1 (l1_1.length : Int) 0 a0_0 a0_1 a0_2 a0_3 a1_0 l1_1 l1_2 l1_3
theorem quality_rules_judge.mono_l : ∀ k, (∀ y0 y1 y2 y3 y4 y5 y6 y7 y8 y9 y10 y11 y12, LeO (quality_rules_judge.l0 k y0 y1 y2 y3 y4 y5 y6 y7 y8 y9 y10 y11 y12) (quality_rules_judge.l0 (k + 1) y0 y1 y2 y3 y4 y5 y6 y7 y8 y9 y10 y11 y12)) ∧ (∀ y0 y1 y2 y3 y4 y5 y6 y7 y8 y9 y10 y11 y12 y13 y14 y15 y16, LeO (quality_rules_judge.j1 k y0 y1 y2 y3 y4 y5 y6 y7 y8 y9 y10 y11 y12 y13 y14 y15 y16) (quality_rules_judge.j1 (k + 1) y0 y1 y2 y3 y4 y5 y6 y7 y8 y9 y10 y11 y12 y13 y14 y15 y16))
 | 0 => ⟨fun _ _ _ _ _ _ _ _ _ _ _ _ _ r h => by simp [quality_rules_judge.l0] at h, fun _ _ _ _ _ _ _ _ _ _ _ _ _ _ _ _ _ r h => by simp [quality_rules_judge.j1] at h⟩
 | k + 1 => by
  obtain ⟨ih0, ih1⟩ := quality_rules_judge.mono_l k
  refine ⟨?_, ?_⟩
  ·intro y0 y1 y2 y3 y4 y5 y6 y7 y8 y9 y10 y11 y12
   unfold quality_rules_judge.l0
   repeat' first
   | (with_reducible exact ih0 _ _ _ _ _ _ _ _ _ _ _ _ _)
   | (with_reducible exact ih1 _ _ _ _ _ _ _ _ _ _ _ _ _ _ _ _ _)
   | (with_reducible exact LeO.refl _)
   | (with_reducible exact LeO.none _)
   | (with_reducible refine LeO.ite ?_ ?_)
   | (with_reducible refine LeO.bind ?_ (fun _ => ?_))
   | exact ih0 _ _ _ _ _ _ _ _ _ _ _ _ _
   | exact ih1 _ _ _ _ _ _ _ _ _ _ _ _ _ _ _ _ _
   | exact LeO.none _
   | refine LeO.ite ?_ ?_
   | refine LeO.bind ?_ (fun _ => ?_)
  ·intro y0 y1 y2 y3 y4 y5 y6 y7 y8 y9 y10 y11 y12 y13 y14 y15 y16
   unfold quality_rules_judge.j1
   repeat' first
   | (with_reducible exact ih0 _ _ _ _ _ _ _ _ _ _ _ _ _)
   | (with_reducible exact ih1 _ _ _ _ _ _ _ _ _ _ _ _ _ _ _ _ _)
   | (with_reducible exact LeO.refl _)
   | (with_reducible exact LeO.none _)
   | (with_reducible refine LeO.ite ?_ ?_)
   | (with_reducible refine LeO.bind ?_ (fun _ => ?_))
   | exact ih0 _ _ _ _ _ _ _ _ _ _ _ _ _
   | exact ih1 _ _ _ _ _ _ _ _ _ _ _ _ _ _ _ _ _
   | exact LeO.none _
   | refine LeO.ite ?_ ?_
   | refine LeO.bind ?_ (fun _ => ?_)
theorem quality_rules_judge.mono : ∀ a0 a1 a2 a3 a4 a5 a6 a7 k, LeO (quality_rules_judge.f k a0 a1 a2 a3 a4 a5 a6 a7) (quality_rules_judge.f (k + 1) a0 a1 a2 a3 a4 a5 a6 a7) := by
 intro a0 a1 a2 a3 a4 a5 a6 a7 k
 obtain ⟨ih0, ih1⟩ := quality_rules_judge.mono_l k
 unfold quality_rules_judge.f
 repeat' first
  | (with_reducible exact ih0 _ _ _ _ _ _ _ _ _ _ _ _ _)
  | (with_reducible exact ih1 _ _ _ _ _ _ _ _ _ _ _ _ _ _ _ _ _)
  | (with_reducible exact LeO.refl _)
  | (with_reducible exact LeO.none _)
  | (with_reducible refine LeO.ite ?_ ?_)
  | (with_reducible refine LeO.bind ?_ (fun _ => ?_))
  | exact ih0 _ _ _ _ _ _ _ _ _ _ _ _ _
  | exact ih1 _ _ _ _ _ _ _ _ _ _ _ _ _ _ _ _ _
  | exact LeO.none _
  | refine LeO.ite ?_ ?_
  | refine LeO.bind ?_ (fun _ => ?_)
set_option maxHeartbeats 8000000 in
set_option maxRecDepth 100000 in
theorem quality_rules_judge.calls (k : Nat) (a0_0 : Int) (a0_1 : Int) (a0_2 : Int) (a0_3 : Int) (a1_0 : Int) (A1_1 : Option Addr) (c1_1 : Nat) (l1_1 : List (S34)) (A1_2 : Option Addr) (c1_2 : Nat) (l1_2 : List Int) (A1_3 : Option Addr) (c1_3 : Nat) (l1_3 : List Int) (r1 : List Int) (r2 : List Int) (w : World) (hr1_1 : Kd.C k34 w A1_1 l1_1.length l1_1) (hc1_1 : l1_1.length ≤ c1_1) (hr1_2 : Kd.C (Kd.int .i64) w A1_2 l1_2.length l1_2) (hc1_2 : l1_2.length ≤ c1_2) (hr1_3 : Kd.C (Kd.int .i64) w A1_3 l1_3.length l1_3) (hc1_3 : l1_3.length ≤ c1_3) (h : quality_rules_judge.f k a0_0 a0_1 a0_2 a0_3 a1_0 l1_1 l1_2 l1_3 = some (r1, r2)) :
 Calls Try.prog 53 #[.agg #[.int .i64 a0_0, .int .i64 a0_1, .int .i64 a0_2, .int .i64 a0_3], .agg #[.int .i64 a1_0, .slice A1_1 l1_1.length c1_1, .slice A1_2 l1_2.length c1_2, .slice A1_3 l1_3.length c1_3]] w fun e w' => ∃ v0_ v1_ : Value, e = .returned (.tuple #[v0_, v1_]) ∧ Kd.R (Kd.int .i64) 3 w' w.heap.size (fun k_ => some k_ ≠ (v1_ : Value).ownBlock) v0_ r1 ∧ Kd.R (Kd.int .i64) 3 w' w.heap.size (fun k_ => some k_ ≠ (v0_ : Value).ownBlock) v1_ r2 ∧ Below w.heap.size w w' := by
 have hu69 := Try.underlying69
 have hu25 := Try.underlying25
 have hu34 := Try.underlying34
 have HR1_1 := Aside0.mk hr1_1
 have HC1_1 := Aside0.mk hc1_1
 clear hr1_1 hc1_1
 have HR1_2 := Aside0.mk hr1_2
 have HC1_2 := Aside0.mk hc1_2
 clear hr1_2 hc1_2
 have HR1_3 := Aside0.mk hr1_3
 have HC1_3 := Aside0.mk hc1_3
 clear hr1_3 hc1_3
 have HB := Aside0.mk (Below.refl w.heap.size w)
 have H : (quality_rules_judge.l0 k ([] : List Int) ([] : List Int) l1_1 (l1_1.length : Int) 0 a0_0 a0_1 a0_2 a0_3 a1_0 l1_1 l1_2 l1_3) = some (r1, r2) := h
 clear h
 have H' := Aside0.mk H
 clear H
 go_enter Try.func53, Try.ntmps53
 go_wp2_with (first | ((with_reducible refine gate_dst (N := 2) rfl ?_); refine boxE 2 #[.int .i64 a0_0, .int .i64 a0_1, .int .i64 a0_2, .int .i64 a0_3] 69 ?_; intro gb157 hg w3 hbox hb; have BK157 := Aside0.mk (hbox); have GW157 := gw hg HB; have GE157 := gw hg HB; replace HB := hbS HB hb; clear hb hbox hg) | ((with_reducible refine gate_dst (N := 3) rfl ?_); refine boxE 3 #[.int .i64 a1_0, .slice A1_1 l1_1.length c1_1, .slice A1_2 l1_2.length c1_2, .slice A1_3 l1_3.length c1_3] 25 ?_; intro gb158 hg w4 hbox hb; have BK158 := Aside0.mk (hbox); have GW158 := gw hg HB; have GE158 := gw hg HB; replace HB := hbS HB hb; have NB157_158 := nbl hg BK157; have NB158_157 := nbg hg BK157; replace BK157 := bkB BK157 hb; clear hb hbox hg; have hnb5 := NB158_157.out; have hnc5 := NB157_158.out; obtain ⟨z0, z1, z2, z3, y0, y1, y2, y3⟩ := bc4 BK158))
 go_loopg [4, 5, 11] k (fun kq v4 v5 v11 w' => ∃ (x4_1 : List Int) (x5_1 : List Int) (x11_1 : Int), v11 = .int .i64 x11_1 ∧ Aside0 (quality_rules_judge.l0 kq x4_1 x5_1 l1_1 (l1_1.length : Int) x11_1 a0_0 a0_1 a0_2 a0_3 a1_0 l1_1 l1_2 l1_3 = some (r1, r2)) ∧ Aside0 (kq ≤ k) ∧ Aside0 (Kd.R (Kd.int .i64) 3 w' w.heap.size (fun k_ => some k_ ≠ (v5 : Value).ownBlock) v4 x4_1) ∧ Aside0 (Kd.R (Kd.int .i64) 3 w' w.heap.size (fun k_ => some k_ ≠ (v4 : Value).ownBlock) v5 x5_1) ∧ Aside0 (w'.heap[gb157]? = some (.cells #[.int .i64 a0_0, .int .i64 a0_1, .int .i64 a0_2, .int .i64 a0_3] 69 (0, 0))) ∧ Aside0 (w'.heap[gb158]? = some (.cells #[.int .i64 a1_0, (.slice A1_1 l1_1.length c1_1), (.slice A1_2 l1_2.length c1_2), (.slice A1_3 l1_3.length c1_3)] 25 (0, 0))) ∧ Aside0 (Below w.heap.size w w'))
 case atStart => exact ⟨(([] : List Int)), (([] : List Int)), (0), rfs, H', ⟨Nat.le_refl _⟩, ⟨rnil⟩, ⟨rnil⟩, bkA BK157, bkA BK158, hbA HB⟩
 case round =>
  clear H'
  try clear hcz6_0
  try clear hcz6_1
  try clear hcz6_2
  try clear hcz6_3
  try clear hfz6_0
  try clear hfz6_1
  try clear hfz6_2
  try clear hfz6_3
  obtain ⟨x4_1, x5_1, x11_1, rfl, HA, HK1, HO_4, HO_5, BK157, BK158, HB⟩ := hrel
  cases gk with
  | zero => exact absurd HA.out (by simp [quality_rules_judge.l0])
  | succ k1 =>
   have H := HA.out
   clear HA
   simp only [quality_rules_judge.l0] at H
   by_cases c7 : x11_1 < (l1_1.length : Int)
   ·rw [if_pos c7] at H
    have c7b0 : decide (x11_1 < (l1_1.length : Int)) = true := decide_eq_true c7
    clear c7
    by_cases c8 : 0 ≤ x11_1
    ·rw [if_pos c8] at H
     have c8b0 : decide (0 ≤ x11_1) = true := decide_eq_true c8
     clear c8
     by_cases c9 : x11_1 < (l1_1.length : Int)
     ·rw [if_pos c9] at H
      have c9b0 : decide (x11_1 < (l1_1.length : Int)) = true := decide_eq_true c9
      clear c9
      have HC10 := Aside0.mk H
      clear H
      have p159 : 0 ≤ (x11_1 : Int) := pos_
      have q159 : x11_1 < (l1_1.length : Int) := pos_
      obtain ⟨ad159, e159, hx159_0, hx159_1⟩ := at_T34 HR1_1.out x11_1 p159 q159
      cases e159
      replace hx159_0 := (HB.out.cell (World.block_lt_of_cell? w _ hx159_0)).trans hx159_0
      replace hx159_1 := (HB.out.cell (World.block_lt_of_cell? w _ hx159_1)).trans hx159_1
      replace p159 := eq_true p159
      replace q159 := eq_true q159
      go_upto_region 4 with (first | ((with_reducible refine gate_dst (N := 7) rfl ?_); refine boxE 7 #[.int .i64 0, .int .i64 0] 34 ?_; intro gb160 hg w11 hbox hb; replace HO_4 := rB HO_4 hb; replace HO_5 := rB HO_5 hb; have BK160 := Aside0.mk (hbox); have GW160 := gw hg HB; have GE160 := gw hg HB; replace HB := hbS HB hb; have NB157_160 := nbl hg BK157; have NB160_157 := nbg hg BK157; replace BK157 := bkB BK157 hb; have NB158_160 := nbl hg BK158; have NB160_158 := nbg hg BK158; replace BK158 := bkB BK158 hb; clear hb hbox hg; have hnb12 := NB160_157.out; have hnc12 := NB157_160.out; have hnb13 := NB160_158.out; have hnc13 := NB158_160.out; obtain ⟨z0, z1, y0, y1⟩ := bc2 BK160))
      (try simp only [Act.put, List.setIfInBounds_toArray, List.set_cons_zero, List.set_cons_succ])
      go_cut [16] (fun v16 wc => ∃ (kq : Nat) (x16_9 : Bool), v16 = .bool x16_9 ∧ Aside0 (quality_rules_judge.j1 kq x4_1 x5_1 x11_1 l1_1 (l1_1.length : Int) x11_1 x16_9 a0_0 a0_1 a0_2 a0_3 a1_0 l1_1 l1_2 l1_3 ((rd_T34 l1_1 x11_1).f0) ((rd_T34 l1_1 x11_1).f1) = some (r1, r2)) ∧ Aside0 (kq ≤ k1) ∧ Aside0 (Kd.R (Kd.int .i64) 3 wc w.heap.size (fun k_ => some k_ ≠ (u5 : Value).ownBlock) u4 x4_1) ∧ Aside0 (Kd.R (Kd.int .i64) 3 wc w.heap.size (fun k_ => some k_ ≠ (u4 : Value).ownBlock) u5 x5_1) ∧ Aside0 (wc.heap[gb157]? = some (.cells #[.int .i64 a0_0, .int .i64 a0_1, .int .i64 a0_2, .int .i64 a0_3] 69 (0, 0))) ∧ Aside0 (wc.heap[gb158]? = some (.cells #[.int .i64 a1_0, (.slice (some ad159) l1_1.length c1_1), (.slice A1_2 l1_2.length c1_2), (.slice A1_3 l1_3.length c1_3)] 25 (0, 0))) ∧ Aside0 (wc.heap[gb160]? = some (.cells #[.int .i64 ((rd_T34 l1_1 x11_1).f0), .int .i64 ((rd_T34 l1_1 x11_1).f1)] 34 (0, 0))) ∧ Aside0 (Below w.heap.size w wc))
      case first =>
       have H := HC10.out
       clear HC10
       by_cases c15 : x11_1 < (l1_2.length : Int)
       ·rw [if_pos c15] at H
        have c15b0 : decide (x11_1 < (l1_2.length : Int)) = true := decide_eq_true c15
        clear c15
        (first | rw [c15b0] | (simp only [i64_w, i32_w]; rw [c15b0]) | skip)
        by_cases c16 : (rd l1_2 x11_1) = 0
        ·rw [if_pos c16] at H
         have c16b0 : ((rd l1_2 x11_1) == 0) = true := beq_iff_eq.mpr c16
         have c16b1 : ((rd l1_2 x11_1) != 0) = false := bne_eq_false_iff_eq.mpr c16
         clear c16
         have H' := Aside0.mk H
         clear H
         have hnb17 := NB158_157.out
         have hnc17 := NB157_158.out
         have hnb18 := NB158_160.out
         have hnc18 := NB160_158.out
         obtain ⟨z0, z1, z2, z3, y0, y1, y2, y3⟩ := bc4 BK158
         have p161 : 0 ≤ (x11_1 : Int) := pos_
         have q161 : x11_1 < (l1_2.length : Int) := pos_
         obtain ⟨ad161, e161, hx161_0⟩ := Kd.at_int HR1_2.out x11_1 p161 q161
         cases e161
         have hn161_0 : ad161.block ≠ gb160 := Nat.ne_of_lt (Nat.lt_of_lt_of_le (by have := World.block_lt_of_cell? _ _ hx161_0; first | rwa [add_block] at this | exact this) GW160.out)
         have hn161_1 : ad161.block ≠ gb160 := Nat.ne_of_lt (Nat.lt_of_lt_of_le (by have := World.block_lt_of_cell? _ _ hx161_0; first | rwa [add_block] at this | exact this) GW160.out)
         replace hx161_0 := (HB.out.cell (World.block_lt_of_cell? w _ hx161_0)).trans hx161_0
         replace hx161_0 := (cell_far (p := ⟨gb160, 0, none⟩) (by first | (rw [add_block]; exact hn161_0) | (show (Addr.add _ _).block ≠ _; rw [add_block]; exact hn161_0) | exact hn161_0) (.int .i64 ((rd_T34 l1_1 x11_1).f0))).trans hx161_0
         replace hx161_0 := (cell_far (p := ⟨gb160, 1, none⟩) (by first | (rw [add_block]; exact hn161_1) | (show (Addr.add _ _).block ≠ _; rw [add_block]; exact hn161_1) | exact hn161_1) (.int .i64 ((rd_T34 l1_1 x11_1).f1))).trans hx161_0
         clear hn161_0
         clear hn161_1
         replace p161 := eq_true p161
         replace q161 := eq_true q161
         have hnb20 := NB160_157.out
         have hnc20 := NB157_160.out
         obtain ⟨z0, z1, y0, y1⟩ := bc2 BK160
         obtain ⟨z0, z1, z2, z3, y0, y1, y2, y3⟩ := bc4 BK157
         go_wp2
         go_meet
         case rel => exact ⟨_, (decide (((rd_T34 l1_1 x11_1).f0) < a0_0)), rfs, H', ⟨by have := HK1.out; first | omega | exact Nat.le_refl _⟩, rfA HO_4, rfA HO_5, bkfA BK157, bkfA BK158, bkpA BK160, hbA HB⟩
        ·rw [if_neg c16] at H
         have c16b0 : ((rd l1_2 x11_1) == 0) = false := beq_eq_false_iff_ne.mpr c16
         have c16b1 : ((rd l1_2 x11_1) != 0) = true := bne_iff_ne.mpr c16
         have H' := Aside0.mk H
         clear H
         have hnb23 := NB158_157.out
         have hnc23 := NB157_158.out
         have hnb24 := NB158_160.out
         have hnc24 := NB160_158.out
         obtain ⟨z0, z1, z2, z3, y0, y1, y2, y3⟩ := bc4 BK158
         have p161 : 0 ≤ (x11_1 : Int) := pos_
         have q161 : x11_1 < (l1_2.length : Int) := pos_
         obtain ⟨ad161, e161, hx161_0⟩ := Kd.at_int HR1_2.out x11_1 p161 q161
         cases e161
         have hn161_0 : ad161.block ≠ gb160 := Nat.ne_of_lt (Nat.lt_of_lt_of_le (by have := World.block_lt_of_cell? _ _ hx161_0; first | rwa [add_block] at this | exact this) GW160.out)
         have hn161_1 : ad161.block ≠ gb160 := Nat.ne_of_lt (Nat.lt_of_lt_of_le (by have := World.block_lt_of_cell? _ _ hx161_0; first | rwa [add_block] at this | exact this) GW160.out)
         replace hx161_0 := (HB.out.cell (World.block_lt_of_cell? w _ hx161_0)).trans hx161_0
         replace hx161_0 := (cell_far (p := ⟨gb160, 0, none⟩) (by first | (rw [add_block]; exact hn161_0) | (show (Addr.add _ _).block ≠ _; rw [add_block]; exact hn161_0) | exact hn161_0) (.int .i64 ((rd_T34 l1_1 x11_1).f0))).trans hx161_0
         replace hx161_0 := (cell_far (p := ⟨gb160, 1, none⟩) (by first | (rw [add_block]; exact hn161_1) | (show (Addr.add _ _).block ≠ _; rw [add_block]; exact hn161_1) | exact hn161_1) (.int .i64 ((rd_T34 l1_1 x11_1).f1))).trans hx161_0
         clear hn161_0
         clear hn161_1
         replace p161 := eq_true p161
         replace q161 := eq_true q161
         go_wp2
         go_meet
         case rel => exact ⟨_, (true), rfs, H', ⟨by have := HK1.out; first | omega | exact Nat.le_refl _⟩, rfA HO_4, rfA HO_5, bkfA BK157, bkfA BK158, bkpA BK160, hbA HB⟩
       ·rw [if_neg c15] at H
        exact absurd H (by simp)
      case rest =>
       clear HC10
       try clear c7
       try clear c7b0
       try clear c8
       try clear c8b0
       try clear c9
       try clear c9b0
       try clear hcz14_0
       try clear hcz14_1
       try clear hcz6_0
       try clear hcz6_1
       try clear hcz6_2
       try clear hcz6_3
       try clear hfz14_0
       try clear hfz14_1
       try clear hfz6_0
       try clear hfz6_1
       try clear hfz6_2
       try clear hfz6_3
       try clear hx159_0
       try clear hx159_1
       try clear p159
       try clear q159
       obtain ⟨kq, x16_9, rfl, HA, HJ9, HO_4, HO_5, BK157, BK158, BK160, HB⟩ := hcut
       cases kq with
       | zero => exact absurd HA.out (by simp [quality_rules_judge.j1])
       | succ kj9 =>
        have H := HA.out
        clear HA
        simp only [quality_rules_judge.j1] at H
        by_cases c26 : x16_9 = true
        ·subst c26
         rw [if_pos rfl] at H
         have H' := Aside0.mk H
         clear H
         go_wp2
         go_roundg kj9
         case measure => have := HK1.out; have := HJ9.out; omega
         case rel => exact ⟨(x4_1), (x5_1), (wrap64 (x11_1 + 1)), rfs, H', ⟨by have := HK1.out; have := HJ9.out; omega⟩, roA HO_4, roA HO_5, bkA BK157, bkA BK158, hbA HB⟩
        ·replace c26 := Bool.eq_false_iff.mpr c26
         subst c26
         rw [if_neg (show ¬ (false = true) by decide)] at H
         replace H := Option.bind_eq_some_iff.mp H
         obtain ⟨t162, A270, H⟩ := H
         (try dsimp only at H)
         have A27 := Aside0.mk A270
         clear A270
         by_cases c28 : t162 < a0_1
         ·rw [if_pos c28] at H
          have c28b0 : decide (t162 < a0_1) = true := decide_eq_true c28
          clear c28
          by_cases c29 : x4_1.length < 17592186044416
          ·rw [if_pos c29] at H
           have LMc29 := Aside0.mk c29
           clear c29
           obtain ⟨y163, hy163⟩ : ∃ y_ : List Int, y_ = (x4_1 ++ [x11_1]) := ⟨_, rfl⟩
           replace H : (quality_rules_judge.l0 kj9 y163 x5_1 l1_1 (l1_1.length : Int) (wrap64 (x11_1 + 1)) a0_0 a0_1 a0_2 a0_3 a1_0 l1_1 l1_2 l1_3) = some (r1, r2) := by first | (rw [hy163]; with_reducible exact H) | (have H2_ := (Option.bind_some _ _).symm.trans H; rw [hy163]; with_reducible exact H2_) | (have H2_ := (Option.bind_some _ _).symm.trans H; with_reducible exact H2_) | with_reducible exact H | (rw [hy163]; exact H) | exact H
           have Ny163 := Aside0.mk hy163
           clear hy163
           have H' := Aside0.mk H
           clear H
           try go_wp2
           replace HO_4 := Aside0.mk (Kd.R_drew HO_4.out)
           replace HO_5 := Aside0.mk (Kd.R_drew HO_5.out)
           replace BK157 := Aside0.mk (blk_drew BK157.out)
           replace BK158 := Aside0.mk (blk_drew BK158.out)
           replace BK160 := Aside0.mk (blk_drew BK160.out)
           replace HB := Aside0.mk (below_drew1 HB.out)
           refine start_ (n := 6) (S := fun w' => w'.cell? ⟨gb160, 0, none⟩ = some (.int .i64 ((rd_T34 l1_1 x11_1).f0)) ∧ w'.cell? ⟨gb160, 1, none⟩ = some (.int .i64 ((rd_T34 l1_1 x11_1).f1)) ∧ w'.cell? ⟨gb157, 0, none⟩ = some (.int .i64 a0_0) ∧ w'.cell? ⟨gb157, 1, none⟩ = some (.int .i64 a0_1) ∧ w'.cell? ⟨gb157, 2, none⟩ = some (.int .i64 a0_2) ∧ w'.cell? ⟨gb157, 3, none⟩ = some (.int .i64 a0_3)) (ds := []) #[false, false, false, false, false, false] (by kernel_rfl) rfl rfl ⟨(blk_cell BK160.out 0).trans rfl, (blk_cell BK160.out 1).trans rfl, (blk_cell BK157.out 0).trans rfl, (blk_cell BK157.out 1).trans rfl, (blk_cell BK157.out 2).trans rfl, (blk_cell BK157.out 3).trans rfl⟩ (fun hHeld => ?_)
           generalize wc.drew = w30 at HO_4 HO_5 BK157 BK158 BK160 HB hHeld ⊢
           refine pure_ (i := 2) (N := some 33) (v := ?_) (a' := ?_) #[false, false, true, false, false, false] rfl rfl (by kernel_rfl) (fun _ _ _ h => h) (Or.inl ⟨by rfl, ?_⟩) ?_ ?_
           rotate_left
           ·intro w'
            go_simp
            with_reducible rfl
           rotate_left
           ·simp only [Act.put, List.setIfInBounds_toArray, List.set_cons_zero, List.set_cons_succ, i64_w, i32_w]
            rfl
           refine take_ (i := 0) (N := some 31) (v := ?_) (a' := ?_) #[true, false, true, false, false, false] rfl rfl (by kernel_rfl) (fun _ _ _ h => h) (Or.inl ⟨by rfl, ?_⟩) hHeld ?_ ?_
           rotate_left
           ·rintro w' ⟨s0, s1, s2, s3, s4, s5⟩
            go_simp
            with_reducible rfl
           rotate_left
           ·simp only [Act.put, List.setIfInBounds_toArray, List.set_cons_zero, List.set_cons_succ, i64_w, i32_w]
            rfl
           refine take_ (i := 3) (N := some 34) (v := ?_) (a' := ?_) #[true, false, true, true, false, false] rfl rfl (by kernel_rfl) (fun _ _ _ h => h) (Or.inl ⟨by rfl, ?_⟩) hHeld ?_ ?_
           rotate_left
           ·rintro w' ⟨s0, s1, s2, s3, s4, s5⟩
            go_simp
            with_reducible rfl
           rotate_left
           ·simp only [Act.put, List.setIfInBounds_toArray, List.set_cons_zero, List.set_cons_succ, i64_w, i32_w]
            rfl
           refine one_ (i := 1) (N := some 32) #[true, true, true, true, false, false] rfl rfl (by kernel_rfl) (by decide) (fun K hK => ?_)
           refine goes_ Try.func43 (by kernel_rfl) rfl #[.agg #[.int .i64 ((rd_T34 l1_1 x11_1).f0), .int .i64 ((rd_T34 l1_1 x11_1).f1)]] (by rfl) rfl rfl sma ?_
           with_reducible refine (quality_rate.calls ((rd_T34 l1_1 x11_1).f0) ((rd_T34 l1_1 x11_1).f1) t162 _ A27.out).mono ?_
           rintro e w31 ⟨rfl, hb⟩
           refine ⟨_, rfl, ?_⟩
           replace HO_4 := rB HO_4 hb
           replace HO_5 := rB HO_5 hb
           replace BK157 := bkB BK157 hb
           replace BK158 := bkB BK158 hb
           replace BK160 := bkB BK160 hb
           replace HB := hbS HB hb
           (try clear hb)
           refine hK.out _ _ ⟨(blk_cell BK160.out 0).trans rfl, (blk_cell BK160.out 1).trans rfl, (blk_cell BK157.out 0).trans rfl, (blk_cell BK157.out 1).trans rfl, (blk_cell BK157.out 2).trans rfl, (blk_cell BK157.out 3).trans rfl⟩ (fun hHeld => ?_)
           clear hK K
           refine nrm (some 32) ?_
           refine pure_ (i := 4) (N := some 35) (v := ?_) (a' := ?_) #[true, true, true, true, true, false] rfl rfl (by kernel_rfl) (fun _ _ _ h => h) (Or.inl ⟨by rfl, ?_⟩) ?_ ?_
           rotate_left
           ·intro w'
            go_simp
            with_reducible rfl
           rotate_left
           ·simp only [Act.put, List.setIfInBounds_toArray, List.set_cons_zero, List.set_cons_succ, i64_w, i32_w]
            rfl
           refine pure_ (i := 5) (N := some 30) (v := ?_) (a' := ?_) #[true, true, true, true, true, true] rfl rfl (by kernel_rfl) (fun _ _ _ h => h) (Or.inl ⟨by rfl, ?_⟩) ?_ ?_
           rotate_left
           ·intro w'
            go_simp
            with_reducible rfl
           rotate_left
           ·simp only [Act.put, List.setIfInBounds_toArray, List.set_cons_zero, List.set_cons_succ, i64_w, i32_w]
            rfl
           refine done_ (by kernel_rfl) ?_
           try go_wp2_with (first | ((with_reducible refine gate_builtin (b := .append) (xs := #[.tmp 36, .tmp 38]) rfl ?_); at_builtin; refine Kd.R_append (Kd.int .i64) (w0 := w) w.heap.size rfl (.tmp 36) (.tmp 38) 23 3 (.int .i64 0) 8 rfl Try.underlying23 info3 rfl (by decide) (by omega) u4 x4_1 x11_1 [.int .i64 x11_1] (fun k_ => some k_ ≠ (u5 : Value).ownBlock) (fun _ => False) rfl rfl ?aP (fun _ hk => hk.elim) ?aF ?aO ?aB ?aS ?aL ?_; (case aP => exact rfl); (case aB => exact (hbx HB)); (case aF => exact (fun k_ hk => Kd.fresh' (Kd.R_lt (ro HO_5)) k_ hk)); (case aO => exact (ro HO_4)); (case aS => exact (below_size (hbx HB))); (case aL => have := LMc29.out; omega); intro v164 w32 ho hb hg hat; rw [← Ny163.out] at ho; replace HO_5 := Aside0.mk (Kd.R_after (ok := (fun _ => True)) (by (with_reducible repeat (first | apply Kd.R_alloc | apply Kd.R_drewN | apply Kd.R_drew)); exact Kd.R_mono HO_5.out (fun _ hk => ⟨trivial, hk⟩)) hg hat); replace BK157 := Aside0.mk (blk_grown (bk BK157) hg (Kd.R_ne HO_4.out BK157.out (by decide))); replace BK158 := Aside0.mk (blk_grown (bk BK158) hg (Kd.R_ne HO_4.out BK158.out (by decide))); replace BK160 := Aside0.mk (blk_grown (bk BK160) hg (Kd.R_ne HO_4.out BK160.out (by decide))); replace HB := Aside0.mk (hb); have HO165 := Aside0.mk (ho); clear HO_4; clear ho hb hg hat))
           go_roundg kj9
           case measure => have := HK1.out; have := HJ9.out; omega
           case rel => exact ⟨(y163), (x5_1), (wrap64 (x11_1 + 1)), rfs, H', ⟨by have := HK1.out; have := HJ9.out; omega⟩, roA HO165, ⟨by (with_reducible repeat (first | apply Kd.R_alloc | apply Kd.R_drewN | apply Kd.R_drew)); exact Kd.R_mono HO_5.out (fun _ hk => hk.2)⟩, bkA BK157, bkA BK158, hbA HB⟩
          ·rw [if_neg c29] at H
           exact absurd H (by simp)
         ·rw [if_neg c28] at H
          have c28b0 : decide (t162 < a0_1) = false := decide_eq_false c28
          clear c28
          replace H := Option.bind_eq_some_iff.mp H
          obtain ⟨t166, A330, H⟩ := H
          (try dsimp only at H)
          have A33 := Aside0.mk A330
          clear A330
          by_cases c34 : t166 ≥ a0_2
          ·rw [if_pos c34] at H
           have c34b0 : decide (a0_2 ≤ t166) = true := decide_eq_true c34
           clear c34
           by_cases c35 : x5_1.length < 17592186044416
           ·rw [if_pos c35] at H
            have LMc35 := Aside0.mk c35
            clear c35
            obtain ⟨y167, hy167⟩ : ∃ y_ : List Int, y_ = (x5_1 ++ [x11_1]) := ⟨_, rfl⟩
            replace H : (quality_rules_judge.l0 kj9 x4_1 y167 l1_1 (l1_1.length : Int) (wrap64 (x11_1 + 1)) a0_0 a0_1 a0_2 a0_3 a1_0 l1_1 l1_2 l1_3) = some (r1, r2) := by first | (rw [hy167]; with_reducible exact H) | (have H2_ := (Option.bind_some _ _).symm.trans H; rw [hy167]; with_reducible exact H2_) | (have H2_ := (Option.bind_some _ _).symm.trans H; with_reducible exact H2_) | with_reducible exact H | (rw [hy167]; exact H) | exact H
            have Ny167 := Aside0.mk hy167
            clear hy167
            have H' := Aside0.mk H
            clear H
            try go_wp2
            replace HO_4 := Aside0.mk (Kd.R_drew HO_4.out)
            replace HO_5 := Aside0.mk (Kd.R_drew HO_5.out)
            replace BK157 := Aside0.mk (blk_drew BK157.out)
            replace BK158 := Aside0.mk (blk_drew BK158.out)
            replace BK160 := Aside0.mk (blk_drew BK160.out)
            replace HB := Aside0.mk (below_drew1 HB.out)
            refine start_ (n := 6) (S := fun w' => w'.cell? ⟨gb160, 0, none⟩ = some (.int .i64 ((rd_T34 l1_1 x11_1).f0)) ∧ w'.cell? ⟨gb160, 1, none⟩ = some (.int .i64 ((rd_T34 l1_1 x11_1).f1)) ∧ w'.cell? ⟨gb157, 0, none⟩ = some (.int .i64 a0_0) ∧ w'.cell? ⟨gb157, 1, none⟩ = some (.int .i64 a0_1) ∧ w'.cell? ⟨gb157, 2, none⟩ = some (.int .i64 a0_2) ∧ w'.cell? ⟨gb157, 3, none⟩ = some (.int .i64 a0_3)) (ds := []) #[false, false, false, false, false, false] (by kernel_rfl) rfl rfl ⟨(blk_cell BK160.out 0).trans rfl, (blk_cell BK160.out 1).trans rfl, (blk_cell BK157.out 0).trans rfl, (blk_cell BK157.out 1).trans rfl, (blk_cell BK157.out 2).trans rfl, (blk_cell BK157.out 3).trans rfl⟩ (fun hHeld => ?_)
            generalize wc.drew = w36 at HO_4 HO_5 BK157 BK158 BK160 HB hHeld ⊢
            refine pure_ (i := 2) (N := some 33) (v := ?_) (a' := ?_) #[false, false, true, false, false, false] rfl rfl (by kernel_rfl) (fun _ _ _ h => h) (Or.inl ⟨by rfl, ?_⟩) ?_ ?_
            rotate_left
            ·intro w'
             go_simp
             with_reducible rfl
            rotate_left
            ·simp only [Act.put, List.setIfInBounds_toArray, List.set_cons_zero, List.set_cons_succ, i64_w, i32_w]
             rfl
            refine take_ (i := 0) (N := some 31) (v := ?_) (a' := ?_) #[true, false, true, false, false, false] rfl rfl (by kernel_rfl) (fun _ _ _ h => h) (Or.inl ⟨by rfl, ?_⟩) hHeld ?_ ?_
            rotate_left
            ·rintro w' ⟨s0, s1, s2, s3, s4, s5⟩
             go_simp
             with_reducible rfl
            rotate_left
            ·simp only [Act.put, List.setIfInBounds_toArray, List.set_cons_zero, List.set_cons_succ, i64_w, i32_w]
             rfl
            refine take_ (i := 3) (N := some 34) (v := ?_) (a' := ?_) #[true, false, true, true, false, false] rfl rfl (by kernel_rfl) (fun _ _ _ h => h) (Or.inl ⟨by rfl, ?_⟩) hHeld ?_ ?_
            rotate_left
            ·rintro w' ⟨s0, s1, s2, s3, s4, s5⟩
             go_simp
             with_reducible rfl
            rotate_left
            ·simp only [Act.put, List.setIfInBounds_toArray, List.set_cons_zero, List.set_cons_succ, i64_w, i32_w]
             rfl
            refine one_ (i := 1) (N := some 32) #[true, true, true, true, false, false] rfl rfl (by kernel_rfl) (by decide) (fun K hK => ?_)
            refine goes_ Try.func43 (by kernel_rfl) rfl #[.agg #[.int .i64 ((rd_T34 l1_1 x11_1).f0), .int .i64 ((rd_T34 l1_1 x11_1).f1)]] (by rfl) rfl rfl sma ?_
            with_reducible refine (quality_rate.calls ((rd_T34 l1_1 x11_1).f0) ((rd_T34 l1_1 x11_1).f1) t162 _ A27.out).mono ?_
            rintro e w37 ⟨rfl, hb⟩
            refine ⟨_, rfl, ?_⟩
            replace HO_4 := rB HO_4 hb
            replace HO_5 := rB HO_5 hb
            replace BK157 := bkB BK157 hb
            replace BK158 := bkB BK158 hb
            replace BK160 := bkB BK160 hb
            replace HB := hbS HB hb
            (try clear hb)
            refine hK.out _ _ ⟨(blk_cell BK160.out 0).trans rfl, (blk_cell BK160.out 1).trans rfl, (blk_cell BK157.out 0).trans rfl, (blk_cell BK157.out 1).trans rfl, (blk_cell BK157.out 2).trans rfl, (blk_cell BK157.out 3).trans rfl⟩ (fun hHeld => ?_)
            clear hK K
            refine nrm (some 32) ?_
            refine pure_ (i := 4) (N := some 35) (v := ?_) (a' := ?_) #[true, true, true, true, true, false] rfl rfl (by kernel_rfl) (fun _ _ _ h => h) (Or.inl ⟨by rfl, ?_⟩) ?_ ?_
            rotate_left
            ·intro w'
             go_simp
             with_reducible rfl
            rotate_left
            ·simp only [Act.put, List.setIfInBounds_toArray, List.set_cons_zero, List.set_cons_succ, i64_w, i32_w]
             rfl
            refine pure_ (i := 5) (N := some 30) (v := ?_) (a' := ?_) #[true, true, true, true, true, true] rfl rfl (by kernel_rfl) (fun _ _ _ h => h) (Or.inl ⟨by rfl, ?_⟩) ?_ ?_
            rotate_left
            ·intro w'
             go_simp
             with_reducible rfl
            rotate_left
            ·simp only [Act.put, List.setIfInBounds_toArray, List.set_cons_zero, List.set_cons_succ, i64_w, i32_w]
             rfl
            refine done_ (by kernel_rfl) ?_
            try go_wp2
            replace HO_4 := Aside0.mk (Kd.R_drew HO_4.out)
            replace HO_5 := Aside0.mk (Kd.R_drew HO_5.out)
            replace BK157 := Aside0.mk (blk_drew BK157.out)
            replace BK158 := Aside0.mk (blk_drew BK158.out)
            replace BK160 := Aside0.mk (blk_drew BK160.out)
            replace HB := Aside0.mk (below_drew1 HB.out)
            refine start_ (n := 6) (S := fun w' => w'.cell? ⟨gb160, 0, none⟩ = some (.int .i64 ((rd_T34 l1_1 x11_1).f0)) ∧ w'.cell? ⟨gb160, 1, none⟩ = some (.int .i64 ((rd_T34 l1_1 x11_1).f1)) ∧ w'.cell? ⟨gb157, 0, none⟩ = some (.int .i64 a0_0) ∧ w'.cell? ⟨gb157, 1, none⟩ = some (.int .i64 a0_1) ∧ w'.cell? ⟨gb157, 2, none⟩ = some (.int .i64 a0_2) ∧ w'.cell? ⟨gb157, 3, none⟩ = some (.int .i64 a0_3)) (ds := []) #[false, false, false, false, false, false] (by kernel_rfl) rfl rfl ⟨(blk_cell BK160.out 0).trans rfl, (blk_cell BK160.out 1).trans rfl, (blk_cell BK157.out 0).trans rfl, (blk_cell BK157.out 1).trans rfl, (blk_cell BK157.out 2).trans rfl, (blk_cell BK157.out 3).trans rfl⟩ (fun hHeld => ?_)
            generalize w37.drew = w38 at HO_4 HO_5 BK157 BK158 BK160 HB hHeld ⊢
            refine pure_ (i := 2) (N := some 43) (v := ?_) (a' := ?_) #[false, false, true, false, false, false] rfl rfl (by kernel_rfl) (fun _ _ _ h => h) (Or.inl ⟨by rfl, ?_⟩) ?_ ?_
            rotate_left
            ·intro w'
             go_simp
             with_reducible rfl
            rotate_left
            ·simp only [Act.put, List.setIfInBounds_toArray, List.set_cons_zero, List.set_cons_succ, i64_w, i32_w]
             rfl
            refine take_ (i := 0) (N := some 41) (v := ?_) (a' := ?_) #[true, false, true, false, false, false] rfl rfl (by kernel_rfl) (fun _ _ _ h => h) (Or.inl ⟨by rfl, ?_⟩) hHeld ?_ ?_
            rotate_left
            ·rintro w' ⟨s0, s1, s2, s3, s4, s5⟩
             go_simp
             with_reducible rfl
            rotate_left
            ·simp only [Act.put, List.setIfInBounds_toArray, List.set_cons_zero, List.set_cons_succ, i64_w, i32_w]
             rfl
            refine take_ (i := 3) (N := some 44) (v := ?_) (a' := ?_) #[true, false, true, true, false, false] rfl rfl (by kernel_rfl) (fun _ _ _ h => h) (Or.inl ⟨by rfl, ?_⟩) hHeld ?_ ?_
            rotate_left
            ·rintro w' ⟨s0, s1, s2, s3, s4, s5⟩
             go_simp
             with_reducible rfl
            rotate_left
            ·simp only [Act.put, List.setIfInBounds_toArray, List.set_cons_zero, List.set_cons_succ, i64_w, i32_w]
             rfl
            refine one_ (i := 1) (N := some 42) #[true, true, true, true, false, false] rfl rfl (by kernel_rfl) (by decide) (fun K hK => ?_)
            refine goes_ Try.func43 (by kernel_rfl) rfl #[.agg #[.int .i64 ((rd_T34 l1_1 x11_1).f0), .int .i64 ((rd_T34 l1_1 x11_1).f1)]] (by rfl) rfl rfl sma ?_
            with_reducible refine (quality_rate.calls ((rd_T34 l1_1 x11_1).f0) ((rd_T34 l1_1 x11_1).f1) t166 _ A33.out).mono ?_
            rintro e w39 ⟨rfl, hb⟩
            refine ⟨_, rfl, ?_⟩
            replace HO_4 := rB HO_4 hb
            replace HO_5 := rB HO_5 hb
            replace BK157 := bkB BK157 hb
            replace BK158 := bkB BK158 hb
            replace BK160 := bkB BK160 hb
            replace HB := hbS HB hb
            (try clear hb)
            refine hK.out _ _ ⟨(blk_cell BK160.out 0).trans rfl, (blk_cell BK160.out 1).trans rfl, (blk_cell BK157.out 0).trans rfl, (blk_cell BK157.out 1).trans rfl, (blk_cell BK157.out 2).trans rfl, (blk_cell BK157.out 3).trans rfl⟩ (fun hHeld => ?_)
            clear hK K
            refine nrm (some 42) ?_
            refine pure_ (i := 4) (N := some 45) (v := ?_) (a' := ?_) #[true, true, true, true, true, false] rfl rfl (by kernel_rfl) (fun _ _ _ h => h) (Or.inl ⟨by rfl, ?_⟩) ?_ ?_
            rotate_left
            ·intro w'
             go_simp
             with_reducible rfl
            rotate_left
            ·simp only [Act.put, List.setIfInBounds_toArray, List.set_cons_zero, List.set_cons_succ, i64_w, i32_w]
             rfl
            refine pure_ (i := 5) (N := some 40) (v := ?_) (a' := ?_) #[true, true, true, true, true, true] rfl rfl (by kernel_rfl) (fun _ _ _ h => h) (Or.inl ⟨by rfl, ?_⟩) ?_ ?_
            rotate_left
            ·intro w'
             go_simp
             with_reducible rfl
            rotate_left
            ·simp only [Act.put, List.setIfInBounds_toArray, List.set_cons_zero, List.set_cons_succ, i64_w, i32_w]
             rfl
            refine done_ (by kernel_rfl) ?_
            try go_wp2_with (first | ((with_reducible refine gate_builtin (b := .append) (xs := #[.tmp 46, .tmp 48]) rfl ?_); at_builtin; refine Kd.R_append (Kd.int .i64) (w0 := w) w.heap.size rfl (.tmp 46) (.tmp 48) 23 3 (.int .i64 0) 8 rfl Try.underlying23 info3 rfl (by decide) (by omega) u5 x5_1 x11_1 [.int .i64 x11_1] (fun k_ => some k_ ≠ (u4 : Value).ownBlock) (fun _ => False) rfl rfl ?aP (fun _ hk => hk.elim) ?aF ?aO ?aB ?aS ?aL ?_; (case aP => exact rfl); (case aB => exact (hbx HB)); (case aF => exact (fun k_ hk => Kd.fresh' (Kd.R_lt (ro HO_4)) k_ hk)); (case aO => exact (ro HO_5)); (case aS => exact (below_size (hbx HB))); (case aL => have := LMc35.out; omega); intro v168 w40 ho hb hg hat; rw [← Ny167.out] at ho; replace HO_4 := Aside0.mk (Kd.R_after (ok := (fun _ => True)) (by (with_reducible repeat (first | apply Kd.R_alloc | apply Kd.R_drewN | apply Kd.R_drew)); exact Kd.R_mono HO_4.out (fun _ hk => ⟨trivial, hk⟩)) hg hat); replace BK157 := Aside0.mk (blk_grown (bk BK157) hg (Kd.R_ne HO_5.out BK157.out (by decide))); replace BK158 := Aside0.mk (blk_grown (bk BK158) hg (Kd.R_ne HO_5.out BK158.out (by decide))); replace BK160 := Aside0.mk (blk_grown (bk BK160) hg (Kd.R_ne HO_5.out BK160.out (by decide))); replace HB := Aside0.mk (hb); have HO169 := Aside0.mk (ho); clear HO_5; clear ho hb hg hat))
            go_roundg kj9
            case measure => have := HK1.out; have := HJ9.out; omega
            case rel => exact ⟨(x4_1), (y167), (wrap64 (x11_1 + 1)), rfs, H', ⟨by have := HK1.out; have := HJ9.out; omega⟩, ⟨by (with_reducible repeat (first | apply Kd.R_alloc | apply Kd.R_drewN | apply Kd.R_drew)); exact Kd.R_mono HO_4.out (fun _ hk => hk.2)⟩, roA HO169, bkA BK157, bkA BK158, hbA HB⟩
           ·rw [if_neg c35] at H
            exact absurd H (by simp)
          ·rw [if_neg c34] at H
           have c34b0 : decide (a0_2 ≤ t166) = false := decide_eq_false c34
           clear c34
           have H' := Aside0.mk H
           clear H
           try go_wp2
           replace HO_4 := Aside0.mk (Kd.R_drew HO_4.out)
           replace HO_5 := Aside0.mk (Kd.R_drew HO_5.out)
           replace BK157 := Aside0.mk (blk_drew BK157.out)
           replace BK158 := Aside0.mk (blk_drew BK158.out)
           replace BK160 := Aside0.mk (blk_drew BK160.out)
           replace HB := Aside0.mk (below_drew1 HB.out)
           refine start_ (n := 6) (S := fun w' => w'.cell? ⟨gb160, 0, none⟩ = some (.int .i64 ((rd_T34 l1_1 x11_1).f0)) ∧ w'.cell? ⟨gb160, 1, none⟩ = some (.int .i64 ((rd_T34 l1_1 x11_1).f1)) ∧ w'.cell? ⟨gb157, 0, none⟩ = some (.int .i64 a0_0) ∧ w'.cell? ⟨gb157, 1, none⟩ = some (.int .i64 a0_1) ∧ w'.cell? ⟨gb157, 2, none⟩ = some (.int .i64 a0_2) ∧ w'.cell? ⟨gb157, 3, none⟩ = some (.int .i64 a0_3)) (ds := []) #[false, false, false, false, false, false] (by kernel_rfl) rfl rfl ⟨(blk_cell BK160.out 0).trans rfl, (blk_cell BK160.out 1).trans rfl, (blk_cell BK157.out 0).trans rfl, (blk_cell BK157.out 1).trans rfl, (blk_cell BK157.out 2).trans rfl, (blk_cell BK157.out 3).trans rfl⟩ (fun hHeld => ?_)
           generalize wc.drew = w41 at HO_4 HO_5 BK157 BK158 BK160 HB hHeld ⊢
           refine pure_ (i := 2) (N := some 33) (v := ?_) (a' := ?_) #[false, false, true, false, false, false] rfl rfl (by kernel_rfl) (fun _ _ _ h => h) (Or.inl ⟨by rfl, ?_⟩) ?_ ?_
           rotate_left
           ·intro w'
            go_simp
            with_reducible rfl
           rotate_left
           ·simp only [Act.put, List.setIfInBounds_toArray, List.set_cons_zero, List.set_cons_succ, i64_w, i32_w]
            rfl
           refine take_ (i := 0) (N := some 31) (v := ?_) (a' := ?_) #[true, false, true, false, false, false] rfl rfl (by kernel_rfl) (fun _ _ _ h => h) (Or.inl ⟨by rfl, ?_⟩) hHeld ?_ ?_
           rotate_left
           ·rintro w' ⟨s0, s1, s2, s3, s4, s5⟩
            go_simp
            with_reducible rfl
           rotate_left
           ·simp only [Act.put, List.setIfInBounds_toArray, List.set_cons_zero, List.set_cons_succ, i64_w, i32_w]
            rfl
           refine take_ (i := 3) (N := some 34) (v := ?_) (a' := ?_) #[true, false, true, true, false, false] rfl rfl (by kernel_rfl) (fun _ _ _ h => h) (Or.inl ⟨by rfl, ?_⟩) hHeld ?_ ?_
           rotate_left
           ·rintro w' ⟨s0, s1, s2, s3, s4, s5⟩
            go_simp
            with_reducible rfl
           rotate_left
           ·simp only [Act.put, List.setIfInBounds_toArray, List.set_cons_zero, List.set_cons_succ, i64_w, i32_w]
            rfl
           refine one_ (i := 1) (N := some 32) #[true, true, true, true, false, false] rfl rfl (by kernel_rfl) (by decide) (fun K hK => ?_)
           refine goes_ Try.func43 (by kernel_rfl) rfl #[.agg #[.int .i64 ((rd_T34 l1_1 x11_1).f0), .int .i64 ((rd_T34 l1_1 x11_1).f1)]] (by rfl) rfl rfl sma ?_
           with_reducible refine (quality_rate.calls ((rd_T34 l1_1 x11_1).f0) ((rd_T34 l1_1 x11_1).f1) t162 _ A27.out).mono ?_
           rintro e w42 ⟨rfl, hb⟩
           refine ⟨_, rfl, ?_⟩
           replace HO_4 := rB HO_4 hb
           replace HO_5 := rB HO_5 hb
           replace BK157 := bkB BK157 hb
           replace BK158 := bkB BK158 hb
           replace BK160 := bkB BK160 hb
           replace HB := hbS HB hb
           (try clear hb)
           refine hK.out _ _ ⟨(blk_cell BK160.out 0).trans rfl, (blk_cell BK160.out 1).trans rfl, (blk_cell BK157.out 0).trans rfl, (blk_cell BK157.out 1).trans rfl, (blk_cell BK157.out 2).trans rfl, (blk_cell BK157.out 3).trans rfl⟩ (fun hHeld => ?_)
           clear hK K
           refine nrm (some 32) ?_
           refine pure_ (i := 4) (N := some 35) (v := ?_) (a' := ?_) #[true, true, true, true, true, false] rfl rfl (by kernel_rfl) (fun _ _ _ h => h) (Or.inl ⟨by rfl, ?_⟩) ?_ ?_
           rotate_left
           ·intro w'
            go_simp
            with_reducible rfl
           rotate_left
           ·simp only [Act.put, List.setIfInBounds_toArray, List.set_cons_zero, List.set_cons_succ, i64_w, i32_w]
            rfl
           refine pure_ (i := 5) (N := some 30) (v := ?_) (a' := ?_) #[true, true, true, true, true, true] rfl rfl (by kernel_rfl) (fun _ _ _ h => h) (Or.inl ⟨by rfl, ?_⟩) ?_ ?_
           rotate_left
           ·intro w'
            go_simp
            with_reducible rfl
           rotate_left
           ·simp only [Act.put, List.setIfInBounds_toArray, List.set_cons_zero, List.set_cons_succ, i64_w, i32_w]
            rfl
           refine done_ (by kernel_rfl) ?_
           try go_wp2
           replace HO_4 := Aside0.mk (Kd.R_drew HO_4.out)
           replace HO_5 := Aside0.mk (Kd.R_drew HO_5.out)
           replace BK157 := Aside0.mk (blk_drew BK157.out)
           replace BK158 := Aside0.mk (blk_drew BK158.out)
           replace BK160 := Aside0.mk (blk_drew BK160.out)
           replace HB := Aside0.mk (below_drew1 HB.out)
           refine start_ (n := 6) (S := fun w' => w'.cell? ⟨gb160, 0, none⟩ = some (.int .i64 ((rd_T34 l1_1 x11_1).f0)) ∧ w'.cell? ⟨gb160, 1, none⟩ = some (.int .i64 ((rd_T34 l1_1 x11_1).f1)) ∧ w'.cell? ⟨gb157, 0, none⟩ = some (.int .i64 a0_0) ∧ w'.cell? ⟨gb157, 1, none⟩ = some (.int .i64 a0_1) ∧ w'.cell? ⟨gb157, 2, none⟩ = some (.int .i64 a0_2) ∧ w'.cell? ⟨gb157, 3, none⟩ = some (.int .i64 a0_3)) (ds := []) #[false, false, false, false, false, false] (by kernel_rfl) rfl rfl ⟨(blk_cell BK160.out 0).trans rfl, (blk_cell BK160.out 1).trans rfl, (blk_cell BK157.out 0).trans rfl, (blk_cell BK157.out 1).trans rfl, (blk_cell BK157.out 2).trans rfl, (blk_cell BK157.out 3).trans rfl⟩ (fun hHeld => ?_)
           generalize w42.drew = w43 at HO_4 HO_5 BK157 BK158 BK160 HB hHeld ⊢
           refine pure_ (i := 2) (N := some 43) (v := ?_) (a' := ?_) #[false, false, true, false, false, false] rfl rfl (by kernel_rfl) (fun _ _ _ h => h) (Or.inl ⟨by rfl, ?_⟩) ?_ ?_
           rotate_left
           ·intro w'
            go_simp
            with_reducible rfl
           rotate_left
           ·simp only [Act.put, List.setIfInBounds_toArray, List.set_cons_zero, List.set_cons_succ, i64_w, i32_w]
            rfl
           refine take_ (i := 0) (N := some 41) (v := ?_) (a' := ?_) #[true, false, true, false, false, false] rfl rfl (by kernel_rfl) (fun _ _ _ h => h) (Or.inl ⟨by rfl, ?_⟩) hHeld ?_ ?_
           rotate_left
           ·rintro w' ⟨s0, s1, s2, s3, s4, s5⟩
            go_simp
            with_reducible rfl
           rotate_left
           ·simp only [Act.put, List.setIfInBounds_toArray, List.set_cons_zero, List.set_cons_succ, i64_w, i32_w]
            rfl
           refine take_ (i := 3) (N := some 44) (v := ?_) (a' := ?_) #[true, false, true, true, false, false] rfl rfl (by kernel_rfl) (fun _ _ _ h => h) (Or.inl ⟨by rfl, ?_⟩) hHeld ?_ ?_
           rotate_left
           ·rintro w' ⟨s0, s1, s2, s3, s4, s5⟩
            go_simp
            with_reducible rfl
           rotate_left
           ·simp only [Act.put, List.setIfInBounds_toArray, List.set_cons_zero, List.set_cons_succ, i64_w, i32_w]
            rfl
           refine one_ (i := 1) (N := some 42) #[true, true, true, true, false, false] rfl rfl (by kernel_rfl) (by decide) (fun K hK => ?_)
           refine goes_ Try.func43 (by kernel_rfl) rfl #[.agg #[.int .i64 ((rd_T34 l1_1 x11_1).f0), .int .i64 ((rd_T34 l1_1 x11_1).f1)]] (by rfl) rfl rfl sma ?_
           with_reducible refine (quality_rate.calls ((rd_T34 l1_1 x11_1).f0) ((rd_T34 l1_1 x11_1).f1) t166 _ A33.out).mono ?_
           rintro e w44 ⟨rfl, hb⟩
           refine ⟨_, rfl, ?_⟩
           replace HO_4 := rB HO_4 hb
           replace HO_5 := rB HO_5 hb
           replace BK157 := bkB BK157 hb
           replace BK158 := bkB BK158 hb
           replace BK160 := bkB BK160 hb
           replace HB := hbS HB hb
           (try clear hb)
           refine hK.out _ _ ⟨(blk_cell BK160.out 0).trans rfl, (blk_cell BK160.out 1).trans rfl, (blk_cell BK157.out 0).trans rfl, (blk_cell BK157.out 1).trans rfl, (blk_cell BK157.out 2).trans rfl, (blk_cell BK157.out 3).trans rfl⟩ (fun hHeld => ?_)
           clear hK K
           refine nrm (some 42) ?_
           refine pure_ (i := 4) (N := some 45) (v := ?_) (a' := ?_) #[true, true, true, true, true, false] rfl rfl (by kernel_rfl) (fun _ _ _ h => h) (Or.inl ⟨by rfl, ?_⟩) ?_ ?_
           rotate_left
           ·intro w'
            go_simp
            with_reducible rfl
           rotate_left
           ·simp only [Act.put, List.setIfInBounds_toArray, List.set_cons_zero, List.set_cons_succ, i64_w, i32_w]
            rfl
           refine pure_ (i := 5) (N := some 40) (v := ?_) (a' := ?_) #[true, true, true, true, true, true] rfl rfl (by kernel_rfl) (fun _ _ _ h => h) (Or.inl ⟨by rfl, ?_⟩) ?_ ?_
           rotate_left
           ·intro w'
            go_simp
            with_reducible rfl
           rotate_left
           ·simp only [Act.put, List.setIfInBounds_toArray, List.set_cons_zero, List.set_cons_succ, i64_w, i32_w]
            rfl
           refine done_ (by kernel_rfl) ?_
           try go_wp2
           go_roundg kj9
           case measure => have := HK1.out; have := HJ9.out; omega
           case rel => exact ⟨(x4_1), (x5_1), (wrap64 (x11_1 + 1)), rfs, H', ⟨by have := HK1.out; have := HJ9.out; omega⟩, roA HO_4, roA HO_5, bkA BK157, bkA BK158, hbA HB⟩
     ·rw [if_neg c9] at H
      exact absurd H (by simp)
    ·rw [if_neg c8] at H
     exact absurd H (by simp)
   ·rw [if_neg c7] at H
    have c7b0 : decide (x11_1 < (l1_1.length : Int)) = false := decide_eq_false c7
    clear c7
    by_cases c45 : (x4_1.length : Int) ≤ 1
    ·rw [if_pos c45] at H
     have c45b0 := eq_true c45
     have c45b1 : decide ((x4_1.length : Int) ≤ 1) = true := decide_eq_true c45
     clear c45
     simp only [Option.some.injEq, Prod.mk.injEq] at H
     obtain ⟨rfl, rfl⟩ := H
     obtain ⟨Ao47, co47, eo47⟩ := Kd.R_slice HO_4.out
     subst eo47
     have hl46 := Aside0.mk (show x4_1.length ≤ 1 from by have h_ : ((x4_1.length : Int) : Int) ≤ 1 := pos_; omega)
     go_wp2_with (first | ((with_reducible refine gate_callee (f := 55) rfl ?_); refine goesL_ (some 53) rfl rfl Try.func55 (by kernel_rfl) rfl #[.slice Ao47 x4_1.length co47, .func (.func 56) #[] #[.pointer (some ⟨gb158, 0, none⟩)]] rfl (by (try simp only [List.map_toArray, List.map_cons, List.map_nil]); first | done | rfl) ?_; (with_reducible refine (sort_one.calls _ _ _ _ _ hl46.out).mono ?_); rintro e_ w_ ⟨rfl, hw_⟩; refine ⟨_, rfl, ?_⟩; rw [hw_]; clear hw_ w_))
     go_ret2
     exact ⟨_, _, rerr, ro HO_4, ro HO_5, hbx HB⟩
    ·rw [if_neg c45] at H
     exact absurd H (by simp)
end Go.Proofs.Ytnipgplobipeeaa.PQ
