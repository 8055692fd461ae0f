-- Printed by fprint.py and zip.py, programs of this session's, over the kit's print; Lean checks it.
import Derived.Test.YtnipgplobipeeaaZ0
import Derived.Test.YtnipgplobipeeaaZf24
import Derived.Test.YtnipgplobipeeaaZf12
import Derived.Test.YtnipgplobipeeaaZf17
import Derived.Test.YtnipgplobipeeaaZf47
namespace Go.Proofs.Ytnipgplobipeeaa.PQ
open Go.RowKit Go.Proofs.YtnipgplobipeeaaW.PrintWords Go.Proofs.YtnipgplobipeeaaW.PrintLast Go.Proofs.YtnipgplobipeeaaW.PrintMore
attribute [local go_sem] max2_int min2_int max_two min_two max_three min_three max_four min_four   -- for this text's walks alone
set_option linter.unusedVariables false
set_option linter.unusedSimpArgs false
mutual
def quality_Merge.j0 : Nat → Bool → Int → List (S34) → List Int → List Int → Int → List (S34) → List Int → List Int → Option (Int × (List (S34)) × List Int × List Int × Int)
 | 0, _, _, _, _, _, _, _, _, _ => none
 | k + 1, x8, x449000, x449001, x449002, x449003, x450000, x450001, x450002, x450003 => if x8 = true then (some (0, ([] : List (S34)), ([] : List Int), ([] : List Int), 1)) else (if x449000 = x450000 then ((slices_Equal_int_int.f k x449002 x450002).bind fun t453 => (if t453 = true then ((slices_Equal_int_int.f k x449003 x450003).bind fun t454 => (if t454 = true then ((quality_clone.f x449000 x449001 x449002 x449003).bind fun bt455 => (quality_Merge.l0 k (bt455.2.1.length : Int) 0 x450000 x450001 x450002 x450003 bt455.1 bt455.2.1 bt455.2.2.1 bt455.2.2.2)) else (some (0, ([] : List (S34)), ([] : List Int), ([] : List Int), 11)))) else (some (0, ([] : List (S34)), ([] : List Int), ([] : List Int), 11)))) else (some (0, ([] : List (S34)), ([] : List Int), ([] : List Int), 11)))
def quality_Merge.l0 : Nat → Int → Int → Int → List (S34) → List Int → List Int → Int → List (S34) → List Int → List Int → Option (Int × (List (S34)) × List Int × List Int × Int)
 | 0, _, _, _, _, _, _, _, _, _, _ => none
 | k + 1, x45, x46, x450000, x450001, x450002, x450003, x466000, x466001, x466002, x466003 => if x46 < x45 then (if 0 ≤ x46 then (if x46 < (x466001.length : Int) then (if x46 < (x450001.length : Int) then ((some (x466001.set (x46 : Int).toNat (⟨wrap64 (((rd_T34 x466001 x46).f0) + ((rd_T34 x450001 x46).f0)), (rd_T34 x466001 x46).f1⟩ : S34) : List (S34))).bind fun y468 => ((quality_Check.f ((rd_T34 y468 x46).f0) (wrap64 (((rd_T34 y468 x46).f1) + ((rd_T34 x450001 x46).f1)))).bind fun t473 => (if t473 = 0 then (quality_Merge.l0 k x45 (wrap64 (x46 + 1)) x450000 x450001 x450002 x450003 x466000 (y468.set (x46 : Int).toNat (⟨(rd_T34 y468 x46).f0, wrap64 (((rd_T34 y468 x46).f1) + ((rd_T34 x450001 x46).f1))⟩ : S34)) x466002 x466003) else (some (0, ([] : List (S34)), ([] : List Int), ([] : List Int), 13))))) else (none)) else (none)) else (none)) else (some (x466000, x466001, x466002, x466003, 0))
end
def quality_Merge.f (k : Nat) (a0_0 : Int) (l0_1 : List (S34)) (l0_2 : List Int) (l0_3 : List Int) (a1_0 : Int) (l1_1 : List (S34)) (l1_2 : List Int) (l1_3 : List Int) : Option (Int × (List (S34)) × List Int × List Int × Int) := (quality_Valid.f k a0_0 l0_1 l0_2 l0_3).bind fun t451 => (if t451 = 0 then ((quality_Valid.f k a1_0 l1_1 l1_2 l1_3).bind fun t452 => (quality_Merge.j0 k (t452 != 0) a0_0 l0_1 l0_2 l0_3 a1_0 l1_1 l1_2 l1_3)) else (quality_Merge.j0 k true a0_0 l0_1 l0_2 l0_3 a1_0 l1_1 l1_2 l1_3))
theorem quality_Merge.mono_l : ∀ k, (∀ y0 y1 y2 y3 y4 y5 y6 y7 y8, LeO (quality_Merge.j0 k y0 y1 y2 y3 y4 y5 y6 y7 y8) (quality_Merge.j0 (k + 1) y0 y1 y2 y3 y4 y5 y6 y7 y8)) ∧ (∀ y0 y1 y2 y3 y4 y5 y6 y7 y8 y9, LeO (quality_Merge.l0 k y0 y1 y2 y3 y4 y5 y6 y7 y8 y9) (quality_Merge.l0 (k + 1) y0 y1 y2 y3 y4 y5 y6 y7 y8 y9))
 | 0 => ⟨fun _ _ _ _ _ _ _ _ _ r h => by simp [quality_Merge.j0] at h, fun _ _ _ _ _ _ _ _ _ _ r h => by simp [quality_Merge.l0] at h⟩
 | k + 1 => by
  obtain ⟨ih0, ih1⟩ := quality_Merge.mono_l k
  refine ⟨?_, ?_⟩
  ·intro y0 y1 y2 y3 y4 y5 y6 y7 y8
   unfold quality_Merge.j0
   repeat' first
   | (with_reducible exact ih0 _ _ _ _ _ _ _ _ _)
   | (with_reducible exact ih1 _ _ _ _ _ _ _ _ _ _)
   | (with_reducible exact quality_Valid.mono _ _ _ _ _)
   | (with_reducible exact slices_Equal_int_int.mono _ _ _)
   | (with_reducible exact LeO.refl _)
   | (with_reducible exact LeO.none _)
   | (with_reducible refine LeO.ite ?_ ?_)
   | (with_reducible refine LeO.bind ?_ (fun _ => ?_))
   | exact ih0 _ _ _ _ _ _ _ _ _
   | exact ih1 _ _ _ _ _ _ _ _ _ _
   | exact quality_Valid.mono _ _ _ _ _
   | exact slices_Equal_int_int.mono _ _ _
   | exact LeO.none _
   | refine LeO.ite ?_ ?_
   | refine LeO.bind ?_ (fun _ => ?_)
  ·intro y0 y1 y2 y3 y4 y5 y6 y7 y8 y9
   unfold quality_Merge.l0
   repeat' first
   | (with_reducible exact ih0 _ _ _ _ _ _ _ _ _)
   | (with_reducible exact ih1 _ _ _ _ _ _ _ _ _ _)
   | (with_reducible exact quality_Valid.mono _ _ _ _ _)
   | (with_reducible exact slices_Equal_int_int.mono _ _ _)
   | (with_reducible exact LeO.refl _)
   | (with_reducible exact LeO.none _)
   | (with_reducible refine LeO.ite ?_ ?_)
   | (with_reducible refine LeO.bind ?_ (fun _ => ?_))
   | exact ih0 _ _ _ _ _ _ _ _ _
   | exact ih1 _ _ _ _ _ _ _ _ _ _
   | exact quality_Valid.mono _ _ _ _ _
   | exact slices_Equal_int_int.mono _ _ _
   | exact LeO.none _
   | refine LeO.ite ?_ ?_
   | refine LeO.bind ?_ (fun _ => ?_)
theorem quality_Merge.mono : ∀ a0 a1 a2 a3 a4 a5 a6 a7 k, LeO (quality_Merge.f k a0 a1 a2 a3 a4 a5 a6 a7) (quality_Merge.f (k + 1) a0 a1 a2 a3 a4 a5 a6 a7) := by
 intro a0 a1 a2 a3 a4 a5 a6 a7 k
 obtain ⟨ih0, ih1⟩ := quality_Merge.mono_l k
 unfold quality_Merge.f
 repeat' first
  | (with_reducible exact ih0 _ _ _ _ _ _ _ _ _)
  | (with_reducible exact ih1 _ _ _ _ _ _ _ _ _ _)
  | (with_reducible exact quality_Valid.mono _ _ _ _ _)
  | (with_reducible exact slices_Equal_int_int.mono _ _ _)
  | (with_reducible exact LeO.refl _)
  | (with_reducible exact LeO.none _)
  | (with_reducible refine LeO.ite ?_ ?_)
  | (with_reducible refine LeO.bind ?_ (fun _ => ?_))
  | exact ih0 _ _ _ _ _ _ _ _ _
  | exact ih1 _ _ _ _ _ _ _ _ _ _
  | exact quality_Valid.mono _ _ _ _ _
  | exact slices_Equal_int_int.mono _ _ _
  | exact LeO.none _
  | refine LeO.ite ?_ ?_
  | refine LeO.bind ?_ (fun _ => ?_)
def quality_Merge.T9 : Bool × List (List Nat × List Nat) := (true, [([], []), ([0], [0]), ([], []), ([1, 2], [1, 2]), ([3], [3]), ([4], [4]), ([], []), ([6], [6]), ([], []), ([7, 8], [7, 8]), ([9], [9]), ([10], [10]), ([5, 11], [5, 11]), ([1, 2, 0, 1, 2, 3, 4, 5, 6, 7, 8, 9, 10, 11, 12], [1, 2]), ([13, 0, 1, 2, 3, 4, 5, 6, 7, 8, 9, 10, 11, 12], [13]), ([14, 12, 0, 1, 2, 3, 4, 5, 6, 7, 8, 9, 10, 11, 12], [12, 14])])
def quality_Merge.B9 : List Nat := [0, 1, 0, 7, 15, 31, 0, 64, 0, 448, 960, 1984, 4095, 8191, 16383, 32767]
theorem quality_Merge.tab9 : rtab .any (opsOf Try.f28 9) = quality_Merge.T9 := by kernel_rfl
theorem quality_Merge.bits9 : waitsOk quality_Merge.T9.2 quality_Merge.B9 = true := by kernel_rfl
def quality_Merge.T10 : Bool × List (List Nat × List Nat) := (true, [([], []), ([0], [0]), ([], []), ([1, 2], [1, 2]), ([3], [3]), ([4], [4]), ([], []), ([6], [6]), ([], []), ([7, 8], [7, 8]), ([9], [9]), ([10], [10]), ([5, 11], [5, 11]), ([1, 2, 0, 1, 2, 3, 4, 5, 6, 7, 8, 9, 10, 11, 12], [1, 2]), ([13, 0, 1, 2, 3, 4, 5, 6, 7, 8, 9, 10, 11, 12], [13]), ([14, 12, 0, 1, 2, 3, 4, 5, 6, 7, 8, 9, 10, 11, 12], [12, 14])])
def quality_Merge.B10 : List Nat := [0, 1, 0, 7, 15, 31, 0, 64, 0, 448, 960, 1984, 4095, 8191, 16383, 32767]
theorem quality_Merge.tab10 : rtab .any (opsOf Try.f28 10) = quality_Merge.T10 := by kernel_rfl
theorem quality_Merge.bits10 : waitsOk quality_Merge.T10.2 quality_Merge.B10 = true := by kernel_rfl
set_option maxHeartbeats 8000000 in
set_option maxRecDepth 100000 in
theorem quality_Merge.calls (k : Nat) (a0_0 : Int) (A0_1 : Option Addr) (c0_1 : Nat) (l0_1 : List (S34)) (A0_2 : Option Addr) (c0_2 : Nat) (l0_2 : List Int) (A0_3 : Option Addr) (c0_3 : Nat) (l0_3 : List Int) (a1_0 : Int) (A1_1 : Option Addr) (c1_1 : Nat) (l1_1 : List (S34)) (A1_2 : Option Addr) (c1_2 : Nat) (l1_2 : List Int) (A1_3 : Option Addr) (c1_3 : Nat) (l1_3 : List Int) (r1 : Int) (r2 : List (S34)) (r3 : List Int) (r4 : List Int) (r5 : Int) (w : World) (hr0_1 : Kd.C k34 w A0_1 l0_1.length l0_1) (hc0_1 : l0_1.length ≤ c0_1) (hr0_2 : Kd.C (Kd.int .i64) w A0_2 l0_2.length l0_2) (hc0_2 : l0_2.length ≤ c0_2) (hr0_3 : Kd.C (Kd.int .i64) w A0_3 l0_3.length l0_3) (hc0_3 : l0_3.length ≤ c0_3) (hr1_1 : Kd.C k34 w A1_1 l1_1.length l1_1) (hc1_1 : l1_1.length ≤ c1_1) (hr1_2 : Kd.C (Kd.int .i64) w A1_2 l1_2.length l1_2) (hc1_2 : l1_2.length ≤ c1_2) (hr1_3 : Kd.C (Kd.int .i64) w A1_3 l1_3.length l1_3) (hc1_3 : l1_3.length ≤ c1_3) (h : quality_Merge.f k a0_0 l0_1 l0_2 l0_3 a1_0 l1_1 l1_2 l1_3 = some (r1, r2, r3, r4, r5)) :
 Calls Try.prog 28 #[.agg #[.int .i64 a0_0, .slice A0_1 l0_1.length c0_1, .slice A0_2 l0_2.length c0_2, .slice A0_3 l0_3.length c0_3], .agg #[.int .i64 a1_0, .slice A1_1 l1_1.length c1_1, .slice A1_2 l1_2.length c1_2, .slice A1_3 l1_3.length c1_3]] w fun e w' => ∃ v1_ v2_ v3_ : Value, e = .returned (.tuple #[.agg #[.int .i64 r1, v1_, v2_, v3_], .int .i64 r5]) ∧ Kd.R k34 34 w' w.heap.size (fun _ => True) v1_ r2 ∧ Kd.R (Kd.int .i64) 3 w' w.heap.size (fun k_ => some k_ ≠ (v3_ : Value).ownBlock) v2_ r3 ∧ Kd.R (Kd.int .i64) 3 w' w.heap.size (fun k_ => some k_ ≠ (v2_ : Value).ownBlock) v3_ r4 ∧ Below w.heap.size w w' := by
 have hu25 := Try.underlying25
 have hu34 := Try.underlying34
 have HR0_1 := Aside0.mk hr0_1
 have HC0_1 := Aside0.mk hc0_1
 clear hr0_1 hc0_1
 have HR0_2 := Aside0.mk hr0_2
 have HC0_2 := Aside0.mk hc0_2
 clear hr0_2 hc0_2
 have HR0_3 := Aside0.mk hr0_3
 have HC0_3 := Aside0.mk hc0_3
 clear hr0_3 hc0_3
 have HR1_1 := Aside0.mk hr1_1
 have HC1_1 := Aside0.mk hc1_1
 clear hr1_1 hc1_1
 have HR1_2 := Aside0.mk hr1_2
 have HC1_2 := Aside0.mk hc1_2
 clear hr1_2 hc1_2
 have HR1_3 := Aside0.mk hr1_3
 have HC1_3 := Aside0.mk hc1_3
 clear hr1_3 hc1_3
 have HB := Aside0.mk (Below.refl w.heap.size w)
 have H : ((quality_Valid.f k a0_0 l0_1 l0_2 l0_3).bind fun t451 => (if t451 = 0 then ((quality_Valid.f k a1_0 l1_1 l1_2 l1_3).bind fun t452 => (quality_Merge.j0 k (t452 != 0) a0_0 l0_1 l0_2 l0_3 a1_0 l1_1 l1_2 l1_3)) else (quality_Merge.j0 k true a0_0 l0_1 l0_2 l0_3 a1_0 l1_1 l1_2 l1_3))) = some (r1, r2, r3, r4, r5) := h
 clear h
 have HC3 := Aside0.mk H
 clear H
 go_enter Try.func28, Try.ntmps28
 go_upto_region 1 with (first | ((with_reducible refine gate_dst (N := 2) rfl ?_); refine boxE 2 #[.int .i64 a0_0, .slice A0_1 l0_1.length c0_1, .slice A0_2 l0_2.length c0_2, .slice A0_3 l0_3.length c0_3] 25 ?_; intro gb448 hg w4 hbox hb; have BK448 := Aside0.mk (hbox); have GW448 := gw hg HB; have GE448 := gw hg HB; replace HB := hbS HB hb; clear hb hbox hg) | ((with_reducible refine gate_dst (N := 3) rfl ?_); refine boxE 3 #[.int .i64 a1_0, .slice A1_1 l1_1.length c1_1, .slice A1_2 l1_2.length c1_2, .slice A1_3 l1_3.length c1_3] 25 ?_; intro gb449 hg w5 hbox hb; have BK449 := Aside0.mk (hbox); have GW449 := gw hg HB; have GE449 := gw hg HB; replace HB := hbS HB hb; have NB448_449 := nbl hg BK448; have NB449_448 := nbg hg BK448; replace BK448 := bkB BK448 hb; clear hb hbox hg) | ((with_reducible refine gate_dst (N := 4) rfl ?_); refine boxE 4 #[.int .i64 0, .slice none 0 0, .slice none 0 0, .slice none 0 0] 25 ?_; intro gb450 hg w6 hbox hb; have BK450 := Aside0.mk (hbox); have GW450 := gw hg HB; have GE450 := gw hg HB; replace HB := hbS HB hb; have NB448_450 := nbl hg BK448; have NB450_448 := nbg hg BK448; replace BK448 := bkB BK448 hb; have NB449_450 := nbl hg BK449; have NB450_449 := nbg hg BK449; replace BK449 := bkB BK449 hb; clear hb hbox hg))
 (try simp only [Act.put, List.setIfInBounds_toArray, List.set_cons_zero, List.set_cons_succ])
 go_cut [8] (fun v8 wc => ∃ (kq : Nat) (x8_2 : Bool), v8 = .bool x8_2 ∧ Aside0 (quality_Merge.j0 kq x8_2 a0_0 l0_1 l0_2 l0_3 a1_0 l1_1 l1_2 l1_3 = some (r1, r2, r3, r4, r5)) ∧ Aside0 (kq ≤ k) ∧ Aside0 (wc.heap[gb448]? = some (.cells #[.int .i64 a0_0, (.slice A0_1 l0_1.length c0_1), (.slice A0_2 l0_2.length c0_2), (.slice A0_3 l0_3.length c0_3)] 25 (0, 0))) ∧ Aside0 (wc.heap[gb449]? = some (.cells #[.int .i64 a1_0, (.slice A1_1 l1_1.length c1_1), (.slice A1_2 l1_2.length c1_2), (.slice A1_3 l1_3.length c1_3)] 25 (0, 0))) ∧ Aside0 (wc.heap[gb450]? = some (.cells #[.int .i64 0, (.slice none 0 0), (.slice none 0 0), (.slice none 0 0)] 25 (0, 0))) ∧ Aside0 (Below w.heap.size w wc))
 case first =>
  have H := HC3.out
  clear HC3
  replace H := Option.bind_eq_some_iff.mp H
  obtain ⟨t451, A70, H⟩ := H
  (try dsimp only at H)
  have A7 := Aside0.mk A70
  clear A70
  by_cases c8 : t451 = 0
  ·rw [if_pos c8] at H
   have c8b0 : (t451 == 0) = true := beq_iff_eq.mpr c8
   have c8b1 : (t451 != 0) = false := bne_eq_false_iff_eq.mpr c8
   clear c8
   (first | rw [c8b0] | (simp only [i64_w, i32_w]; rw [c8b0]) | skip)
   replace H := Option.bind_eq_some_iff.mp H
   obtain ⟨t452, A90, H⟩ := H
   (try dsimp only at H)
   have A9 := Aside0.mk A90
   clear A90
   have H' := Aside0.mk H
   clear H
   have hnb10 := NB448_449.out
   have hnc10 := NB449_448.out
   have hnb11 := NB448_450.out
   have hnc11 := NB450_448.out
   obtain ⟨z0, z1, z2, z3, y0, y1, y2, y3⟩ := bc4 BK448
   go_wp2_with (first | ((with_reducible refine gate_callee (f := 12) rfl ?_); refine goesL_ (some 10) rfl rfl Try.func12 (by kernel_rfl) rfl #[.agg #[.int .i64 a0_0, .slice A0_1 l0_1.length c0_1, .slice A0_2 l0_2.length c0_2, .slice A0_3 l0_3.length c0_3]] rfl sma ?_; (with_reducible refine (quality_Valid.calls k a0_0 _ _ l0_1 _ _ l0_2 _ _ l0_3 t451 _ (cb HR0_1 HB) HC0_1.out (cb HR0_2 HB) HC0_2.out (cb HR0_3 HB) HC0_3.out A7.out).mono ?_); rintro e w13 ⟨rfl, hb⟩; refine ⟨_, rfl, ?_⟩; replace BK448 := bkB BK448 hb; replace BK449 := bkB BK449 hb; replace BK450 := bkB BK450 hb; replace HB := hbS HB hb; (try clear hb); (try clear hb2); (try clear hk); (try clear hi); have hnb14 := NB449_450.out; have hnc14 := NB450_449.out; obtain ⟨z0, z1, z2, z3, y0, y1, y2, y3⟩ := bc4 BK449) | (go_at_call 12; (with_reducible refine (quality_Valid.calls k a1_0 _ _ l1_1 _ _ l1_2 _ _ l1_3 t452 _ (cb HR1_1 HB) HC1_1.out (cb HR1_2 HB) HC1_2.out (cb HR1_3 HB) HC1_3.out A9.out).mono ?_); rintro e w16 ⟨rfl, hb⟩; replace BK448 := bkB BK448 hb; replace BK449 := bkB BK449 hb; replace BK450 := bkB BK450 hb; replace HB := hbS HB hb; (try clear hb); (try clear hb2); (try clear hk); (try clear hi)))
   go_meet
   case rel => exact ⟨_, ((t452 != 0)), rfs, H', kle, bkA BK448, bkA BK449, bkA BK450, hbA HB⟩
  ·rw [if_neg c8] at H
   have c8b0 : (t451 == 0) = false := beq_eq_false_iff_ne.mpr c8
   have c8b1 : (t451 != 0) = true := bne_iff_ne.mpr c8
   (first | rw [c8b0] | (simp only [i64_w, i32_w]; rw [c8b0]) | skip)
   have H' := Aside0.mk H
   clear H
   have hnb17 := NB448_449.out
   have hnc17 := NB449_448.out
   have hnb18 := NB448_450.out
   have hnc18 := NB450_448.out
   obtain ⟨z0, z1, z2, z3, y0, y1, y2, y3⟩ := bc4 BK448
   go_wp2_with (first | ((with_reducible refine gate_callee (f := 12) rfl ?_); refine goesL_ (some 10) rfl rfl Try.func12 (by kernel_rfl) rfl #[.agg #[.int .i64 a0_0, .slice A0_1 l0_1.length c0_1, .slice A0_2 l0_2.length c0_2, .slice A0_3 l0_3.length c0_3]] rfl sma ?_; (with_reducible refine (quality_Valid.calls k a0_0 _ _ l0_1 _ _ l0_2 _ _ l0_3 t451 _ (cb HR0_1 HB) HC0_1.out (cb HR0_2 HB) HC0_2.out (cb HR0_3 HB) HC0_3.out A7.out).mono ?_); rintro e w20 ⟨rfl, hb⟩; refine ⟨_, rfl, ?_⟩; replace BK448 := bkB BK448 hb; replace BK449 := bkB BK449 hb; replace BK450 := bkB BK450 hb; replace HB := hbS HB hb; (try clear hb); (try clear hb2); (try clear hk); (try clear hi)))
   go_meet
   case rel => exact ⟨_, (true), rfs, H', kle, bkA BK448, bkA BK449, bkA BK450, hbA HB⟩
 case rest =>
  clear HC3
  obtain ⟨kq, x8_2, rfl, HA, HJ2, BK448, BK449, BK450, HB⟩ := hcut
  cases kq with
  | zero => exact absurd HA.out (by simp [quality_Merge.j0])
  | succ kj2 =>
   have H := HA.out
   clear HA
   simp only [quality_Merge.j0] at H
   by_cases c21 : x8_2 = true
   ·subst c21
    rw [if_pos rfl] at H
    simp only [Option.some.injEq, Prod.mk.injEq] at H
    obtain ⟨rfl, rfl, rfl, rfl, rfl⟩ := H
    have hnb22 := NB450_448.out
    have hnc22 := NB448_450.out
    have hnb23 := NB450_449.out
    have hnc23 := NB449_450.out
    obtain ⟨z0, z1, z2, z3, y0, y1, y2, y3⟩ := bc4 BK450
    go_wp2
    refine bodyPost_ret (results_ct rfl _ _ gb450 25 #[.int .i64 0, .slice none 0 0, .slice none 0 0, .slice none 0 0] (0, 0) _ rfl (bkp BK450) Try.underlying25 rfl (by kernel_rfl)) rfl ?_
    exact ⟨_, _, _, rerr, rnil, rnil, rnil, hbx HB⟩
   ·replace c21 := Bool.eq_false_iff.mpr c21
    subst c21
    rw [if_neg (show ¬ (false = true) by decide)] at H
    by_cases c25 : a0_0 = a1_0
    ·rw [if_pos c25] at H
     have c25b0 : (a0_0 == a1_0) = true := beq_iff_eq.mpr c25
     have c25b1 : (a0_0 != a1_0) = false := bne_eq_false_iff_eq.mpr c25
     clear c25
     replace H := Option.bind_eq_some_iff.mp H
     obtain ⟨t453, A260, H⟩ := H
     (try dsimp only at H)
     have A26 := Aside0.mk A260
     clear A260
     by_cases c27 : t453 = true
     ·subst c27
      rw [if_pos rfl] at H
      replace H := Option.bind_eq_some_iff.mp H
      obtain ⟨t454, A280, H⟩ := H
      (try dsimp only at H)
      have A28 := Aside0.mk A280
      clear A280
      by_cases c29 : t454 = true
      ·subst c29
       rw [if_pos rfl] at H
       replace H := Option.bind_eq_some_iff.mp H
       obtain ⟨⟨t455, t456, t459, t462⟩, A300, H⟩ := H
       (try dsimp only at H)
       have A30 := Aside0.mk A300
       clear A300
       have H' := Aside0.mk H
       clear H
       have hnb31 := NB448_449.out
       have hnc31 := NB449_448.out
       have hnb32 := NB448_450.out
       have hnc32 := NB450_448.out
       obtain ⟨z0, z1, z2, z3, y0, y1, y2, y3⟩ := bc4 BK448
       have hnb34 := NB449_450.out
       have hnc34 := NB450_449.out
       obtain ⟨z0, z1, z2, z3, y0, y1, y2, y3⟩ := bc4 BK449
       go_wp2_with (first | (go_at_call 17; (with_reducible refine (slices_Equal_int_int.calls kj2 _ _ l0_2 _ _ l1_2 true _ (cb HR0_2 HB) HC0_2.out (cb HR1_2 HB) HC1_2.out A26.out).mono ?_); rintro e w' ⟨rfl, ⟨nd, rfl⟩⟩; (try (rw [drewN_self wc]; generalize hq_ : World.drewN wc _ = wc; replace BK448 := bkq BK448 hq_; replace BK449 := bkq BK449 hq_; replace BK450 := bkq BK450 hq_; replace HB := hbq HB hq_; clear hq_)); obtain ⟨z0, z1, z2, z3, y0, y1, y2, y3⟩ := bc4 BK448; obtain ⟨z0, z1, z2, z3, y0, y1, y2, y3⟩ := bc4 BK449) | (go_at_call 17; (with_reducible refine (slices_Equal_int_int.calls kj2 _ _ l0_3 _ _ l1_3 true _ (cb HR0_3 HB) HC0_3.out (cb HR1_3 HB) HC1_3.out A28.out).mono ?_); rintro e w' ⟨rfl, ⟨nd, rfl⟩⟩; (try (rw [drewN_self wc]; generalize hq_ : World.drewN wc _ = wc; replace BK448 := bkq BK448 hq_; replace BK449 := bkq BK449 hq_; replace BK450 := bkq BK450 hq_; replace HB := hbq HB hq_; clear hq_)); obtain ⟨z0, z1, z2, z3, y0, y1, y2, y3⟩ := bc4 BK448) | ((with_reducible refine gate_callee (f := 47) rfl ?_); refine goesL_ (some 42) rfl rfl Try.func47 (by kernel_rfl) rfl #[.agg #[.int .i64 a0_0, .slice A0_1 l0_1.length c0_1, .slice A0_2 l0_2.length c0_2, .slice A0_3 l0_3.length c0_3]] rfl sma ?_; (with_reducible refine (quality_clone.calls a0_0 _ _ l0_1 _ _ l0_2 _ _ l0_3 t455 t456 t459 t462 _ (cb HR0_1 HB) HC0_1.out (cb HR0_2 HB) HC0_2.out (cb HR0_3 HB) HC0_3.out A30.out).mono ?_); rintro e w39 ⟨v457, v460, v463, rfl, ho0, ho1, ho2, hb⟩; refine ⟨_, rfl, ?_⟩; have HO458 := Aside0.mk (Kd.R_lower ho0 (below_size (hbx HB))); have HO461 := Aside0.mk (Kd.R_lower ho1 (below_size (hbx HB))); have HO464 := Aside0.mk (Kd.R_lower ho2 (below_size (hbx HB))); replace BK448 := bkB BK448 hb; replace BK449 := bkB BK449 hb; replace BK450 := bkB BK450 hb; replace HB := hbS HB hb; (try clear hb); (try clear hb2); (try clear hk); (try clear hi); (try clear ho0); (try clear ho1); (try clear ho2)) | ((with_reducible refine gate_dst (N := 6) rfl ?_); refine boxE 6 #[.int .i64 0, .slice none 0 0, .slice none 0 0, .slice none 0 0] 25 ?_; intro gb465 hg w40 hbox hb; replace HO458 := rB HO458 hb; replace HO461 := rB HO461 hb; replace HO464 := rB HO464 hb; have BK465 := Aside0.mk (hbox); have GW465 := gw hg HB; have GE465 := gw hg HB; replace HB := hbS HB hb; have NB448_465 := nbl hg BK448; have NB465_448 := nbg hg BK448; replace BK448 := bkB BK448 hb; have NB449_465 := nbl hg BK449; have NB465_449 := nbg hg BK449; replace BK449 := bkB BK449 hb; have NB450_465 := nbl hg BK450; have NB465_450 := nbg hg BK450; replace BK450 := bkB BK450 hb; clear hb hbox hg; have hnb41 := NB465_448.out; have hnc41 := NB448_465.out; have hnb42 := NB465_449.out; have hnc42 := NB449_465.out; have hnb43 := NB465_450.out; have hnc43 := NB450_465.out; obtain ⟨z0, z1, z2, z3, y0, y1, y2, y3⟩ := bc4 BK465; obtain ⟨Ao45, co45, eo45⟩ := Kd.R_slice HO458.out; subst eo45; obtain ⟨Ao46, co46, eo46⟩ := Kd.R_slice HO461.out; subst eo46; obtain ⟨Ao47, co47, eo47⟩ := Kd.R_slice HO464.out; subst eo47))
       go_loopg [46] kj2 (fun kq v46 w' => ∃ (x46_2 : Int) (x451000_2 : Int) (x466001_2 : List (S34)), v46 = .int .i64 x46_2 ∧ Aside0 (quality_Merge.l0 kq (t456.length : Int) x46_2 a1_0 l1_1 l1_2 l1_3 t455 x466001_2 t459 t462 = some (r1, r2, r3, r4, r5)) ∧ Aside0 (kq ≤ kj2) ∧ Aside0 (Kd.R k34 34 w' w.heap.size (fun _ => True) (.slice Ao45 t456.length co45) x466001_2) ∧ Aside0 (Kd.R (Kd.int .i64) 3 w' w.heap.size (fun k_ => some k_ ≠ ((.slice Ao47 t462.length co47) : Value).ownBlock) (.slice Ao46 t459.length co46) t459) ∧ Aside0 (Kd.R (Kd.int .i64) 3 w' w.heap.size (fun k_ => some k_ ≠ ((.slice Ao46 t459.length co46) : Value).ownBlock) (.slice Ao47 t462.length co47) t462) ∧ Aside0 (w'.heap[gb448]? = some (.cells #[.int .i64 a0_0, (.slice A0_1 l0_1.length c0_1), (.slice A0_2 l0_2.length c0_2), (.slice A0_3 l0_3.length c0_3)] 25 (0, 0))) ∧ Aside0 (w'.heap[gb449]? = some (.cells #[.int .i64 a1_0, (.slice A1_1 l1_1.length c1_1), (.slice A1_2 l1_2.length c1_2), (.slice A1_3 l1_3.length c1_3)] 25 (0, 0))) ∧ Aside0 (w'.heap[gb450]? = some (.cells #[.int .i64 x451000_2, (.slice none 0 0), (.slice none 0 0), (.slice none 0 0)] 25 (0, 0))) ∧ Aside0 (w'.heap[gb465]? = some (.cells #[.int .i64 t455, (.slice Ao45 t456.length co45), (.slice Ao46 t459.length co46), (.slice Ao47 t462.length co47)] 25 (0, 0))) ∧ Aside0 (Below w.heap.size w w'))
       case atStart => exact ⟨(0), (0), (t456), rfs, H', ⟨Nat.le_refl _⟩, ⟨Kd.R_mono (rty (rfo HO458) BK465) (fun _ hk => trivial)⟩, rfA HO461, rfA HO464, bkfA BK448, bkfA BK449, bkfA BK450, bkpA BK465, hbA HB⟩
       case round =>
        clear H'
        try clear c21
        try clear c25
        try clear c25b0
        try clear c25b1
        try clear c27
        try clear c29
        try clear hcz33_0
        try clear hcz33_1
        try clear hcz33_2
        try clear hcz33_3
        try clear hcz35_0
        try clear hcz35_1
        try clear hcz35_2
        try clear hcz35_3
        try clear hcz36_0
        try clear hcz36_1
        try clear hcz36_2
        try clear hcz36_3
        try clear hcz37_0
        try clear hcz37_1
        try clear hcz37_2
        try clear hcz37_3
        try clear hcz38_0
        try clear hcz38_1
        try clear hcz38_2
        try clear hcz38_3
        try clear hcz44_0
        try clear hcz44_1
        try clear hcz44_2
        try clear hcz44_3
        try clear hfz33_0
        try clear hfz33_1
        try clear hfz33_2
        try clear hfz33_3
        try clear hfz35_0
        try clear hfz35_1
        try clear hfz35_2
        try clear hfz35_3
        try clear hfz36_0
        try clear hfz36_1
        try clear hfz36_2
        try clear hfz36_3
        try clear hfz37_0
        try clear hfz37_1
        try clear hfz37_2
        try clear hfz37_3
        try clear hfz38_0
        try clear hfz38_1
        try clear hfz38_2
        try clear hfz38_3
        try clear hfz44_0
        try clear hfz44_1
        try clear hfz44_2
        try clear hfz44_3
        obtain ⟨x46_2, x451000_2, x466001_2, rfl, HA, HK2, HO_466001, HO_466002, HO_466003, BK448, BK449, BK450, BK465, HB⟩ := hrel
        have hl466001_2 := (Kd.R_reads' HO_466001.out).1
        rw [hl466001_2] at HO_466001
        (try simp only [hl466001_2])
        (try simp only [hl466001_2] at BK448)
        (try simp only [hl466001_2] at BK449)
        (try simp only [hl466001_2] at BK450)
        (try simp only [hl466001_2] at BK465)
        (try simp only [hl466001_2] at HO_466002)
        (try simp only [hl466001_2] at HO_466003)
        cases gk with
        | zero => exact absurd HA.out (by simp [quality_Merge.l0])
        | succ k2 =>
         have H := HA.out
         clear HA
         simp only [quality_Merge.l0] at H
         by_cases c48 : x46_2 < (t456.length : Int)
         ·rw [if_pos c48] at H
          have c48b0 : decide (x46_2 < (t456.length : Int)) = true := decide_eq_true c48
          (try (have c48b0h := c48b0; simp only [hl466001_2] at c48b0h))
          clear c48
          by_cases c49 : 0 ≤ x46_2
          ·rw [if_pos c49] at H
           have c49b0 : decide (0 ≤ x46_2) = true := decide_eq_true c49
           (try (have c49b0h := c49b0; simp only [hl466001_2] at c49b0h))
           clear c49
           by_cases c50 : x46_2 < (x466001_2.length : Int)
           ·rw [if_pos c50] at H
            have c50b0 : decide (x46_2 < (x466001_2.length : Int)) = true := decide_eq_true c50
            (try (have c50b0h := c50b0; simp only [hl466001_2] at c50b0h))
            clear c50
            by_cases c51 : x46_2 < (l1_1.length : Int)
            ·rw [if_pos c51] at H
             have c51b0 : decide (x46_2 < (l1_1.length : Int)) = true := decide_eq_true c51
             (try (have c51b0h := c51b0; simp only [hl466001_2] at c51b0h))
             clear c51
             obtain ⟨y468, hy468⟩ : ∃ y_ : List (S34), y_ = (x466001_2.set (x46_2 : Int).toNat (⟨wrap64 (((rd_T34 x466001_2 x46_2).f0) + ((rd_T34 l1_1 x46_2).f0)), (rd_T34 x466001_2 x46_2).f1⟩ : S34)) := ⟨_, rfl⟩
             replace H : ((quality_Check.f ((rd_T34 y468 x46_2).f0) (wrap64 (((rd_T34 y468 x46_2).f1) + ((rd_T34 l1_1 x46_2).f1)))).bind fun t473 => (if t473 = 0 then (quality_Merge.l0 k2 (t456.length : Int) (wrap64 (x46_2 + 1)) a1_0 l1_1 l1_2 l1_3 t455 (y468.set (x46_2 : Int).toNat (⟨(rd_T34 y468 x46_2).f0, wrap64 (((rd_T34 y468 x46_2).f1) + ((rd_T34 l1_1 x46_2).f1))⟩ : S34)) t459 t462) else (some (0, ([] : List (S34)), ([] : List Int), ([] : List Int), 13)))) = some (r1, r2, r3, r4, r5) := by first | (rw [hy468]; with_reducible exact H) | (have H2_ := (Option.bind_some _ _).symm.trans H; rw [hy468]; with_reducible exact H2_) | (have H2_ := (Option.bind_some _ _).symm.trans H; with_reducible exact H2_) | with_reducible exact H | (rw [hy468]; exact H) | exact H
             have Ny468 := Aside0.mk hy468
             clear hy468
             obtain ⟨y471, hy471⟩ : ∃ y_ : List (S34), y_ = (y468.set (x46_2 : Int).toNat (⟨(rd_T34 y468 x46_2).f0, wrap64 (((rd_T34 y468 x46_2).f1) + ((rd_T34 l1_1 x46_2).f1))⟩ : S34)) := ⟨_, rfl⟩
             replace H : ((quality_Check.f ((rd_T34 y468 x46_2).f0) (wrap64 (((rd_T34 y468 x46_2).f1) + ((rd_T34 l1_1 x46_2).f1)))).bind fun t473 => (if t473 = 0 then (quality_Merge.l0 k2 (t456.length : Int) (wrap64 (x46_2 + 1)) a1_0 l1_1 l1_2 l1_3 t455 y471 t459 t462) else (some (0, ([] : List (S34)), ([] : List Int), ([] : List Int), 13)))) = some (r1, r2, r3, r4, r5) := by first | (rw [hy471]; with_reducible exact H) | (have H2_ := (Option.bind_some _ _).symm.trans H; rw [hy471]; with_reducible exact H2_) | (have H2_ := (Option.bind_some _ _).symm.trans H; with_reducible exact H2_) | with_reducible exact H | (rw [hy471]; exact H) | exact H
             have Ny471 := Aside0.mk hy471
             clear hy471
             replace H := Option.bind_eq_some_iff.mp H
             obtain ⟨t473, A550, H⟩ := H
             (try dsimp only at H)
             have A55 := Aside0.mk A550
             clear A550
             by_cases c56 : t473 = 0
             ·rw [if_pos c56] at H
              have c56b0 : (t473 == 0) = true := beq_iff_eq.mpr c56
              have c56b1 : (t473 != 0) = false := bne_eq_false_iff_eq.mpr c56
              (try (have c56b0h := c56b0; simp only [hl466001_2] at c56b0h))
              (try (have c56b1h := c56b1; simp only [hl466001_2] at c56b1h))
              clear c56
              have H' := Aside0.mk H
              clear H
              try go_wp2
              replace HO_466001 := Aside0.mk (Kd.R_drew HO_466001.out)
              replace HO_466002 := Aside0.mk (Kd.R_drew HO_466002.out)
              replace HO_466003 := Aside0.mk (Kd.R_drew HO_466003.out)
              replace BK448 := Aside0.mk (blk_drew BK448.out)
              replace BK449 := Aside0.mk (blk_drew BK449.out)
              replace BK450 := Aside0.mk (blk_drew BK450.out)
              replace BK465 := Aside0.mk (blk_drew BK465.out)
              replace HB := Aside0.mk (below_drew1 HB.out)
              have p466 : 0 ≤ (x46_2 : Int) := pos_
              have q466 : x46_2 < (x466001_2.length : Int) := pos_
              obtain ⟨ad466, e466, hx466_0, hx466_1⟩ := at_T34 (Kd.R_reads' HO_466001.out).2.2 x46_2 p466 q466
              cases e466
              replace p466 := eq_true p466
              replace q466 := eq_true q466
              have p467 : 0 ≤ (x46_2 : Int) := pos_
              have q467 : x46_2 < (l1_1.length : Int) := pos_
              obtain ⟨ad467, e467, hx467_0, hx467_1⟩ := at_T34 HR1_1.out x46_2 p467 q467
              have hw467_1 := hx467_1
              have hw467_0 := hx467_0
              cases e467
              replace hx467_0 := (HB.out.cell (World.block_lt_of_cell? w _ hx467_0)).trans hx467_0
              replace hx467_1 := (HB.out.cell (World.block_lt_of_cell? w _ hx467_1)).trans hx467_1
              replace p467 := eq_true p467
              replace q467 := eq_true q467
              have p52 : 0 ≤ (x46_2 : Int) := pos_
              have q52 : (x46_2 : Int) < ((x466001_2.length : Int) : Int) := pos_
              obtain ⟨go52, co52, eo52, gb52, gl52, cl52, HG52⟩ := Kd.R_form HO_466001.out (by omega)
              (first | cases eo52 | (injection eo52 with ea_ en_ ec_; (first | subst ea_ | (injection ea_ with ea_; subst ea_)); subst ec_; clear en_))
              have GB52 := Aside0.mk gb52
              have GG52 := Aside0.mk HG52
              clear gb52 gl52 HG52
              (first | simp only [add_plain] at hx466_0 | skip)
              (first | simp only [add_plain] at hx466_1 | skip)
              obtain ⟨ce52, hcl52, hM52, hcc52, hfr52⟩ := Kd.R_elem HO_466001.out z34 (x46_2 : Int) p52 q52
              obtain rfl := k34_openM hM52
              have hx52_0 : World.cell? _ ⟨go52, (x46_2 : Int).toNat * 2, none⟩ = some (.int .i64 ((rd_T34 x466001_2 x46_2).f0)) := hcc52 0 _ rfl
              have hx52_1 : World.cell? _ ⟨go52, (x46_2 : Int).toNat * 2 + 1, none⟩ = some (.int .i64 ((rd_T34 x466001_2 x46_2).f1)) := hcc52 1 _ rfl
              have hf52_0 : World.frozen? _ ⟨go52, (x46_2 : Int).toNat * 2, none⟩ = false := hfr52 0
              have hf52_1 : World.frozen? _ ⟨go52, (x46_2 : Int).toNat * 2 + 1, none⟩ = false := hfr52 1
              clear hcl52 hcc52 hfr52 hM52
              replace p52 := eq_true p52
              replace q52 := eq_true q52
              obtain ⟨ce58, hcl58, hM58, hcc58, hfr58⟩ := Kd.R_elem HO_466001.out z34 (x46_2 : Int) (pos_) (by have h_ : (x46_2 : Int) < ((x466001_2.length : Int) : Int) := pos_; first | exact h_ | (have e_ := (Kd.R_reads' HO_466001.out).1; omega) | simpa using h_)
              obtain rfl := k34_openM hM58
              have HP58 := (Kd.R_seg HO_466001.out (x46_2 : Int) (pos_) (by have h_ : (x46_2 : Int) < ((x466001_2.length : Int) : Int) := pos_; first | exact h_ | (have e_ := (Kd.R_reads' HO_466001.out).1; omega) | simpa using h_) (seg := [.int .i64 (wrap64 (((rd_T34 x466001_2 x46_2).f0) + ((rd_T34 l1_1 x46_2).f0)))]) (j := 0) hcl58 hcc58 (show 1 ≤ 2 from by decide) (x' := (⟨wrap64 (((rd_T34 x466001_2 x46_2).f0) + ((rd_T34 l1_1 x46_2).f0)), (rd_T34 x466001_2 x46_2).f1⟩ : S34)) (k34_mkM _ _ _ (⟨wrap64 (((rd_T34 x466001_2 x46_2).f0) + ((rd_T34 l1_1 x46_2).f0)), (rd_T34 x466001_2 x46_2).f1⟩ : S34) ) (fun _ hk => hk)).1
              rw [← Ny468.out] at HP58
              have HQ58 := Aside0.mk HP58
              clear hcl58 hcc58 hfr58 hM58 HP58
              refine start_ (n := 16) (S := fun w' => w'.cell? ⟨gb465, 0, none⟩ = some (.int .i64 t455) ∧ w'.cell? ⟨gb465, 1, none⟩ = some (.slice (some ⟨go52, 0, none⟩) x466001_2.length co45) ∧ w'.cell? ⟨gb465, 2, none⟩ = some (.slice Ao46 t459.length co46) ∧ w'.cell? ⟨gb465, 3, none⟩ = some (.slice Ao47 t462.length co47) ∧ w'.cell? ⟨gb449, 0, none⟩ = some (.int .i64 a1_0) ∧ w'.cell? ⟨gb449, 1, none⟩ = some (.slice (some ad467) l1_1.length c1_1) ∧ w'.cell? ⟨gb449, 2, none⟩ = some (.slice A1_2 l1_2.length c1_2) ∧ w'.cell? ⟨gb449, 3, none⟩ = some (.slice A1_3 l1_3.length c1_3) ∧ w'.cell? ⟨go52, ((x46_2).toNat * 2), none⟩ = some (.int .i64 ((rd_T34 x466001_2 x46_2).f0)) ∧ w'.cell? ⟨go52, ((x46_2).toNat * 2) + 1, none⟩ = some (.int .i64 ((rd_T34 x466001_2 x46_2).f1)) ∧ w'.cell? (ad467.add ((x46_2).toNat * 2)) = some (.int .i64 ((rd_T34 l1_1 x46_2).f0)) ∧ w'.cell? ⟨(ad467.add ((x46_2).toNat * 2)).block, (ad467.add ((x46_2).toNat * 2)).off + 1, none⟩ = some (.int .i64 ((rd_T34 l1_1 x46_2).f1))) (ds := [15]) #[false, false, false, false, false, false, false, false, false, false, false, false, false, false, false, false] (by kernel_rfl) rfl rfl ⟨(blk_cell BK465.out 0).trans rfl, (blk_cell BK465.out 1).trans rfl, (blk_cell BK465.out 2).trans rfl, (blk_cell BK465.out 3).trans rfl, (blk_cell BK449.out 0).trans rfl, (blk_cell BK449.out 1).trans rfl, (blk_cell BK449.out 2).trans rfl, (blk_cell BK449.out 3).trans rfl, hx466_0, hx466_1, ((HB.out.cell (World.block_lt_of_cell? w _ hw467_0)).trans hw467_0), ((HB.out.cell (World.block_lt_of_cell? w _ hw467_1)).trans hw467_1)⟩ (fun hHeld => ?_); refine with_tabW quality_Merge.tab9 quality_Merge.bits9 (fun HT_ HW_ => ?_)
              generalize wr.drew = w57 at HO_466001 HO_466002 HO_466003 BK448 BK449 BK450 BK465 HB GG52 HQ58 hf52_0 hf52_1 hx466_0 hx466_1 hx467_0 hx467_1 hx52_0 hx52_1 hHeld ⊢
              refine pur 0 (some 49) #[true, false, false, false, false, false, false, false, false, false, false, false, false, false, false, false] HT_ ?_
              refine pur 2 (some 51) #[true, false, true, false, false, false, false, false, false, false, false, false, false, false, false, false] HT_ ?_
              refine pur 6 (some 55) #[true, false, true, false, false, false, true, false, false, false, false, false, false, false, false, false] HT_ ?_
              refine pur 8 (some 57) #[true, false, true, false, false, false, true, false, true, false, false, false, false, false, false, false] HT_ ?_
              refine tak 1 (some 50) #[true, true, true, false, false, false, true, false, true, false, false, false, false, false, false, false] HT_ HW_ hHeld rfl (Or.inl ⟨by rfl, by rintro w' ⟨s0, s1, s2, s3, s4, s5, s6, s7, s8, s9, s10, s11⟩; go_simp; with_reducible rfl⟩) ?_
              refine pur 3 (some 52) #[true, true, true, true, false, false, true, false, true, false, false, false, false, false, false, false] HT_ ?_
              refine pur 4 (some 53) #[true, true, true, true, true, false, true, false, true, false, false, false, false, false, false, false] HT_ ?_
              refine tak 5 (some 54) #[true, true, true, true, true, true, true, false, true, false, false, false, false, false, false, false] HT_ HW_ hHeld rfl (Or.inl ⟨by rfl, by rintro w' ⟨s0, s1, s2, s3, s4, s5, s6, s7, s8, s9, s10, s11⟩; go_simp; with_reducible rfl⟩) ?_
              refine tak 7 (some 56) #[true, true, true, true, true, true, true, true, true, false, false, false, false, false, false, false] HT_ HW_ hHeld rfl (Or.inl ⟨by rfl, by rintro w' ⟨s0, s1, s2, s3, s4, s5, s6, s7, s8, s9, s10, s11⟩; go_simp; with_reducible rfl⟩) ?_
              refine pur 9 (some 58) #[true, true, true, true, true, true, true, true, true, true, false, false, false, false, false, false] HT_ ?_
              refine pur 10 (some 59) #[true, true, true, true, true, true, true, true, true, true, true, false, false, false, false, false] HT_ ?_
              refine tak 11 (some 60) #[true, true, true, true, true, true, true, true, true, true, true, true, false, false, false, false] HT_ HW_ hHeld rfl (Or.inl ⟨by rfl, by rintro w' ⟨s0, s1, s2, s3, s4, s5, s6, s7, s8, s9, s10, s11⟩; go_simp; with_reducible rfl⟩) ?_
              refine pur 12 (some 61) #[true, true, true, true, true, true, true, true, true, true, true, true, true, false, false, false] HT_ ?_
              refine pur 13 (some 62) #[true, true, true, true, true, true, true, true, true, true, true, true, true, true, false, false] HT_ ?_
              refine pur 14 (some 63) #[true, true, true, true, true, true, true, true, true, true, true, true, true, true, true, false] HT_ ?_
              refine last_ (i := 15) (N := none) #[true, true, true, true, true, true, true, true, true, true, true, true, true, true, true, true] rfl rfl (one_of HT_.out (by kernel_rfl)) (by decide) (fun K hK => ?_)
              refine skip_ (w1 := ?_) (by rfl) rfl ?_ ?_
              rotate_left
              ·go_simp
               rfl
              refine hK.out _ _ ?_
              clear hK K
              refine done_ (done_of HT_.out (by kernel_rfl)) ?_
              try go_wp2
              have n0_ : Aside0 (Kd.R k34 34 (w57.setCell ⟨go52, (x46_2 : Int).toNat * 2, none⟩ (.int .i64 (wrap64 (((rd_T34 x466001_2 x46_2).f0) + ((rd_T34 l1_1 x46_2).f0))))) w.heap.size (fun _ => True) (.slice (some ⟨go52, 0, none⟩) x466001_2.length co45) y468) := ⟨by (with_reducible repeat (first | apply Kd.R_alloc | apply Kd.R_drewN | apply Kd.R_drew)); exact HQ58.out⟩
              have n1_ : Aside0 (Kd.R (Kd.int .i64) 3 (w57.setCell ⟨go52, (x46_2 : Int).toNat * 2, none⟩ (.int .i64 (wrap64 (((rd_T34 x466001_2 x46_2).f0) + ((rd_T34 l1_1 x46_2).f0))))) w.heap.size (fun k_ => some k_ ≠ (.slice Ao47 t462.length co47 : Value).ownBlock) (.slice Ao46 t459.length co46) t459) := ⟨by (with_reducible repeat (first | apply Kd.R_alloc | apply Kd.R_drewN | apply Kd.R_drew)); exact Kd.R_mono (Kd.R_far (p := ⟨go52, (x46_2 : Int).toNat * 2, none⟩) (Kd.R_types HO_466002.out (Exists.choose_spec (Kd.R_typed HO_466001.out go52 rfl)) (by decide)) (fun _ hk => hk.2) (.int .i64 (wrap64 (((rd_T34 x466001_2 x46_2).f0) + ((rd_T34 l1_1 x46_2).f0))))) (fun _ hk => hk.1)⟩
              have n2_ : Aside0 (Kd.R (Kd.int .i64) 3 (w57.setCell ⟨go52, (x46_2 : Int).toNat * 2, none⟩ (.int .i64 (wrap64 (((rd_T34 x466001_2 x46_2).f0) + ((rd_T34 l1_1 x46_2).f0))))) w.heap.size (fun k_ => some k_ ≠ (.slice Ao46 t459.length co46 : Value).ownBlock) (.slice Ao47 t462.length co47) t462) := ⟨by (with_reducible repeat (first | apply Kd.R_alloc | apply Kd.R_drewN | apply Kd.R_drew)); exact Kd.R_mono (Kd.R_far (p := ⟨go52, (x46_2 : Int).toNat * 2, none⟩) (Kd.R_types HO_466003.out (Exists.choose_spec (Kd.R_typed HO_466001.out go52 rfl)) (by decide)) (fun _ hk => hk.2) (.int .i64 (wrap64 (((rd_T34 x466001_2 x46_2).f0) + ((rd_T34 l1_1 x46_2).f0))))) (fun _ hk => hk.1)⟩
              have n3_ : Aside0 ((w57.setCell ⟨go52, (x46_2 : Int).toNat * 2, none⟩ (.int .i64 (wrap64 (((rd_T34 x466001_2 x46_2).f0) + ((rd_T34 l1_1 x46_2).f0))))).heap[gb448]? = some (.cells #[.int .i64 a0_0, .slice A0_1 l0_1.length c0_1, .slice A0_2 l0_2.length c0_2, .slice A0_3 l0_3.length c0_3] 25 (0, 0))) := ⟨by (with_reducible repeat (first | refine blk_drewN ?_ _ | refine blk_drew ?_ | refine blk_alloc ?_ _)); refine blk_far ?_ (by have h_ := Kd.R_ne HO_466001.out BK448.out (by decide); intro e_; exact h_ (by rw [e_]; rfl)) _; (with_reducible repeat (first | refine blk_drewN ?_ _ | refine blk_drew ?_ | refine blk_alloc ?_ _)); exact BK448.out⟩
              have n4_ : Aside0 ((w57.setCell ⟨go52, (x46_2 : Int).toNat * 2, none⟩ (.int .i64 (wrap64 (((rd_T34 x466001_2 x46_2).f0) + ((rd_T34 l1_1 x46_2).f0))))).heap[gb449]? = some (.cells #[.int .i64 a1_0, .slice (some ad467) l1_1.length c1_1, .slice A1_2 l1_2.length c1_2, .slice A1_3 l1_3.length c1_3] 25 (0, 0))) := ⟨by (with_reducible repeat (first | refine blk_drewN ?_ _ | refine blk_drew ?_ | refine blk_alloc ?_ _)); refine blk_far ?_ (by have h_ := Kd.R_ne HO_466001.out BK449.out (by decide); intro e_; exact h_ (by rw [e_]; rfl)) _; (with_reducible repeat (first | refine blk_drewN ?_ _ | refine blk_drew ?_ | refine blk_alloc ?_ _)); exact BK449.out⟩
              have n5_ : Aside0 ((w57.setCell ⟨go52, (x46_2 : Int).toNat * 2, none⟩ (.int .i64 (wrap64 (((rd_T34 x466001_2 x46_2).f0) + ((rd_T34 l1_1 x46_2).f0))))).heap[gb450]? = some (.cells #[.int .i64 x451000_2, .slice none 0 0, .slice none 0 0, .slice none 0 0] 25 (0, 0))) := ⟨by (with_reducible repeat (first | refine blk_drewN ?_ _ | refine blk_drew ?_ | refine blk_alloc ?_ _)); refine blk_far ?_ (by have h_ := Kd.R_ne HO_466001.out BK450.out (by decide); intro e_; exact h_ (by rw [e_]; rfl)) _; (with_reducible repeat (first | refine blk_drewN ?_ _ | refine blk_drew ?_ | refine blk_alloc ?_ _)); exact BK450.out⟩
              have n6_ : Aside0 ((w57.setCell ⟨go52, (x46_2 : Int).toNat * 2, none⟩ (.int .i64 (wrap64 (((rd_T34 x466001_2 x46_2).f0) + ((rd_T34 l1_1 x46_2).f0))))).heap[gb465]? = some (.cells #[.int .i64 t455, .slice (some ⟨go52, 0, none⟩) x466001_2.length co45, .slice Ao46 t459.length co46, .slice Ao47 t462.length co47] 25 (0, 0))) := ⟨by (with_reducible repeat (first | refine blk_drewN ?_ _ | refine blk_drew ?_ | refine blk_alloc ?_ _)); refine blk_far ?_ (by have h_ := Kd.R_ne HO_466001.out BK465.out (by decide); intro e_; exact h_ (by rw [e_]; rfl)) _; (with_reducible repeat (first | refine blk_drewN ?_ _ | refine blk_drew ?_ | refine blk_alloc ?_ _)); exact BK465.out⟩
              have n7_ : Aside0 (Below w.heap.size w (w57.setCell ⟨go52, (x46_2 : Int).toNat * 2, none⟩ (.int .i64 (wrap64 (((rd_T34 x466001_2 x46_2).f0) + ((rd_T34 l1_1 x46_2).f0)))))) := ⟨by repeat (first | (with_reducible first | exact HB.out | apply below_alloc | apply pw_below_drewN | apply below_drew1 | refine below_set ?_ GB52.out | refine below_set ?_ GE448.out | refine below_set ?_ GE449.out | refine below_set ?_ GE450.out | refine below_set ?_ GE465.out) | exact HB.out)⟩
              (try clear HO_466001)
              (try clear HO_466002)
              (try clear HO_466003)
              (try clear BK448)
              (try clear BK449)
              (try clear BK450)
              (try clear BK465)
              (try clear HB)
              generalize (w57.setCell ⟨go52, (x46_2 : Int).toNat * 2, none⟩ (.int .i64 (wrap64 (((rd_T34 x466001_2 x46_2).f0) + ((rd_T34 l1_1 x46_2).f0))))) = w59 at n0_ n1_ n2_ n3_ n4_ n5_ n6_ n7_ ⊢
              have HO_466001 := n0_
              have HO_466002 := n1_
              have HO_466003 := n2_
              have BK448 := n3_
              have BK449 := n4_
              have BK450 := n5_
              have BK465 := n6_
              have HB := n7_
              clear n0_ n1_ n2_ n3_ n4_ n5_ n6_ n7_
              replace HO_466001 := Aside0.mk (Kd.R_drew HO_466001.out)
              replace HO_466002 := Aside0.mk (Kd.R_drew HO_466002.out)
              replace HO_466003 := Aside0.mk (Kd.R_drew HO_466003.out)
              replace BK448 := Aside0.mk (blk_drew BK448.out)
              replace BK449 := Aside0.mk (blk_drew BK449.out)
              replace BK450 := Aside0.mk (blk_drew BK450.out)
              replace BK465 := Aside0.mk (blk_drew BK465.out)
              replace HB := Aside0.mk (below_drew1 HB.out)
              have p469 : 0 ≤ (x46_2 : Int) := pos_
              have q469 : x46_2 < (y468.length : Int) := (by have h_ : (x46_2 : Int) < ((x466001_2.length : Int) : Int) := pos_; first | (have e_ := (Kd.R_reads' HO_466001.out).1; omega) | simpa only [Ny468.out, List.length_set] using h_)
              have ql469 : ((x46_2 : Int) < ((x466001_2.length : Int) : Int)) = True := eq_true (pos_)
              obtain ⟨ad469, e469, hx469_0, hx469_1⟩ := at_T34 (Kd.R_reads' HO_466001.out).2.2 x46_2 p469 q469
              obtain rfl : (⟨go52, 0, none⟩ : Addr) = ad469 := (by injection e469)
              (first | simp only [add_plain] at hx469_0 | simp only [add_at] at hx469_0 | simp only [Addr.add, Nat.zero_add] at hx469_0 | skip)
              (first | simp only [add_plain] at hx469_1 | simp only [add_at] at hx469_1 | simp only [Addr.add, Nat.zero_add] at hx469_1 | skip)
              replace p469 := eq_true p469
              replace q469 := eq_true q469
              have p470 : 0 ≤ (x46_2 : Int) := pos_
              have q470 : x46_2 < (l1_1.length : Int) := pos_
              obtain ⟨ad470, e470, hx470_0, hx470_1⟩ := at_T34 HR1_1.out x46_2 p470 q470
              have hw470_1 := hx470_1
              have hw470_0 := hx470_0
              obtain rfl : ad467 = ad470 := (by injection e470)
              replace hx470_0 := (HB.out.cell (World.block_lt_of_cell? w _ hx470_0)).trans hx470_0
              replace hx470_1 := (HB.out.cell (World.block_lt_of_cell? w _ hx470_1)).trans hx470_1
              replace p470 := eq_true p470
              replace q470 := eq_true q470
              have p53 : 0 ≤ (x46_2 : Int) := pos_
              have q53 : (x46_2 : Int) < ((x466001_2.length : Int) : Int) := pos_
              obtain ⟨go_, co_, eo_, gb_, gl_, cl_, HG_⟩ := Kd.R_form HO_466001.out (by have e_ := (Kd.R_reads' HO_466001.out).1; omega)
              obtain rfl : go52 = go_ := Option.some.inj (show some go52 = some go_ from congrArg Value.ownBlock eo_)
              replace GG52 := Aside0.mk HG_
              clear eo_ gb_ gl_ HG_
              obtain ⟨ce53, hcl53, hM53, hcc53, hfr53⟩ := Kd.R_elem HO_466001.out z34 (x46_2 : Int) p53 q53
              obtain rfl := k34_openM hM53
              have hx53_0 : World.cell? _ ⟨go52, (x46_2 : Int).toNat * 2, none⟩ = some (.int .i64 ((rd_T34 y468 x46_2).f0)) := hcc53 0 _ rfl
              have hx53_1 : World.cell? _ ⟨go52, (x46_2 : Int).toNat * 2 + 1, none⟩ = some (.int .i64 ((rd_T34 y468 x46_2).f1)) := hcc53 1 _ rfl
              have hf53_0 : World.frozen? _ ⟨go52, (x46_2 : Int).toNat * 2, none⟩ = false := hfr53 0
              have hf53_1 : World.frozen? _ ⟨go52, (x46_2 : Int).toNat * 2 + 1, none⟩ = false := hfr53 1
              clear hcl53 hcc53 hfr53 hM53
              replace p53 := eq_true p53
              replace q53 := eq_true q53
              obtain ⟨ce61, hcl61, hM61, hcc61, hfr61⟩ := Kd.R_elem HO_466001.out z34 (x46_2 : Int) (pos_) (by have h_ : (x46_2 : Int) < ((x466001_2.length : Int) : Int) := pos_; first | exact h_ | (have e_ := (Kd.R_reads' HO_466001.out).1; omega) | simpa using h_)
              obtain rfl := k34_openM hM61
              have HP61 := (Kd.R_seg HO_466001.out (x46_2 : Int) (pos_) (by have h_ : (x46_2 : Int) < ((x466001_2.length : Int) : Int) := pos_; first | exact h_ | (have e_ := (Kd.R_reads' HO_466001.out).1; omega) | simpa using h_) (seg := [.int .i64 (wrap64 (((rd_T34 y468 x46_2).f1) + ((rd_T34 l1_1 x46_2).f1)))]) (j := 1) hcl61 hcc61 (show 2 ≤ 2 from by decide) (x' := (⟨(rd_T34 y468 x46_2).f0, wrap64 (((rd_T34 y468 x46_2).f1) + ((rd_T34 l1_1 x46_2).f1))⟩ : S34)) (k34_mkM _ _ _ (⟨(rd_T34 y468 x46_2).f0, wrap64 (((rd_T34 y468 x46_2).f1) + ((rd_T34 l1_1 x46_2).f1))⟩ : S34) ) (fun _ hk => hk)).1
              rw [← Ny471.out] at HP61
              have HQ61 := Aside0.mk HP61
              clear hcl61 hcc61 hfr61 hM61 HP61
              refine start_ (n := 16) (S := fun w' => w'.cell? ⟨gb465, 0, none⟩ = some (.int .i64 t455) ∧ w'.cell? ⟨gb465, 1, none⟩ = some (.slice (some ⟨go52, 0, none⟩) x466001_2.length co45) ∧ w'.cell? ⟨gb465, 2, none⟩ = some (.slice Ao46 t459.length co46) ∧ w'.cell? ⟨gb465, 3, none⟩ = some (.slice Ao47 t462.length co47) ∧ w'.cell? ⟨gb449, 0, none⟩ = some (.int .i64 a1_0) ∧ w'.cell? ⟨gb449, 1, none⟩ = some (.slice (some ad467) l1_1.length c1_1) ∧ w'.cell? ⟨gb449, 2, none⟩ = some (.slice A1_2 l1_2.length c1_2) ∧ w'.cell? ⟨gb449, 3, none⟩ = some (.slice A1_3 l1_3.length c1_3) ∧ w'.cell? ⟨go52, (x46_2).toNat * 2, none⟩ = some (.int .i64 ((rd_T34 y468 x46_2).f0)) ∧ w'.cell? ⟨go52, (x46_2).toNat * 2 + 1, none⟩ = some (.int .i64 ((rd_T34 y468 x46_2).f1)) ∧ w'.cell? (ad467.add ((x46_2).toNat * 2)) = some (.int .i64 ((rd_T34 l1_1 x46_2).f0)) ∧ w'.cell? ⟨(ad467.add ((x46_2).toNat * 2)).block, (ad467.add ((x46_2).toNat * 2)).off + 1, none⟩ = some (.int .i64 ((rd_T34 l1_1 x46_2).f1))) (ds := [15]) #[false, false, false, false, false, false, false, false, false, false, false, false, false, false, false, false] (by kernel_rfl) rfl rfl ⟨(blk_cell BK465.out 0).trans rfl, (blk_cell BK465.out 1).trans rfl, (blk_cell BK465.out 2).trans rfl, (blk_cell BK465.out 3).trans rfl, (blk_cell BK449.out 0).trans rfl, (blk_cell BK449.out 1).trans rfl, (blk_cell BK449.out 2).trans rfl, (blk_cell BK449.out 3).trans rfl, hx469_0, hx469_1, ((HB.out.cell (World.block_lt_of_cell? w _ hw470_0)).trans hw470_0), ((HB.out.cell (World.block_lt_of_cell? w _ hw470_1)).trans hw470_1)⟩ (fun hHeld => ?_); refine with_tabW quality_Merge.tab10 quality_Merge.bits10 (fun HT_ HW_ => ?_)
              generalize w59.drew = w60 at HO_466001 HO_466002 HO_466003 BK448 BK449 BK450 BK465 HB HQ58 HQ61 hf53_0 hf53_1 hx469_0 hx469_1 hx470_0 hx470_1 hx53_0 hx53_1 hHeld GG52 ⊢
              refine pur 0 (some 64) #[true, false, false, false, false, false, false, false, false, false, false, false, false, false, false, false] HT_ ?_
              refine pur 2 (some 66) #[true, false, true, false, false, false, false, false, false, false, false, false, false, false, false, false] HT_ ?_
              refine pur 6 (some 70) #[true, false, true, false, false, false, true, false, false, false, false, false, false, false, false, false] HT_ ?_
              refine pur 8 (some 72) #[true, false, true, false, false, false, true, false, true, false, false, false, false, false, false, false] HT_ ?_
              refine tak 1 (some 65) #[true, true, true, false, false, false, true, false, true, false, false, false, false, false, false, false] HT_ HW_ hHeld rfl (Or.inl ⟨by rfl, by rintro w' ⟨s0, s1, s2, s3, s4, s5, s6, s7, s8, s9, s10, s11⟩; go_simp; with_reducible rfl⟩) ?_
              refine pur 3 (some 67) #[true, true, true, true, false, false, true, false, true, false, false, false, false, false, false, false] HT_ ?_
              refine pur 4 (some 68) #[true, true, true, true, true, false, true, false, true, false, false, false, false, false, false, false] HT_ ?_
              refine tak 5 (some 69) #[true, true, true, true, true, true, true, false, true, false, false, false, false, false, false, false] HT_ HW_ hHeld rfl (Or.inl ⟨by rfl, by rintro w' ⟨s0, s1, s2, s3, s4, s5, s6, s7, s8, s9, s10, s11⟩; go_simp; with_reducible rfl⟩) ?_
              refine tak 7 (some 71) #[true, true, true, true, true, true, true, true, true, false, false, false, false, false, false, false] HT_ HW_ hHeld rfl (Or.inl ⟨by rfl, by rintro w' ⟨s0, s1, s2, s3, s4, s5, s6, s7, s8, s9, s10, s11⟩; go_simp; with_reducible rfl⟩) ?_
              refine pur 9 (some 73) #[true, true, true, true, true, true, true, true, true, true, false, false, false, false, false, false] HT_ ?_
              refine pur 10 (some 74) #[true, true, true, true, true, true, true, true, true, true, true, false, false, false, false, false] HT_ ?_
              refine tak 11 (some 75) #[true, true, true, true, true, true, true, true, true, true, true, true, false, false, false, false] HT_ HW_ hHeld rfl (Or.inl ⟨by rfl, by rintro w' ⟨s0, s1, s2, s3, s4, s5, s6, s7, s8, s9, s10, s11⟩; go_simp; with_reducible rfl⟩) ?_
              refine pur 12 (some 76) #[true, true, true, true, true, true, true, true, true, true, true, true, true, false, false, false] HT_ ?_
              refine pur 13 (some 77) #[true, true, true, true, true, true, true, true, true, true, true, true, true, true, false, false] HT_ ?_
              refine pur 14 (some 78) #[true, true, true, true, true, true, true, true, true, true, true, true, true, true, true, false] HT_ ?_
              refine last_ (i := 15) (N := none) #[true, true, true, true, true, true, true, true, true, true, true, true, true, true, true, true] rfl rfl (one_of HT_.out (by kernel_rfl)) (by decide) (fun K hK => ?_)
              refine skip_ (w1 := ?_) (by rfl) rfl ?_ ?_
              rotate_left
              ·go_simp
               rfl
              refine hK.out _ _ ?_
              clear hK K
              refine done_ (done_of HT_.out (by kernel_rfl)) ?_
              have n0_ : Aside0 (Kd.R k34 34 (w60.setCell ⟨go52, (x46_2 : Int).toNat * 2 + 1, none⟩ (.int .i64 (wrap64 (((rd_T34 y468 x46_2).f1) + ((rd_T34 l1_1 x46_2).f1))))) w.heap.size (fun _ => True) (.slice (some ⟨go52, 0, none⟩) x466001_2.length co45) y471) := ⟨by (with_reducible repeat (first | apply Kd.R_alloc | apply Kd.R_drewN | apply Kd.R_drew)); exact HQ61.out⟩
              have n1_ : Aside0 (Kd.R (Kd.int .i64) 3 (w60.setCell ⟨go52, (x46_2 : Int).toNat * 2 + 1, none⟩ (.int .i64 (wrap64 (((rd_T34 y468 x46_2).f1) + ((rd_T34 l1_1 x46_2).f1))))) w.heap.size (fun k_ => some k_ ≠ (.slice Ao47 t462.length co47 : Value).ownBlock) (.slice Ao46 t459.length co46) t459) := ⟨by (with_reducible repeat (first | apply Kd.R_alloc | apply Kd.R_drewN | apply Kd.R_drew)); exact Kd.R_mono (Kd.R_far (p := ⟨go52, (x46_2 : Int).toNat * 2 + 1, none⟩) (Kd.R_types HO_466002.out (Exists.choose_spec (Kd.R_typed HO_466001.out go52 rfl)) (by decide)) (fun _ hk => hk.2) (.int .i64 (wrap64 (((rd_T34 y468 x46_2).f1) + ((rd_T34 l1_1 x46_2).f1))))) (fun _ hk => hk.1)⟩
              have n2_ : Aside0 (Kd.R (Kd.int .i64) 3 (w60.setCell ⟨go52, (x46_2 : Int).toNat * 2 + 1, none⟩ (.int .i64 (wrap64 (((rd_T34 y468 x46_2).f1) + ((rd_T34 l1_1 x46_2).f1))))) w.heap.size (fun k_ => some k_ ≠ (.slice Ao46 t459.length co46 : Value).ownBlock) (.slice Ao47 t462.length co47) t462) := ⟨by (with_reducible repeat (first | apply Kd.R_alloc | apply Kd.R_drewN | apply Kd.R_drew)); exact Kd.R_mono (Kd.R_far (p := ⟨go52, (x46_2 : Int).toNat * 2 + 1, none⟩) (Kd.R_types HO_466003.out (Exists.choose_spec (Kd.R_typed HO_466001.out go52 rfl)) (by decide)) (fun _ hk => hk.2) (.int .i64 (wrap64 (((rd_T34 y468 x46_2).f1) + ((rd_T34 l1_1 x46_2).f1))))) (fun _ hk => hk.1)⟩
              have n3_ : Aside0 ((w60.setCell ⟨go52, (x46_2 : Int).toNat * 2 + 1, none⟩ (.int .i64 (wrap64 (((rd_T34 y468 x46_2).f1) + ((rd_T34 l1_1 x46_2).f1))))).heap[gb448]? = some (.cells #[.int .i64 a0_0, .slice A0_1 l0_1.length c0_1, .slice A0_2 l0_2.length c0_2, .slice A0_3 l0_3.length c0_3] 25 (0, 0))) := ⟨by (with_reducible repeat (first | refine blk_drewN ?_ _ | refine blk_drew ?_ | refine blk_alloc ?_ _)); refine blk_far ?_ (by have h_ := Kd.R_ne HO_466001.out BK448.out (by decide); intro e_; exact h_ (by rw [e_]; rfl)) _; (with_reducible repeat (first | refine blk_drewN ?_ _ | refine blk_drew ?_ | refine blk_alloc ?_ _)); exact BK448.out⟩
              have n4_ : Aside0 ((w60.setCell ⟨go52, (x46_2 : Int).toNat * 2 + 1, none⟩ (.int .i64 (wrap64 (((rd_T34 y468 x46_2).f1) + ((rd_T34 l1_1 x46_2).f1))))).heap[gb449]? = some (.cells #[.int .i64 a1_0, .slice (some ad467) l1_1.length c1_1, .slice A1_2 l1_2.length c1_2, .slice A1_3 l1_3.length c1_3] 25 (0, 0))) := ⟨by (with_reducible repeat (first | refine blk_drewN ?_ _ | refine blk_drew ?_ | refine blk_alloc ?_ _)); refine blk_far ?_ (by have h_ := Kd.R_ne HO_466001.out BK449.out (by decide); intro e_; exact h_ (by rw [e_]; rfl)) _; (with_reducible repeat (first | refine blk_drewN ?_ _ | refine blk_drew ?_ | refine blk_alloc ?_ _)); exact BK449.out⟩
              have n5_ : Aside0 ((w60.setCell ⟨go52, (x46_2 : Int).toNat * 2 + 1, none⟩ (.int .i64 (wrap64 (((rd_T34 y468 x46_2).f1) + ((rd_T34 l1_1 x46_2).f1))))).heap[gb450]? = some (.cells #[.int .i64 x451000_2, .slice none 0 0, .slice none 0 0, .slice none 0 0] 25 (0, 0))) := ⟨by (with_reducible repeat (first | refine blk_drewN ?_ _ | refine blk_drew ?_ | refine blk_alloc ?_ _)); refine blk_far ?_ (by have h_ := Kd.R_ne HO_466001.out BK450.out (by decide); intro e_; exact h_ (by rw [e_]; rfl)) _; (with_reducible repeat (first | refine blk_drewN ?_ _ | refine blk_drew ?_ | refine blk_alloc ?_ _)); exact BK450.out⟩
              have n6_ : Aside0 ((w60.setCell ⟨go52, (x46_2 : Int).toNat * 2 + 1, none⟩ (.int .i64 (wrap64 (((rd_T34 y468 x46_2).f1) + ((rd_T34 l1_1 x46_2).f1))))).heap[gb465]? = some (.cells #[.int .i64 t455, .slice (some ⟨go52, 0, none⟩) x466001_2.length co45, .slice Ao46 t459.length co46, .slice Ao47 t462.length co47] 25 (0, 0))) := ⟨by (with_reducible repeat (first | refine blk_drewN ?_ _ | refine blk_drew ?_ | refine blk_alloc ?_ _)); refine blk_far ?_ (by have h_ := Kd.R_ne HO_466001.out BK465.out (by decide); intro e_; exact h_ (by rw [e_]; rfl)) _; (with_reducible repeat (first | refine blk_drewN ?_ _ | refine blk_drew ?_ | refine blk_alloc ?_ _)); exact BK465.out⟩
              have n7_ : Aside0 (Below w.heap.size w (w60.setCell ⟨go52, (x46_2 : Int).toNat * 2 + 1, none⟩ (.int .i64 (wrap64 (((rd_T34 y468 x46_2).f1) + ((rd_T34 l1_1 x46_2).f1)))))) := ⟨by repeat (first | (with_reducible first | exact HB.out | apply below_alloc | apply pw_below_drewN | apply below_drew1 | refine below_set ?_ GB52.out | refine below_set ?_ GE448.out | refine below_set ?_ GE449.out | refine below_set ?_ GE450.out | refine below_set ?_ GE465.out) | exact HB.out)⟩
              (try clear HO_466001)
              (try clear HO_466002)
              (try clear HO_466003)
              (try clear BK448)
              (try clear BK449)
              (try clear BK450)
              (try clear BK465)
              (try clear HB)
              generalize (w60.setCell ⟨go52, (x46_2 : Int).toNat * 2 + 1, none⟩ (.int .i64 (wrap64 (((rd_T34 y468 x46_2).f1) + ((rd_T34 l1_1 x46_2).f1))))) = w62 at n0_ n1_ n2_ n3_ n4_ n5_ n6_ n7_ ⊢
              have HO_466001 := n0_
              have HO_466002 := n1_
              have HO_466003 := n2_
              have BK448 := n3_
              have BK449 := n4_
              have BK450 := n5_
              have BK465 := n6_
              have HB := n7_
              clear n0_ n1_ n2_ n3_ n4_ n5_ n6_ n7_
              have hnb63 := NB465_448.out
              have hnc63 := NB448_465.out
              have hnb64 := NB465_449.out
              have hnc64 := NB449_465.out
              have hnb65 := NB465_450.out
              have hnc65 := NB450_465.out
              obtain ⟨z0, z1, z2, z3, y0, y1, y2, y3⟩ := bc4 BK465
              have p54 : 0 ≤ (x46_2 : Int) := pos_
              have q54 : (x46_2 : Int) < ((x466001_2.length : Int) : Int) := pos_
              replace p54 := eq_true p54
              replace q54 := eq_true q54
              (try (obtain ⟨ad54, e54, hx54_0, hx54_1⟩ := at_T34 (Kd.R_reads' HO_466001.out).2.2 x46_2 (of_eq_true p54) (by first | exact of_eq_true q54 | (have h_ := of_eq_true q54; have e_ := (Kd.R_reads' HO_466001.out).1; omega) | (have h_ := of_eq_true q54; simpa only [Ny468.out, Ny471.out, List.length_set] using h_)); obtain rfl : (⟨go52, 0, none⟩ : Addr) = ad54 := (by injection e54); (first | simp only [add_plain] at hx54_0 | simp only [add_at] at hx54_0 | simp only [Addr.add, Nat.zero_add] at hx54_0 | skip); (first | simp only [add_plain] at hx54_1 | simp only [add_at] at hx54_1 | simp only [Addr.add, Nat.zero_add] at hx54_1 | skip)))
              (try (have hz_ : rd_T34 y471 x46_2 = _ := (congrArg (fun l_ => rd_T34 l_ x46_2) Ny471.out).trans (getD_set _ _ _ _ (by have p_ := of_eq_true p54; have h_ := of_eq_true q54; have e_ := (Kd.R_reads' HO_466001.out).1; first | omega | (simp only [Ny468.out, Ny471.out, List.length_set]; omega) | (simp only [Ny468.out, Ny471.out, List.length_set] at e_ ⊢; omega))); rw [hz_] at hx54_0 hx54_1; clear hz_; dsimp only at hx54_0 hx54_1))
              try go_wp2_with (first | ((with_reducible refine gate_callee (f := 24) rfl ?_); refine goesL_ (some 84) rfl rfl Try.func24 (by kernel_rfl) rfl #[.agg #[.int .i64 ((rd_T34 y468 x46_2).f0), .int .i64 (wrap64 (((rd_T34 y468 x46_2).f1) + ((rd_T34 l1_1 x46_2).f1)))]] rfl sma ?_; (with_reducible refine (quality_Check.calls ((rd_T34 y468 x46_2).f0) (wrap64 (((rd_T34 y468 x46_2).f1) + ((rd_T34 l1_1 x46_2).f1))) t473 _ A55.out).mono ?_); rintro e w67 ⟨rfl, hb⟩; refine ⟨_, rfl, ?_⟩; replace HO_466001 := rB HO_466001 hb; replace HO_466002 := rB HO_466002 hb; replace HO_466003 := rB HO_466003 hb; replace BK448 := bkB BK448 hb; replace BK449 := bkB BK449 hb; replace BK450 := bkB BK450 hb; replace BK465 := bkB BK465 hb; replace HB := hbS HB hb; (try clear hb); (try clear hb2); (try clear hk); (try clear hi)))
              (try simp only [← hl466001_2])
              go_roundg k2
              case measure => have := HJ2.out; have := HK2.out; omega
              case rel => exact ⟨(wrap64 (x46_2 + 1)), (x451000_2), (y471), rfs, H', ⟨by have := HJ2.out; have := HK2.out; omega⟩, ⟨by (try simp only [hl466001_2]); (with_reducible repeat (first | apply Kd.R_alloc | apply Kd.R_drewN | apply Kd.R_drew)); exact HO_466001.out⟩, ⟨by (try simp only [hl466001_2]); (with_reducible repeat (first | apply Kd.R_alloc | apply Kd.R_drewN | apply Kd.R_drew)); exact HO_466002.out⟩, ⟨by (try simp only [hl466001_2]); (with_reducible repeat (first | apply Kd.R_alloc | apply Kd.R_drewN | apply Kd.R_drew)); exact HO_466003.out⟩, ⟨by (try simp only [hl466001_2]); (with_reducible repeat (first | refine blk_drewN ?_ _ | refine blk_drew ?_ | refine blk_alloc ?_ _)); exact BK448.out⟩, ⟨by (try simp only [hl466001_2]); (with_reducible repeat (first | refine blk_drewN ?_ _ | refine blk_drew ?_ | refine blk_alloc ?_ _)); exact BK449.out⟩, ⟨by (try simp only [hl466001_2]); (with_reducible repeat (first | refine blk_drewN ?_ _ | refine blk_drew ?_ | refine blk_alloc ?_ _)); exact BK450.out⟩, ⟨by (try simp only [hl466001_2]); (with_reducible repeat (first | refine blk_drewN ?_ _ | refine blk_drew ?_ | refine blk_alloc ?_ _)); exact BK465.out⟩, hbA HB⟩
             ·rw [if_neg c56] at H
              have c56b0 : (t473 == 0) = false := beq_eq_false_iff_ne.mpr c56
              have c56b1 : (t473 != 0) = true := bne_iff_ne.mpr c56
              (try (have c56b0h := c56b0; simp only [hl466001_2] at c56b0h))
              (try (have c56b1h := c56b1; simp only [hl466001_2] at c56b1h))
              simp only [Option.some.injEq, Prod.mk.injEq] at H
              obtain ⟨rfl, rfl, rfl, rfl, rfl⟩ := H
              try go_wp2
              replace HO_466001 := Aside0.mk (Kd.R_drew HO_466001.out)
              replace HO_466002 := Aside0.mk (Kd.R_drew HO_466002.out)
              replace HO_466003 := Aside0.mk (Kd.R_drew HO_466003.out)
              replace BK448 := Aside0.mk (blk_drew BK448.out)
              replace BK449 := Aside0.mk (blk_drew BK449.out)
              replace BK450 := Aside0.mk (blk_drew BK450.out)
              replace BK465 := Aside0.mk (blk_drew BK465.out)
              replace HB := Aside0.mk (below_drew1 HB.out)
              have p466 : 0 ≤ (x46_2 : Int) := pos_
              have q466 : x46_2 < (x466001_2.length : Int) := pos_
              obtain ⟨ad466, e466, hx466_0, hx466_1⟩ := at_T34 (Kd.R_reads' HO_466001.out).2.2 x46_2 p466 q466
              cases e466
              replace p466 := eq_true p466
              replace q466 := eq_true q466
              have p467 : 0 ≤ (x46_2 : Int) := pos_
              have q467 : x46_2 < (l1_1.length : Int) := pos_
              obtain ⟨ad467, e467, hx467_0, hx467_1⟩ := at_T34 HR1_1.out x46_2 p467 q467
              have hw467_1 := hx467_1
              have hw467_0 := hx467_0
              cases e467
              replace hx467_0 := (HB.out.cell (World.block_lt_of_cell? w _ hx467_0)).trans hx467_0
              replace hx467_1 := (HB.out.cell (World.block_lt_of_cell? w _ hx467_1)).trans hx467_1
              replace p467 := eq_true p467
              replace q467 := eq_true q467
              have p52 : 0 ≤ (x46_2 : Int) := pos_
              have q52 : (x46_2 : Int) < ((x466001_2.length : Int) : Int) := pos_
              obtain ⟨go52, co52, eo52, gb52, gl52, cl52, HG52⟩ := Kd.R_form HO_466001.out (by omega)
              (first | cases eo52 | (injection eo52 with ea_ en_ ec_; (first | subst ea_ | (injection ea_ with ea_; subst ea_)); subst ec_; clear en_))
              have GB52 := Aside0.mk gb52
              have GG52 := Aside0.mk HG52
              clear gb52 gl52 HG52
              (first | simp only [add_plain] at hx466_0 | skip)
              (first | simp only [add_plain] at hx466_1 | skip)
              obtain ⟨ce52, hcl52, hM52, hcc52, hfr52⟩ := Kd.R_elem HO_466001.out z34 (x46_2 : Int) p52 q52
              obtain rfl := k34_openM hM52
              have hx52_0 : World.cell? _ ⟨go52, (x46_2 : Int).toNat * 2, none⟩ = some (.int .i64 ((rd_T34 x466001_2 x46_2).f0)) := hcc52 0 _ rfl
              have hx52_1 : World.cell? _ ⟨go52, (x46_2 : Int).toNat * 2 + 1, none⟩ = some (.int .i64 ((rd_T34 x466001_2 x46_2).f1)) := hcc52 1 _ rfl
              have hf52_0 : World.frozen? _ ⟨go52, (x46_2 : Int).toNat * 2, none⟩ = false := hfr52 0
              have hf52_1 : World.frozen? _ ⟨go52, (x46_2 : Int).toNat * 2 + 1, none⟩ = false := hfr52 1
              clear hcl52 hcc52 hfr52 hM52
              replace p52 := eq_true p52
              replace q52 := eq_true q52
              obtain ⟨ce69, hcl69, hM69, hcc69, hfr69⟩ := Kd.R_elem HO_466001.out z34 (x46_2 : Int) (pos_) (by have h_ : (x46_2 : Int) < ((x466001_2.length : Int) : Int) := pos_; first | exact h_ | (have e_ := (Kd.R_reads' HO_466001.out).1; omega) | simpa using h_)
              obtain rfl := k34_openM hM69
              have HP69 := (Kd.R_seg HO_466001.out (x46_2 : Int) (pos_) (by have h_ : (x46_2 : Int) < ((x466001_2.length : Int) : Int) := pos_; first | exact h_ | (have e_ := (Kd.R_reads' HO_466001.out).1; omega) | simpa using h_) (seg := [.int .i64 (wrap64 (((rd_T34 x466001_2 x46_2).f0) + ((rd_T34 l1_1 x46_2).f0)))]) (j := 0) hcl69 hcc69 (show 1 ≤ 2 from by decide) (x' := (⟨wrap64 (((rd_T34 x466001_2 x46_2).f0) + ((rd_T34 l1_1 x46_2).f0)), (rd_T34 x466001_2 x46_2).f1⟩ : S34)) (k34_mkM _ _ _ (⟨wrap64 (((rd_T34 x466001_2 x46_2).f0) + ((rd_T34 l1_1 x46_2).f0)), (rd_T34 x466001_2 x46_2).f1⟩ : S34) ) (fun _ hk => hk)).1
              rw [← Ny468.out] at HP69
              have HQ69 := Aside0.mk HP69
              clear hcl69 hcc69 hfr69 hM69 HP69
              refine start_ (n := 16) (S := fun w' => w'.cell? ⟨gb465, 0, none⟩ = some (.int .i64 t455) ∧ w'.cell? ⟨gb465, 1, none⟩ = some (.slice (some ⟨go52, 0, none⟩) x466001_2.length co45) ∧ w'.cell? ⟨gb465, 2, none⟩ = some (.slice Ao46 t459.length co46) ∧ w'.cell? ⟨gb465, 3, none⟩ = some (.slice Ao47 t462.length co47) ∧ w'.cell? ⟨gb449, 0, none⟩ = some (.int .i64 a1_0) ∧ w'.cell? ⟨gb449, 1, none⟩ = some (.slice (some ad467) l1_1.length c1_1) ∧ w'.cell? ⟨gb449, 2, none⟩ = some (.slice A1_2 l1_2.length c1_2) ∧ w'.cell? ⟨gb449, 3, none⟩ = some (.slice A1_3 l1_3.length c1_3) ∧ w'.cell? ⟨go52, ((x46_2).toNat * 2), none⟩ = some (.int .i64 ((rd_T34 x466001_2 x46_2).f0)) ∧ w'.cell? ⟨go52, ((x46_2).toNat * 2) + 1, none⟩ = some (.int .i64 ((rd_T34 x466001_2 x46_2).f1)) ∧ w'.cell? (ad467.add ((x46_2).toNat * 2)) = some (.int .i64 ((rd_T34 l1_1 x46_2).f0)) ∧ w'.cell? ⟨(ad467.add ((x46_2).toNat * 2)).block, (ad467.add ((x46_2).toNat * 2)).off + 1, none⟩ = some (.int .i64 ((rd_T34 l1_1 x46_2).f1))) (ds := [15]) #[false, false, false, false, false, false, false, false, false, false, false, false, false, false, false, false] (by kernel_rfl) rfl rfl ⟨(blk_cell BK465.out 0).trans rfl, (blk_cell BK465.out 1).trans rfl, (blk_cell BK465.out 2).trans rfl, (blk_cell BK465.out 3).trans rfl, (blk_cell BK449.out 0).trans rfl, (blk_cell BK449.out 1).trans rfl, (blk_cell BK449.out 2).trans rfl, (blk_cell BK449.out 3).trans rfl, hx466_0, hx466_1, ((HB.out.cell (World.block_lt_of_cell? w _ hw467_0)).trans hw467_0), ((HB.out.cell (World.block_lt_of_cell? w _ hw467_1)).trans hw467_1)⟩ (fun hHeld => ?_); refine with_tabW quality_Merge.tab9 quality_Merge.bits9 (fun HT_ HW_ => ?_)
              generalize wr.drew = w68 at HO_466001 HO_466002 HO_466003 BK448 BK449 BK450 BK465 HB GG52 HQ69 hf52_0 hf52_1 hx466_0 hx466_1 hx467_0 hx467_1 hx52_0 hx52_1 hHeld ⊢
              refine pur 0 (some 49) #[true, false, false, false, false, false, false, false, false, false, false, false, false, false, false, false] HT_ ?_
              refine pur 2 (some 51) #[true, false, true, false, false, false, false, false, false, false, false, false, false, false, false, false] HT_ ?_
              refine pur 6 (some 55) #[true, false, true, false, false, false, true, false, false, false, false, false, false, false, false, false] HT_ ?_
              refine pur 8 (some 57) #[true, false, true, false, false, false, true, false, true, false, false, false, false, false, false, false] HT_ ?_
              refine tak 1 (some 50) #[true, true, true, false, false, false, true, false, true, false, false, false, false, false, false, false] HT_ HW_ hHeld rfl (Or.inl ⟨by rfl, by rintro w' ⟨s0, s1, s2, s3, s4, s5, s6, s7, s8, s9, s10, s11⟩; go_simp; with_reducible rfl⟩) ?_
              refine pur 3 (some 52) #[true, true, true, true, false, false, true, false, true, false, false, false, false, false, false, false] HT_ ?_
              refine pur 4 (some 53) #[true, true, true, true, true, false, true, false, true, false, false, false, false, false, false, false] HT_ ?_
              refine tak 5 (some 54) #[true, true, true, true, true, true, true, false, true, false, false, false, false, false, false, false] HT_ HW_ hHeld rfl (Or.inl ⟨by rfl, by rintro w' ⟨s0, s1, s2, s3, s4, s5, s6, s7, s8, s9, s10, s11⟩; go_simp; with_reducible rfl⟩) ?_
              refine tak 7 (some 56) #[true, true, true, true, true, true, true, true, true, false, false, false, false, false, false, false] HT_ HW_ hHeld rfl (Or.inl ⟨by rfl, by rintro w' ⟨s0, s1, s2, s3, s4, s5, s6, s7, s8, s9, s10, s11⟩; go_simp; with_reducible rfl⟩) ?_
              refine pur 9 (some 58) #[true, true, true, true, true, true, true, true, true, true, false, false, false, false, false, false] HT_ ?_
              refine pur 10 (some 59) #[true, true, true, true, true, true, true, true, true, true, true, false, false, false, false, false] HT_ ?_
              refine tak 11 (some 60) #[true, true, true, true, true, true, true, true, true, true, true, true, false, false, false, false] HT_ HW_ hHeld rfl (Or.inl ⟨by rfl, by rintro w' ⟨s0, s1, s2, s3, s4, s5, s6, s7, s8, s9, s10, s11⟩; go_simp; with_reducible rfl⟩) ?_
              refine pur 12 (some 61) #[true, true, true, true, true, true, true, true, true, true, true, true, true, false, false, false] HT_ ?_
              refine pur 13 (some 62) #[true, true, true, true, true, true, true, true, true, true, true, true, true, true, false, false] HT_ ?_
              refine pur 14 (some 63) #[true, true, true, true, true, true, true, true, true, true, true, true, true, true, true, false] HT_ ?_
              refine last_ (i := 15) (N := none) #[true, true, true, true, true, true, true, true, true, true, true, true, true, true, true, true] rfl rfl (one_of HT_.out (by kernel_rfl)) (by decide) (fun K hK => ?_)
              refine skip_ (w1 := ?_) (by rfl) rfl ?_ ?_
              rotate_left
              ·go_simp
               rfl
              refine hK.out _ _ ?_
              clear hK K
              refine done_ (done_of HT_.out (by kernel_rfl)) ?_
              have n0_ : Aside0 (Kd.R k34 34 (w68.setCell ⟨go52, (x46_2 : Int).toNat * 2, none⟩ (.int .i64 (wrap64 (((rd_T34 x466001_2 x46_2).f0) + ((rd_T34 l1_1 x46_2).f0))))) w.heap.size (fun _ => True) (.slice (some ⟨go52, 0, none⟩) x466001_2.length co45) y468) := ⟨by (with_reducible repeat (first | apply Kd.R_alloc | apply Kd.R_drewN | apply Kd.R_drew)); exact HQ69.out⟩
              have n1_ : Aside0 (Kd.R (Kd.int .i64) 3 (w68.setCell ⟨go52, (x46_2 : Int).toNat * 2, none⟩ (.int .i64 (wrap64 (((rd_T34 x466001_2 x46_2).f0) + ((rd_T34 l1_1 x46_2).f0))))) w.heap.size (fun k_ => some k_ ≠ (.slice Ao47 t462.length co47 : Value).ownBlock) (.slice Ao46 t459.length co46) t459) := ⟨by (with_reducible repeat (first | apply Kd.R_alloc | apply Kd.R_drewN | apply Kd.R_drew)); exact Kd.R_mono (Kd.R_far (p := ⟨go52, (x46_2 : Int).toNat * 2, none⟩) (Kd.R_types HO_466002.out (Exists.choose_spec (Kd.R_typed HO_466001.out go52 rfl)) (by decide)) (fun _ hk => hk.2) (.int .i64 (wrap64 (((rd_T34 x466001_2 x46_2).f0) + ((rd_T34 l1_1 x46_2).f0))))) (fun _ hk => hk.1)⟩
              have n2_ : Aside0 (Kd.R (Kd.int .i64) 3 (w68.setCell ⟨go52, (x46_2 : Int).toNat * 2, none⟩ (.int .i64 (wrap64 (((rd_T34 x466001_2 x46_2).f0) + ((rd_T34 l1_1 x46_2).f0))))) w.heap.size (fun k_ => some k_ ≠ (.slice Ao46 t459.length co46 : Value).ownBlock) (.slice Ao47 t462.length co47) t462) := ⟨by (with_reducible repeat (first | apply Kd.R_alloc | apply Kd.R_drewN | apply Kd.R_drew)); exact Kd.R_mono (Kd.R_far (p := ⟨go52, (x46_2 : Int).toNat * 2, none⟩) (Kd.R_types HO_466003.out (Exists.choose_spec (Kd.R_typed HO_466001.out go52 rfl)) (by decide)) (fun _ hk => hk.2) (.int .i64 (wrap64 (((rd_T34 x466001_2 x46_2).f0) + ((rd_T34 l1_1 x46_2).f0))))) (fun _ hk => hk.1)⟩
              have n3_ : Aside0 ((w68.setCell ⟨go52, (x46_2 : Int).toNat * 2, none⟩ (.int .i64 (wrap64 (((rd_T34 x466001_2 x46_2).f0) + ((rd_T34 l1_1 x46_2).f0))))).heap[gb448]? = some (.cells #[.int .i64 a0_0, .slice A0_1 l0_1.length c0_1, .slice A0_2 l0_2.length c0_2, .slice A0_3 l0_3.length c0_3] 25 (0, 0))) := ⟨by (with_reducible repeat (first | refine blk_drewN ?_ _ | refine blk_drew ?_ | refine blk_alloc ?_ _)); refine blk_far ?_ (by have h_ := Kd.R_ne HO_466001.out BK448.out (by decide); intro e_; exact h_ (by rw [e_]; rfl)) _; (with_reducible repeat (first | refine blk_drewN ?_ _ | refine blk_drew ?_ | refine blk_alloc ?_ _)); exact BK448.out⟩
              have n4_ : Aside0 ((w68.setCell ⟨go52, (x46_2 : Int).toNat * 2, none⟩ (.int .i64 (wrap64 (((rd_T34 x466001_2 x46_2).f0) + ((rd_T34 l1_1 x46_2).f0))))).heap[gb449]? = some (.cells #[.int .i64 a1_0, .slice (some ad467) l1_1.length c1_1, .slice A1_2 l1_2.length c1_2, .slice A1_3 l1_3.length c1_3] 25 (0, 0))) := ⟨by (with_reducible repeat (first | refine blk_drewN ?_ _ | refine blk_drew ?_ | refine blk_alloc ?_ _)); refine blk_far ?_ (by have h_ := Kd.R_ne HO_466001.out BK449.out (by decide); intro e_; exact h_ (by rw [e_]; rfl)) _; (with_reducible repeat (first | refine blk_drewN ?_ _ | refine blk_drew ?_ | refine blk_alloc ?_ _)); exact BK449.out⟩
              have n5_ : Aside0 ((w68.setCell ⟨go52, (x46_2 : Int).toNat * 2, none⟩ (.int .i64 (wrap64 (((rd_T34 x466001_2 x46_2).f0) + ((rd_T34 l1_1 x46_2).f0))))).heap[gb450]? = some (.cells #[.int .i64 x451000_2, .slice none 0 0, .slice none 0 0, .slice none 0 0] 25 (0, 0))) := ⟨by (with_reducible repeat (first | refine blk_drewN ?_ _ | refine blk_drew ?_ | refine blk_alloc ?_ _)); refine blk_far ?_ (by have h_ := Kd.R_ne HO_466001.out BK450.out (by decide); intro e_; exact h_ (by rw [e_]; rfl)) _; (with_reducible repeat (first | refine blk_drewN ?_ _ | refine blk_drew ?_ | refine blk_alloc ?_ _)); exact BK450.out⟩
              have n6_ : Aside0 ((w68.setCell ⟨go52, (x46_2 : Int).toNat * 2, none⟩ (.int .i64 (wrap64 (((rd_T34 x466001_2 x46_2).f0) + ((rd_T34 l1_1 x46_2).f0))))).heap[gb465]? = some (.cells #[.int .i64 t455, .slice (some ⟨go52, 0, none⟩) x466001_2.length co45, .slice Ao46 t459.length co46, .slice Ao47 t462.length co47] 25 (0, 0))) := ⟨by (with_reducible repeat (first | refine blk_drewN ?_ _ | refine blk_drew ?_ | refine blk_alloc ?_ _)); refine blk_far ?_ (by have h_ := Kd.R_ne HO_466001.out BK465.out (by decide); intro e_; exact h_ (by rw [e_]; rfl)) _; (with_reducible repeat (first | refine blk_drewN ?_ _ | refine blk_drew ?_ | refine blk_alloc ?_ _)); exact BK465.out⟩
              have n7_ : Aside0 (Below w.heap.size w (w68.setCell ⟨go52, (x46_2 : Int).toNat * 2, none⟩ (.int .i64 (wrap64 (((rd_T34 x466001_2 x46_2).f0) + ((rd_T34 l1_1 x46_2).f0)))))) := ⟨by repeat (first | (with_reducible first | exact HB.out | apply below_alloc | apply pw_below_drewN | apply below_drew1 | refine below_set ?_ GB52.out | refine below_set ?_ GE448.out | refine below_set ?_ GE449.out | refine below_set ?_ GE450.out | refine below_set ?_ GE465.out) | exact HB.out)⟩
              (try clear HO_466001)
              (try clear HO_466002)
              (try clear HO_466003)
              (try clear BK448)
              (try clear BK449)
              (try clear BK450)
              (try clear BK465)
              (try clear HB)
              generalize (w68.setCell ⟨go52, (x46_2 : Int).toNat * 2, none⟩ (.int .i64 (wrap64 (((rd_T34 x466001_2 x46_2).f0) + ((rd_T34 l1_1 x46_2).f0))))) = w70 at n0_ n1_ n2_ n3_ n4_ n5_ n6_ n7_ ⊢
              have HO_466001 := n0_
              have HO_466002 := n1_
              have HO_466003 := n2_
              have BK448 := n3_
              have BK449 := n4_
              have BK450 := n5_
              have BK465 := n6_
              have HB := n7_
              clear n0_ n1_ n2_ n3_ n4_ n5_ n6_ n7_
              try go_wp2
              replace HO_466001 := Aside0.mk (Kd.R_drew HO_466001.out)
              replace HO_466002 := Aside0.mk (Kd.R_drew HO_466002.out)
              replace HO_466003 := Aside0.mk (Kd.R_drew HO_466003.out)
              replace BK448 := Aside0.mk (blk_drew BK448.out)
              replace BK449 := Aside0.mk (blk_drew BK449.out)
              replace BK450 := Aside0.mk (blk_drew BK450.out)
              replace BK465 := Aside0.mk (blk_drew BK465.out)
              replace HB := Aside0.mk (below_drew1 HB.out)
              have p469 : 0 ≤ (x46_2 : Int) := pos_
              have q469 : x46_2 < (y468.length : Int) := (by have h_ : (x46_2 : Int) < ((x466001_2.length : Int) : Int) := pos_; first | (have e_ := (Kd.R_reads' HO_466001.out).1; omega) | simpa only [Ny468.out, List.length_set] using h_)
              have ql469 : ((x46_2 : Int) < ((x466001_2.length : Int) : Int)) = True := eq_true (pos_)
              obtain ⟨ad469, e469, hx469_0, hx469_1⟩ := at_T34 (Kd.R_reads' HO_466001.out).2.2 x46_2 p469 q469
              obtain rfl : (⟨go52, 0, none⟩ : Addr) = ad469 := (by injection e469)
              (first | simp only [add_plain] at hx469_0 | simp only [add_at] at hx469_0 | simp only [Addr.add, Nat.zero_add] at hx469_0 | skip)
              (first | simp only [add_plain] at hx469_1 | simp only [add_at] at hx469_1 | simp only [Addr.add, Nat.zero_add] at hx469_1 | skip)
              replace p469 := eq_true p469
              replace q469 := eq_true q469
              have p470 : 0 ≤ (x46_2 : Int) := pos_
              have q470 : x46_2 < (l1_1.length : Int) := pos_
              obtain ⟨ad470, e470, hx470_0, hx470_1⟩ := at_T34 HR1_1.out x46_2 p470 q470
              have hw470_1 := hx470_1
              have hw470_0 := hx470_0
              obtain rfl : ad467 = ad470 := (by injection e470)
              replace hx470_0 := (HB.out.cell (World.block_lt_of_cell? w _ hx470_0)).trans hx470_0
              replace hx470_1 := (HB.out.cell (World.block_lt_of_cell? w _ hx470_1)).trans hx470_1
              replace p470 := eq_true p470
              replace q470 := eq_true q470
              have p53 : 0 ≤ (x46_2 : Int) := pos_
              have q53 : (x46_2 : Int) < ((x466001_2.length : Int) : Int) := pos_
              obtain ⟨go_, co_, eo_, gb_, gl_, cl_, HG_⟩ := Kd.R_form HO_466001.out (by have e_ := (Kd.R_reads' HO_466001.out).1; omega)
              obtain rfl : go52 = go_ := Option.some.inj (show some go52 = some go_ from congrArg Value.ownBlock eo_)
              replace GG52 := Aside0.mk HG_
              clear eo_ gb_ gl_ HG_
              obtain ⟨ce53, hcl53, hM53, hcc53, hfr53⟩ := Kd.R_elem HO_466001.out z34 (x46_2 : Int) p53 q53
              obtain rfl := k34_openM hM53
              have hx53_0 : World.cell? _ ⟨go52, (x46_2 : Int).toNat * 2, none⟩ = some (.int .i64 ((rd_T34 y468 x46_2).f0)) := hcc53 0 _ rfl
              have hx53_1 : World.cell? _ ⟨go52, (x46_2 : Int).toNat * 2 + 1, none⟩ = some (.int .i64 ((rd_T34 y468 x46_2).f1)) := hcc53 1 _ rfl
              have hf53_0 : World.frozen? _ ⟨go52, (x46_2 : Int).toNat * 2, none⟩ = false := hfr53 0
              have hf53_1 : World.frozen? _ ⟨go52, (x46_2 : Int).toNat * 2 + 1, none⟩ = false := hfr53 1
              clear hcl53 hcc53 hfr53 hM53
              replace p53 := eq_true p53
              replace q53 := eq_true q53
              obtain ⟨ce72, hcl72, hM72, hcc72, hfr72⟩ := Kd.R_elem HO_466001.out z34 (x46_2 : Int) (pos_) (by have h_ : (x46_2 : Int) < ((x466001_2.length : Int) : Int) := pos_; first | exact h_ | (have e_ := (Kd.R_reads' HO_466001.out).1; omega) | simpa using h_)
              obtain rfl := k34_openM hM72
              have HP72 := (Kd.R_seg HO_466001.out (x46_2 : Int) (pos_) (by have h_ : (x46_2 : Int) < ((x466001_2.length : Int) : Int) := pos_; first | exact h_ | (have e_ := (Kd.R_reads' HO_466001.out).1; omega) | simpa using h_) (seg := [.int .i64 (wrap64 (((rd_T34 y468 x46_2).f1) + ((rd_T34 l1_1 x46_2).f1)))]) (j := 1) hcl72 hcc72 (show 2 ≤ 2 from by decide) (x' := (⟨(rd_T34 y468 x46_2).f0, wrap64 (((rd_T34 y468 x46_2).f1) + ((rd_T34 l1_1 x46_2).f1))⟩ : S34)) (k34_mkM _ _ _ (⟨(rd_T34 y468 x46_2).f0, wrap64 (((rd_T34 y468 x46_2).f1) + ((rd_T34 l1_1 x46_2).f1))⟩ : S34) ) (fun _ hk => hk)).1
              rw [← Ny471.out] at HP72
              have HQ72 := Aside0.mk HP72
              clear hcl72 hcc72 hfr72 hM72 HP72
              refine start_ (n := 16) (S := fun w' => w'.cell? ⟨gb465, 0, none⟩ = some (.int .i64 t455) ∧ w'.cell? ⟨gb465, 1, none⟩ = some (.slice (some ⟨go52, 0, none⟩) x466001_2.length co45) ∧ w'.cell? ⟨gb465, 2, none⟩ = some (.slice Ao46 t459.length co46) ∧ w'.cell? ⟨gb465, 3, none⟩ = some (.slice Ao47 t462.length co47) ∧ w'.cell? ⟨gb449, 0, none⟩ = some (.int .i64 a1_0) ∧ w'.cell? ⟨gb449, 1, none⟩ = some (.slice (some ad467) l1_1.length c1_1) ∧ w'.cell? ⟨gb449, 2, none⟩ = some (.slice A1_2 l1_2.length c1_2) ∧ w'.cell? ⟨gb449, 3, none⟩ = some (.slice A1_3 l1_3.length c1_3) ∧ w'.cell? ⟨go52, (x46_2).toNat * 2, none⟩ = some (.int .i64 ((rd_T34 y468 x46_2).f0)) ∧ w'.cell? ⟨go52, (x46_2).toNat * 2 + 1, none⟩ = some (.int .i64 ((rd_T34 y468 x46_2).f1)) ∧ w'.cell? (ad467.add ((x46_2).toNat * 2)) = some (.int .i64 ((rd_T34 l1_1 x46_2).f0)) ∧ w'.cell? ⟨(ad467.add ((x46_2).toNat * 2)).block, (ad467.add ((x46_2).toNat * 2)).off + 1, none⟩ = some (.int .i64 ((rd_T34 l1_1 x46_2).f1))) (ds := [15]) #[false, false, false, false, false, false, false, false, false, false, false, false, false, false, false, false] (by kernel_rfl) rfl rfl ⟨(blk_cell BK465.out 0).trans rfl, (blk_cell BK465.out 1).trans rfl, (blk_cell BK465.out 2).trans rfl, (blk_cell BK465.out 3).trans rfl, (blk_cell BK449.out 0).trans rfl, (blk_cell BK449.out 1).trans rfl, (blk_cell BK449.out 2).trans rfl, (blk_cell BK449.out 3).trans rfl, hx469_0, hx469_1, ((HB.out.cell (World.block_lt_of_cell? w _ hw470_0)).trans hw470_0), ((HB.out.cell (World.block_lt_of_cell? w _ hw470_1)).trans hw470_1)⟩ (fun hHeld => ?_); refine with_tabW quality_Merge.tab10 quality_Merge.bits10 (fun HT_ HW_ => ?_)
              generalize w70.drew = w71 at HO_466001 HO_466002 HO_466003 BK448 BK449 BK450 BK465 HB HQ72 hf53_0 hf53_1 hx469_0 hx469_1 hx470_0 hx470_1 hx53_0 hx53_1 hHeld GG52 ⊢
              refine pur 0 (some 64) #[true, false, false, false, false, false, false, false, false, false, false, false, false, false, false, false] HT_ ?_
              refine pur 2 (some 66) #[true, false, true, false, false, false, false, false, false, false, false, false, false, false, false, false] HT_ ?_
              refine pur 6 (some 70) #[true, false, true, false, false, false, true, false, false, false, false, false, false, false, false, false] HT_ ?_
              refine pur 8 (some 72) #[true, false, true, false, false, false, true, false, true, false, false, false, false, false, false, false] HT_ ?_
              refine tak 1 (some 65) #[true, true, true, false, false, false, true, false, true, false, false, false, false, false, false, false] HT_ HW_ hHeld rfl (Or.inl ⟨by rfl, by rintro w' ⟨s0, s1, s2, s3, s4, s5, s6, s7, s8, s9, s10, s11⟩; go_simp; with_reducible rfl⟩) ?_
              refine pur 3 (some 67) #[true, true, true, true, false, false, true, false, true, false, false, false, false, false, false, false] HT_ ?_
              refine pur 4 (some 68) #[true, true, true, true, true, false, true, false, true, false, false, false, false, false, false, false] HT_ ?_
              refine tak 5 (some 69) #[true, true, true, true, true, true, true, false, true, false, false, false, false, false, false, false] HT_ HW_ hHeld rfl (Or.inl ⟨by rfl, by rintro w' ⟨s0, s1, s2, s3, s4, s5, s6, s7, s8, s9, s10, s11⟩; go_simp; with_reducible rfl⟩) ?_
              refine tak 7 (some 71) #[true, true, true, true, true, true, true, true, true, false, false, false, false, false, false, false] HT_ HW_ hHeld rfl (Or.inl ⟨by rfl, by rintro w' ⟨s0, s1, s2, s3, s4, s5, s6, s7, s8, s9, s10, s11⟩; go_simp; with_reducible rfl⟩) ?_
              refine pur 9 (some 73) #[true, true, true, true, true, true, true, true, true, true, false, false, false, false, false, false] HT_ ?_
              refine pur 10 (some 74) #[true, true, true, true, true, true, true, true, true, true, true, false, false, false, false, false] HT_ ?_
              refine tak 11 (some 75) #[true, true, true, true, true, true, true, true, true, true, true, true, false, false, false, false] HT_ HW_ hHeld rfl (Or.inl ⟨by rfl, by rintro w' ⟨s0, s1, s2, s3, s4, s5, s6, s7, s8, s9, s10, s11⟩; go_simp; with_reducible rfl⟩) ?_
              refine pur 12 (some 76) #[true, true, true, true, true, true, true, true, true, true, true, true, true, false, false, false] HT_ ?_
              refine pur 13 (some 77) #[true, true, true, true, true, true, true, true, true, true, true, true, true, true, false, false] HT_ ?_
              refine pur 14 (some 78) #[true, true, true, true, true, true, true, true, true, true, true, true, true, true, true, false] HT_ ?_
              refine last_ (i := 15) (N := none) #[true, true, true, true, true, true, true, true, true, true, true, true, true, true, true, true] rfl rfl (one_of HT_.out (by kernel_rfl)) (by decide) (fun K hK => ?_)
              refine skip_ (w1 := ?_) (by rfl) rfl ?_ ?_
              rotate_left
              ·go_simp
               rfl
              refine hK.out _ _ ?_
              clear hK K
              refine done_ (done_of HT_.out (by kernel_rfl)) ?_
              have n0_ : Aside0 (Kd.R k34 34 (w71.setCell ⟨go52, (x46_2 : Int).toNat * 2 + 1, none⟩ (.int .i64 (wrap64 (((rd_T34 y468 x46_2).f1) + ((rd_T34 l1_1 x46_2).f1))))) w.heap.size (fun _ => True) (.slice (some ⟨go52, 0, none⟩) x466001_2.length co45) y471) := ⟨by (with_reducible repeat (first | apply Kd.R_alloc | apply Kd.R_drewN | apply Kd.R_drew)); exact HQ72.out⟩
              have n1_ : Aside0 (Kd.R (Kd.int .i64) 3 (w71.setCell ⟨go52, (x46_2 : Int).toNat * 2 + 1, none⟩ (.int .i64 (wrap64 (((rd_T34 y468 x46_2).f1) + ((rd_T34 l1_1 x46_2).f1))))) w.heap.size (fun k_ => some k_ ≠ (.slice Ao47 t462.length co47 : Value).ownBlock) (.slice Ao46 t459.length co46) t459) := ⟨by (with_reducible repeat (first | apply Kd.R_alloc | apply Kd.R_drewN | apply Kd.R_drew)); exact Kd.R_mono (Kd.R_far (p := ⟨go52, (x46_2 : Int).toNat * 2 + 1, none⟩) (Kd.R_types HO_466002.out (Exists.choose_spec (Kd.R_typed HO_466001.out go52 rfl)) (by decide)) (fun _ hk => hk.2) (.int .i64 (wrap64 (((rd_T34 y468 x46_2).f1) + ((rd_T34 l1_1 x46_2).f1))))) (fun _ hk => hk.1)⟩
              have n2_ : Aside0 (Kd.R (Kd.int .i64) 3 (w71.setCell ⟨go52, (x46_2 : Int).toNat * 2 + 1, none⟩ (.int .i64 (wrap64 (((rd_T34 y468 x46_2).f1) + ((rd_T34 l1_1 x46_2).f1))))) w.heap.size (fun k_ => some k_ ≠ (.slice Ao46 t459.length co46 : Value).ownBlock) (.slice Ao47 t462.length co47) t462) := ⟨by (with_reducible repeat (first | apply Kd.R_alloc | apply Kd.R_drewN | apply Kd.R_drew)); exact Kd.R_mono (Kd.R_far (p := ⟨go52, (x46_2 : Int).toNat * 2 + 1, none⟩) (Kd.R_types HO_466003.out (Exists.choose_spec (Kd.R_typed HO_466001.out go52 rfl)) (by decide)) (fun _ hk => hk.2) (.int .i64 (wrap64 (((rd_T34 y468 x46_2).f1) + ((rd_T34 l1_1 x46_2).f1))))) (fun _ hk => hk.1)⟩
              have n3_ : Aside0 ((w71.setCell ⟨go52, (x46_2 : Int).toNat * 2 + 1, none⟩ (.int .i64 (wrap64 (((rd_T34 y468 x46_2).f1) + ((rd_T34 l1_1 x46_2).f1))))).heap[gb448]? = some (.cells #[.int .i64 a0_0, .slice A0_1 l0_1.length c0_1, .slice A0_2 l0_2.length c0_2, .slice A0_3 l0_3.length c0_3] 25 (0, 0))) := ⟨by (with_reducible repeat (first | refine blk_drewN ?_ _ | refine blk_drew ?_ | refine blk_alloc ?_ _)); refine blk_far ?_ (by have h_ := Kd.R_ne HO_466001.out BK448.out (by decide); intro e_; exact h_ (by rw [e_]; rfl)) _; (with_reducible repeat (first | refine blk_drewN ?_ _ | refine blk_drew ?_ | refine blk_alloc ?_ _)); exact BK448.out⟩
              have n4_ : Aside0 ((w71.setCell ⟨go52, (x46_2 : Int).toNat * 2 + 1, none⟩ (.int .i64 (wrap64 (((rd_T34 y468 x46_2).f1) + ((rd_T34 l1_1 x46_2).f1))))).heap[gb449]? = some (.cells #[.int .i64 a1_0, .slice (some ad467) l1_1.length c1_1, .slice A1_2 l1_2.length c1_2, .slice A1_3 l1_3.length c1_3] 25 (0, 0))) := ⟨by (with_reducible repeat (first | refine blk_drewN ?_ _ | refine blk_drew ?_ | refine blk_alloc ?_ _)); refine blk_far ?_ (by have h_ := Kd.R_ne HO_466001.out BK449.out (by decide); intro e_; exact h_ (by rw [e_]; rfl)) _; (with_reducible repeat (first | refine blk_drewN ?_ _ | refine blk_drew ?_ | refine blk_alloc ?_ _)); exact BK449.out⟩
              have n5_ : Aside0 ((w71.setCell ⟨go52, (x46_2 : Int).toNat * 2 + 1, none⟩ (.int .i64 (wrap64 (((rd_T34 y468 x46_2).f1) + ((rd_T34 l1_1 x46_2).f1))))).heap[gb450]? = some (.cells #[.int .i64 x451000_2, .slice none 0 0, .slice none 0 0, .slice none 0 0] 25 (0, 0))) := ⟨by (with_reducible repeat (first | refine blk_drewN ?_ _ | refine blk_drew ?_ | refine blk_alloc ?_ _)); refine blk_far ?_ (by have h_ := Kd.R_ne HO_466001.out BK450.out (by decide); intro e_; exact h_ (by rw [e_]; rfl)) _; (with_reducible repeat (first | refine blk_drewN ?_ _ | refine blk_drew ?_ | refine blk_alloc ?_ _)); exact BK450.out⟩
              have n6_ : Aside0 ((w71.setCell ⟨go52, (x46_2 : Int).toNat * 2 + 1, none⟩ (.int .i64 (wrap64 (((rd_T34 y468 x46_2).f1) + ((rd_T34 l1_1 x46_2).f1))))).heap[gb465]? = some (.cells #[.int .i64 t455, .slice (some ⟨go52, 0, none⟩) x466001_2.length co45, .slice Ao46 t459.length co46, .slice Ao47 t462.length co47] 25 (0, 0))) := ⟨by (with_reducible repeat (first | refine blk_drewN ?_ _ | refine blk_drew ?_ | refine blk_alloc ?_ _)); refine blk_far ?_ (by have h_ := Kd.R_ne HO_466001.out BK465.out (by decide); intro e_; exact h_ (by rw [e_]; rfl)) _; (with_reducible repeat (first | refine blk_drewN ?_ _ | refine blk_drew ?_ | refine blk_alloc ?_ _)); exact BK465.out⟩
              have n7_ : Aside0 (Below w.heap.size w (w71.setCell ⟨go52, (x46_2 : Int).toNat * 2 + 1, none⟩ (.int .i64 (wrap64 (((rd_T34 y468 x46_2).f1) + ((rd_T34 l1_1 x46_2).f1)))))) := ⟨by repeat (first | (with_reducible first | exact HB.out | apply below_alloc | apply pw_below_drewN | apply below_drew1 | refine below_set ?_ GB52.out | refine below_set ?_ GE448.out | refine below_set ?_ GE449.out | refine below_set ?_ GE450.out | refine below_set ?_ GE465.out) | exact HB.out)⟩
              (try clear HO_466001)
              (try clear HO_466002)
              (try clear HO_466003)
              (try clear BK448)
              (try clear BK449)
              (try clear BK450)
              (try clear BK465)
              (try clear HB)
              generalize (w71.setCell ⟨go52, (x46_2 : Int).toNat * 2 + 1, none⟩ (.int .i64 (wrap64 (((rd_T34 y468 x46_2).f1) + ((rd_T34 l1_1 x46_2).f1))))) = w73 at n0_ n1_ n2_ n3_ n4_ n5_ n6_ n7_ ⊢
              have HO_466001 := n0_
              have HO_466002 := n1_
              have HO_466003 := n2_
              have BK448 := n3_
              have BK449 := n4_
              have BK450 := n5_
              have BK465 := n6_
              have HB := n7_
              clear n0_ n1_ n2_ n3_ n4_ n5_ n6_ n7_
              have hnb74 := NB465_448.out
              have hnc74 := NB448_465.out
              have hnb75 := NB465_449.out
              have hnc75 := NB449_465.out
              have hnb76 := NB465_450.out
              have hnc76 := NB450_465.out
              obtain ⟨z0, z1, z2, z3, y0, y1, y2, y3⟩ := bc4 BK465
              have p54 : 0 ≤ (x46_2 : Int) := pos_
              have q54 : (x46_2 : Int) < ((x466001_2.length : Int) : Int) := pos_
              replace p54 := eq_true p54
              replace q54 := eq_true q54
              (try (obtain ⟨ad54, e54, hx54_0, hx54_1⟩ := at_T34 (Kd.R_reads' HO_466001.out).2.2 x46_2 (of_eq_true p54) (by first | exact of_eq_true q54 | (have h_ := of_eq_true q54; have e_ := (Kd.R_reads' HO_466001.out).1; omega) | (have h_ := of_eq_true q54; simpa only [Ny468.out, Ny471.out, List.length_set] using h_)); obtain rfl : (⟨go52, 0, none⟩ : Addr) = ad54 := (by injection e54); (first | simp only [add_plain] at hx54_0 | simp only [add_at] at hx54_0 | simp only [Addr.add, Nat.zero_add] at hx54_0 | skip); (first | simp only [add_plain] at hx54_1 | simp only [add_at] at hx54_1 | simp only [Addr.add, Nat.zero_add] at hx54_1 | skip)))
              (try (have hz_ : rd_T34 y471 x46_2 = _ := (congrArg (fun l_ => rd_T34 l_ x46_2) Ny471.out).trans (getD_set _ _ _ _ (by have p_ := of_eq_true p54; have h_ := of_eq_true q54; have e_ := (Kd.R_reads' HO_466001.out).1; first | omega | (simp only [Ny468.out, Ny471.out, List.length_set]; omega) | (simp only [Ny468.out, Ny471.out, List.length_set] at e_ ⊢; omega))); rw [hz_] at hx54_0 hx54_1; clear hz_; dsimp only at hx54_0 hx54_1))
              try go_wp2_with (first | ((with_reducible refine gate_callee (f := 24) rfl ?_); refine goesL_ (some 84) rfl rfl Try.func24 (by kernel_rfl) rfl #[.agg #[.int .i64 ((rd_T34 y468 x46_2).f0), .int .i64 (wrap64 (((rd_T34 y468 x46_2).f1) + ((rd_T34 l1_1 x46_2).f1)))]] rfl sma ?_; (with_reducible refine (quality_Check.calls ((rd_T34 y468 x46_2).f0) (wrap64 (((rd_T34 y468 x46_2).f1) + ((rd_T34 l1_1 x46_2).f1))) t473 _ A55.out).mono ?_); rintro e w78 ⟨rfl, hb⟩; refine ⟨_, rfl, ?_⟩; replace HO_466001 := rB HO_466001 hb; replace HO_466002 := rB HO_466002 hb; replace HO_466003 := rB HO_466003 hb; replace BK448 := bkB BK448 hb; replace BK449 := bkB BK449 hb; replace BK450 := bkB BK450 hb; replace BK465 := bkB BK465 hb; replace HB := hbS HB hb; (try clear hb); (try clear hb2); (try clear hk); (try clear hi); have hnb79 := NB450_448.out; have hnc79 := NB448_450.out; have hnb80 := NB450_449.out; have hnc80 := NB449_450.out; obtain ⟨z0, z1, z2, z3, y0, y1, y2, y3⟩ := bc4 BK450))
              refine bodyPost_ret (results_ct rfl _ _ gb450 25 #[.int .i64 0, .slice none 0 0, .slice none 0 0, .slice none 0 0] (0, 0) _ rfl (bkp BK450) Try.underlying25 rfl (by kernel_rfl)) rfl ?_
              exact ⟨_, _, _, rerr, rnil, rnil, rnil, hbx HB⟩
            ·rw [if_neg c51] at H
             exact absurd H (by simp)
           ·rw [if_neg c50] at H
            exact absurd H (by simp)
          ·rw [if_neg c49] at H
           exact absurd H (by simp)
         ·rw [if_neg c48] at H
          have c48b0 : decide (x46_2 < (t456.length : Int)) = false := decide_eq_false c48
          (try (have c48b0h := c48b0; simp only [hl466001_2] at c48b0h))
          clear c48
          simp only [Option.some.injEq, Prod.mk.injEq] at H
          obtain ⟨rfl, rfl, rfl, rfl, rfl⟩ := H
          have hnb82 := NB465_448.out
          have hnc82 := NB448_465.out
          have hnb83 := NB465_449.out
          have hnc83 := NB449_465.out
          have hnb84 := NB465_450.out
          have hnc84 := NB450_465.out
          obtain ⟨z0, z1, z2, z3, y0, y1, y2, y3⟩ := bc4 BK465
          have hnb86 := NB450_448.out
          have hnc86 := NB448_450.out
          have hnb87 := NB450_449.out
          have hnc87 := NB449_450.out
          obtain ⟨z0, z1, z2, z3, y0, y1, y2, y3⟩ := bc4 BK450
          go_wp2
          refine bodyPost_ret (results_ct rfl _ _ gb450 25 #[.int .i64 t455, .slice Ao45 x466001_2.length co45, .slice Ao46 t459.length co46, .slice Ao47 t462.length co47] (0, 0) _ rfl (bkp BK450) Try.underlying25 rfl (by kernel_rfl)) rfl ?_
          exact ⟨_, _, _, rerr, Kd.R_mono (rty (rfo HO_466001) BK450) (fun _ hk => trivial), rfo HO_466002, rfo HO_466003, hbx HB⟩
      ·replace c29 := Bool.eq_false_iff.mpr c29
       subst c29
       rw [if_neg (show ¬ (false = true) by decide)] at H
       simp only [Option.some.injEq, Prod.mk.injEq] at H
       obtain ⟨rfl, rfl, rfl, rfl, rfl⟩ := H
       have hnb89 := NB448_449.out
       have hnc89 := NB449_448.out
       have hnb90 := NB448_450.out
       have hnc90 := NB450_448.out
       obtain ⟨z0, z1, z2, z3, y0, y1, y2, y3⟩ := bc4 BK448
       have hnb92 := NB449_450.out
       have hnc92 := NB450_449.out
       obtain ⟨z0, z1, z2, z3, y0, y1, y2, y3⟩ := bc4 BK449
       go_wp2_with (first | (go_at_call 17; (with_reducible refine (slices_Equal_int_int.calls kj2 _ _ l0_2 _ _ l1_2 true _ (cb HR0_2 HB) HC0_2.out (cb HR1_2 HB) HC1_2.out A26.out).mono ?_); rintro e w' ⟨rfl, ⟨nd, rfl⟩⟩; (try (rw [drewN_self wc]; generalize hq_ : World.drewN wc _ = wc; replace BK448 := bkq BK448 hq_; replace BK449 := bkq BK449 hq_; replace BK450 := bkq BK450 hq_; replace HB := hbq HB hq_; clear hq_)); obtain ⟨z0, z1, z2, z3, y0, y1, y2, y3⟩ := bc4 BK448; obtain ⟨z0, z1, z2, z3, y0, y1, y2, y3⟩ := bc4 BK449) | (go_at_call 17; (with_reducible refine (slices_Equal_int_int.calls kj2 _ _ l0_3 _ _ l1_3 false _ (cb HR0_3 HB) HC0_3.out (cb HR1_3 HB) HC1_3.out A28.out).mono ?_); rintro e w' ⟨rfl, ⟨nd, rfl⟩⟩; (try (rw [drewN_self wc]; generalize hq_ : World.drewN wc _ = wc; replace BK448 := bkq BK448 hq_; replace BK449 := bkq BK449 hq_; replace BK450 := bkq BK450 hq_; replace HB := hbq HB hq_; clear hq_)); obtain ⟨z0, z1, z2, z3, y0, y1, y2, y3⟩ := bc4 BK450))
       refine bodyPost_ret (results_ct rfl _ _ gb450 25 #[.int .i64 0, .slice none 0 0, .slice none 0 0, .slice none 0 0] (0, 0) _ rfl (bkp BK450) Try.underlying25 rfl (by kernel_rfl)) rfl ?_
       exact ⟨_, _, _, rerr, rnil, rnil, rnil, hbx HB⟩
     ·replace c27 := Bool.eq_false_iff.mpr c27
      subst c27
      rw [if_neg (show ¬ (false = true) by decide)] at H
      simp only [Option.some.injEq, Prod.mk.injEq] at H
      obtain ⟨rfl, rfl, rfl, rfl, rfl⟩ := H
      have hnb97 := NB448_449.out
      have hnc97 := NB449_448.out
      have hnb98 := NB448_450.out
      have hnc98 := NB450_448.out
      obtain ⟨z0, z1, z2, z3, y0, y1, y2, y3⟩ := bc4 BK448
      have hnb100 := NB449_450.out
      have hnc100 := NB450_449.out
      obtain ⟨z0, z1, z2, z3, y0, y1, y2, y3⟩ := bc4 BK449
      go_wp2_with (first | (go_at_call 17; (with_reducible refine (slices_Equal_int_int.calls kj2 _ _ l0_2 _ _ l1_2 false _ (cb HR0_2 HB) HC0_2.out (cb HR1_2 HB) HC1_2.out A26.out).mono ?_); rintro e w' ⟨rfl, ⟨nd, rfl⟩⟩; (try (rw [drewN_self wc]; generalize hq_ : World.drewN wc _ = wc; replace BK448 := bkq BK448 hq_; replace BK449 := bkq BK449 hq_; replace BK450 := bkq BK450 hq_; replace HB := hbq HB hq_; clear hq_)); obtain ⟨z0, z1, z2, z3, y0, y1, y2, y3⟩ := bc4 BK450))
      refine bodyPost_ret (results_ct rfl _ _ gb450 25 #[.int .i64 0, .slice none 0 0, .slice none 0 0, .slice none 0 0] (0, 0) _ rfl (bkp BK450) Try.underlying25 rfl (by kernel_rfl)) rfl ?_
      exact ⟨_, _, _, rerr, rnil, rnil, rnil, hbx HB⟩
    ·rw [if_neg c25] at H
     have c25b0 : (a0_0 == a1_0) = false := beq_eq_false_iff_ne.mpr c25
     have c25b1 : (a0_0 != a1_0) = true := bne_iff_ne.mpr c25
     simp only [Option.some.injEq, Prod.mk.injEq] at H
     obtain ⟨rfl, rfl, rfl, rfl, rfl⟩ := H
     have hnb103 := NB448_449.out
     have hnc103 := NB449_448.out
     have hnb104 := NB448_450.out
     have hnc104 := NB450_448.out
     obtain ⟨z0, z1, z2, z3, y0, y1, y2, y3⟩ := bc4 BK448
     have hnb106 := NB449_450.out
     have hnc106 := NB450_449.out
     obtain ⟨z0, z1, z2, z3, y0, y1, y2, y3⟩ := bc4 BK449
     obtain ⟨z0, z1, z2, z3, y0, y1, y2, y3⟩ := bc4 BK450
     go_wp2
     refine bodyPost_ret (results_ct rfl _ _ gb450 25 #[.int .i64 0, .slice none 0 0, .slice none 0 0, .slice none 0 0] (0, 0) _ rfl (bkp BK450) Try.underlying25 rfl (by kernel_rfl)) rfl ?_
     exact ⟨_, _, _, rerr, rnil, rnil, rnil, hbx HB⟩
end Go.Proofs.Ytnipgplobipeeaa.PQ
