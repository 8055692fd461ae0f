-- Printed by fprint.py and zip.py, programs of this session's, over the kit's print; Lean checks it.
import Derived.Test.YtnipgplobipeeaaZ0
import Derived.Test.YtnipgplobipeeaaZf24
import Derived.Test.YtnipgplobipeeaaZf12
import Derived.Test.YtnipgplobipeeaaZf17
import Derived.Test.YtnipgplobipeeaaZf47
namespace Go.Proofs.Ytnipgplobipeeaa.PQ
open Go.RowKit Go.Proofs.YtnipgplobipeeaaW.PrintWords Go.Proofs.YtnipgplobipeeaaW.PrintLast Go.Proofs.YtnipgplobipeeaaW.PrintMore
attribute [local go_sem] max2_int min2_int max_two min_two max_three min_three max_four min_four   -- for this text's walks alone
set_option linter.unusedVariables false
set_option linter.unusedSimpArgs false
mutual
def quality_Merge.j0 : Nat → Bool → Int → List (S34) → List Int → List Int → Int → List (S34) → List Int → List Int → Option (Int × (List (S34)) × List Int × List Int × Int)
 | 0, _, _, _, _, _, _, _, _, _ => none
 | k + 1, x8, x446000, x446001, x446002, x446003, x447000, x447001, x447002, x447003 => if x8 = true then (some (0, ([] : List (S34)), ([] : List Int), ([] : List Int), 1)) else (if x446000 = x447000 then ((slices_Equal_int_int.f k x446002 x447002).bind fun t450 => (if t450 = true then ((slices_Equal_int_int.f k x446003 x447003).bind fun t451 => (if t451 = true then ((quality_clone.f x446000 x446001 x446002 x446003).bind fun bt452 => (quality_Merge.l0 k (bt452.2.1.length : Int) 0 x447000 x447001 x447002 x447003 bt452.1 bt452.2.1 bt452.2.2.1 bt452.2.2.2)) else (some (0, ([] : List (S34)), ([] : List Int), ([] : List Int), 11)))) else (some (0, ([] : List (S34)), ([] : List Int), ([] : List Int), 11)))) else (some (0, ([] : List (S34)), ([] : List Int), ([] : List Int), 11)))
def quality_Merge.l0 : Nat → Int → Int → Int → List (S34) → List Int → List Int → Int → List (S34) → List Int → List Int → Option (Int × (List (S34)) × List Int × List Int × Int)
 | 0, _, _, _, _, _, _, _, _, _, _ => none
 | k + 1, x45, x46, x447000, x447001, x447002, x447003, x463000, x463001, x463002, x463003 => if x46 < x45 then (if 0 ≤ x46 then (if x46 < (x463001.length : Int) then (if x46 < (x447001.length : Int) then ((some (x463001.set (x46 : Int).toNat (⟨wrap64 (((rd_T34 x463001 x46).f0) + ((rd_T34 x447001 x46).f0)), (rd_T34 x463001 x46).f1⟩ : S34) : List (S34))).bind fun y465 => ((quality_Check.f ((rd_T34 y465 x46).f0) (wrap64 (((rd_T34 y465 x46).f1) + ((rd_T34 x447001 x46).f1)))).bind fun t470 => (if t470 = 0 then (quality_Merge.l0 k x45 (wrap64 (x46 + 1)) x447000 x447001 x447002 x447003 x463000 (y465.set (x46 : Int).toNat (⟨(rd_T34 y465 x46).f0, wrap64 (((rd_T34 y465 x46).f1) + ((rd_T34 x447001 x46).f1))⟩ : S34)) x463002 x463003) else (some (0, ([] : List (S34)), ([] : List Int), ([] : List Int), 13))))) else (none)) else (none)) else (none)) else (some (x463000, x463001, x463002, x463003, 0))
end
def quality_Merge.f (k : Nat) (a0_0 : Int) (l0_1 : List (S34)) (l0_2 : List Int) (l0_3 : List Int) (a1_0 : Int) (l1_1 : List (S34)) (l1_2 : List Int) (l1_3 : List Int) : Option (Int × (List (S34)) × List Int × List Int × Int) := (quality_Valid.f k a0_0 l0_1 l0_2 l0_3).bind fun t448 => (if t448 = 0 then ((quality_Valid.f k a1_0 l1_1 l1_2 l1_3).bind fun t449 => (quality_Merge.j0 k (t449 != 0) a0_0 l0_1 l0_2 l0_3 a1_0 l1_1 l1_2 l1_3)) else (quality_Merge.j0 k true a0_0 l0_1 l0_2 l0_3 a1_0 l1_1 l1_2 l1_3))
theorem quality_Merge.mono_l : ∀ k, (∀ y0 y1 y2 y3 y4 y5 y6 y7 y8, LeO (quality_Merge.j0 k y0 y1 y2 y3 y4 y5 y6 y7 y8) (quality_Merge.j0 (k + 1) y0 y1 y2 y3 y4 y5 y6 y7 y8)) ∧ (∀ y0 y1 y2 y3 y4 y5 y6 y7 y8 y9, LeO (quality_Merge.l0 k y0 y1 y2 y3 y4 y5 y6 y7 y8 y9) (quality_Merge.l0 (k + 1) y0 y1 y2 y3 y4 y5 y6 y7 y8 y9))
 | 0 => ⟨fun _ _ _ _ _ _ _ _ _ r h => by simp [quality_Merge.j0] at h, fun _ _ _ _ _ _ _ _ _ _ r h => by simp [quality_Merge.l0] at h⟩
 | k + 1 => by
  obtain ⟨ih0, ih1⟩ := quality_Merge.mono_l k
  refine ⟨?_, ?_⟩
  ·intro y0 y1 y2 y3 y4 y5 y6 y7 y8
   unfold quality_Merge.j0
   repeat' first
   | (with_reducible exact ih0 _ _ _ _ _ _ _ _ _)
   | (with_reducible exact ih1 _ _ _ _ _ _ _ _ _ _)
   | (with_reducible exact quality_Valid.mono _ _ _ _ _)
   | (with_reducible exact slices_Equal_int_int.mono _ _ _)
   | (with_reducible exact LeO.refl _)
   | (with_reducible exact LeO.none _)
   | (with_reducible refine LeO.ite ?_ ?_)
   | (with_reducible refine LeO.bind ?_ (fun _ => ?_))
   | exact ih0 _ _ _ _ _ _ _ _ _
   | exact ih1 _ _ _ _ _ _ _ _ _ _
   | exact quality_Valid.mono _ _ _ _ _
   | exact slices_Equal_int_int.mono _ _ _
   | exact LeO.none _
   | refine LeO.ite ?_ ?_
   | refine LeO.bind ?_ (fun _ => ?_)
  ·intro y0 y1 y2 y3 y4 y5 y6 y7 y8 y9
   unfold quality_Merge.l0
   repeat' first
   | (with_reducible exact ih0 _ _ _ _ _ _ _ _ _)
   | (with_reducible exact ih1 _ _ _ _ _ _ _ _ _ _)
   | (with_reducible exact quality_Valid.mono _ _ _ _ _)
   | (with_reducible exact slices_Equal_int_int.mono _ _ _)
   | (with_reducible exact LeO.refl _)
   | (with_reducible exact LeO.none _)
   | (with_reducible refine LeO.ite ?_ ?_)
   | (with_reducible refine LeO.bind ?_ (fun _ => ?_))
   | exact ih0 _ _ _ _ _ _ _ _ _
   | exact ih1 _ _ _ _ _ _ _ _ _ _
   | exact quality_Valid.mono _ _ _ _ _
   | exact slices_Equal_int_int.mono _ _ _
   | exact LeO.none _
   | refine LeO.ite ?_ ?_
   | refine LeO.bind ?_ (fun _ => ?_)
theorem quality_Merge.mono : ∀ a0 a1 a2 a3 a4 a5 a6 a7 k, LeO (quality_Merge.f k a0 a1 a2 a3 a4 a5 a6 a7) (quality_Merge.f (k + 1) a0 a1 a2 a3 a4 a5 a6 a7) := by
 intro a0 a1 a2 a3 a4 a5 a6 a7 k
 obtain ⟨ih0, ih1⟩ := quality_Merge.mono_l k
 unfold quality_Merge.f
 repeat' first
  | (with_reducible exact ih0 _ _ _ _ _ _ _ _ _)
  | (with_reducible exact ih1 _ _ _ _ _ _ _ _ _ _)
  | (with_reducible exact quality_Valid.mono _ _ _ _ _)
  | (with_reducible exact slices_Equal_int_int.mono _ _ _)
  | (with_reducible exact LeO.refl _)
  | (with_reducible exact LeO.none _)
  | (with_reducible refine LeO.ite ?_ ?_)
  | (with_reducible refine LeO.bind ?_ (fun _ => ?_))
  | exact ih0 _ _ _ _ _ _ _ _ _
  | exact ih1 _ _ _ _ _ _ _ _ _ _
  | exact quality_Valid.mono _ _ _ _ _
  | exact slices_Equal_int_int.mono _ _ _
  | exact LeO.none _
  | refine LeO.ite ?_ ?_
  | refine LeO.bind ?_ (fun _ => ?_)
def quality_Merge.T9 : Bool × List (List Nat × List Nat) := (true, [([], []), ([0], [0]), ([], []), ([1, 2], [1, 2]), ([3], [3]), ([4], [4]), ([], []), ([6], [6]), ([], []), ([7, 8], [7, 8]), ([9], [9]), ([10], [10]), ([5, 11], [5, 11]), ([1, 2, 0, 1, 2, 3, 4, 5, 6, 7, 8, 9, 10, 11, 12], [1, 2]), ([13, 0, 1, 2, 3, 4, 5, 6, 7, 8, 9, 10, 11, 12], [13]), ([14, 12, 0, 1, 2, 3, 4, 5, 6, 7, 8, 9, 10, 11, 12], [12, 14])])
def quality_Merge.B9 : List Nat := [0, 1, 0, 7, 15, 31, 0, 64, 0, 448, 960, 1984, 4095, 8191, 16383, 32767]
theorem quality_Merge.tab9 : rtab .any (opsOf Try.f28 9) = quality_Merge.T9 := by kernel_rfl
theorem quality_Merge.bits9 : waitsOk quality_Merge.T9.2 quality_Merge.B9 = true := by kernel_rfl
def quality_Merge.T10 : Bool × List (List Nat × List Nat) := (true, [([], []), ([0], [0]), ([], []), ([1, 2], [1, 2]), ([3], [3]), ([4], [4]), ([], []), ([6], [6]), ([], []), ([7, 8], [7, 8]), ([9], [9]), ([10], [10]), ([5, 11], [5, 11]), ([1, 2, 0, 1, 2, 3, 4, 5, 6, 7, 8, 9, 10, 11, 12], [1, 2]), ([13, 0, 1, 2, 3, 4, 5, 6, 7, 8, 9, 10, 11, 12], [13]), ([14, 12, 0, 1, 2, 3, 4, 5, 6, 7, 8, 9, 10, 11, 12], [12, 14])])
def quality_Merge.B10 : List Nat := [0, 1, 0, 7, 15, 31, 0, 64, 0, 448, 960, 1984, 4095, 8191, 16383, 32767]
theorem quality_Merge.tab10 : rtab .any (opsOf Try.f28 10) = quality_Merge.T10 := by kernel_rfl
theorem quality_Merge.bits10 : waitsOk quality_Merge.T10.2 quality_Merge.B10 = true := by kernel_rfl
set_option maxHeartbeats 8000000 in
set_option maxRecDepth 100000 in
theorem quality_Merge.calls (k : Nat) (a0_0 : Int) (A0_1 : Option Addr) (c0_1 : Nat) (l0_1 : List (S34)) (A0_2 : Option Addr) (c0_2 : Nat) (l0_2 : List Int) (A0_3 : Option Addr) (c0_3 : Nat) (l0_3 : List Int) (a1_0 : Int) (A1_1 : Option Addr) (c1_1 : Nat) (l1_1 : List (S34)) (A1_2 : Option Addr) (c1_2 : Nat) (l1_2 : List Int) (A1_3 : Option Addr) (c1_3 : Nat) (l1_3 : List Int) (r1 : Int) (r2 : List (S34)) (r3 : List Int) (r4 : List Int) (r5 : Int) (w : World) (hr0_1 : Kd.C k34 w A0_1 l0_1.length l0_1) (hc0_1 : l0_1.length ≤ c0_1) (hr0_2 : Kd.C (Kd.int .i64) w A0_2 l0_2.length l0_2) (hc0_2 : l0_2.length ≤ c0_2) (hr0_3 : Kd.C (Kd.int .i64) w A0_3 l0_3.length l0_3) (hc0_3 : l0_3.length ≤ c0_3) (hr1_1 : Kd.C k34 w A1_1 l1_1.length l1_1) (hc1_1 : l1_1.length ≤ c1_1) (hr1_2 : Kd.C (Kd.int .i64) w A1_2 l1_2.length l1_2) (hc1_2 : l1_2.length ≤ c1_2) (hr1_3 : Kd.C (Kd.int .i64) w A1_3 l1_3.length l1_3) (hc1_3 : l1_3.length ≤ c1_3) (h : quality_Merge.f k a0_0 l0_1 l0_2 l0_3 a1_0 l1_1 l1_2 l1_3 = some (r1, r2, r3, r4, r5)) :
 Calls Try.prog 28 #[.agg #[.int .i64 a0_0, .slice A0_1 l0_1.length c0_1, .slice A0_2 l0_2.length c0_2, .slice A0_3 l0_3.length c0_3], .agg #[.int .i64 a1_0, .slice A1_1 l1_1.length c1_1, .slice A1_2 l1_2.length c1_2, .slice A1_3 l1_3.length c1_3]] w fun e w' => ∃ v1_ v2_ v3_ : Value, e = .returned (.tuple #[.agg #[.int .i64 r1, v1_, v2_, v3_], .int .i64 r5]) ∧ Kd.R k34 34 w' w.heap.size (fun _ => True) v1_ r2 ∧ Kd.R (Kd.int .i64) 3 w' w.heap.size (fun k_ => some k_ ≠ (v3_ : Value).ownBlock) v2_ r3 ∧ Kd.R (Kd.int .i64) 3 w' w.heap.size (fun k_ => some k_ ≠ (v2_ : Value).ownBlock) v3_ r4 ∧ Below w.heap.size w w' := by
 have hu25 := Try.underlying25
 have hu34 := Try.underlying34
 have HR0_1 := Aside0.mk hr0_1
 have HC0_1 := Aside0.mk hc0_1
 clear hr0_1 hc0_1
 have HR0_2 := Aside0.mk hr0_2
 have HC0_2 := Aside0.mk hc0_2
 clear hr0_2 hc0_2
 have HR0_3 := Aside0.mk hr0_3
 have HC0_3 := Aside0.mk hc0_3
 clear hr0_3 hc0_3
 have HR1_1 := Aside0.mk hr1_1
 have HC1_1 := Aside0.mk hc1_1
 clear hr1_1 hc1_1
 have HR1_2 := Aside0.mk hr1_2
 have HC1_2 := Aside0.mk hc1_2
 clear hr1_2 hc1_2
 have HR1_3 := Aside0.mk hr1_3
 have HC1_3 := Aside0.mk hc1_3
 clear hr1_3 hc1_3
 have HB := Aside0.mk (Below.refl w.heap.size w)
 have H : ((quality_Valid.f k a0_0 l0_1 l0_2 l0_3).bind fun t448 => (if t448 = 0 then ((quality_Valid.f k a1_0 l1_1 l1_2 l1_3).bind fun t449 => (quality_Merge.j0 k (t449 != 0) a0_0 l0_1 l0_2 l0_3 a1_0 l1_1 l1_2 l1_3)) else (quality_Merge.j0 k true a0_0 l0_1 l0_2 l0_3 a1_0 l1_1 l1_2 l1_3))) = some (r1, r2, r3, r4, r5) := h
 clear h
 have HC3 := Aside0.mk H
 clear H
 go_enter Try.func28, Try.ntmps28
 go_upto_region 1 with (first | ((with_reducible refine gate_dst (N := 2) rfl ?_); refine boxE 2 #[.int .i64 a0_0, .slice A0_1 l0_1.length c0_1, .slice A0_2 l0_2.length c0_2, .slice A0_3 l0_3.length c0_3] 25 ?_; intro gb445 hg w4 hbox hb; have BK445 := Aside0.mk (hbox); have GW445 := gw hg HB; have GE445 := gw hg HB; replace HB := hbS HB hb; clear hb hbox hg) | ((with_reducible refine gate_dst (N := 3) rfl ?_); refine boxE 3 #[.int .i64 a1_0, .slice A1_1 l1_1.length c1_1, .slice A1_2 l1_2.length c1_2, .slice A1_3 l1_3.length c1_3] 25 ?_; intro gb446 hg w5 hbox hb; have BK446 := Aside0.mk (hbox); have GW446 := gw hg HB; have GE446 := gw hg HB; replace HB := hbS HB hb; have NB445_446 := nbl hg BK445; have NB446_445 := nbg hg BK445; replace BK445 := bkB BK445 hb; clear hb hbox hg) | ((with_reducible refine gate_dst (N := 4) rfl ?_); refine boxE 4 #[.int .i64 0, .slice none 0 0, .slice none 0 0, .slice none 0 0] 25 ?_; intro gb447 hg w6 hbox hb; have BK447 := Aside0.mk (hbox); have GW447 := gw hg HB; have GE447 := gw hg HB; replace HB := hbS HB hb; have NB445_447 := nbl hg BK445; have NB447_445 := nbg hg BK445; replace BK445 := bkB BK445 hb; have NB446_447 := nbl hg BK446; have NB447_446 := nbg hg BK446; replace BK446 := bkB BK446 hb; clear hb hbox hg))
 (try simp only [Act.put, List.setIfInBounds_toArray, List.set_cons_zero, List.set_cons_succ])
 go_cut [8] (fun v8 wc => ∃ (kq : Nat) (x8_2 : Bool), v8 = .bool x8_2 ∧ Aside0 (quality_Merge.j0 kq x8_2 a0_0 l0_1 l0_2 l0_3 a1_0 l1_1 l1_2 l1_3 = some (r1, r2, r3, r4, r5)) ∧ Aside0 (kq ≤ k) ∧ Aside0 (wc.heap[gb445]? = some (.cells #[.int .i64 a0_0, (.slice A0_1 l0_1.length c0_1), (.slice A0_2 l0_2.length c0_2), (.slice A0_3 l0_3.length c0_3)] 25 (0, 0))) ∧ Aside0 (wc.heap[gb446]? = some (.cells #[.int .i64 a1_0, (.slice A1_1 l1_1.length c1_1), (.slice A1_2 l1_2.length c1_2), (.slice A1_3 l1_3.length c1_3)] 25 (0, 0))) ∧ Aside0 (wc.heap[gb447]? = some (.cells #[.int .i64 0, (.slice none 0 0), (.slice none 0 0), (.slice none 0 0)] 25 (0, 0))) ∧ Aside0 (Below w.heap.size w wc))
 case first =>
  have H := HC3.out
  clear HC3
  replace H := Option.bind_eq_some_iff.mp H
  obtain ⟨t448, A70, H⟩ := H
  (try dsimp only at H)
  have A7 := Aside0.mk A70
  clear A70
  by_cases c8 : t448 = 0
  ·rw [if_pos c8] at H
   have c8b0 : (t448 == 0) = true := beq_iff_eq.mpr c8
   have c8b1 : (t448 != 0) = false := bne_eq_false_iff_eq.mpr c8
   clear c8
   (first | rw [c8b0] | (simp only [i64_w, i32_w]; rw [c8b0]) | skip)
   replace H := Option.bind_eq_some_iff.mp H
   obtain ⟨t449, A90, H⟩ := H
   (try dsimp only at H)
   have A9 := Aside0.mk A90
   clear A90
   have H' := Aside0.mk H
   clear H
   have hnb10 := NB445_446.out
   have hnc10 := NB446_445.out
   have hnb11 := NB445_447.out
   have hnc11 := NB447_445.out
   obtain ⟨z0, z1, z2, z3, y0, y1, y2, y3⟩ := bc4 BK445
   go_wp2_with (first | ((with_reducible refine gate_callee (f := 12) rfl ?_); refine goesL_ (some 10) rfl rfl Try.func12 (by kernel_rfl) rfl #[.agg #[.int .i64 a0_0, .slice A0_1 l0_1.length c0_1, .slice A0_2 l0_2.length c0_2, .slice A0_3 l0_3.length c0_3]] rfl sma ?_; (with_reducible refine (quality_Valid.calls k a0_0 _ _ l0_1 _ _ l0_2 _ _ l0_3 t448 _ (cb HR0_1 HB) HC0_1.out (cb HR0_2 HB) HC0_2.out (cb HR0_3 HB) HC0_3.out A7.out).mono ?_); rintro e w13 ⟨rfl, hb⟩; refine ⟨_, rfl, ?_⟩; replace BK445 := bkB BK445 hb; replace BK446 := bkB BK446 hb; replace BK447 := bkB BK447 hb; replace HB := hbS HB hb; (try clear hb); (try clear hb2); (try clear hk); (try clear hi); have hnb14 := NB446_447.out; have hnc14 := NB447_446.out; obtain ⟨z0, z1, z2, z3, y0, y1, y2, y3⟩ := bc4 BK446) | (go_at_call 12; (with_reducible refine (quality_Valid.calls k a1_0 _ _ l1_1 _ _ l1_2 _ _ l1_3 t449 _ (cb HR1_1 HB) HC1_1.out (cb HR1_2 HB) HC1_2.out (cb HR1_3 HB) HC1_3.out A9.out).mono ?_); rintro e w16 ⟨rfl, hb⟩; replace BK445 := bkB BK445 hb; replace BK446 := bkB BK446 hb; replace BK447 := bkB BK447 hb; replace HB := hbS HB hb; (try clear hb); (try clear hb2); (try clear hk); (try clear hi)))
   go_meet
   case rel => exact ⟨_, ((t449 != 0)), rfs, H', kle, bkA BK445, bkA BK446, bkA BK447, hbA HB⟩
  ·rw [if_neg c8] at H
   have c8b0 : (t448 == 0) = false := beq_eq_false_iff_ne.mpr c8
   have c8b1 : (t448 != 0) = true := bne_iff_ne.mpr c8
   (first | rw [c8b0] | (simp only [i64_w, i32_w]; rw [c8b0]) | skip)
   have H' := Aside0.mk H
   clear H
   have hnb17 := NB445_446.out
   have hnc17 := NB446_445.out
   have hnb18 := NB445_447.out
   have hnc18 := NB447_445.out
   obtain ⟨z0, z1, z2, z3, y0, y1, y2, y3⟩ := bc4 BK445
   go_wp2_with (first | ((with_reducible refine gate_callee (f := 12) rfl ?_); refine goesL_ (some 10) rfl rfl Try.func12 (by kernel_rfl) rfl #[.agg #[.int .i64 a0_0, .slice A0_1 l0_1.length c0_1, .slice A0_2 l0_2.length c0_2, .slice A0_3 l0_3.length c0_3]] rfl sma ?_; (with_reducible refine (quality_Valid.calls k a0_0 _ _ l0_1 _ _ l0_2 _ _ l0_3 t448 _ (cb HR0_1 HB) HC0_1.out (cb HR0_2 HB) HC0_2.out (cb HR0_3 HB) HC0_3.out A7.out).mono ?_); rintro e w20 ⟨rfl, hb⟩; refine ⟨_, rfl, ?_⟩; replace BK445 := bkB BK445 hb; replace BK446 := bkB BK446 hb; replace BK447 := bkB BK447 hb; replace HB := hbS HB hb; (try clear hb); (try clear hb2); (try clear hk); (try clear hi)))
   go_meet
   case rel => exact ⟨_, (true), rfs, H', kle, bkA BK445, bkA BK446, bkA BK447, hbA HB⟩
 case rest =>
  clear HC3
  obtain ⟨kq, x8_2, rfl, HA, HJ2, BK445, BK446, BK447, HB⟩ := hcut
  cases kq with
  | zero => exact absurd HA.out (by simp [quality_Merge.j0])
  | succ kj2 =>
   have H := HA.out
   clear HA
   simp only [quality_Merge.j0] at H
   by_cases c21 : x8_2 = true
   ·subst c21
    rw [if_pos rfl] at H
    simp only [Option.some.injEq, Prod.mk.injEq] at H
    obtain ⟨rfl, rfl, rfl, rfl, rfl⟩ := H
    have hnb22 := NB447_445.out
    have hnc22 := NB445_447.out
    have hnb23 := NB447_446.out
    have hnc23 := NB446_447.out
    obtain ⟨z0, z1, z2, z3, y0, y1, y2, y3⟩ := bc4 BK447
    go_wp2
    refine bodyPost_ret (results_ct rfl _ _ gb447 25 #[.int .i64 0, .slice none 0 0, .slice none 0 0, .slice none 0 0] (0, 0) _ rfl (bkp BK447) Try.underlying25 rfl (by kernel_rfl)) rfl ?_
    exact ⟨_, _, _, rerr, rnil, rnil, rnil, hbx HB⟩
   ·replace c21 := Bool.eq_false_iff.mpr c21
    subst c21
    rw [if_neg (show ¬ (false = true) by decide)] at H
    by_cases c25 : a0_0 = a1_0
    ·rw [if_pos c25] at H
     have c25b0 : (a0_0 == a1_0) = true := beq_iff_eq.mpr c25
     have c25b1 : (a0_0 != a1_0) = false := bne_eq_false_iff_eq.mpr c25
     clear c25
     replace H := Option.bind_eq_some_iff.mp H
     obtain ⟨t450, A260, H⟩ := H
     (try dsimp only at H)
     have A26 := Aside0.mk A260
     clear A260
     by_cases c27 : t450 = true
     ·subst c27
      rw [if_pos rfl] at H
      replace H := Option.bind_eq_some_iff.mp H
      obtain ⟨t451, A280, H⟩ := H
      (try dsimp only at H)
      have A28 := Aside0.mk A280
      clear A280
      by_cases c29 : t451 = true
      ·subst c29
       rw [if_pos rfl] at H
       replace H := Option.bind_eq_some_iff.mp H
       obtain ⟨⟨t452, t453, t456, t459⟩, A300, H⟩ := H
       (try dsimp only at H)
       have A30 := Aside0.mk A300
       clear A300
       have H' := Aside0.mk H
       clear H
       have hnb31 := NB445_446.out
       have hnc31 := NB446_445.out
       have hnb32 := NB445_447.out
       have hnc32 := NB447_445.out
       obtain ⟨z0, z1, z2, z3, y0, y1, y2, y3⟩ := bc4 BK445
       have hnb34 := NB446_447.out
       have hnc34 := NB447_446.out
       obtain ⟨z0, z1, z2, z3, y0, y1, y2, y3⟩ := bc4 BK446
       go_wp2_with (first | (go_at_call 17; (with_reducible refine (slices_Equal_int_int.calls kj2 _ _ l0_2 _ _ l1_2 true _ (cb HR0_2 HB) HC0_2.out (cb HR1_2 HB) HC1_2.out A26.out).mono ?_); rintro e w' ⟨rfl, ⟨nd, rfl⟩⟩; (try (rw [drewN_self wc]; generalize hq_ : World.drewN wc _ = wc; replace BK445 := bkq BK445 hq_; replace BK446 := bkq BK446 hq_; replace BK447 := bkq BK447 hq_; replace HB := hbq HB hq_; clear hq_)); obtain ⟨z0, z1, z2, z3, y0, y1, y2, y3⟩ := bc4 BK445; obtain ⟨z0, z1, z2, z3, y0, y1, y2, y3⟩ := bc4 BK446) | (go_at_call 17; (with_reducible refine (slices_Equal_int_int.calls kj2 _ _ l0_3 _ _ l1_3 true _ (cb HR0_3 HB) HC0_3.out (cb HR1_3 HB) HC1_3.out A28.out).mono ?_); rintro e w' ⟨rfl, ⟨nd, rfl⟩⟩; (try (rw [drewN_self wc]; generalize hq_ : World.drewN wc _ = wc; replace BK445 := bkq BK445 hq_; replace BK446 := bkq BK446 hq_; replace BK447 := bkq BK447 hq_; replace HB := hbq HB hq_; clear hq_)); obtain ⟨z0, z1, z2, z3, y0, y1, y2, y3⟩ := bc4 BK445) | ((with_reducible refine gate_callee (f := 47) rfl ?_); refine goesL_ (some 42) rfl rfl Try.func47 (by kernel_rfl) rfl #[.agg #[.int .i64 a0_0, .slice A0_1 l0_1.length c0_1, .slice A0_2 l0_2.length c0_2, .slice A0_3 l0_3.length c0_3]] rfl sma ?_; (with_reducible refine (quality_clone.calls a0_0 _ _ l0_1 _ _ l0_2 _ _ l0_3 t452 t453 t456 t459 _ (cb HR0_1 HB) HC0_1.out (cb HR0_2 HB) HC0_2.out (cb HR0_3 HB) HC0_3.out A30.out).mono ?_); rintro e w39 ⟨v454, v457, v460, rfl, ho0, ho1, ho2, hb⟩; refine ⟨_, rfl, ?_⟩; have HO455 := Aside0.mk (Kd.R_lower ho0 (below_size (hbx HB))); have HO458 := Aside0.mk (Kd.R_lower ho1 (below_size (hbx HB))); have HO461 := Aside0.mk (Kd.R_lower ho2 (below_size (hbx HB))); replace BK445 := bkB BK445 hb; replace BK446 := bkB BK446 hb; replace BK447 := bkB BK447 hb; replace HB := hbS HB hb; (try clear hb); (try clear hb2); (try clear hk); (try clear hi); (try clear ho0); (try clear ho1); (try clear ho2)) | ((with_reducible refine gate_dst (N := 6) rfl ?_); refine boxE 6 #[.int .i64 0, .slice none 0 0, .slice none 0 0, .slice none 0 0] 25 ?_; intro gb462 hg w40 hbox hb; replace HO455 := rB HO455 hb; replace HO458 := rB HO458 hb; replace HO461 := rB HO461 hb; have BK462 := Aside0.mk (hbox); have GW462 := gw hg HB; have GE462 := gw hg HB; replace HB := hbS HB hb; have NB445_462 := nbl hg BK445; have NB462_445 := nbg hg BK445; replace BK445 := bkB BK445 hb; have NB446_462 := nbl hg BK446; have NB462_446 := nbg hg BK446; replace BK446 := bkB BK446 hb; have NB447_462 := nbl hg BK447; have NB462_447 := nbg hg BK447; replace BK447 := bkB BK447 hb; clear hb hbox hg; have hnb41 := NB462_445.out; have hnc41 := NB445_462.out; have hnb42 := NB462_446.out; have hnc42 := NB446_462.out; have hnb43 := NB462_447.out; have hnc43 := NB447_462.out; obtain ⟨z0, z1, z2, z3, y0, y1, y2, y3⟩ := bc4 BK462; obtain ⟨Ao45, co45, eo45⟩ := Kd.R_slice HO455.out; subst eo45; obtain ⟨Ao46, co46, eo46⟩ := Kd.R_slice HO458.out; subst eo46; obtain ⟨Ao47, co47, eo47⟩ := Kd.R_slice HO461.out; subst eo47))
       go_loopg [46] kj2 (fun kq v46 w' => ∃ (x46_2 : Int) (x448000_2 : Int) (x463001_2 : List (S34)), v46 = .int .i64 x46_2 ∧ Aside0 (quality_Merge.l0 kq (t453.length : Int) x46_2 a1_0 l1_1 l1_2 l1_3 t452 x463001_2 t456 t459 = some (r1, r2, r3, r4, r5)) ∧ Aside0 (kq ≤ kj2) ∧ Aside0 (Kd.R k34 34 w' w.heap.size (fun _ => True) (.slice Ao45 t453.length co45) x463001_2) ∧ Aside0 (Kd.R (Kd.int .i64) 3 w' w.heap.size (fun k_ => some k_ ≠ ((.slice Ao47 t459.length co47) : Value).ownBlock) (.slice Ao46 t456.length co46) t456) ∧ Aside0 (Kd.R (Kd.int .i64) 3 w' w.heap.size (fun k_ => some k_ ≠ ((.slice Ao46 t456.length co46) : Value).ownBlock) (.slice Ao47 t459.length co47) t459) ∧ Aside0 (w'.heap[gb445]? = some (.cells #[.int .i64 a0_0, (.slice A0_1 l0_1.length c0_1), (.slice A0_2 l0_2.length c0_2), (.slice A0_3 l0_3.length c0_3)] 25 (0, 0))) ∧ Aside0 (w'.heap[gb446]? = some (.cells #[.int .i64 a1_0, (.slice A1_1 l1_1.length c1_1), (.slice A1_2 l1_2.length c1_2), (.slice A1_3 l1_3.length c1_3)] 25 (0, 0))) ∧ Aside0 (w'.heap[gb447]? = some (.cells #[.int .i64 x448000_2, (.slice none 0 0), (.slice none 0 0), (.slice none 0 0)] 25 (0, 0))) ∧ Aside0 (w'.heap[gb462]? = some (.cells #[.int .i64 t452, (.slice Ao45 t453.length co45), (.slice Ao46 t456.length co46), (.slice Ao47 t459.length co47)] 25 (0, 0))) ∧ Aside0 (Below w.heap.size w w'))
       case atStart => exact ⟨(0), (0), (t453), rfs, H', ⟨Nat.le_refl _⟩, ⟨Kd.R_mono (rty (rfo HO455) BK462) (fun _ hk => trivial)⟩, rfA HO458, rfA HO461, bkfA BK445, bkfA BK446, bkfA BK447, bkpA BK462, hbA HB⟩
       case round =>
        clear H'
        try clear c21
        try clear c25
        try clear c25b0
        try clear c25b1
        try clear c27
        try clear c29
        try clear hcz33_0
        try clear hcz33_1
        try clear hcz33_2
        try clear hcz33_3
        try clear hcz35_0
        try clear hcz35_1
        try clear hcz35_2
        try clear hcz35_3
        try clear hcz36_0
        try clear hcz36_1
        try clear hcz36_2
        try clear hcz36_3
        try clear hcz37_0
        try clear hcz37_1
        try clear hcz37_2
        try clear hcz37_3
        try clear hcz38_0
        try clear hcz38_1
        try clear hcz38_2
        try clear hcz38_3
        try clear hcz44_0
        try clear hcz44_1
        try clear hcz44_2
        try clear hcz44_3
        try clear hfz33_0
        try clear hfz33_1
        try clear hfz33_2
        try clear hfz33_3
        try clear hfz35_0
        try clear hfz35_1
        try clear hfz35_2
        try clear hfz35_3
        try clear hfz36_0
        try clear hfz36_1
        try clear hfz36_2
        try clear hfz36_3
        try clear hfz37_0
        try clear hfz37_1
        try clear hfz37_2
        try clear hfz37_3
        try clear hfz38_0
        try clear hfz38_1
        try clear hfz38_2
        try clear hfz38_3
        try clear hfz44_0
        try clear hfz44_1
        try clear hfz44_2
        try clear hfz44_3
        obtain ⟨x46_2, x448000_2, x463001_2, rfl, HA, HK2, HO_463001, HO_463002, HO_463003, BK445, BK446, BK447, BK462, HB⟩ := hrel
        have hl463001_2 := (Kd.R_reads' HO_463001.out).1
        rw [hl463001_2] at HO_463001
        (try simp only [hl463001_2])
        (try simp only [hl463001_2] at BK445)
        (try simp only [hl463001_2] at BK446)
        (try simp only [hl463001_2] at BK447)
        (try simp only [hl463001_2] at BK462)
        (try simp only [hl463001_2] at HO_463002)
        (try simp only [hl463001_2] at HO_463003)
        cases gk with
        | zero => exact absurd HA.out (by simp [quality_Merge.l0])
        | succ k2 =>
         have H := HA.out
         clear HA
         simp only [quality_Merge.l0] at H
         by_cases c48 : x46_2 < (t453.length : Int)
         ·rw [if_pos c48] at H
          have c48b0 : decide (x46_2 < (t453.length : Int)) = true := decide_eq_true c48
          (try (have c48b0h := c48b0; simp only [hl463001_2] at c48b0h))
          clear c48
          by_cases c49 : 0 ≤ x46_2
          ·rw [if_pos c49] at H
           have c49b0 : decide (0 ≤ x46_2) = true := decide_eq_true c49
           (try (have c49b0h := c49b0; simp only [hl463001_2] at c49b0h))
           clear c49
           by_cases c50 : x46_2 < (x463001_2.length : Int)
           ·rw [if_pos c50] at H
            have c50b0 : decide (x46_2 < (x463001_2.length : Int)) = true := decide_eq_true c50
            (try (have c50b0h := c50b0; simp only [hl463001_2] at c50b0h))
            clear c50
            by_cases c51 : x46_2 < (l1_1.length : Int)
            ·rw [if_pos c51] at H
             have c51b0 : decide (x46_2 < (l1_1.length : Int)) = true := decide_eq_true c51
             (try (have c51b0h := c51b0; simp only [hl463001_2] at c51b0h))
             clear c51
             obtain ⟨y465, hy465⟩ : ∃ y_ : List (S34), y_ = (x463001_2.set (x46_2 : Int).toNat (⟨wrap64 (((rd_T34 x463001_2 x46_2).f0) + ((rd_T34 l1_1 x46_2).f0)), (rd_T34 x463001_2 x46_2).f1⟩ : S34)) := ⟨_, rfl⟩
             replace H : ((quality_Check.f ((rd_T34 y465 x46_2).f0) (wrap64 (((rd_T34 y465 x46_2).f1) + ((rd_T34 l1_1 x46_2).f1)))).bind fun t470 => (if t470 = 0 then (quality_Merge.l0 k2 (t453.length : Int) (wrap64 (x46_2 + 1)) a1_0 l1_1 l1_2 l1_3 t452 (y465.set (x46_2 : Int).toNat (⟨(rd_T34 y465 x46_2).f0, wrap64 (((rd_T34 y465 x46_2).f1) + ((rd_T34 l1_1 x46_2).f1))⟩ : S34)) t456 t459) else (some (0, ([] : List (S34)), ([] : List Int), ([] : List Int), 13)))) = some (r1, r2, r3, r4, r5) := by first | (rw [hy465]; with_reducible exact H) | (have H2_ := (Option.bind_some _ _).symm.trans H; rw [hy465]; with_reducible exact H2_) | (have H2_ := (Option.bind_some _ _).symm.trans H; with_reducible exact H2_) | with_reducible exact H | (rw [hy465]; exact H) | exact H
             have Ny465 := Aside0.mk hy465
             clear hy465
             obtain ⟨y468, hy468⟩ : ∃ y_ : List (S34), y_ = (y465.set (x46_2 : Int).toNat (⟨(rd_T34 y465 x46_2).f0, wrap64 (((rd_T34 y465 x46_2).f1) + ((rd_T34 l1_1 x46_2).f1))⟩ : S34)) := ⟨_, rfl⟩
             replace H : ((quality_Check.f ((rd_T34 y465 x46_2).f0) (wrap64 (((rd_T34 y465 x46_2).f1) + ((rd_T34 l1_1 x46_2).f1)))).bind fun t470 => (if t470 = 0 then (quality_Merge.l0 k2 (t453.length : Int) (wrap64 (x46_2 + 1)) a1_0 l1_1 l1_2 l1_3 t452 y468 t456 t459) else (some (0, ([] : List (S34)), ([] : List Int), ([] : List Int), 13)))) = some (r1, r2, r3, r4, r5) := by first | (rw [hy468]; with_reducible exact H) | (have H2_ := (Option.bind_some _ _).symm.trans H; rw [hy468]; with_reducible exact H2_) | (have H2_ := (Option.bind_some _ _).symm.trans H; with_reducible exact H2_) | with_reducible exact H | (rw [hy468]; exact H) | exact H
             have Ny468 := Aside0.mk hy468
             clear hy468
             replace H := Option.bind_eq_some_iff.mp H
             obtain ⟨t470, A550, H⟩ := H
             (try dsimp only at H)
             have A55 := Aside0.mk A550
             clear A550
             by_cases c56 : t470 = 0
             ·rw [if_pos c56] at H
              have c56b0 : (t470 == 0) = true := beq_iff_eq.mpr c56
              have c56b1 : (t470 != 0) = false := bne_eq_false_iff_eq.mpr c56
              (try (have c56b0h := c56b0; simp only [hl463001_2] at c56b0h))
              (try (have c56b1h := c56b1; simp only [hl463001_2] at c56b1h))
              clear c56
              have H' := Aside0.mk H
              clear H
              try go_wp2
              replace HO_463001 := Aside0.mk (Kd.R_drew HO_463001.out)
              replace HO_463002 := Aside0.mk (Kd.R_drew HO_463002.out)
              replace HO_463003 := Aside0.mk (Kd.R_drew HO_463003.out)
              replace BK445 := Aside0.mk (blk_drew BK445.out)
              replace BK446 := Aside0.mk (blk_drew BK446.out)
              replace BK447 := Aside0.mk (blk_drew BK447.out)
              replace BK462 := Aside0.mk (blk_drew BK462.out)
              replace HB := Aside0.mk (below_drew1 HB.out)
              have p463 : 0 ≤ (x46_2 : Int) := pos_
              have q463 : x46_2 < (x463001_2.length : Int) := pos_
              obtain ⟨ad463, e463, hx463_0, hx463_1⟩ := at_T34 (Kd.R_reads' HO_463001.out).2.2 x46_2 p463 q463
              cases e463
              replace p463 := eq_true p463
              replace q463 := eq_true q463
              have p464 : 0 ≤ (x46_2 : Int) := pos_
              have q464 : x46_2 < (l1_1.length : Int) := pos_
              obtain ⟨ad464, e464, hx464_0, hx464_1⟩ := at_T34 HR1_1.out x46_2 p464 q464
              have hw464_1 := hx464_1
              have hw464_0 := hx464_0
              cases e464
              replace hx464_0 := (HB.out.cell (World.block_lt_of_cell? w _ hx464_0)).trans hx464_0
              replace hx464_1 := (HB.out.cell (World.block_lt_of_cell? w _ hx464_1)).trans hx464_1
              replace p464 := eq_true p464
              replace q464 := eq_true q464
              have p52 : 0 ≤ (x46_2 : Int) := pos_
              have q52 : (x46_2 : Int) < ((x463001_2.length : Int) : Int) := pos_
              obtain ⟨go52, co52, eo52, gb52, gl52, cl52, HG52⟩ := Kd.R_form HO_463001.out (by omega)
              (first | cases eo52 | (injection eo52 with ea_ en_ ec_; (first | subst ea_ | (injection ea_ with ea_; subst ea_)); subst ec_; clear en_))
              have GB52 := Aside0.mk gb52
              have GG52 := Aside0.mk HG52
              clear gb52 gl52 HG52
              (first | simp only [add_plain] at hx463_0 | skip)
              (first | simp only [add_plain] at hx463_1 | skip)
              obtain ⟨ce52, hcl52, hM52, hcc52, hfr52⟩ := Kd.R_elem HO_463001.out z34 (x46_2 : Int) p52 q52
              obtain rfl := k34_openM hM52
              have hx52_0 : World.cell? _ ⟨go52, (x46_2 : Int).toNat * 2, none⟩ = some (.int .i64 ((rd_T34 x463001_2 x46_2).f0)) := hcc52 0 _ rfl
              have hx52_1 : World.cell? _ ⟨go52, (x46_2 : Int).toNat * 2 + 1, none⟩ = some (.int .i64 ((rd_T34 x463001_2 x46_2).f1)) := hcc52 1 _ rfl
              have hf52_0 : World.frozen? _ ⟨go52, (x46_2 : Int).toNat * 2, none⟩ = false := hfr52 0
              have hf52_1 : World.frozen? _ ⟨go52, (x46_2 : Int).toNat * 2 + 1, none⟩ = false := hfr52 1
              clear hcl52 hcc52 hfr52 hM52
              replace p52 := eq_true p52
              replace q52 := eq_true q52
              obtain ⟨ce58, hcl58, hM58, hcc58, hfr58⟩ := Kd.R_elem HO_463001.out z34 (x46_2 : Int) (pos_) (by have h_ : (x46_2 : Int) < ((x463001_2.length : Int) : Int) := pos_; first | exact h_ | (have e_ := (Kd.R_reads' HO_463001.out).1; omega) | simpa using h_)
              obtain rfl := k34_openM hM58
              have HP58 := (Kd.R_seg HO_463001.out (x46_2 : Int) (pos_) (by have h_ : (x46_2 : Int) < ((x463001_2.length : Int) : Int) := pos_; first | exact h_ | (have e_ := (Kd.R_reads' HO_463001.out).1; omega) | simpa using h_) (seg := [.int .i64 (wrap64 (((rd_T34 x463001_2 x46_2).f0) + ((rd_T34 l1_1 x46_2).f0)))]) (j := 0) hcl58 hcc58 (show 1 ≤ 2 from by decide) (x' := (⟨wrap64 (((rd_T34 x463001_2 x46_2).f0) + ((rd_T34 l1_1 x46_2).f0)), (rd_T34 x463001_2 x46_2).f1⟩ : S34)) (k34_mkM _ _ _ (⟨wrap64 (((rd_T34 x463001_2 x46_2).f0) + ((rd_T34 l1_1 x46_2).f0)), (rd_T34 x463001_2 x46_2).f1⟩ : S34) ) (fun _ hk => hk)).1
              rw [← Ny465.out] at HP58
              have HQ58 := Aside0.mk HP58
              clear hcl58 hcc58 hfr58 hM58 HP58
              refine start_ (n := 16) (S := fun w' => w'.cell? ⟨gb462, 0, none⟩ = some (.int .i64 t452) ∧ w'.cell? ⟨gb462, 1, none⟩ = some (.slice (some ⟨go52, 0, none⟩) x463001_2.length co45) ∧ w'.cell? ⟨gb462, 2, none⟩ = some (.slice Ao46 t456.length co46) ∧ w'.cell? ⟨gb462, 3, none⟩ = some (.slice Ao47 t459.length co47) ∧ w'.cell? ⟨gb446, 0, none⟩ = some (.int .i64 a1_0) ∧ w'.cell? ⟨gb446, 1, none⟩ = some (.slice (some ad464) l1_1.length c1_1) ∧ w'.cell? ⟨gb446, 2, none⟩ = some (.slice A1_2 l1_2.length c1_2) ∧ w'.cell? ⟨gb446, 3, none⟩ = some (.slice A1_3 l1_3.length c1_3) ∧ w'.cell? ⟨go52, ((x46_2).toNat * 2), none⟩ = some (.int .i64 ((rd_T34 x463001_2 x46_2).f0)) ∧ w'.cell? ⟨go52, ((x46_2).toNat * 2) + 1, none⟩ = some (.int .i64 ((rd_T34 x463001_2 x46_2).f1)) ∧ w'.cell? (ad464.add ((x46_2).toNat * 2)) = some (.int .i64 ((rd_T34 l1_1 x46_2).f0)) ∧ w'.cell? ⟨(ad464.add ((x46_2).toNat * 2)).block, (ad464.add ((x46_2).toNat * 2)).off + 1, none⟩ = some (.int .i64 ((rd_T34 l1_1 x46_2).f1))) (ds := [15]) #[false, false, false, false, false, false, false, false, false, false, false, false, false, false, false, false] (by kernel_rfl) rfl rfl ⟨(blk_cell BK462.out 0).trans rfl, (blk_cell BK462.out 1).trans rfl, (blk_cell BK462.out 2).trans rfl, (blk_cell BK462.out 3).trans rfl, (blk_cell BK446.out 0).trans rfl, (blk_cell BK446.out 1).trans rfl, (blk_cell BK446.out 2).trans rfl, (blk_cell BK446.out 3).trans rfl, hx463_0, hx463_1, ((HB.out.cell (World.block_lt_of_cell? w _ hw464_0)).trans hw464_0), ((HB.out.cell (World.block_lt_of_cell? w _ hw464_1)).trans hw464_1)⟩ (fun hHeld => ?_); refine with_tabW quality_Merge.tab9 quality_Merge.bits9 (fun HT_ HW_ => ?_)
              generalize wr.drew = w57 at HO_463001 HO_463002 HO_463003 BK445 BK446 BK447 BK462 HB GG52 HQ58 hf52_0 hf52_1 hx463_0 hx463_1 hx464_0 hx464_1 hx52_0 hx52_1 hHeld ⊢
              refine pur 0 (some 49) #[true, false, false, false, false, false, false, false, false, false, false, false, false, false, false, false] HT_ ?_
              refine pur 2 (some 51) #[true, false, true, false, false, false, false, false, false, false, false, false, false, false, false, false] HT_ ?_
              refine pur 6 (some 55) #[true, false, true, false, false, false, true, false, false, false, false, false, false, false, false, false] HT_ ?_
              refine pur 8 (some 57) #[true, false, true, false, false, false, true, false, true, false, false, false, false, false, false, false] HT_ ?_
              refine tak 1 (some 50) #[true, true, true, false, false, false, true, false, true, false, false, false, false, false, false, false] HT_ HW_ hHeld rfl (Or.inl ⟨by rfl, by rintro w' ⟨s0, s1, s2, s3, s4, s5, s6, s7, s8, s9, s10, s11⟩; go_simp; with_reducible rfl⟩) ?_
              refine pur 3 (some 52) #[true, true, true, true, false, false, true, false, true, false, false, false, false, false, false, false] HT_ ?_
              refine pur 4 (some 53) #[true, true, true, true, true, false, true, false, true, false, false, false, false, false, false, false] HT_ ?_
              refine tak 5 (some 54) #[true, true, true, true, true, true, true, false, true, false, false, false, false, false, false, false] HT_ HW_ hHeld rfl (Or.inl ⟨by rfl, by rintro w' ⟨s0, s1, s2, s3, s4, s5, s6, s7, s8, s9, s10, s11⟩; go_simp; with_reducible rfl⟩) ?_
              refine tak 7 (some 56) #[true, true, true, true, true, true, true, true, true, false, false, false, false, false, false, false] HT_ HW_ hHeld rfl (Or.inl ⟨by rfl, by rintro w' ⟨s0, s1, s2, s3, s4, s5, s6, s7, s8, s9, s10, s11⟩; go_simp; with_reducible rfl⟩) ?_
              refine pur 9 (some 58) #[true, true, true, true, true, true, true, true, true, true, false, false, false, false, false, false] HT_ ?_
              refine pur 10 (some 59) #[true, true, true, true, true, true, true, true, true, true, true, false, false, false, false, false] HT_ ?_
              refine tak 11 (some 60) #[true, true, true, true, true, true, true, true, true, true, true, true, false, false, false, false] HT_ HW_ hHeld rfl (Or.inl ⟨by rfl, by rintro w' ⟨s0, s1, s2, s3, s4, s5, s6, s7, s8, s9, s10, s11⟩; go_simp; with_reducible rfl⟩) ?_
              refine pur 12 (some 61) #[true, true, true, true, true, true, true, true, true, true, true, true, true, false, false, false] HT_ ?_
              refine pur 13 (some 62) #[true, true, true, true, true, true, true, true, true, true, true, true, true, true, false, false] HT_ ?_
              refine pur 14 (some 63) #[true, true, true, true, true, true, true, true, true, true, true, true, true, true, true, false] HT_ ?_
              refine last_ (i := 15) (N := none) #[true, true, true, true, true, true, true, true, true, true, true, true, true, true, true, true] rfl rfl (one_of HT_.out (by kernel_rfl)) (by decide) (fun K hK => ?_)
              refine skip_ (w1 := ?_) (by rfl) rfl ?_ ?_
              rotate_left
              ·go_simp
               rfl
              refine hK.out _ _ ?_
              clear hK K
              refine done_ (done_of HT_.out (by kernel_rfl)) ?_
              try go_wp2
              have n0_ : Aside0 (Kd.R k34 34 (w57.setCell ⟨go52, (x46_2 : Int).toNat * 2, none⟩ (.int .i64 (wrap64 (((rd_T34 x463001_2 x46_2).f0) + ((rd_T34 l1_1 x46_2).f0))))) w.heap.size (fun _ => True) (.slice (some ⟨go52, 0, none⟩) x463001_2.length co45) y465) := ⟨by (with_reducible repeat (first | apply Kd.R_alloc | apply Kd.R_drewN | apply Kd.R_drew)); exact HQ58.out⟩
              have n1_ : Aside0 (Kd.R (Kd.int .i64) 3 (w57.setCell ⟨go52, (x46_2 : Int).toNat * 2, none⟩ (.int .i64 (wrap64 (((rd_T34 x463001_2 x46_2).f0) + ((rd_T34 l1_1 x46_2).f0))))) w.heap.size (fun k_ => some k_ ≠ (.slice Ao47 t459.length co47 : Value).ownBlock) (.slice Ao46 t456.length co46) t456) := ⟨by (with_reducible repeat (first | apply Kd.R_alloc | apply Kd.R_drewN | apply Kd.R_drew)); exact Kd.R_mono (Kd.R_far (p := ⟨go52, (x46_2 : Int).toNat * 2, none⟩) (Kd.R_types HO_463002.out (Exists.choose_spec (Kd.R_typed HO_463001.out go52 rfl)) (by decide)) (fun _ hk => hk.2) (.int .i64 (wrap64 (((rd_T34 x463001_2 x46_2).f0) + ((rd_T34 l1_1 x46_2).f0))))) (fun _ hk => hk.1)⟩
              have n2_ : Aside0 (Kd.R (Kd.int .i64) 3 (w57.setCell ⟨go52, (x46_2 : Int).toNat * 2, none⟩ (.int .i64 (wrap64 (((rd_T34 x463001_2 x46_2).f0) + ((rd_T34 l1_1 x46_2).f0))))) w.heap.size (fun k_ => some k_ ≠ (.slice Ao46 t456.length co46 : Value).ownBlock) (.slice Ao47 t459.length co47) t459) := ⟨by (with_reducible repeat (first | apply Kd.R_alloc | apply Kd.R_drewN | apply Kd.R_drew)); exact Kd.R_mono (Kd.R_far (p := ⟨go52, (x46_2 : Int).toNat * 2, none⟩) (Kd.R_types HO_463003.out (Exists.choose_spec (Kd.R_typed HO_463001.out go52 rfl)) (by decide)) (fun _ hk => hk.2) (.int .i64 (wrap64 (((rd_T34 x463001_2 x46_2).f0) + ((rd_T34 l1_1 x46_2).f0))))) (fun _ hk => hk.1)⟩
              have n3_ : Aside0 ((w57.setCell ⟨go52, (x46_2 : Int).toNat * 2, none⟩ (.int .i64 (wrap64 (((rd_T34 x463001_2 x46_2).f0) + ((rd_T34 l1_1 x46_2).f0))))).heap[gb445]? = some (.cells #[.int .i64 a0_0, .slice A0_1 l0_1.length c0_1, .slice A0_2 l0_2.length c0_2, .slice A0_3 l0_3.length c0_3] 25 (0, 0))) := ⟨by (with_reducible repeat (first | refine blk_drewN ?_ _ | refine blk_drew ?_ | refine blk_alloc ?_ _)); refine blk_far ?_ (by have h_ := Kd.R_ne HO_463001.out BK445.out (by decide); intro e_; exact h_ (by rw [e_]; rfl)) _; (with_reducible repeat (first | refine blk_drewN ?_ _ | refine blk_drew ?_ | refine blk_alloc ?_ _)); exact BK445.out⟩
              have n4_ : Aside0 ((w57.setCell ⟨go52, (x46_2 : Int).toNat * 2, none⟩ (.int .i64 (wrap64 (((rd_T34 x463001_2 x46_2).f0) + ((rd_T34 l1_1 x46_2).f0))))).heap[gb446]? = some (.cells #[.int .i64 a1_0, .slice (some ad464) l1_1.length c1_1, .slice A1_2 l1_2.length c1_2, .slice A1_3 l1_3.length c1_3] 25 (0, 0))) := ⟨by (with_reducible repeat (first | refine blk_drewN ?_ _ | refine blk_drew ?_ | refine blk_alloc ?_ _)); refine blk_far ?_ (by have h_ := Kd.R_ne HO_463001.out BK446.out (by decide); intro e_; exact h_ (by rw [e_]; rfl)) _; (with_reducible repeat (first | refine blk_drewN ?_ _ | refine blk_drew ?_ | refine blk_alloc ?_ _)); exact BK446.out⟩
              have n5_ : Aside0 ((w57.setCell ⟨go52, (x46_2 : Int).toNat * 2, none⟩ (.int .i64 (wrap64 (((rd_T34 x463001_2 x46_2).f0) + ((rd_T34 l1_1 x46_2).f0))))).heap[gb447]? = some (.cells #[.int .i64 x448000_2, .slice none 0 0, .slice none 0 0, .slice none 0 0] 25 (0, 0))) := ⟨by (with_reducible repeat (first | refine blk_drewN ?_ _ | refine blk_drew ?_ | refine blk_alloc ?_ _)); refine blk_far ?_ (by have h_ := Kd.R_ne HO_463001.out BK447.out (by decide); intro e_; exact h_ (by rw [e_]; rfl)) _; (with_reducible repeat (first | refine blk_drewN ?_ _ | refine blk_drew ?_ | refine blk_alloc ?_ _)); exact BK447.out⟩
              have n6_ : Aside0 ((w57.setCell ⟨go52, (x46_2 : Int).toNat * 2, none⟩ (.int .i64 (wrap64 (((rd_T34 x463001_2 x46_2).f0) + ((rd_T34 l1_1 x46_2).f0))))).heap[gb462]? = some (.cells #[.int .i64 t452, .slice (some ⟨go52, 0, none⟩) x463001_2.length co45, .slice Ao46 t456.length co46, .slice Ao47 t459.length co47] 25 (0, 0))) := ⟨by (with_reducible repeat (first | refine blk_drewN ?_ _ | refine blk_drew ?_ | refine blk_alloc ?_ _)); refine blk_far ?_ (by have h_ := Kd.R_ne HO_463001.out BK462.out (by decide); intro e_; exact h_ (by rw [e_]; rfl)) _; (with_reducible repeat (first | refine blk_drewN ?_ _ | refine blk_drew ?_ | refine blk_alloc ?_ _)); exact BK462.out⟩
              have n7_ : Aside0 (Below w.heap.size w (w57.setCell ⟨go52, (x46_2 : Int).toNat * 2, none⟩ (.int .i64 (wrap64 (((rd_T34 x463001_2 x46_2).f0) + ((rd_T34 l1_1 x46_2).f0)))))) := ⟨by repeat (first | (with_reducible first | exact HB.out | apply below_alloc | apply pw_below_drewN | apply below_drew1 | refine below_set ?_ GB52.out | refine below_set ?_ GE445.out | refine below_set ?_ GE446.out | refine below_set ?_ GE447.out | refine below_set ?_ GE462.out) | exact HB.out)⟩
              (try clear HO_463001)
              (try clear HO_463002)
              (try clear HO_463003)
              (try clear BK445)
              (try clear BK446)
              (try clear BK447)
              (try clear BK462)
              (try clear HB)
              generalize (w57.setCell ⟨go52, (x46_2 : Int).toNat * 2, none⟩ (.int .i64 (wrap64 (((rd_T34 x463001_2 x46_2).f0) + ((rd_T34 l1_1 x46_2).f0))))) = w59 at n0_ n1_ n2_ n3_ n4_ n5_ n6_ n7_ ⊢
              have HO_463001 := n0_
              have HO_463002 := n1_
              have HO_463003 := n2_
              have BK445 := n3_
              have BK446 := n4_
              have BK447 := n5_
              have BK462 := n6_
              have HB := n7_
              clear n0_ n1_ n2_ n3_ n4_ n5_ n6_ n7_
              replace HO_463001 := Aside0.mk (Kd.R_drew HO_463001.out)
              replace HO_463002 := Aside0.mk (Kd.R_drew HO_463002.out)
              replace HO_463003 := Aside0.mk (Kd.R_drew HO_463003.out)
              replace BK445 := Aside0.mk (blk_drew BK445.out)
              replace BK446 := Aside0.mk (blk_drew BK446.out)
              replace BK447 := Aside0.mk (blk_drew BK447.out)
              replace BK462 := Aside0.mk (blk_drew BK462.out)
              replace HB := Aside0.mk (below_drew1 HB.out)
              have p466 : 0 ≤ (x46_2 : Int) := pos_
              have q466 : x46_2 < (y465.length : Int) := (by have h_ : (x46_2 : Int) < ((x463001_2.length : Int) : Int) := pos_; first | (have e_ := (Kd.R_reads' HO_463001.out).1; omega) | simpa only [Ny465.out, List.length_set] using h_)
              have ql466 : ((x46_2 : Int) < ((x463001_2.length : Int) : Int)) = True := eq_true (pos_)
              obtain ⟨ad466, e466, hx466_0, hx466_1⟩ := at_T34 (Kd.R_reads' HO_463001.out).2.2 x46_2 p466 q466
              obtain rfl : (⟨go52, 0, none⟩ : Addr) = ad466 := (by injection e466)
              (first | simp only [add_plain] at hx466_0 | simp only [add_at] at hx466_0 | simp only [Addr.add, Nat.zero_add] at hx466_0 | skip)
              (first | simp only [add_plain] at hx466_1 | simp only [add_at] at hx466_1 | simp only [Addr.add, Nat.zero_add] at hx466_1 | skip)
              replace p466 := eq_true p466
              replace q466 := eq_true q466
              have p467 : 0 ≤ (x46_2 : Int) := pos_
              have q467 : x46_2 < (l1_1.length : Int) := pos_
              obtain ⟨ad467, e467, hx467_0, hx467_1⟩ := at_T34 HR1_1.out x46_2 p467 q467
              have hw467_1 := hx467_1
              have hw467_0 := hx467_0
              obtain rfl : ad464 = ad467 := (by injection e467)
              replace hx467_0 := (HB.out.cell (World.block_lt_of_cell? w _ hx467_0)).trans hx467_0
              replace hx467_1 := (HB.out.cell (World.block_lt_of_cell? w _ hx467_1)).trans hx467_1
              replace p467 := eq_true p467
              replace q467 := eq_true q467
              have p53 : 0 ≤ (x46_2 : Int) := pos_
              have q53 : (x46_2 : Int) < ((x463001_2.length : Int) : Int) := pos_
              obtain ⟨go_, co_, eo_, gb_, gl_, cl_, HG_⟩ := Kd.R_form HO_463001.out (by have e_ := (Kd.R_reads' HO_463001.out).1; omega)
              obtain rfl : go52 = go_ := Option.some.inj (show some go52 = some go_ from congrArg Value.ownBlock eo_)
              replace GG52 := Aside0.mk HG_
              clear eo_ gb_ gl_ HG_
              obtain ⟨ce53, hcl53, hM53, hcc53, hfr53⟩ := Kd.R_elem HO_463001.out z34 (x46_2 : Int) p53 q53
              obtain rfl := k34_openM hM53
              have hx53_0 : World.cell? _ ⟨go52, (x46_2 : Int).toNat * 2, none⟩ = some (.int .i64 ((rd_T34 y465 x46_2).f0)) := hcc53 0 _ rfl
              have hx53_1 : World.cell? _ ⟨go52, (x46_2 : Int).toNat * 2 + 1, none⟩ = some (.int .i64 ((rd_T34 y465 x46_2).f1)) := hcc53 1 _ rfl
              have hf53_0 : World.frozen? _ ⟨go52, (x46_2 : Int).toNat * 2, none⟩ = false := hfr53 0
              have hf53_1 : World.frozen? _ ⟨go52, (x46_2 : Int).toNat * 2 + 1, none⟩ = false := hfr53 1
              clear hcl53 hcc53 hfr53 hM53
              replace p53 := eq_true p53
              replace q53 := eq_true q53
              obtain ⟨ce61, hcl61, hM61, hcc61, hfr61⟩ := Kd.R_elem HO_463001.out z34 (x46_2 : Int) (pos_) (by have h_ : (x46_2 : Int) < ((x463001_2.length : Int) : Int) := pos_; first | exact h_ | (have e_ := (Kd.R_reads' HO_463001.out).1; omega) | simpa using h_)
              obtain rfl := k34_openM hM61
              have HP61 := (Kd.R_seg HO_463001.out (x46_2 : Int) (pos_) (by have h_ : (x46_2 : Int) < ((x463001_2.length : Int) : Int) := pos_; first | exact h_ | (have e_ := (Kd.R_reads' HO_463001.out).1; omega) | simpa using h_) (seg := [.int .i64 (wrap64 (((rd_T34 y465 x46_2).f1) + ((rd_T34 l1_1 x46_2).f1)))]) (j := 1) hcl61 hcc61 (show 2 ≤ 2 from by decide) (x' := (⟨(rd_T34 y465 x46_2).f0, wrap64 (((rd_T34 y465 x46_2).f1) + ((rd_T34 l1_1 x46_2).f1))⟩ : S34)) (k34_mkM _ _ _ (⟨(rd_T34 y465 x46_2).f0, wrap64 (((rd_T34 y465 x46_2).f1) + ((rd_T34 l1_1 x46_2).f1))⟩ : S34) ) (fun _ hk => hk)).1
              rw [← Ny468.out] at HP61
              have HQ61 := Aside0.mk HP61
              clear hcl61 hcc61 hfr61 hM61 HP61
              refine start_ (n := 16) (S := fun w' => w'.cell? ⟨gb462, 0, none⟩ = some (.int .i64 t452) ∧ w'.cell? ⟨gb462, 1, none⟩ = some (.slice (some ⟨go52, 0, none⟩) x463001_2.length co45) ∧ w'.cell? ⟨gb462, 2, none⟩ = some (.slice Ao46 t456.length co46) ∧ w'.cell? ⟨gb462, 3, none⟩ = some (.slice Ao47 t459.length co47) ∧ w'.cell? ⟨gb446, 0, none⟩ = some (.int .i64 a1_0) ∧ w'.cell? ⟨gb446, 1, none⟩ = some (.slice (some ad464) l1_1.length c1_1) ∧ w'.cell? ⟨gb446, 2, none⟩ = some (.slice A1_2 l1_2.length c1_2) ∧ w'.cell? ⟨gb446, 3, none⟩ = some (.slice A1_3 l1_3.length c1_3) ∧ w'.cell? ⟨go52, (x46_2).toNat * 2, none⟩ = some (.int .i64 ((rd_T34 y465 x46_2).f0)) ∧ w'.cell? ⟨go52, (x46_2).toNat * 2 + 1, none⟩ = some (.int .i64 ((rd_T34 y465 x46_2).f1)) ∧ w'.cell? (ad464.add ((x46_2).toNat * 2)) = some (.int .i64 ((rd_T34 l1_1 x46_2).f0)) ∧ w'.cell? ⟨(ad464.add ((x46_2).toNat * 2)).block, (ad464.add ((x46_2).toNat * 2)).off + 1, none⟩ = some (.int .i64 ((rd_T34 l1_1 x46_2).f1))) (ds := [15]) #[false, false, false, false, false, false, false, false, false, false, false, false, false, false, false, false] (by kernel_rfl) rfl rfl ⟨(blk_cell BK462.out 0).trans rfl, (blk_cell BK462.out 1).trans rfl, (blk_cell BK462.out 2).trans rfl, (blk_cell BK462.out 3).trans rfl, (blk_cell BK446.out 0).trans rfl, (blk_cell BK446.out 1).trans rfl, (blk_cell BK446.out 2).trans rfl, (blk_cell BK446.out 3).trans rfl, hx466_0, hx466_1, ((HB.out.cell (World.block_lt_of_cell? w _ hw467_0)).trans hw467_0), ((HB.out.cell (World.block_lt_of_cell? w _ hw467_1)).trans hw467_1)⟩ (fun hHeld => ?_); refine with_tabW quality_Merge.tab10 quality_Merge.bits10 (fun HT_ HW_ => ?_)
              generalize w59.drew = w60 at HO_463001 HO_463002 HO_463003 BK445 BK446 BK447 BK462 HB HQ58 HQ61 hf53_0 hf53_1 hx466_0 hx466_1 hx467_0 hx467_1 hx53_0 hx53_1 hHeld GG52 ⊢
              refine pur 0 (some 64) #[true, false, false, false, false, false, false, false, false, false, false, false, false, false, false, false] HT_ ?_
              refine pur 2 (some 66) #[true, false, true, false, false, false, false, false, false, false, false, false, false, false, false, false] HT_ ?_
              refine pur 6 (some 70) #[true, false, true, false, false, false, true, false, false, false, false, false, false, false, false, false] HT_ ?_
              refine pur 8 (some 72) #[true, false, true, false, false, false, true, false, true, false, false, false, false, false, false, false] HT_ ?_
              refine tak 1 (some 65) #[true, true, true, false, false, false, true, false, true, false, false, false, false, false, false, false] HT_ HW_ hHeld rfl (Or.inl ⟨by rfl, by rintro w' ⟨s0, s1, s2, s3, s4, s5, s6, s7, s8, s9, s10, s11⟩; go_simp; with_reducible rfl⟩) ?_
              refine pur 3 (some 67) #[true, true, true, true, false, false, true, false, true, false, false, false, false, false, false, false] HT_ ?_
              refine pur 4 (some 68) #[true, true, true, true, true, false, true, false, true, false, false, false, false, false, false, false] HT_ ?_
              refine tak 5 (some 69) #[true, true, true, true, true, true, true, false, true, false, false, false, false, false, false, false] HT_ HW_ hHeld rfl (Or.inl ⟨by rfl, by rintro w' ⟨s0, s1, s2, s3, s4, s5, s6, s7, s8, s9, s10, s11⟩; go_simp; with_reducible rfl⟩) ?_
              refine tak 7 (some 71) #[true, true, true, true, true, true, true, true, true, false, false, false, false, false, false, false] HT_ HW_ hHeld rfl (Or.inl ⟨by rfl, by rintro w' ⟨s0, s1, s2, s3, s4, s5, s6, s7, s8, s9, s10, s11⟩; go_simp; with_reducible rfl⟩) ?_
              refine pur 9 (some 73) #[true, true, true, true, true, true, true, true, true, true, false, false, false, false, false, false] HT_ ?_
              refine pur 10 (some 74) #[true, true, true, true, true, true, true, true, true, true, true, false, false, false, false, false] HT_ ?_
              refine tak 11 (some 75) #[true, true, true, true, true, true, true, true, true, true, true, true, false, false, false, false] HT_ HW_ hHeld rfl (Or.inl ⟨by rfl, by rintro w' ⟨s0, s1, s2, s3, s4, s5, s6, s7, s8, s9, s10, s11⟩; go_simp; with_reducible rfl⟩) ?_
              refine pur 12 (some 76) #[true, true, true, true, true, true, true, true, true, true, true, true, true, false, false, false] HT_ ?_
              refine pur 13 (some 77) #[true, true, true, true, true, true, true, true, true, true, true, true, true, true, false, false] HT_ ?_
              refine pur 14 (some 78) #[true, true, true, true, true, true, true, true, true, true, true, true, true, true, true, false] HT_ ?_
              refine last_ (i := 15) (N := none) #[true, true, true, true, true, true, true, true, true, true, true, true, true, true, true, true] rfl rfl (one_of HT_.out (by kernel_rfl)) (by decide) (fun K hK => ?_)
              refine skip_ (w1 := ?_) (by rfl) rfl ?_ ?_
              rotate_left
              ·go_simp
               rfl
              refine hK.out _ _ ?_
              clear hK K
              refine done_ (done_of HT_.out (by kernel_rfl)) ?_
              have n0_ : Aside0 (Kd.R k34 34 (w60.setCell ⟨go52, (x46_2 : Int).toNat * 2 + 1, none⟩ (.int .i64 (wrap64 (((rd_T34 y465 x46_2).f1) + ((rd_T34 l1_1 x46_2).f1))))) w.heap.size (fun _ => True) (.slice (some ⟨go52, 0, none⟩) x463001_2.length co45) y468) := ⟨by (with_reducible repeat (first | apply Kd.R_alloc | apply Kd.R_drewN | apply Kd.R_drew)); exact HQ61.out⟩
              have n1_ : Aside0 (Kd.R (Kd.int .i64) 3 (w60.setCell ⟨go52, (x46_2 : Int).toNat * 2 + 1, none⟩ (.int .i64 (wrap64 (((rd_T34 y465 x46_2).f1) + ((rd_T34 l1_1 x46_2).f1))))) w.heap.size (fun k_ => some k_ ≠ (.slice Ao47 t459.length co47 : Value).ownBlock) (.slice Ao46 t456.length co46) t456) := ⟨by (with_reducible repeat (first | apply Kd.R_alloc | apply Kd.R_drewN | apply Kd.R_drew)); exact Kd.R_mono (Kd.R_far (p := ⟨go52, (x46_2 : Int).toNat * 2 + 1, none⟩) (Kd.R_types HO_463002.out (Exists.choose_spec (Kd.R_typed HO_463001.out go52 rfl)) (by decide)) (fun _ hk => hk.2) (.int .i64 (wrap64 (((rd_T34 y465 x46_2).f1) + ((rd_T34 l1_1 x46_2).f1))))) (fun _ hk => hk.1)⟩
              have n2_ : Aside0 (Kd.R (Kd.int .i64) 3 (w60.setCell ⟨go52, (x46_2 : Int).toNat * 2 + 1, none⟩ (.int .i64 (wrap64 (((rd_T34 y465 x46_2).f1) + ((rd_T34 l1_1 x46_2).f1))))) w.heap.size (fun k_ => some k_ ≠ (.slice Ao46 t456.length co46 : Value).ownBlock) (.slice Ao47 t459.length co47) t459) := ⟨by (with_reducible repeat (first | apply Kd.R_alloc | apply Kd.R_drewN | apply Kd.R_drew)); exact Kd.R_mono (Kd.R_far (p := ⟨go52, (x46_2 : Int).toNat * 2 + 1, none⟩) (Kd.R_types HO_463003.out (Exists.choose_spec (Kd.R_typed HO_463001.out go52 rfl)) (by decide)) (fun _ hk => hk.2) (.int .i64 (wrap64 (((rd_T34 y465 x46_2).f1) + ((rd_T34 l1_1 x46_2).f1))))) (fun _ hk => hk.1)⟩
              have n3_ : Aside0 ((w60.setCell ⟨go52, (x46_2 : Int).toNat * 2 + 1, none⟩ (.int .i64 (wrap64 (((rd_T34 y465 x46_2).f1) + ((rd_T34 l1_1 x46_2).f1))))).heap[gb445]? = some (.cells #[.int .i64 a0_0, .slice A0_1 l0_1.length c0_1, .slice A0_2 l0_2.length c0_2, .slice A0_3 l0_3.length c0_3] 25 (0, 0))) := ⟨by (with_reducible repeat (first | refine blk_drewN ?_ _ | refine blk_drew ?_ | refine blk_alloc ?_ _)); refine blk_far ?_ (by have h_ := Kd.R_ne HO_463001.out BK445.out (by decide); intro e_; exact h_ (by rw [e_]; rfl)) _; (with_reducible repeat (first | refine blk_drewN ?_ _ | refine blk_drew ?_ | refine blk_alloc ?_ _)); exact BK445.out⟩
              have n4_ : Aside0 ((w60.setCell ⟨go52, (x46_2 : Int).toNat * 2 + 1, none⟩ (.int .i64 (wrap64 (((rd_T34 y465 x46_2).f1) + ((rd_T34 l1_1 x46_2).f1))))).heap[gb446]? = some (.cells #[.int .i64 a1_0, .slice (some ad464) l1_1.length c1_1, .slice A1_2 l1_2.length c1_2, .slice A1_3 l1_3.length c1_3] 25 (0, 0))) := ⟨by (with_reducible repeat (first | refine blk_drewN ?_ _ | refine blk_drew ?_ | refine blk_alloc ?_ _)); refine blk_far ?_ (by have h_ := Kd.R_ne HO_463001.out BK446.out (by decide); intro e_; exact h_ (by rw [e_]; rfl)) _; (with_reducible repeat (first | refine blk_drewN ?_ _ | refine blk_drew ?_ | refine blk_alloc ?_ _)); exact BK446.out⟩
              have n5_ : Aside0 ((w60.setCell ⟨go52, (x46_2 : Int).toNat * 2 + 1, none⟩ (.int .i64 (wrap64 (((rd_T34 y465 x46_2).f1) + ((rd_T34 l1_1 x46_2).f1))))).heap[gb447]? = some (.cells #[.int .i64 x448000_2, .slice none 0 0, .slice none 0 0, .slice none 0 0] 25 (0, 0))) := ⟨by (with_reducible repeat (first | refine blk_drewN ?_ _ | refine blk_drew ?_ | refine blk_alloc ?_ _)); refine blk_far ?_ (by have h_ := Kd.R_ne HO_463001.out BK447.out (by decide); intro e_; exact h_ (by rw [e_]; rfl)) _; (with_reducible repeat (first | refine blk_drewN ?_ _ | refine blk_drew ?_ | refine blk_alloc ?_ _)); exact BK447.out⟩
              have n6_ : Aside0 ((w60.setCell ⟨go52, (x46_2 : Int).toNat * 2 + 1, none⟩ (.int .i64 (wrap64 (((rd_T34 y465 x46_2).f1) + ((rd_T34 l1_1 x46_2).f1))))).heap[gb462]? = some (.cells #[.int .i64 t452, .slice (some ⟨go52, 0, none⟩) x463001_2.length co45, .slice Ao46 t456.length co46, .slice Ao47 t459.length co47] 25 (0, 0))) := ⟨by (with_reducible repeat (first | refine blk_drewN ?_ _ | refine blk_drew ?_ | refine blk_alloc ?_ _)); refine blk_far ?_ (by have h_ := Kd.R_ne HO_463001.out BK462.out (by decide); intro e_; exact h_ (by rw [e_]; rfl)) _; (with_reducible repeat (first | refine blk_drewN ?_ _ | refine blk_drew ?_ | refine blk_alloc ?_ _)); exact BK462.out⟩
              have n7_ : Aside0 (Below w.heap.size w (w60.setCell ⟨go52, (x46_2 : Int).toNat * 2 + 1, none⟩ (.int .i64 (wrap64 (((rd_T34 y465 x46_2).f1) + ((rd_T34 l1_1 x46_2).f1)))))) := ⟨by repeat (first | (with_reducible first | exact HB.out | apply below_alloc | apply pw_below_drewN | apply below_drew1 | refine below_set ?_ GB52.out | refine below_set ?_ GE445.out | refine below_set ?_ GE446.out | refine below_set ?_ GE447.out | refine below_set ?_ GE462.out) | exact HB.out)⟩
              (try clear HO_463001)
              (try clear HO_463002)
              (try clear HO_463003)
              (try clear BK445)
              (try clear BK446)
              (try clear BK447)
              (try clear BK462)
              (try clear HB)
              generalize (w60.setCell ⟨go52, (x46_2 : Int).toNat * 2 + 1, none⟩ (.int .i64 (wrap64 (((rd_T34 y465 x46_2).f1) + ((rd_T34 l1_1 x46_2).f1))))) = w62 at n0_ n1_ n2_ n3_ n4_ n5_ n6_ n7_ ⊢
              have HO_463001 := n0_
              have HO_463002 := n1_
              have HO_463003 := n2_
              have BK445 := n3_
              have BK446 := n4_
              have BK447 := n5_
              have BK462 := n6_
              have HB := n7_
              clear n0_ n1_ n2_ n3_ n4_ n5_ n6_ n7_
              have hnb63 := NB462_445.out
              have hnc63 := NB445_462.out
              have hnb64 := NB462_446.out
              have hnc64 := NB446_462.out
              have hnb65 := NB462_447.out
              have hnc65 := NB447_462.out
              obtain ⟨z0, z1, z2, z3, y0, y1, y2, y3⟩ := bc4 BK462
              have p54 : 0 ≤ (x46_2 : Int) := pos_
              have q54 : (x46_2 : Int) < ((x463001_2.length : Int) : Int) := pos_
              replace p54 := eq_true p54
              replace q54 := eq_true q54
              (try (obtain ⟨ad54, e54, hx54_0, hx54_1⟩ := at_T34 (Kd.R_reads' HO_463001.out).2.2 x46_2 (of_eq_true p54) (by first | exact of_eq_true q54 | (have h_ := of_eq_true q54; have e_ := (Kd.R_reads' HO_463001.out).1; omega) | (have h_ := of_eq_true q54; simpa only [Ny465.out, Ny468.out, List.length_set] using h_)); obtain rfl : (⟨go52, 0, none⟩ : Addr) = ad54 := (by injection e54); (first | simp only [add_plain] at hx54_0 | simp only [add_at] at hx54_0 | simp only [Addr.add, Nat.zero_add] at hx54_0 | skip); (first | simp only [add_plain] at hx54_1 | simp only [add_at] at hx54_1 | simp only [Addr.add, Nat.zero_add] at hx54_1 | skip)))
              (try (have hz_ : rd_T34 y468 x46_2 = _ := (congrArg (fun l_ => rd_T34 l_ x46_2) Ny468.out).trans (getD_set _ _ _ _ (by have p_ := of_eq_true p54; have h_ := of_eq_true q54; have e_ := (Kd.R_reads' HO_463001.out).1; first | omega | (simp only [Ny465.out, Ny468.out, List.length_set]; omega) | (simp only [Ny465.out, Ny468.out, List.length_set] at e_ ⊢; omega))); rw [hz_] at hx54_0 hx54_1; clear hz_; dsimp only at hx54_0 hx54_1))
              try go_wp2_with (first | ((with_reducible refine gate_callee (f := 24) rfl ?_); refine goesL_ (some 84) rfl rfl Try.func24 (by kernel_rfl) rfl #[.agg #[.int .i64 ((rd_T34 y465 x46_2).f0), .int .i64 (wrap64 (((rd_T34 y465 x46_2).f1) + ((rd_T34 l1_1 x46_2).f1)))]] rfl sma ?_; (with_reducible refine (quality_Check.calls ((rd_T34 y465 x46_2).f0) (wrap64 (((rd_T34 y465 x46_2).f1) + ((rd_T34 l1_1 x46_2).f1))) t470 _ A55.out).mono ?_); rintro e w67 ⟨rfl, hb⟩; refine ⟨_, rfl, ?_⟩; replace HO_463001 := rB HO_463001 hb; replace HO_463002 := rB HO_463002 hb; replace HO_463003 := rB HO_463003 hb; replace BK445 := bkB BK445 hb; replace BK446 := bkB BK446 hb; replace BK447 := bkB BK447 hb; replace BK462 := bkB BK462 hb; replace HB := hbS HB hb; (try clear hb); (try clear hb2); (try clear hk); (try clear hi)))
              (try simp only [← hl463001_2])
              go_roundg k2
              case measure => have := HJ2.out; have := HK2.out; omega
              case rel => exact ⟨(wrap64 (x46_2 + 1)), (x448000_2), (y468), rfs, H', ⟨by have := HJ2.out; have := HK2.out; omega⟩, ⟨by (try simp only [hl463001_2]); (with_reducible repeat (first | apply Kd.R_alloc | apply Kd.R_drewN | apply Kd.R_drew)); exact HO_463001.out⟩, ⟨by (try simp only [hl463001_2]); (with_reducible repeat (first | apply Kd.R_alloc | apply Kd.R_drewN | apply Kd.R_drew)); exact HO_463002.out⟩, ⟨by (try simp only [hl463001_2]); (with_reducible repeat (first | apply Kd.R_alloc | apply Kd.R_drewN | apply Kd.R_drew)); exact HO_463003.out⟩, ⟨by (try simp only [hl463001_2]); (with_reducible repeat (first | refine blk_drewN ?_ _ | refine blk_drew ?_ | refine blk_alloc ?_ _)); exact BK445.out⟩, ⟨by (try simp only [hl463001_2]); (with_reducible repeat (first | refine blk_drewN ?_ _ | refine blk_drew ?_ | refine blk_alloc ?_ _)); exact BK446.out⟩, ⟨by (try simp only [hl463001_2]); (with_reducible repeat (first | refine blk_drewN ?_ _ | refine blk_drew ?_ | refine blk_alloc ?_ _)); exact BK447.out⟩, ⟨by (try simp only [hl463001_2]); (with_reducible repeat (first | refine blk_drewN ?_ _ | refine blk_drew ?_ | refine blk_alloc ?_ _)); exact BK462.out⟩, hbA HB⟩
             ·rw [if_neg c56] at H
              have c56b0 : (t470 == 0) = false := beq_eq_false_iff_ne.mpr c56
              have c56b1 : (t470 != 0) = true := bne_iff_ne.mpr c56
              (try (have c56b0h := c56b0; simp only [hl463001_2] at c56b0h))
              (try (have c56b1h := c56b1; simp only [hl463001_2] at c56b1h))
              simp only [Option.some.injEq, Prod.mk.injEq] at H
              obtain ⟨rfl, rfl, rfl, rfl, rfl⟩ := H
              try go_wp2
              replace HO_463001 := Aside0.mk (Kd.R_drew HO_463001.out)
              replace HO_463002 := Aside0.mk (Kd.R_drew HO_463002.out)
              replace HO_463003 := Aside0.mk (Kd.R_drew HO_463003.out)
              replace BK445 := Aside0.mk (blk_drew BK445.out)
              replace BK446 := Aside0.mk (blk_drew BK446.out)
              replace BK447 := Aside0.mk (blk_drew BK447.out)
              replace BK462 := Aside0.mk (blk_drew BK462.out)
              replace HB := Aside0.mk (below_drew1 HB.out)
              have p463 : 0 ≤ (x46_2 : Int) := pos_
              have q463 : x46_2 < (x463001_2.length : Int) := pos_
              obtain ⟨ad463, e463, hx463_0, hx463_1⟩ := at_T34 (Kd.R_reads' HO_463001.out).2.2 x46_2 p463 q463
              cases e463
              replace p463 := eq_true p463
              replace q463 := eq_true q463
              have p464 : 0 ≤ (x46_2 : Int) := pos_
              have q464 : x46_2 < (l1_1.length : Int) := pos_
              obtain ⟨ad464, e464, hx464_0, hx464_1⟩ := at_T34 HR1_1.out x46_2 p464 q464
              have hw464_1 := hx464_1
              have hw464_0 := hx464_0
              cases e464
              replace hx464_0 := (HB.out.cell (World.block_lt_of_cell? w _ hx464_0)).trans hx464_0
              replace hx464_1 := (HB.out.cell (World.block_lt_of_cell? w _ hx464_1)).trans hx464_1
              replace p464 := eq_true p464
              replace q464 := eq_true q464
              have p52 : 0 ≤ (x46_2 : Int) := pos_
              have q52 : (x46_2 : Int) < ((x463001_2.length : Int) : Int) := pos_
              obtain ⟨go52, co52, eo52, gb52, gl52, cl52, HG52⟩ := Kd.R_form HO_463001.out (by omega)
              (first | cases eo52 | (injection eo52 with ea_ en_ ec_; (first | subst ea_ | (injection ea_ with ea_; subst ea_)); subst ec_; clear en_))
              have GB52 := Aside0.mk gb52
              have GG52 := Aside0.mk HG52
              clear gb52 gl52 HG52
              (first | simp only [add_plain] at hx463_0 | skip)
              (first | simp only [add_plain] at hx463_1 | skip)
              obtain ⟨ce52, hcl52, hM52, hcc52, hfr52⟩ := Kd.R_elem HO_463001.out z34 (x46_2 : Int) p52 q52
              obtain rfl := k34_openM hM52
              have hx52_0 : World.cell? _ ⟨go52, (x46_2 : Int).toNat * 2, none⟩ = some (.int .i64 ((rd_T34 x463001_2 x46_2).f0)) := hcc52 0 _ rfl
              have hx52_1 : World.cell? _ ⟨go52, (x46_2 : Int).toNat * 2 + 1, none⟩ = some (.int .i64 ((rd_T34 x463001_2 x46_2).f1)) := hcc52 1 _ rfl
              have hf52_0 : World.frozen? _ ⟨go52, (x46_2 : Int).toNat * 2, none⟩ = false := hfr52 0
              have hf52_1 : World.frozen? _ ⟨go52, (x46_2 : Int).toNat * 2 + 1, none⟩ = false := hfr52 1
              clear hcl52 hcc52 hfr52 hM52
              replace p52 := eq_true p52
              replace q52 := eq_true q52
              obtain ⟨ce69, hcl69, hM69, hcc69, hfr69⟩ := Kd.R_elem HO_463001.out z34 (x46_2 : Int) (pos_) (by have h_ : (x46_2 : Int) < ((x463001_2.length : Int) : Int) := pos_; first | exact h_ | (have e_ := (Kd.R_reads' HO_463001.out).1; omega) | simpa using h_)
              obtain rfl := k34_openM hM69
              have HP69 := (Kd.R_seg HO_463001.out (x46_2 : Int) (pos_) (by have h_ : (x46_2 : Int) < ((x463001_2.length : Int) : Int) := pos_; first | exact h_ | (have e_ := (Kd.R_reads' HO_463001.out).1; omega) | simpa using h_) (seg := [.int .i64 (wrap64 (((rd_T34 x463001_2 x46_2).f0) + ((rd_T34 l1_1 x46_2).f0)))]) (j := 0) hcl69 hcc69 (show 1 ≤ 2 from by decide) (x' := (⟨wrap64 (((rd_T34 x463001_2 x46_2).f0) + ((rd_T34 l1_1 x46_2).f0)), (rd_T34 x463001_2 x46_2).f1⟩ : S34)) (k34_mkM _ _ _ (⟨wrap64 (((rd_T34 x463001_2 x46_2).f0) + ((rd_T34 l1_1 x46_2).f0)), (rd_T34 x463001_2 x46_2).f1⟩ : S34) ) (fun _ hk => hk)).1
              rw [← Ny465.out] at HP69
              have HQ69 := Aside0.mk HP69
              clear hcl69 hcc69 hfr69 hM69 HP69
              refine start_ (n := 16) (S := fun w' => w'.cell? ⟨gb462, 0, none⟩ = some (.int .i64 t452) ∧ w'.cell? ⟨gb462, 1, none⟩ = some (.slice (some ⟨go52, 0, none⟩) x463001_2.length co45) ∧ w'.cell? ⟨gb462, 2, none⟩ = some (.slice Ao46 t456.length co46) ∧ w'.cell? ⟨gb462, 3, none⟩ = some (.slice Ao47 t459.length co47) ∧ w'.cell? ⟨gb446, 0, none⟩ = some (.int .i64 a1_0) ∧ w'.cell? ⟨gb446, 1, none⟩ = some (.slice (some ad464) l1_1.length c1_1) ∧ w'.cell? ⟨gb446, 2, none⟩ = some (.slice A1_2 l1_2.length c1_2) ∧ w'.cell? ⟨gb446, 3, none⟩ = some (.slice A1_3 l1_3.length c1_3) ∧ w'.cell? ⟨go52, ((x46_2).toNat * 2), none⟩ = some (.int .i64 ((rd_T34 x463001_2 x46_2).f0)) ∧ w'.cell? ⟨go52, ((x46_2).toNat * 2) + 1, none⟩ = some (.int .i64 ((rd_T34 x463001_2 x46_2).f1)) ∧ w'.cell? (ad464.add ((x46_2).toNat * 2)) = some (.int .i64 ((rd_T34 l1_1 x46_2).f0)) ∧ w'.cell? ⟨(ad464.add ((x46_2).toNat * 2)).block, (ad464.add ((x46_2).toNat * 2)).off + 1, none⟩ = some (.int .i64 ((rd_T34 l1_1 x46_2).f1))) (ds := [15]) #[false, false, false, false, false, false, false, false, false, false, false, false, false, false, false, false] (by kernel_rfl) rfl rfl ⟨(blk_cell BK462.out 0).trans rfl, (blk_cell BK462.out 1).trans rfl, (blk_cell BK462.out 2).trans rfl, (blk_cell BK462.out 3).trans rfl, (blk_cell BK446.out 0).trans rfl, (blk_cell BK446.out 1).trans rfl, (blk_cell BK446.out 2).trans rfl, (blk_cell BK446.out 3).trans rfl, hx463_0, hx463_1, ((HB.out.cell (World.block_lt_of_cell? w _ hw464_0)).trans hw464_0), ((HB.out.cell (World.block_lt_of_cell? w _ hw464_1)).trans hw464_1)⟩ (fun hHeld => ?_); refine with_tabW quality_Merge.tab9 quality_Merge.bits9 (fun HT_ HW_ => ?_)
              generalize wr.drew = w68 at HO_463001 HO_463002 HO_463003 BK445 BK446 BK447 BK462 HB GG52 HQ69 hf52_0 hf52_1 hx463_0 hx463_1 hx464_0 hx464_1 hx52_0 hx52_1 hHeld ⊢
              refine pur 0 (some 49) #[true, false, false, false, false, false, false, false, false, false, false, false, false, false, false, false] HT_ ?_
              refine pur 2 (some 51) #[true, false, true, false, false, false, false, false, false, false, false, false, false, false, false, false] HT_ ?_
              refine pur 6 (some 55) #[true, false, true, false, false, false, true, false, false, false, false, false, false, false, false, false] HT_ ?_
              refine pur 8 (some 57) #[true, false, true, false, false, false, true, false, true, false, false, false, false, false, false, false] HT_ ?_
              refine tak 1 (some 50) #[true, true, true, false, false, false, true, false, true, false, false, false, false, false, false, false] HT_ HW_ hHeld rfl (Or.inl ⟨by rfl, by rintro w' ⟨s0, s1, s2, s3, s4, s5, s6, s7, s8, s9, s10, s11⟩; go_simp; with_reducible rfl⟩) ?_
              refine pur 3 (some 52) #[true, true, true, true, false, false, true, false, true, false, false, false, false, false, false, false] HT_ ?_
              refine pur 4 (some 53) #[true, true, true, true, true, false, true, false, true, false, false, false, false, false, false, false] HT_ ?_
              refine tak 5 (some 54) #[true, true, true, true, true, true, true, false, true, false, false, false, false, false, false, false] HT_ HW_ hHeld rfl (Or.inl ⟨by rfl, by rintro w' ⟨s0, s1, s2, s3, s4, s5, s6, s7, s8, s9, s10, s11⟩; go_simp; with_reducible rfl⟩) ?_
              refine tak 7 (some 56) #[true, true, true, true, true, true, true, true, true, false, false, false, false, false, false, false] HT_ HW_ hHeld rfl (Or.inl ⟨by rfl, by rintro w' ⟨s0, s1, s2, s3, s4, s5, s6, s7, s8, s9, s10, s11⟩; go_simp; with_reducible rfl⟩) ?_
              refine pur 9 (some 58) #[true, true, true, true, true, true, true, true, true, true, false, false, false, false, false, false] HT_ ?_
              refine pur 10 (some 59) #[true, true, true, true, true, true, true, true, true, true, true, false, false, false, false, false] HT_ ?_
              refine tak 11 (some 60) #[true, true, true, true, true, true, true, true, true, true, true, true, false, false, false, false] HT_ HW_ hHeld rfl (Or.inl ⟨by rfl, by rintro w' ⟨s0, s1, s2, s3, s4, s5, s6, s7, s8, s9, s10, s11⟩; go_simp; with_reducible rfl⟩) ?_
              refine pur 12 (some 61) #[true, true, true, true, true, true, true, true, true, true, true, true, true, false, false, false] HT_ ?_
              refine pur 13 (some 62) #[true, true, true, true, true, true, true, true, true, true, true, true, true, true, false, false] HT_ ?_
              refine pur 14 (some 63) #[true, true, true, true, true, true, true, true, true, true, true, true, true, true, true, false] HT_ ?_
              refine last_ (i := 15) (N := none) #[true, true, true, true, true, true, true, true, true, true, true, true, true, true, true, true] rfl rfl (one_of HT_.out (by kernel_rfl)) (by decide) (fun K hK => ?_)
              refine skip_ (w1 := ?_) (by rfl) rfl ?_ ?_
              rotate_left
              ·go_simp
               rfl
              refine hK.out _ _ ?_
              clear hK K
              refine done_ (done_of HT_.out (by kernel_rfl)) ?_
              have n0_ : Aside0 (Kd.R k34 34 (w68.setCell ⟨go52, (x46_2 : Int).toNat * 2, none⟩ (.int .i64 (wrap64 (((rd_T34 x463001_2 x46_2).f0) + ((rd_T34 l1_1 x46_2).f0))))) w.heap.size (fun _ => True) (.slice (some ⟨go52, 0, none⟩) x463001_2.length co45) y465) := ⟨by (with_reducible repeat (first | apply Kd.R_alloc | apply Kd.R_drewN | apply Kd.R_drew)); exact HQ69.out⟩
              have n1_ : Aside0 (Kd.R (Kd.int .i64) 3 (w68.setCell ⟨go52, (x46_2 : Int).toNat * 2, none⟩ (.int .i64 (wrap64 (((rd_T34 x463001_2 x46_2).f0) + ((rd_T34 l1_1 x46_2).f0))))) w.heap.size (fun k_ => some k_ ≠ (.slice Ao47 t459.length co47 : Value).ownBlock) (.slice Ao46 t456.length co46) t456) := ⟨by (with_reducible repeat (first | apply Kd.R_alloc | apply Kd.R_drewN | apply Kd.R_drew)); exact Kd.R_mono (Kd.R_far (p := ⟨go52, (x46_2 : Int).toNat * 2, none⟩) (Kd.R_types HO_463002.out (Exists.choose_spec (Kd.R_typed HO_463001.out go52 rfl)) (by decide)) (fun _ hk => hk.2) (.int .i64 (wrap64 (((rd_T34 x463001_2 x46_2).f0) + ((rd_T34 l1_1 x46_2).f0))))) (fun _ hk => hk.1)⟩
              have n2_ : Aside0 (Kd.R (Kd.int .i64) 3 (w68.setCell ⟨go52, (x46_2 : Int).toNat * 2, none⟩ (.int .i64 (wrap64 (((rd_T34 x463001_2 x46_2).f0) + ((rd_T34 l1_1 x46_2).f0))))) w.heap.size (fun k_ => some k_ ≠ (.slice Ao46 t456.length co46 : Value).ownBlock) (.slice Ao47 t459.length co47) t459) := ⟨by (with_reducible repeat (first | apply Kd.R_alloc | apply Kd.R_drewN | apply Kd.R_drew)); exact Kd.R_mono (Kd.R_far (p := ⟨go52, (x46_2 : Int).toNat * 2, none⟩) (Kd.R_types HO_463003.out (Exists.choose_spec (Kd.R_typed HO_463001.out go52 rfl)) (by decide)) (fun _ hk => hk.2) (.int .i64 (wrap64 (((rd_T34 x463001_2 x46_2).f0) + ((rd_T34 l1_1 x46_2).f0))))) (fun _ hk => hk.1)⟩
              have n3_ : Aside0 ((w68.setCell ⟨go52, (x46_2 : Int).toNat * 2, none⟩ (.int .i64 (wrap64 (((rd_T34 x463001_2 x46_2).f0) + ((rd_T34 l1_1 x46_2).f0))))).heap[gb445]? = some (.cells #[.int .i64 a0_0, .slice A0_1 l0_1.length c0_1, .slice A0_2 l0_2.length c0_2, .slice A0_3 l0_3.length c0_3] 25 (0, 0))) := ⟨by (with_reducible repeat (first | refine blk_drewN ?_ _ | refine blk_drew ?_ | refine blk_alloc ?_ _)); refine blk_far ?_ (by have h_ := Kd.R_ne HO_463001.out BK445.out (by decide); intro e_; exact h_ (by rw [e_]; rfl)) _; (with_reducible repeat (first | refine blk_drewN ?_ _ | refine blk_drew ?_ | refine blk_alloc ?_ _)); exact BK445.out⟩
              have n4_ : Aside0 ((w68.setCell ⟨go52, (x46_2 : Int).toNat * 2, none⟩ (.int .i64 (wrap64 (((rd_T34 x463001_2 x46_2).f0) + ((rd_T34 l1_1 x46_2).f0))))).heap[gb446]? = some (.cells #[.int .i64 a1_0, .slice (some ad464) l1_1.length c1_1, .slice A1_2 l1_2.length c1_2, .slice A1_3 l1_3.length c1_3] 25 (0, 0))) := ⟨by (with_reducible repeat (first | refine blk_drewN ?_ _ | refine blk_drew ?_ | refine blk_alloc ?_ _)); refine blk_far ?_ (by have h_ := Kd.R_ne HO_463001.out BK446.out (by decide); intro e_; exact h_ (by rw [e_]; rfl)) _; (with_reducible repeat (first | refine blk_drewN ?_ _ | refine blk_drew ?_ | refine blk_alloc ?_ _)); exact BK446.out⟩
              have n5_ : Aside0 ((w68.setCell ⟨go52, (x46_2 : Int).toNat * 2, none⟩ (.int .i64 (wrap64 (((rd_T34 x463001_2 x46_2).f0) + ((rd_T34 l1_1 x46_2).f0))))).heap[gb447]? = some (.cells #[.int .i64 x448000_2, .slice none 0 0, .slice none 0 0, .slice none 0 0] 25 (0, 0))) := ⟨by (with_reducible repeat (first | refine blk_drewN ?_ _ | refine blk_drew ?_ | refine blk_alloc ?_ _)); refine blk_far ?_ (by have h_ := Kd.R_ne HO_463001.out BK447.out (by decide); intro e_; exact h_ (by rw [e_]; rfl)) _; (with_reducible repeat (first | refine blk_drewN ?_ _ | refine blk_drew ?_ | refine blk_alloc ?_ _)); exact BK447.out⟩
              have n6_ : Aside0 ((w68.setCell ⟨go52, (x46_2 : Int).toNat * 2, none⟩ (.int .i64 (wrap64 (((rd_T34 x463001_2 x46_2).f0) + ((rd_T34 l1_1 x46_2).f0))))).heap[gb462]? = some (.cells #[.int .i64 t452, .slice (some ⟨go52, 0, none⟩) x463001_2.length co45, .slice Ao46 t456.length co46, .slice Ao47 t459.length co47] 25 (0, 0))) := ⟨by (with_reducible repeat (first | refine blk_drewN ?_ _ | refine blk_drew ?_ | refine blk_alloc ?_ _)); refine blk_far ?_ (by have h_ := Kd.R_ne HO_463001.out BK462.out (by decide); intro e_; exact h_ (by rw [e_]; rfl)) _; (with_reducible repeat (first | refine blk_drewN ?_ _ | refine blk_drew ?_ | refine blk_alloc ?_ _)); exact BK462.out⟩
              have n7_ : Aside0 (Below w.heap.size w (w68.setCell ⟨go52, (x46_2 : Int).toNat * 2, none⟩ (.int .i64 (wrap64 (((rd_T34 x463001_2 x46_2).f0) + ((rd_T34 l1_1 x46_2).f0)))))) := ⟨by repeat (first | (with_reducible first | exact HB.out | apply below_alloc | apply pw_below_drewN | apply below_drew1 | refine below_set ?_ GB52.out | refine below_set ?_ GE445.out | refine below_set ?_ GE446.out | refine below_set ?_ GE447.out | refine below_set ?_ GE462.out) | exact HB.out)⟩
              (try clear HO_463001)
              (try clear HO_463002)
              (try clear HO_463003)
              (try clear BK445)
              (try clear BK446)
              (try clear BK447)
              (try clear BK462)
              (try clear HB)
              generalize (w68.setCell ⟨go52, (x46_2 : Int).toNat * 2, none⟩ (.int .i64 (wrap64 (((rd_T34 x463001_2 x46_2).f0) + ((rd_T34 l1_1 x46_2).f0))))) = w70 at n0_ n1_ n2_ n3_ n4_ n5_ n6_ n7_ ⊢
              have HO_463001 := n0_
              have HO_463002 := n1_
              have HO_463003 := n2_
              have BK445 := n3_
              have BK446 := n4_
              have BK447 := n5_
              have BK462 := n6_
              have HB := n7_
              clear n0_ n1_ n2_ n3_ n4_ n5_ n6_ n7_
              try go_wp2
              replace HO_463001 := Aside0.mk (Kd.R_drew HO_463001.out)
              replace HO_463002 := Aside0.mk (Kd.R_drew HO_463002.out)
              replace HO_463003 := Aside0.mk (Kd.R_drew HO_463003.out)
              replace BK445 := Aside0.mk (blk_drew BK445.out)
              replace BK446 := Aside0.mk (blk_drew BK446.out)
              replace BK447 := Aside0.mk (blk_drew BK447.out)
              replace BK462 := Aside0.mk (blk_drew BK462.out)
              replace HB := Aside0.mk (below_drew1 HB.out)
              have p466 : 0 ≤ (x46_2 : Int) := pos_
              have q466 : x46_2 < (y465.length : Int) := (by have h_ : (x46_2 : Int) < ((x463001_2.length : Int) : Int) := pos_; first | (have e_ := (Kd.R_reads' HO_463001.out).1; omega) | simpa only [Ny465.out, List.length_set] using h_)
              have ql466 : ((x46_2 : Int) < ((x463001_2.length : Int) : Int)) = True := eq_true (pos_)
              obtain ⟨ad466, e466, hx466_0, hx466_1⟩ := at_T34 (Kd.R_reads' HO_463001.out).2.2 x46_2 p466 q466
              obtain rfl : (⟨go52, 0, none⟩ : Addr) = ad466 := (by injection e466)
              (first | simp only [add_plain] at hx466_0 | simp only [add_at] at hx466_0 | simp only [Addr.add, Nat.zero_add] at hx466_0 | skip)
              (first | simp only [add_plain] at hx466_1 | simp only [add_at] at hx466_1 | simp only [Addr.add, Nat.zero_add] at hx466_1 | skip)
              replace p466 := eq_true p466
              replace q466 := eq_true q466
              have p467 : 0 ≤ (x46_2 : Int) := pos_
              have q467 : x46_2 < (l1_1.length : Int) := pos_
              obtain ⟨ad467, e467, hx467_0, hx467_1⟩ := at_T34 HR1_1.out x46_2 p467 q467
              have hw467_1 := hx467_1
              have hw467_0 := hx467_0
              obtain rfl : ad464 = ad467 := (by injection e467)
              replace hx467_0 := (HB.out.cell (World.block_lt_of_cell? w _ hx467_0)).trans hx467_0
              replace hx467_1 := (HB.out.cell (World.block_lt_of_cell? w _ hx467_1)).trans hx467_1
              replace p467 := eq_true p467
              replace q467 := eq_true q467
              have p53 : 0 ≤ (x46_2 : Int) := pos_
              have q53 : (x46_2 : Int) < ((x463001_2.length : Int) : Int) := pos_
              obtain ⟨go_, co_, eo_, gb_, gl_, cl_, HG_⟩ := Kd.R_form HO_463001.out (by have e_ := (Kd.R_reads' HO_463001.out).1; omega)
              obtain rfl : go52 = go_ := Option.some.inj (show some go52 = some go_ from congrArg Value.ownBlock eo_)
              replace GG52 := Aside0.mk HG_
              clear eo_ gb_ gl_ HG_
              obtain ⟨ce53, hcl53, hM53, hcc53, hfr53⟩ := Kd.R_elem HO_463001.out z34 (x46_2 : Int) p53 q53
              obtain rfl := k34_openM hM53
              have hx53_0 : World.cell? _ ⟨go52, (x46_2 : Int).toNat * 2, none⟩ = some (.int .i64 ((rd_T34 y465 x46_2).f0)) := hcc53 0 _ rfl
              have hx53_1 : World.cell? _ ⟨go52, (x46_2 : Int).toNat * 2 + 1, none⟩ = some (.int .i64 ((rd_T34 y465 x46_2).f1)) := hcc53 1 _ rfl
              have hf53_0 : World.frozen? _ ⟨go52, (x46_2 : Int).toNat * 2, none⟩ = false := hfr53 0
              have hf53_1 : World.frozen? _ ⟨go52, (x46_2 : Int).toNat * 2 + 1, none⟩ = false := hfr53 1
              clear hcl53 hcc53 hfr53 hM53
              replace p53 := eq_true p53
              replace q53 := eq_true q53
              obtain ⟨ce72, hcl72, hM72, hcc72, hfr72⟩ := Kd.R_elem HO_463001.out z34 (x46_2 : Int) (pos_) (by have h_ : (x46_2 : Int) < ((x463001_2.length : Int) : Int) := pos_; first | exact h_ | (have e_ := (Kd.R_reads' HO_463001.out).1; omega) | simpa using h_)
              obtain rfl := k34_openM hM72
              have HP72 := (Kd.R_seg HO_463001.out (x46_2 : Int) (pos_) (by have h_ : (x46_2 : Int) < ((x463001_2.length : Int) : Int) := pos_; first | exact h_ | (have e_ := (Kd.R_reads' HO_463001.out).1; omega) | simpa using h_) (seg := [.int .i64 (wrap64 (((rd_T34 y465 x46_2).f1) + ((rd_T34 l1_1 x46_2).f1)))]) (j := 1) hcl72 hcc72 (show 2 ≤ 2 from by decide) (x' := (⟨(rd_T34 y465 x46_2).f0, wrap64 (((rd_T34 y465 x46_2).f1) + ((rd_T34 l1_1 x46_2).f1))⟩ : S34)) (k34_mkM _ _ _ (⟨(rd_T34 y465 x46_2).f0, wrap64 (((rd_T34 y465 x46_2).f1) + ((rd_T34 l1_1 x46_2).f1))⟩ : S34) ) (fun _ hk => hk)).1
              rw [← Ny468.out] at HP72
              have HQ72 := Aside0.mk HP72
              clear hcl72 hcc72 hfr72 hM72 HP72
              refine start_ (n := 16) (S := fun w' => w'.cell? ⟨gb462, 0, none⟩ = some (.int .i64 t452) ∧ w'.cell? ⟨gb462, 1, none⟩ = some (.slice (some ⟨go52, 0, none⟩) x463001_2.length co45) ∧ w'.cell? ⟨gb462, 2, none⟩ = some (.slice Ao46 t456.length co46) ∧ w'.cell? ⟨gb462, 3, none⟩ = some (.slice Ao47 t459.length co47) ∧ w'.cell? ⟨gb446, 0, none⟩ = some (.int .i64 a1_0) ∧ w'.cell? ⟨gb446, 1, none⟩ = some (.slice (some ad464) l1_1.length c1_1) ∧ w'.cell? ⟨gb446, 2, none⟩ = some (.slice A1_2 l1_2.length c1_2) ∧ w'.cell? ⟨gb446, 3, none⟩ = some (.slice A1_3 l1_3.length c1_3) ∧ w'.cell? ⟨go52, (x46_2).toNat * 2, none⟩ = some (.int .i64 ((rd_T34 y465 x46_2).f0)) ∧ w'.cell? ⟨go52, (x46_2).toNat * 2 + 1, none⟩ = some (.int .i64 ((rd_T34 y465 x46_2).f1)) ∧ w'.cell? (ad464.add ((x46_2).toNat * 2)) = some (.int .i64 ((rd_T34 l1_1 x46_2).f0)) ∧ w'.cell? ⟨(ad464.add ((x46_2).toNat * 2)).block, (ad464.add ((x46_2).toNat * 2)).off + 1, none⟩ = some (.int .i64 ((rd_T34 l1_1 x46_2).f1))) (ds := [15]) #[false, false, false, false, false, false, false, false, false, false, false, false, false, false, false, false] (by kernel_rfl) rfl rfl ⟨(blk_cell BK462.out 0).trans rfl, (blk_cell BK462.out 1).trans rfl, (blk_cell BK462.out 2).trans rfl, (blk_cell BK462.out 3).trans rfl, (blk_cell BK446.out 0).trans rfl, (blk_cell BK446.out 1).trans rfl, (blk_cell BK446.out 2).trans rfl, (blk_cell BK446.out 3).trans rfl, hx466_0, hx466_1, ((HB.out.cell (World.block_lt_of_cell? w _ hw467_0)).trans hw467_0), ((HB.out.cell (World.block_lt_of_cell? w _ hw467_1)).trans hw467_1)⟩ (fun hHeld => ?_); refine with_tabW quality_Merge.tab10 quality_Merge.bits10 (fun HT_ HW_ => ?_)
              generalize w70.drew = w71 at HO_463001 HO_463002 HO_463003 BK445 BK446 BK447 BK462 HB HQ72 hf53_0 hf53_1 hx466_0 hx466_1 hx467_0 hx467_1 hx53_0 hx53_1 hHeld GG52 ⊢
              refine pur 0 (some 64) #[true, false, false, false, false, false, false, false, false, false, false, false, false, false, false, false] HT_ ?_
              refine pur 2 (some 66) #[true, false, true, false, false, false, false, false, false, false, false, false, false, false, false, false] HT_ ?_
              refine pur 6 (some 70) #[true, false, true, false, false, false, true, false, false, false, false, false, false, false, false, false] HT_ ?_
              refine pur 8 (some 72) #[true, false, true, false, false, false, true, false, true, false, false, false, false, false, false, false] HT_ ?_
              refine tak 1 (some 65) #[true, true, true, false, false, false, true, false, true, false, false, false, false, false, false, false] HT_ HW_ hHeld rfl (Or.inl ⟨by rfl, by rintro w' ⟨s0, s1, s2, s3, s4, s5, s6, s7, s8, s9, s10, s11⟩; go_simp; with_reducible rfl⟩) ?_
              refine pur 3 (some 67) #[true, true, true, true, false, false, true, false, true, false, false, false, false, false, false, false] HT_ ?_
              refine pur 4 (some 68) #[true, true, true, true, true, false, true, false, true, false, false, false, false, false, false, false] HT_ ?_
              refine tak 5 (some 69) #[true, true, true, true, true, true, true, false, true, false, false, false, false, false, false, false] HT_ HW_ hHeld rfl (Or.inl ⟨by rfl, by rintro w' ⟨s0, s1, s2, s3, s4, s5, s6, s7, s8, s9, s10, s11⟩; go_simp; with_reducible rfl⟩) ?_
              refine tak 7 (some 71) #[true, true, true, true, true, true, true, true, true, false, false, false, false, false, false, false] HT_ HW_ hHeld rfl (Or.inl ⟨by rfl, by rintro w' ⟨s0, s1, s2, s3, s4, s5, s6, s7, s8, s9, s10, s11⟩; go_simp; with_reducible rfl⟩) ?_
              refine pur 9 (some 73) #[true, true, true, true, true, true, true, true, true, true, false, false, false, false, false, false] HT_ ?_
              refine pur 10 (some 74) #[true, true, true, true, true, true, true, true, true, true, true, false, false, false, false, false] HT_ ?_
              refine tak 11 (some 75) #[true, true, true, true, true, true, true, true, true, true, true, true, false, false, false, false] HT_ HW_ hHeld rfl (Or.inl ⟨by rfl, by rintro w' ⟨s0, s1, s2, s3, s4, s5, s6, s7, s8, s9, s10, s11⟩; go_simp; with_reducible rfl⟩) ?_
              refine pur 12 (some 76) #[true, true, true, true, true, true, true, true, true, true, true, true, true, false, false, false] HT_ ?_
              refine pur 13 (some 77) #[true, true, true, true, true, true, true, true, true, true, true, true, true, true, false, false] HT_ ?_
              refine pur 14 (some 78) #[true, true, true, true, true, true, true, true, true, true, true, true, true, true, true, false] HT_ ?_
              refine last_ (i := 15) (N := none) #[true, true, true, true, true, true, true, true, true, true, true, true, true, true, true, true] rfl rfl (one_of HT_.out (by kernel_rfl)) (by decide) (fun K hK => ?_)
              refine skip_ (w1 := ?_) (by rfl) rfl ?_ ?_
              rotate_left
              ·go_simp
               rfl
              refine hK.out _ _ ?_
              clear hK K
              refine done_ (done_of HT_.out (by kernel_rfl)) ?_
              have n0_ : Aside0 (Kd.R k34 34 (w71.setCell ⟨go52, (x46_2 : Int).toNat * 2 + 1, none⟩ (.int .i64 (wrap64 (((rd_T34 y465 x46_2).f1) + ((rd_T34 l1_1 x46_2).f1))))) w.heap.size (fun _ => True) (.slice (some ⟨go52, 0, none⟩) x463001_2.length co45) y468) := ⟨by (with_reducible repeat (first | apply Kd.R_alloc | apply Kd.R_drewN | apply Kd.R_drew)); exact HQ72.out⟩
              have n1_ : Aside0 (Kd.R (Kd.int .i64) 3 (w71.setCell ⟨go52, (x46_2 : Int).toNat * 2 + 1, none⟩ (.int .i64 (wrap64 (((rd_T34 y465 x46_2).f1) + ((rd_T34 l1_1 x46_2).f1))))) w.heap.size (fun k_ => some k_ ≠ (.slice Ao47 t459.length co47 : Value).ownBlock) (.slice Ao46 t456.length co46) t456) := ⟨by (with_reducible repeat (first | apply Kd.R_alloc | apply Kd.R_drewN | apply Kd.R_drew)); exact Kd.R_mono (Kd.R_far (p := ⟨go52, (x46_2 : Int).toNat * 2 + 1, none⟩) (Kd.R_types HO_463002.out (Exists.choose_spec (Kd.R_typed HO_463001.out go52 rfl)) (by decide)) (fun _ hk => hk.2) (.int .i64 (wrap64 (((rd_T34 y465 x46_2).f1) + ((rd_T34 l1_1 x46_2).f1))))) (fun _ hk => hk.1)⟩
              have n2_ : Aside0 (Kd.R (Kd.int .i64) 3 (w71.setCell ⟨go52, (x46_2 : Int).toNat * 2 + 1, none⟩ (.int .i64 (wrap64 (((rd_T34 y465 x46_2).f1) + ((rd_T34 l1_1 x46_2).f1))))) w.heap.size (fun k_ => some k_ ≠ (.slice Ao46 t456.length co46 : Value).ownBlock) (.slice Ao47 t459.length co47) t459) := ⟨by (with_reducible repeat (first | apply Kd.R_alloc | apply Kd.R_drewN | apply Kd.R_drew)); exact Kd.R_mono (Kd.R_far (p := ⟨go52, (x46_2 : Int).toNat * 2 + 1, none⟩) (Kd.R_types HO_463003.out (Exists.choose_spec (Kd.R_typed HO_463001.out go52 rfl)) (by decide)) (fun _ hk => hk.2) (.int .i64 (wrap64 (((rd_T34 y465 x46_2).f1) + ((rd_T34 l1_1 x46_2).f1))))) (fun _ hk => hk.1)⟩
              have n3_ : Aside0 ((w71.setCell ⟨go52, (x46_2 : Int).toNat * 2 + 1, none⟩ (.int .i64 (wrap64 (((rd_T34 y465 x46_2).f1) + ((rd_T34 l1_1 x46_2).f1))))).heap[gb445]? = some (.cells #[.int .i64 a0_0, .slice A0_1 l0_1.length c0_1, .slice A0_2 l0_2.length c0_2, .slice A0_3 l0_3.length c0_3] 25 (0, 0))) := ⟨by (with_reducible repeat (first | refine blk_drewN ?_ _ | refine blk_drew ?_ | refine blk_alloc ?_ _)); refine blk_far ?_ (by have h_ := Kd.R_ne HO_463001.out BK445.out (by decide); intro e_; exact h_ (by rw [e_]; rfl)) _; (with_reducible repeat (first | refine blk_drewN ?_ _ | refine blk_drew ?_ | refine blk_alloc ?_ _)); exact BK445.out⟩
              have n4_ : Aside0 ((w71.setCell ⟨go52, (x46_2 : Int).toNat * 2 + 1, none⟩ (.int .i64 (wrap64 (((rd_T34 y465 x46_2).f1) + ((rd_T34 l1_1 x46_2).f1))))).heap[gb446]? = some (.cells #[.int .i64 a1_0, .slice (some ad464) l1_1.length c1_1, .slice A1_2 l1_2.length c1_2, .slice A1_3 l1_3.length c1_3] 25 (0, 0))) := ⟨by (with_reducible repeat (first | refine blk_drewN ?_ _ | refine blk_drew ?_ | refine blk_alloc ?_ _)); refine blk_far ?_ (by have h_ := Kd.R_ne HO_463001.out BK446.out (by decide); intro e_; exact h_ (by rw [e_]; rfl)) _; (with_reducible repeat (first | refine blk_drewN ?_ _ | refine blk_drew ?_ | refine blk_alloc ?_ _)); exact BK446.out⟩
              have n5_ : Aside0 ((w71.setCell ⟨go52, (x46_2 : Int).toNat * 2 + 1, none⟩ (.int .i64 (wrap64 (((rd_T34 y465 x46_2).f1) + ((rd_T34 l1_1 x46_2).f1))))).heap[gb447]? = some (.cells #[.int .i64 x448000_2, .slice none 0 0, .slice none 0 0, .slice none 0 0] 25 (0, 0))) := ⟨by (with_reducible repeat (first | refine blk_drewN ?_ _ | refine blk_drew ?_ | refine blk_alloc ?_ _)); refine blk_far ?_ (by have h_ := Kd.R_ne HO_463001.out BK447.out (by decide); intro e_; exact h_ (by rw [e_]; rfl)) _; (with_reducible repeat (first | refine blk_drewN ?_ _ | refine blk_drew ?_ | refine blk_alloc ?_ _)); exact BK447.out⟩
              have n6_ : Aside0 ((w71.setCell ⟨go52, (x46_2 : Int).toNat * 2 + 1, none⟩ (.int .i64 (wrap64 (((rd_T34 y465 x46_2).f1) + ((rd_T34 l1_1 x46_2).f1))))).heap[gb462]? = some (.cells #[.int .i64 t452, .slice (some ⟨go52, 0, none⟩) x463001_2.length co45, .slice Ao46 t456.length co46, .slice Ao47 t459.length co47] 25 (0, 0))) := ⟨by (with_reducible repeat (first | refine blk_drewN ?_ _ | refine blk_drew ?_ | refine blk_alloc ?_ _)); refine blk_far ?_ (by have h_ := Kd.R_ne HO_463001.out BK462.out (by decide); intro e_; exact h_ (by rw [e_]; rfl)) _; (with_reducible repeat (first | refine blk_drewN ?_ _ | refine blk_drew ?_ | refine blk_alloc ?_ _)); exact BK462.out⟩
              have n7_ : Aside0 (Below w.heap.size w (w71.setCell ⟨go52, (x46_2 : Int).toNat * 2 + 1, none⟩ (.int .i64 (wrap64 (((rd_T34 y465 x46_2).f1) + ((rd_T34 l1_1 x46_2).f1)))))) := ⟨by repeat (first | (with_reducible first | exact HB.out | apply below_alloc | apply pw_below_drewN | apply below_drew1 | refine below_set ?_ GB52.out | refine below_set ?_ GE445.out | refine below_set ?_ GE446.out | refine below_set ?_ GE447.out | refine below_set ?_ GE462.out) | exact HB.out)⟩
              (try clear HO_463001)
              (try clear HO_463002)
              (try clear HO_463003)
              (try clear BK445)
              (try clear BK446)
              (try clear BK447)
              (try clear BK462)
              (try clear HB)
              generalize (w71.setCell ⟨go52, (x46_2 : Int).toNat * 2 + 1, none⟩ (.int .i64 (wrap64 (((rd_T34 y465 x46_2).f1) + ((rd_T34 l1_1 x46_2).f1))))) = w73 at n0_ n1_ n2_ n3_ n4_ n5_ n6_ n7_ ⊢
              have HO_463001 := n0_
              have HO_463002 := n1_
              have HO_463003 := n2_
              have BK445 := n3_
              have BK446 := n4_
              have BK447 := n5_
              have BK462 := n6_
              have HB := n7_
              clear n0_ n1_ n2_ n3_ n4_ n5_ n6_ n7_
              have hnb74 := NB462_445.out
              have hnc74 := NB445_462.out
              have hnb75 := NB462_446.out
              have hnc75 := NB446_462.out
              have hnb76 := NB462_447.out
              have hnc76 := NB447_462.out
              obtain ⟨z0, z1, z2, z3, y0, y1, y2, y3⟩ := bc4 BK462
              have p54 : 0 ≤ (x46_2 : Int) := pos_
              have q54 : (x46_2 : Int) < ((x463001_2.length : Int) : Int) := pos_
              replace p54 := eq_true p54
              replace q54 := eq_true q54
              (try (obtain ⟨ad54, e54, hx54_0, hx54_1⟩ := at_T34 (Kd.R_reads' HO_463001.out).2.2 x46_2 (of_eq_true p54) (by first | exact of_eq_true q54 | (have h_ := of_eq_true q54; have e_ := (Kd.R_reads' HO_463001.out).1; omega) | (have h_ := of_eq_true q54; simpa only [Ny465.out, Ny468.out, List.length_set] using h_)); obtain rfl : (⟨go52, 0, none⟩ : Addr) = ad54 := (by injection e54); (first | simp only [add_plain] at hx54_0 | simp only [add_at] at hx54_0 | simp only [Addr.add, Nat.zero_add] at hx54_0 | skip); (first | simp only [add_plain] at hx54_1 | simp only [add_at] at hx54_1 | simp only [Addr.add, Nat.zero_add] at hx54_1 | skip)))
              (try (have hz_ : rd_T34 y468 x46_2 = _ := (congrArg (fun l_ => rd_T34 l_ x46_2) Ny468.out).trans (getD_set _ _ _ _ (by have p_ := of_eq_true p54; have h_ := of_eq_true q54; have e_ := (Kd.R_reads' HO_463001.out).1; first | omega | (simp only [Ny465.out, Ny468.out, List.length_set]; omega) | (simp only [Ny465.out, Ny468.out, List.length_set] at e_ ⊢; omega))); rw [hz_] at hx54_0 hx54_1; clear hz_; dsimp only at hx54_0 hx54_1))
              try go_wp2_with (first | ((with_reducible refine gate_callee (f := 24) rfl ?_); refine goesL_ (some 84) rfl rfl Try.func24 (by kernel_rfl) rfl #[.agg #[.int .i64 ((rd_T34 y465 x46_2).f0), .int .i64 (wrap64 (((rd_T34 y465 x46_2).f1) + ((rd_T34 l1_1 x46_2).f1)))]] rfl sma ?_; (with_reducible refine (quality_Check.calls ((rd_T34 y465 x46_2).f0) (wrap64 (((rd_T34 y465 x46_2).f1) + ((rd_T34 l1_1 x46_2).f1))) t470 _ A55.out).mono ?_); rintro e w78 ⟨rfl, hb⟩; refine ⟨_, rfl, ?_⟩; replace HO_463001 := rB HO_463001 hb; replace HO_463002 := rB HO_463002 hb; replace HO_463003 := rB HO_463003 hb; replace BK445 := bkB BK445 hb; replace BK446 := bkB BK446 hb; replace BK447 := bkB BK447 hb; replace BK462 := bkB BK462 hb; replace HB := hbS HB hb; (try clear hb); (try clear hb2); (try clear hk); (try clear hi); have hnb79 := NB447_445.out; have hnc79 := NB445_447.out; have hnb80 := NB447_446.out; have hnc80 := NB446_447.out; obtain ⟨z0, z1, z2, z3, y0, y1, y2, y3⟩ := bc4 BK447))
              refine bodyPost_ret (results_ct rfl _ _ gb447 25 #[.int .i64 0, .slice none 0 0, .slice none 0 0, .slice none 0 0] (0, 0) _ rfl (bkp BK447) Try.underlying25 rfl (by kernel_rfl)) rfl ?_
              exact ⟨_, _, _, rerr, rnil, rnil, rnil, hbx HB⟩
            ·rw [if_neg c51] at H
             exact absurd H (by simp)
           ·rw [if_neg c50] at H
            exact absurd H (by simp)
          ·rw [if_neg c49] at H
           exact absurd H (by simp)
         ·rw [if_neg c48] at H
          have c48b0 : decide (x46_2 < (t453.length : Int)) = false := decide_eq_false c48
          (try (have c48b0h := c48b0; simp only [hl463001_2] at c48b0h))
          clear c48
          simp only [Option.some.injEq, Prod.mk.injEq] at H
          obtain ⟨rfl, rfl, rfl, rfl, rfl⟩ := H
          have hnb82 := NB462_445.out
          have hnc82 := NB445_462.out
          have hnb83 := NB462_446.out
          have hnc83 := NB446_462.out
          have hnb84 := NB462_447.out
          have hnc84 := NB447_462.out
          obtain ⟨z0, z1, z2, z3, y0, y1, y2, y3⟩ := bc4 BK462
          have hnb86 := NB447_445.out
          have hnc86 := NB445_447.out
          have hnb87 := NB447_446.out
          have hnc87 := NB446_447.out
          obtain ⟨z0, z1, z2, z3, y0, y1, y2, y3⟩ := bc4 BK447
          go_wp2
          refine bodyPost_ret (results_ct rfl _ _ gb447 25 #[.int .i64 t452, .slice Ao45 x463001_2.length co45, .slice Ao46 t456.length co46, .slice Ao47 t459.length co47] (0, 0) _ rfl (bkp BK447) Try.underlying25 rfl (by kernel_rfl)) rfl ?_
          exact ⟨_, _, _, rerr, Kd.R_mono (rty (rfo HO_463001) BK447) (fun _ hk => trivial), rfo HO_463002, rfo HO_463003, hbx HB⟩
      ·replace c29 := Bool.eq_false_iff.mpr c29
       subst c29
       rw [if_neg (show ¬ (false = true) by decide)] at H
       simp only [Option.some.injEq, Prod.mk.injEq] at H
       obtain ⟨rfl, rfl, rfl, rfl, rfl⟩ := H
       have hnb89 := NB445_446.out
       have hnc89 := NB446_445.out
       have hnb90 := NB445_447.out
       have hnc90 := NB447_445.out
       obtain ⟨z0, z1, z2, z3, y0, y1, y2, y3⟩ := bc4 BK445
       have hnb92 := NB446_447.out
       have hnc92 := NB447_446.out
       obtain ⟨z0, z1, z2, z3, y0, y1, y2, y3⟩ := bc4 BK446
       go_wp2_with (first | (go_at_call 17; (with_reducible refine (slices_Equal_int_int.calls kj2 _ _ l0_2 _ _ l1_2 true _ (cb HR0_2 HB) HC0_2.out (cb HR1_2 HB) HC1_2.out A26.out).mono ?_); rintro e w' ⟨rfl, ⟨nd, rfl⟩⟩; (try (rw [drewN_self wc]; generalize hq_ : World.drewN wc _ = wc; replace BK445 := bkq BK445 hq_; replace BK446 := bkq BK446 hq_; replace BK447 := bkq BK447 hq_; replace HB := hbq HB hq_; clear hq_)); obtain ⟨z0, z1, z2, z3, y0, y1, y2, y3⟩ := bc4 BK445; obtain ⟨z0, z1, z2, z3, y0, y1, y2, y3⟩ := bc4 BK446) | (go_at_call 17; (with_reducible refine (slices_Equal_int_int.calls kj2 _ _ l0_3 _ _ l1_3 false _ (cb HR0_3 HB) HC0_3.out (cb HR1_3 HB) HC1_3.out A28.out).mono ?_); rintro e w' ⟨rfl, ⟨nd, rfl⟩⟩; (try (rw [drewN_self wc]; generalize hq_ : World.drewN wc _ = wc; replace BK445 := bkq BK445 hq_; replace BK446 := bkq BK446 hq_; replace BK447 := bkq BK447 hq_; replace HB := hbq HB hq_; clear hq_)); obtain ⟨z0, z1, z2, z3, y0, y1, y2, y3⟩ := bc4 BK447))
       refine bodyPost_ret (results_ct rfl _ _ gb447 25 #[.int .i64 0, .slice none 0 0, .slice none 0 0, .slice none 0 0] (0, 0) _ rfl (bkp BK447) Try.underlying25 rfl (by kernel_rfl)) rfl ?_
       exact ⟨_, _, _, rerr, rnil, rnil, rnil, hbx HB⟩
     ·replace c27 := Bool.eq_false_iff.mpr c27
      subst c27
      rw [if_neg (show ¬ (false = true) by decide)] at H
      simp only [Option.some.injEq, Prod.mk.injEq] at H
      obtain ⟨rfl, rfl, rfl, rfl, rfl⟩ := H
      have hnb97 := NB445_446.out
      have hnc97 := NB446_445.out
      have hnb98 := NB445_447.out
      have hnc98 := NB447_445.out
      obtain ⟨z0, z1, z2, z3, y0, y1, y2, y3⟩ := bc4 BK445
      have hnb100 := NB446_447.out
      have hnc100 := NB447_446.out
      obtain ⟨z0, z1, z2, z3, y0, y1, y2, y3⟩ := bc4 BK446
      go_wp2_with (first | (go_at_call 17; (with_reducible refine (slices_Equal_int_int.calls kj2 _ _ l0_2 _ _ l1_2 false _ (cb HR0_2 HB) HC0_2.out (cb HR1_2 HB) HC1_2.out A26.out).mono ?_); rintro e w' ⟨rfl, ⟨nd, rfl⟩⟩; (try (rw [drewN_self wc]; generalize hq_ : World.drewN wc _ = wc; replace BK445 := bkq BK445 hq_; replace BK446 := bkq BK446 hq_; replace BK447 := bkq BK447 hq_; replace HB := hbq HB hq_; clear hq_)); obtain ⟨z0, z1, z2, z3, y0, y1, y2, y3⟩ := bc4 BK447))
      refine bodyPost_ret (results_ct rfl _ _ gb447 25 #[.int .i64 0, .slice none 0 0, .slice none 0 0, .slice none 0 0] (0, 0) _ rfl (bkp BK447) Try.underlying25 rfl (by kernel_rfl)) rfl ?_
      exact ⟨_, _, _, rerr, rnil, rnil, rnil, hbx HB⟩
    ·rw [if_neg c25] at H
     have c25b0 : (a0_0 == a1_0) = false := beq_eq_false_iff_ne.mpr c25
     have c25b1 : (a0_0 != a1_0) = true := bne_iff_ne.mpr c25
     simp only [Option.some.injEq, Prod.mk.injEq] at H
     obtain ⟨rfl, rfl, rfl, rfl, rfl⟩ := H
     have hnb103 := NB445_446.out
     have hnc103 := NB446_445.out
     have hnb104 := NB445_447.out
     have hnc104 := NB447_445.out
     obtain ⟨z0, z1, z2, z3, y0, y1, y2, y3⟩ := bc4 BK445
     have hnb106 := NB446_447.out
     have hnc106 := NB447_446.out
     obtain ⟨z0, z1, z2, z3, y0, y1, y2, y3⟩ := bc4 BK446
     obtain ⟨z0, z1, z2, z3, y0, y1, y2, y3⟩ := bc4 BK447
     go_wp2
     refine bodyPost_ret (results_ct rfl _ _ gb447 25 #[.int .i64 0, .slice none 0 0, .slice none 0 0, .slice none 0 0] (0, 0) _ rfl (bkp BK447) Try.underlying25 rfl (by kernel_rfl)) rfl ?_
     exact ⟨_, _, _, rerr, rnil, rnil, rnil, hbx HB⟩
end Go.Proofs.Ytnipgplobipeeaa.PQ
