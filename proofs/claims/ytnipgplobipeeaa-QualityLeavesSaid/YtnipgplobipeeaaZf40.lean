-- Printed by fprint.py and zip.py, programs of this session's, over the kit's print; Lean checks it.
import Derived.Test.YtnipgplobipeeaaZ0
import Derived.Test.YtnipgplobipeeaaZf12
import Derived.Test.YtnipgplobipeeaaZf47
import Derived.Test.YtnipgplobipeeaaZf52
import Derived.Test.YtnipgplobipeeaaZf53
namespace Go.Proofs.Ytnipgplobipeeaa.PQ
open Go.RowKit Go.Proofs.YtnipgplobipeeaaW.PrintWords Go.Proofs.YtnipgplobipeeaaW.PrintLast Go.Proofs.YtnipgplobipeeaaW.PrintMore
attribute [local go_sem] max2_int min2_int max_two min_two max_three min_three max_four min_four   -- for this text's walks alone
set_option linter.unusedVariables false
set_option linter.unusedSimpArgs false
mutual
def quality_Close.l0 : Nat → Int → Int → List Int → Int → Int → Int → List (S34) → List Int → List Int → Int → Int → Int → Int → Int → List (S34) → List Int → List Int → Option (Int × (List (S34)) × List Int × List Int × Int)
 | 0, _, _, _, _, _, _, _, _, _, _, _, _, _, _, _, _, _ => none
 | k + 1, x4, x14, x48, x49, x50, x174000, x174001, x174002, x174003, x176000, x176001, x176002, x176003, x189000, x189001, x189002, x189003 => if x50 < x49 then (if 0 ≤ x50 then (if x50 < (x48.length : Int) then (if (rd x48 x50) = 0 then (quality_Close.l0 k x4 (wrap64 (x14 + 1)) x48 x49 (wrap64 (x50 + 1)) x174000 x174001 x174002 x174003 x176000 x176001 x176002 x176003 x189000 x189001 x189002 x189003) else (quality_Close.l0 k x4 x14 x48 x49 (wrap64 (x50 + 1)) x174000 x174001 x174002 x174003 x176000 x176001 x176002 x176003 x189000 x189001 x189002 x189003)) else (none)) else (none)) else ((quality_rules_judge.f k x176000 x176001 x176002 x176003 x174000 x174001 x174002 x174003).bind fun bt190 => (if 0 ≤ (mx 0 (mn (bt190.1.length : Int) (wrap64 (x14 - x4)))) then (if (mx 0 (mn (bt190.1.length : Int) (wrap64 (x14 - x4)))) ≤ (bt190.1.length : Int) then ((some (bt190.1.take ((mx 0 (mn (bt190.1.length : Int) (wrap64 (x14 - x4)))) : Int).toNat : List Int)).bind fun y196 => (quality_Close.l1 k bt190.2 y196 (y196.length : Int) 0 x189000 x189001 x189002 x189003)) else (none)) else (none)))
def quality_Close.l1 : Nat → List Int → List Int → Int → Int → Int → List (S34) → List Int → List Int → Option (Int × (List (S34)) × List Int × List Int × Int)
 | 0, _, _, _, _, _, _, _, _ => none
 | k + 1, x18, x73, x74, x75, x189000, x189001, x189002, x189003 => if x75 < x74 then (if 0 ≤ x75 then (if x75 < (x73.length : Int) then (if 0 ≤ (rd x73 x75) then (if (rd x73 x75) < (x189003.length : Int) then ((some (x189003.set ((rd x73 x75) : Int).toNat (mn (mx (wrap64 (2 * (rd x189003 (rd x73 x75)))) 1) 64) : List Int)).bind fun y201 => (if (rd x73 x75) < (x189002.length : Int) then (quality_Close.l1 k x18 x73 x74 (wrap64 (x75 + 1)) x189000 x189001 (x189002.set ((rd x73 x75) : Int).toNat (wrap64 ((wrap64 (x189000 + 1)) + (rd y201 (rd x73 x75))))) y201) else (none))) else (none)) else (none)) else (none)) else (none)) else (quality_Close.l2 k x18 (x18.length : Int) 0 x189000 x189001 x189002 x189003)
def quality_Close.l2 : Nat → List Int → Int → Int → Int → List (S34) → List Int → List Int → Option (Int × (List (S34)) × List Int × List Int × Int)
 | 0, _, _, _, _, _, _, _ => none
 | k + 1, x105, x106, x107, x189000, x189001, x189002, x189003 => if x107 < x106 then (if 0 ≤ x107 then (if x107 < (x105.length : Int) then (if 0 ≤ (rd x105 x107) then (if (rd x105 x107) < (x189003.length : Int) then (quality_Close.l2 k x105 x106 (wrap64 (x107 + 1)) x189000 x189001 x189002 (x189003.set ((rd x105 x107) : Int).toNat 0)) else (none)) else (none)) else (none)) else (none)) else (quality_Close.l3 k (x189002.length : Int) 0 (wrap64 (x189000 + 1)) x189001 x189002 x189003)
def quality_Close.l3 : Nat → Int → Int → Int → List (S34) → List Int → List Int → Option (Int × (List (S34)) × List Int × List Int × Int)
 | 0, _, _, _, _, _, _ => none
 | k + 1, x122, x123, x189000, x189001, x189002, x189003 => if x123 < x122 then (if 0 ≤ x123 then (if x123 < (x189002.length : Int) then (if (rd x189002 x123) ≤ x189000 then (if x123 < (x189001.length : Int) then (quality_Close.l3 k x122 (wrap64 (x123 + 1)) x189000 (x189001.set (x123 : Int).toNat (⟨0, 0⟩ : S34)) (x189002.set (x123 : Int).toNat 0) x189003) else (none)) else (if x123 < (x189001.length : Int) then (quality_Close.l3 k x122 (wrap64 (x123 + 1)) x189000 (x189001.set (x123 : Int).toNat (⟨0, 0⟩ : S34)) x189002 x189003) else (none))) else (none)) else (none)) else (some (x189000, x189001, x189002, x189003, 0))
end
def quality_Close.f (k : Nat) (a0_0 : Int) (l0_1 : List (S34)) (l0_2 : List Int) (l0_3 : List Int) (a1 : Int) (a2 : Int) (a3 : Int) (a4 : Int) : Option (Int × (List (S34)) × List Int × List Int × Int) := (quality_Valid.f k a0_0 l0_1 l0_2 l0_3).bind fun t176 => (if t176 = 0 then ((quality_rules_right.f a1 a2 a3 a4).bind fun t177 => (if t177 = true then (if a0_0 = 1073741824 then (some (0, ([] : List (S34)), ([] : List Int), ([] : List Int), 13)) else ((quality_clone.f a0_0 l0_1 l0_2 l0_3).bind fun bt178 => (quality_Close.l0 k a4 0 l0_2 (l0_2.length : Int) 0 a0_0 l0_1 l0_2 l0_3 a1 a2 a3 a4 bt178.1 bt178.2.1 bt178.2.2.1 bt178.2.2.2))) else (some (0, ([] : List (S34)), ([] : List Int), ([] : List Int), 2)))) else (some (0, ([] : List (S34)), ([] : List Int), ([] : List Int), 1)))
theorem quality_Close.mono_l : ∀ k, (∀ y0 y1 y2 y3 y4 y5 y6 y7 y8 y9 y10 y11 y12 y13 y14 y15 y16, LeO (quality_Close.l0 k y0 y1 y2 y3 y4 y5 y6 y7 y8 y9 y10 y11 y12 y13 y14 y15 y16) (quality_Close.l0 (k + 1) y0 y1 y2 y3 y4 y5 y6 y7 y8 y9 y10 y11 y12 y13 y14 y15 y16)) ∧ (∀ y0 y1 y2 y3 y4 y5 y6 y7, LeO (quality_Close.l1 k y0 y1 y2 y3 y4 y5 y6 y7) (quality_Close.l1 (k + 1) y0 y1 y2 y3 y4 y5 y6 y7)) ∧ (∀ y0 y1 y2 y3 y4 y5 y6, LeO (quality_Close.l2 k y0 y1 y2 y3 y4 y5 y6) (quality_Close.l2 (k + 1) y0 y1 y2 y3 y4 y5 y6)) ∧ (∀ y0 y1 y2 y3 y4 y5, LeO (quality_Close.l3 k y0 y1 y2 y3 y4 y5) (quality_Close.l3 (k + 1) y0 y1 y2 y3 y4 y5))
 | 0 => ⟨fun _ _ _ _ _ _ _ _ _ _ _ _ _ _ _ _ _ r h => by simp [quality_Close.l0] at h, fun _ _ _ _ _ _ _ _ r h => by simp [quality_Close.l1] at h, fun _ _ _ _ _ _ _ r h => by simp [quality_Close.l2] at h, fun _ _ _ _ _ _ r h => by simp [quality_Close.l3] at h⟩
 | k + 1 => by
  obtain ⟨ih0, ih1, ih2, ih3⟩ := quality_Close.mono_l k
  refine ⟨?_, ?_, ?_, ?_⟩
  ·intro y0 y1 y2 y3 y4 y5 y6 y7 y8 y9 y10 y11 y12 y13 y14 y15 y16
   unfold quality_Close.l0
   repeat' first
   | (with_reducible exact ih0 _ _ _ _ _ _ _ _ _ _ _ _ _ _ _ _ _)
   | (with_reducible exact ih1 _ _ _ _ _ _ _ _)
   | (with_reducible exact ih2 _ _ _ _ _ _ _)
   | (with_reducible exact ih3 _ _ _ _ _ _)
   | (with_reducible exact quality_Valid.mono _ _ _ _ _)
   | (with_reducible exact quality_rules_judge.mono _ _ _ _ _ _ _ _ _)
   | (with_reducible exact LeO.refl _)
   | (with_reducible exact LeO.none _)
   | (with_reducible refine LeO.ite ?_ ?_)
   | (with_reducible refine LeO.bind ?_ (fun _ => ?_))
   | exact ih0 _ _ _ _ _ _ _ _ _ _ _ _ _ _ _ _ _
   | exact ih1 _ _ _ _ _ _ _ _
   | exact ih2 _ _ _ _ _ _ _
   | exact ih3 _ _ _ _ _ _
   | exact quality_Valid.mono _ _ _ _ _
   | exact quality_rules_judge.mono _ _ _ _ _ _ _ _ _
   | exact LeO.none _
   | refine LeO.ite ?_ ?_
   | refine LeO.bind ?_ (fun _ => ?_)
  ·intro y0 y1 y2 y3 y4 y5 y6 y7
   unfold quality_Close.l1
   repeat' first
   | (with_reducible exact ih0 _ _ _ _ _ _ _ _ _ _ _ _ _ _ _ _ _)
   | (with_reducible exact ih1 _ _ _ _ _ _ _ _)
   | (with_reducible exact ih2 _ _ _ _ _ _ _)
   | (with_reducible exact ih3 _ _ _ _ _ _)
   | (with_reducible exact quality_Valid.mono _ _ _ _ _)
   | (with_reducible exact quality_rules_judge.mono _ _ _ _ _ _ _ _ _)
   | (with_reducible exact LeO.refl _)
   | (with_reducible exact LeO.none _)
   | (with_reducible refine LeO.ite ?_ ?_)
   | (with_reducible refine LeO.bind ?_ (fun _ => ?_))
   | exact ih0 _ _ _ _ _ _ _ _ _ _ _ _ _ _ _ _ _
   | exact ih1 _ _ _ _ _ _ _ _
   | exact ih2 _ _ _ _ _ _ _
   | exact ih3 _ _ _ _ _ _
   | exact quality_Valid.mono _ _ _ _ _
   | exact quality_rules_judge.mono _ _ _ _ _ _ _ _ _
   | exact LeO.none _
   | refine LeO.ite ?_ ?_
   | refine LeO.bind ?_ (fun _ => ?_)
  ·intro y0 y1 y2 y3 y4 y5 y6
   unfold quality_Close.l2
   repeat' first
   | (with_reducible exact ih0 _ _ _ _ _ _ _ _ _ _ _ _ _ _ _ _ _)
   | (with_reducible exact ih1 _ _ _ _ _ _ _ _)
   | (with_reducible exact ih2 _ _ _ _ _ _ _)
   | (with_reducible exact ih3 _ _ _ _ _ _)
   | (with_reducible exact quality_Valid.mono _ _ _ _ _)
   | (with_reducible exact quality_rules_judge.mono _ _ _ _ _ _ _ _ _)
   | (with_reducible exact LeO.refl _)
   | (with_reducible exact LeO.none _)
   | (with_reducible refine LeO.ite ?_ ?_)
   | (with_reducible refine LeO.bind ?_ (fun _ => ?_))
   | exact ih0 _ _ _ _ _ _ _ _ _ _ _ _ _ _ _ _ _
   | exact ih1 _ _ _ _ _ _ _ _
   | exact ih2 _ _ _ _ _ _ _
   | exact ih3 _ _ _ _ _ _
   | exact quality_Valid.mono _ _ _ _ _
   | exact quality_rules_judge.mono _ _ _ _ _ _ _ _ _
   | exact LeO.none _
   | refine LeO.ite ?_ ?_
   | refine LeO.bind ?_ (fun _ => ?_)
  ·intro y0 y1 y2 y3 y4 y5
   unfold quality_Close.l3
   repeat' first
   | (with_reducible exact ih0 _ _ _ _ _ _ _ _ _ _ _ _ _ _ _ _ _)
   | (with_reducible exact ih1 _ _ _ _ _ _ _ _)
   | (with_reducible exact ih2 _ _ _ _ _ _ _)
   | (with_reducible exact ih3 _ _ _ _ _ _)
   | (with_reducible exact quality_Valid.mono _ _ _ _ _)
   | (with_reducible exact quality_rules_judge.mono _ _ _ _ _ _ _ _ _)
   | (with_reducible exact LeO.refl _)
   | (with_reducible exact LeO.none _)
   | (with_reducible refine LeO.ite ?_ ?_)
   | (with_reducible refine LeO.bind ?_ (fun _ => ?_))
   | exact ih0 _ _ _ _ _ _ _ _ _ _ _ _ _ _ _ _ _
   | exact ih1 _ _ _ _ _ _ _ _
   | exact ih2 _ _ _ _ _ _ _
   | exact ih3 _ _ _ _ _ _
   | exact quality_Valid.mono _ _ _ _ _
   | exact quality_rules_judge.mono _ _ _ _ _ _ _ _ _
   | exact LeO.none _
   | refine LeO.ite ?_ ?_
   | refine LeO.bind ?_ (fun _ => ?_)
theorem quality_Close.mono : ∀ a0 a1 a2 a3 a4 a5 a6 a7 k, LeO (quality_Close.f k a0 a1 a2 a3 a4 a5 a6 a7) (quality_Close.f (k + 1) a0 a1 a2 a3 a4 a5 a6 a7) := by
 intro a0 a1 a2 a3 a4 a5 a6 a7 k
 obtain ⟨ih0, ih1, ih2, ih3⟩ := quality_Close.mono_l k
 unfold quality_Close.f
 repeat' first
  | (with_reducible exact ih0 _ _ _ _ _ _ _ _ _ _ _ _ _ _ _ _ _)
  | (with_reducible exact ih1 _ _ _ _ _ _ _ _)
  | (with_reducible exact ih2 _ _ _ _ _ _ _)
  | (with_reducible exact ih3 _ _ _ _ _ _)
  | (with_reducible exact quality_Valid.mono _ _ _ _ _)
  | (with_reducible exact quality_rules_judge.mono _ _ _ _ _ _ _ _ _)
  | (with_reducible exact LeO.refl _)
  | (with_reducible exact LeO.none _)
  | (with_reducible refine LeO.ite ?_ ?_)
  | (with_reducible refine LeO.bind ?_ (fun _ => ?_))
  | exact ih0 _ _ _ _ _ _ _ _ _ _ _ _ _ _ _ _ _
  | exact ih1 _ _ _ _ _ _ _ _
  | exact ih2 _ _ _ _ _ _ _
  | exact ih3 _ _ _ _ _ _
  | exact quality_Valid.mono _ _ _ _ _
  | exact quality_rules_judge.mono _ _ _ _ _ _ _ _ _
  | exact LeO.none _
  | refine LeO.ite ?_ ?_
  | refine LeO.bind ?_ (fun _ => ?_)
def quality_Close.T20 : Bool × List (List Nat × List Nat) := (true, [([], []), ([0], [0]), ([], []), ([], []), ([3], [3]), ([], []), ([4, 5], [4, 5]), ([6], [6]), ([7], [7]), ([8], [8]), ([9], [9]), ([1, 2, 0, 1, 2, 3, 4, 5, 6, 7, 8, 9, 10], [1, 2]), ([11, 10, 0, 1, 2, 3, 4, 5, 6, 7, 8, 9, 10], [10, 11])])
def quality_Close.B20 : List Nat := [0, 1, 0, 0, 8, 0, 56, 120, 248, 504, 1016, 2047, 4095]
theorem quality_Close.tab20 : rtab .any (opsOf Try.f40 20) = quality_Close.T20 := by kernel_rfl
theorem quality_Close.bits20 : waitsOk quality_Close.T20.2 quality_Close.B20 = true := by kernel_rfl
def quality_Close.T21 : Bool × List (List Nat × List Nat) := (true, [([], []), ([0], [0]), ([], []), ([], []), ([3], [3]), ([4], [4]), ([], []), ([6], [6]), ([], []), ([7, 8], [7, 8]), ([9], [9]), ([5, 10], [5, 10]), ([1, 2, 0, 1, 2, 3, 4, 5, 6, 7, 8, 9, 10, 11], [1, 2]), ([12, 11, 0, 1, 2, 3, 4, 5, 6, 7, 8, 9, 10, 11], [11, 12])])
def quality_Close.B21 : List Nat := [0, 1, 0, 0, 8, 24, 0, 64, 0, 448, 960, 2040, 4095, 8191]
theorem quality_Close.tab21 : rtab .any (opsOf Try.f40 21) = quality_Close.T21 := by kernel_rfl
theorem quality_Close.bits21 : waitsOk quality_Close.T21.2 quality_Close.B21 = true := by kernel_rfl
set_option maxHeartbeats 8000000 in
set_option maxRecDepth 100000 in
theorem quality_Close.calls (k : Nat) (a0_0 : Int) (A0_1 : Option Addr) (c0_1 : Nat) (l0_1 : List (S34)) (A0_2 : Option Addr) (c0_2 : Nat) (l0_2 : List Int) (A0_3 : Option Addr) (c0_3 : Nat) (l0_3 : List Int) (a1 : Int) (a2 : Int) (a3 : Int) (a4 : Int) (r1 : Int) (r2 : List (S34)) (r3 : List Int) (r4 : List Int) (r5 : Int) (w : World) (hr0_1 : Kd.C k34 w A0_1 l0_1.length l0_1) (hc0_1 : l0_1.length ≤ c0_1) (hr0_2 : Kd.C (Kd.int .i64) w A0_2 l0_2.length l0_2) (hc0_2 : l0_2.length ≤ c0_2) (hr0_3 : Kd.C (Kd.int .i64) w A0_3 l0_3.length l0_3) (hc0_3 : l0_3.length ≤ c0_3) (h : quality_Close.f k a0_0 l0_1 l0_2 l0_3 a1 a2 a3 a4 = some (r1, r2, r3, r4, r5)) :
 Calls Try.prog 40 #[.agg #[.int .i64 a0_0, .slice A0_1 l0_1.length c0_1, .slice A0_2 l0_2.length c0_2, .slice A0_3 l0_3.length c0_3], .int .i64 a1, .int .i64 a2, .int .i64 a3, .int .i64 a4] w fun e w' => ∃ v1_ v2_ v3_ : Value, e = .returned (.tuple #[.agg #[.int .i64 r1, v1_, v2_, v3_], .int .i64 r5]) ∧ Kd.R k34 34 w' w.heap.size (fun _ => True) v1_ r2 ∧ Kd.R (Kd.int .i64) 3 w' w.heap.size (fun k_ => some k_ ≠ (v3_ : Value).ownBlock) v2_ r3 ∧ Kd.R (Kd.int .i64) 3 w' w.heap.size (fun k_ => some k_ ≠ (v2_ : Value).ownBlock) v3_ r4 ∧ Below w.heap.size w w' := by
 have hu25 := Try.underlying25
 have hu69 := Try.underlying69
 have hu34 := Try.underlying34
 have HR0_1 := Aside0.mk hr0_1
 have HC0_1 := Aside0.mk hc0_1
 clear hr0_1 hc0_1
 have HR0_2 := Aside0.mk hr0_2
 have HC0_2 := Aside0.mk hc0_2
 clear hr0_2 hc0_2
 have HR0_3 := Aside0.mk hr0_3
 have HC0_3 := Aside0.mk hc0_3
 clear hr0_3 hc0_3
 have HB := Aside0.mk (Below.refl w.heap.size w)
 have H : ((quality_Valid.f k a0_0 l0_1 l0_2 l0_3).bind fun t176 => (if t176 = 0 then ((quality_rules_right.f a1 a2 a3 a4).bind fun t177 => (if t177 = true then (if a0_0 = 1073741824 then (some (0, ([] : List (S34)), ([] : List Int), ([] : List Int), 13)) else ((quality_clone.f a0_0 l0_1 l0_2 l0_3).bind fun bt178 => (quality_Close.l0 k a4 0 l0_2 (l0_2.length : Int) 0 a0_0 l0_1 l0_2 l0_3 a1 a2 a3 a4 bt178.1 bt178.2.1 bt178.2.2.1 bt178.2.2.2))) else (some (0, ([] : List (S34)), ([] : List Int), ([] : List Int), 2)))) else (some (0, ([] : List (S34)), ([] : List Int), ([] : List Int), 1)))) = some (r1, r2, r3, r4, r5) := h
 clear h
 replace H := Option.bind_eq_some_iff.mp H
 obtain ⟨t176, A60, H⟩ := H
 (try dsimp only at H)
 have A6 := Aside0.mk A60
 clear A60
 by_cases c7 : t176 = 0
 ·rw [if_pos c7] at H
  have c7b0 : (t176 == 0) = true := beq_iff_eq.mpr c7
  have c7b1 : (t176 != 0) = false := bne_eq_false_iff_eq.mpr c7
  clear c7
  replace H := Option.bind_eq_some_iff.mp H
  obtain ⟨t177, A80, H⟩ := H
  (try dsimp only at H)
  have A8 := Aside0.mk A80
  clear A80
  by_cases c9 : t177 = true
  ·subst c9
   rw [if_pos rfl] at H
   by_cases c10 : a0_0 = 1073741824
   ·rw [if_pos c10] at H
    have c10b0 : (a0_0 == 1073741824) = true := beq_iff_eq.mpr c10
    have c10b1 : (a0_0 != 1073741824) = false := bne_eq_false_iff_eq.mpr c10
    clear c10
    simp only [Option.some.injEq, Prod.mk.injEq] at H
    obtain ⟨rfl, rfl, rfl, rfl, rfl⟩ := H
    go_enter Try.func40, Try.ntmps40
    go_wp2_with (first | ((with_reducible refine gate_dst (N := 5) rfl ?_); refine boxE 5 #[.int .i64 a0_0, .slice A0_1 l0_1.length c0_1, .slice A0_2 l0_2.length c0_2, .slice A0_3 l0_3.length c0_3] 25 ?_; intro gb173 hg w11 hbox hb; have BK173 := Aside0.mk (hbox); have GW173 := gw hg HB; have GE173 := gw hg HB; replace HB := hbS HB hb; clear hb hbox hg) | ((with_reducible refine gate_dst (N := 10) rfl ?_); refine boxE 10 #[.int .i64 0, .slice none 0 0, .slice none 0 0, .slice none 0 0] 25 ?_; intro gb174 hg w12 hbox hb; have BK174 := Aside0.mk (hbox); have GW174 := gw hg HB; have GE174 := gw hg HB; replace HB := hbS HB hb; have NB173_174 := nbl hg BK173; have NB174_173 := nbg hg BK173; replace BK173 := bkB BK173 hb; clear hb hbox hg) | ((with_reducible refine gate_dst (N := 12) rfl ?_); refine boxE 12 #[.int .i64 0, .int .i64 0, .int .i64 0, .int .i64 0] 69 ?_; intro gb175 hg w13 hbox hb; have BK175 := Aside0.mk (hbox); have GW175 := gw hg HB; have GE175 := gw hg HB; replace HB := hbS HB hb; have NB173_175 := nbl hg BK173; have NB175_173 := nbg hg BK173; replace BK173 := bkB BK173 hb; have NB174_175 := nbl hg BK174; have NB175_174 := nbg hg BK174; replace BK174 := bkB BK174 hb; clear hb hbox hg; have hnb14 := NB175_173.out; have hnc14 := NB173_175.out; have hnb15 := NB175_174.out; have hnc15 := NB174_175.out; obtain ⟨z0, z1, z2, z3, y0, y1, y2, y3⟩ := bc4 BK175; have hnb17 := NB173_174.out; have hnc17 := NB174_173.out; obtain ⟨z0, z1, z2, z3, y0, y1, y2, y3⟩ := bc4 BK173) | ((with_reducible refine gate_callee (f := 12) rfl ?_); refine goesL_ (some 32) rfl rfl Try.func12 (by kernel_rfl) rfl #[.agg #[.int .i64 a0_0, .slice A0_1 l0_1.length c0_1, .slice A0_2 l0_2.length c0_2, .slice A0_3 l0_3.length c0_3]] rfl sma ?_; (with_reducible refine (quality_Valid.calls k a0_0 _ _ l0_1 _ _ l0_2 _ _ l0_3 t176 _ ?side1 HC0_1.out ?side3 HC0_2.out ?side5 HC0_3.out A6.out).mono ?_); (case side1 => exact Kd.C_below HR0_1.out (hbx HB)); (case side3 => exact Kd.C_below HR0_2.out (hbx HB)); (case side5 => exact Kd.C_below HR0_3.out (hbx HB)); rintro e w19 ⟨rfl, hb⟩; refine ⟨_, rfl, ?_⟩; replace BK173 := bkfB BK173 hb; replace BK174 := bkfB BK174 hb; replace BK175 := Aside0.mk (blk_below (o := .cells #[.int .i64 a1, .int .i64 a2, .int .i64 a3, .int .i64 a4] 69 (0, 0)) (bkp BK175) hb); replace HB := hbS HB hb; (try clear hb); (try clear hb2); (try clear hk); (try clear hi); obtain ⟨z0, z1, z2, z3, y0, y1, y2, y3⟩ := bc4 BK175) | ((with_reducible refine gate_callee (f := 52) rfl ?_); refine goesL_ (some 37) rfl rfl Try.func52 (by kernel_rfl) rfl #[.agg #[.int .i64 a1, .int .i64 a2, .int .i64 a3, .int .i64 a4]] rfl sma ?_; (with_reducible refine (quality_rules_right.calls a1 a2 a3 a4 true _ A8.out).mono ?_); rintro e w21 ⟨rfl, hb⟩; refine ⟨_, rfl, ?_⟩; replace BK173 := bkB BK173 hb; replace BK174 := bkB BK174 hb; replace BK175 := bkB BK175 hb; replace HB := hbS HB hb; (try clear hb); (try clear hb2); (try clear hk); (try clear hi); obtain ⟨z0, z1, z2, z3, y0, y1, y2, y3⟩ := bc4 BK173; obtain ⟨z0, z1, z2, z3, y0, y1, y2, y3⟩ := bc4 BK174))
    refine bodyPost_ret (results_ct rfl _ _ gb174 25 #[.int .i64 0, .slice none 0 0, .slice none 0 0, .slice none 0 0] (0, 0) _ rfl (bkp BK174) Try.underlying25 rfl (by kernel_rfl)) rfl ?_
    exact ⟨_, _, _, rerr, rnil, rnil, rnil, hbx HB⟩
   ·rw [if_neg c10] at H
    have c10b0 : (a0_0 == 1073741824) = false := beq_eq_false_iff_ne.mpr c10
    have c10b1 : (a0_0 != 1073741824) = true := bne_iff_ne.mpr c10
    replace H := Option.bind_eq_some_iff.mp H
    obtain ⟨⟨t178, t179, t182, t185⟩, A240, H⟩ := H
    (try dsimp only at H)
    have A24 := Aside0.mk A240
    clear A240
    have H' := Aside0.mk H
    clear H
    go_enter Try.func40, Try.ntmps40
    go_wp2_with (first | ((with_reducible refine gate_dst (N := 5) rfl ?_); refine boxE 5 #[.int .i64 a0_0, .slice A0_1 l0_1.length c0_1, .slice A0_2 l0_2.length c0_2, .slice A0_3 l0_3.length c0_3] 25 ?_; intro gb173 hg w25 hbox hb; have BK173 := Aside0.mk (hbox); have GW173 := gw hg HB; have GE173 := gw hg HB; replace HB := hbS HB hb; clear hb hbox hg) | ((with_reducible refine gate_dst (N := 10) rfl ?_); refine boxE 10 #[.int .i64 0, .slice none 0 0, .slice none 0 0, .slice none 0 0] 25 ?_; intro gb174 hg w26 hbox hb; have BK174 := Aside0.mk (hbox); have GW174 := gw hg HB; have GE174 := gw hg HB; replace HB := hbS HB hb; have NB173_174 := nbl hg BK173; have NB174_173 := nbg hg BK173; replace BK173 := bkB BK173 hb; clear hb hbox hg) | ((with_reducible refine gate_dst (N := 12) rfl ?_); refine boxE 12 #[.int .i64 0, .int .i64 0, .int .i64 0, .int .i64 0] 69 ?_; intro gb175 hg w27 hbox hb; have BK175 := Aside0.mk (hbox); have GW175 := gw hg HB; have GE175 := gw hg HB; replace HB := hbS HB hb; have NB173_175 := nbl hg BK173; have NB175_173 := nbg hg BK173; replace BK173 := bkB BK173 hb; have NB174_175 := nbl hg BK174; have NB175_174 := nbg hg BK174; replace BK174 := bkB BK174 hb; clear hb hbox hg; have hnb28 := NB175_173.out; have hnc28 := NB173_175.out; have hnb29 := NB175_174.out; have hnc29 := NB174_175.out; obtain ⟨z0, z1, z2, z3, y0, y1, y2, y3⟩ := bc4 BK175; have hnb31 := NB173_174.out; have hnc31 := NB174_173.out; obtain ⟨z0, z1, z2, z3, y0, y1, y2, y3⟩ := bc4 BK173) | ((with_reducible refine gate_callee (f := 12) rfl ?_); refine goesL_ (some 32) rfl rfl Try.func12 (by kernel_rfl) rfl #[.agg #[.int .i64 a0_0, .slice A0_1 l0_1.length c0_1, .slice A0_2 l0_2.length c0_2, .slice A0_3 l0_3.length c0_3]] rfl sma ?_; (with_reducible refine (quality_Valid.calls k a0_0 _ _ l0_1 _ _ l0_2 _ _ l0_3 t176 _ ?side1 HC0_1.out ?side3 HC0_2.out ?side5 HC0_3.out A6.out).mono ?_); (case side1 => exact Kd.C_below HR0_1.out (hbx HB)); (case side3 => exact Kd.C_below HR0_2.out (hbx HB)); (case side5 => exact Kd.C_below HR0_3.out (hbx HB)); rintro e w33 ⟨rfl, hb⟩; refine ⟨_, rfl, ?_⟩; replace BK173 := bkfB BK173 hb; replace BK174 := bkfB BK174 hb; replace BK175 := Aside0.mk (blk_below (o := .cells #[.int .i64 a1, .int .i64 a2, .int .i64 a3, .int .i64 a4] 69 (0, 0)) (bkp BK175) hb); replace HB := hbS HB hb; (try clear hb); (try clear hb2); (try clear hk); (try clear hi); obtain ⟨z0, z1, z2, z3, y0, y1, y2, y3⟩ := bc4 BK175) | ((with_reducible refine gate_callee (f := 52) rfl ?_); refine goesL_ (some 37) rfl rfl Try.func52 (by kernel_rfl) rfl #[.agg #[.int .i64 a1, .int .i64 a2, .int .i64 a3, .int .i64 a4]] rfl sma ?_; (with_reducible refine (quality_rules_right.calls a1 a2 a3 a4 true _ A8.out).mono ?_); rintro e w35 ⟨rfl, hb⟩; refine ⟨_, rfl, ?_⟩; replace BK173 := bkB BK173 hb; replace BK174 := bkB BK174 hb; replace BK175 := bkB BK175 hb; replace HB := hbS HB hb; (try clear hb); (try clear hb2); (try clear hk); (try clear hi); obtain ⟨z0, z1, z2, z3, y0, y1, y2, y3⟩ := bc4 BK173) | ((with_reducible refine gate_callee (f := 47) rfl ?_); refine goesL_ (some 46) rfl rfl Try.func47 (by kernel_rfl) rfl #[.agg #[.int .i64 a0_0, .slice A0_1 l0_1.length c0_1, .slice A0_2 l0_2.length c0_2, .slice A0_3 l0_3.length c0_3]] rfl sma ?_; (with_reducible refine (quality_clone.calls a0_0 _ _ l0_1 _ _ l0_2 _ _ l0_3 t178 t179 t182 t185 _ (cb HR0_1 HB) HC0_1.out (cb HR0_2 HB) HC0_2.out (cb HR0_3 HB) HC0_3.out A24.out).mono ?_); rintro e w37 ⟨v180, v183, v186, rfl, ho0, ho1, ho2, hb⟩; refine ⟨_, rfl, ?_⟩; have HO181 := Aside0.mk (Kd.R_lower ho0 (below_size (hbx HB))); have HO184 := Aside0.mk (Kd.R_lower ho1 (below_size (hbx HB))); have HO187 := Aside0.mk (Kd.R_lower ho2 (below_size (hbx HB))); replace BK173 := bkB BK173 hb; replace BK174 := bkB BK174 hb; replace BK175 := bkB BK175 hb; replace HB := hbS HB hb; (try clear hb); (try clear hb2); (try clear hk); (try clear hi); (try clear ho0); (try clear ho1); (try clear ho2)) | ((with_reducible refine gate_dst (N := 13) rfl ?_); refine boxE 13 #[.int .i64 0, .slice none 0 0, .slice none 0 0, .slice none 0 0] 25 ?_; intro gb188 hg w38 hbox hb; replace HO181 := rB HO181 hb; replace HO184 := rB HO184 hb; replace HO187 := rB HO187 hb; have BK188 := Aside0.mk (hbox); have GW188 := gw hg HB; have GE188 := gw hg HB; replace HB := hbS HB hb; have NB173_188 := nbl hg BK173; have NB188_173 := nbg hg BK173; replace BK173 := bkB BK173 hb; have NB174_188 := nbl hg BK174; have NB188_174 := nbg hg BK174; replace BK174 := bkB BK174 hb; have NB175_188 := nbl hg BK175; have NB188_175 := nbg hg BK175; replace BK175 := bkB BK175 hb; clear hb hbox hg; have hnb39 := NB188_173.out; have hnc39 := NB173_188.out; have hnb40 := NB188_174.out; have hnc40 := NB174_188.out; have hnb41 := NB188_175.out; have hnc41 := NB175_188.out; obtain ⟨z0, z1, z2, z3, y0, y1, y2, y3⟩ := bc4 BK188; obtain ⟨Ao43, co43, eo43⟩ := Kd.R_slice HO181.out; subst eo43; obtain ⟨Ao44, co44, eo44⟩ := Kd.R_slice HO184.out; subst eo44; obtain ⟨Ao45, co45, eo45⟩ := Kd.R_slice HO187.out; subst eo45; obtain ⟨z0, z1, z2, z3, y0, y1, y2, y3⟩ := bc4 BK173))
    go_loopg [14, 50] k (fun kq v14 v50 w' => ∃ (x14_1 : Int) (x50_1 : Int), v14 = .int .i64 x14_1 ∧ v50 = .int .i64 x50_1 ∧ Aside0 (quality_Close.l0 kq a4 x14_1 l0_2 (l0_2.length : Int) x50_1 a0_0 l0_1 l0_2 l0_3 a1 a2 a3 a4 t178 t179 t182 t185 = some (r1, r2, r3, r4, r5)) ∧ Aside0 (kq ≤ k) ∧ Aside0 (Kd.R k34 34 w' w.heap.size (fun _ => True) (.slice Ao43 t179.length co43) t179) ∧ Aside0 (Kd.R (Kd.int .i64) 3 w' w.heap.size (fun k_ => some k_ ≠ ((.slice Ao45 t185.length co45) : Value).ownBlock) (.slice Ao44 t182.length co44) t182) ∧ Aside0 (Kd.R (Kd.int .i64) 3 w' w.heap.size (fun k_ => some k_ ≠ ((.slice Ao44 t182.length co44) : Value).ownBlock) (.slice Ao45 t185.length co45) t185) ∧ Aside0 (w'.heap[gb173]? = some (.cells #[.int .i64 a0_0, (.slice A0_1 l0_1.length c0_1), (.slice A0_2 l0_2.length c0_2), (.slice A0_3 l0_3.length c0_3)] 25 (0, 0))) ∧ Aside0 (w'.heap[gb174]? = some (.cells #[.int .i64 0, (.slice none 0 0), (.slice none 0 0), (.slice none 0 0)] 25 (0, 0))) ∧ Aside0 (w'.heap[gb175]? = some (.cells #[.int .i64 a1, .int .i64 a2, .int .i64 a3, .int .i64 a4] 69 (0, 0))) ∧ Aside0 (w'.heap[gb188]? = some (.cells #[.int .i64 t178, (.slice Ao43 t179.length co43), (.slice Ao44 t182.length co44), (.slice Ao45 t185.length co45)] 25 (0, 0))) ∧ Aside0 (Below w.heap.size w w'))
    case atStart => exact ⟨(0), (0), rfs, rfs, H', ⟨Nat.le_refl _⟩, ⟨Kd.R_mono (rty (rfo HO181) BK188) (fun _ hk => trivial)⟩, rfA HO184, rfA HO187, bkfA BK173, bkfA BK174, bkfA BK175, bkpA BK188, hbA HB⟩
    case round =>
     clear H'
     try clear c7
     try clear c7b0
     try clear c7b1
     try clear c9
     try clear c10
     try clear c10b0
     try clear c10b1
     try clear hcz30_0
     try clear hcz30_1
     try clear hcz30_2
     try clear hcz30_3
     try clear hcz32_0
     try clear hcz32_1
     try clear hcz32_2
     try clear hcz32_3
     try clear hcz34_0
     try clear hcz34_1
     try clear hcz34_2
     try clear hcz34_3
     try clear hcz36_0
     try clear hcz36_1
     try clear hcz36_2
     try clear hcz36_3
     try clear hcz42_0
     try clear hcz42_1
     try clear hcz42_2
     try clear hcz42_3
     try clear hcz46_0
     try clear hcz46_1
     try clear hcz46_2
     try clear hcz46_3
     try clear hfz30_0
     try clear hfz30_1
     try clear hfz30_2
     try clear hfz30_3
     try clear hfz32_0
     try clear hfz32_1
     try clear hfz32_2
     try clear hfz32_3
     try clear hfz34_0
     try clear hfz34_1
     try clear hfz34_2
     try clear hfz34_3
     try clear hfz36_0
     try clear hfz36_1
     try clear hfz36_2
     try clear hfz36_3
     try clear hfz42_0
     try clear hfz42_1
     try clear hfz42_2
     try clear hfz42_3
     try clear hfz46_0
     try clear hfz46_1
     try clear hfz46_2
     try clear hfz46_3
     obtain ⟨x14_1, x50_1, rfl, rfl, HA, HK1, HO_189001, HO_189002, HO_189003, BK173, BK174, BK175, BK188, HB⟩ := hrel
     cases gk with
     | zero => exact absurd HA.out (by simp [quality_Close.l0])
     | succ k1 =>
      have H := HA.out
      clear HA
      simp only [quality_Close.l0] at H
      by_cases c47 : x50_1 < (l0_2.length : Int)
      ·rw [if_pos c47] at H
       have c47b0 : decide (x50_1 < (l0_2.length : Int)) = true := decide_eq_true c47
       clear c47
       by_cases c48 : 0 ≤ x50_1
       ·rw [if_pos c48] at H
        have c48b0 : decide (0 ≤ x50_1) = true := decide_eq_true c48
        clear c48
        by_cases c49 : x50_1 < (l0_2.length : Int)
        ·rw [if_pos c49] at H
         have c49b0 : decide (x50_1 < (l0_2.length : Int)) = true := decide_eq_true c49
         clear c49
         by_cases c50 : (rd l0_2 x50_1) = 0
         ·rw [if_pos c50] at H
          have c50b0 : ((rd l0_2 x50_1) == 0) = true := beq_iff_eq.mpr c50
          have c50b1 : ((rd l0_2 x50_1) != 0) = false := bne_eq_false_iff_eq.mpr c50
          clear c50
          have H' := Aside0.mk H
          clear H
          have p189 : 0 ≤ (x50_1 : Int) := pos_
          have q189 : x50_1 < (l0_2.length : Int) := pos_
          obtain ⟨ad189, e189, hx189_0⟩ := Kd.at_int HR0_2.out x50_1 p189 q189
          cases e189
          replace hx189_0 := (HB.out.cell (World.block_lt_of_cell? w _ hx189_0)).trans hx189_0
          replace p189 := eq_true p189
          replace q189 := eq_true q189
          go_wp2
          go_roundg k1
          case measure => have := HK1.out; omega
          case rel => exact ⟨(wrap64 (x14_1 + 1)), (wrap64 (x50_1 + 1)), rfs, rfs, H', ⟨by have := HK1.out; omega⟩, roA HO_189001, roA HO_189002, roA HO_189003, bkA BK173, bkA BK174, bkA BK175, bkA BK188, hbA HB⟩
         ·rw [if_neg c50] at H
          have c50b0 : ((rd l0_2 x50_1) == 0) = false := beq_eq_false_iff_ne.mpr c50
          have c50b1 : ((rd l0_2 x50_1) != 0) = true := bne_iff_ne.mpr c50
          have H' := Aside0.mk H
          clear H
          have p189 : 0 ≤ (x50_1 : Int) := pos_
          have q189 : x50_1 < (l0_2.length : Int) := pos_
          obtain ⟨ad189, e189, hx189_0⟩ := Kd.at_int HR0_2.out x50_1 p189 q189
          cases e189
          replace hx189_0 := (HB.out.cell (World.block_lt_of_cell? w _ hx189_0)).trans hx189_0
          replace p189 := eq_true p189
          replace q189 := eq_true q189
          go_wp2
          go_roundg k1
          case measure => have := HK1.out; omega
          case rel => exact ⟨(x14_1), (wrap64 (x50_1 + 1)), rfs, rfs, H', ⟨by have := HK1.out; omega⟩, roA HO_189001, roA HO_189002, roA HO_189003, bkA BK173, bkA BK174, bkA BK175, bkA BK188, hbA HB⟩
        ·rw [if_neg c49] at H
         exact absurd H (by simp)
       ·rw [if_neg c48] at H
        exact absurd H (by simp)
      ·rw [if_neg c47] at H
       have c47b0 : decide (x50_1 < (l0_2.length : Int)) = false := decide_eq_false c47
       clear c47
       replace H := Option.bind_eq_some_iff.mp H
       obtain ⟨⟨t190, t193⟩, A510, H⟩ := H
       (try dsimp only at H)
       have A51 := Aside0.mk A510
       clear A510
       obtain ⟨ji52, hji52⟩ : ∃ j_ : Int, (mn (t190.length : Int) (wrap64 (x14_1 - a4))) = j_ := ⟨_, rfl⟩
       replace H : (if 0 ≤ (mx 0 (ji52)) then (if (mx 0 (ji52)) ≤ (t190.length : Int) then ((some (t190.take ((mx 0 (ji52)) : Int).toNat : List Int)).bind fun y196 => (quality_Close.l1 k1 t193 y196 (y196.length : Int) 0 t178 t179 t182 t185)) else (none)) else (none)) = some (r1, r2, r3, r4, r5) := by first | (rw [hji52] at H; exact H) | (simp only [hji52] at H ⊢; exact H)
       (try rw [hji52] at A51)
       have hji52_ : (if (wrap64 (x14_1 - a4)) < (t190.length : Int) then (wrap64 (x14_1 - a4)) else (t190.length : Int)) = ji52 := hji52
       obtain ⟨ji53, hji53⟩ : ∃ j_ : Int, (mx 0 (ji52)) = j_ := ⟨_, rfl⟩
       replace H : (if 0 ≤ (ji53) then (if (ji53) ≤ (t190.length : Int) then ((some (t190.take ((ji53) : Int).toNat : List Int)).bind fun y196 => (quality_Close.l1 k1 t193 y196 (y196.length : Int) 0 t178 t179 t182 t185)) else (none)) else (none)) = some (r1, r2, r3, r4, r5) := by first | (rw [hji53] at H; exact H) | (simp only [hji53] at H ⊢; exact H)
       (try rw [hji53] at A51)
       have hji53_ : (if 0 < (ji52) then (ji52) else 0) = ji53 := hji53
       by_cases c54 : 0 ≤ (ji53)
       ·rw [if_pos c54] at H
        have c54b0 := eq_true c54
        have c54b1 : decide (0 ≤ (ji53)) = true := decide_eq_true c54
        clear c54
        by_cases c55 : (ji53) ≤ (t190.length : Int)
        ·rw [if_pos c55] at H
         have c55b0 := eq_true c55
         have c55b1 : decide ((ji53) ≤ (t190.length : Int)) = true := decide_eq_true c55
         clear c55
         obtain ⟨y196, hy196⟩ : ∃ y_ : List Int, y_ = (t190.take ((ji53) : Int).toNat) := ⟨_, rfl⟩
         replace H : (quality_Close.l1 k1 t193 y196 (y196.length : Int) 0 t178 t179 t182 t185) = some (r1, r2, r3, r4, r5) := by first | (rw [hy196]; with_reducible exact H) | (have H2_ := (Option.bind_some _ _).symm.trans H; rw [hy196]; with_reducible exact H2_) | (have H2_ := (Option.bind_some _ _).symm.trans H; with_reducible exact H2_) | with_reducible exact H | (rw [hy196]; exact H) | exact H
         have Ny196 := Aside0.mk hy196
         clear hy196
         have H' := Aside0.mk H
         clear H
         have hnb56 := NB175_173.out
         have hnc56 := NB173_175.out
         have hnb57 := NB175_174.out
         have hnc57 := NB174_175.out
         have hnb58 := NB175_188.out
         have hnc58 := NB188_175.out
         obtain ⟨z0, z1, z2, z3, y0, y1, y2, y3⟩ := bc4 BK175
         have hnb60 := NB173_174.out
         have hnc60 := NB174_173.out
         have hnb61 := NB173_188.out
         have hnc61 := NB188_173.out
         obtain ⟨z0, z1, z2, z3, y0, y1, y2, y3⟩ := bc4 BK173
         go_wp2_with (first | ((with_reducible refine gate_callee (f := 53) rfl ?_); refine goesL_ (some 62) rfl rfl Try.func53 (by kernel_rfl) rfl #[.agg #[.int .i64 a1, .int .i64 a2, .int .i64 a3, .int .i64 a4], .agg #[.int .i64 a0_0, .slice A0_1 l0_1.length c0_1, .slice A0_2 l0_2.length c0_2, .slice A0_3 l0_3.length c0_3]] rfl sma ?_; (with_reducible refine (quality_rules_judge.calls k1 a1 a2 a3 a4 a0_0 _ _ l0_1 _ _ l0_2 _ _ l0_3 t190 t193 _ (cb HR0_1 HB) HC0_1.out (cb HR0_2 HB) HC0_2.out (cb HR0_3 HB) HC0_3.out A51.out).mono ?_); rintro e w63 ⟨v191, v194, rfl, ho0, ho1, hb⟩; refine ⟨_, rfl, ?_⟩; replace HO_189001 := rB HO_189001 hb; have HO192 := Aside0.mk (Kd.R_lower (Kd.R_new' (Kd.R_new' ho0 (Kd.R_lt (ro HO_189002))) (Kd.R_lt (ro HO_189003))) (below_size (hbx HB))); have HO195 := Aside0.mk (Kd.R_lower (Kd.R_new' (Kd.R_new' ho1 (Kd.R_lt (ro HO_189002))) (Kd.R_lt (ro HO_189003))) (below_size (hbx HB))); replace HO_189002 := Aside0.mk (Kd.R_mono (Kd.R_told (Kd.R_told (Kd.R_old (ro HO_189002) hb) (Kd.R_base ho0)) (Kd.R_base ho1)) (fun _ h_ => h_.1)); replace HO_189003 := Aside0.mk (Kd.R_mono (Kd.R_told (Kd.R_told (Kd.R_old (ro HO_189003) hb) (Kd.R_base ho0)) (Kd.R_base ho1)) (fun _ h_ => h_.1)); replace BK173 := bkB BK173 hb; replace BK174 := bkB BK174 hb; replace BK175 := bkB BK175 hb; replace BK188 := bkB BK188 hb; replace HB := hbS HB hb; (try clear hb); (try clear hb2); (try clear hk); (try clear hi); (try clear ho0); (try clear ho1); obtain ⟨Ao64, co64, eo64⟩ := Kd.R_slice HO192.out; subst eo64; have q65 : ((ji53) : Int) ≤ ((t190.length : Int) : Int) := pos_; obtain ⟨i065, hi065, _, hsz65, _⟩ := info_parts info3; have hcut65 := cut_to (P := Try.prog) 23 3 .i64 Try.underlying23 hi065 Ao64 t190.length co64 (ji53) (pos_) q65 (Kd.R_reads' HO192.out).2.1; have hr65 := Kd.R_take (m := ((ji53) : Int).toNat) HO192.out (by omega); have hy65 : y196.length = ((ji53) : Int).toNat := (by rw [Ny196.out, List.length_take]; omega); rw [← Ny196.out] at hr65; rw [← hy65] at hr65 hcut65; clear hy65 hi065 hsz65 HO192; have HO198 := Aside0.mk hr65; clear hr65; replace q65 := eq_true q65; have n_ := Aside0.mk (Kd.R_mono (ok' := fun k_ => ((some k_ ≠ (.slice Ao45 t185.length co45 : Value).ownBlock ∧ some k_ ≠ (.slice Ao64 y196.length co64 : Value).ownBlock) ∧ some k_ ≠ (v194 : Value).ownBlock)) HO_189002.out (fun k_ hk => ⟨⟨hk.1.1, (fun he_ => hk.1.2 (he_.trans (slice_own _ _ _ _ _)))⟩, hk.2⟩)); clear HO_189002; have HO_189002 := n_; clear n_; have n_ := Aside0.mk (Kd.R_mono (ok' := fun k_ => ((some k_ ≠ (.slice Ao44 t182.length co44 : Value).ownBlock ∧ some k_ ≠ (.slice Ao64 y196.length co64 : Value).ownBlock) ∧ some k_ ≠ (v194 : Value).ownBlock)) HO_189003.out (fun k_ hk => ⟨⟨hk.1.1, (fun he_ => hk.1.2 (he_.trans (slice_own _ _ _ _ _)))⟩, hk.2⟩)); clear HO_189003; have HO_189003 := n_; clear n_; have n_ := Aside0.mk (Kd.R_mono (ok' := fun k_ => ((some k_ ≠ (.slice Ao64 y196.length co64 : Value).ownBlock ∧ some k_ ≠ (.slice Ao44 t182.length co44 : Value).ownBlock) ∧ some k_ ≠ (.slice Ao45 t185.length co45 : Value).ownBlock)) HO195.out (fun k_ hk => ⟨⟨(fun he_ => hk.1.1 (he_.trans (slice_own _ _ _ _ _))), hk.1.2⟩, hk.2⟩)); clear HO195; have HO195 := n_; clear n_))
         go_loopg [75] k1 (fun kq v75 w' => ∃ (x18_2 : List Int) (x73_2 : List Int) (x75_2 : Int) (x189002_2 : List Int) (x189003_2 : List Int) (u189002 : Value) (u189003 : Value), v75 = .int .i64 x75_2 ∧ Aside0 (quality_Close.l1 kq x18_2 x73_2 (y196.length : Int) x75_2 t178 t179 x189002_2 x189003_2 = some (r1, r2, r3, r4, r5)) ∧ Aside0 (kq ≤ k1) ∧ Aside0 (Kd.R (Kd.int .i64) 3 w' w.heap.size (fun k_ => some k_ ≠ ((.slice Ao64 y196.length co64) : Value).ownBlock ∧ some k_ ≠ (u189002 : Value).ownBlock ∧ some k_ ≠ (u189003 : Value).ownBlock) v194 x18_2) ∧ Aside0 (Kd.R (Kd.int .i64) 3 w' w.heap.size (fun k_ => some k_ ≠ (v194 : Value).ownBlock ∧ some k_ ≠ (u189002 : Value).ownBlock ∧ some k_ ≠ (u189003 : Value).ownBlock) (.slice Ao64 y196.length co64) x73_2) ∧ Aside0 (Kd.R k34 34 w' w.heap.size (fun _ => True) (.slice Ao43 t179.length co43) t179) ∧ Aside0 (Kd.R (Kd.int .i64) 3 w' w.heap.size (fun k_ => some k_ ≠ (v194 : Value).ownBlock ∧ some k_ ≠ ((.slice Ao64 y196.length co64) : Value).ownBlock ∧ some k_ ≠ (u189003 : Value).ownBlock) u189002 x189002_2) ∧ Aside0 (Kd.R (Kd.int .i64) 3 w' w.heap.size (fun k_ => some k_ ≠ (v194 : Value).ownBlock ∧ some k_ ≠ ((.slice Ao64 y196.length co64) : Value).ownBlock ∧ some k_ ≠ (u189002 : Value).ownBlock) u189003 x189003_2) ∧ Aside0 (w'.heap[gb173]? = some (.cells #[.int .i64 a0_0, (.slice A0_1 l0_1.length c0_1), (.slice A0_2 l0_2.length c0_2), (.slice A0_3 l0_3.length c0_3)] 25 (0, 0))) ∧ Aside0 (w'.heap[gb174]? = some (.cells #[.int .i64 0, (.slice none 0 0), (.slice none 0 0), (.slice none 0 0)] 25 (0, 0))) ∧ Aside0 (w'.heap[gb175]? = some (.cells #[.int .i64 a1, .int .i64 a2, .int .i64 a3, .int .i64 a4] 69 (0, 0))) ∧ Aside0 (w'.heap[gb188]? = some (.cells #[.int .i64 t178, (.slice Ao43 t179.length co43), u189002, u189003] 25 (0, 0))) ∧ Aside0 (Below w.heap.size w w'))
         case atStart => exact ⟨(t193), (y196), (0), (t182), (t185), (.slice Ao44 t182.length co44), (.slice Ao45 t185.length co45), rfs, H', ⟨Nat.le_refl _⟩, ⟨by (with_reducible repeat (first | apply Kd.R_alloc | apply Kd.R_drewN | apply Kd.R_drew)); exact Kd.R_mono HO195.out (fun _ hk => ⟨hk.1.1, ⟨hk.1.2, hk.2⟩⟩)⟩, ⟨by (with_reducible repeat (first | apply Kd.R_alloc | apply Kd.R_drewN | apply Kd.R_drew)); exact Kd.R_mono HO198.out (fun _ hk => ⟨hk.1.1, ⟨hk.1.2, hk.2⟩⟩)⟩, roA HO_189001, ⟨by (with_reducible repeat (first | apply Kd.R_alloc | apply Kd.R_drewN | apply Kd.R_drew)); exact Kd.R_mono HO_189002.out (fun _ hk => ⟨hk.2, ⟨hk.1.2, hk.1.1⟩⟩)⟩, ⟨by (with_reducible repeat (first | apply Kd.R_alloc | apply Kd.R_drewN | apply Kd.R_drew)); exact Kd.R_mono HO_189003.out (fun _ hk => ⟨hk.2, ⟨hk.1.2, hk.1.1⟩⟩)⟩, bkA BK173, bkA BK174, bkA BK175, bkA BK188, hbA HB⟩
         case round =>
          clear H'
          try clear c7
          try clear c7b0
          try clear c7b1
          try clear c9
          try clear c10
          try clear c10b0
          try clear c10b1
          try clear c47
          try clear c47b0
          try clear c54
          try clear c54b0
          try clear c54b1
          try clear c55
          try clear c55b0
          try clear c55b1
          try clear q65
          try clear hcz30_0
          try clear hcz30_1
          try clear hcz30_2
          try clear hcz30_3
          try clear hcz32_0
          try clear hcz32_1
          try clear hcz32_2
          try clear hcz32_3
          try clear hcz34_0
          try clear hcz34_1
          try clear hcz34_2
          try clear hcz34_3
          try clear hcz36_0
          try clear hcz36_1
          try clear hcz36_2
          try clear hcz36_3
          try clear hcz42_0
          try clear hcz42_1
          try clear hcz42_2
          try clear hcz42_3
          try clear hcz46_0
          try clear hcz46_1
          try clear hcz46_2
          try clear hcz46_3
          try clear hcz59_0
          try clear hcz59_1
          try clear hcz59_2
          try clear hcz59_3
          try clear hcz62_0
          try clear hcz62_1
          try clear hcz62_2
          try clear hcz62_3
          try clear hfz30_0
          try clear hfz30_1
          try clear hfz30_2
          try clear hfz30_3
          try clear hfz32_0
          try clear hfz32_1
          try clear hfz32_2
          try clear hfz32_3
          try clear hfz34_0
          try clear hfz34_1
          try clear hfz34_2
          try clear hfz34_3
          try clear hfz36_0
          try clear hfz36_1
          try clear hfz36_2
          try clear hfz36_3
          try clear hfz42_0
          try clear hfz42_1
          try clear hfz42_2
          try clear hfz42_3
          try clear hfz46_0
          try clear hfz46_1
          try clear hfz46_2
          try clear hfz46_3
          try clear hfz59_0
          try clear hfz59_1
          try clear hfz59_2
          try clear hfz59_3
          try clear hfz62_0
          try clear hfz62_1
          try clear hfz62_2
          try clear hfz62_3
          try clear q65
          obtain ⟨x18_2, x73_2, x75_2, x189002_2, x189003_2, u189002, u189003, rfl, HA, HK2, HO_18, HO_73, HO_189001, HO_189002, HO_189003, BK173, BK174, BK175, BK188, HB⟩ := hrel
          have hl73_2 := (Kd.R_reads' HO_73.out).1
          rw [hl73_2] at HO_73
          (try simp only [hl73_2])
          (try simp only [hl73_2] at BK173)
          (try simp only [hl73_2] at BK174)
          (try simp only [hl73_2] at BK175)
          (try simp only [hl73_2] at BK188)
          (try simp only [hl73_2] at HO_18)
          (try simp only [hl73_2] at HO_189001)
          (try simp only [hl73_2] at HO_189002)
          (try simp only [hl73_2] at HO_189003)
          cases gk with
          | zero => exact absurd HA.out (by simp [quality_Close.l1])
          | succ k2 =>
           have H := HA.out
           clear HA
           simp only [quality_Close.l1] at H
           by_cases c66 : x75_2 < (y196.length : Int)
           ·rw [if_pos c66] at H
            have c66b0 : decide (x75_2 < (y196.length : Int)) = true := decide_eq_true c66
            (try (have c66b0h := c66b0; simp only [hl73_2] at c66b0h))
            clear c66
            by_cases c67 : 0 ≤ x75_2
            ·rw [if_pos c67] at H
             have c67b0 : decide (0 ≤ x75_2) = true := decide_eq_true c67
             (try (have c67b0h := c67b0; simp only [hl73_2] at c67b0h))
             clear c67
             by_cases c68 : x75_2 < (x73_2.length : Int)
             ·rw [if_pos c68] at H
              have c68b0 : decide (x75_2 < (x73_2.length : Int)) = true := decide_eq_true c68
              (try (have c68b0h := c68b0; simp only [hl73_2] at c68b0h))
              clear c68
              by_cases c69 : 0 ≤ (rd x73_2 x75_2)
              ·rw [if_pos c69] at H
               have c69b0 : decide (0 ≤ (rd x73_2 x75_2)) = true := decide_eq_true c69
               (try (have c69b0h := c69b0; simp only [hl73_2] at c69b0h))
               clear c69
               by_cases c70 : (rd x73_2 x75_2) < (x189003_2.length : Int)
               ·rw [if_pos c70] at H
                have c70b0 : decide ((rd x73_2 x75_2) < (x189003_2.length : Int)) = true := decide_eq_true c70
                (try (have c70b0h := c70b0; simp only [hl73_2] at c70b0h))
                clear c70
                obtain ⟨ji71, hji71⟩ : ∃ j_ : Int, (mx (wrap64 (2 * (rd x189003_2 (rd x73_2 x75_2)))) 1) = j_ := ⟨_, rfl⟩
                replace H : ((some (x189003_2.set ((rd x73_2 x75_2) : Int).toNat (mn (ji71) 64) : List Int)).bind fun y201 => (if (rd x73_2 x75_2) < (x189002_2.length : Int) then (quality_Close.l1 k2 x18_2 x73_2 (y196.length : Int) (wrap64 (x75_2 + 1)) t178 t179 (x189002_2.set ((rd x73_2 x75_2) : Int).toNat (wrap64 ((wrap64 (t178 + 1)) + (rd y201 (rd x73_2 x75_2))))) y201) else (none))) = some (r1, r2, r3, r4, r5) := by first | (rw [hji71] at H; exact H) | (simp only [hji71] at H ⊢; exact H)
                have hji71_ : (if (wrap64 (2 * (rd x189003_2 (rd x73_2 x75_2)))) < 1 then 1 else (wrap64 (2 * (rd x189003_2 (rd x73_2 x75_2))))) = ji71 := hji71
                obtain ⟨ji72, hji72⟩ : ∃ j_ : Int, (mn (ji71) 64) = j_ := ⟨_, rfl⟩
                replace H : ((some (x189003_2.set ((rd x73_2 x75_2) : Int).toNat (ji72) : List Int)).bind fun y201 => (if (rd x73_2 x75_2) < (x189002_2.length : Int) then (quality_Close.l1 k2 x18_2 x73_2 (y196.length : Int) (wrap64 (x75_2 + 1)) t178 t179 (x189002_2.set ((rd x73_2 x75_2) : Int).toNat (wrap64 ((wrap64 (t178 + 1)) + (rd y201 (rd x73_2 x75_2))))) y201) else (none))) = some (r1, r2, r3, r4, r5) := by first | (rw [hji72] at H; exact H) | (simp only [hji72] at H ⊢; exact H)
                have hji72_ : (if 64 < (ji71) then 64 else (ji71)) = ji72 := hji72
                obtain ⟨y201, hy201⟩ : ∃ y_ : List Int, y_ = (x189003_2.set ((rd x73_2 x75_2) : Int).toNat (ji72)) := ⟨_, rfl⟩
                replace H : (if (rd x73_2 x75_2) < (x189002_2.length : Int) then (quality_Close.l1 k2 x18_2 x73_2 (y196.length : Int) (wrap64 (x75_2 + 1)) t178 t179 (x189002_2.set ((rd x73_2 x75_2) : Int).toNat (wrap64 ((wrap64 (t178 + 1)) + (rd y201 (rd x73_2 x75_2))))) y201) else (none)) = some (r1, r2, r3, r4, r5) := by first | (rw [hy201]; with_reducible exact H) | (have H2_ := (Option.bind_some _ _).symm.trans H; rw [hy201]; with_reducible exact H2_) | (have H2_ := (Option.bind_some _ _).symm.trans H; with_reducible exact H2_) | with_reducible exact H | (rw [hy201]; exact H) | exact H
                have Ny201 := Aside0.mk hy201
                clear hy201
                by_cases c74 : (rd x73_2 x75_2) < (x189002_2.length : Int)
                ·rw [if_pos c74] at H
                 have c74b0 : decide ((rd x73_2 x75_2) < (x189002_2.length : Int)) = true := decide_eq_true c74
                 (try (have c74b0h := c74b0; simp only [hl73_2] at c74b0h))
                 clear c74
                 obtain ⟨y203, hy203⟩ : ∃ y_ : List Int, y_ = (x189002_2.set ((rd x73_2 x75_2) : Int).toNat (wrap64 ((wrap64 (t178 + 1)) + (rd y201 (rd x73_2 x75_2))))) := ⟨_, rfl⟩
                 replace H : (quality_Close.l1 k2 x18_2 x73_2 (y196.length : Int) (wrap64 (x75_2 + 1)) t178 t179 y203 y201) = some (r1, r2, r3, r4, r5) := by first | (rw [hy203]; with_reducible exact H) | (have H2_ := (Option.bind_some _ _).symm.trans H; rw [hy203]; with_reducible exact H2_) | (have H2_ := (Option.bind_some _ _).symm.trans H; with_reducible exact H2_) | with_reducible exact H | (rw [hy203]; exact H) | exact H
                 have Ny203 := Aside0.mk hy203
                 clear hy203
                 have H' := Aside0.mk H
                 clear H
                 have p199 : 0 ≤ (x75_2 : Int) := pos_
                 have q199 : x75_2 < (x73_2.length : Int) := pos_
                 obtain ⟨ad199, e199, hx199_0⟩ := Kd.at_int (Kd.R_reads' HO_73.out).2.2 x75_2 p199 q199
                 cases e199
                 replace p199 := eq_true p199
                 replace q199 := eq_true q199
                 try go_wp2
                 replace HO_18 := Aside0.mk (Kd.R_drew HO_18.out)
                 replace HO_73 := Aside0.mk (Kd.R_drew HO_73.out)
                 replace HO_189001 := Aside0.mk (Kd.R_drew HO_189001.out)
                 replace HO_189002 := Aside0.mk (Kd.R_drew HO_189002.out)
                 replace HO_189003 := Aside0.mk (Kd.R_drew HO_189003.out)
                 replace BK173 := Aside0.mk (blk_drew BK173.out)
                 replace BK174 := Aside0.mk (blk_drew BK174.out)
                 replace BK175 := Aside0.mk (blk_drew BK175.out)
                 replace BK188 := Aside0.mk (blk_drew BK188.out)
                 replace HB := Aside0.mk (below_drew1 HB.out)
                 obtain ⟨Ao77, co77, eo77⟩ := Kd.R_slice HO_189003.out
                 (first | subst eo77 | (injection eo77 with f1_ f2_ f3_; have f4_ := f1_.symm; have f5_ := f3_.symm; clear f1_ f2_ f3_; subst f4_; subst f5_))
                 have p200 : 0 ≤ ((rd x73_2 x75_2) : Int) := pos_
                 have q200 : (rd x73_2 x75_2) < (x189003_2.length : Int) := pos_
                 obtain ⟨ad200, e200, hx200_0⟩ := Kd.at_int (Kd.R_reads' HO_189003.out).2.2 (rd x73_2 x75_2) p200 q200
                 cases e200
                 replace p200 := eq_true p200
                 replace q200 := eq_true q200
                 have p73 : 0 ≤ ((rd x73_2 x75_2) : Int) := pos_
                 have q73 : ((rd x73_2 x75_2) : Int) < ((x189003_2.length : Int) : Int) := pos_
                 obtain ⟨go73, co73, eo73, gb73, gl73, cl73, HG73⟩ := Kd.R_form HO_189003.out (by omega)
                 (first | cases eo73 | (injection eo73 with ea_ en_ ec_; (first | subst ea_ | (injection ea_ with ea_; subst ea_)); subst ec_; clear en_))
                 have GB73 := Aside0.mk gb73
                 have GG73 := Aside0.mk HG73
                 clear gb73 gl73 HG73
                 (first | simp only [add_plain] at hx200_0 | skip)
                 obtain ⟨hx73_0, hf73_0⟩ := Kd.R_celln 0 HO_189003.out ((rd x73_2 x75_2) : Int) p73 q73
                 replace p73 := eq_true p73
                 replace q73 := eq_true q73
                 have HP78 := Kd.R_putn HO_189003.out ((rd x73_2 x75_2) : Int) ji72
                 rw [← Ny201.out] at HP78
                 have HQ78 := Aside0.mk HP78
                 clear HP78
                 refine start_ (n := 13) (S := fun w' => w'.cell? ⟨gb188, 0, none⟩ = some (.int .i64 t178) ∧ w'.cell? ⟨gb188, 1, none⟩ = some (.slice Ao43 t179.length co43) ∧ w'.cell? ⟨gb188, 2, none⟩ = some (u189002) ∧ w'.cell? ⟨gb188, 3, none⟩ = some (.slice (some ⟨go73, 0, none⟩) x189003_2.length co77) ∧ w'.cell? ⟨go73, ((rd x73_2 x75_2)).toNat, none⟩ = some (.int .i64 (rd x189003_2 (rd x73_2 x75_2)))) (ds := [12]) #[false, false, false, false, false, false, false, false, false, false, false, false, false] (by kernel_rfl) rfl rfl ⟨(blk_cell BK188.out 0).trans rfl, (blk_cell BK188.out 1).trans rfl, (blk_cell BK188.out 2).trans rfl, (blk_cell BK188.out 3).trans rfl, hx200_0⟩ (fun hHeld => ?_); refine with_tabW quality_Close.tab20 quality_Close.bits20 (fun HT_ HW_ => ?_)
                 generalize wr.drew = w76 at HO_18 HO_73 HO_189001 HO_189002 HO_189003 BK173 BK174 BK175 BK188 HB GG73 HQ78 hf73_0 hx200_0 hx73_0 hHeld ⊢
                 refine pur 0 (some 79) #[true, false, false, false, false, false, false, false, false, false, false, false, false] HT_ ?_
                 refine pur 2 (some 81) #[true, false, true, false, false, false, false, false, false, false, false, false, false] HT_ ?_
                 refine pur 3 (some 82) #[true, false, true, true, false, false, false, false, false, false, false, false, false] HT_ ?_
                 refine pur 5 (some 84) #[true, false, true, true, false, true, false, false, false, false, false, false, false] HT_ ?_
                 refine tak 1 (some 80) #[true, true, true, true, false, true, false, false, false, false, false, false, false] HT_ HW_ hHeld rfl (Or.inl ⟨by rfl, by rintro w' ⟨s0, s1, s2, s3, s4⟩; go_simp; with_reducible rfl⟩) ?_
                 refine tak 4 (some 83) #[true, true, true, true, true, true, false, false, false, false, false, false, false] HT_ HW_ hHeld rfl (Or.inl ⟨by rfl, by rintro w' ⟨s0, s1, s2, s3, s4⟩; go_simp; with_reducible rfl⟩) ?_
                 refine pur 6 (some 85) #[true, true, true, true, true, true, true, false, false, false, false, false, false] HT_ ?_
                 refine tak 7 (some 86) #[true, true, true, true, true, true, true, true, false, false, false, false, false] HT_ HW_ hHeld rfl (Or.inl ⟨by rfl, by rintro w' ⟨s0, s1, s2, s3, s4⟩; go_simp; with_reducible rfl⟩) ?_
                 refine pur 8 (some 87) #[true, true, true, true, true, true, true, true, true, false, false, false, false] HT_ ?_
                 refine pur 9 (some 88) #[true, true, true, true, true, true, true, true, true, true, false, false, false] HT_ ?_
                 refine pur 10 (some 89) #[true, true, true, true, true, true, true, true, true, true, true, false, false] HT_ ?_
                 refine pur 11 (some 90) #[true, true, true, true, true, true, true, true, true, true, true, true, false] HT_ ?_
                 refine last_ (i := 12) (N := none) #[true, true, true, true, true, true, true, true, true, true, true, true, true] rfl rfl (one_of HT_.out (by kernel_rfl)) (by decide) (fun K hK => ?_)
                 refine skip_ (w1 := ?_) (by rfl) rfl ?_ ?_
                 rotate_left
                 ·go_simp
                  rfl
                 refine hK.out _ _ ?_
                 clear hK K
                 refine done_ (done_of HT_.out (by kernel_rfl)) ?_
                 try go_wp2
                 have n0_ : Aside0 (Kd.R (Kd.int .i64) 3 (w76.setCell ⟨go73, ((rd x73_2 x75_2) : Int).toNat, none⟩ (.int .i64 ji72)) w.heap.size (fun k_ => some k_ ≠ (.slice (some ad199) x73_2.length co64 : Value).ownBlock ∧ some k_ ≠ (u189002 : Value).ownBlock ∧ some k_ ≠ (.slice (some ⟨go73, 0, none⟩) x189003_2.length co77 : Value).ownBlock) v194 x18_2) := ⟨by (with_reducible repeat (first | apply Kd.R_alloc | apply Kd.R_drewN | apply Kd.R_drew)); exact Kd.R_mono (Kd.R_far (p := ⟨go73, ((rd x73_2 x75_2) : Int).toNat, none⟩) (Kd.R_mono HO_18.out (fun k_ hk => (⟨hk, fun e_ => hk.2.2 (by rw [e_]; rfl)⟩ : _ ∧ k_ ≠ go73))) (fun _ hk => hk.2) (.int .i64 ji72)) (fun _ hk => ⟨hk.1.1, ⟨hk.1.2.1, hk.1.2.2⟩⟩)⟩
                 have n1_ : Aside0 (Kd.R (Kd.int .i64) 3 (w76.setCell ⟨go73, ((rd x73_2 x75_2) : Int).toNat, none⟩ (.int .i64 ji72)) w.heap.size (fun k_ => some k_ ≠ (v194 : Value).ownBlock ∧ some k_ ≠ (u189002 : Value).ownBlock ∧ some k_ ≠ (.slice (some ⟨go73, 0, none⟩) x189003_2.length co77 : Value).ownBlock) (.slice (some ad199) x73_2.length co64) x73_2) := ⟨by (with_reducible repeat (first | apply Kd.R_alloc | apply Kd.R_drewN | apply Kd.R_drew)); exact Kd.R_mono (Kd.R_far (p := ⟨go73, ((rd x73_2 x75_2) : Int).toNat, none⟩) (Kd.R_mono HO_73.out (fun k_ hk => (⟨hk, fun e_ => hk.2.2 (by rw [e_]; rfl)⟩ : _ ∧ k_ ≠ go73))) (fun _ hk => hk.2) (.int .i64 ji72)) (fun _ hk => ⟨hk.1.1, ⟨hk.1.2.1, hk.1.2.2⟩⟩)⟩
                 have n2_ : Aside0 (Kd.R k34 34 (w76.setCell ⟨go73, ((rd x73_2 x75_2) : Int).toNat, none⟩ (.int .i64 ji72)) w.heap.size (fun _ => True) (.slice Ao43 t179.length co43) t179) := ⟨by (with_reducible repeat (first | apply Kd.R_alloc | apply Kd.R_drewN | apply Kd.R_drew)); exact Kd.R_mono (Kd.R_far (p := ⟨go73, ((rd x73_2 x75_2) : Int).toNat, none⟩) (Kd.R_types HO_189001.out GG73.out (by decide)) (fun _ hk => hk.2) (.int .i64 ji72)) (fun _ hk => trivial)⟩
                 have n3_ : Aside0 (Kd.R (Kd.int .i64) 3 (w76.setCell ⟨go73, ((rd x73_2 x75_2) : Int).toNat, none⟩ (.int .i64 ji72)) w.heap.size (fun k_ => some k_ ≠ (v194 : Value).ownBlock ∧ some k_ ≠ (.slice (some ad199) x73_2.length co64 : Value).ownBlock ∧ some k_ ≠ (.slice (some ⟨go73, 0, none⟩) x189003_2.length co77 : Value).ownBlock) u189002 x189002_2) := ⟨by (with_reducible repeat (first | apply Kd.R_alloc | apply Kd.R_drewN | apply Kd.R_drew)); exact Kd.R_mono (Kd.R_far (p := ⟨go73, ((rd x73_2 x75_2) : Int).toNat, none⟩) (Kd.R_mono HO_189002.out (fun k_ hk => (⟨hk, fun e_ => hk.2.2 (by rw [e_]; rfl)⟩ : _ ∧ k_ ≠ go73))) (fun _ hk => hk.2) (.int .i64 ji72)) (fun _ hk => ⟨hk.1.1, ⟨hk.1.2.1, hk.1.2.2⟩⟩)⟩
                 have n4_ : Aside0 (Kd.R (Kd.int .i64) 3 (w76.setCell ⟨go73, ((rd x73_2 x75_2) : Int).toNat, none⟩ (.int .i64 ji72)) w.heap.size (fun k_ => some k_ ≠ (v194 : Value).ownBlock ∧ some k_ ≠ (.slice (some ad199) x73_2.length co64 : Value).ownBlock ∧ some k_ ≠ (u189002 : Value).ownBlock) (.slice (some ⟨go73, 0, none⟩) x189003_2.length co77) y201) := ⟨by (with_reducible repeat (first | apply Kd.R_alloc | apply Kd.R_drewN | apply Kd.R_drew)); exact HQ78.out⟩
                 have n5_ : Aside0 ((w76.setCell ⟨go73, ((rd x73_2 x75_2) : Int).toNat, none⟩ (.int .i64 ji72)).heap[gb173]? = some (.cells #[.int .i64 a0_0, .slice A0_1 l0_1.length c0_1, .slice A0_2 l0_2.length c0_2, .slice A0_3 l0_3.length c0_3] 25 (0, 0))) := ⟨by (with_reducible repeat (first | refine blk_drewN ?_ _ | refine blk_drew ?_ | refine blk_alloc ?_ _)); refine blk_far ?_ (by have h_ := Kd.R_ne HO_189003.out BK173.out (by decide); intro e_; exact h_ (by rw [e_]; rfl)) _; (with_reducible repeat (first | refine blk_drewN ?_ _ | refine blk_drew ?_ | refine blk_alloc ?_ _)); exact BK173.out⟩
                 have n6_ : Aside0 ((w76.setCell ⟨go73, ((rd x73_2 x75_2) : Int).toNat, none⟩ (.int .i64 ji72)).heap[gb174]? = some (.cells #[.int .i64 0, .slice none 0 0, .slice none 0 0, .slice none 0 0] 25 (0, 0))) := ⟨by (with_reducible repeat (first | refine blk_drewN ?_ _ | refine blk_drew ?_ | refine blk_alloc ?_ _)); refine blk_far ?_ (by have h_ := Kd.R_ne HO_189003.out BK174.out (by decide); intro e_; exact h_ (by rw [e_]; rfl)) _; (with_reducible repeat (first | refine blk_drewN ?_ _ | refine blk_drew ?_ | refine blk_alloc ?_ _)); exact BK174.out⟩
                 have n7_ : Aside0 ((w76.setCell ⟨go73, ((rd x73_2 x75_2) : Int).toNat, none⟩ (.int .i64 ji72)).heap[gb175]? = some (.cells #[.int .i64 a1, .int .i64 a2, .int .i64 a3, .int .i64 a4] 69 (0, 0))) := ⟨by (with_reducible repeat (first | refine blk_drewN ?_ _ | refine blk_drew ?_ | refine blk_alloc ?_ _)); refine blk_far ?_ (by have h_ := Kd.R_ne HO_189003.out BK175.out (by decide); intro e_; exact h_ (by rw [e_]; rfl)) _; (with_reducible repeat (first | refine blk_drewN ?_ _ | refine blk_drew ?_ | refine blk_alloc ?_ _)); exact BK175.out⟩
                 have n8_ : Aside0 ((w76.setCell ⟨go73, ((rd x73_2 x75_2) : Int).toNat, none⟩ (.int .i64 ji72)).heap[gb188]? = some (.cells #[.int .i64 t178, .slice Ao43 t179.length co43, u189002, .slice (some ⟨go73, 0, none⟩) x189003_2.length co77] 25 (0, 0))) := ⟨by (with_reducible repeat (first | refine blk_drewN ?_ _ | refine blk_drew ?_ | refine blk_alloc ?_ _)); refine blk_far ?_ (by have h_ := Kd.R_ne HO_189003.out BK188.out (by decide); intro e_; exact h_ (by rw [e_]; rfl)) _; (with_reducible repeat (first | refine blk_drewN ?_ _ | refine blk_drew ?_ | refine blk_alloc ?_ _)); exact BK188.out⟩
                 have n9_ : Aside0 (Below w.heap.size w (w76.setCell ⟨go73, ((rd x73_2 x75_2) : Int).toNat, none⟩ (.int .i64 ji72))) := ⟨by repeat (first | (with_reducible first | exact HB.out | apply below_alloc | apply pw_below_drewN | apply below_drew1 | refine below_set ?_ GB73.out | refine below_set ?_ GE173.out | refine below_set ?_ GE174.out | refine below_set ?_ GE175.out | refine below_set ?_ GE188.out) | exact HB.out)⟩
                 (try clear HO_18)
                 (try clear HO_73)
                 (try clear HO_189001)
                 (try clear HO_189002)
                 (try clear HO_189003)
                 (try clear BK173)
                 (try clear BK174)
                 (try clear BK175)
                 (try clear BK188)
                 (try clear HB)
                 generalize (w76.setCell ⟨go73, ((rd x73_2 x75_2) : Int).toNat, none⟩ (.int .i64 ji72)) = w79 at n0_ n1_ n2_ n3_ n4_ n5_ n6_ n7_ n8_ n9_ ⊢
                 have HO_18 := n0_
                 have HO_73 := n1_
                 have HO_189001 := n2_
                 have HO_189002 := n3_
                 have HO_189003 := n4_
                 have BK173 := n5_
                 have BK174 := n6_
                 have BK175 := n7_
                 have BK188 := n8_
                 have HB := n9_
                 clear n0_ n1_ n2_ n3_ n4_ n5_ n6_ n7_ n8_ n9_
                 replace HO_18 := Aside0.mk (Kd.R_drew HO_18.out)
                 replace HO_73 := Aside0.mk (Kd.R_drew HO_73.out)
                 replace HO_189001 := Aside0.mk (Kd.R_drew HO_189001.out)
                 replace HO_189002 := Aside0.mk (Kd.R_drew HO_189002.out)
                 replace HO_189003 := Aside0.mk (Kd.R_drew HO_189003.out)
                 replace BK173 := Aside0.mk (blk_drew BK173.out)
                 replace BK174 := Aside0.mk (blk_drew BK174.out)
                 replace BK175 := Aside0.mk (blk_drew BK175.out)
                 replace BK188 := Aside0.mk (blk_drew BK188.out)
                 replace HB := Aside0.mk (below_drew1 HB.out)
                 have p202 : 0 ≤ ((rd x73_2 x75_2) : Int) := pos_
                 have q202 : (rd x73_2 x75_2) < (y201.length : Int) := (by have h_ : ((rd x73_2 x75_2) : Int) < ((x189003_2.length : Int) : Int) := pos_; first | (have e_ := (Kd.R_reads' HO_189003.out).1; omega) | simpa only [Ny201.out, List.length_set] using h_)
                 have ql202 : (((rd x73_2 x75_2) : Int) < ((x189003_2.length : Int) : Int)) = True := eq_true (pos_)
                 obtain ⟨ad202, e202, hx202_0⟩ := Kd.at_int (Kd.R_reads' HO_189003.out).2.2 (rd x73_2 x75_2) p202 q202
                 obtain rfl : (⟨go73, 0, none⟩ : Addr) = ad202 := (by injection e202)
                 (first | simp only [add_plain] at hx202_0 | simp only [add_at] at hx202_0 | simp only [Addr.add, Nat.zero_add] at hx202_0 | skip)
                 replace p202 := eq_true p202
                 replace q202 := eq_true q202
                 have p75 : 0 ≤ ((rd x73_2 x75_2) : Int) := pos_
                 have q75 : ((rd x73_2 x75_2) : Int) < ((x189002_2.length : Int) : Int) := pos_
                 obtain ⟨go75, co75, eo75, gb75, gl75, cl75, HG75⟩ := Kd.R_form HO_189002.out (by omega)
                 (first | cases eo75 | (injection eo75 with ea_ en_ ec_; (first | subst ea_ | (injection ea_ with ea_; subst ea_)); subst ec_; clear en_))
                 have GB75 := Aside0.mk gb75
                 have GG75 := Aside0.mk HG75
                 clear gb75 gl75 HG75
                 obtain ⟨hx75_0, hf75_0⟩ := Kd.R_celln 0 HO_189002.out ((rd x73_2 x75_2) : Int) p75 q75
                 replace p75 := eq_true p75
                 replace q75 := eq_true q75
                 have HP81 := Kd.R_putn HO_189002.out ((rd x73_2 x75_2) : Int) (wrap64 ((wrap64 (t178 + 1)) + (rd y201 (rd x73_2 x75_2))))
                 rw [← Ny203.out] at HP81
                 have HQ81 := Aside0.mk HP81
                 clear HP81
                 refine start_ (n := 14) (S := fun w' => w'.cell? ⟨gb188, 0, none⟩ = some (.int .i64 t178) ∧ w'.cell? ⟨gb188, 1, none⟩ = some (.slice Ao43 t179.length co43) ∧ w'.cell? ⟨gb188, 2, none⟩ = some (.slice (some ⟨go75, 0, none⟩) x189002_2.length co75) ∧ w'.cell? ⟨gb188, 3, none⟩ = some (.slice (some ⟨go73, 0, none⟩) x189003_2.length co77) ∧ w'.cell? ⟨go73, ((rd x73_2 x75_2)).toNat, none⟩ = some (.int .i64 (rd y201 (rd x73_2 x75_2)))) (ds := [13]) #[false, false, false, false, false, false, false, false, false, false, false, false, false, false] (by kernel_rfl) rfl rfl ⟨(blk_cell BK188.out 0).trans rfl, (blk_cell BK188.out 1).trans rfl, (blk_cell BK188.out 2).trans rfl, (blk_cell BK188.out 3).trans rfl, hx202_0⟩ (fun hHeld => ?_); refine with_tabW quality_Close.tab21 quality_Close.bits21 (fun HT_ HW_ => ?_)
                 generalize w79.drew = w80 at HO_18 HO_73 HO_189001 HO_189002 HO_189003 BK173 BK174 BK175 BK188 HB GG75 HQ78 HQ81 hf75_0 hx202_0 hx75_0 hHeld ⊢
                 refine pur 0 (some 91) #[true, false, false, false, false, false, false, false, false, false, false, false, false, false] HT_ ?_
                 refine pur 2 (some 93) #[true, false, true, false, false, false, false, false, false, false, false, false, false, false] HT_ ?_
                 refine pur 3 (some 94) #[true, false, true, true, false, false, false, false, false, false, false, false, false, false] HT_ ?_
                 refine pur 6 (some 97) #[true, false, true, true, false, false, true, false, false, false, false, false, false, false] HT_ ?_
                 refine pur 8 (some 99) #[true, false, true, true, false, false, true, false, true, false, false, false, false, false] HT_ ?_
                 refine tak 1 (some 92) #[true, true, true, true, false, false, true, false, true, false, false, false, false, false] HT_ HW_ hHeld rfl (Or.inl ⟨by rfl, by rintro w' ⟨s0, s1, s2, s3, s4⟩; go_simp; with_reducible rfl⟩) ?_
                 refine tak 4 (some 95) #[true, true, true, true, true, false, true, false, true, false, false, false, false, false] HT_ HW_ hHeld rfl (Or.inl ⟨by rfl, by rintro w' ⟨s0, s1, s2, s3, s4⟩; go_simp; with_reducible rfl⟩) ?_
                 refine pur 5 (some 96) #[true, true, true, true, true, true, true, false, true, false, false, false, false, false] HT_ ?_
                 refine tak 7 (some 98) #[true, true, true, true, true, true, true, true, true, false, false, false, false, false] HT_ HW_ hHeld rfl (Or.inl ⟨by rfl, by rintro w' ⟨s0, s1, s2, s3, s4⟩; go_simp; with_reducible rfl⟩) ?_
                 refine pur 9 (some 100) #[true, true, true, true, true, true, true, true, true, true, false, false, false, false] HT_ ?_
                 refine tak 10 (some 101) #[true, true, true, true, true, true, true, true, true, true, true, false, false, false] HT_ HW_ hHeld rfl (Or.inl ⟨by rfl, by rintro w' ⟨s0, s1, s2, s3, s4⟩; go_simp; with_reducible rfl⟩) ?_
                 refine pur 11 (some 102) #[true, true, true, true, true, true, true, true, true, true, true, true, false, false] HT_ ?_
                 refine pur 12 (some 103) #[true, true, true, true, true, true, true, true, true, true, true, true, true, false] HT_ ?_
                 refine last_ (i := 13) (N := none) #[true, true, true, true, true, true, true, true, true, true, true, true, true, true] rfl rfl (one_of HT_.out (by kernel_rfl)) (by decide) (fun K hK => ?_)
                 refine skip_ (w1 := ?_) (by rfl) rfl ?_ ?_
                 rotate_left
                 ·go_simp
                  rfl
                 refine hK.out _ _ ?_
                 clear hK K
                 refine done_ (done_of HT_.out (by kernel_rfl)) ?_
                 try go_wp2
                 (try simp only [← hl73_2])
                 go_roundg k2
                 case measure => have := HK1.out; have := HK2.out; omega
                 case rel => exact ⟨(x18_2), (x73_2), (wrap64 (x75_2 + 1)), (y203), (y201), (.slice (some ⟨go75, 0, none⟩) x189002_2.length co75), (.slice (some ⟨go73, 0, none⟩) x189003_2.length co77), rfs, H', ⟨by have := HK1.out; have := HK2.out; omega⟩, ⟨by (try simp only [hl73_2]); (with_reducible repeat (first | apply Kd.R_alloc | apply Kd.R_drewN | apply Kd.R_drew)); exact Kd.R_mono (Kd.R_far (p := ⟨go75, ((rd x73_2 x75_2) : Int).toNat, none⟩) (Kd.R_mono HO_18.out (fun k_ hk => (⟨hk, fun e_ => hk.2.1 (by rw [e_]; rfl)⟩ : _ ∧ k_ ≠ go75))) (fun _ hk => hk.2) (.int .i64 (wrap64 ((wrap64 (t178 + 1)) + (rd y201 (rd x73_2 x75_2)))))) (fun _ hk => ⟨hk.1.1, ⟨hk.1.2.1, hk.1.2.2⟩⟩)⟩, ⟨by (try simp only [hl73_2]); (with_reducible repeat (first | apply Kd.R_alloc | apply Kd.R_drewN | apply Kd.R_drew)); exact Kd.R_mono (Kd.R_far (p := ⟨go75, ((rd x73_2 x75_2) : Int).toNat, none⟩) (Kd.R_mono HO_73.out (fun k_ hk => (⟨hk, fun e_ => hk.2.1 (by rw [e_]; rfl)⟩ : _ ∧ k_ ≠ go75))) (fun _ hk => hk.2) (.int .i64 (wrap64 ((wrap64 (t178 + 1)) + (rd y201 (rd x73_2 x75_2)))))) (fun _ hk => ⟨hk.1.1, ⟨hk.1.2.1, hk.1.2.2⟩⟩)⟩, ⟨by (try simp only [hl73_2]); (with_reducible repeat (first | apply Kd.R_alloc | apply Kd.R_drewN | apply Kd.R_drew)); exact Kd.R_mono (Kd.R_far (p := ⟨go75, ((rd x73_2 x75_2) : Int).toNat, none⟩) (Kd.R_types HO_189001.out GG75.out (by decide)) (fun _ hk => hk.2) (.int .i64 (wrap64 ((wrap64 (t178 + 1)) + (rd y201 (rd x73_2 x75_2)))))) (fun _ hk => trivial)⟩, ⟨by (try simp only [hl73_2]); (with_reducible repeat (first | apply Kd.R_alloc | apply Kd.R_drewN | apply Kd.R_drew)); exact HQ81.out⟩, ⟨by (try simp only [hl73_2]); (with_reducible repeat (first | apply Kd.R_alloc | apply Kd.R_drewN | apply Kd.R_drew)); exact Kd.R_mono (Kd.R_far (p := ⟨go75, ((rd x73_2 x75_2) : Int).toNat, none⟩) (Kd.R_mono HO_189003.out (fun k_ hk => (⟨hk, fun e_ => hk.2.2 (by rw [e_]; rfl)⟩ : _ ∧ k_ ≠ go75))) (fun _ hk => hk.2) (.int .i64 (wrap64 ((wrap64 (t178 + 1)) + (rd y201 (rd x73_2 x75_2)))))) (fun _ hk => ⟨hk.1.1, ⟨hk.1.2.1, hk.1.2.2⟩⟩)⟩, ⟨by (try simp only [hl73_2]); (with_reducible repeat (first | refine blk_drewN ?_ _ | refine blk_drew ?_ | refine blk_alloc ?_ _)); refine blk_far ?_ (by have h_ := Kd.R_ne HO_189002.out BK173.out (by decide); intro e_; exact h_ (by rw [e_]; rfl)) _; (with_reducible repeat (first | refine blk_drewN ?_ _ | refine blk_drew ?_ | refine blk_alloc ?_ _)); exact BK173.out⟩, ⟨by (try simp only [hl73_2]); (with_reducible repeat (first | refine blk_drewN ?_ _ | refine blk_drew ?_ | refine blk_alloc ?_ _)); refine blk_far ?_ (by have h_ := Kd.R_ne HO_189002.out BK174.out (by decide); intro e_; exact h_ (by rw [e_]; rfl)) _; (with_reducible repeat (first | refine blk_drewN ?_ _ | refine blk_drew ?_ | refine blk_alloc ?_ _)); exact BK174.out⟩, ⟨by (try simp only [hl73_2]); (with_reducible repeat (first | refine blk_drewN ?_ _ | refine blk_drew ?_ | refine blk_alloc ?_ _)); refine blk_far ?_ (by have h_ := Kd.R_ne HO_189002.out BK175.out (by decide); intro e_; exact h_ (by rw [e_]; rfl)) _; (with_reducible repeat (first | refine blk_drewN ?_ _ | refine blk_drew ?_ | refine blk_alloc ?_ _)); exact BK175.out⟩, ⟨by (try simp only [hl73_2]); (with_reducible repeat (first | refine blk_drewN ?_ _ | refine blk_drew ?_ | refine blk_alloc ?_ _)); refine blk_far ?_ (by have h_ := Kd.R_ne HO_189002.out BK188.out (by decide); intro e_; exact h_ (by rw [e_]; rfl)) _; (with_reducible repeat (first | refine blk_drewN ?_ _ | refine blk_drew ?_ | refine blk_alloc ?_ _)); exact BK188.out⟩, ⟨by repeat (first | (with_reducible first | exact HB.out | apply below_alloc | apply pw_below_drewN | apply below_drew1 | refine below_set ?_ GB75.out | refine below_set ?_ GE173.out | refine below_set ?_ GE174.out | refine below_set ?_ GE175.out | refine below_set ?_ GE188.out) | exact HB.out)⟩⟩
                ·rw [if_neg c74] at H
                 exact absurd H (by simp)
               ·rw [if_neg c70] at H
                exact absurd H (by simp)
              ·rw [if_neg c69] at H
               exact absurd H (by simp)
             ·rw [if_neg c68] at H
              exact absurd H (by simp)
            ·rw [if_neg c67] at H
             exact absurd H (by simp)
           ·rw [if_neg c66] at H
            have c66b0 : decide (x75_2 < (y196.length : Int)) = false := decide_eq_false c66
            (try (have c66b0h := c66b0; simp only [hl73_2] at c66b0h))
            clear c66
            have H' := Aside0.mk H
            clear H
            obtain ⟨Ao82, co82, eo82⟩ := Kd.R_slice HO_18.out
            subst eo82
            go_wp2
            go_loopg [107] k2 (fun kq v107 w' => ∃ (x105_3 : List Int) (x107_3 : Int) (x189002_3 : List Int) (x189003_3 : List Int) (u189002 : Value) (u189003 : Value), v107 = .int .i64 x107_3 ∧ Aside0 (quality_Close.l2 kq x105_3 (x18_2.length : Int) x107_3 t178 t179 x189002_3 x189003_3 = some (r1, r2, r3, r4, r5)) ∧ Aside0 (kq ≤ k2) ∧ Aside0 (Kd.R (Kd.int .i64) 3 w' w.heap.size (fun k_ => some k_ ≠ (u189002 : Value).ownBlock ∧ some k_ ≠ (u189003 : Value).ownBlock) (.slice Ao82 x18_2.length co82) x105_3) ∧ Aside0 (Kd.R k34 34 w' w.heap.size (fun _ => True) (.slice Ao43 t179.length co43) t179) ∧ Aside0 (Kd.R (Kd.int .i64) 3 w' w.heap.size (fun k_ => some k_ ≠ ((.slice Ao82 x18_2.length co82) : Value).ownBlock ∧ some k_ ≠ (u189003 : Value).ownBlock) u189002 x189002_3) ∧ Aside0 (Kd.R (Kd.int .i64) 3 w' w.heap.size (fun k_ => some k_ ≠ ((.slice Ao82 x18_2.length co82) : Value).ownBlock ∧ some k_ ≠ (u189002 : Value).ownBlock) u189003 x189003_3) ∧ Aside0 (w'.heap[gb173]? = some (.cells #[.int .i64 a0_0, (.slice A0_1 l0_1.length c0_1), (.slice A0_2 l0_2.length c0_2), (.slice A0_3 l0_3.length c0_3)] 25 (0, 0))) ∧ Aside0 (w'.heap[gb174]? = some (.cells #[.int .i64 0, (.slice none 0 0), (.slice none 0 0), (.slice none 0 0)] 25 (0, 0))) ∧ Aside0 (w'.heap[gb175]? = some (.cells #[.int .i64 a1, .int .i64 a2, .int .i64 a3, .int .i64 a4] 69 (0, 0))) ∧ Aside0 (w'.heap[gb188]? = some (.cells #[.int .i64 t178, (.slice Ao43 t179.length co43), u189002, u189003] 25 (0, 0))) ∧ Aside0 (Below w.heap.size w w'))
            case atStart => exact ⟨(x18_2), (0), (x189002_2), (x189003_2), (u189002), (u189003), rfs, H', ⟨Nat.le_refl _⟩, ⟨by (try simp only [hl73_2]); (with_reducible repeat (first | apply Kd.R_alloc | apply Kd.R_drewN | apply Kd.R_drew)); exact Kd.R_mono HO_18.out (fun _ hk => ⟨hk.2.1, hk.2.2⟩)⟩, ⟨by (try simp only [hl73_2]); (with_reducible repeat (first | apply Kd.R_alloc | apply Kd.R_drewN | apply Kd.R_drew)); exact HO_189001.out⟩, ⟨by (try simp only [hl73_2]); (with_reducible repeat (first | apply Kd.R_alloc | apply Kd.R_drewN | apply Kd.R_drew)); exact Kd.R_mono HO_189002.out (fun _ hk => ⟨hk.1, hk.2.2⟩)⟩, ⟨by (try simp only [hl73_2]); (with_reducible repeat (first | apply Kd.R_alloc | apply Kd.R_drewN | apply Kd.R_drew)); exact Kd.R_mono HO_189003.out (fun _ hk => ⟨hk.1, hk.2.2⟩)⟩, ⟨by (try simp only [hl73_2]); (with_reducible repeat (first | refine blk_drewN ?_ _ | refine blk_drew ?_ | refine blk_alloc ?_ _)); exact BK173.out⟩, ⟨by (try simp only [hl73_2]); (with_reducible repeat (first | refine blk_drewN ?_ _ | refine blk_drew ?_ | refine blk_alloc ?_ _)); exact BK174.out⟩, ⟨by (try simp only [hl73_2]); (with_reducible repeat (first | refine blk_drewN ?_ _ | refine blk_drew ?_ | refine blk_alloc ?_ _)); exact BK175.out⟩, ⟨by (try simp only [hl73_2]); (with_reducible repeat (first | refine blk_drewN ?_ _ | refine blk_drew ?_ | refine blk_alloc ?_ _)); exact BK188.out⟩, hbA HB⟩
            case round =>
             clear H'
             try clear c7
             try clear c47
             try clear c47b0
             try clear c54
             try clear c54b0
             try clear c54b1
             try clear c55
             try clear c55b0
             try clear c55b1
             try clear q65
             try clear c66
             try clear c66b0
             try clear hcz30_0
             try clear hcz30_1
             try clear hcz30_2
             try clear hcz30_3
             try clear hcz32_0
             try clear hcz32_1
             try clear hcz32_2
             try clear hcz32_3
             try clear hcz34_0
             try clear hcz34_1
             try clear hcz34_2
             try clear hcz34_3
             try clear hcz36_0
             try clear hcz36_1
             try clear hcz36_2
             try clear hcz36_3
             try clear hcz42_0
             try clear hcz42_1
             try clear hcz42_2
             try clear hcz42_3
             try clear hcz46_0
             try clear hcz46_1
             try clear hcz46_2
             try clear hcz46_3
             try clear hcz59_0
             try clear hcz59_1
             try clear hcz59_2
             try clear hcz59_3
             try clear hcz62_0
             try clear hcz62_1
             try clear hcz62_2
             try clear hcz62_3
             try clear hfz30_0
             try clear hfz30_1
             try clear hfz30_2
             try clear hfz30_3
             try clear hfz32_0
             try clear hfz32_1
             try clear hfz32_2
             try clear hfz32_3
             try clear hfz34_0
             try clear hfz34_1
             try clear hfz34_2
             try clear hfz34_3
             try clear hfz36_0
             try clear hfz36_1
             try clear hfz36_2
             try clear hfz36_3
             try clear hfz42_0
             try clear hfz42_1
             try clear hfz42_2
             try clear hfz42_3
             try clear hfz46_0
             try clear hfz46_1
             try clear hfz46_2
             try clear hfz46_3
             try clear hfz59_0
             try clear hfz59_1
             try clear hfz59_2
             try clear hfz59_3
             try clear hfz62_0
             try clear hfz62_1
             try clear hfz62_2
             try clear hfz62_3
             try clear q65
             obtain ⟨x105_3, x107_3, x189002_3, x189003_3, u189002, u189003, rfl, HA, HK3, HO_105, HO_189001, HO_189002, HO_189003, BK173, BK174, BK175, BK188, HB⟩ := hrel
             have hl105_3 := (Kd.R_reads' HO_105.out).1
             rw [hl105_3] at HO_105
             (try simp only [hl105_3])
             (try simp only [hl105_3] at BK173)
             (try simp only [hl105_3] at BK174)
             (try simp only [hl105_3] at BK175)
             (try simp only [hl105_3] at BK188)
             (try simp only [hl105_3] at HO_189001)
             (try simp only [hl105_3] at HO_189002)
             (try simp only [hl105_3] at HO_189003)
             cases gk with
             | zero => exact absurd HA.out (by simp [quality_Close.l2])
             | succ k3 =>
              have H := HA.out
              clear HA
              simp only [quality_Close.l2] at H
              by_cases c83 : x107_3 < (x18_2.length : Int)
              ·rw [if_pos c83] at H
               have c83b0 : decide (x107_3 < (x18_2.length : Int)) = true := decide_eq_true c83
               (try (have c83b0h := c83b0; simp only [hl73_2] at c83b0h))
               (try (have c83b0h := c83b0; simp only [hl105_3] at c83b0h))
               clear c83
               by_cases c84 : 0 ≤ x107_3
               ·rw [if_pos c84] at H
                have c84b0 : decide (0 ≤ x107_3) = true := decide_eq_true c84
                (try (have c84b0h := c84b0; simp only [hl73_2] at c84b0h))
                (try (have c84b0h := c84b0; simp only [hl105_3] at c84b0h))
                clear c84
                by_cases c85 : x107_3 < (x105_3.length : Int)
                ·rw [if_pos c85] at H
                 have c85b0 : decide (x107_3 < (x105_3.length : Int)) = true := decide_eq_true c85
                 (try (have c85b0h := c85b0; simp only [hl73_2] at c85b0h))
                 (try (have c85b0h := c85b0; simp only [hl105_3] at c85b0h))
                 clear c85
                 by_cases c86 : 0 ≤ (rd x105_3 x107_3)
                 ·rw [if_pos c86] at H
                  have c86b0 : decide (0 ≤ (rd x105_3 x107_3)) = true := decide_eq_true c86
                  (try (have c86b0h := c86b0; simp only [hl73_2] at c86b0h))
                  (try (have c86b0h := c86b0; simp only [hl105_3] at c86b0h))
                  clear c86
                  by_cases c87 : (rd x105_3 x107_3) < (x189003_3.length : Int)
                  ·rw [if_pos c87] at H
                   have c87b0 : decide ((rd x105_3 x107_3) < (x189003_3.length : Int)) = true := decide_eq_true c87
                   (try (have c87b0h := c87b0; simp only [hl73_2] at c87b0h))
                   (try (have c87b0h := c87b0; simp only [hl105_3] at c87b0h))
                   clear c87
                   obtain ⟨y205, hy205⟩ : ∃ y_ : List Int, y_ = (x189003_3.set ((rd x105_3 x107_3) : Int).toNat 0) := ⟨_, rfl⟩
                   replace H : (quality_Close.l2 k3 x105_3 (x18_2.length : Int) (wrap64 (x107_3 + 1)) t178 t179 x189002_3 y205) = some (r1, r2, r3, r4, r5) := by first | (rw [hy205]; with_reducible exact H) | (have H2_ := (Option.bind_some _ _).symm.trans H; rw [hy205]; with_reducible exact H2_) | (have H2_ := (Option.bind_some _ _).symm.trans H; with_reducible exact H2_) | with_reducible exact H | (rw [hy205]; exact H) | exact H
                   have Ny205 := Aside0.mk hy205
                   clear hy205
                   have H' := Aside0.mk H
                   clear H
                   have p204 : 0 ≤ (x107_3 : Int) := pos_
                   have q204 : x107_3 < (x105_3.length : Int) := pos_
                   obtain ⟨ad204, e204, hx204_0⟩ := Kd.at_int (Kd.R_reads' HO_105.out).2.2 x107_3 p204 q204
                   cases e204
                   replace p204 := eq_true p204
                   replace q204 := eq_true q204
                   have hnb89 := NB188_173.out
                   have hnc89 := NB173_188.out
                   have hnb90 := NB188_174.out
                   have hnc90 := NB174_188.out
                   have hnb91 := NB188_175.out
                   have hnc91 := NB175_188.out
                   obtain ⟨z0, z1, z2, z3, y0, y1, y2, y3⟩ := bc4 BK188
                   have p88 : 0 ≤ ((rd x105_3 x107_3) : Int) := pos_
                   have q88 : ((rd x105_3 x107_3) : Int) < ((x189003_3.length : Int) : Int) := pos_
                   obtain ⟨go88, co88, eo88, gb88, gl88, cl88, HG88⟩ := Kd.R_form HO_189003.out (by omega)
                   (first | cases eo88 | (injection eo88 with ea_ en_ ec_; (first | subst ea_ | (injection ea_ with ea_; subst ea_)); subst ec_; clear en_))
                   have GB88 := Aside0.mk gb88
                   have GG88 := Aside0.mk HG88
                   clear gb88 gl88 HG88
                   obtain ⟨hx88_0, hf88_0⟩ := Kd.R_celln 0 HO_189003.out ((rd x105_3 x107_3) : Int) p88 q88
                   replace p88 := eq_true p88
                   replace q88 := eq_true q88
                   have HP93 := Kd.R_putg HO_189003.out ((rd x105_3 x107_3) : Int) 0
                   go_wp2_with (first | ((with_reducible refine gate_store (t := 3) (p := 114) rfl ?_); refine store_event (t := 3) (p := 114) (v := ?vo_w94) (w1 := (wr.setCell ⟨go88, ((rd x105_3 x107_3) : Int).toNat, none⟩ (.int .i64 0))) ?hg ?ho ?hn ?hr ?_; (case ho => rfl); (case hg => rfl); (case hn => rfl); (case hr => first | (go_simp; done) | (go_simp; rfl)); intro w94 hw; have hg : wr.grownBy w94 (some go88) := (by rw [hw]; exact HP93.2); have hp_ : Kd.R (Kd.int .i64) 3 w94 w.heap.size (fun k_ => some k_ ≠ (.slice (some ad204) x105_3.length co82 : Value).ownBlock ∧ some k_ ≠ (u189002 : Value).ownBlock) (.slice (some ⟨go88, 0, none⟩) x189003_3.length co88) y205 := (by rw [hw, Ny205.out]; exact HP93.1); clear HP93; replace HO_105 := Aside0.mk (Kd.R_after (v := (.slice (some ⟨go88, 0, none⟩) x189003_3.length co88)) (v1 := (.slice (some ⟨go88, 0, none⟩) x189003_3.length co88)) (ok := (fun k_ => some k_ ≠ (u189002 : Value).ownBlock)) (ro HO_105) hg (.inl rfl)); replace HO_189001 := Aside0.mk (Kd.R_over' (v := (.slice (some ⟨go88, 0, none⟩) x189003_3.length co88)) (ro HO_189001) (Kd.R_typed HO_189003.out) (by decide) hg); replace HO_189002 := Aside0.mk (Kd.R_after (v := (.slice (some ⟨go88, 0, none⟩) x189003_3.length co88)) (v1 := (.slice (some ⟨go88, 0, none⟩) x189003_3.length co88)) (ok := (fun k_ => some k_ ≠ (.slice (some ad204) x105_3.length co82 : Value).ownBlock)) (ro HO_189002) hg (.inl rfl)); replace BK173 := Aside0.mk (blk_grown (bk BK173) hg (Kd.R_ne HO_189003.out BK173.out (by decide))); replace BK174 := Aside0.mk (blk_grown (bk BK174) hg (Kd.R_ne HO_189003.out BK174.out (by decide))); replace BK175 := Aside0.mk (blk_grown (bk BK175) hg (Kd.R_ne HO_189003.out BK175.out (by decide))); replace BK188 := Aside0.mk (blk_grown (bk BK188) hg (Kd.R_ne HO_189003.out BK188.out (by decide))); replace HO_189003 := Aside0.mk (hp_); replace HB := Aside0.mk ((by rw [hw]; exact below_set (HB.out) GB88.out : Below w.heap.size w w94)); clear hg hw hp_))
                   (try simp only [← hl105_3])
                   go_roundg k3
                   case measure => have := HK1.out; have := HK2.out; have := HK3.out; omega
                   case rel => exact ⟨(x105_3), (wrap64 (x107_3 + 1)), (x189002_3), (y205), (u189002), (.slice (some ⟨go88, 0, none⟩) x189003_3.length co88), rfs, H', ⟨by have := HK1.out; have := HK2.out; have := HK3.out; omega⟩, ⟨by (try simp only [hl73_2]); (try simp only [hl105_3]); (with_reducible repeat (first | apply Kd.R_alloc | apply Kd.R_drewN | apply Kd.R_drew)); exact HO_105.out⟩, ⟨by (try simp only [hl73_2]); (try simp only [hl105_3]); (with_reducible repeat (first | apply Kd.R_alloc | apply Kd.R_drewN | apply Kd.R_drew)); exact HO_189001.out⟩, ⟨by (try simp only [hl73_2]); (try simp only [hl105_3]); (with_reducible repeat (first | apply Kd.R_alloc | apply Kd.R_drewN | apply Kd.R_drew)); exact HO_189002.out⟩, ⟨by (try simp only [hl73_2]); (try simp only [hl105_3]); (with_reducible repeat (first | apply Kd.R_alloc | apply Kd.R_drewN | apply Kd.R_drew)); exact HO_189003.out⟩, ⟨by (try simp only [hl73_2]); (try simp only [hl105_3]); (with_reducible repeat (first | refine blk_drewN ?_ _ | refine blk_drew ?_ | refine blk_alloc ?_ _)); exact BK173.out⟩, ⟨by (try simp only [hl73_2]); (try simp only [hl105_3]); (with_reducible repeat (first | refine blk_drewN ?_ _ | refine blk_drew ?_ | refine blk_alloc ?_ _)); exact BK174.out⟩, ⟨by (try simp only [hl73_2]); (try simp only [hl105_3]); (with_reducible repeat (first | refine blk_drewN ?_ _ | refine blk_drew ?_ | refine blk_alloc ?_ _)); exact BK175.out⟩, ⟨by (try simp only [hl73_2]); (try simp only [hl105_3]); (with_reducible repeat (first | refine blk_drewN ?_ _ | refine blk_drew ?_ | refine blk_alloc ?_ _)); exact BK188.out⟩, hbA HB⟩
                  ·rw [if_neg c87] at H
                   exact absurd H (by simp)
                 ·rw [if_neg c86] at H
                  exact absurd H (by simp)
                ·rw [if_neg c85] at H
                 exact absurd H (by simp)
               ·rw [if_neg c84] at H
                exact absurd H (by simp)
              ·rw [if_neg c83] at H
               have c83b0 : decide (x107_3 < (x18_2.length : Int)) = false := decide_eq_false c83
               (try (have c83b0h := c83b0; simp only [hl73_2] at c83b0h))
               (try (have c83b0h := c83b0; simp only [hl105_3] at c83b0h))
               clear c83
               have H' := Aside0.mk H
               clear H
               have hnb95 := NB188_173.out
               have hnc95 := NB173_188.out
               have hnb96 := NB188_174.out
               have hnc96 := NB174_188.out
               have hnb97 := NB188_175.out
               have hnc97 := NB175_188.out
               obtain ⟨z0, z1, z2, z3, y0, y1, y2, y3⟩ := bc4 BK188
               obtain ⟨Ao99, co99, eo99⟩ := Kd.R_slice HO_189002.out
               subst eo99
               go_wp2
               go_loopg [123] k3 (fun kq v123 w' => ∃ (x123_4 : Int) (x189001_4 : List (S34)) (x189002_4 : List Int) (x189003_4 : List Int) (u189001 : Value) (u189003 : Value), v123 = .int .i64 x123_4 ∧ Aside0 (quality_Close.l3 kq (x189002_3.length : Int) x123_4 (wrap64 (t178 + 1)) x189001_4 x189002_4 x189003_4 = some (r1, r2, r3, r4, r5)) ∧ Aside0 (kq ≤ k3) ∧ Aside0 (Kd.R k34 34 w' w.heap.size (fun _ => True) u189001 x189001_4) ∧ Aside0 (Kd.R (Kd.int .i64) 3 w' w.heap.size (fun k_ => some k_ ≠ (u189003 : Value).ownBlock) (.slice Ao99 x189002_3.length co99) x189002_4) ∧ Aside0 (Kd.R (Kd.int .i64) 3 w' w.heap.size (fun k_ => some k_ ≠ ((.slice Ao99 x189002_3.length co99) : Value).ownBlock) u189003 x189003_4) ∧ Aside0 (w'.heap[gb173]? = some (.cells #[.int .i64 a0_0, (.slice A0_1 l0_1.length c0_1), (.slice A0_2 l0_2.length c0_2), (.slice A0_3 l0_3.length c0_3)] 25 (0, 0))) ∧ Aside0 (w'.heap[gb174]? = some (.cells #[.int .i64 0, (.slice none 0 0), (.slice none 0 0), (.slice none 0 0)] 25 (0, 0))) ∧ Aside0 (w'.heap[gb175]? = some (.cells #[.int .i64 a1, .int .i64 a2, .int .i64 a3, .int .i64 a4] 69 (0, 0))) ∧ Aside0 (w'.heap[gb188]? = some (.cells #[.int .i64 (wrap64 (t178 + 1)), u189001, (.slice Ao99 x189002_3.length co99), u189003] 25 (0, 0))) ∧ Aside0 (Below w.heap.size w w'))
               case atStart => exact ⟨(0), (t179), (x189002_3), (x189003_3), (.slice Ao43 t179.length co43), (u189003), rfs, H', ⟨Nat.le_refl _⟩, ⟨by (try simp only [hl73_2]); (try simp only [hl105_3]); (with_reducible repeat (first | apply Kd.R_alloc | apply Kd.R_drewN | apply Kd.R_drew)); exact Kd.R_mono (Kd.R_far (p := ⟨gb188, 0, none⟩) (Kd.R_types HO_189001.out BK188.out (by decide)) (fun _ hk => hk.2) (.int .i64 (wrap64 (t178 + 1)))) (fun _ hk => trivial)⟩, ⟨by (try simp only [hl73_2]); (try simp only [hl105_3]); (with_reducible repeat (first | apply Kd.R_alloc | apply Kd.R_drewN | apply Kd.R_drew)); exact Kd.R_mono (Kd.R_far (p := ⟨gb188, 0, none⟩) (Kd.R_types HO_189002.out BK188.out (by decide)) (fun _ hk => hk.2) (.int .i64 (wrap64 (t178 + 1)))) (fun _ hk => hk.1.2)⟩, ⟨by (try simp only [hl73_2]); (try simp only [hl105_3]); (with_reducible repeat (first | apply Kd.R_alloc | apply Kd.R_drewN | apply Kd.R_drew)); exact Kd.R_mono (Kd.R_far (p := ⟨gb188, 0, none⟩) (Kd.R_types HO_189003.out BK188.out (by decide)) (fun _ hk => hk.2) (.int .i64 (wrap64 (t178 + 1)))) (fun _ hk => hk.1.2)⟩, ⟨by (try simp only [hl73_2]); (try simp only [hl105_3]); (with_reducible repeat (first | refine blk_drewN ?_ _ | refine blk_drew ?_ | refine blk_alloc ?_ _)); refine blk_far ?_ NB173_188.out _; (with_reducible repeat (first | refine blk_drewN ?_ _ | refine blk_drew ?_ | refine blk_alloc ?_ _)); exact BK173.out⟩, ⟨by (try simp only [hl73_2]); (try simp only [hl105_3]); (with_reducible repeat (first | refine blk_drewN ?_ _ | refine blk_drew ?_ | refine blk_alloc ?_ _)); refine blk_far ?_ NB174_188.out _; (with_reducible repeat (first | refine blk_drewN ?_ _ | refine blk_drew ?_ | refine blk_alloc ?_ _)); exact BK174.out⟩, ⟨by (try simp only [hl73_2]); (try simp only [hl105_3]); (with_reducible repeat (first | refine blk_drewN ?_ _ | refine blk_drew ?_ | refine blk_alloc ?_ _)); refine blk_far ?_ NB175_188.out _; (with_reducible repeat (first | refine blk_drewN ?_ _ | refine blk_drew ?_ | refine blk_alloc ?_ _)); exact BK175.out⟩, ⟨by (try simp only [hl73_2]); (try simp only [hl105_3]); (with_reducible repeat (first | refine blk_drewN ?_ _ | refine blk_drew ?_ | refine blk_alloc ?_ _)); refine blk_put (cs := #[.int .i64 t178, .slice Ao43 t179.length co43, .slice Ao99 x189002_3.length co99, u189003]) ?_ 0 _ rfl; (with_reducible repeat (first | refine blk_drewN ?_ _ | refine blk_drew ?_ | refine blk_alloc ?_ _)); exact BK188.out⟩, hbA HB⟩
               case round =>
                clear H'
                try clear c7
                try clear c9
                try clear c47
                try clear c47b0
                try clear c54
                try clear c54b0
                try clear c54b1
                try clear c55
                try clear c55b0
                try clear c55b1
                try clear q65
                try clear c66
                try clear c66b0
                try clear c83
                try clear c83b0
                try clear hcz30_0
                try clear hcz30_1
                try clear hcz30_2
                try clear hcz30_3
                try clear hcz32_0
                try clear hcz32_1
                try clear hcz32_2
                try clear hcz32_3
                try clear hcz34_0
                try clear hcz34_1
                try clear hcz34_2
                try clear hcz34_3
                try clear hcz36_0
                try clear hcz36_1
                try clear hcz36_2
                try clear hcz36_3
                try clear hcz42_0
                try clear hcz42_1
                try clear hcz42_2
                try clear hcz42_3
                try clear hcz46_0
                try clear hcz46_1
                try clear hcz46_2
                try clear hcz46_3
                try clear hcz59_0
                try clear hcz59_1
                try clear hcz59_2
                try clear hcz59_3
                try clear hcz62_0
                try clear hcz62_1
                try clear hcz62_2
                try clear hcz62_3
                try clear hcz98_0
                try clear hcz98_1
                try clear hcz98_2
                try clear hcz98_3
                try clear hfz30_0
                try clear hfz30_1
                try clear hfz30_2
                try clear hfz30_3
                try clear hfz32_0
                try clear hfz32_1
                try clear hfz32_2
                try clear hfz32_3
                try clear hfz34_0
                try clear hfz34_1
                try clear hfz34_2
                try clear hfz34_3
                try clear hfz36_0
                try clear hfz36_1
                try clear hfz36_2
                try clear hfz36_3
                try clear hfz42_0
                try clear hfz42_1
                try clear hfz42_2
                try clear hfz42_3
                try clear hfz46_0
                try clear hfz46_1
                try clear hfz46_2
                try clear hfz46_3
                try clear hfz59_0
                try clear hfz59_1
                try clear hfz59_2
                try clear hfz59_3
                try clear hfz62_0
                try clear hfz62_1
                try clear hfz62_2
                try clear hfz62_3
                try clear hfz98_0
                try clear hfz98_1
                try clear hfz98_2
                try clear hfz98_3
                try clear q65
                obtain ⟨x123_4, x189001_4, x189002_4, x189003_4, u189001, u189003, rfl, HA, HK4, HO_189001, HO_189002, HO_189003, BK173, BK174, BK175, BK188, HB⟩ := hrel
                have hl189002_4 := (Kd.R_reads' HO_189002.out).1
                rw [hl189002_4] at HO_189002
                (try simp only [hl189002_4])
                (try simp only [hl189002_4] at BK173)
                (try simp only [hl189002_4] at BK174)
                (try simp only [hl189002_4] at BK175)
                (try simp only [hl189002_4] at BK188)
                (try simp only [hl189002_4] at HO_189001)
                (try simp only [hl189002_4] at HO_189003)
                cases gk with
                | zero => exact absurd HA.out (by simp [quality_Close.l3])
                | succ k4 =>
                 have H := HA.out
                 clear HA
                 simp only [quality_Close.l3] at H
                 by_cases c100 : x123_4 < (x189002_3.length : Int)
                 ·rw [if_pos c100] at H
                  have c100b0 : decide (x123_4 < (x189002_3.length : Int)) = true := decide_eq_true c100
                  (try (have c100b0h := c100b0; simp only [hl73_2] at c100b0h))
                  (try (have c100b0h := c100b0; simp only [hl105_3] at c100b0h))
                  (try (have c100b0h := c100b0; simp only [hl189002_4] at c100b0h))
                  clear c100
                  by_cases c101 : 0 ≤ x123_4
                  ·rw [if_pos c101] at H
                   have c101b0 : decide (0 ≤ x123_4) = true := decide_eq_true c101
                   (try (have c101b0h := c101b0; simp only [hl73_2] at c101b0h))
                   (try (have c101b0h := c101b0; simp only [hl105_3] at c101b0h))
                   (try (have c101b0h := c101b0; simp only [hl189002_4] at c101b0h))
                   clear c101
                   by_cases c102 : x123_4 < (x189002_4.length : Int)
                   ·rw [if_pos c102] at H
                    have c102b0 : decide (x123_4 < (x189002_4.length : Int)) = true := decide_eq_true c102
                    (try (have c102b0h := c102b0; simp only [hl73_2] at c102b0h))
                    (try (have c102b0h := c102b0; simp only [hl105_3] at c102b0h))
                    (try (have c102b0h := c102b0; simp only [hl189002_4] at c102b0h))
                    clear c102
                    by_cases c103 : (rd x189002_4 x123_4) ≤ (wrap64 (t178 + 1))
                    ·rw [if_pos c103] at H
                     have c103b0 : decide ((rd x189002_4 x123_4) ≤ (wrap64 (t178 + 1))) = true := decide_eq_true c103
                     (try (have c103b0h := c103b0; simp only [hl73_2] at c103b0h))
                     (try (have c103b0h := c103b0; simp only [hl105_3] at c103b0h))
                     (try (have c103b0h := c103b0; simp only [hl189002_4] at c103b0h))
                     clear c103
                     obtain ⟨y207, hy207⟩ : ∃ y_ : List Int, y_ = (x189002_4.set (x123_4 : Int).toNat 0) := ⟨_, rfl⟩
                     replace H : (if x123_4 < (x189001_4.length : Int) then (quality_Close.l3 k4 (x189002_3.length : Int) (wrap64 (x123_4 + 1)) (wrap64 (t178 + 1)) (x189001_4.set (x123_4 : Int).toNat (⟨0, 0⟩ : S34)) y207 x189003_4) else (none)) = some (r1, r2, r3, r4, r5) := by first | (rw [hy207]; with_reducible exact H) | (have H2_ := (Option.bind_some _ _).symm.trans H; rw [hy207]; with_reducible exact H2_) | (have H2_ := (Option.bind_some _ _).symm.trans H; with_reducible exact H2_) | with_reducible exact H | (rw [hy207]; exact H) | exact H
                     have Ny207 := Aside0.mk hy207
                     clear hy207
                     by_cases c105 : x123_4 < (x189001_4.length : Int)
                     ·rw [if_pos c105] at H
                      have c105b0 : decide (x123_4 < (x189001_4.length : Int)) = true := decide_eq_true c105
                      (try (have c105b0h := c105b0; simp only [hl73_2] at c105b0h))
                      (try (have c105b0h := c105b0; simp only [hl105_3] at c105b0h))
                      (try (have c105b0h := c105b0; simp only [hl189002_4] at c105b0h))
                      clear c105
                      obtain ⟨y208, hy208⟩ : ∃ y_ : List (S34), y_ = (x189001_4.set (x123_4 : Int).toNat (⟨0, 0⟩ : S34)) := ⟨_, rfl⟩
                      replace H : (quality_Close.l3 k4 (x189002_3.length : Int) (wrap64 (x123_4 + 1)) (wrap64 (t178 + 1)) y208 y207 x189003_4) = some (r1, r2, r3, r4, r5) := by first | (rw [hy208]; with_reducible exact H) | (have H2_ := (Option.bind_some _ _).symm.trans H; rw [hy208]; with_reducible exact H2_) | (have H2_ := (Option.bind_some _ _).symm.trans H; with_reducible exact H2_) | with_reducible exact H | (rw [hy208]; exact H) | exact H
                      have Ny208 := Aside0.mk hy208
                      clear hy208
                      have H' := Aside0.mk H
                      clear H
                      have p206 : 0 ≤ (x123_4 : Int) := pos_
                      have q206 : x123_4 < (x189002_4.length : Int) := pos_
                      obtain ⟨ad206, e206, hx206_0⟩ := Kd.at_int (Kd.R_reads' HO_189002.out).2.2 x123_4 p206 q206
                      cases e206
                      replace p206 := eq_true p206
                      replace q206 := eq_true q206
                      have hnb107 := NB188_173.out
                      have hnc107 := NB173_188.out
                      have hnb108 := NB188_174.out
                      have hnc108 := NB174_188.out
                      have hnb109 := NB188_175.out
                      have hnc109 := NB175_188.out
                      obtain ⟨z0, z1, z2, z3, y0, y1, y2, y3⟩ := bc4 BK188
                      have p104 : 0 ≤ (x123_4 : Int) := pos_
                      have q104 : (x123_4 : Int) < ((x189002_4.length : Int) : Int) := pos_
                      obtain ⟨go104, co104, eo104, gb104, gl104, cl104, HG104⟩ := Kd.R_form HO_189002.out (by omega)
                      (first | cases eo104 | (injection eo104 with ea_ en_ ec_; (first | subst ea_ | (injection ea_ with ea_; subst ea_)); subst ec_; clear en_))
                      have GB104 := Aside0.mk gb104
                      have GG104 := Aside0.mk HG104
                      clear gb104 gl104 HG104
                      (first | simp only [add_plain] at hx206_0 | skip)
                      obtain ⟨hx104_0, hf104_0⟩ := Kd.R_celln 0 HO_189002.out (x123_4 : Int) p104 q104
                      replace p104 := eq_true p104
                      replace q104 := eq_true q104
                      have HP111 := Kd.R_putg HO_189002.out (x123_4 : Int) 0
                      go_wp2_with (first | ((with_reducible refine gate_store (t := 3) (p := 135) rfl ?_); refine store_event (t := 3) (p := 135) (v := ?vo_w112) (w1 := (wr.setCell ⟨go104, (x123_4 : Int).toNat, none⟩ (.int .i64 0))) ?hg ?ho ?hn ?hr ?_; (case ho => rfl); (case hg => rfl); (case hn => rfl); (case hr => first | (go_simp; done) | (go_simp; rfl)); intro w112 hw; have hg : wr.grownBy w112 (some go104) := (by rw [hw]; exact HP111.2); have hp_ : Kd.R (Kd.int .i64) 3 w112 w.heap.size (fun k_ => some k_ ≠ (u189003 : Value).ownBlock) (.slice (some ⟨go104, 0, none⟩) x189002_4.length co99) y207 := (by rw [hw, Ny207.out]; exact HP111.1); clear HP111; replace HO_189001 := Aside0.mk (Kd.R_over' (v := (.slice (some ⟨go104, 0, none⟩) x189002_4.length co99)) (ro HO_189001) (Kd.R_typed HO_189002.out) (by decide) hg); replace HO_189003 := Aside0.mk (Kd.R_after (v := (.slice (some ⟨go104, 0, none⟩) x189002_4.length co99)) (v1 := (.slice (some ⟨go104, 0, none⟩) x189002_4.length co99)) (ok := (fun _ => True)) (by (with_reducible repeat (first | apply Kd.R_alloc | apply Kd.R_drewN | apply Kd.R_drew)); exact Kd.R_mono HO_189003.out (fun _ hk => ⟨trivial, hk⟩)) hg (.inl rfl)); replace BK173 := Aside0.mk (blk_grown (bk BK173) hg (Kd.R_ne HO_189002.out BK173.out (by decide))); replace BK174 := Aside0.mk (blk_grown (bk BK174) hg (Kd.R_ne HO_189002.out BK174.out (by decide))); replace BK175 := Aside0.mk (blk_grown (bk BK175) hg (Kd.R_ne HO_189002.out BK175.out (by decide))); replace BK188 := Aside0.mk (blk_grown (bk BK188) hg (Kd.R_ne HO_189002.out BK188.out (by decide))); replace HO_189002 := Aside0.mk (hp_); replace HB := Aside0.mk ((by rw [hw]; exact below_set (HB.out) GB104.out : Below w.heap.size w w112)); clear hg hw hp_; obtain ⟨z0, z1, z2, z3, y0, y1, y2, y3⟩ := bc4 BK188; have p106 : 0 ≤ (x123_4 : Int) := pos_; have q106 : (x123_4 : Int) < ((x189001_4.length : Int) : Int) := pos_; obtain ⟨go106, co106, eo106, gb106, gl106, cl106, HG106⟩ := Kd.R_form HO_189001.out (by omega); (first | cases eo106 | (injection eo106 with ea_ en_ ec_; (first | subst ea_ | (injection ea_ with ea_; subst ea_)); subst ec_; clear en_)); have GB106 := Aside0.mk gb106; have GG106 := Aside0.mk HG106; clear gb106 gl106 HG106; obtain ⟨ce106, hcl106, hM106, hcc106, hfr106⟩ := Kd.R_elem HO_189001.out z34 (x123_4 : Int) p106 q106; obtain rfl := k34_openM hM106; have hx106_0 : w112.cell? ⟨go106, (x123_4 : Int).toNat * 2, none⟩ = some (.int .i64 ((rd_T34 x189001_4 x123_4).f0)) := hcc106 0 _ rfl; have hx106_1 : w112.cell? ⟨go106, (x123_4 : Int).toNat * 2 + 1, none⟩ = some (.int .i64 ((rd_T34 x189001_4 x123_4).f1)) := hcc106 1 _ rfl; have hf106_0 : w112.frozen? ⟨go106, (x123_4 : Int).toNat * 2, none⟩ = false := hfr106 0; have hf106_1 : w112.frozen? ⟨go106, (x123_4 : Int).toNat * 2 + 1, none⟩ = false := hfr106 1; clear hcl106 hcc106 hfr106 hM106; replace p106 := eq_true p106; replace q106 := eq_true q106; have HX114 := Aside0.mk (show Kd.R k34 34 w112 w.heap.size (fun _ => True) (.slice (some ⟨go106, 0, none⟩) x189001_4.length co106) x189001_4 from (ro HO_189001)); obtain ⟨ce114, hcl114, hM114, hcc114, hfr114⟩ := Kd.R_elem HX114.out z34 (x123_4 : Int) (pos_) (by have h_ : (x123_4 : Int) < ((x189001_4.length : Int) : Int) := pos_; first | exact h_ | (have e_ := (Kd.R_reads' HO_189001.out).1; omega) | simpa using h_); obtain rfl := k34_openM hM114; have HP114 := Kd.R_seg HX114.out (x123_4 : Int) (pos_) (by have h_ : (x123_4 : Int) < ((x189001_4.length : Int) : Int) := pos_; first | exact h_ | (have e_ := (Kd.R_reads' HO_189001.out).1; omega) | simpa using h_) (seg := [.int .i64 0, .int .i64 0]) (j := 0) hcl114 hcc114 (show 2 ≤ 2 from by decide) (x' := (⟨0, 0⟩ : S34)) (k34_mkM _ _ _ (⟨0, 0⟩ : S34) ) (fun _ hk => hk); have hx114_0 := hcc114 0 _ rfl; (try simp only [show (k34).sz = 2 from rfl, Nat.mul_one, Nat.add_zero] at hx114_0); have hf114_0 := hfr114 0; (try simp only [show (k34).sz = 2 from rfl, Nat.mul_one, Nat.add_zero] at hf114_0); have hx114_1 := hcc114 1 _ rfl; (try simp only [show (k34).sz = 2 from rfl, Nat.mul_one, Nat.add_zero] at hx114_1); have hf114_1 := hfr114 1; (try simp only [show (k34).sz = 2 from rfl, Nat.mul_one, Nat.add_zero] at hf114_1); clear hcl114 hcc114 hfr114 hM114) | ((with_reducible refine gate_store (t := 34) (p := 140) rfl ?_); refine store_event (t := 34) (p := 140) (v := ?vo_w115) (w1 := ((w112.setCell ⟨go106, (x123_4 : Int).toNat * 2, none⟩ (.int .i64 0)).setCell ⟨go106, (x123_4 : Int).toNat * 2 + 1, none⟩ (.int .i64 0))) ?hg ?ho ?hn ?hr ?_; (case ho => rfl); (case hg => rfl); (case hn => rfl); (case hr => first | (go_simp; done) | (go_simp; rfl)); intro w115 hw; have hg : w112.grownBy w115 (some go106) := (by rw [hw]; exact HP114.2); have hp_ : Kd.R k34 34 w115 w.heap.size (fun _ => True) (.slice (some ⟨go106, 0, none⟩) x189001_4.length co106) y208 := (by rw [hw, Ny208.out]; exact HP114.1); clear HP114; replace HO_189002 := Aside0.mk (Kd.R_over' (v := (.slice (some ⟨go106, 0, none⟩) x189001_4.length co106)) (ro HO_189002) (Kd.R_typed HO_189001.out) (by decide) hg); replace HO_189003 := Aside0.mk (Kd.R_over' (v := (.slice (some ⟨go106, 0, none⟩) x189001_4.length co106)) (ro HO_189003) (Kd.R_typed HO_189001.out) (by decide) hg); replace BK173 := Aside0.mk (blk_grown (bk BK173) hg (Kd.R_ne HO_189001.out BK173.out (by decide))); replace BK174 := Aside0.mk (blk_grown (bk BK174) hg (Kd.R_ne HO_189001.out BK174.out (by decide))); replace BK175 := Aside0.mk (blk_grown (bk BK175) hg (Kd.R_ne HO_189001.out BK175.out (by decide))); replace BK188 := Aside0.mk (blk_grown (bk BK188) hg (Kd.R_ne HO_189001.out BK188.out (by decide))); replace HO_189001 := Aside0.mk (hp_); replace HB := Aside0.mk ((by rw [hw]; exact below_set (below_set (HB.out) GB106.out) GB106.out : Below w.heap.size w w115)); clear hg hw hp_))
                      (try simp only [← hl189002_4])
                      go_roundg k4
                      case measure => have := HK1.out; have := HK2.out; have := HK3.out; have := HK4.out; omega
                      case rel => exact ⟨(wrap64 (x123_4 + 1)), (y208), (y207), (x189003_4), (.slice (some ⟨go106, 0, none⟩) x189001_4.length co106), (u189003), rfs, H', ⟨by have := HK1.out; have := HK2.out; have := HK3.out; have := HK4.out; omega⟩, ⟨by (try simp only [hl73_2]); (try simp only [hl105_3]); (try simp only [hl189002_4]); (with_reducible repeat (first | apply Kd.R_alloc | apply Kd.R_drewN | apply Kd.R_drew)); exact HO_189001.out⟩, ⟨by (try simp only [hl73_2]); (try simp only [hl105_3]); (try simp only [hl189002_4]); (with_reducible repeat (first | apply Kd.R_alloc | apply Kd.R_drewN | apply Kd.R_drew)); exact HO_189002.out⟩, ⟨by (try simp only [hl73_2]); (try simp only [hl105_3]); (try simp only [hl189002_4]); (with_reducible repeat (first | apply Kd.R_alloc | apply Kd.R_drewN | apply Kd.R_drew)); exact Kd.R_mono HO_189003.out (fun _ hk => hk.2)⟩, ⟨by (try simp only [hl73_2]); (try simp only [hl105_3]); (try simp only [hl189002_4]); (with_reducible repeat (first | refine blk_drewN ?_ _ | refine blk_drew ?_ | refine blk_alloc ?_ _)); exact BK173.out⟩, ⟨by (try simp only [hl73_2]); (try simp only [hl105_3]); (try simp only [hl189002_4]); (with_reducible repeat (first | refine blk_drewN ?_ _ | refine blk_drew ?_ | refine blk_alloc ?_ _)); exact BK174.out⟩, ⟨by (try simp only [hl73_2]); (try simp only [hl105_3]); (try simp only [hl189002_4]); (with_reducible repeat (first | refine blk_drewN ?_ _ | refine blk_drew ?_ | refine blk_alloc ?_ _)); exact BK175.out⟩, ⟨by (try simp only [hl73_2]); (try simp only [hl105_3]); (try simp only [hl189002_4]); (with_reducible repeat (first | refine blk_drewN ?_ _ | refine blk_drew ?_ | refine blk_alloc ?_ _)); exact BK188.out⟩, hbA HB⟩
                     ·rw [if_neg c105] at H
                      exact absurd H (by simp)
                    ·rw [if_neg c103] at H
                     have c103b0 : decide ((rd x189002_4 x123_4) ≤ (wrap64 (t178 + 1))) = false := decide_eq_false c103
                     (try (have c103b0h := c103b0; simp only [hl73_2] at c103b0h))
                     (try (have c103b0h := c103b0; simp only [hl105_3] at c103b0h))
                     (try (have c103b0h := c103b0; simp only [hl189002_4] at c103b0h))
                     clear c103
                     by_cases c116 : x123_4 < (x189001_4.length : Int)
                     ·rw [if_pos c116] at H
                      have c116b0 : decide (x123_4 < (x189001_4.length : Int)) = true := decide_eq_true c116
                      (try (have c116b0h := c116b0; simp only [hl73_2] at c116b0h))
                      (try (have c116b0h := c116b0; simp only [hl105_3] at c116b0h))
                      (try (have c116b0h := c116b0; simp only [hl189002_4] at c116b0h))
                      clear c116
                      obtain ⟨y209, hy209⟩ : ∃ y_ : List (S34), y_ = (x189001_4.set (x123_4 : Int).toNat (⟨0, 0⟩ : S34)) := ⟨_, rfl⟩
                      replace H : (quality_Close.l3 k4 (x189002_3.length : Int) (wrap64 (x123_4 + 1)) (wrap64 (t178 + 1)) y209 x189002_4 x189003_4) = some (r1, r2, r3, r4, r5) := by first | (rw [hy209]; with_reducible exact H) | (have H2_ := (Option.bind_some _ _).symm.trans H; rw [hy209]; with_reducible exact H2_) | (have H2_ := (Option.bind_some _ _).symm.trans H; with_reducible exact H2_) | with_reducible exact H | (rw [hy209]; exact H) | exact H
                      have Ny209 := Aside0.mk hy209
                      clear hy209
                      have H' := Aside0.mk H
                      clear H
                      have p206 : 0 ≤ (x123_4 : Int) := pos_
                      have q206 : x123_4 < (x189002_4.length : Int) := pos_
                      obtain ⟨ad206, e206, hx206_0⟩ := Kd.at_int (Kd.R_reads' HO_189002.out).2.2 x123_4 p206 q206
                      cases e206
                      replace p206 := eq_true p206
                      replace q206 := eq_true q206
                      have hnb118 := NB188_173.out
                      have hnc118 := NB173_188.out
                      have hnb119 := NB188_174.out
                      have hnc119 := NB174_188.out
                      have hnb120 := NB188_175.out
                      have hnc120 := NB175_188.out
                      obtain ⟨z0, z1, z2, z3, y0, y1, y2, y3⟩ := bc4 BK188
                      have p117 : 0 ≤ (x123_4 : Int) := pos_
                      have q117 : (x123_4 : Int) < ((x189001_4.length : Int) : Int) := pos_
                      obtain ⟨go117, co117, eo117, gb117, gl117, cl117, HG117⟩ := Kd.R_form HO_189001.out (by omega)
                      (first | cases eo117 | (injection eo117 with ea_ en_ ec_; (first | subst ea_ | (injection ea_ with ea_; subst ea_)); subst ec_; clear en_))
                      have GB117 := Aside0.mk gb117
                      have GG117 := Aside0.mk HG117
                      clear gb117 gl117 HG117
                      obtain ⟨ce117, hcl117, hM117, hcc117, hfr117⟩ := Kd.R_elem HO_189001.out z34 (x123_4 : Int) p117 q117
                      obtain rfl := k34_openM hM117
                      have hx117_0 : wr.cell? ⟨go117, (x123_4 : Int).toNat * 2, none⟩ = some (.int .i64 ((rd_T34 x189001_4 x123_4).f0)) := hcc117 0 _ rfl
                      have hx117_1 : wr.cell? ⟨go117, (x123_4 : Int).toNat * 2 + 1, none⟩ = some (.int .i64 ((rd_T34 x189001_4 x123_4).f1)) := hcc117 1 _ rfl
                      have hf117_0 : wr.frozen? ⟨go117, (x123_4 : Int).toNat * 2, none⟩ = false := hfr117 0
                      have hf117_1 : wr.frozen? ⟨go117, (x123_4 : Int).toNat * 2 + 1, none⟩ = false := hfr117 1
                      clear hcl117 hcc117 hfr117 hM117
                      replace p117 := eq_true p117
                      replace q117 := eq_true q117
                      have HX122 := Aside0.mk (show Kd.R k34 34 wr w.heap.size (fun _ => True) (.slice (some ⟨go117, 0, none⟩) x189001_4.length co117) x189001_4 from (ro HO_189001))
                      obtain ⟨ce122, hcl122, hM122, hcc122, hfr122⟩ := Kd.R_elem HX122.out z34 (x123_4 : Int) (pos_) (by have h_ : (x123_4 : Int) < ((x189001_4.length : Int) : Int) := pos_; first | exact h_ | (have e_ := (Kd.R_reads' HO_189001.out).1; omega) | simpa using h_)
                      obtain rfl := k34_openM hM122
                      have HP122 := Kd.R_seg HX122.out (x123_4 : Int) (pos_) (by have h_ : (x123_4 : Int) < ((x189001_4.length : Int) : Int) := pos_; first | exact h_ | (have e_ := (Kd.R_reads' HO_189001.out).1; omega) | simpa using h_) (seg := [.int .i64 0, .int .i64 0]) (j := 0) hcl122 hcc122 (show 2 ≤ 2 from by decide) (x' := (⟨0, 0⟩ : S34)) (k34_mkM _ _ _ (⟨0, 0⟩ : S34) ) (fun _ hk => hk)
                      have hx122_0 := hcc122 0 _ rfl
                      (try simp only [show (k34).sz = 2 from rfl, Nat.mul_one, Nat.add_zero] at hx122_0)
                      have hf122_0 := hfr122 0
                      (try simp only [show (k34).sz = 2 from rfl, Nat.mul_one, Nat.add_zero] at hf122_0)
                      have hx122_1 := hcc122 1 _ rfl
                      (try simp only [show (k34).sz = 2 from rfl, Nat.mul_one, Nat.add_zero] at hx122_1)
                      have hf122_1 := hfr122 1
                      (try simp only [show (k34).sz = 2 from rfl, Nat.mul_one, Nat.add_zero] at hf122_1)
                      clear hcl122 hcc122 hfr122 hM122
                      go_wp2_with (first | ((with_reducible refine gate_store (t := 34) (p := 140) rfl ?_); refine store_event (t := 34) (p := 140) (v := ?vo_w123) (w1 := ((wr.setCell ⟨go117, (x123_4 : Int).toNat * 2, none⟩ (.int .i64 0)).setCell ⟨go117, (x123_4 : Int).toNat * 2 + 1, none⟩ (.int .i64 0))) ?hg ?ho ?hn ?hr ?_; (case ho => rfl); (case hg => rfl); (case hn => rfl); (case hr => first | (go_simp; done) | (go_simp; rfl)); intro w123 hw; have hg : wr.grownBy w123 (some go117) := (by rw [hw]; exact HP122.2); have hp_ : Kd.R k34 34 w123 w.heap.size (fun _ => True) (.slice (some ⟨go117, 0, none⟩) x189001_4.length co117) y209 := (by rw [hw, Ny209.out]; exact HP122.1); clear HP122; replace HO_189002 := Aside0.mk (Kd.R_over' (v := (.slice (some ⟨go117, 0, none⟩) x189001_4.length co117)) (ro HO_189002) (Kd.R_typed HO_189001.out) (by decide) hg); replace HO_189003 := Aside0.mk (Kd.R_over' (v := (.slice (some ⟨go117, 0, none⟩) x189001_4.length co117)) (ro HO_189003) (Kd.R_typed HO_189001.out) (by decide) hg); replace BK173 := Aside0.mk (blk_grown (bk BK173) hg (Kd.R_ne HO_189001.out BK173.out (by decide))); replace BK174 := Aside0.mk (blk_grown (bk BK174) hg (Kd.R_ne HO_189001.out BK174.out (by decide))); replace BK175 := Aside0.mk (blk_grown (bk BK175) hg (Kd.R_ne HO_189001.out BK175.out (by decide))); replace BK188 := Aside0.mk (blk_grown (bk BK188) hg (Kd.R_ne HO_189001.out BK188.out (by decide))); replace HO_189001 := Aside0.mk (hp_); replace HB := Aside0.mk ((by rw [hw]; exact below_set (below_set (HB.out) GB117.out) GB117.out : Below w.heap.size w w123)); clear hg hw hp_))
                      (try simp only [← hl189002_4])
                      go_roundg k4
                      case measure => have := HK1.out; have := HK2.out; have := HK3.out; have := HK4.out; omega
                      case rel => exact ⟨(wrap64 (x123_4 + 1)), (y209), (x189002_4), (x189003_4), (.slice (some ⟨go117, 0, none⟩) x189001_4.length co117), (u189003), rfs, H', ⟨by have := HK1.out; have := HK2.out; have := HK3.out; have := HK4.out; omega⟩, ⟨by (try simp only [hl73_2]); (try simp only [hl105_3]); (try simp only [hl189002_4]); (with_reducible repeat (first | apply Kd.R_alloc | apply Kd.R_drewN | apply Kd.R_drew)); exact HO_189001.out⟩, ⟨by (try simp only [hl73_2]); (try simp only [hl105_3]); (try simp only [hl189002_4]); (with_reducible repeat (first | apply Kd.R_alloc | apply Kd.R_drewN | apply Kd.R_drew)); exact HO_189002.out⟩, ⟨by (try simp only [hl73_2]); (try simp only [hl105_3]); (try simp only [hl189002_4]); (with_reducible repeat (first | apply Kd.R_alloc | apply Kd.R_drewN | apply Kd.R_drew)); exact HO_189003.out⟩, ⟨by (try simp only [hl73_2]); (try simp only [hl105_3]); (try simp only [hl189002_4]); (with_reducible repeat (first | refine blk_drewN ?_ _ | refine blk_drew ?_ | refine blk_alloc ?_ _)); exact BK173.out⟩, ⟨by (try simp only [hl73_2]); (try simp only [hl105_3]); (try simp only [hl189002_4]); (with_reducible repeat (first | refine blk_drewN ?_ _ | refine blk_drew ?_ | refine blk_alloc ?_ _)); exact BK174.out⟩, ⟨by (try simp only [hl73_2]); (try simp only [hl105_3]); (try simp only [hl189002_4]); (with_reducible repeat (first | refine blk_drewN ?_ _ | refine blk_drew ?_ | refine blk_alloc ?_ _)); exact BK175.out⟩, ⟨by (try simp only [hl73_2]); (try simp only [hl105_3]); (try simp only [hl189002_4]); (with_reducible repeat (first | refine blk_drewN ?_ _ | refine blk_drew ?_ | refine blk_alloc ?_ _)); exact BK188.out⟩, hbA HB⟩
                     ·rw [if_neg c116] at H
                      exact absurd H (by simp)
                   ·rw [if_neg c102] at H
                    exact absurd H (by simp)
                  ·rw [if_neg c101] at H
                   exact absurd H (by simp)
                 ·rw [if_neg c100] at H
                  have c100b0 : decide (x123_4 < (x189002_3.length : Int)) = false := decide_eq_false c100
                  (try (have c100b0h := c100b0; simp only [hl73_2] at c100b0h))
                  (try (have c100b0h := c100b0; simp only [hl105_3] at c100b0h))
                  (try (have c100b0h := c100b0; simp only [hl189002_4] at c100b0h))
                  clear c100
                  simp only [Option.some.injEq, Prod.mk.injEq] at H
                  obtain ⟨rfl, rfl, rfl, rfl, rfl⟩ := H
                  have hnb124 := NB188_173.out
                  have hnc124 := NB173_188.out
                  have hnb125 := NB188_174.out
                  have hnc125 := NB174_188.out
                  have hnb126 := NB188_175.out
                  have hnc126 := NB175_188.out
                  obtain ⟨z0, z1, z2, z3, y0, y1, y2, y3⟩ := bc4 BK188
                  have hnb128 := NB174_173.out
                  have hnc128 := NB173_174.out
                  have hnb129 := NB174_175.out
                  have hnc129 := NB175_174.out
                  obtain ⟨z0, z1, z2, z3, y0, y1, y2, y3⟩ := bc4 BK174
                  obtain ⟨Ao131, co131, eo131⟩ := Kd.R_slice HO_189001.out
                  subst eo131
                  obtain ⟨Ao132, co132, eo132⟩ := Kd.R_slice HO_189003.out
                  subst eo132
                  go_wp2
                  refine bodyPost_ret (results_ct rfl _ _ gb174 25 #[.int .i64 (wrap64 (t178 + 1)), .slice Ao131 x189001_4.length co131, .slice Ao99 x189002_4.length co99, .slice Ao132 x189003_4.length co132] (0, 0) _ rfl (bkp BK174) Try.underlying25 rfl (by kernel_rfl)) rfl ?_
                  exact ⟨_, _, _, by first | rfl | (simp [errW_none, errW_some] <;> rfl) | (simp only [← hji52, ← hji53]; first | rfl | (simp [errW_none, errW_some] <;> rfl)) | (simp [*, errW_none, errW_some] <;> rfl), Kd.R_mono (rty (rfo HO_189001) BK174) (fun _ hk => trivial), rfo HO_189002, rfo HO_189003, hbx HB⟩
        ·rw [if_neg c55] at H
         exact absurd H (by simp)
       ·rw [if_neg c54] at H
        exact absurd H (by simp)
  ·replace c9 := Bool.eq_false_iff.mpr c9
   subst c9
   rw [if_neg (show ¬ (false = true) by decide)] at H
   simp only [Option.some.injEq, Prod.mk.injEq] at H
   obtain ⟨rfl, rfl, rfl, rfl, rfl⟩ := H
   go_enter Try.func40, Try.ntmps40
   go_wp2_with (first | ((with_reducible refine gate_dst (N := 5) rfl ?_); refine boxE 5 #[.int .i64 a0_0, .slice A0_1 l0_1.length c0_1, .slice A0_2 l0_2.length c0_2, .slice A0_3 l0_3.length c0_3] 25 ?_; intro gb173 hg w133 hbox hb; have BK173 := Aside0.mk (hbox); have GW173 := gw hg HB; have GE173 := gw hg HB; replace HB := hbS HB hb; clear hb hbox hg) | ((with_reducible refine gate_dst (N := 10) rfl ?_); refine boxE 10 #[.int .i64 0, .slice none 0 0, .slice none 0 0, .slice none 0 0] 25 ?_; intro gb174 hg w134 hbox hb; have BK174 := Aside0.mk (hbox); have GW174 := gw hg HB; have GE174 := gw hg HB; replace HB := hbS HB hb; have NB173_174 := nbl hg BK173; have NB174_173 := nbg hg BK173; replace BK173 := bkB BK173 hb; clear hb hbox hg) | ((with_reducible refine gate_dst (N := 12) rfl ?_); refine boxE 12 #[.int .i64 0, .int .i64 0, .int .i64 0, .int .i64 0] 69 ?_; intro gb175 hg w135 hbox hb; have BK175 := Aside0.mk (hbox); have GW175 := gw hg HB; have GE175 := gw hg HB; replace HB := hbS HB hb; have NB173_175 := nbl hg BK173; have NB175_173 := nbg hg BK173; replace BK173 := bkB BK173 hb; have NB174_175 := nbl hg BK174; have NB175_174 := nbg hg BK174; replace BK174 := bkB BK174 hb; clear hb hbox hg; have hnb136 := NB175_173.out; have hnc136 := NB173_175.out; have hnb137 := NB175_174.out; have hnc137 := NB174_175.out; obtain ⟨z0, z1, z2, z3, y0, y1, y2, y3⟩ := bc4 BK175; have hnb139 := NB173_174.out; have hnc139 := NB174_173.out; obtain ⟨z0, z1, z2, z3, y0, y1, y2, y3⟩ := bc4 BK173) | ((with_reducible refine gate_callee (f := 12) rfl ?_); refine goesL_ (some 32) rfl rfl Try.func12 (by kernel_rfl) rfl #[.agg #[.int .i64 a0_0, .slice A0_1 l0_1.length c0_1, .slice A0_2 l0_2.length c0_2, .slice A0_3 l0_3.length c0_3]] rfl sma ?_; (with_reducible refine (quality_Valid.calls k a0_0 _ _ l0_1 _ _ l0_2 _ _ l0_3 t176 _ ?side1 HC0_1.out ?side3 HC0_2.out ?side5 HC0_3.out A6.out).mono ?_); (case side1 => exact Kd.C_below HR0_1.out (hbx HB)); (case side3 => exact Kd.C_below HR0_2.out (hbx HB)); (case side5 => exact Kd.C_below HR0_3.out (hbx HB)); rintro e w141 ⟨rfl, hb⟩; refine ⟨_, rfl, ?_⟩; replace BK173 := bkfB BK173 hb; replace BK174 := bkfB BK174 hb; replace BK175 := Aside0.mk (blk_below (o := .cells #[.int .i64 a1, .int .i64 a2, .int .i64 a3, .int .i64 a4] 69 (0, 0)) (bkp BK175) hb); replace HB := hbS HB hb; (try clear hb); (try clear hb2); (try clear hk); (try clear hi); obtain ⟨z0, z1, z2, z3, y0, y1, y2, y3⟩ := bc4 BK175) | ((with_reducible refine gate_callee (f := 52) rfl ?_); refine goesL_ (some 37) rfl rfl Try.func52 (by kernel_rfl) rfl #[.agg #[.int .i64 a1, .int .i64 a2, .int .i64 a3, .int .i64 a4]] rfl sma ?_; (with_reducible refine (quality_rules_right.calls a1 a2 a3 a4 false _ A8.out).mono ?_); rintro e w143 ⟨rfl, hb⟩; refine ⟨_, rfl, ?_⟩; replace BK173 := bkB BK173 hb; replace BK174 := bkB BK174 hb; replace BK175 := bkB BK175 hb; replace HB := hbS HB hb; (try clear hb); (try clear hb2); (try clear hk); (try clear hi); obtain ⟨z0, z1, z2, z3, y0, y1, y2, y3⟩ := bc4 BK174))
   refine bodyPost_ret (results_ct rfl _ _ gb174 25 #[.int .i64 0, .slice none 0 0, .slice none 0 0, .slice none 0 0] (0, 0) _ rfl (bkp BK174) Try.underlying25 rfl (by kernel_rfl)) rfl ?_
   exact ⟨_, _, _, rerr, rnil, rnil, rnil, hbx HB⟩
 ·rw [if_neg c7] at H
  have c7b0 : (t176 == 0) = false := beq_eq_false_iff_ne.mpr c7
  have c7b1 : (t176 != 0) = true := bne_iff_ne.mpr c7
  simp only [Option.some.injEq, Prod.mk.injEq] at H
  obtain ⟨rfl, rfl, rfl, rfl, rfl⟩ := H
  go_enter Try.func40, Try.ntmps40
  go_wp2_with (first | ((with_reducible refine gate_dst (N := 5) rfl ?_); refine boxE 5 #[.int .i64 a0_0, .slice A0_1 l0_1.length c0_1, .slice A0_2 l0_2.length c0_2, .slice A0_3 l0_3.length c0_3] 25 ?_; intro gb173 hg w145 hbox hb; have BK173 := Aside0.mk (hbox); have GW173 := gw hg HB; have GE173 := gw hg HB; replace HB := hbS HB hb; clear hb hbox hg) | ((with_reducible refine gate_dst (N := 10) rfl ?_); refine boxE 10 #[.int .i64 0, .slice none 0 0, .slice none 0 0, .slice none 0 0] 25 ?_; intro gb174 hg w146 hbox hb; have BK174 := Aside0.mk (hbox); have GW174 := gw hg HB; have GE174 := gw hg HB; replace HB := hbS HB hb; have NB173_174 := nbl hg BK173; have NB174_173 := nbg hg BK173; replace BK173 := bkB BK173 hb; clear hb hbox hg) | ((with_reducible refine gate_dst (N := 12) rfl ?_); refine boxE 12 #[.int .i64 0, .int .i64 0, .int .i64 0, .int .i64 0] 69 ?_; intro gb175 hg w147 hbox hb; have BK175 := Aside0.mk (hbox); have GW175 := gw hg HB; have GE175 := gw hg HB; replace HB := hbS HB hb; have NB173_175 := nbl hg BK173; have NB175_173 := nbg hg BK173; replace BK173 := bkB BK173 hb; have NB174_175 := nbl hg BK174; have NB175_174 := nbg hg BK174; replace BK174 := bkB BK174 hb; clear hb hbox hg; have hnb148 := NB175_173.out; have hnc148 := NB173_175.out; have hnb149 := NB175_174.out; have hnc149 := NB174_175.out; obtain ⟨z0, z1, z2, z3, y0, y1, y2, y3⟩ := bc4 BK175; have hnb151 := NB173_174.out; have hnc151 := NB174_173.out; obtain ⟨z0, z1, z2, z3, y0, y1, y2, y3⟩ := bc4 BK173) | ((with_reducible refine gate_callee (f := 12) rfl ?_); refine goesL_ (some 32) rfl rfl Try.func12 (by kernel_rfl) rfl #[.agg #[.int .i64 a0_0, .slice A0_1 l0_1.length c0_1, .slice A0_2 l0_2.length c0_2, .slice A0_3 l0_3.length c0_3]] rfl sma ?_; (with_reducible refine (quality_Valid.calls k a0_0 _ _ l0_1 _ _ l0_2 _ _ l0_3 t176 _ ?side1 HC0_1.out ?side3 HC0_2.out ?side5 HC0_3.out A6.out).mono ?_); (case side1 => exact Kd.C_below HR0_1.out (hbx HB)); (case side3 => exact Kd.C_below HR0_2.out (hbx HB)); (case side5 => exact Kd.C_below HR0_3.out (hbx HB)); rintro e w153 ⟨rfl, hb⟩; refine ⟨_, rfl, ?_⟩; replace BK173 := bkfB BK173 hb; replace BK174 := bkfB BK174 hb; replace BK175 := Aside0.mk (blk_below (o := .cells #[.int .i64 a1, .int .i64 a2, .int .i64 a3, .int .i64 a4] 69 (0, 0)) (bkp BK175) hb); replace HB := hbS HB hb; (try clear hb); (try clear hb2); (try clear hk); (try clear hi); obtain ⟨z0, z1, z2, z3, y0, y1, y2, y3⟩ := bc4 BK174))
  refine bodyPost_ret (results_ct rfl _ _ gb174 25 #[.int .i64 0, .slice none 0 0, .slice none 0 0, .slice none 0 0] (0, 0) _ rfl (bkp BK174) Try.underlying25 rfl (by kernel_rfl)) rfl ?_
  exact ⟨_, _, _, rerr, rnil, rnil, rnil, hbx HB⟩
end Go.Proofs.Ytnipgplobipeeaa.PQ
