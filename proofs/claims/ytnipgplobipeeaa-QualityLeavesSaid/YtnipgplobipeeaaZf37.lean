-- Printed by fprint.py and zip.py, programs of this session's, over the kit's print; Lean checks it.
import Derived.Test.YtnipgplobipeeaaZ0
import Derived.Test.YtnipgplobipeeaaZf13
import Derived.Test.YtnipgplobipeeaaZf44
import Derived.Test.YtnipgplobipeeaaZf39
import Derived.Test.YtnipgplobipeeaaZf49
import Derived.Test.YtnipgplobipeeaaZf50
namespace Go.Proofs.Ytnipgplobipeeaa.PQ
open Go.RowKit Go.Proofs.YtnipgplobipeeaaW.PrintWords Go.Proofs.YtnipgplobipeeaaW.PrintLast Go.Proofs.YtnipgplobipeeaaW.PrintMore
attribute [local go_sem] max2_int min2_int max_two min_two max_three min_three max_four min_four   -- for this text's walks alone
set_option linter.unusedVariables false
set_option linter.unusedSimpArgs false
mutual
def hopmeshref12_Close.j0 : Nat → Int → Int → Int → Int → Bool → Int → List (S34) → List Int → List Int → Option (Int × (List (S34)) × List Int × List Int × Int)
 | 0, _, _, _, _, _, _, _, _, _ => none
 | k + 1, x1, x2, x3, x4, x46, x705000, x705001, x705002, x705003 => if x46 = true then (some (0, ([] : List (S34)), ([] : List Int), ([] : List Int), 2)) else (if x705000 = 1073741824 then (some (0, ([] : List (S34)), ([] : List Int), ([] : List Int), 13)) else ((hopmeshref12_Copy.f x705000 x705001 x705002 x705003).bind fun bt707 => (hopmeshref12_Close.l0 k x1 x2 x3 x4 x705000 x705001 x705002 x705003 bt707.1 bt707.2.1 bt707.2.2.1 bt707.2.2.2)))
def hopmeshref12_Close.j2 : Nat → Int → Int → Int → List (S34) → List Int → List Int → Int → List (S34) → List Int → List Int → Option (Int × (List (S34)) × List Int × List Int × Int)
 | 0, _, _, _, _, _, _, _, _, _, _ => none
 | k + 1, x1, x3, x705000, x705001, x705002, x705003, x718000, x718001, x718002, x718003 => hopmeshref12_Close.l1 k x1 x3 0 x705000 x705001 x705002 x705003 x718000 x718001 x718002 x718003
def hopmeshref12_Close.l1 : Nat → Int → Int → Int → Int → List (S34) → List Int → List Int → Int → List (S34) → List Int → List Int → Option (Int × (List (S34)) × List Int × List Int × Int)
 | 0, _, _, _, _, _, _, _, _, _, _, _ => none
 | k + 1, x1, x3, x14, x705000, x705001, x705002, x705003, x718000, x718001, x718002, x718003 => if x14 < 16 then (if 0 ≤ x14 then (if x14 < (x705002.length : Int) then (if (rd x705002 x14) = 0 then (if x14 < (x705001.length : Int) then (if ((rd_T34 x705001 x14).f0) ≥ x1 then ((hopmeshref12_rate.f ((rd_T34 x705001 x14).f0) ((rd_T34 x705001 x14).f1)).bind fun t727 => (if t727 ≥ x3 then (if x14 < (x718002.length : Int) then (if (rd x718002 x14) = 0 then (if x14 < (x718003.length : Int) then (hopmeshref12_Close.l1 k x1 x3 (wrap64 (x14 + 1)) x705000 x705001 x705002 x705003 x718000 x718001 x718002 (x718003.set (x14 : Int).toNat 0)) else (none)) else (hopmeshref12_Close.l1 k x1 x3 (wrap64 (x14 + 1)) x705000 x705001 x705002 x705003 x718000 x718001 x718002 x718003)) else (none)) else (hopmeshref12_Close.l1 k x1 x3 (wrap64 (x14 + 1)) x705000 x705001 x705002 x705003 x718000 x718001 x718002 x718003))) else (hopmeshref12_Close.l1 k x1 x3 (wrap64 (x14 + 1)) x705000 x705001 x705002 x705003 x718000 x718001 x718002 x718003)) else (none)) else (hopmeshref12_Close.l1 k x1 x3 (wrap64 (x14 + 1)) x705000 x705001 x705002 x705003 x718000 x718001 x718002 x718003)) else (none)) else (none)) else (hopmeshref12_Close.l2 k 0 (wrap64 (x705000 + 1)) x718001 x718002 x718003)
def hopmeshref12_Close.l2 : Nat → Int → Int → List (S34) → List Int → List Int → Option (Int × (List (S34)) × List Int × List Int × Int)
 | 0, _, _, _, _, _ => none
 | k + 1, x15, x718000, x718001, x718002, x718003 => if x15 < 16 then (if 0 ≤ x15 then (if x15 < (x718002.length : Int) then (if (rd x718002 x15) ≤ x718000 then (if x15 < (x718001.length : Int) then (hopmeshref12_Close.l2 k (wrap64 (x15 + 1)) x718000 (x718001.set (x15 : Int).toNat (⟨0, 0⟩ : S34)) (x718002.set (x15 : Int).toNat 0) x718003) else (none)) else (if x15 < (x718001.length : Int) then (hopmeshref12_Close.l2 k (wrap64 (x15 + 1)) x718000 (x718001.set (x15 : Int).toNat (⟨0, 0⟩ : S34)) x718002 x718003) else (none))) else (none)) else (none)) else (some (x718000, x718001, x718002, x718003, 0))
def hopmeshref12_Close.l0 : Nat → Int → Int → Int → Int → Int → List (S34) → List Int → List Int → Int → List (S34) → List Int → List Int → Option (Int × (List (S34)) × List Int × List Int × Int)
 | 0, _, _, _, _, _, _, _, _, _, _, _, _ => none
 | k + 1, x1, x2, x3, x4, x705000, x705001, x705002, x705003, x718000, x718001, x718002, x718003 => (hopmeshref12_free.f k x718000 x718001 x718002 x718003).bind fun t718 => (if t718 > x4 then ((hopmeshref12_worst.f k x718000 x718001 x718002 x718003 x1 x2).bind fun t719 => (if t719 < 0 then (hopmeshref12_Close.j2 k x1 x3 x705000 x705001 x705002 x705003 x718000 x718001 x718002 x718003) else (if 0 ≤ t719 then (if t719 < (x718003.length : Int) then ((some (x718003.set (t719 : Int).toNat (mn (mx (wrap64 (2 * (rd x718003 t719))) 1) 64) : List Int)).bind fun y721 => (if t719 < (x718002.length : Int) then (hopmeshref12_Close.l0 k x1 x2 x3 x4 x705000 x705001 x705002 x705003 x718000 x718001 (x718002.set (t719 : Int).toNat (wrap64 ((wrap64 (x705000 + 1)) + (rd y721 t719)))) y721) else (none))) else (none)) else (none)))) else (hopmeshref12_Close.j2 k x1 x3 x705000 x705001 x705002 x705003 x718000 x718001 x718002 x718003))
end
def hopmeshref12_Close.f (k : Nat) (a0_0 : Int) (l0_1 : List (S34)) (l0_2 : List Int) (l0_3 : List Int) (a1 : Int) (a2 : Int) (a3 : Int) (a4 : Int) : Option (Int × (List (S34)) × List Int × List Int × Int) := (hopmeshref12_Valid.f k a0_0 l0_1 l0_2 l0_3).bind fun t706 => (if t706 = 0 then (if a1 < 1 then (hopmeshref12_Close.j0 k a1 a2 a3 a4 true a0_0 l0_1 l0_2 l0_3) else (if a1 > 1000 then (hopmeshref12_Close.j0 k a1 a2 a3 a4 true a0_0 l0_1 l0_2 l0_3) else (if a2 < 0 then (hopmeshref12_Close.j0 k a1 a2 a3 a4 true a0_0 l0_1 l0_2 l0_3) else (if a2 > a3 then (hopmeshref12_Close.j0 k a1 a2 a3 a4 true a0_0 l0_1 l0_2 l0_3) else (if a3 > 1000 then (hopmeshref12_Close.j0 k a1 a2 a3 a4 true a0_0 l0_1 l0_2 l0_3) else (if a4 < 1 then (hopmeshref12_Close.j0 k a1 a2 a3 a4 true a0_0 l0_1 l0_2 l0_3) else (hopmeshref12_Close.j0 k a1 a2 a3 a4 (decide (a4 > 16)) a0_0 l0_1 l0_2 l0_3))))))) else (some (0, ([] : List (S34)), ([] : List Int), ([] : List Int), 1)))
theorem hopmeshref12_Close.mono_l : ∀ k, (∀ y0 y1 y2 y3 y4 y5 y6 y7 y8, LeO (hopmeshref12_Close.j0 k y0 y1 y2 y3 y4 y5 y6 y7 y8) (hopmeshref12_Close.j0 (k + 1) y0 y1 y2 y3 y4 y5 y6 y7 y8)) ∧ (∀ y0 y1 y2 y3 y4 y5 y6 y7 y8 y9, LeO (hopmeshref12_Close.j2 k y0 y1 y2 y3 y4 y5 y6 y7 y8 y9) (hopmeshref12_Close.j2 (k + 1) y0 y1 y2 y3 y4 y5 y6 y7 y8 y9)) ∧ (∀ y0 y1 y2 y3 y4 y5 y6 y7 y8 y9 y10, LeO (hopmeshref12_Close.l1 k y0 y1 y2 y3 y4 y5 y6 y7 y8 y9 y10) (hopmeshref12_Close.l1 (k + 1) y0 y1 y2 y3 y4 y5 y6 y7 y8 y9 y10)) ∧ (∀ y0 y1 y2 y3 y4, LeO (hopmeshref12_Close.l2 k y0 y1 y2 y3 y4) (hopmeshref12_Close.l2 (k + 1) y0 y1 y2 y3 y4)) ∧ (∀ y0 y1 y2 y3 y4 y5 y6 y7 y8 y9 y10 y11, LeO (hopmeshref12_Close.l0 k y0 y1 y2 y3 y4 y5 y6 y7 y8 y9 y10 y11) (hopmeshref12_Close.l0 (k + 1) y0 y1 y2 y3 y4 y5 y6 y7 y8 y9 y10 y11))
 | 0 => ⟨fun _ _ _ _ _ _ _ _ _ r h => by simp [hopmeshref12_Close.j0] at h, fun _ _ _ _ _ _ _ _ _ _ r h => by simp [hopmeshref12_Close.j2] at h, fun _ _ _ _ _ _ _ _ _ _ _ r h => by simp [hopmeshref12_Close.l1] at h, fun _ _ _ _ _ r h => by simp [hopmeshref12_Close.l2] at h, fun _ _ _ _ _ _ _ _ _ _ _ _ r h => by simp [hopmeshref12_Close.l0] at h⟩
 | k + 1 => by
  obtain ⟨ih0, ih1, ih2, ih3, ih4⟩ := hopmeshref12_Close.mono_l k
  refine ⟨?_, ?_, ?_, ?_, ?_⟩
  ·intro y0 y1 y2 y3 y4 y5 y6 y7 y8
   unfold hopmeshref12_Close.j0
   repeat' first
   | (with_reducible exact ih0 _ _ _ _ _ _ _ _ _)
   | (with_reducible exact ih1 _ _ _ _ _ _ _ _ _ _)
   | (with_reducible exact ih2 _ _ _ _ _ _ _ _ _ _ _)
   | (with_reducible exact ih3 _ _ _ _ _)
   | (with_reducible exact ih4 _ _ _ _ _ _ _ _ _ _ _ _)
   | (with_reducible exact hopmeshref12_Valid.mono _ _ _ _ _)
   | (with_reducible exact hopmeshref12_free.mono _ _ _ _ _)
   | (with_reducible exact hopmeshref12_worst.mono _ _ _ _ _ _ _)
   | (with_reducible exact LeO.refl _)
   | (with_reducible exact LeO.none _)
   | (with_reducible refine LeO.ite ?_ ?_)
   | (with_reducible refine LeO.bind ?_ (fun _ => ?_))
   | exact ih0 _ _ _ _ _ _ _ _ _
   | exact ih1 _ _ _ _ _ _ _ _ _ _
   | exact ih2 _ _ _ _ _ _ _ _ _ _ _
   | exact ih3 _ _ _ _ _
   | exact ih4 _ _ _ _ _ _ _ _ _ _ _ _
   | exact hopmeshref12_Valid.mono _ _ _ _ _
   | exact hopmeshref12_free.mono _ _ _ _ _
   | exact hopmeshref12_worst.mono _ _ _ _ _ _ _
   | exact LeO.none _
   | refine LeO.ite ?_ ?_
   | refine LeO.bind ?_ (fun _ => ?_)
  ·intro y0 y1 y2 y3 y4 y5 y6 y7 y8 y9
   unfold hopmeshref12_Close.j2
   repeat' first
   | (with_reducible exact ih0 _ _ _ _ _ _ _ _ _)
   | (with_reducible exact ih1 _ _ _ _ _ _ _ _ _ _)
   | (with_reducible exact ih2 _ _ _ _ _ _ _ _ _ _ _)
   | (with_reducible exact ih3 _ _ _ _ _)
   | (with_reducible exact ih4 _ _ _ _ _ _ _ _ _ _ _ _)
   | (with_reducible exact hopmeshref12_Valid.mono _ _ _ _ _)
   | (with_reducible exact hopmeshref12_free.mono _ _ _ _ _)
   | (with_reducible exact hopmeshref12_worst.mono _ _ _ _ _ _ _)
   | (with_reducible exact LeO.refl _)
   | (with_reducible exact LeO.none _)
   | (with_reducible refine LeO.ite ?_ ?_)
   | (with_reducible refine LeO.bind ?_ (fun _ => ?_))
   | exact ih0 _ _ _ _ _ _ _ _ _
   | exact ih1 _ _ _ _ _ _ _ _ _ _
   | exact ih2 _ _ _ _ _ _ _ _ _ _ _
   | exact ih3 _ _ _ _ _
   | exact ih4 _ _ _ _ _ _ _ _ _ _ _ _
   | exact hopmeshref12_Valid.mono _ _ _ _ _
   | exact hopmeshref12_free.mono _ _ _ _ _
   | exact hopmeshref12_worst.mono _ _ _ _ _ _ _
   | exact LeO.none _
   | refine LeO.ite ?_ ?_
   | refine LeO.bind ?_ (fun _ => ?_)
  ·intro y0 y1 y2 y3 y4 y5 y6 y7 y8 y9 y10
   unfold hopmeshref12_Close.l1
   repeat' first
   | (with_reducible exact ih0 _ _ _ _ _ _ _ _ _)
   | (with_reducible exact ih1 _ _ _ _ _ _ _ _ _ _)
   | (with_reducible exact ih2 _ _ _ _ _ _ _ _ _ _ _)
   | (with_reducible exact ih3 _ _ _ _ _)
   | (with_reducible exact ih4 _ _ _ _ _ _ _ _ _ _ _ _)
   | (with_reducible exact hopmeshref12_Valid.mono _ _ _ _ _)
   | (with_reducible exact hopmeshref12_free.mono _ _ _ _ _)
   | (with_reducible exact hopmeshref12_worst.mono _ _ _ _ _ _ _)
   | (with_reducible exact LeO.refl _)
   | (with_reducible exact LeO.none _)
   | (with_reducible refine LeO.ite ?_ ?_)
   | (with_reducible refine LeO.bind ?_ (fun _ => ?_))
   | exact ih0 _ _ _ _ _ _ _ _ _
   | exact ih1 _ _ _ _ _ _ _ _ _ _
   | exact ih2 _ _ _ _ _ _ _ _ _ _ _
   | exact ih3 _ _ _ _ _
   | exact ih4 _ _ _ _ _ _ _ _ _ _ _ _
   | exact hopmeshref12_Valid.mono _ _ _ _ _
   | exact hopmeshref12_free.mono _ _ _ _ _
   | exact hopmeshref12_worst.mono _ _ _ _ _ _ _
   | exact LeO.none _
   | refine LeO.ite ?_ ?_
   | refine LeO.bind ?_ (fun _ => ?_)
  ·intro y0 y1 y2 y3 y4
   unfold hopmeshref12_Close.l2
   repeat' first
   | (with_reducible exact ih0 _ _ _ _ _ _ _ _ _)
   | (with_reducible exact ih1 _ _ _ _ _ _ _ _ _ _)
   | (with_reducible exact ih2 _ _ _ _ _ _ _ _ _ _ _)
   | (with_reducible exact ih3 _ _ _ _ _)
   | (with_reducible exact ih4 _ _ _ _ _ _ _ _ _ _ _ _)
   | (with_reducible exact hopmeshref12_Valid.mono _ _ _ _ _)
   | (with_reducible exact hopmeshref12_free.mono _ _ _ _ _)
   | (with_reducible exact hopmeshref12_worst.mono _ _ _ _ _ _ _)
   | (with_reducible exact LeO.refl _)
   | (with_reducible exact LeO.none _)
   | (with_reducible refine LeO.ite ?_ ?_)
   | (with_reducible refine LeO.bind ?_ (fun _ => ?_))
   | exact ih0 _ _ _ _ _ _ _ _ _
   | exact ih1 _ _ _ _ _ _ _ _ _ _
   | exact ih2 _ _ _ _ _ _ _ _ _ _ _
   | exact ih3 _ _ _ _ _
   | exact ih4 _ _ _ _ _ _ _ _ _ _ _ _
   | exact hopmeshref12_Valid.mono _ _ _ _ _
   | exact hopmeshref12_free.mono _ _ _ _ _
   | exact hopmeshref12_worst.mono _ _ _ _ _ _ _
   | exact LeO.none _
   | refine LeO.ite ?_ ?_
   | refine LeO.bind ?_ (fun _ => ?_)
  ·intro y0 y1 y2 y3 y4 y5 y6 y7 y8 y9 y10 y11
   unfold hopmeshref12_Close.l0
   repeat' first
   | (with_reducible exact ih0 _ _ _ _ _ _ _ _ _)
   | (with_reducible exact ih1 _ _ _ _ _ _ _ _ _ _)
   | (with_reducible exact ih2 _ _ _ _ _ _ _ _ _ _ _)
   | (with_reducible exact ih3 _ _ _ _ _)
   | (with_reducible exact ih4 _ _ _ _ _ _ _ _ _ _ _ _)
   | (with_reducible exact hopmeshref12_Valid.mono _ _ _ _ _)
   | (with_reducible exact hopmeshref12_free.mono _ _ _ _ _)
   | (with_reducible exact hopmeshref12_worst.mono _ _ _ _ _ _ _)
   | (with_reducible exact LeO.refl _)
   | (with_reducible exact LeO.none _)
   | (with_reducible refine LeO.ite ?_ ?_)
   | (with_reducible refine LeO.bind ?_ (fun _ => ?_))
   | exact ih0 _ _ _ _ _ _ _ _ _
   | exact ih1 _ _ _ _ _ _ _ _ _ _
   | exact ih2 _ _ _ _ _ _ _ _ _ _ _
   | exact ih3 _ _ _ _ _
   | exact ih4 _ _ _ _ _ _ _ _ _ _ _ _
   | exact hopmeshref12_Valid.mono _ _ _ _ _
   | exact hopmeshref12_free.mono _ _ _ _ _
   | exact hopmeshref12_worst.mono _ _ _ _ _ _ _
   | exact LeO.none _
   | refine LeO.ite ?_ ?_
   | refine LeO.bind ?_ (fun _ => ?_)
theorem hopmeshref12_Close.mono : ∀ a0 a1 a2 a3 a4 a5 a6 a7 k, LeO (hopmeshref12_Close.f k a0 a1 a2 a3 a4 a5 a6 a7) (hopmeshref12_Close.f (k + 1) a0 a1 a2 a3 a4 a5 a6 a7) := by
 intro a0 a1 a2 a3 a4 a5 a6 a7 k
 obtain ⟨ih0, ih1, ih2, ih3, ih4⟩ := hopmeshref12_Close.mono_l k
 unfold hopmeshref12_Close.f
 repeat' first
  | (with_reducible exact ih0 _ _ _ _ _ _ _ _ _)
  | (with_reducible exact ih1 _ _ _ _ _ _ _ _ _ _)
  | (with_reducible exact ih2 _ _ _ _ _ _ _ _ _ _ _)
  | (with_reducible exact ih3 _ _ _ _ _)
  | (with_reducible exact ih4 _ _ _ _ _ _ _ _ _ _ _ _)
  | (with_reducible exact hopmeshref12_Valid.mono _ _ _ _ _)
  | (with_reducible exact hopmeshref12_free.mono _ _ _ _ _)
  | (with_reducible exact hopmeshref12_worst.mono _ _ _ _ _ _ _)
  | (with_reducible exact LeO.refl _)
  | (with_reducible exact LeO.none _)
  | (with_reducible refine LeO.ite ?_ ?_)
  | (with_reducible refine LeO.bind ?_ (fun _ => ?_))
  | exact ih0 _ _ _ _ _ _ _ _ _
  | exact ih1 _ _ _ _ _ _ _ _ _ _
  | exact ih2 _ _ _ _ _ _ _ _ _ _ _
  | exact ih3 _ _ _ _ _
  | exact ih4 _ _ _ _ _ _ _ _ _ _ _ _
  | exact hopmeshref12_Valid.mono _ _ _ _ _
  | exact hopmeshref12_free.mono _ _ _ _ _
  | exact hopmeshref12_worst.mono _ _ _ _ _ _ _
  | exact LeO.none _
  | refine LeO.ite ?_ ?_
  | refine LeO.bind ?_ (fun _ => ?_)
def hopmeshref12_Close.T11 : Bool × List (List Nat × List Nat) := (true, [([], []), ([0], [0]), ([], []), ([], []), ([3], [3]), ([], []), ([4, 5], [4, 5]), ([6], [6]), ([7], [7]), ([8], [8]), ([9], [9]), ([1, 2, 0, 1, 2, 3, 4, 5, 6, 7, 8, 9, 10], [1, 2]), ([11, 10, 0, 1, 2, 3, 4, 5, 6, 7, 8, 9, 10], [10, 11])])
def hopmeshref12_Close.B11 : List Nat := [0, 1, 0, 0, 8, 0, 56, 120, 248, 504, 1016, 2047, 4095]
theorem hopmeshref12_Close.tab11 : rtab .any (opsOf Try.f37 11) = hopmeshref12_Close.T11 := by kernel_rfl
theorem hopmeshref12_Close.bits11 : waitsOk hopmeshref12_Close.T11.2 hopmeshref12_Close.B11 = true := by kernel_rfl
def hopmeshref12_Close.T12 : Bool × List (List Nat × List Nat) := (true, [([], []), ([0], [0]), ([], []), ([], []), ([3], [3]), ([4], [4]), ([], []), ([6], [6]), ([], []), ([7, 8], [7, 8]), ([9], [9]), ([5, 10], [5, 10]), ([1, 2, 0, 1, 2, 3, 4, 5, 6, 7, 8, 9, 10, 11], [1, 2]), ([12, 11, 0, 1, 2, 3, 4, 5, 6, 7, 8, 9, 10, 11], [11, 12])])
def hopmeshref12_Close.B12 : List Nat := [0, 1, 0, 0, 8, 24, 0, 64, 0, 448, 960, 2040, 4095, 8191]
theorem hopmeshref12_Close.tab12 : rtab .any (opsOf Try.f37 12) = hopmeshref12_Close.T12 := by kernel_rfl
theorem hopmeshref12_Close.bits12 : waitsOk hopmeshref12_Close.T12.2 hopmeshref12_Close.B12 = true := by kernel_rfl
def hopmeshref12_Close.T22 : Bool × List (List Nat × List Nat) := (true, [([], []), ([0], [0]), ([], []), ([1, 2], [1, 2]), ([3], [3]), ([], []), ([5], [5]), ([4, 6], [4, 6])])
def hopmeshref12_Close.B22 : List Nat := [0, 1, 0, 7, 15, 0, 32, 127]
theorem hopmeshref12_Close.tab22 : rtab .any (opsOf Try.f37 22) = hopmeshref12_Close.T22 := by kernel_rfl
theorem hopmeshref12_Close.bits22 : waitsOk hopmeshref12_Close.T22.2 hopmeshref12_Close.B22 = true := by kernel_rfl
set_option maxHeartbeats 8000000 in
set_option maxRecDepth 100000 in
theorem hopmeshref12_Close.calls (k : Nat) (a0_0 : Int) (A0_1 : Option Addr) (c0_1 : Nat) (l0_1 : List (S34)) (A0_2 : Option Addr) (c0_2 : Nat) (l0_2 : List Int) (A0_3 : Option Addr) (c0_3 : Nat) (l0_3 : List Int) (a1 : Int) (a2 : Int) (a3 : Int) (a4 : Int) (r1 : Int) (r2 : List (S34)) (r3 : List Int) (r4 : List Int) (r5 : Int) (w : World) (hr0_1 : Kd.C k34 w A0_1 l0_1.length l0_1) (hc0_1 : l0_1.length ≤ c0_1) (hr0_2 : Kd.C (Kd.int .i64) w A0_2 l0_2.length l0_2) (hc0_2 : l0_2.length ≤ c0_2) (hr0_3 : Kd.C (Kd.int .i64) w A0_3 l0_3.length l0_3) (hc0_3 : l0_3.length ≤ c0_3) (h : hopmeshref12_Close.f k a0_0 l0_1 l0_2 l0_3 a1 a2 a3 a4 = some (r1, r2, r3, r4, r5)) :
 Calls Try.prog 37 #[.agg #[.int .i64 a0_0, .slice A0_1 l0_1.length c0_1, .slice A0_2 l0_2.length c0_2, .slice A0_3 l0_3.length c0_3], .int .i64 a1, .int .i64 a2, .int .i64 a3, .int .i64 a4] w fun e w' => ∃ v1_ v2_ v3_ : Value, e = .returned (.tuple #[.agg #[.int .i64 r1, v1_, v2_, v3_], .int .i64 r5]) ∧ Kd.R k34 34 w' w.heap.size (fun _ => True) v1_ r2 ∧ Kd.R (Kd.int .i64) 3 w' w.heap.size (fun k_ => some k_ ≠ (v3_ : Value).ownBlock) v2_ r3 ∧ Kd.R (Kd.int .i64) 3 w' w.heap.size (fun k_ => some k_ ≠ (v2_ : Value).ownBlock) v3_ r4 ∧ Below w.heap.size w w' := by
 have hu25 := Try.underlying25
 have hu34 := Try.underlying34
 have HR0_1 := Aside0.mk hr0_1
 have HC0_1 := Aside0.mk hc0_1
 clear hr0_1 hc0_1
 have HR0_2 := Aside0.mk hr0_2
 have HC0_2 := Aside0.mk hc0_2
 clear hr0_2 hc0_2
 have HR0_3 := Aside0.mk hr0_3
 have HC0_3 := Aside0.mk hc0_3
 clear hr0_3 hc0_3
 have HB := Aside0.mk (Below.refl w.heap.size w)
 have H : ((hopmeshref12_Valid.f k a0_0 l0_1 l0_2 l0_3).bind fun t706 => (if t706 = 0 then (if a1 < 1 then (hopmeshref12_Close.j0 k a1 a2 a3 a4 true a0_0 l0_1 l0_2 l0_3) else (if a1 > 1000 then (hopmeshref12_Close.j0 k a1 a2 a3 a4 true a0_0 l0_1 l0_2 l0_3) else (if a2 < 0 then (hopmeshref12_Close.j0 k a1 a2 a3 a4 true a0_0 l0_1 l0_2 l0_3) else (if a2 > a3 then (hopmeshref12_Close.j0 k a1 a2 a3 a4 true a0_0 l0_1 l0_2 l0_3) else (if a3 > 1000 then (hopmeshref12_Close.j0 k a1 a2 a3 a4 true a0_0 l0_1 l0_2 l0_3) else (if a4 < 1 then (hopmeshref12_Close.j0 k a1 a2 a3 a4 true a0_0 l0_1 l0_2 l0_3) else (hopmeshref12_Close.j0 k a1 a2 a3 a4 (decide (a4 > 16)) a0_0 l0_1 l0_2 l0_3))))))) else (some (0, ([] : List (S34)), ([] : List Int), ([] : List Int), 1)))) = some (r1, r2, r3, r4, r5) := h
 clear h
 replace H := Option.bind_eq_some_iff.mp H
 obtain ⟨t706, A60, H⟩ := H
 (try dsimp only at H)
 have A6 := Aside0.mk A60
 clear A60
 by_cases c7 : t706 = 0
 ·rw [if_pos c7] at H
  have c7b0 : (t706 == 0) = true := beq_iff_eq.mpr c7
  have c7b1 : (t706 != 0) = false := bne_eq_false_iff_eq.mpr c7
  clear c7
  have HC8 := Aside0.mk H
  clear H
  go_enter Try.func37, Try.ntmps37
  go_upto_region 3 with (first | ((with_reducible refine gate_dst (N := 5) rfl ?_); refine boxE 5 #[.int .i64 a0_0, .slice A0_1 l0_1.length c0_1, .slice A0_2 l0_2.length c0_2, .slice A0_3 l0_3.length c0_3] 25 ?_; intro gb704 hg w9 hbox hb; have BK704 := Aside0.mk (hbox); have GW704 := gw hg HB; have GE704 := gw hg HB; replace HB := hbS HB hb; clear hb hbox hg) | ((with_reducible refine gate_dst (N := 10) rfl ?_); refine boxE 10 #[.int .i64 0, .slice none 0 0, .slice none 0 0, .slice none 0 0] 25 ?_; intro gb705 hg w10 hbox hb; have BK705 := Aside0.mk (hbox); have GW705 := gw hg HB; have GE705 := gw hg HB; replace HB := hbS HB hb; have NB704_705 := nbl hg BK704; have NB705_704 := nbg hg BK704; replace BK704 := bkB BK704 hb; clear hb hbox hg; have hnb11 := NB704_705.out; have hnc11 := NB705_704.out; obtain ⟨z0, z1, z2, z3, y0, y1, y2, y3⟩ := bc4 BK704) | ((with_reducible refine gate_callee (f := 39) rfl ?_); refine goesL_ (some 17) rfl rfl Try.func39 (by kernel_rfl) rfl #[.agg #[.int .i64 a0_0, .slice A0_1 l0_1.length c0_1, .slice A0_2 l0_2.length c0_2, .slice A0_3 l0_3.length c0_3]] rfl sma ?_; (with_reducible refine (hopmeshref12_Valid.calls k a0_0 _ _ l0_1 _ _ l0_2 _ _ l0_3 t706 _ (cb HR0_1 HB) HC0_1.out (cb HR0_2 HB) HC0_2.out (cb HR0_3 HB) HC0_3.out A6.out).mono ?_); rintro e w13 ⟨rfl, hb⟩; refine ⟨_, rfl, ?_⟩; replace BK704 := bkB BK704 hb; replace BK705 := bkB BK705 hb; replace HB := hbS HB hb; (try clear hb); (try clear hb2); (try clear hk); (try clear hi)))
  (try simp only [Act.put, List.setIfInBounds_toArray, List.set_cons_zero, List.set_cons_succ])
  go_cut [46] (fun v46 wc => ∃ (kq : Nat) (x46_7 : Bool), v46 = .bool x46_7 ∧ Aside0 (hopmeshref12_Close.j0 kq a1 a2 a3 a4 x46_7 a0_0 l0_1 l0_2 l0_3 = some (r1, r2, r3, r4, r5)) ∧ Aside0 (kq ≤ k) ∧ Aside0 (wc.heap[gb704]? = some (.cells #[.int .i64 a0_0, (.slice A0_1 l0_1.length c0_1), (.slice A0_2 l0_2.length c0_2), (.slice A0_3 l0_3.length c0_3)] 25 (0, 0))) ∧ Aside0 (wc.heap[gb705]? = some (.cells #[.int .i64 0, (.slice none 0 0), (.slice none 0 0), (.slice none 0 0)] 25 (0, 0))) ∧ Aside0 (Below w.heap.size w wc))
  case first =>
   have H := HC8.out
   clear HC8
   by_cases c14 : a1 < 1
   ·rw [if_pos c14] at H
    have c14b0 : decide (a1 < 1) = true := decide_eq_true c14
    clear c14
    (first | rw [c14b0] | (simp only [i64_w, i32_w]; rw [c14b0]) | skip)
    have H' := Aside0.mk H
    clear H
    go_wp2
    go_meet
    case rel => exact ⟨_, (true), rfs, H', kle, bkA BK704, bkA BK705, hbA HB⟩
   ·rw [if_neg c14] at H
    have c14b0 : decide (a1 < 1) = false := decide_eq_false c14
    clear c14
    (first | rw [c14b0] | (simp only [i64_w, i32_w]; rw [c14b0]) | skip)
    by_cases c15 : a1 > 1000
    ·rw [if_pos c15] at H
     have c15b0 : decide (1000 < a1) = true := decide_eq_true c15
     clear c15
     have H' := Aside0.mk H
     clear H
     go_wp2
     go_meet
     case rel => exact ⟨_, (true), rfs, H', kle, bkA BK704, bkA BK705, hbA HB⟩
    ·rw [if_neg c15] at H
     have c15b0 : decide (1000 < a1) = false := decide_eq_false c15
     clear c15
     by_cases c16 : a2 < 0
     ·rw [if_pos c16] at H
      have c16b0 : decide (a2 < 0) = true := decide_eq_true c16
      clear c16
      have H' := Aside0.mk H
      clear H
      go_wp2
      go_meet
      case rel => exact ⟨_, (true), rfs, H', kle, bkA BK704, bkA BK705, hbA HB⟩
     ·rw [if_neg c16] at H
      have c16b0 : decide (a2 < 0) = false := decide_eq_false c16
      clear c16
      by_cases c17 : a2 > a3
      ·rw [if_pos c17] at H
       have c17b0 : decide (a3 < a2) = true := decide_eq_true c17
       clear c17
       have H' := Aside0.mk H
       clear H
       go_wp2
       go_meet
       case rel => exact ⟨_, (true), rfs, H', kle, bkA BK704, bkA BK705, hbA HB⟩
      ·rw [if_neg c17] at H
       have c17b0 : decide (a3 < a2) = false := decide_eq_false c17
       clear c17
       by_cases c18 : a3 > 1000
       ·rw [if_pos c18] at H
        have c18b0 : decide (1000 < a3) = true := decide_eq_true c18
        clear c18
        have H' := Aside0.mk H
        clear H
        go_wp2
        go_meet
        case rel => exact ⟨_, (true), rfs, H', kle, bkA BK704, bkA BK705, hbA HB⟩
       ·rw [if_neg c18] at H
        have c18b0 : decide (1000 < a3) = false := decide_eq_false c18
        clear c18
        by_cases c19 : a4 < 1
        ·rw [if_pos c19] at H
         have c19b0 : decide (a4 < 1) = true := decide_eq_true c19
         clear c19
         have H' := Aside0.mk H
         clear H
         go_wp2
         go_meet
         case rel => exact ⟨_, (true), rfs, H', kle, bkA BK704, bkA BK705, hbA HB⟩
        ·rw [if_neg c19] at H
         have c19b0 : decide (a4 < 1) = false := decide_eq_false c19
         clear c19
         have H' := Aside0.mk H
         clear H
         go_wp2
         go_meet
         case rel => exact ⟨_, (decide (a4 > 16)), rfs, H', kle, bkA BK704, bkA BK705, hbA HB⟩
  case rest =>
   clear HC8
   try clear c7
   try clear c7b0
   try clear c7b1
   try clear hcz12_0
   try clear hcz12_1
   try clear hcz12_2
   try clear hcz12_3
   try clear hfz12_0
   try clear hfz12_1
   try clear hfz12_2
   try clear hfz12_3
   obtain ⟨kq, x46_7, rfl, HA, HJ7, BK704, BK705, HB⟩ := hcut
   cases kq with
   | zero => exact absurd HA.out (by simp [hopmeshref12_Close.j0])
   | succ kj7 =>
    have H := HA.out
    clear HA
    simp only [hopmeshref12_Close.j0] at H
    by_cases c20 : x46_7 = true
    ·subst c20
     rw [if_pos rfl] at H
     simp only [Option.some.injEq, Prod.mk.injEq] at H
     obtain ⟨rfl, rfl, rfl, rfl, rfl⟩ := H
     have hnb21 := NB705_704.out
     have hnc21 := NB704_705.out
     obtain ⟨z0, z1, z2, z3, y0, y1, y2, y3⟩ := bc4 BK705
     go_wp2
     refine bodyPost_ret (results_ct rfl _ _ gb705 25 #[.int .i64 0, .slice none 0 0, .slice none 0 0, .slice none 0 0] (0, 0) _ rfl (bkp BK705) Try.underlying25 rfl (by kernel_rfl)) rfl ?_
     exact ⟨_, _, _, rerr, rnil, rnil, rnil, hbx HB⟩
    ·replace c20 := Bool.eq_false_iff.mpr c20
     subst c20
     rw [if_neg (show ¬ (false = true) by decide)] at H
     by_cases c23 : a0_0 = 1073741824
     ·rw [if_pos c23] at H
      have c23b0 : (a0_0 == 1073741824) = true := beq_iff_eq.mpr c23
      have c23b1 : (a0_0 != 1073741824) = false := bne_eq_false_iff_eq.mpr c23
      clear c23
      simp only [Option.some.injEq, Prod.mk.injEq] at H
      obtain ⟨rfl, rfl, rfl, rfl, rfl⟩ := H
      have hnb24 := NB704_705.out
      have hnc24 := NB705_704.out
      obtain ⟨z0, z1, z2, z3, y0, y1, y2, y3⟩ := bc4 BK704
      obtain ⟨z0, z1, z2, z3, y0, y1, y2, y3⟩ := bc4 BK705
      go_wp2
      refine bodyPost_ret (results_ct rfl _ _ gb705 25 #[.int .i64 0, .slice none 0 0, .slice none 0 0, .slice none 0 0] (0, 0) _ rfl (bkp BK705) Try.underlying25 rfl (by kernel_rfl)) rfl ?_
      exact ⟨_, _, _, rerr, rnil, rnil, rnil, hbx HB⟩
     ·rw [if_neg c23] at H
      have c23b0 : (a0_0 == 1073741824) = false := beq_eq_false_iff_ne.mpr c23
      have c23b1 : (a0_0 != 1073741824) = true := bne_iff_ne.mpr c23
      replace H := Option.bind_eq_some_iff.mp H
      obtain ⟨⟨t707, t708, t711, t714⟩, A270, H⟩ := H
      (try dsimp only at H)
      have A27 := Aside0.mk A270
      clear A270
      have HC28 := Aside0.mk H
      clear H
      have hnb29 := NB704_705.out
      have hnc29 := NB705_704.out
      obtain ⟨z0, z1, z2, z3, y0, y1, y2, y3⟩ := bc4 BK704
      go_upto_block 0 with (first | ((with_reducible refine gate_callee (f := 13) rfl ?_); refine goesL_ (some 53) rfl rfl Try.func13 (by kernel_rfl) rfl #[.agg #[.int .i64 a0_0, .slice A0_1 l0_1.length c0_1, .slice A0_2 l0_2.length c0_2, .slice A0_3 l0_3.length c0_3]] rfl sma ?_; (with_reducible refine (hopmeshref12_Copy.calls a0_0 _ _ l0_1 _ _ l0_2 _ _ l0_3 t707 t708 t711 t714 _ (cb HR0_1 HB) HC0_1.out (cb HR0_2 HB) HC0_2.out (cb HR0_3 HB) HC0_3.out A27.out).mono ?_); rintro e w31 ⟨v709, v712, v715, rfl, ho0, ho1, ho2, hb⟩; refine ⟨_, rfl, ?_⟩; have HO710 := Aside0.mk (Kd.R_lower ho0 (below_size (hbx HB))); have HO713 := Aside0.mk (Kd.R_lower ho1 (below_size (hbx HB))); have HO716 := Aside0.mk (Kd.R_lower ho2 (below_size (hbx HB))); replace BK704 := bkB BK704 hb; replace BK705 := bkB BK705 hb; replace HB := hbS HB hb; (try clear hb); (try clear hb2); (try clear hk); (try clear hi); (try clear ho0); (try clear ho1); (try clear ho2)) | ((with_reducible refine gate_dst (N := 12) rfl ?_); refine boxE 12 #[.int .i64 0, .slice none 0 0, .slice none 0 0, .slice none 0 0] 25 ?_; intro gb717 hg w32 hbox hb; replace HO710 := rB HO710 hb; replace HO713 := rB HO713 hb; replace HO716 := rB HO716 hb; have BK717 := Aside0.mk (hbox); have GW717 := gw hg HB; have GE717 := gw hg HB; replace HB := hbS HB hb; have NB704_717 := nbl hg BK704; have NB717_704 := nbg hg BK704; replace BK704 := bkB BK704 hb; have NB705_717 := nbl hg BK705; have NB717_705 := nbg hg BK705; replace BK705 := bkB BK705 hb; clear hb hbox hg; have hnb33 := NB717_704.out; have hnc33 := NB704_717.out; have hnb34 := NB717_705.out; have hnc34 := NB705_717.out; obtain ⟨z0, z1, z2, z3, y0, y1, y2, y3⟩ := bc4 BK717; obtain ⟨Ao36, co36, eo36⟩ := Kd.R_slice HO710.out; subst eo36; obtain ⟨Ao37, co37, eo37⟩ := Kd.R_slice HO713.out; subst eo37; obtain ⟨Ao38, co38, eo38⟩ := Kd.R_slice HO716.out; subst eo38))
      (try simp only [Act.put, List.setIfInBounds_toArray, List.set_cons_zero, List.set_cons_succ])
      go_cut [] (fun wc => ∃ (kq : Nat) (x718002_27 : List Int) (x718003_27 : List Int) (u718002 : Value) (u718003 : Value), Aside0 (hopmeshref12_Close.j2 kq a1 a3 a0_0 l0_1 l0_2 l0_3 t707 t708 x718002_27 x718003_27 = some (r1, r2, r3, r4, r5)) ∧ Aside0 (kq ≤ kj7) ∧ Aside0 (Kd.R k34 34 wc w.heap.size (fun _ => True) (.slice Ao36 t708.length co36) t708) ∧ Aside0 (Kd.R (Kd.int .i64) 3 wc w.heap.size (fun k_ => some k_ ≠ (u718003 : Value).ownBlock) u718002 x718002_27) ∧ Aside0 (Kd.R (Kd.int .i64) 3 wc w.heap.size (fun k_ => some k_ ≠ (u718002 : Value).ownBlock) u718003 x718003_27) ∧ Aside0 (wc.heap[gb704]? = some (.cells #[.int .i64 a0_0, (.slice A0_1 l0_1.length c0_1), (.slice A0_2 l0_2.length c0_2), (.slice A0_3 l0_3.length c0_3)] 25 (0, 0))) ∧ Aside0 (wc.heap[gb705]? = some (.cells #[.int .i64 0, (.slice none 0 0), (.slice none 0 0), (.slice none 0 0)] 25 (0, 0))) ∧ Aside0 (wc.heap[gb717]? = some (.cells #[.int .i64 t707, (.slice Ao36 t708.length co36), u718002, u718003] 25 (0, 0))) ∧ Aside0 (Below w.heap.size w wc))
      case first =>
       have H := HC28.out
       clear HC28
       have H' := Aside0.mk H
       clear H
       go_wp2
       go_loopg [] kj7 (fun kq w' => ∃ (x718002_2 : List Int) (x718003_2 : List Int) (u718002 : Value) (u718003 : Value), Aside0 (hopmeshref12_Close.l0 kq a1 a2 a3 a4 a0_0 l0_1 l0_2 l0_3 t707 t708 x718002_2 x718003_2 = some (r1, r2, r3, r4, r5)) ∧ Aside0 (kq ≤ kj7) ∧ Aside0 (Kd.R k34 34 w' w.heap.size (fun _ => True) (.slice Ao36 t708.length co36) t708) ∧ Aside0 (Kd.R (Kd.int .i64) 3 w' w.heap.size (fun k_ => some k_ ≠ (u718003 : Value).ownBlock) u718002 x718002_2) ∧ Aside0 (Kd.R (Kd.int .i64) 3 w' w.heap.size (fun k_ => some k_ ≠ (u718002 : Value).ownBlock) u718003 x718003_2) ∧ Aside0 (w'.heap[gb704]? = some (.cells #[.int .i64 a0_0, (.slice A0_1 l0_1.length c0_1), (.slice A0_2 l0_2.length c0_2), (.slice A0_3 l0_3.length c0_3)] 25 (0, 0))) ∧ Aside0 (w'.heap[gb705]? = some (.cells #[.int .i64 0, (.slice none 0 0), (.slice none 0 0), (.slice none 0 0)] 25 (0, 0))) ∧ Aside0 (w'.heap[gb717]? = some (.cells #[.int .i64 t707, (.slice Ao36 t708.length co36), u718002, u718003] 25 (0, 0))) ∧ Aside0 (Below w.heap.size w w'))
       case atStart => exact ⟨(t711), (t714), (.slice Ao37 t711.length co37), (.slice Ao38 t714.length co38), H', ⟨Nat.le_refl _⟩, ⟨Kd.R_mono (rty (rfo HO710) BK717) (fun _ hk => trivial)⟩, rfA HO713, rfA HO716, bkfA BK704, bkfA BK705, bkpA BK717, hbA HB⟩
       case round =>
        clear H'
        try clear c7
        try clear c7b0
        try clear c7b1
        try clear c20
        try clear c23
        try clear c23b0
        try clear c23b1
        try clear hcz12_0
        try clear hcz12_1
        try clear hcz12_2
        try clear hcz12_3
        try clear hcz30_0
        try clear hcz30_1
        try clear hcz30_2
        try clear hcz30_3
        try clear hcz35_0
        try clear hcz35_1
        try clear hcz35_2
        try clear hcz35_3
        try clear hfz12_0
        try clear hfz12_1
        try clear hfz12_2
        try clear hfz12_3
        try clear hfz30_0
        try clear hfz30_1
        try clear hfz30_2
        try clear hfz30_3
        try clear hfz35_0
        try clear hfz35_1
        try clear hfz35_2
        try clear hfz35_3
        obtain ⟨x718002_2, x718003_2, u718002, u718003, HA, HK2, HO_718001, HO_718002, HO_718003, BK704, BK705, BK717, HB⟩ := hrel
        cases gk with
        | zero => exact absurd HA.out (by simp [hopmeshref12_Close.l0])
        | succ k2 =>
         have H := HA.out
         clear HA
         simp only [hopmeshref12_Close.l0] at H
         replace H := Option.bind_eq_some_iff.mp H
         obtain ⟨t718, A390, H⟩ := H
         (try dsimp only at H)
         have A39 := Aside0.mk A390
         clear A390
         by_cases c40 : t718 > a4
         ·rw [if_pos c40] at H
          have c40b0 : decide (a4 < t718) = true := decide_eq_true c40
          clear c40
          (first | rw [c40b0] | (simp only [i64_w, i32_w]; rw [c40b0]) | skip)
          replace H := Option.bind_eq_some_iff.mp H
          obtain ⟨t719, A410, H⟩ := H
          (try dsimp only at H)
          have A41 := Aside0.mk A410
          clear A410
          by_cases c42 : t719 < 0
          ·rw [if_pos c42] at H
           have c42b0 : decide (t719 < 0) = true := decide_eq_true c42
           clear c42
           have H' := Aside0.mk H
           clear H
           have hnb43 := NB717_704.out
           have hnc43 := NB704_717.out
           have hnb44 := NB717_705.out
           have hnc44 := NB705_717.out
           obtain ⟨z0, z1, z2, z3, y0, y1, y2, y3⟩ := bc4 BK717
           obtain ⟨Ao46, co46, eo46⟩ := Kd.R_slice HO_718002.out
           subst eo46
           obtain ⟨Ao47, co47, eo47⟩ := Kd.R_slice HO_718003.out
           subst eo47
           go_wp2_with (first | ((with_reducible refine gate_callee (f := 49) rfl ?_); refine goesL_ (some 55) rfl rfl Try.func49 (by kernel_rfl) rfl #[.agg #[.int .i64 t707, .slice Ao36 t708.length co36, .slice Ao46 x718002_2.length co46, .slice Ao47 x718003_2.length co47]] rfl sma ?_; (with_reducible refine (hopmeshref12_free.calls k2 t707 _ _ t708 _ _ x718002_2 _ _ x718003_2 t718 _ ?side1 ?side2 ?side3 ?side4 ?side5 ?side6 A39.out).mono ?_); (case side1 => repeat (first | exact (Kd.R_reads' HO_718001.out).2.2 | (with_reducible refine Kd.C_alloc ?_ _) | (with_reducible refine Kd.C_drewN ?_ _) | (with_reducible refine Kd.C_drew ?_))); (case side2 => exact (Kd.R_reads' HO_718001.out).2.1); (case side3 => repeat (first | exact (Kd.R_reads' HO_718002.out).2.2 | (with_reducible refine Kd.C_alloc ?_ _) | (with_reducible refine Kd.C_drewN ?_ _) | (with_reducible refine Kd.C_drew ?_))); (case side4 => exact (Kd.R_reads' HO_718002.out).2.1); (case side5 => repeat (first | exact (Kd.R_reads' HO_718003.out).2.2 | (with_reducible refine Kd.C_alloc ?_ _) | (with_reducible refine Kd.C_drewN ?_ _) | (with_reducible refine Kd.C_drew ?_))); (case side6 => exact (Kd.R_reads' HO_718003.out).2.1); rintro e w48 ⟨rfl, hb⟩; refine ⟨_, rfl, ?_⟩; replace HO_718001 := rB HO_718001 hb; replace HO_718002 := rB HO_718002 hb; replace HO_718003 := rB HO_718003 hb; replace BK704 := bkB BK704 hb; replace BK705 := bkB BK705 hb; replace BK717 := bkB BK717 hb; replace HB := hbS HB hb; (try clear hb); (try clear hb2); (try clear hk); (try clear hi); obtain ⟨z0, z1, z2, z3, y0, y1, y2, y3⟩ := bc4 BK717) | ((with_reducible refine gate_callee (f := 50) rfl ?_); refine goesL_ (some 61) rfl rfl Try.func50 (by kernel_rfl) rfl #[.agg #[.int .i64 t707, .slice Ao36 t708.length co36, .slice Ao46 x718002_2.length co46, .slice Ao47 x718003_2.length co47], .int .i64 a1, .int .i64 a2] rfl sma ?_; (with_reducible refine (hopmeshref12_worst.calls k2 t707 _ _ t708 _ _ x718002_2 _ _ x718003_2 a1 a2 t719 _ ?side1 ?side2 ?side3 ?side4 ?side5 ?side6 A41.out).mono ?_); (case side1 => repeat (first | exact (Kd.R_reads' HO_718001.out).2.2 | (with_reducible refine Kd.C_alloc ?_ _) | (with_reducible refine Kd.C_drewN ?_ _) | (with_reducible refine Kd.C_drew ?_))); (case side2 => exact (Kd.R_reads' HO_718001.out).2.1); (case side3 => repeat (first | exact (Kd.R_reads' HO_718002.out).2.2 | (with_reducible refine Kd.C_alloc ?_ _) | (with_reducible refine Kd.C_drewN ?_ _) | (with_reducible refine Kd.C_drew ?_))); (case side4 => exact (Kd.R_reads' HO_718002.out).2.1); (case side5 => repeat (first | exact (Kd.R_reads' HO_718003.out).2.2 | (with_reducible refine Kd.C_alloc ?_ _) | (with_reducible refine Kd.C_drewN ?_ _) | (with_reducible refine Kd.C_drew ?_))); (case side6 => exact (Kd.R_reads' HO_718003.out).2.1); rintro e w50 ⟨rfl, hb⟩; refine ⟨_, rfl, ?_⟩; replace HO_718001 := rB HO_718001 hb; replace HO_718002 := rB HO_718002 hb; replace HO_718003 := rB HO_718003 hb; replace BK704 := bkB BK704 hb; replace BK705 := bkB BK705 hb; replace BK717 := bkB BK717 hb; replace HB := hbS HB hb; (try clear hb); (try clear hb2); (try clear hk); (try clear hi)))
           go_meet
           case rel => exact ⟨_, (x718002_2), (x718003_2), (.slice Ao46 x718002_2.length co46), (.slice Ao47 x718003_2.length co47), H', ⟨by have := HJ7.out; have := HK2.out; first | omega | exact Nat.le_refl _⟩, roA HO_718001, roA HO_718002, roA HO_718003, bkA BK704, bkA BK705, bkA BK717, hbA HB⟩
          ·rw [if_neg c42] at H
           have c42b0 : decide (t719 < 0) = false := decide_eq_false c42
           clear c42
           by_cases c51 : 0 ≤ t719
           ·rw [if_pos c51] at H
            have c51b0 : decide (0 ≤ t719) = true := decide_eq_true c51
            clear c51
            by_cases c52 : t719 < (x718003_2.length : Int)
            ·rw [if_pos c52] at H
             have c52b0 : decide (t719 < (x718003_2.length : Int)) = true := decide_eq_true c52
             clear c52
             obtain ⟨ji53, hji53⟩ : ∃ j_ : Int, (mx (wrap64 (2 * (rd x718003_2 t719))) 1) = j_ := ⟨_, rfl⟩
             replace H : ((some (x718003_2.set (t719 : Int).toNat (mn (ji53) 64) : List Int)).bind fun y721 => (if t719 < (x718002_2.length : Int) then (hopmeshref12_Close.l0 k2 a1 a2 a3 a4 a0_0 l0_1 l0_2 l0_3 t707 t708 (x718002_2.set (t719 : Int).toNat (wrap64 ((wrap64 (a0_0 + 1)) + (rd y721 t719)))) y721) else (none))) = some (r1, r2, r3, r4, r5) := by first | (rw [hji53] at H; exact H) | (simp only [hji53] at H ⊢; exact H)
             (try rw [hji53] at A39)
             (try rw [hji53] at A41)
             have hji53_ : (if (wrap64 (2 * (rd x718003_2 t719))) < 1 then 1 else (wrap64 (2 * (rd x718003_2 t719)))) = ji53 := hji53
             obtain ⟨ji54, hji54⟩ : ∃ j_ : Int, (mn (ji53) 64) = j_ := ⟨_, rfl⟩
             replace H : ((some (x718003_2.set (t719 : Int).toNat (ji54) : List Int)).bind fun y721 => (if t719 < (x718002_2.length : Int) then (hopmeshref12_Close.l0 k2 a1 a2 a3 a4 a0_0 l0_1 l0_2 l0_3 t707 t708 (x718002_2.set (t719 : Int).toNat (wrap64 ((wrap64 (a0_0 + 1)) + (rd y721 t719)))) y721) else (none))) = some (r1, r2, r3, r4, r5) := by first | (rw [hji54] at H; exact H) | (simp only [hji54] at H ⊢; exact H)
             (try rw [hji54] at A39)
             (try rw [hji54] at A41)
             have hji54_ : (if 64 < (ji53) then 64 else (ji53)) = ji54 := hji54
             obtain ⟨y721, hy721⟩ : ∃ y_ : List Int, y_ = (x718003_2.set (t719 : Int).toNat (ji54)) := ⟨_, rfl⟩
             replace H : (if t719 < (x718002_2.length : Int) then (hopmeshref12_Close.l0 k2 a1 a2 a3 a4 a0_0 l0_1 l0_2 l0_3 t707 t708 (x718002_2.set (t719 : Int).toNat (wrap64 ((wrap64 (a0_0 + 1)) + (rd y721 t719)))) y721) else (none)) = some (r1, r2, r3, r4, r5) := by first | (rw [hy721]; with_reducible exact H) | (have H2_ := (Option.bind_some _ _).symm.trans H; rw [hy721]; with_reducible exact H2_) | (have H2_ := (Option.bind_some _ _).symm.trans H; with_reducible exact H2_) | with_reducible exact H | (rw [hy721]; exact H) | exact H
             have Ny721 := Aside0.mk hy721
             clear hy721
             by_cases c56 : t719 < (x718002_2.length : Int)
             ·rw [if_pos c56] at H
              have c56b0 : decide (t719 < (x718002_2.length : Int)) = true := decide_eq_true c56
              clear c56
              obtain ⟨y723, hy723⟩ : ∃ y_ : List Int, y_ = (x718002_2.set (t719 : Int).toNat (wrap64 ((wrap64 (a0_0 + 1)) + (rd y721 t719)))) := ⟨_, rfl⟩
              replace H : (hopmeshref12_Close.l0 k2 a1 a2 a3 a4 a0_0 l0_1 l0_2 l0_3 t707 t708 y723 y721) = some (r1, r2, r3, r4, r5) := by first | (rw [hy723]; with_reducible exact H) | (have H2_ := (Option.bind_some _ _).symm.trans H; rw [hy723]; with_reducible exact H2_) | (have H2_ := (Option.bind_some _ _).symm.trans H; with_reducible exact H2_) | with_reducible exact H | (rw [hy723]; exact H) | exact H
              have Ny723 := Aside0.mk hy723
              clear hy723
              have H' := Aside0.mk H
              clear H
              have hnb58 := NB717_704.out
              have hnc58 := NB704_717.out
              have hnb59 := NB717_705.out
              have hnc59 := NB705_717.out
              obtain ⟨z0, z1, z2, z3, y0, y1, y2, y3⟩ := bc4 BK717
              obtain ⟨Ao61, co61, eo61⟩ := Kd.R_slice HO_718002.out
              subst eo61
              obtain ⟨Ao62, co62, eo62⟩ := Kd.R_slice HO_718003.out
              subst eo62
              try go_wp2_with (first | ((with_reducible refine gate_callee (f := 49) rfl ?_); refine goesL_ (some 55) rfl rfl Try.func49 (by kernel_rfl) rfl #[.agg #[.int .i64 t707, .slice Ao36 t708.length co36, .slice Ao61 x718002_2.length co61, .slice Ao62 x718003_2.length co62]] rfl sma ?_; (with_reducible refine (hopmeshref12_free.calls k2 t707 _ _ t708 _ _ x718002_2 _ _ x718003_2 t718 _ ?side1 ?side2 ?side3 ?side4 ?side5 ?side6 A39.out).mono ?_); (case side1 => repeat (first | exact (Kd.R_reads' HO_718001.out).2.2 | (with_reducible refine Kd.C_alloc ?_ _) | (with_reducible refine Kd.C_drewN ?_ _) | (with_reducible refine Kd.C_drew ?_))); (case side2 => exact (Kd.R_reads' HO_718001.out).2.1); (case side3 => repeat (first | exact (Kd.R_reads' HO_718002.out).2.2 | (with_reducible refine Kd.C_alloc ?_ _) | (with_reducible refine Kd.C_drewN ?_ _) | (with_reducible refine Kd.C_drew ?_))); (case side4 => exact (Kd.R_reads' HO_718002.out).2.1); (case side5 => repeat (first | exact (Kd.R_reads' HO_718003.out).2.2 | (with_reducible refine Kd.C_alloc ?_ _) | (with_reducible refine Kd.C_drewN ?_ _) | (with_reducible refine Kd.C_drew ?_))); (case side6 => exact (Kd.R_reads' HO_718003.out).2.1); rintro e w63 ⟨rfl, hb⟩; refine ⟨_, rfl, ?_⟩; replace HO_718001 := rB HO_718001 hb; replace HO_718002 := rB HO_718002 hb; replace HO_718003 := rB HO_718003 hb; replace BK704 := bkB BK704 hb; replace BK705 := bkB BK705 hb; replace BK717 := bkB BK717 hb; replace HB := hbS HB hb; (try clear hb); (try clear hb2); (try clear hk); (try clear hi); obtain ⟨z0, z1, z2, z3, y0, y1, y2, y3⟩ := bc4 BK717) | ((with_reducible refine gate_callee (f := 50) rfl ?_); refine goesL_ (some 61) rfl rfl Try.func50 (by kernel_rfl) rfl #[.agg #[.int .i64 t707, .slice Ao36 t708.length co36, .slice Ao61 x718002_2.length co61, .slice Ao62 x718003_2.length co62], .int .i64 a1, .int .i64 a2] rfl sma ?_; (with_reducible refine (hopmeshref12_worst.calls k2 t707 _ _ t708 _ _ x718002_2 _ _ x718003_2 a1 a2 t719 _ ?side1 ?side2 ?side3 ?side4 ?side5 ?side6 A41.out).mono ?_); (case side1 => repeat (first | exact (Kd.R_reads' HO_718001.out).2.2 | (with_reducible refine Kd.C_alloc ?_ _) | (with_reducible refine Kd.C_drewN ?_ _) | (with_reducible refine Kd.C_drew ?_))); (case side2 => exact (Kd.R_reads' HO_718001.out).2.1); (case side3 => repeat (first | exact (Kd.R_reads' HO_718002.out).2.2 | (with_reducible refine Kd.C_alloc ?_ _) | (with_reducible refine Kd.C_drewN ?_ _) | (with_reducible refine Kd.C_drew ?_))); (case side4 => exact (Kd.R_reads' HO_718002.out).2.1); (case side5 => repeat (first | exact (Kd.R_reads' HO_718003.out).2.2 | (with_reducible refine Kd.C_alloc ?_ _) | (with_reducible refine Kd.C_drewN ?_ _) | (with_reducible refine Kd.C_drew ?_))); (case side6 => exact (Kd.R_reads' HO_718003.out).2.1); rintro e w65 ⟨rfl, hb⟩; refine ⟨_, rfl, ?_⟩; replace HO_718001 := rB HO_718001 hb; replace HO_718002 := rB HO_718002 hb; replace HO_718003 := rB HO_718003 hb; replace BK704 := bkB BK704 hb; replace BK705 := bkB BK705 hb; replace BK717 := bkB BK717 hb; replace HB := hbS HB hb; (try clear hb); (try clear hb2); (try clear hk); (try clear hi)))
              replace HO_718001 := Aside0.mk (Kd.R_drew HO_718001.out)
              replace HO_718002 := Aside0.mk (Kd.R_drew HO_718002.out)
              replace HO_718003 := Aside0.mk (Kd.R_drew HO_718003.out)
              replace BK704 := Aside0.mk (blk_drew BK704.out)
              replace BK705 := Aside0.mk (blk_drew BK705.out)
              replace BK717 := Aside0.mk (blk_drew BK717.out)
              replace HB := Aside0.mk (below_drew1 HB.out)
              have p720 : 0 ≤ (t719 : Int) := pos_
              have q720 : t719 < (x718003_2.length : Int) := pos_
              obtain ⟨ad720, e720, hx720_0⟩ := Kd.at_int (Kd.R_reads' HO_718003.out).2.2 t719 p720 q720
              cases e720
              replace p720 := eq_true p720
              replace q720 := eq_true q720
              have p55 : 0 ≤ (t719 : Int) := pos_
              have q55 : (t719 : Int) < ((x718003_2.length : Int) : Int) := pos_
              obtain ⟨go55, co55, eo55, gb55, gl55, cl55, HG55⟩ := Kd.R_form HO_718003.out (by omega)
              (first | cases eo55 | (injection eo55 with ea_ en_ ec_; (first | subst ea_ | (injection ea_ with ea_; subst ea_)); subst ec_; clear en_))
              have GB55 := Aside0.mk gb55
              have GG55 := Aside0.mk HG55
              clear gb55 gl55 HG55
              (first | simp only [add_plain] at hx720_0 | skip)
              obtain ⟨hx55_0, hf55_0⟩ := Kd.R_celln 0 HO_718003.out (t719 : Int) p55 q55
              replace p55 := eq_true p55
              replace q55 := eq_true q55
              have HP67 := Kd.R_putn HO_718003.out (t719 : Int) ji54
              rw [← Ny721.out] at HP67
              have HQ67 := Aside0.mk HP67
              clear HP67
              refine start_ (n := 13) (S := fun w' => w'.cell? ⟨gb717, 0, none⟩ = some (.int .i64 t707) ∧ w'.cell? ⟨gb717, 1, none⟩ = some (.slice Ao36 t708.length co36) ∧ w'.cell? ⟨gb717, 2, none⟩ = some (.slice Ao61 x718002_2.length co61) ∧ w'.cell? ⟨gb717, 3, none⟩ = some (.slice (some ⟨go55, 0, none⟩) x718003_2.length co62) ∧ w'.cell? ⟨go55, (t719).toNat, none⟩ = some (.int .i64 (rd x718003_2 t719))) (ds := [12]) #[false, false, false, false, false, false, false, false, false, false, false, false, false] (by kernel_rfl) rfl rfl ⟨(blk_cell BK717.out 0).trans rfl, (blk_cell BK717.out 1).trans rfl, (blk_cell BK717.out 2).trans rfl, (blk_cell BK717.out 3).trans rfl, hx720_0⟩ (fun hHeld => ?_); refine with_tabW hopmeshref12_Close.tab11 hopmeshref12_Close.bits11 (fun HT_ HW_ => ?_)
              generalize w65.drew = w66 at HO_718001 HO_718002 HO_718003 BK704 BK705 BK717 HB GG55 HQ67 hf55_0 hx55_0 hx720_0 hHeld ⊢
              refine pur 0 (some 64) #[true, false, false, false, false, false, false, false, false, false, false, false, false] HT_ ?_
              refine pur 2 (some 66) #[true, false, true, false, false, false, false, false, false, false, false, false, false] HT_ ?_
              refine pur 3 (some 67) #[true, false, true, true, false, false, false, false, false, false, false, false, false] HT_ ?_
              refine pur 5 (some 69) #[true, false, true, true, false, true, false, false, false, false, false, false, false] HT_ ?_
              refine tak 1 (some 65) #[true, true, true, true, false, true, false, false, false, false, false, false, false] HT_ HW_ hHeld rfl (Or.inl ⟨by rfl, by rintro w' ⟨s0, s1, s2, s3, s4⟩; go_simp; with_reducible rfl⟩) ?_
              refine tak 4 (some 68) #[true, true, true, true, true, true, false, false, false, false, false, false, false] HT_ HW_ hHeld rfl (Or.inl ⟨by rfl, by rintro w' ⟨s0, s1, s2, s3, s4⟩; go_simp; with_reducible rfl⟩) ?_
              refine pur 6 (some 70) #[true, true, true, true, true, true, true, false, false, false, false, false, false] HT_ ?_
              refine tak 7 (some 71) #[true, true, true, true, true, true, true, true, false, false, false, false, false] HT_ HW_ hHeld rfl (Or.inl ⟨by rfl, by rintro w' ⟨s0, s1, s2, s3, s4⟩; go_simp; with_reducible rfl⟩) ?_
              refine pur 8 (some 72) #[true, true, true, true, true, true, true, true, true, false, false, false, false] HT_ ?_
              refine pur 9 (some 73) #[true, true, true, true, true, true, true, true, true, true, false, false, false] HT_ ?_
              refine pur 10 (some 74) #[true, true, true, true, true, true, true, true, true, true, true, false, false] HT_ ?_
              refine pur 11 (some 75) #[true, true, true, true, true, true, true, true, true, true, true, true, false] HT_ ?_
              refine last_ (i := 12) (N := none) #[true, true, true, true, true, true, true, true, true, true, true, true, true] rfl rfl (one_of HT_.out (by kernel_rfl)) (by decide) (fun K hK => ?_)
              refine skip_ (w1 := ?_) (by rfl) rfl ?_ ?_
              rotate_left
              ·go_simp
               rfl
              refine hK.out _ _ ?_
              clear hK K
              refine done_ (done_of HT_.out (by kernel_rfl)) ?_
              try go_wp2
              have n0_ : Aside0 (Kd.R k34 34 (w66.setCell ⟨go55, (t719 : Int).toNat, none⟩ (.int .i64 ji54)) w.heap.size (fun _ => True) (.slice Ao36 t708.length co36) t708) := ⟨by (with_reducible repeat (first | apply Kd.R_alloc | apply Kd.R_drewN | apply Kd.R_drew)); exact Kd.R_mono (Kd.R_far (p := ⟨go55, (t719 : Int).toNat, none⟩) (Kd.R_types HO_718001.out GG55.out (by decide)) (fun _ hk => hk.2) (.int .i64 ji54)) (fun _ hk => trivial)⟩
              have n1_ : Aside0 (Kd.R (Kd.int .i64) 3 (w66.setCell ⟨go55, (t719 : Int).toNat, none⟩ (.int .i64 ji54)) w.heap.size (fun k_ => some k_ ≠ (.slice (some ⟨go55, 0, none⟩) x718003_2.length co62 : Value).ownBlock) (.slice Ao61 x718002_2.length co61) x718002_2) := ⟨by (with_reducible repeat (first | apply Kd.R_alloc | apply Kd.R_drewN | apply Kd.R_drew)); exact Kd.R_mono (Kd.R_far (p := ⟨go55, (t719 : Int).toNat, none⟩) (Kd.R_mono HO_718002.out (fun k_ hk => (⟨hk, fun e_ => hk (by rw [e_]; rfl)⟩ : _ ∧ k_ ≠ go55))) (fun _ hk => hk.2) (.int .i64 ji54)) (fun _ hk => hk.1)⟩
              have n2_ : Aside0 (Kd.R (Kd.int .i64) 3 (w66.setCell ⟨go55, (t719 : Int).toNat, none⟩ (.int .i64 ji54)) w.heap.size (fun k_ => some k_ ≠ (.slice Ao61 x718002_2.length co61 : Value).ownBlock) (.slice (some ⟨go55, 0, none⟩) x718003_2.length co62) y721) := ⟨by (with_reducible repeat (first | apply Kd.R_alloc | apply Kd.R_drewN | apply Kd.R_drew)); exact HQ67.out⟩
              have n3_ : Aside0 ((w66.setCell ⟨go55, (t719 : Int).toNat, none⟩ (.int .i64 ji54)).heap[gb704]? = some (.cells #[.int .i64 a0_0, .slice A0_1 l0_1.length c0_1, .slice A0_2 l0_2.length c0_2, .slice A0_3 l0_3.length c0_3] 25 (0, 0))) := ⟨by (with_reducible repeat (first | refine blk_drewN ?_ _ | refine blk_drew ?_ | refine blk_alloc ?_ _)); refine blk_far ?_ (by have h_ := Kd.R_ne HO_718003.out BK704.out (by decide); intro e_; exact h_ (by rw [e_]; rfl)) _; (with_reducible repeat (first | refine blk_drewN ?_ _ | refine blk_drew ?_ | refine blk_alloc ?_ _)); exact BK704.out⟩
              have n4_ : Aside0 ((w66.setCell ⟨go55, (t719 : Int).toNat, none⟩ (.int .i64 ji54)).heap[gb705]? = some (.cells #[.int .i64 0, .slice none 0 0, .slice none 0 0, .slice none 0 0] 25 (0, 0))) := ⟨by (with_reducible repeat (first | refine blk_drewN ?_ _ | refine blk_drew ?_ | refine blk_alloc ?_ _)); refine blk_far ?_ (by have h_ := Kd.R_ne HO_718003.out BK705.out (by decide); intro e_; exact h_ (by rw [e_]; rfl)) _; (with_reducible repeat (first | refine blk_drewN ?_ _ | refine blk_drew ?_ | refine blk_alloc ?_ _)); exact BK705.out⟩
              have n5_ : Aside0 ((w66.setCell ⟨go55, (t719 : Int).toNat, none⟩ (.int .i64 ji54)).heap[gb717]? = some (.cells #[.int .i64 t707, .slice Ao36 t708.length co36, .slice Ao61 x718002_2.length co61, .slice (some ⟨go55, 0, none⟩) x718003_2.length co62] 25 (0, 0))) := ⟨by (with_reducible repeat (first | refine blk_drewN ?_ _ | refine blk_drew ?_ | refine blk_alloc ?_ _)); refine blk_far ?_ (by have h_ := Kd.R_ne HO_718003.out BK717.out (by decide); intro e_; exact h_ (by rw [e_]; rfl)) _; (with_reducible repeat (first | refine blk_drewN ?_ _ | refine blk_drew ?_ | refine blk_alloc ?_ _)); exact BK717.out⟩
              have n6_ : Aside0 (Below w.heap.size w (w66.setCell ⟨go55, (t719 : Int).toNat, none⟩ (.int .i64 ji54))) := ⟨by repeat (first | (with_reducible first | exact HB.out | apply below_alloc | apply pw_below_drewN | apply below_drew1 | refine below_set ?_ GB55.out | refine below_set ?_ GE704.out | refine below_set ?_ GE705.out | refine below_set ?_ GE717.out) | exact HB.out)⟩
              (try clear HO_718001)
              (try clear HO_718002)
              (try clear HO_718003)
              (try clear BK704)
              (try clear BK705)
              (try clear BK717)
              (try clear HB)
              generalize (w66.setCell ⟨go55, (t719 : Int).toNat, none⟩ (.int .i64 ji54)) = w68 at n0_ n1_ n2_ n3_ n4_ n5_ n6_ ⊢
              have HO_718001 := n0_
              have HO_718002 := n1_
              have HO_718003 := n2_
              have BK704 := n3_
              have BK705 := n4_
              have BK717 := n5_
              have HB := n6_
              clear n0_ n1_ n2_ n3_ n4_ n5_ n6_
              replace HO_718001 := Aside0.mk (Kd.R_drew HO_718001.out)
              replace HO_718002 := Aside0.mk (Kd.R_drew HO_718002.out)
              replace HO_718003 := Aside0.mk (Kd.R_drew HO_718003.out)
              replace BK704 := Aside0.mk (blk_drew BK704.out)
              replace BK705 := Aside0.mk (blk_drew BK705.out)
              replace BK717 := Aside0.mk (blk_drew BK717.out)
              replace HB := Aside0.mk (below_drew1 HB.out)
              have p722 : 0 ≤ (t719 : Int) := pos_
              have q722 : t719 < (y721.length : Int) := (by have h_ : (t719 : Int) < ((x718003_2.length : Int) : Int) := pos_; first | (have e_ := (Kd.R_reads' HO_718003.out).1; omega) | simpa only [Ny721.out, List.length_set] using h_)
              have ql722 : ((t719 : Int) < ((x718003_2.length : Int) : Int)) = True := eq_true (pos_)
              obtain ⟨ad722, e722, hx722_0⟩ := Kd.at_int (Kd.R_reads' HO_718003.out).2.2 t719 p722 q722
              obtain rfl : (⟨go55, 0, none⟩ : Addr) = ad722 := (by injection e722)
              (first | simp only [add_plain] at hx722_0 | simp only [add_at] at hx722_0 | simp only [Addr.add, Nat.zero_add] at hx722_0 | skip)
              replace p722 := eq_true p722
              replace q722 := eq_true q722
              have p57 : 0 ≤ (t719 : Int) := pos_
              have q57 : (t719 : Int) < ((x718002_2.length : Int) : Int) := pos_
              obtain ⟨go57, co57, eo57, gb57, gl57, cl57, HG57⟩ := Kd.R_form HO_718002.out (by omega)
              (first | cases eo57 | (injection eo57 with ea_ en_ ec_; (first | subst ea_ | (injection ea_ with ea_; subst ea_)); subst ec_; clear en_))
              have GB57 := Aside0.mk gb57
              have GG57 := Aside0.mk HG57
              clear gb57 gl57 HG57
              obtain ⟨hx57_0, hf57_0⟩ := Kd.R_celln 0 HO_718002.out (t719 : Int) p57 q57
              replace p57 := eq_true p57
              replace q57 := eq_true q57
              have HP70 := Kd.R_putn HO_718002.out (t719 : Int) (wrap64 ((wrap64 (a0_0 + 1)) + (rd y721 t719)))
              rw [← Ny723.out] at HP70
              have HQ70 := Aside0.mk HP70
              clear HP70
              refine start_ (n := 14) (S := fun w' => w'.cell? ⟨gb717, 0, none⟩ = some (.int .i64 t707) ∧ w'.cell? ⟨gb717, 1, none⟩ = some (.slice Ao36 t708.length co36) ∧ w'.cell? ⟨gb717, 2, none⟩ = some (.slice (some ⟨go57, 0, none⟩) x718002_2.length co61) ∧ w'.cell? ⟨gb717, 3, none⟩ = some (.slice (some ⟨go55, 0, none⟩) x718003_2.length co62) ∧ w'.cell? ⟨gb704, 0, none⟩ = some (.int .i64 a0_0) ∧ w'.cell? ⟨gb704, 1, none⟩ = some (.slice A0_1 l0_1.length c0_1) ∧ w'.cell? ⟨gb704, 2, none⟩ = some (.slice A0_2 l0_2.length c0_2) ∧ w'.cell? ⟨gb704, 3, none⟩ = some (.slice A0_3 l0_3.length c0_3) ∧ w'.cell? ⟨go55, (t719).toNat, none⟩ = some (.int .i64 (rd y721 t719))) (ds := [13]) #[false, false, false, false, false, false, false, false, false, false, false, false, false, false] (by kernel_rfl) rfl rfl ⟨(blk_cell BK717.out 0).trans rfl, (blk_cell BK717.out 1).trans rfl, (blk_cell BK717.out 2).trans rfl, (blk_cell BK717.out 3).trans rfl, (blk_cell BK704.out 0).trans rfl, (blk_cell BK704.out 1).trans rfl, (blk_cell BK704.out 2).trans rfl, (blk_cell BK704.out 3).trans rfl, hx722_0⟩ (fun hHeld => ?_); refine with_tabW hopmeshref12_Close.tab12 hopmeshref12_Close.bits12 (fun HT_ HW_ => ?_)
              generalize w68.drew = w69 at HO_718001 HO_718002 HO_718003 BK704 BK705 BK717 HB GG57 HQ67 HQ70 hf57_0 hx57_0 hx722_0 hHeld ⊢
              refine pur 0 (some 76) #[true, false, false, false, false, false, false, false, false, false, false, false, false, false] HT_ ?_
              refine pur 2 (some 78) #[true, false, true, false, false, false, false, false, false, false, false, false, false, false] HT_ ?_
              refine pur 3 (some 79) #[true, false, true, true, false, false, false, false, false, false, false, false, false, false] HT_ ?_
              refine pur 6 (some 82) #[true, false, true, true, false, false, true, false, false, false, false, false, false, false] HT_ ?_
              refine pur 8 (some 84) #[true, false, true, true, false, false, true, false, true, false, false, false, false, false] HT_ ?_
              refine tak 1 (some 77) #[true, true, true, true, false, false, true, false, true, false, false, false, false, false] HT_ HW_ hHeld rfl (Or.inl ⟨by rfl, by rintro w' ⟨s0, s1, s2, s3, s4, s5, s6, s7, s8⟩; go_simp; with_reducible rfl⟩) ?_
              refine tak 4 (some 80) #[true, true, true, true, true, false, true, false, true, false, false, false, false, false] HT_ HW_ hHeld rfl (Or.inl ⟨by rfl, by rintro w' ⟨s0, s1, s2, s3, s4, s5, s6, s7, s8⟩; go_simp; with_reducible rfl⟩) ?_
              refine pur 5 (some 81) #[true, true, true, true, true, true, true, false, true, false, false, false, false, false] HT_ ?_
              refine tak 7 (some 83) #[true, true, true, true, true, true, true, true, true, false, false, false, false, false] HT_ HW_ hHeld rfl (Or.inl ⟨by rfl, by rintro w' ⟨s0, s1, s2, s3, s4, s5, s6, s7, s8⟩; go_simp; with_reducible rfl⟩) ?_
              refine pur 9 (some 85) #[true, true, true, true, true, true, true, true, true, true, false, false, false, false] HT_ ?_
              refine tak 10 (some 86) #[true, true, true, true, true, true, true, true, true, true, true, false, false, false] HT_ HW_ hHeld rfl (Or.inl ⟨by rfl, by rintro w' ⟨s0, s1, s2, s3, s4, s5, s6, s7, s8⟩; go_simp; with_reducible rfl⟩) ?_
              refine pur 11 (some 87) #[true, true, true, true, true, true, true, true, true, true, true, true, false, false] HT_ ?_
              refine pur 12 (some 88) #[true, true, true, true, true, true, true, true, true, true, true, true, true, false] HT_ ?_
              refine last_ (i := 13) (N := none) #[true, true, true, true, true, true, true, true, true, true, true, true, true, true] rfl rfl (one_of HT_.out (by kernel_rfl)) (by decide) (fun K hK => ?_)
              refine skip_ (w1 := ?_) (by rfl) rfl ?_ ?_
              rotate_left
              ·go_simp
               rfl
              refine hK.out _ _ ?_
              clear hK K
              refine done_ (done_of HT_.out (by kernel_rfl)) ?_
              try go_wp2
              go_roundg k2
              case measure => have := HJ7.out; have := HK2.out; omega
              case rel => exact ⟨(y723), (y721), (.slice (some ⟨go57, 0, none⟩) x718002_2.length co61), (.slice (some ⟨go55, 0, none⟩) x718003_2.length co62), H', ⟨by have := HJ7.out; have := HK2.out; omega⟩, ⟨by (with_reducible repeat (first | apply Kd.R_alloc | apply Kd.R_drewN | apply Kd.R_drew)); exact Kd.R_mono (Kd.R_far (p := ⟨go57, (t719 : Int).toNat, none⟩) (Kd.R_types HO_718001.out GG57.out (by decide)) (fun _ hk => hk.2) (.int .i64 (wrap64 ((wrap64 (a0_0 + 1)) + (rd y721 t719))))) (fun _ hk => trivial)⟩, ⟨by (with_reducible repeat (first | apply Kd.R_alloc | apply Kd.R_drewN | apply Kd.R_drew)); exact HQ70.out⟩, ⟨by (with_reducible repeat (first | apply Kd.R_alloc | apply Kd.R_drewN | apply Kd.R_drew)); exact Kd.R_mono (Kd.R_far (p := ⟨go57, (t719 : Int).toNat, none⟩) (Kd.R_mono HO_718003.out (fun k_ hk => (⟨hk, fun e_ => hk (by rw [e_]; rfl)⟩ : _ ∧ k_ ≠ go57))) (fun _ hk => hk.2) (.int .i64 (wrap64 ((wrap64 (a0_0 + 1)) + (rd y721 t719))))) (fun _ hk => hk.1)⟩, ⟨by (with_reducible repeat (first | refine blk_drewN ?_ _ | refine blk_drew ?_ | refine blk_alloc ?_ _)); refine blk_far ?_ (by have h_ := Kd.R_ne HO_718002.out BK704.out (by decide); intro e_; exact h_ (by rw [e_]; rfl)) _; (with_reducible repeat (first | refine blk_drewN ?_ _ | refine blk_drew ?_ | refine blk_alloc ?_ _)); exact BK704.out⟩, ⟨by (with_reducible repeat (first | refine blk_drewN ?_ _ | refine blk_drew ?_ | refine blk_alloc ?_ _)); refine blk_far ?_ (by have h_ := Kd.R_ne HO_718002.out BK705.out (by decide); intro e_; exact h_ (by rw [e_]; rfl)) _; (with_reducible repeat (first | refine blk_drewN ?_ _ | refine blk_drew ?_ | refine blk_alloc ?_ _)); exact BK705.out⟩, ⟨by (with_reducible repeat (first | refine blk_drewN ?_ _ | refine blk_drew ?_ | refine blk_alloc ?_ _)); refine blk_far ?_ (by have h_ := Kd.R_ne HO_718002.out BK717.out (by decide); intro e_; exact h_ (by rw [e_]; rfl)) _; (with_reducible repeat (first | refine blk_drewN ?_ _ | refine blk_drew ?_ | refine blk_alloc ?_ _)); exact BK717.out⟩, ⟨by repeat (first | (with_reducible first | exact HB.out | apply below_alloc | apply pw_below_drewN | apply below_drew1 | refine below_set ?_ GB57.out | refine below_set ?_ GE704.out | refine below_set ?_ GE705.out | refine below_set ?_ GE717.out) | exact HB.out)⟩⟩
             ·rw [if_neg c56] at H
              exact absurd H (by simp)
            ·rw [if_neg c52] at H
             exact absurd H (by simp)
           ·rw [if_neg c51] at H
            exact absurd H (by simp)
         ·rw [if_neg c40] at H
          have c40b0 : decide (a4 < t718) = false := decide_eq_false c40
          clear c40
          (first | rw [c40b0] | (simp only [i64_w, i32_w]; rw [c40b0]) | skip)
          have H' := Aside0.mk H
          clear H
          have hnb71 := NB717_704.out
          have hnc71 := NB704_717.out
          have hnb72 := NB717_705.out
          have hnc72 := NB705_717.out
          obtain ⟨z0, z1, z2, z3, y0, y1, y2, y3⟩ := bc4 BK717
          obtain ⟨Ao74, co74, eo74⟩ := Kd.R_slice HO_718002.out
          subst eo74
          obtain ⟨Ao75, co75, eo75⟩ := Kd.R_slice HO_718003.out
          subst eo75
          go_wp2_with (first | ((with_reducible refine gate_callee (f := 49) rfl ?_); refine goesL_ (some 55) rfl rfl Try.func49 (by kernel_rfl) rfl #[.agg #[.int .i64 t707, .slice Ao36 t708.length co36, .slice Ao74 x718002_2.length co74, .slice Ao75 x718003_2.length co75]] rfl sma ?_; (with_reducible refine (hopmeshref12_free.calls k2 t707 _ _ t708 _ _ x718002_2 _ _ x718003_2 t718 _ ?side1 ?side2 ?side3 ?side4 ?side5 ?side6 A39.out).mono ?_); (case side1 => repeat (first | exact (Kd.R_reads' HO_718001.out).2.2 | (with_reducible refine Kd.C_alloc ?_ _) | (with_reducible refine Kd.C_drewN ?_ _) | (with_reducible refine Kd.C_drew ?_))); (case side2 => exact (Kd.R_reads' HO_718001.out).2.1); (case side3 => repeat (first | exact (Kd.R_reads' HO_718002.out).2.2 | (with_reducible refine Kd.C_alloc ?_ _) | (with_reducible refine Kd.C_drewN ?_ _) | (with_reducible refine Kd.C_drew ?_))); (case side4 => exact (Kd.R_reads' HO_718002.out).2.1); (case side5 => repeat (first | exact (Kd.R_reads' HO_718003.out).2.2 | (with_reducible refine Kd.C_alloc ?_ _) | (with_reducible refine Kd.C_drewN ?_ _) | (with_reducible refine Kd.C_drew ?_))); (case side6 => exact (Kd.R_reads' HO_718003.out).2.1); rintro e w76 ⟨rfl, hb⟩; refine ⟨_, rfl, ?_⟩; replace HO_718001 := rB HO_718001 hb; replace HO_718002 := rB HO_718002 hb; replace HO_718003 := rB HO_718003 hb; replace BK704 := bkB BK704 hb; replace BK705 := bkB BK705 hb; replace BK717 := bkB BK717 hb; replace HB := hbS HB hb; (try clear hb); (try clear hb2); (try clear hk); (try clear hi)))
          go_meet
          case rel => exact ⟨_, (x718002_2), (x718003_2), (.slice Ao74 x718002_2.length co74), (.slice Ao75 x718003_2.length co75), H', ⟨by have := HJ7.out; have := HK2.out; first | omega | exact Nat.le_refl _⟩, roA HO_718001, roA HO_718002, roA HO_718003, bkA BK704, bkA BK705, bkA BK717, hbA HB⟩
      case rest =>
       clear HC28
       try clear c7
       try clear c7b0
       try clear c7b1
       try clear c20
       try clear c23
       try clear c23b0
       try clear c23b1
       try clear hcz12_0
       try clear hcz12_1
       try clear hcz12_2
       try clear hcz12_3
       try clear hcz30_0
       try clear hcz30_1
       try clear hcz30_2
       try clear hcz30_3
       try clear hcz35_0
       try clear hcz35_1
       try clear hcz35_2
       try clear hcz35_3
       try clear hfz12_0
       try clear hfz12_1
       try clear hfz12_2
       try clear hfz12_3
       try clear hfz30_0
       try clear hfz30_1
       try clear hfz30_2
       try clear hfz30_3
       try clear hfz35_0
       try clear hfz35_1
       try clear hfz35_2
       try clear hfz35_3
       obtain ⟨kq, x718002_27, x718003_27, u718002, u718003, HA, HJ27, HO_718001, HO_718002, HO_718003, BK704, BK705, BK717, HB⟩ := hcut
       cases kq with
       | zero => exact absurd HA.out (by simp [hopmeshref12_Close.j2])
       | succ kj27 =>
        have H := HA.out
        clear HA
        simp only [hopmeshref12_Close.j2] at H
        have H' := Aside0.mk H
        clear H
        go_wp2
        go_loopg [14] kj27 (fun kq v14 w' => ∃ (x14_3 : Int) (x718002_3 : List Int) (x718003_3 : List Int) (u718002 : Value) (u718003 : Value), v14 = .int .i64 x14_3 ∧ Aside0 (hopmeshref12_Close.l1 kq a1 a3 x14_3 a0_0 l0_1 l0_2 l0_3 t707 t708 x718002_3 x718003_3 = some (r1, r2, r3, r4, r5)) ∧ Aside0 (kq ≤ kj27) ∧ Aside0 (Kd.R k34 34 w' w.heap.size (fun _ => True) (.slice Ao36 t708.length co36) t708) ∧ Aside0 (Kd.R (Kd.int .i64) 3 w' w.heap.size (fun k_ => some k_ ≠ (u718003 : Value).ownBlock) u718002 x718002_3) ∧ Aside0 (Kd.R (Kd.int .i64) 3 w' w.heap.size (fun k_ => some k_ ≠ (u718002 : Value).ownBlock) u718003 x718003_3) ∧ Aside0 (w'.heap[gb704]? = some (.cells #[.int .i64 a0_0, (.slice A0_1 l0_1.length c0_1), (.slice A0_2 l0_2.length c0_2), (.slice A0_3 l0_3.length c0_3)] 25 (0, 0))) ∧ Aside0 (w'.heap[gb705]? = some (.cells #[.int .i64 0, (.slice none 0 0), (.slice none 0 0), (.slice none 0 0)] 25 (0, 0))) ∧ Aside0 (w'.heap[gb717]? = some (.cells #[.int .i64 t707, (.slice Ao36 t708.length co36), u718002, u718003] 25 (0, 0))) ∧ Aside0 (Below w.heap.size w w'))
        case atStart => exact ⟨(0), (x718002_27), (x718003_27), (u718002), (u718003), rfs, H', ⟨Nat.le_refl _⟩, roA HO_718001, roA HO_718002, roA HO_718003, bkA BK704, bkA BK705, bkA BK717, hbA HB⟩
        case round =>
         clear H'
         try clear c7
         try clear c7b0
         try clear c7b1
         try clear c20
         try clear c23
         try clear c23b0
         try clear c23b1
         try clear hcz12_0
         try clear hcz12_1
         try clear hcz12_2
         try clear hcz12_3
         try clear hcz30_0
         try clear hcz30_1
         try clear hcz30_2
         try clear hcz30_3
         try clear hcz35_0
         try clear hcz35_1
         try clear hcz35_2
         try clear hcz35_3
         try clear hfz12_0
         try clear hfz12_1
         try clear hfz12_2
         try clear hfz12_3
         try clear hfz30_0
         try clear hfz30_1
         try clear hfz30_2
         try clear hfz30_3
         try clear hfz35_0
         try clear hfz35_1
         try clear hfz35_2
         try clear hfz35_3
         obtain ⟨x14_3, x718002_3, x718003_3, u718002, u718003, rfl, HA, HK3, HO_718001, HO_718002, HO_718003, BK704, BK705, BK717, HB⟩ := hrel
         cases gk with
         | zero => exact absurd HA.out (by simp [hopmeshref12_Close.l1])
         | succ k3 =>
          have H := HA.out
          clear HA
          simp only [hopmeshref12_Close.l1] at H
          by_cases c77 : x14_3 < 16
          ·rw [if_pos c77] at H
           have c77b0 : decide (x14_3 < 16) = true := decide_eq_true c77
           clear c77
           by_cases c78 : 0 ≤ x14_3
           ·rw [if_pos c78] at H
            have c78b0 : decide (0 ≤ x14_3) = true := decide_eq_true c78
            clear c78
            by_cases c79 : x14_3 < (l0_2.length : Int)
            ·rw [if_pos c79] at H
             have c79b0 : decide (x14_3 < (l0_2.length : Int)) = true := decide_eq_true c79
             clear c79
             by_cases c80 : (rd l0_2 x14_3) = 0
             ·rw [if_pos c80] at H
              have c80b0 : ((rd l0_2 x14_3) == 0) = true := beq_iff_eq.mpr c80
              have c80b1 : ((rd l0_2 x14_3) != 0) = false := bne_eq_false_iff_eq.mpr c80
              clear c80
              by_cases c81 : x14_3 < (l0_1.length : Int)
              ·rw [if_pos c81] at H
               have c81b0 : decide (x14_3 < (l0_1.length : Int)) = true := decide_eq_true c81
               clear c81
               by_cases c82 : ((rd_T34 l0_1 x14_3).f0) ≥ a1
               ·rw [if_pos c82] at H
                have c82b0 : decide (a1 ≤ ((rd_T34 l0_1 x14_3).f0)) = true := decide_eq_true c82
                clear c82
                replace H := Option.bind_eq_some_iff.mp H
                obtain ⟨t727, A830, H⟩ := H
                (try dsimp only at H)
                have A83 := Aside0.mk A830
                clear A830
                by_cases c84 : t727 ≥ a3
                ·rw [if_pos c84] at H
                 have c84b0 : decide (a3 ≤ t727) = true := decide_eq_true c84
                 clear c84
                 by_cases c85 : x14_3 < (x718002_3.length : Int)
                 ·rw [if_pos c85] at H
                  have c85b0 : decide (x14_3 < (x718002_3.length : Int)) = true := decide_eq_true c85
                  clear c85
                  by_cases c86 : (rd x718002_3 x14_3) = 0
                  ·rw [if_pos c86] at H
                   have c86b0 : ((rd x718002_3 x14_3) == 0) = true := beq_iff_eq.mpr c86
                   have c86b1 : ((rd x718002_3 x14_3) != 0) = false := bne_eq_false_iff_eq.mpr c86
                   clear c86
                   by_cases c87 : x14_3 < (x718003_3.length : Int)
                   ·rw [if_pos c87] at H
                    have c87b0 : decide (x14_3 < (x718003_3.length : Int)) = true := decide_eq_true c87
                    clear c87
                    obtain ⟨y729, hy729⟩ : ∃ y_ : List Int, y_ = (x718003_3.set (x14_3 : Int).toNat 0) := ⟨_, rfl⟩
                    replace H : (hopmeshref12_Close.l1 k3 a1 a3 (wrap64 (x14_3 + 1)) a0_0 l0_1 l0_2 l0_3 t707 t708 x718002_3 y729) = some (r1, r2, r3, r4, r5) := by first | (rw [hy729]; with_reducible exact H) | (have H2_ := (Option.bind_some _ _).symm.trans H; rw [hy729]; with_reducible exact H2_) | (have H2_ := (Option.bind_some _ _).symm.trans H; with_reducible exact H2_) | with_reducible exact H | (rw [hy729]; exact H) | exact H
                    have Ny729 := Aside0.mk hy729
                    clear hy729
                    have H' := Aside0.mk H
                    clear H
                    have hnb89 := NB704_705.out
                    have hnc89 := NB705_704.out
                    have hnb90 := NB704_717.out
                    have hnc90 := NB717_704.out
                    obtain ⟨z0, z1, z2, z3, y0, y1, y2, y3⟩ := bc4 BK704
                    have p724 : 0 ≤ (x14_3 : Int) := pos_
                    have q724 : x14_3 < (l0_2.length : Int) := pos_
                    obtain ⟨ad724, e724, hx724_0⟩ := Kd.at_int HR0_2.out x14_3 p724 q724
                    cases e724
                    replace hx724_0 := (HB.out.cell (World.block_lt_of_cell? w _ hx724_0)).trans hx724_0
                    replace p724 := eq_true p724
                    replace q724 := eq_true q724
                    have p725 : 0 ≤ (x14_3 : Int) := pos_
                    have q725 : x14_3 < (l0_1.length : Int) := pos_
                    obtain ⟨ad725, e725, hx725_0, hx725_1⟩ := at_T34 HR0_1.out x14_3 p725 q725
                    cases e725
                    replace hx725_0 := (HB.out.cell (World.block_lt_of_cell? w _ hx725_0)).trans hx725_0
                    replace hx725_1 := (HB.out.cell (World.block_lt_of_cell? w _ hx725_1)).trans hx725_1
                    replace p725 := eq_true p725
                    replace q725 := eq_true q725
                    have p726 : 0 ≤ (x14_3 : Int) := pos_
                    have q726 : x14_3 < (l0_1.length : Int) := pos_
                    obtain ⟨ad726, e726, hx726_0, hx726_1⟩ := at_T34 HR0_1.out x14_3 p726 q726
                    obtain rfl : ad725 = ad726 := (by injection e726)
                    replace hx726_0 := (HB.out.cell (World.block_lt_of_cell? w _ hx726_0)).trans hx726_0
                    replace hx726_1 := (HB.out.cell (World.block_lt_of_cell? w _ hx726_1)).trans hx726_1
                    replace p726 := eq_true p726
                    replace q726 := eq_true q726
                    go_wp2_with (first | (go_at_call 44; (with_reducible refine (hopmeshref12_rate.calls ((rd_T34 l0_1 x14_3).f0) ((rd_T34 l0_1 x14_3).f1) t727 _ A83.out).mono ?_); rintro e w92 ⟨rfl, hb⟩; replace HO_718001 := rB HO_718001 hb; replace HO_718002 := rB HO_718002 hb; replace HO_718003 := rB HO_718003 hb; replace BK704 := bkB BK704 hb; replace BK705 := bkB BK705 hb; replace BK717 := bkB BK717 hb; replace HB := hbS HB hb; (try clear hb); (try clear hb2); (try clear hk); (try clear hi); have hnb93 := NB717_705.out; have hnc93 := NB705_717.out; obtain ⟨z0, z1, z2, z3, y0, y1, y2, y3⟩ := bc4 BK717; obtain ⟨Ao95, co95, eo95⟩ := Kd.R_slice HO_718002.out; subst eo95; have p728 : 0 ≤ (x14_3 : Int) := pos_; have q728 : x14_3 < (x718002_3.length : Int) := pos_; obtain ⟨ad728, e728, hx728_0⟩ := Kd.at_int (Kd.R_reads' HO_718002.out).2.2 x14_3 p728 q728; cases e728; replace p728 := eq_true p728; replace q728 := eq_true q728; have p88 : 0 ≤ (x14_3 : Int) := pos_; have q88 : (x14_3 : Int) < ((x718003_3.length : Int) : Int) := pos_; obtain ⟨go88, co88, eo88, gb88, gl88, cl88, HG88⟩ := Kd.R_form HO_718003.out (by omega); (first | cases eo88 | (injection eo88 with ea_ en_ ec_; (first | subst ea_ | (injection ea_ with ea_; subst ea_)); subst ec_; clear en_)); have GB88 := Aside0.mk gb88; have GG88 := Aside0.mk HG88; clear gb88 gl88 HG88; obtain ⟨hx88_0, hf88_0⟩ := Kd.R_celln 0 HO_718003.out (x14_3 : Int) p88 q88; replace p88 := eq_true p88; replace q88 := eq_true q88; obtain ⟨hy96_, hz96_⟩ := Kd.R_celln 0 HO_718003.out (x14_3 : Int) (pos_) (pos_); have HP96 := Kd.R_putg HO_718003.out (x14_3 : Int) 0) | ((with_reducible refine gate_store (t := 3) (p := 130) rfl ?_); refine store_event (t := 3) (p := 130) (v := ?vo_w97) (w1 := (w92.setCell ⟨go88, (x14_3 : Int).toNat, none⟩ (.int .i64 0))) ?hg ?ho ?hn ?hr ?_; (case ho => rfl); (case hg => rfl); (case hn => rfl); (case hr => first | (go_simp; done) | (go_simp; rfl)); intro w97 hw; have hg : w92.grownBy w97 (some go88) := (by rw [hw]; exact HP96.2); have hp_ : Kd.R (Kd.int .i64) 3 w97 w.heap.size (fun k_ => some k_ ≠ (.slice (some ad728) x718002_3.length co95 : Value).ownBlock) (.slice (some ⟨go88, 0, none⟩) x718003_3.length co88) y729 := (by rw [hw, Ny729.out]; exact HP96.1); clear HP96; replace HO_718001 := Aside0.mk (Kd.R_over' (v := (.slice (some ⟨go88, 0, none⟩) x718003_3.length co88)) (ro HO_718001) (Kd.R_typed HO_718003.out) (by decide) hg); replace HO_718002 := Aside0.mk (Kd.R_after (v := (.slice (some ⟨go88, 0, none⟩) x718003_3.length co88)) (v1 := (.slice (some ⟨go88, 0, none⟩) x718003_3.length co88)) (ok := (fun _ => True)) (by (with_reducible repeat (first | apply Kd.R_alloc | apply Kd.R_drewN | apply Kd.R_drew)); exact Kd.R_mono HO_718002.out (fun _ hk => ⟨trivial, hk⟩)) hg (.inl rfl)); replace BK704 := Aside0.mk (blk_grown (bk BK704) hg (Kd.R_ne HO_718003.out BK704.out (by decide))); replace BK705 := Aside0.mk (blk_grown (bk BK705) hg (Kd.R_ne HO_718003.out BK705.out (by decide))); replace BK717 := Aside0.mk (blk_grown (bk BK717) hg (Kd.R_ne HO_718003.out BK717.out (by decide))); replace HO_718003 := Aside0.mk (hp_); replace HB := Aside0.mk ((by rw [hw]; exact below_set (HB.out) GB88.out : Below w.heap.size w w97)); clear hg hw hp_))
                    go_roundg k3
                    case measure => have := HJ7.out; have := HJ27.out; have := HK3.out; omega
                    case rel => exact ⟨(wrap64 (x14_3 + 1)), (x718002_3), (y729), (.slice (some ad728) x718002_3.length co95), (.slice (some ⟨go88, 0, none⟩) x718003_3.length co88), rfs, H', ⟨by have := HJ7.out; have := HJ27.out; have := HK3.out; omega⟩, roA HO_718001, ⟨by (with_reducible repeat (first | apply Kd.R_alloc | apply Kd.R_drewN | apply Kd.R_drew)); exact Kd.R_mono HO_718002.out (fun _ hk => hk.2)⟩, roA HO_718003, bkA BK704, bkA BK705, bkA BK717, hbA HB⟩
                   ·rw [if_neg c87] at H
                    exact absurd H (by simp)
                  ·rw [if_neg c86] at H
                   have c86b0 : ((rd x718002_3 x14_3) == 0) = false := beq_eq_false_iff_ne.mpr c86
                   have c86b1 : ((rd x718002_3 x14_3) != 0) = true := bne_iff_ne.mpr c86
                   have H' := Aside0.mk H
                   clear H
                   have hnb98 := NB704_705.out
                   have hnc98 := NB705_704.out
                   have hnb99 := NB704_717.out
                   have hnc99 := NB717_704.out
                   obtain ⟨z0, z1, z2, z3, y0, y1, y2, y3⟩ := bc4 BK704
                   have p724 : 0 ≤ (x14_3 : Int) := pos_
                   have q724 : x14_3 < (l0_2.length : Int) := pos_
                   obtain ⟨ad724, e724, hx724_0⟩ := Kd.at_int HR0_2.out x14_3 p724 q724
                   cases e724
                   replace hx724_0 := (HB.out.cell (World.block_lt_of_cell? w _ hx724_0)).trans hx724_0
                   replace p724 := eq_true p724
                   replace q724 := eq_true q724
                   have p725 : 0 ≤ (x14_3 : Int) := pos_
                   have q725 : x14_3 < (l0_1.length : Int) := pos_
                   obtain ⟨ad725, e725, hx725_0, hx725_1⟩ := at_T34 HR0_1.out x14_3 p725 q725
                   cases e725
                   replace hx725_0 := (HB.out.cell (World.block_lt_of_cell? w _ hx725_0)).trans hx725_0
                   replace hx725_1 := (HB.out.cell (World.block_lt_of_cell? w _ hx725_1)).trans hx725_1
                   replace p725 := eq_true p725
                   replace q725 := eq_true q725
                   have p726 : 0 ≤ (x14_3 : Int) := pos_
                   have q726 : x14_3 < (l0_1.length : Int) := pos_
                   obtain ⟨ad726, e726, hx726_0, hx726_1⟩ := at_T34 HR0_1.out x14_3 p726 q726
                   obtain rfl : ad725 = ad726 := (by injection e726)
                   replace hx726_0 := (HB.out.cell (World.block_lt_of_cell? w _ hx726_0)).trans hx726_0
                   replace hx726_1 := (HB.out.cell (World.block_lt_of_cell? w _ hx726_1)).trans hx726_1
                   replace p726 := eq_true p726
                   replace q726 := eq_true q726
                   go_wp2_with (first | (go_at_call 44; (with_reducible refine (hopmeshref12_rate.calls ((rd_T34 l0_1 x14_3).f0) ((rd_T34 l0_1 x14_3).f1) t727 _ A83.out).mono ?_); rintro e w101 ⟨rfl, hb⟩; replace HO_718001 := rB HO_718001 hb; replace HO_718002 := rB HO_718002 hb; replace HO_718003 := rB HO_718003 hb; replace BK704 := bkB BK704 hb; replace BK705 := bkB BK705 hb; replace BK717 := bkB BK717 hb; replace HB := hbS HB hb; (try clear hb); (try clear hb2); (try clear hk); (try clear hi); have hnb102 := NB717_705.out; have hnc102 := NB705_717.out; obtain ⟨z0, z1, z2, z3, y0, y1, y2, y3⟩ := bc4 BK717; obtain ⟨Ao104, co104, eo104⟩ := Kd.R_slice HO_718002.out; subst eo104; have p728 : 0 ≤ (x14_3 : Int) := pos_; have q728 : x14_3 < (x718002_3.length : Int) := pos_; obtain ⟨ad728, e728, hx728_0⟩ := Kd.at_int (Kd.R_reads' HO_718002.out).2.2 x14_3 p728 q728; cases e728; replace p728 := eq_true p728; replace q728 := eq_true q728))
                   go_roundg k3
                   case measure => have := HJ7.out; have := HJ27.out; have := HK3.out; omega
                   case rel => exact ⟨(wrap64 (x14_3 + 1)), (x718002_3), (x718003_3), (.slice (some ad728) x718002_3.length co104), (u718003), rfs, H', ⟨by have := HJ7.out; have := HJ27.out; have := HK3.out; omega⟩, roA HO_718001, roA HO_718002, roA HO_718003, bkA BK704, bkA BK705, bkA BK717, hbA HB⟩
                 ·rw [if_neg c85] at H
                  exact absurd H (by simp)
                ·rw [if_neg c84] at H
                 have c84b0 : decide (a3 ≤ t727) = false := decide_eq_false c84
                 clear c84
                 have H' := Aside0.mk H
                 clear H
                 have hnb105 := NB704_705.out
                 have hnc105 := NB705_704.out
                 have hnb106 := NB704_717.out
                 have hnc106 := NB717_704.out
                 obtain ⟨z0, z1, z2, z3, y0, y1, y2, y3⟩ := bc4 BK704
                 have p724 : 0 ≤ (x14_3 : Int) := pos_
                 have q724 : x14_3 < (l0_2.length : Int) := pos_
                 obtain ⟨ad724, e724, hx724_0⟩ := Kd.at_int HR0_2.out x14_3 p724 q724
                 cases e724
                 replace hx724_0 := (HB.out.cell (World.block_lt_of_cell? w _ hx724_0)).trans hx724_0
                 replace p724 := eq_true p724
                 replace q724 := eq_true q724
                 have p725 : 0 ≤ (x14_3 : Int) := pos_
                 have q725 : x14_3 < (l0_1.length : Int) := pos_
                 obtain ⟨ad725, e725, hx725_0, hx725_1⟩ := at_T34 HR0_1.out x14_3 p725 q725
                 cases e725
                 replace hx725_0 := (HB.out.cell (World.block_lt_of_cell? w _ hx725_0)).trans hx725_0
                 replace hx725_1 := (HB.out.cell (World.block_lt_of_cell? w _ hx725_1)).trans hx725_1
                 replace p725 := eq_true p725
                 replace q725 := eq_true q725
                 have p726 : 0 ≤ (x14_3 : Int) := pos_
                 have q726 : x14_3 < (l0_1.length : Int) := pos_
                 obtain ⟨ad726, e726, hx726_0, hx726_1⟩ := at_T34 HR0_1.out x14_3 p726 q726
                 obtain rfl : ad725 = ad726 := (by injection e726)
                 replace hx726_0 := (HB.out.cell (World.block_lt_of_cell? w _ hx726_0)).trans hx726_0
                 replace hx726_1 := (HB.out.cell (World.block_lt_of_cell? w _ hx726_1)).trans hx726_1
                 replace p726 := eq_true p726
                 replace q726 := eq_true q726
                 go_wp2_with (first | (go_at_call 44; (with_reducible refine (hopmeshref12_rate.calls ((rd_T34 l0_1 x14_3).f0) ((rd_T34 l0_1 x14_3).f1) t727 _ A83.out).mono ?_); rintro e w108 ⟨rfl, hb⟩; replace HO_718001 := rB HO_718001 hb; replace HO_718002 := rB HO_718002 hb; replace HO_718003 := rB HO_718003 hb; replace BK704 := bkB BK704 hb; replace BK705 := bkB BK705 hb; replace BK717 := bkB BK717 hb; replace HB := hbS HB hb; (try clear hb); (try clear hb2); (try clear hk); (try clear hi)))
                 go_roundg k3
                 case measure => have := HJ7.out; have := HJ27.out; have := HK3.out; omega
                 case rel => exact ⟨(wrap64 (x14_3 + 1)), (x718002_3), (x718003_3), (u718002), (u718003), rfs, H', ⟨by have := HJ7.out; have := HJ27.out; have := HK3.out; omega⟩, roA HO_718001, roA HO_718002, roA HO_718003, bkA BK704, bkA BK705, bkA BK717, hbA HB⟩
               ·rw [if_neg c82] at H
                have c82b0 : decide (a1 ≤ ((rd_T34 l0_1 x14_3).f0)) = false := decide_eq_false c82
                clear c82
                have H' := Aside0.mk H
                clear H
                have hnb109 := NB704_705.out
                have hnc109 := NB705_704.out
                have hnb110 := NB704_717.out
                have hnc110 := NB717_704.out
                obtain ⟨z0, z1, z2, z3, y0, y1, y2, y3⟩ := bc4 BK704
                have p724 : 0 ≤ (x14_3 : Int) := pos_
                have q724 : x14_3 < (l0_2.length : Int) := pos_
                obtain ⟨ad724, e724, hx724_0⟩ := Kd.at_int HR0_2.out x14_3 p724 q724
                cases e724
                replace hx724_0 := (HB.out.cell (World.block_lt_of_cell? w _ hx724_0)).trans hx724_0
                replace p724 := eq_true p724
                replace q724 := eq_true q724
                have p725 : 0 ≤ (x14_3 : Int) := pos_
                have q725 : x14_3 < (l0_1.length : Int) := pos_
                obtain ⟨ad725, e725, hx725_0, hx725_1⟩ := at_T34 HR0_1.out x14_3 p725 q725
                cases e725
                replace hx725_0 := (HB.out.cell (World.block_lt_of_cell? w _ hx725_0)).trans hx725_0
                replace hx725_1 := (HB.out.cell (World.block_lt_of_cell? w _ hx725_1)).trans hx725_1
                replace p725 := eq_true p725
                replace q725 := eq_true q725
                go_wp2
                go_roundg k3
                case measure => have := HJ7.out; have := HJ27.out; have := HK3.out; omega
                case rel => exact ⟨(wrap64 (x14_3 + 1)), (x718002_3), (x718003_3), (u718002), (u718003), rfs, H', ⟨by have := HJ7.out; have := HJ27.out; have := HK3.out; omega⟩, roA HO_718001, roA HO_718002, roA HO_718003, bkA BK704, bkA BK705, bkA BK717, hbA HB⟩
              ·rw [if_neg c81] at H
               exact absurd H (by simp)
             ·rw [if_neg c80] at H
              have c80b0 : ((rd l0_2 x14_3) == 0) = false := beq_eq_false_iff_ne.mpr c80
              have c80b1 : ((rd l0_2 x14_3) != 0) = true := bne_iff_ne.mpr c80
              have H' := Aside0.mk H
              clear H
              have hnb112 := NB704_705.out
              have hnc112 := NB705_704.out
              have hnb113 := NB704_717.out
              have hnc113 := NB717_704.out
              obtain ⟨z0, z1, z2, z3, y0, y1, y2, y3⟩ := bc4 BK704
              have p724 : 0 ≤ (x14_3 : Int) := pos_
              have q724 : x14_3 < (l0_2.length : Int) := pos_
              obtain ⟨ad724, e724, hx724_0⟩ := Kd.at_int HR0_2.out x14_3 p724 q724
              cases e724
              replace hx724_0 := (HB.out.cell (World.block_lt_of_cell? w _ hx724_0)).trans hx724_0
              replace p724 := eq_true p724
              replace q724 := eq_true q724
              go_wp2
              go_roundg k3
              case measure => have := HJ7.out; have := HJ27.out; have := HK3.out; omega
              case rel => exact ⟨(wrap64 (x14_3 + 1)), (x718002_3), (x718003_3), (u718002), (u718003), rfs, H', ⟨by have := HJ7.out; have := HJ27.out; have := HK3.out; omega⟩, roA HO_718001, roA HO_718002, roA HO_718003, bkA BK704, bkA BK705, bkA BK717, hbA HB⟩
            ·rw [if_neg c79] at H
             exact absurd H (by simp)
           ·rw [if_neg c78] at H
            exact absurd H (by simp)
          ·rw [if_neg c77] at H
           have c77b0 : decide (x14_3 < 16) = false := decide_eq_false c77
           clear c77
           have H' := Aside0.mk H
           clear H
           have hnb115 := NB704_705.out
           have hnc115 := NB705_704.out
           have hnb116 := NB704_717.out
           have hnc116 := NB717_704.out
           obtain ⟨z0, z1, z2, z3, y0, y1, y2, y3⟩ := bc4 BK704
           have hnb118 := NB717_705.out
           have hnc118 := NB705_717.out
           obtain ⟨z0, z1, z2, z3, y0, y1, y2, y3⟩ := bc4 BK717
           go_wp2
           go_loopg [15] k3 (fun kq v15 w' => ∃ (x15_4 : Int) (x718001_4 : List (S34)) (x718002_4 : List Int) (x718003_4 : List Int) (u718001 : Value) (u718002 : Value) (u718003 : Value), v15 = .int .i64 x15_4 ∧ Aside0 (hopmeshref12_Close.l2 kq x15_4 (wrap64 (a0_0 + 1)) x718001_4 x718002_4 x718003_4 = some (r1, r2, r3, r4, r5)) ∧ Aside0 (kq ≤ k3) ∧ Aside0 (Kd.R k34 34 w' w.heap.size (fun _ => True) u718001 x718001_4) ∧ Aside0 (Kd.R (Kd.int .i64) 3 w' w.heap.size (fun k_ => some k_ ≠ (u718003 : Value).ownBlock) u718002 x718002_4) ∧ Aside0 (Kd.R (Kd.int .i64) 3 w' w.heap.size (fun k_ => some k_ ≠ (u718002 : Value).ownBlock) u718003 x718003_4) ∧ Aside0 (w'.heap[gb704]? = some (.cells #[.int .i64 a0_0, (.slice A0_1 l0_1.length c0_1), (.slice A0_2 l0_2.length c0_2), (.slice A0_3 l0_3.length c0_3)] 25 (0, 0))) ∧ Aside0 (w'.heap[gb705]? = some (.cells #[.int .i64 0, (.slice none 0 0), (.slice none 0 0), (.slice none 0 0)] 25 (0, 0))) ∧ Aside0 (w'.heap[gb717]? = some (.cells #[.int .i64 (wrap64 (a0_0 + 1)), u718001, u718002, u718003] 25 (0, 0))) ∧ Aside0 (Below w.heap.size w w'))
           case atStart => exact ⟨(0), (t708), (x718002_3), (x718003_3), (.slice Ao36 t708.length co36), (u718002), (u718003), rfs, H', ⟨Nat.le_refl _⟩, ⟨Kd.R_mono (rty (rfo HO_718001) BK717) (fun _ hk => trivial)⟩, rfA HO_718002, rfA HO_718003, bkfA BK704, bkfA BK705, bkpA BK717, hbA HB⟩
           case round =>
            clear H'
            try clear c7
            try clear c7b0
            try clear c7b1
            try clear c20
            try clear c23
            try clear c23b0
            try clear c23b1
            try clear c77
            try clear c77b0
            try clear hcz117_0
            try clear hcz117_1
            try clear hcz117_2
            try clear hcz117_3
            try clear hcz119_0
            try clear hcz119_1
            try clear hcz119_2
            try clear hcz119_3
            try clear hcz12_0
            try clear hcz12_1
            try clear hcz12_2
            try clear hcz12_3
            try clear hcz30_0
            try clear hcz30_1
            try clear hcz30_2
            try clear hcz30_3
            try clear hcz35_0
            try clear hcz35_1
            try clear hcz35_2
            try clear hcz35_3
            try clear hfz117_0
            try clear hfz117_1
            try clear hfz117_2
            try clear hfz117_3
            try clear hfz119_0
            try clear hfz119_1
            try clear hfz119_2
            try clear hfz119_3
            try clear hfz12_0
            try clear hfz12_1
            try clear hfz12_2
            try clear hfz12_3
            try clear hfz30_0
            try clear hfz30_1
            try clear hfz30_2
            try clear hfz30_3
            try clear hfz35_0
            try clear hfz35_1
            try clear hfz35_2
            try clear hfz35_3
            obtain ⟨x15_4, x718001_4, x718002_4, x718003_4, u718001, u718002, u718003, rfl, HA, HK4, HO_718001, HO_718002, HO_718003, BK704, BK705, BK717, HB⟩ := hrel
            cases gk with
            | zero => exact absurd HA.out (by simp [hopmeshref12_Close.l2])
            | succ k4 =>
             have H := HA.out
             clear HA
             simp only [hopmeshref12_Close.l2] at H
             by_cases c120 : x15_4 < 16
             ·rw [if_pos c120] at H
              have c120b0 : decide (x15_4 < 16) = true := decide_eq_true c120
              clear c120
              by_cases c121 : 0 ≤ x15_4
              ·rw [if_pos c121] at H
               have c121b0 : decide (0 ≤ x15_4) = true := decide_eq_true c121
               clear c121
               by_cases c122 : x15_4 < (x718002_4.length : Int)
               ·rw [if_pos c122] at H
                have c122b0 : decide (x15_4 < (x718002_4.length : Int)) = true := decide_eq_true c122
                clear c122
                by_cases c123 : (rd x718002_4 x15_4) ≤ (wrap64 (a0_0 + 1))
                ·rw [if_pos c123] at H
                 have c123b0 : decide ((rd x718002_4 x15_4) ≤ (wrap64 (a0_0 + 1))) = true := decide_eq_true c123
                 clear c123
                 obtain ⟨y731, hy731⟩ : ∃ y_ : List Int, y_ = (x718002_4.set (x15_4 : Int).toNat 0) := ⟨_, rfl⟩
                 replace H : (if x15_4 < (x718001_4.length : Int) then (hopmeshref12_Close.l2 k4 (wrap64 (x15_4 + 1)) (wrap64 (a0_0 + 1)) (x718001_4.set (x15_4 : Int).toNat (⟨0, 0⟩ : S34)) y731 x718003_4) else (none)) = some (r1, r2, r3, r4, r5) := by first | (rw [hy731]; with_reducible exact H) | (have H2_ := (Option.bind_some _ _).symm.trans H; rw [hy731]; with_reducible exact H2_) | (have H2_ := (Option.bind_some _ _).symm.trans H; with_reducible exact H2_) | with_reducible exact H | (rw [hy731]; exact H) | exact H
                 have Ny731 := Aside0.mk hy731
                 clear hy731
                 by_cases c125 : x15_4 < (x718001_4.length : Int)
                 ·rw [if_pos c125] at H
                  have c125b0 : decide (x15_4 < (x718001_4.length : Int)) = true := decide_eq_true c125
                  clear c125
                  obtain ⟨y732, hy732⟩ : ∃ y_ : List (S34), y_ = (x718001_4.set (x15_4 : Int).toNat (⟨0, 0⟩ : S34)) := ⟨_, rfl⟩
                  replace H : (hopmeshref12_Close.l2 k4 (wrap64 (x15_4 + 1)) (wrap64 (a0_0 + 1)) y732 y731 x718003_4) = some (r1, r2, r3, r4, r5) := by first | (rw [hy732]; with_reducible exact H) | (have H2_ := (Option.bind_some _ _).symm.trans H; rw [hy732]; with_reducible exact H2_) | (have H2_ := (Option.bind_some _ _).symm.trans H; with_reducible exact H2_) | with_reducible exact H | (rw [hy732]; exact H) | exact H
                  have Ny732 := Aside0.mk hy732
                  clear hy732
                  have H' := Aside0.mk H
                  clear H
                  try go_wp2
                  replace HO_718001 := Aside0.mk (Kd.R_drew HO_718001.out)
                  replace HO_718002 := Aside0.mk (Kd.R_drew HO_718002.out)
                  replace HO_718003 := Aside0.mk (Kd.R_drew HO_718003.out)
                  replace BK704 := Aside0.mk (blk_drew BK704.out)
                  replace BK705 := Aside0.mk (blk_drew BK705.out)
                  replace BK717 := Aside0.mk (blk_drew BK717.out)
                  replace HB := Aside0.mk (below_drew1 HB.out)
                  obtain ⟨Ao128, co128, eo128⟩ := Kd.R_slice HO_718002.out
                  (first | subst eo128 | (injection eo128 with f1_ f2_ f3_; have f4_ := f1_.symm; have f5_ := f3_.symm; clear f1_ f2_ f3_; subst f4_; subst f5_))
                  have p730 : 0 ≤ (x15_4 : Int) := pos_
                  have q730 : x15_4 < (x718002_4.length : Int) := pos_
                  obtain ⟨ad730, e730, hx730_0⟩ := Kd.at_int (Kd.R_reads' HO_718002.out).2.2 x15_4 p730 q730
                  cases e730
                  replace p730 := eq_true p730
                  replace q730 := eq_true q730
                  refine start_ (n := 8) (S := fun w' => w'.cell? ⟨gb717, 0, none⟩ = some (.int .i64 (wrap64 (a0_0 + 1))) ∧ w'.cell? ⟨gb717, 1, none⟩ = some (u718001) ∧ w'.cell? ⟨gb717, 2, none⟩ = some (.slice (some ad730) x718002_4.length co128) ∧ w'.cell? ⟨gb717, 3, none⟩ = some (u718003) ∧ w'.cell? (ad730.add (x15_4).toNat) = some (.int .i64 (rd x718002_4 x15_4))) (ds := []) #[false, false, false, false, false, false, false, false] (by kernel_rfl) rfl rfl ⟨(blk_cell BK717.out 0).trans rfl, (blk_cell BK717.out 1).trans rfl, (blk_cell BK717.out 2).trans rfl, (blk_cell BK717.out 3).trans rfl, hx730_0⟩ (fun hHeld => ?_); refine with_tabW hopmeshref12_Close.tab22 hopmeshref12_Close.bits22 (fun HT_ HW_ => ?_)
                  generalize wr.drew = w127 at HO_718001 HO_718002 HO_718003 BK704 BK705 BK717 HB hx730_0 hHeld ⊢
                  refine pur 0 (some 139) #[true, false, false, false, false, false, false, false] HT_ ?_
                  refine pur 2 (some 141) #[true, false, true, false, false, false, false, false] HT_ ?_
                  refine pur 5 (some 144) #[true, false, true, false, false, true, false, false] HT_ ?_
                  refine tak 1 (some 140) #[true, true, true, false, false, true, false, false] HT_ HW_ hHeld rfl (Or.inl ⟨by rfl, by rintro w' ⟨s0, s1, s2, s3, s4⟩; go_simp; with_reducible rfl⟩) ?_
                  refine pur 3 (some 142) #[true, true, true, true, false, true, false, false] HT_ ?_
                  refine tak 4 (some 143) #[true, true, true, true, true, true, false, false] HT_ HW_ hHeld rfl (Or.inl ⟨by rfl, by rintro w' ⟨s0, s1, s2, s3, s4⟩; go_simp; with_reducible rfl⟩) ?_
                  refine tak 6 (some 145) #[true, true, true, true, true, true, true, false] HT_ HW_ hHeld rfl (Or.inl ⟨by rfl, by rintro w' ⟨s0, s1, s2, s3, s4⟩; go_simp; with_reducible rfl⟩) ?_
                  refine pur 7 (some 146) #[true, true, true, true, true, true, true, true] HT_ ?_
                  refine done_ (done_of HT_.out (by kernel_rfl)) ?_
                  have hnb129 := NB717_704.out
                  have hnc129 := NB704_717.out
                  have hnb130 := NB717_705.out
                  have hnc130 := NB705_717.out
                  obtain ⟨z0, z1, z2, z3, y0, y1, y2, y3⟩ := bc4 BK717
                  have p124 : 0 ≤ (x15_4 : Int) := pos_
                  have q124 : (x15_4 : Int) < ((x718002_4.length : Int) : Int) := pos_
                  obtain ⟨go124, co124, eo124, gb124, gl124, cl124, HG124⟩ := Kd.R_form HO_718002.out (by omega)
                  (first | cases eo124 | (injection eo124 with ea_ en_ ec_; (first | subst ea_ | (injection ea_ with ea_; subst ea_)); subst ec_; clear en_))
                  have GB124 := Aside0.mk gb124
                  have GG124 := Aside0.mk HG124
                  clear gb124 gl124 HG124
                  (first | simp only [add_plain] at hx730_0 | skip)
                  obtain ⟨hx124_0, hf124_0⟩ := Kd.R_celln 0 HO_718002.out (x15_4 : Int) p124 q124
                  replace p124 := eq_true p124
                  replace q124 := eq_true q124
                  obtain ⟨hy132_, hz132_⟩ := Kd.R_celln 0 HO_718002.out (x15_4 : Int) (pos_) (pos_)
                  have HP132 := Kd.R_putg HO_718002.out (x15_4 : Int) 0
                  try go_wp2_with (first | ((with_reducible refine gate_store (t := 3) (p := 150) rfl ?_); refine store_event (t := 3) (p := 150) (v := ?vo_w133) (w1 := (w127.setCell ⟨go124, (x15_4 : Int).toNat, none⟩ (.int .i64 0))) ?hg ?ho ?hn ?hr ?_; (case ho => rfl); (case hg => rfl); (case hn => rfl); (case hr => first | (go_simp; done) | (go_simp; rfl)); intro w133 hw; have hg : w127.grownBy w133 (some go124) := (by rw [hw]; exact HP132.2); have hp_ : Kd.R (Kd.int .i64) 3 w133 w.heap.size (fun k_ => some k_ ≠ (u718003 : Value).ownBlock) (.slice (some ⟨go124, 0, none⟩) x718002_4.length co128) y731 := (by rw [hw, Ny731.out]; exact HP132.1); clear HP132; replace HO_718001 := Aside0.mk (Kd.R_over' (v := (.slice (some ⟨go124, 0, none⟩) x718002_4.length co128)) (ro HO_718001) (Kd.R_typed HO_718002.out) (by decide) hg); replace HO_718003 := Aside0.mk (Kd.R_after (v := (.slice (some ⟨go124, 0, none⟩) x718002_4.length co128)) (v1 := (.slice (some ⟨go124, 0, none⟩) x718002_4.length co128)) (ok := (fun _ => True)) (by (with_reducible repeat (first | apply Kd.R_alloc | apply Kd.R_drewN | apply Kd.R_drew)); exact Kd.R_mono HO_718003.out (fun _ hk => ⟨trivial, hk⟩)) hg (.inl rfl)); replace BK704 := Aside0.mk (blk_grown (bk BK704) hg (Kd.R_ne HO_718002.out BK704.out (by decide))); replace BK705 := Aside0.mk (blk_grown (bk BK705) hg (Kd.R_ne HO_718002.out BK705.out (by decide))); replace BK717 := Aside0.mk (blk_grown (bk BK717) hg (Kd.R_ne HO_718002.out BK717.out (by decide))); replace HO_718002 := Aside0.mk (hp_); replace HB := Aside0.mk ((by rw [hw]; exact below_set (HB.out) GB124.out : Below w.heap.size w w133)); clear hg hw hp_; obtain ⟨z0, z1, z2, z3, y0, y1, y2, y3⟩ := bc4 BK717; have p126 : 0 ≤ (x15_4 : Int) := pos_; have q126 : (x15_4 : Int) < ((x718001_4.length : Int) : Int) := pos_; obtain ⟨go126, co126, eo126, gb126, gl126, cl126, HG126⟩ := Kd.R_form HO_718001.out (by omega); (first | cases eo126 | (injection eo126 with ea_ en_ ec_; (first | subst ea_ | (injection ea_ with ea_; subst ea_)); subst ec_; clear en_)); have GB126 := Aside0.mk gb126; have GG126 := Aside0.mk HG126; clear gb126 gl126 HG126; obtain ⟨ce126, hcl126, hM126, hcc126, hfr126⟩ := Kd.R_elem HO_718001.out z34 (x15_4 : Int) p126 q126; obtain rfl := k34_openM hM126; have hx126_0 : w133.cell? ⟨go126, (x15_4 : Int).toNat * 2, none⟩ = some (.int .i64 ((rd_T34 x718001_4 x15_4).f0)) := hcc126 0 _ rfl; have hx126_1 : w133.cell? ⟨go126, (x15_4 : Int).toNat * 2 + 1, none⟩ = some (.int .i64 ((rd_T34 x718001_4 x15_4).f1)) := hcc126 1 _ rfl; have hf126_0 : w133.frozen? ⟨go126, (x15_4 : Int).toNat * 2, none⟩ = false := hfr126 0; have hf126_1 : w133.frozen? ⟨go126, (x15_4 : Int).toNat * 2 + 1, none⟩ = false := hfr126 1; clear hcl126 hcc126 hfr126 hM126; replace p126 := eq_true p126; replace q126 := eq_true q126; have HX135 := Aside0.mk (show Kd.R k34 34 w133 w.heap.size (fun _ => True) (.slice (some ⟨go126, 0, none⟩) x718001_4.length co126) x718001_4 from (ro HO_718001)); obtain ⟨ce135, hcl135, hM135, hcc135, hfr135⟩ := Kd.R_elem HX135.out z34 (x15_4 : Int) (pos_) (by have h_ : (x15_4 : Int) < ((x718001_4.length : Int) : Int) := pos_; first | exact h_ | (have e_ := (Kd.R_reads' HO_718001.out).1; omega) | simpa using h_); obtain rfl := k34_openM hM135; have HP135 := Kd.R_seg HX135.out (x15_4 : Int) (pos_) (by have h_ : (x15_4 : Int) < ((x718001_4.length : Int) : Int) := pos_; first | exact h_ | (have e_ := (Kd.R_reads' HO_718001.out).1; omega) | simpa using h_) (seg := [.int .i64 0, .int .i64 0]) (j := 0) hcl135 hcc135 (show 2 ≤ 2 from by decide) (x' := (⟨0, 0⟩ : S34)) (k34_mkM _ _ _ (⟨0, 0⟩ : S34) ) (fun _ hk => hk); have hx135_0 := hcc135 0 _ rfl; (try simp only [show (k34).sz = 2 from rfl, Nat.mul_one, Nat.add_zero] at hx135_0); have hf135_0 := hfr135 0; (try simp only [show (k34).sz = 2 from rfl, Nat.mul_one, Nat.add_zero] at hf135_0); have hx135_1 := hcc135 1 _ rfl; (try simp only [show (k34).sz = 2 from rfl, Nat.mul_one, Nat.add_zero] at hx135_1); have hf135_1 := hfr135 1; (try simp only [show (k34).sz = 2 from rfl, Nat.mul_one, Nat.add_zero] at hf135_1); clear hcl135 hcc135 hfr135 hM135) | ((with_reducible refine gate_store (t := 34) (p := 155) rfl ?_); refine store_event (t := 34) (p := 155) (v := ?vo_w136) (w1 := ((w133.setCell ⟨go126, (x15_4 : Int).toNat * 2, none⟩ (.int .i64 0)).setCell ⟨go126, (x15_4 : Int).toNat * 2 + 1, none⟩ (.int .i64 0))) ?hg ?ho ?hn ?hr ?_; (case ho => rfl); (case hg => rfl); (case hn => rfl); (case hr => first | (go_simp; done) | (go_simp; rfl)); intro w136 hw; have hg : w133.grownBy w136 (some go126) := (by rw [hw]; exact HP135.2); have hp_ : Kd.R k34 34 w136 w.heap.size (fun _ => True) (.slice (some ⟨go126, 0, none⟩) x718001_4.length co126) y732 := (by rw [hw, Ny732.out]; exact HP135.1); clear HP135; replace HO_718002 := Aside0.mk (Kd.R_over' (v := (.slice (some ⟨go126, 0, none⟩) x718001_4.length co126)) (ro HO_718002) (Kd.R_typed HO_718001.out) (by decide) hg); replace HO_718003 := Aside0.mk (Kd.R_over' (v := (.slice (some ⟨go126, 0, none⟩) x718001_4.length co126)) (ro HO_718003) (Kd.R_typed HO_718001.out) (by decide) hg); replace BK704 := Aside0.mk (blk_grown (bk BK704) hg (Kd.R_ne HO_718001.out BK704.out (by decide))); replace BK705 := Aside0.mk (blk_grown (bk BK705) hg (Kd.R_ne HO_718001.out BK705.out (by decide))); replace BK717 := Aside0.mk (blk_grown (bk BK717) hg (Kd.R_ne HO_718001.out BK717.out (by decide))); replace HO_718001 := Aside0.mk (hp_); replace HB := Aside0.mk ((by rw [hw]; exact below_set (below_set (HB.out) GB126.out) GB126.out : Below w.heap.size w w136)); clear hg hw hp_))
                  go_roundg k4
                  case measure => have := HJ7.out; have := HJ27.out; have := HK3.out; have := HK4.out; omega
                  case rel => exact ⟨(wrap64 (x15_4 + 1)), (y732), (y731), (x718003_4), (.slice (some ⟨go126, 0, none⟩) x718001_4.length co126), (.slice (some ⟨go124, 0, none⟩) x718002_4.length co128), (u718003), rfs, H', ⟨by have := HJ7.out; have := HJ27.out; have := HK3.out; have := HK4.out; omega⟩, roA HO_718001, roA HO_718002, ⟨by (with_reducible repeat (first | apply Kd.R_alloc | apply Kd.R_drewN | apply Kd.R_drew)); exact Kd.R_mono HO_718003.out (fun _ hk => hk.2)⟩, bkA BK704, bkA BK705, bkA BK717, hbA HB⟩
                 ·rw [if_neg c125] at H
                  exact absurd H (by simp)
                ·rw [if_neg c123] at H
                 have c123b0 : decide ((rd x718002_4 x15_4) ≤ (wrap64 (a0_0 + 1))) = false := decide_eq_false c123
                 clear c123
                 by_cases c137 : x15_4 < (x718001_4.length : Int)
                 ·rw [if_pos c137] at H
                  have c137b0 : decide (x15_4 < (x718001_4.length : Int)) = true := decide_eq_true c137
                  clear c137
                  obtain ⟨y733, hy733⟩ : ∃ y_ : List (S34), y_ = (x718001_4.set (x15_4 : Int).toNat (⟨0, 0⟩ : S34)) := ⟨_, rfl⟩
                  replace H : (hopmeshref12_Close.l2 k4 (wrap64 (x15_4 + 1)) (wrap64 (a0_0 + 1)) y733 x718002_4 x718003_4) = some (r1, r2, r3, r4, r5) := by first | (rw [hy733]; with_reducible exact H) | (have H2_ := (Option.bind_some _ _).symm.trans H; rw [hy733]; with_reducible exact H2_) | (have H2_ := (Option.bind_some _ _).symm.trans H; with_reducible exact H2_) | with_reducible exact H | (rw [hy733]; exact H) | exact H
                  have Ny733 := Aside0.mk hy733
                  clear hy733
                  have H' := Aside0.mk H
                  clear H
                  try go_wp2
                  replace HO_718001 := Aside0.mk (Kd.R_drew HO_718001.out)
                  replace HO_718002 := Aside0.mk (Kd.R_drew HO_718002.out)
                  replace HO_718003 := Aside0.mk (Kd.R_drew HO_718003.out)
                  replace BK704 := Aside0.mk (blk_drew BK704.out)
                  replace BK705 := Aside0.mk (blk_drew BK705.out)
                  replace BK717 := Aside0.mk (blk_drew BK717.out)
                  replace HB := Aside0.mk (below_drew1 HB.out)
                  obtain ⟨Ao140, co140, eo140⟩ := Kd.R_slice HO_718002.out
                  (first | subst eo140 | (injection eo140 with f1_ f2_ f3_; have f4_ := f1_.symm; have f5_ := f3_.symm; clear f1_ f2_ f3_; subst f4_; subst f5_))
                  have p730 : 0 ≤ (x15_4 : Int) := pos_
                  have q730 : x15_4 < (x718002_4.length : Int) := pos_
                  obtain ⟨ad730, e730, hx730_0⟩ := Kd.at_int (Kd.R_reads' HO_718002.out).2.2 x15_4 p730 q730
                  cases e730
                  replace p730 := eq_true p730
                  replace q730 := eq_true q730
                  refine start_ (n := 8) (S := fun w' => w'.cell? ⟨gb717, 0, none⟩ = some (.int .i64 (wrap64 (a0_0 + 1))) ∧ w'.cell? ⟨gb717, 1, none⟩ = some (u718001) ∧ w'.cell? ⟨gb717, 2, none⟩ = some (.slice (some ad730) x718002_4.length co140) ∧ w'.cell? ⟨gb717, 3, none⟩ = some (u718003) ∧ w'.cell? (ad730.add (x15_4).toNat) = some (.int .i64 (rd x718002_4 x15_4))) (ds := []) #[false, false, false, false, false, false, false, false] (by kernel_rfl) rfl rfl ⟨(blk_cell BK717.out 0).trans rfl, (blk_cell BK717.out 1).trans rfl, (blk_cell BK717.out 2).trans rfl, (blk_cell BK717.out 3).trans rfl, hx730_0⟩ (fun hHeld => ?_); refine with_tabW hopmeshref12_Close.tab22 hopmeshref12_Close.bits22 (fun HT_ HW_ => ?_)
                  generalize wr.drew = w139 at HO_718001 HO_718002 HO_718003 BK704 BK705 BK717 HB hx730_0 hHeld ⊢
                  refine pur 0 (some 139) #[true, false, false, false, false, false, false, false] HT_ ?_
                  refine pur 2 (some 141) #[true, false, true, false, false, false, false, false] HT_ ?_
                  refine pur 5 (some 144) #[true, false, true, false, false, true, false, false] HT_ ?_
                  refine tak 1 (some 140) #[true, true, true, false, false, true, false, false] HT_ HW_ hHeld rfl (Or.inl ⟨by rfl, by rintro w' ⟨s0, s1, s2, s3, s4⟩; go_simp; with_reducible rfl⟩) ?_
                  refine pur 3 (some 142) #[true, true, true, true, false, true, false, false] HT_ ?_
                  refine tak 4 (some 143) #[true, true, true, true, true, true, false, false] HT_ HW_ hHeld rfl (Or.inl ⟨by rfl, by rintro w' ⟨s0, s1, s2, s3, s4⟩; go_simp; with_reducible rfl⟩) ?_
                  refine tak 6 (some 145) #[true, true, true, true, true, true, true, false] HT_ HW_ hHeld rfl (Or.inl ⟨by rfl, by rintro w' ⟨s0, s1, s2, s3, s4⟩; go_simp; with_reducible rfl⟩) ?_
                  refine pur 7 (some 146) #[true, true, true, true, true, true, true, true] HT_ ?_
                  refine done_ (done_of HT_.out (by kernel_rfl)) ?_
                  have hnb141 := NB717_704.out
                  have hnc141 := NB704_717.out
                  have hnb142 := NB717_705.out
                  have hnc142 := NB705_717.out
                  obtain ⟨z0, z1, z2, z3, y0, y1, y2, y3⟩ := bc4 BK717
                  have p138 : 0 ≤ (x15_4 : Int) := pos_
                  have q138 : (x15_4 : Int) < ((x718001_4.length : Int) : Int) := pos_
                  obtain ⟨go138, co138, eo138, gb138, gl138, cl138, HG138⟩ := Kd.R_form HO_718001.out (by omega)
                  (first | cases eo138 | (injection eo138 with ea_ en_ ec_; (first | subst ea_ | (injection ea_ with ea_; subst ea_)); subst ec_; clear en_))
                  have GB138 := Aside0.mk gb138
                  have GG138 := Aside0.mk HG138
                  clear gb138 gl138 HG138
                  obtain ⟨ce138, hcl138, hM138, hcc138, hfr138⟩ := Kd.R_elem HO_718001.out z34 (x15_4 : Int) p138 q138
                  obtain rfl := k34_openM hM138
                  have hx138_0 : w139.cell? ⟨go138, (x15_4 : Int).toNat * 2, none⟩ = some (.int .i64 ((rd_T34 x718001_4 x15_4).f0)) := hcc138 0 _ rfl
                  have hx138_1 : w139.cell? ⟨go138, (x15_4 : Int).toNat * 2 + 1, none⟩ = some (.int .i64 ((rd_T34 x718001_4 x15_4).f1)) := hcc138 1 _ rfl
                  have hf138_0 : w139.frozen? ⟨go138, (x15_4 : Int).toNat * 2, none⟩ = false := hfr138 0
                  have hf138_1 : w139.frozen? ⟨go138, (x15_4 : Int).toNat * 2 + 1, none⟩ = false := hfr138 1
                  clear hcl138 hcc138 hfr138 hM138
                  replace p138 := eq_true p138
                  replace q138 := eq_true q138
                  have HX144 := Aside0.mk (show Kd.R k34 34 w139 w.heap.size (fun _ => True) (.slice (some ⟨go138, 0, none⟩) x718001_4.length co138) x718001_4 from (ro HO_718001))
                  obtain ⟨ce144, hcl144, hM144, hcc144, hfr144⟩ := Kd.R_elem HX144.out z34 (x15_4 : Int) (pos_) (by have h_ : (x15_4 : Int) < ((x718001_4.length : Int) : Int) := pos_; first | exact h_ | (have e_ := (Kd.R_reads' HO_718001.out).1; omega) | simpa using h_)
                  obtain rfl := k34_openM hM144
                  have HP144 := Kd.R_seg HX144.out (x15_4 : Int) (pos_) (by have h_ : (x15_4 : Int) < ((x718001_4.length : Int) : Int) := pos_; first | exact h_ | (have e_ := (Kd.R_reads' HO_718001.out).1; omega) | simpa using h_) (seg := [.int .i64 0, .int .i64 0]) (j := 0) hcl144 hcc144 (show 2 ≤ 2 from by decide) (x' := (⟨0, 0⟩ : S34)) (k34_mkM _ _ _ (⟨0, 0⟩ : S34) ) (fun _ hk => hk)
                  have hx144_0 := hcc144 0 _ rfl
                  (try simp only [show (k34).sz = 2 from rfl, Nat.mul_one, Nat.add_zero] at hx144_0)
                  have hf144_0 := hfr144 0
                  (try simp only [show (k34).sz = 2 from rfl, Nat.mul_one, Nat.add_zero] at hf144_0)
                  have hx144_1 := hcc144 1 _ rfl
                  (try simp only [show (k34).sz = 2 from rfl, Nat.mul_one, Nat.add_zero] at hx144_1)
                  have hf144_1 := hfr144 1
                  (try simp only [show (k34).sz = 2 from rfl, Nat.mul_one, Nat.add_zero] at hf144_1)
                  clear hcl144 hcc144 hfr144 hM144
                  try go_wp2_with (first | ((with_reducible refine gate_store (t := 34) (p := 155) rfl ?_); refine store_event (t := 34) (p := 155) (v := ?vo_w145) (w1 := ((w139.setCell ⟨go138, (x15_4 : Int).toNat * 2, none⟩ (.int .i64 0)).setCell ⟨go138, (x15_4 : Int).toNat * 2 + 1, none⟩ (.int .i64 0))) ?hg ?ho ?hn ?hr ?_; (case ho => rfl); (case hg => rfl); (case hn => rfl); (case hr => first | (go_simp; done) | (go_simp; rfl)); intro w145 hw; have hg : w139.grownBy w145 (some go138) := (by rw [hw]; exact HP144.2); have hp_ : Kd.R k34 34 w145 w.heap.size (fun _ => True) (.slice (some ⟨go138, 0, none⟩) x718001_4.length co138) y733 := (by rw [hw, Ny733.out]; exact HP144.1); clear HP144; replace HO_718002 := Aside0.mk (Kd.R_over' (v := (.slice (some ⟨go138, 0, none⟩) x718001_4.length co138)) (ro HO_718002) (Kd.R_typed HO_718001.out) (by decide) hg); replace HO_718003 := Aside0.mk (Kd.R_over' (v := (.slice (some ⟨go138, 0, none⟩) x718001_4.length co138)) (ro HO_718003) (Kd.R_typed HO_718001.out) (by decide) hg); replace BK704 := Aside0.mk (blk_grown (bk BK704) hg (Kd.R_ne HO_718001.out BK704.out (by decide))); replace BK705 := Aside0.mk (blk_grown (bk BK705) hg (Kd.R_ne HO_718001.out BK705.out (by decide))); replace BK717 := Aside0.mk (blk_grown (bk BK717) hg (Kd.R_ne HO_718001.out BK717.out (by decide))); replace HO_718001 := Aside0.mk (hp_); replace HB := Aside0.mk ((by rw [hw]; exact below_set (below_set (HB.out) GB138.out) GB138.out : Below w.heap.size w w145)); clear hg hw hp_))
                  go_roundg k4
                  case measure => have := HJ7.out; have := HJ27.out; have := HK3.out; have := HK4.out; omega
                  case rel => exact ⟨(wrap64 (x15_4 + 1)), (y733), (x718002_4), (x718003_4), (.slice (some ⟨go138, 0, none⟩) x718001_4.length co138), (.slice (some ad730) x718002_4.length co140), (u718003), rfs, H', ⟨by have := HJ7.out; have := HJ27.out; have := HK3.out; have := HK4.out; omega⟩, roA HO_718001, roA HO_718002, roA HO_718003, bkA BK704, bkA BK705, bkA BK717, hbA HB⟩
                 ·rw [if_neg c137] at H
                  exact absurd H (by simp)
               ·rw [if_neg c122] at H
                exact absurd H (by simp)
              ·rw [if_neg c121] at H
               exact absurd H (by simp)
             ·rw [if_neg c120] at H
              have c120b0 : decide (x15_4 < 16) = false := decide_eq_false c120
              clear c120
              simp only [Option.some.injEq, Prod.mk.injEq] at H
              obtain ⟨rfl, rfl, rfl, rfl, rfl⟩ := H
              have hnb146 := NB717_704.out
              have hnc146 := NB704_717.out
              have hnb147 := NB717_705.out
              have hnc147 := NB705_717.out
              obtain ⟨z0, z1, z2, z3, y0, y1, y2, y3⟩ := bc4 BK717
              have hnb149 := NB705_704.out
              have hnc149 := NB704_705.out
              obtain ⟨z0, z1, z2, z3, y0, y1, y2, y3⟩ := bc4 BK705
              obtain ⟨Ao151, co151, eo151⟩ := Kd.R_slice HO_718001.out
              subst eo151
              obtain ⟨Ao152, co152, eo152⟩ := Kd.R_slice HO_718002.out
              subst eo152
              obtain ⟨Ao153, co153, eo153⟩ := Kd.R_slice HO_718003.out
              subst eo153
              go_wp2
              refine bodyPost_ret (results_ct rfl _ _ gb705 25 #[.int .i64 (wrap64 (a0_0 + 1)), .slice Ao151 x718001_4.length co151, .slice Ao152 x718002_4.length co152, .slice Ao153 x718003_4.length co153] (0, 0) _ rfl (bkp BK705) Try.underlying25 rfl (by kernel_rfl)) rfl ?_
              exact ⟨_, _, _, rerr, Kd.R_mono (rty (rfo HO_718001) BK705) (fun _ hk => trivial), rfo HO_718002, rfo HO_718003, hbx HB⟩
 ·rw [if_neg c7] at H
  have c7b0 : (t706 == 0) = false := beq_eq_false_iff_ne.mpr c7
  have c7b1 : (t706 != 0) = true := bne_iff_ne.mpr c7
  simp only [Option.some.injEq, Prod.mk.injEq] at H
  obtain ⟨rfl, rfl, rfl, rfl, rfl⟩ := H
  go_enter Try.func37, Try.ntmps37
  go_wp2_with (first | ((with_reducible refine gate_dst (N := 5) rfl ?_); refine boxE 5 #[.int .i64 a0_0, .slice A0_1 l0_1.length c0_1, .slice A0_2 l0_2.length c0_2, .slice A0_3 l0_3.length c0_3] 25 ?_; intro gb704 hg w154 hbox hb; have BK704 := Aside0.mk (hbox); have GW704 := gw hg HB; have GE704 := gw hg HB; replace HB := hbS HB hb; clear hb hbox hg) | ((with_reducible refine gate_dst (N := 10) rfl ?_); refine boxE 10 #[.int .i64 0, .slice none 0 0, .slice none 0 0, .slice none 0 0] 25 ?_; intro gb705 hg w155 hbox hb; have BK705 := Aside0.mk (hbox); have GW705 := gw hg HB; have GE705 := gw hg HB; replace HB := hbS HB hb; have NB704_705 := nbl hg BK704; have NB705_704 := nbg hg BK704; replace BK704 := bkB BK704 hb; clear hb hbox hg; have hnb156 := NB704_705.out; have hnc156 := NB705_704.out; obtain ⟨z0, z1, z2, z3, y0, y1, y2, y3⟩ := bc4 BK704) | ((with_reducible refine gate_callee (f := 39) rfl ?_); refine goesL_ (some 17) rfl rfl Try.func39 (by kernel_rfl) rfl #[.agg #[.int .i64 a0_0, .slice A0_1 l0_1.length c0_1, .slice A0_2 l0_2.length c0_2, .slice A0_3 l0_3.length c0_3]] rfl sma ?_; (with_reducible refine (hopmeshref12_Valid.calls k a0_0 _ _ l0_1 _ _ l0_2 _ _ l0_3 t706 _ (cb HR0_1 HB) HC0_1.out (cb HR0_2 HB) HC0_2.out (cb HR0_3 HB) HC0_3.out A6.out).mono ?_); rintro e w158 ⟨rfl, hb⟩; refine ⟨_, rfl, ?_⟩; replace BK704 := bkB BK704 hb; replace BK705 := bkB BK705 hb; replace HB := hbS HB hb; (try clear hb); (try clear hb2); (try clear hk); (try clear hi); obtain ⟨z0, z1, z2, z3, y0, y1, y2, y3⟩ := bc4 BK705))
  refine bodyPost_ret (results_ct rfl _ _ gb705 25 #[.int .i64 0, .slice none 0 0, .slice none 0 0, .slice none 0 0] (0, 0) _ rfl (bkp BK705) Try.underlying25 rfl (by kernel_rfl)) rfl ?_
  exact ⟨_, _, _, rerr, rnil, rnil, rnil, hbx HB⟩
end Go.Proofs.Ytnipgplobipeeaa.PQ
