-- Printed by fprint.py and zip.py, programs of this session's, over the kit's print; Lean checks it.
import Derived.Test.YtdigplhjfjchnaaZ0
import Derived.Test.YtdigplhjfjchnaaZf50
import Derived.Test.YtdigplhjfjchnaaZf89
namespace Go.Proofs.Ytdigplhjfjchnaa.PQ
open Go.RowKit Go.Proofs.YtdigplhjfjchnaaW.PrintWords Go.Proofs.YtdigplhjfjchnaaW.PrintLast Go.Proofs.YtdigplhjfjchnaaW.PrintMore
attribute [local go_sem] max2_int min2_int max_two min_two max_three min_three max_four min_four   -- for this text's walks alone
set_option linter.unusedVariables false
set_option linter.unusedSimpArgs false
mutual
def hopmeshlaw49_Delivery_85.l0 : Nat → List (S47) → Int → Int → Int → Option ((List (S47)))
 | 0, _, _, _, _ => none
 | k + 1, x0, x1, x10, x11 => if x10 < x11 then (if 0 ≤ (wrap64 ((IntKind.u64.wrap (wrap64 (x10 + x11))) / 2)) then (if (wrap64 ((IntKind.u64.wrap (wrap64 (x10 + x11))) / 2)) < (x0.length : Int) then (if 0 ≤ x1 then (if x1 < (x0.length : Int) then ((hopmeshlaw49_order_1.f ((rd_T47 x0 (wrap64 ((IntKind.u64.wrap (wrap64 (x10 + x11))) / 2))).f0) ((rd_T47 x0 (wrap64 ((IntKind.u64.wrap (wrap64 (x10 + x11))) / 2))).f1) ((rd_T47 x0 (wrap64 ((IntKind.u64.wrap (wrap64 (x10 + x11))) / 2))).f2) ((rd_T47 x0 x1).f0) ((rd_T47 x0 x1).f1) ((rd_T47 x0 x1).f2)).bind fun t310 => (if t310 < 0 then (hopmeshlaw49_Delivery_85.l0 k x0 x1 (wrap64 ((wrap64 ((IntKind.u64.wrap (wrap64 (x10 + x11))) / 2)) + 1)) x11) else (hopmeshlaw49_Delivery_85.l0 k x0 x1 x10 (wrap64 ((IntKind.u64.wrap (wrap64 (x10 + x11))) / 2))))) else (none)) else (none)) else (none)) else (none)) else (hopmeshlaw49_Delivery_85.l1 k x0 x10 x1)
def hopmeshlaw49_Delivery_85.l1 : Nat → List (S47) → Int → Int → Option ((List (S47)))
 | 0, _, _, _ => none
 | k + 1, x0, x10, x13 => if x13 < (wrap64 (x10 - 1)) then (if 0 ≤ (wrap64 (x13 + 1)) then (if (wrap64 (x13 + 1)) < (x0.length : Int) then (if 0 ≤ x13 then (if x13 < (x0.length : Int) then (hopmeshlaw49_Delivery_85.l1 k ((x0.set (x13 : Int).toNat (⟨(rd_T47 x0 (wrap64 (x13 + 1))).f0, (rd_T47 x0 (wrap64 (x13 + 1))).f1, (rd_T47 x0 (wrap64 (x13 + 1))).f2⟩ : S47)).set ((wrap64 (x13 + 1)) : Int).toNat (⟨(rd_T47 x0 x13).f0, (rd_T47 x0 x13).f1, (rd_T47 x0 x13).f2⟩ : S47)) x10 (wrap64 (x13 + 1))) else (none)) else (none)) else (none)) else (none)) else (some x0)
def hopmeshlaw49_Delivery_85.l2 : Nat → List (S47) → Int → Int → Int → Option ((List (S47)))
 | 0, _, _, _, _ => none
 | k + 1, x0, x2, x14, x15 => if x14 < x15 then (if 0 ≤ x2 then (if x2 < (x0.length : Int) then (if 0 ≤ (wrap64 ((IntKind.u64.wrap (wrap64 (x14 + x15))) / 2)) then (if (wrap64 ((IntKind.u64.wrap (wrap64 (x14 + x15))) / 2)) < (x0.length : Int) then ((hopmeshlaw49_order_1.f ((rd_T47 x0 x2).f0) ((rd_T47 x0 x2).f1) ((rd_T47 x0 x2).f2) ((rd_T47 x0 (wrap64 ((IntKind.u64.wrap (wrap64 (x14 + x15))) / 2))).f0) ((rd_T47 x0 (wrap64 ((IntKind.u64.wrap (wrap64 (x14 + x15))) / 2))).f1) ((rd_T47 x0 (wrap64 ((IntKind.u64.wrap (wrap64 (x14 + x15))) / 2))).f2)).bind fun t317 => (if t317 < 0 then (hopmeshlaw49_Delivery_85.l2 k x0 x2 x14 (wrap64 ((IntKind.u64.wrap (wrap64 (x14 + x15))) / 2))) else (hopmeshlaw49_Delivery_85.l2 k x0 x2 (wrap64 ((wrap64 ((IntKind.u64.wrap (wrap64 (x14 + x15))) / 2)) + 1)) x15))) else (none)) else (none)) else (none)) else (none)) else (hopmeshlaw49_Delivery_85.l3 k x0 x14 x2)
def hopmeshlaw49_Delivery_85.l3 : Nat → List (S47) → Int → Int → Option ((List (S47)))
 | 0, _, _, _ => none
 | k + 1, x0, x14, x17 => if x17 > x14 then (if 0 ≤ (wrap64 (x17 - 1)) then (if (wrap64 (x17 - 1)) < (x0.length : Int) then (if 0 ≤ x17 then (if x17 < (x0.length : Int) then (hopmeshlaw49_Delivery_85.l3 k ((x0.set (x17 : Int).toNat (⟨(rd_T47 x0 (wrap64 (x17 - 1))).f0, (rd_T47 x0 (wrap64 (x17 - 1))).f1, (rd_T47 x0 (wrap64 (x17 - 1))).f2⟩ : S47)).set ((wrap64 (x17 - 1)) : Int).toNat (⟨(rd_T47 x0 x17).f0, (rd_T47 x0 x17).f1, (rd_T47 x0 x17).f2⟩ : S47)) x14 (wrap64 (x17 - 1))) else (none)) else (none)) else (none)) else (none)) else (some x0)
def hopmeshlaw49_Delivery_85.j4 : Nat → List (S47) → Int → Int → Int → Int → Int → Int → Int → Option ((List (S47)))
 | 0, _, _, _, _, _, _, _, _ => none
 | k + 1, x0, x1, x2, x3, x18, x19, x20, x21 => hopmeshlaw49_Delivery_85.l4 k x0 x1 x2 x3 x18 x19 x20 x21 (wrap64 (x19 - 1))
def hopmeshlaw49_Delivery_85.l4 : Nat → List (S47) → Int → Int → Int → Int → Int → Int → Int → Int → Option ((List (S47)))
 | 0, _, _, _, _, _, _, _, _, _ => none
 | k + 1, x0, x1, x2, x3, x18, x19, x20, x21, x22 => if x20 < x21 then (if 0 ≤ (wrap64 (x22 - (wrap64 ((IntKind.u64.wrap (wrap64 (x20 + x21))) / 2)))) then (if (wrap64 (x22 - (wrap64 ((IntKind.u64.wrap (wrap64 (x20 + x21))) / 2)))) < (x0.length : Int) then (if 0 ≤ (wrap64 ((IntKind.u64.wrap (wrap64 (x20 + x21))) / 2)) then (if (wrap64 ((IntKind.u64.wrap (wrap64 (x20 + x21))) / 2)) < (x0.length : Int) then ((hopmeshlaw49_order_1.f ((rd_T47 x0 (wrap64 (x22 - (wrap64 ((IntKind.u64.wrap (wrap64 (x20 + x21))) / 2))))).f0) ((rd_T47 x0 (wrap64 (x22 - (wrap64 ((IntKind.u64.wrap (wrap64 (x20 + x21))) / 2))))).f1) ((rd_T47 x0 (wrap64 (x22 - (wrap64 ((IntKind.u64.wrap (wrap64 (x20 + x21))) / 2))))).f2) ((rd_T47 x0 (wrap64 ((IntKind.u64.wrap (wrap64 (x20 + x21))) / 2))).f0) ((rd_T47 x0 (wrap64 ((IntKind.u64.wrap (wrap64 (x20 + x21))) / 2))).f1) ((rd_T47 x0 (wrap64 ((IntKind.u64.wrap (wrap64 (x20 + x21))) / 2))).f2)).bind fun t324 => (if t324 < 0 then (hopmeshlaw49_Delivery_85.l4 k x0 x1 x2 x3 x18 x19 x20 (wrap64 ((IntKind.u64.wrap (wrap64 (x20 + x21))) / 2)) x22) else (hopmeshlaw49_Delivery_85.l4 k x0 x1 x2 x3 x18 x19 (wrap64 ((wrap64 ((IntKind.u64.wrap (wrap64 (x20 + x21))) / 2)) + 1)) x21 x22))) else (none)) else (none)) else (none)) else (none)) else (if x20 < x2 then (hopmeshlaw49_Delivery_85.j6 k x0 x1 x2 x3 x18 x20 (wrap64 (x19 - x20)) (decide (x2 < (wrap64 (x19 - x20))))) else (hopmeshlaw49_Delivery_85.j6 k x0 x1 x2 x3 x18 x20 (wrap64 (x19 - x20)) false))
def hopmeshlaw49_Delivery_85.j6 : Nat → List (S47) → Int → Int → Int → Int → Int → Int → Bool → Option ((List (S47)))
 | 0, _, _, _, _, _, _, _, _ => none
 | k + 1, x0, x1, x2, x3, x18, x20, x24, x185 => if x185 = true then ((hopmeshlaw49_Delivery_89.f k x0 x20 x2 x24).bind fun t325 => (hopmeshlaw49_Delivery_85.j7 k t325 x1 x3 x18 x20 x24)) else (hopmeshlaw49_Delivery_85.j7 k x0 x1 x3 x18 x20 x24)
def hopmeshlaw49_Delivery_85.j7 : Nat → List (S47) → Int → Int → Int → Int → Int → Option ((List (S47)))
 | 0, _, _, _, _, _, _ => none
 | k + 1, x0, x1, x3, x18, x20, x24 => if x1 < x20 then (hopmeshlaw49_Delivery_85.j8 k x0 x1 x3 x18 x20 x24 (decide (x20 < x18))) else (hopmeshlaw49_Delivery_85.j8 k x0 x1 x3 x18 x20 x24 false)
def hopmeshlaw49_Delivery_85.j8 : Nat → List (S47) → Int → Int → Int → Int → Int → Bool → Option ((List (S47)))
 | 0, _, _, _, _, _, _, _ => none
 | k + 1, x0, x1, x3, x18, x20, x24, x199 => if x199 = true then ((hopmeshlaw49_Delivery_85.f k x0 x1 x20 x18).bind fun t326 => (if x18 < x24 then (if x24 < x3 then ((hopmeshlaw49_Delivery_85.f k t326 x18 x24 x3).bind fun t327 => (some t327)) else (some t326)) else (some t326))) else (if x18 < x24 then (if x24 < x3 then ((hopmeshlaw49_Delivery_85.f k x0 x18 x24 x3).bind fun t328 => (some t328)) else (some x0)) else (some x0))
def hopmeshlaw49_Delivery_85.f : Nat → List (S47) → Int → Int → Int → Option ((List (S47)))
 | 0, _, _, _, _ => none
 | k + 1, l0, a1, a2, a3 => if (wrap64 (a2 - a1)) = 1 then (hopmeshlaw49_Delivery_85.l0 k l0 a1 a2 a3) else (if (wrap64 (a3 - a2)) = 1 then (hopmeshlaw49_Delivery_85.l2 k l0 a2 a1 a2) else (if a2 > (wrap64 ((IntKind.u64.wrap (wrap64 (a1 + a3))) / 2)) then (hopmeshlaw49_Delivery_85.j4 k l0 a1 a2 a3 (wrap64 ((IntKind.u64.wrap (wrap64 (a1 + a3))) / 2)) (wrap64 ((wrap64 ((IntKind.u64.wrap (wrap64 (a1 + a3))) / 2)) + a2)) (wrap64 ((wrap64 ((wrap64 ((IntKind.u64.wrap (wrap64 (a1 + a3))) / 2)) + a2)) - a3)) (wrap64 ((IntKind.u64.wrap (wrap64 (a1 + a3))) / 2))) else (hopmeshlaw49_Delivery_85.j4 k l0 a1 a2 a3 (wrap64 ((IntKind.u64.wrap (wrap64 (a1 + a3))) / 2)) (wrap64 ((wrap64 ((IntKind.u64.wrap (wrap64 (a1 + a3))) / 2)) + a2)) a1 a2)))
end
theorem hopmeshlaw49_Delivery_85.mono_l : ∀ k, (∀ y0 y1 y2 y3, LeO (hopmeshlaw49_Delivery_85.f k y0 y1 y2 y3) (hopmeshlaw49_Delivery_85.f (k + 1) y0 y1 y2 y3)) ∧ (∀ y0 y1 y2 y3, LeO (hopmeshlaw49_Delivery_85.l0 k y0 y1 y2 y3) (hopmeshlaw49_Delivery_85.l0 (k + 1) y0 y1 y2 y3)) ∧ (∀ y0 y1 y2, LeO (hopmeshlaw49_Delivery_85.l1 k y0 y1 y2) (hopmeshlaw49_Delivery_85.l1 (k + 1) y0 y1 y2)) ∧ (∀ y0 y1 y2 y3, LeO (hopmeshlaw49_Delivery_85.l2 k y0 y1 y2 y3) (hopmeshlaw49_Delivery_85.l2 (k + 1) y0 y1 y2 y3)) ∧ (∀ y0 y1 y2, LeO (hopmeshlaw49_Delivery_85.l3 k y0 y1 y2) (hopmeshlaw49_Delivery_85.l3 (k + 1) y0 y1 y2)) ∧ (∀ y0 y1 y2 y3 y4 y5 y6 y7, LeO (hopmeshlaw49_Delivery_85.j4 k y0 y1 y2 y3 y4 y5 y6 y7) (hopmeshlaw49_Delivery_85.j4 (k + 1) y0 y1 y2 y3 y4 y5 y6 y7)) ∧ (∀ y0 y1 y2 y3 y4 y5 y6 y7 y8, LeO (hopmeshlaw49_Delivery_85.l4 k y0 y1 y2 y3 y4 y5 y6 y7 y8) (hopmeshlaw49_Delivery_85.l4 (k + 1) y0 y1 y2 y3 y4 y5 y6 y7 y8)) ∧ (∀ y0 y1 y2 y3 y4 y5 y6 y7, LeO (hopmeshlaw49_Delivery_85.j6 k y0 y1 y2 y3 y4 y5 y6 y7) (hopmeshlaw49_Delivery_85.j6 (k + 1) y0 y1 y2 y3 y4 y5 y6 y7)) ∧ (∀ y0 y1 y2 y3 y4 y5, LeO (hopmeshlaw49_Delivery_85.j7 k y0 y1 y2 y3 y4 y5) (hopmeshlaw49_Delivery_85.j7 (k + 1) y0 y1 y2 y3 y4 y5)) ∧ (∀ y0 y1 y2 y3 y4 y5 y6, LeO (hopmeshlaw49_Delivery_85.j8 k y0 y1 y2 y3 y4 y5 y6) (hopmeshlaw49_Delivery_85.j8 (k + 1) y0 y1 y2 y3 y4 y5 y6))
 | 0 => ⟨fun _ _ _ _ r h => by simp [hopmeshlaw49_Delivery_85.f] at h, fun _ _ _ _ r h => by simp [hopmeshlaw49_Delivery_85.l0] at h, fun _ _ _ r h => by simp [hopmeshlaw49_Delivery_85.l1] at h, fun _ _ _ _ r h => by simp [hopmeshlaw49_Delivery_85.l2] at h, fun _ _ _ r h => by simp [hopmeshlaw49_Delivery_85.l3] at h, fun _ _ _ _ _ _ _ _ r h => by simp [hopmeshlaw49_Delivery_85.j4] at h, fun _ _ _ _ _ _ _ _ _ r h => by simp [hopmeshlaw49_Delivery_85.l4] at h, fun _ _ _ _ _ _ _ _ r h => by simp [hopmeshlaw49_Delivery_85.j6] at h, fun _ _ _ _ _ _ r h => by simp [hopmeshlaw49_Delivery_85.j7] at h, fun _ _ _ _ _ _ _ r h => by simp [hopmeshlaw49_Delivery_85.j8] at h⟩
 | k + 1 => by
  obtain ⟨ih0, ih1, ih2, ih3, ih4, ih5, ih6, ih7, ih8, ih9⟩ := hopmeshlaw49_Delivery_85.mono_l k
  refine ⟨?_, ?_, ?_, ?_, ?_, ?_, ?_, ?_, ?_, ?_⟩
  ·intro y0 y1 y2 y3
   unfold hopmeshlaw49_Delivery_85.f
   repeat' first
   | (with_reducible exact ih0 _ _ _ _)
   | (with_reducible exact ih1 _ _ _ _)
   | (with_reducible exact ih2 _ _ _)
   | (with_reducible exact ih3 _ _ _ _)
   | (with_reducible exact ih4 _ _ _)
   | (with_reducible exact ih5 _ _ _ _ _ _ _ _)
   | (with_reducible exact ih6 _ _ _ _ _ _ _ _ _)
   | (with_reducible exact ih7 _ _ _ _ _ _ _ _)
   | (with_reducible exact ih8 _ _ _ _ _ _)
   | (with_reducible exact ih9 _ _ _ _ _ _ _)
   | (with_reducible exact hopmeshlaw49_Delivery_89.mono _ _ _ _ _)
   | (with_reducible exact LeO.refl _)
   | (with_reducible exact LeO.none _)
   | (with_reducible refine LeO.ite ?_ ?_)
   | (with_reducible refine LeO.bind ?_ (fun _ => ?_))
   | exact ih0 _ _ _ _
   | exact ih1 _ _ _ _
   | exact ih2 _ _ _
   | exact ih3 _ _ _ _
   | exact ih4 _ _ _
   | exact ih5 _ _ _ _ _ _ _ _
   | exact ih6 _ _ _ _ _ _ _ _ _
   | exact ih7 _ _ _ _ _ _ _ _
   | exact ih8 _ _ _ _ _ _
   | exact ih9 _ _ _ _ _ _ _
   | exact hopmeshlaw49_Delivery_89.mono _ _ _ _ _
   | exact LeO.none _
   | refine LeO.ite ?_ ?_
   | refine LeO.bind ?_ (fun _ => ?_)
  ·intro y0 y1 y2 y3
   unfold hopmeshlaw49_Delivery_85.l0
   repeat' first
   | (with_reducible exact ih0 _ _ _ _)
   | (with_reducible exact ih1 _ _ _ _)
   | (with_reducible exact ih2 _ _ _)
   | (with_reducible exact ih3 _ _ _ _)
   | (with_reducible exact ih4 _ _ _)
   | (with_reducible exact ih5 _ _ _ _ _ _ _ _)
   | (with_reducible exact ih6 _ _ _ _ _ _ _ _ _)
   | (with_reducible exact ih7 _ _ _ _ _ _ _ _)
   | (with_reducible exact ih8 _ _ _ _ _ _)
   | (with_reducible exact ih9 _ _ _ _ _ _ _)
   | (with_reducible exact hopmeshlaw49_Delivery_89.mono _ _ _ _ _)
   | (with_reducible exact LeO.refl _)
   | (with_reducible exact LeO.none _)
   | (with_reducible refine LeO.ite ?_ ?_)
   | (with_reducible refine LeO.bind ?_ (fun _ => ?_))
   | exact ih0 _ _ _ _
   | exact ih1 _ _ _ _
   | exact ih2 _ _ _
   | exact ih3 _ _ _ _
   | exact ih4 _ _ _
   | exact ih5 _ _ _ _ _ _ _ _
   | exact ih6 _ _ _ _ _ _ _ _ _
   | exact ih7 _ _ _ _ _ _ _ _
   | exact ih8 _ _ _ _ _ _
   | exact ih9 _ _ _ _ _ _ _
   | exact hopmeshlaw49_Delivery_89.mono _ _ _ _ _
   | exact LeO.none _
   | refine LeO.ite ?_ ?_
   | refine LeO.bind ?_ (fun _ => ?_)
  ·intro y0 y1 y2
   unfold hopmeshlaw49_Delivery_85.l1
   repeat' first
   | (with_reducible exact ih0 _ _ _ _)
   | (with_reducible exact ih1 _ _ _ _)
   | (with_reducible exact ih2 _ _ _)
   | (with_reducible exact ih3 _ _ _ _)
   | (with_reducible exact ih4 _ _ _)
   | (with_reducible exact ih5 _ _ _ _ _ _ _ _)
   | (with_reducible exact ih6 _ _ _ _ _ _ _ _ _)
   | (with_reducible exact ih7 _ _ _ _ _ _ _ _)
   | (with_reducible exact ih8 _ _ _ _ _ _)
   | (with_reducible exact ih9 _ _ _ _ _ _ _)
   | (with_reducible exact hopmeshlaw49_Delivery_89.mono _ _ _ _ _)
   | (with_reducible exact LeO.refl _)
   | (with_reducible exact LeO.none _)
   | (with_reducible refine LeO.ite ?_ ?_)
   | (with_reducible refine LeO.bind ?_ (fun _ => ?_))
   | exact ih0 _ _ _ _
   | exact ih1 _ _ _ _
   | exact ih2 _ _ _
   | exact ih3 _ _ _ _
   | exact ih4 _ _ _
   | exact ih5 _ _ _ _ _ _ _ _
   | exact ih6 _ _ _ _ _ _ _ _ _
   | exact ih7 _ _ _ _ _ _ _ _
   | exact ih8 _ _ _ _ _ _
   | exact ih9 _ _ _ _ _ _ _
   | exact hopmeshlaw49_Delivery_89.mono _ _ _ _ _
   | exact LeO.none _
   | refine LeO.ite ?_ ?_
   | refine LeO.bind ?_ (fun _ => ?_)
  ·intro y0 y1 y2 y3
   unfold hopmeshlaw49_Delivery_85.l2
   repeat' first
   | (with_reducible exact ih0 _ _ _ _)
   | (with_reducible exact ih1 _ _ _ _)
   | (with_reducible exact ih2 _ _ _)
   | (with_reducible exact ih3 _ _ _ _)
   | (with_reducible exact ih4 _ _ _)
   | (with_reducible exact ih5 _ _ _ _ _ _ _ _)
   | (with_reducible exact ih6 _ _ _ _ _ _ _ _ _)
   | (with_reducible exact ih7 _ _ _ _ _ _ _ _)
   | (with_reducible exact ih8 _ _ _ _ _ _)
   | (with_reducible exact ih9 _ _ _ _ _ _ _)
   | (with_reducible exact hopmeshlaw49_Delivery_89.mono _ _ _ _ _)
   | (with_reducible exact LeO.refl _)
   | (with_reducible exact LeO.none _)
   | (with_reducible refine LeO.ite ?_ ?_)
   | (with_reducible refine LeO.bind ?_ (fun _ => ?_))
   | exact ih0 _ _ _ _
   | exact ih1 _ _ _ _
   | exact ih2 _ _ _
   | exact ih3 _ _ _ _
   | exact ih4 _ _ _
   | exact ih5 _ _ _ _ _ _ _ _
   | exact ih6 _ _ _ _ _ _ _ _ _
   | exact ih7 _ _ _ _ _ _ _ _
   | exact ih8 _ _ _ _ _ _
   | exact ih9 _ _ _ _ _ _ _
   | exact hopmeshlaw49_Delivery_89.mono _ _ _ _ _
   | exact LeO.none _
   | refine LeO.ite ?_ ?_
   | refine LeO.bind ?_ (fun _ => ?_)
  ·intro y0 y1 y2
   unfold hopmeshlaw49_Delivery_85.l3
   repeat' first
   | (with_reducible exact ih0 _ _ _ _)
   | (with_reducible exact ih1 _ _ _ _)
   | (with_reducible exact ih2 _ _ _)
   | (with_reducible exact ih3 _ _ _ _)
   | (with_reducible exact ih4 _ _ _)
   | (with_reducible exact ih5 _ _ _ _ _ _ _ _)
   | (with_reducible exact ih6 _ _ _ _ _ _ _ _ _)
   | (with_reducible exact ih7 _ _ _ _ _ _ _ _)
   | (with_reducible exact ih8 _ _ _ _ _ _)
   | (with_reducible exact ih9 _ _ _ _ _ _ _)
   | (with_reducible exact hopmeshlaw49_Delivery_89.mono _ _ _ _ _)
   | (with_reducible exact LeO.refl _)
   | (with_reducible exact LeO.none _)
   | (with_reducible refine LeO.ite ?_ ?_)
   | (with_reducible refine LeO.bind ?_ (fun _ => ?_))
   | exact ih0 _ _ _ _
   | exact ih1 _ _ _ _
   | exact ih2 _ _ _
   | exact ih3 _ _ _ _
   | exact ih4 _ _ _
   | exact ih5 _ _ _ _ _ _ _ _
   | exact ih6 _ _ _ _ _ _ _ _ _
   | exact ih7 _ _ _ _ _ _ _ _
   | exact ih8 _ _ _ _ _ _
   | exact ih9 _ _ _ _ _ _ _
   | exact hopmeshlaw49_Delivery_89.mono _ _ _ _ _
   | exact LeO.none _
   | refine LeO.ite ?_ ?_
   | refine LeO.bind ?_ (fun _ => ?_)
  ·intro y0 y1 y2 y3 y4 y5 y6 y7
   unfold hopmeshlaw49_Delivery_85.j4
   repeat' first
   | (with_reducible exact ih0 _ _ _ _)
   | (with_reducible exact ih1 _ _ _ _)
   | (with_reducible exact ih2 _ _ _)
   | (with_reducible exact ih3 _ _ _ _)
   | (with_reducible exact ih4 _ _ _)
   | (with_reducible exact ih5 _ _ _ _ _ _ _ _)
   | (with_reducible exact ih6 _ _ _ _ _ _ _ _ _)
   | (with_reducible exact ih7 _ _ _ _ _ _ _ _)
   | (with_reducible exact ih8 _ _ _ _ _ _)
   | (with_reducible exact ih9 _ _ _ _ _ _ _)
   | (with_reducible exact hopmeshlaw49_Delivery_89.mono _ _ _ _ _)
   | (with_reducible exact LeO.refl _)
   | (with_reducible exact LeO.none _)
   | (with_reducible refine LeO.ite ?_ ?_)
   | (with_reducible refine LeO.bind ?_ (fun _ => ?_))
   | exact ih0 _ _ _ _
   | exact ih1 _ _ _ _
   | exact ih2 _ _ _
   | exact ih3 _ _ _ _
   | exact ih4 _ _ _
   | exact ih5 _ _ _ _ _ _ _ _
   | exact ih6 _ _ _ _ _ _ _ _ _
   | exact ih7 _ _ _ _ _ _ _ _
   | exact ih8 _ _ _ _ _ _
   | exact ih9 _ _ _ _ _ _ _
   | exact hopmeshlaw49_Delivery_89.mono _ _ _ _ _
   | exact LeO.none _
   | refine LeO.ite ?_ ?_
   | refine LeO.bind ?_ (fun _ => ?_)
  ·intro y0 y1 y2 y3 y4 y5 y6 y7 y8
   unfold hopmeshlaw49_Delivery_85.l4
   repeat' first
   | (with_reducible exact ih0 _ _ _ _)
   | (with_reducible exact ih1 _ _ _ _)
   | (with_reducible exact ih2 _ _ _)
   | (with_reducible exact ih3 _ _ _ _)
   | (with_reducible exact ih4 _ _ _)
   | (with_reducible exact ih5 _ _ _ _ _ _ _ _)
   | (with_reducible exact ih6 _ _ _ _ _ _ _ _ _)
   | (with_reducible exact ih7 _ _ _ _ _ _ _ _)
   | (with_reducible exact ih8 _ _ _ _ _ _)
   | (with_reducible exact ih9 _ _ _ _ _ _ _)
   | (with_reducible exact hopmeshlaw49_Delivery_89.mono _ _ _ _ _)
   | (with_reducible exact LeO.refl _)
   | (with_reducible exact LeO.none _)
   | (with_reducible refine LeO.ite ?_ ?_)
   | (with_reducible refine LeO.bind ?_ (fun _ => ?_))
   | exact ih0 _ _ _ _
   | exact ih1 _ _ _ _
   | exact ih2 _ _ _
   | exact ih3 _ _ _ _
   | exact ih4 _ _ _
   | exact ih5 _ _ _ _ _ _ _ _
   | exact ih6 _ _ _ _ _ _ _ _ _
   | exact ih7 _ _ _ _ _ _ _ _
   | exact ih8 _ _ _ _ _ _
   | exact ih9 _ _ _ _ _ _ _
   | exact hopmeshlaw49_Delivery_89.mono _ _ _ _ _
   | exact LeO.none _
   | refine LeO.ite ?_ ?_
   | refine LeO.bind ?_ (fun _ => ?_)
  ·intro y0 y1 y2 y3 y4 y5 y6 y7
   unfold hopmeshlaw49_Delivery_85.j6
   repeat' first
   | (with_reducible exact ih0 _ _ _ _)
   | (with_reducible exact ih1 _ _ _ _)
   | (with_reducible exact ih2 _ _ _)
   | (with_reducible exact ih3 _ _ _ _)
   | (with_reducible exact ih4 _ _ _)
   | (with_reducible exact ih5 _ _ _ _ _ _ _ _)
   | (with_reducible exact ih6 _ _ _ _ _ _ _ _ _)
   | (with_reducible exact ih7 _ _ _ _ _ _ _ _)
   | (with_reducible exact ih8 _ _ _ _ _ _)
   | (with_reducible exact ih9 _ _ _ _ _ _ _)
   | (with_reducible exact hopmeshlaw49_Delivery_89.mono _ _ _ _ _)
   | (with_reducible exact LeO.refl _)
   | (with_reducible exact LeO.none _)
   | (with_reducible refine LeO.ite ?_ ?_)
   | (with_reducible refine LeO.bind ?_ (fun _ => ?_))
   | exact ih0 _ _ _ _
   | exact ih1 _ _ _ _
   | exact ih2 _ _ _
   | exact ih3 _ _ _ _
   | exact ih4 _ _ _
   | exact ih5 _ _ _ _ _ _ _ _
   | exact ih6 _ _ _ _ _ _ _ _ _
   | exact ih7 _ _ _ _ _ _ _ _
   | exact ih8 _ _ _ _ _ _
   | exact ih9 _ _ _ _ _ _ _
   | exact hopmeshlaw49_Delivery_89.mono _ _ _ _ _
   | exact LeO.none _
   | refine LeO.ite ?_ ?_
   | refine LeO.bind ?_ (fun _ => ?_)
  ·intro y0 y1 y2 y3 y4 y5
   unfold hopmeshlaw49_Delivery_85.j7
   repeat' first
   | (with_reducible exact ih0 _ _ _ _)
   | (with_reducible exact ih1 _ _ _ _)
   | (with_reducible exact ih2 _ _ _)
   | (with_reducible exact ih3 _ _ _ _)
   | (with_reducible exact ih4 _ _ _)
   | (with_reducible exact ih5 _ _ _ _ _ _ _ _)
   | (with_reducible exact ih6 _ _ _ _ _ _ _ _ _)
   | (with_reducible exact ih7 _ _ _ _ _ _ _ _)
   | (with_reducible exact ih8 _ _ _ _ _ _)
   | (with_reducible exact ih9 _ _ _ _ _ _ _)
   | (with_reducible exact hopmeshlaw49_Delivery_89.mono _ _ _ _ _)
   | (with_reducible exact LeO.refl _)
   | (with_reducible exact LeO.none _)
   | (with_reducible refine LeO.ite ?_ ?_)
   | (with_reducible refine LeO.bind ?_ (fun _ => ?_))
   | exact ih0 _ _ _ _
   | exact ih1 _ _ _ _
   | exact ih2 _ _ _
   | exact ih3 _ _ _ _
   | exact ih4 _ _ _
   | exact ih5 _ _ _ _ _ _ _ _
   | exact ih6 _ _ _ _ _ _ _ _ _
   | exact ih7 _ _ _ _ _ _ _ _
   | exact ih8 _ _ _ _ _ _
   | exact ih9 _ _ _ _ _ _ _
   | exact hopmeshlaw49_Delivery_89.mono _ _ _ _ _
   | exact LeO.none _
   | refine LeO.ite ?_ ?_
   | refine LeO.bind ?_ (fun _ => ?_)
  ·intro y0 y1 y2 y3 y4 y5 y6
   unfold hopmeshlaw49_Delivery_85.j8
   repeat' first
   | (with_reducible exact ih0 _ _ _ _)
   | (with_reducible exact ih1 _ _ _ _)
   | (with_reducible exact ih2 _ _ _)
   | (with_reducible exact ih3 _ _ _ _)
   | (with_reducible exact ih4 _ _ _)
   | (with_reducible exact ih5 _ _ _ _ _ _ _ _)
   | (with_reducible exact ih6 _ _ _ _ _ _ _ _ _)
   | (with_reducible exact ih7 _ _ _ _ _ _ _ _)
   | (with_reducible exact ih8 _ _ _ _ _ _)
   | (with_reducible exact ih9 _ _ _ _ _ _ _)
   | (with_reducible exact hopmeshlaw49_Delivery_89.mono _ _ _ _ _)
   | (with_reducible exact LeO.refl _)
   | (with_reducible exact LeO.none _)
   | (with_reducible refine LeO.ite ?_ ?_)
   | (with_reducible refine LeO.bind ?_ (fun _ => ?_))
   | exact ih0 _ _ _ _
   | exact ih1 _ _ _ _
   | exact ih2 _ _ _
   | exact ih3 _ _ _ _
   | exact ih4 _ _ _
   | exact ih5 _ _ _ _ _ _ _ _
   | exact ih6 _ _ _ _ _ _ _ _ _
   | exact ih7 _ _ _ _ _ _ _ _
   | exact ih8 _ _ _ _ _ _
   | exact ih9 _ _ _ _ _ _ _
   | exact hopmeshlaw49_Delivery_89.mono _ _ _ _ _
   | exact LeO.none _
   | refine LeO.ite ?_ ?_
   | refine LeO.bind ?_ (fun _ => ?_)
theorem hopmeshlaw49_Delivery_85.mono : ∀ a0 a1 a2 a3 k, LeO (hopmeshlaw49_Delivery_85.f k a0 a1 a2 a3) (hopmeshlaw49_Delivery_85.f (k + 1) a0 a1 a2 a3) := by
 intro a0 a1 a2 a3 k
 obtain ⟨ih0, ih1, ih2, ih3, ih4, ih5, ih6, ih7, ih8, ih9⟩ := hopmeshlaw49_Delivery_85.mono_l k
 exact ih0 a0 a1 a2 a3
def hopmeshlaw49_Delivery_85.T5 : Bool × List (List Nat × List Nat) := (true, [([], []), ([], []), ([], []), ([1, 2], [1, 2]), ([3], [3]), ([], []), ([], []), ([5, 6], [5, 6]), ([7], [7]), ([0, 4, 8], [0, 4, 8]), ([9], [9])])
def hopmeshlaw49_Delivery_85.B5 : List Nat := [0, 0, 0, 6, 14, 0, 0, 96, 224, 511, 1023]
theorem hopmeshlaw49_Delivery_85.tab5 : rtab .any (opsOf Try.f85 5) = hopmeshlaw49_Delivery_85.T5 := by kernel_rfl
theorem hopmeshlaw49_Delivery_85.bits5 : waitsOk hopmeshlaw49_Delivery_85.T5.2 hopmeshlaw49_Delivery_85.B5 = true := by kernel_rfl
def hopmeshlaw49_Delivery_85.T11 : Bool × List (List Nat × List Nat) := (true, [([], []), ([], []), ([], []), ([], []), ([3], [3]), ([], []), ([], []), ([6], [6]), ([5, 7], [5, 7]), ([8], [8]), ([], []), ([], []), ([10, 11], [10, 11]), ([12], [12]), ([0, 1, 0, 1, 5, 6, 7, 8, 9, 13], [0, 1]), ([14, 9, 0, 1, 5, 6, 7, 8, 9, 13], [9, 14]), ([2, 4, 0, 1, 2, 3, 4, 5, 6, 7, 8, 9, 10, 11, 12, 13, 14, 15], [2, 4]), ([16, 13, 15, 0, 1, 2, 3, 4, 5, 6, 7, 8, 9, 10, 11, 12, 13, 14, 15], [13, 16])])
def hopmeshlaw49_Delivery_85.B11 : List Nat := [0, 0, 0, 0, 8, 0, 0, 64, 224, 480, 0, 0, 3072, 7168, 16355, 32739, 65535, 131071]
theorem hopmeshlaw49_Delivery_85.tab11 : rtab .any (opsOf Try.f85 11) = hopmeshlaw49_Delivery_85.T11 := by kernel_rfl
theorem hopmeshlaw49_Delivery_85.bits11 : waitsOk hopmeshlaw49_Delivery_85.T11.2 hopmeshlaw49_Delivery_85.B11 = true := by kernel_rfl
def hopmeshlaw49_Delivery_85.T17 : Bool × List (List Nat × List Nat) := (true, [([], []), ([], []), ([], []), ([1, 2], [1, 2]), ([3], [3]), ([], []), ([], []), ([5, 6], [5, 6]), ([7], [7]), ([0, 4, 8], [0, 4, 8]), ([9], [9]), ([10], [10])])
def hopmeshlaw49_Delivery_85.B17 : List Nat := [0, 0, 0, 6, 14, 0, 0, 96, 224, 511, 1023, 2047]
theorem hopmeshlaw49_Delivery_85.tab17 : rtab .any (opsOf Try.f85 17) = hopmeshlaw49_Delivery_85.T17 := by kernel_rfl
theorem hopmeshlaw49_Delivery_85.bits17 : waitsOk hopmeshlaw49_Delivery_85.T17.2 hopmeshlaw49_Delivery_85.B17 = true := by kernel_rfl
def hopmeshlaw49_Delivery_85.T23 : Bool × List (List Nat × List Nat) := (true, [([], []), ([], []), ([], []), ([], []), ([3], [3]), ([], []), ([], []), ([6], [6]), ([5, 7], [5, 7]), ([8], [8]), ([], []), ([], []), ([10, 11], [10, 11]), ([12], [12]), ([0, 1, 0, 1, 5, 6, 7, 8, 9, 13], [0, 1]), ([14, 9, 0, 1, 5, 6, 7, 8, 9, 13], [9, 14]), ([2, 4, 0, 1, 2, 3, 4, 5, 6, 7, 8, 9, 10, 11, 12, 13, 14, 15], [2, 4]), ([16, 13, 15, 0, 1, 2, 3, 4, 5, 6, 7, 8, 9, 10, 11, 12, 13, 14, 15], [13, 16])])
def hopmeshlaw49_Delivery_85.B23 : List Nat := [0, 0, 0, 0, 8, 0, 0, 64, 224, 480, 0, 0, 3072, 7168, 16355, 32739, 65535, 131071]
theorem hopmeshlaw49_Delivery_85.tab23 : rtab .any (opsOf Try.f85 23) = hopmeshlaw49_Delivery_85.T23 := by kernel_rfl
theorem hopmeshlaw49_Delivery_85.bits23 : waitsOk hopmeshlaw49_Delivery_85.T23.2 hopmeshlaw49_Delivery_85.B23 = true := by kernel_rfl
def hopmeshlaw49_Delivery_85.T35 : Bool × List (List Nat × List Nat) := (true, [([], []), ([], []), ([], []), ([], []), ([2, 3], [2, 3]), ([1, 4], [1, 4]), ([5], [5]), ([], []), ([], []), ([7, 8], [7, 8]), ([9], [9]), ([0, 6, 10], [0, 6, 10]), ([11], [11]), ([12], [12])])
def hopmeshlaw49_Delivery_85.B35 : List Nat := [0, 0, 0, 0, 12, 30, 62, 0, 0, 384, 896, 2047, 4095, 8191]
theorem hopmeshlaw49_Delivery_85.tab35 : rtab .any (opsOf Try.f85 35) = hopmeshlaw49_Delivery_85.T35 := by kernel_rfl
theorem hopmeshlaw49_Delivery_85.bits35 : waitsOk hopmeshlaw49_Delivery_85.T35.2 hopmeshlaw49_Delivery_85.B35 = true := by kernel_rfl
set_option maxHeartbeats 8000000 in
set_option maxRecDepth 100000 in
theorem hopmeshlaw49_Delivery_85.way1 (k : Nat) : ∀ (P0_ : Nat → Prop) (u9000_ : Value) (l0 : List (S47)) (a1 : Int) (a2 : Int) (a3 : Int)  (r : List (S47)) (w0 w : World) (hB : Below w0.heap.size w0 w) (ho0 : Kd.R k47 47 w w0.heap.size P0_ u9000_ l0) (h : hopmeshlaw49_Delivery_85.f k l0 a1 a2 a3 = some r) (cx1 : Aside0 ((wrap64 (a2 - a1)) = 1)),
 Calls Try.prog 85 #[u9000_, .int .i64 a1, .int .i64 a2, .int .i64 a3, .func (.func 50) #[] #[]] w fun e w' => e = .returned (.tuple #[]) ∧ Kd.R k47 47 w' w0.heap.size (fun k_ => (P0_ k_ ∨ w.heap.size ≤ k_)) u9000_ r ∧ Below w0.heap.size w0 w' ∧ Kept w w' (fun k_ => P0_ k_) := by
 induction k using Nat.strongRecOn with
 | _ k ih =>
 intro P0_ u9000_ l0 a1 a2 a3 r w0 w hB ho0 h cx1
 cases k with
 | zero => exact absurd h (by simp [hopmeshlaw49_Delivery_85.f])
 | succ k =>
 simp only [hopmeshlaw49_Delivery_85.f] at h
 have hu47 := Try.underlying47
 have HO0 := Aside0.mk (show Kd.R k47 47 w w0.heap.size (fun k_ => (P0_ k_ ∨ w.heap.size ≤ k_)) u9000_ l0 from Kd.R_mono ho0 (fun k_ hk => (.inl hk)))
 have HK := Aside0.mk (Kept.refl w (fun k_ => P0_ k_))
 have HW0 := Aside0.mk hB.size
 have HB := Aside0.mk hB
 clear hB
 have H : (if (wrap64 (a2 - a1)) = 1 then (hopmeshlaw49_Delivery_85.l0 k l0 a1 a2 a3) else (if (wrap64 (a3 - a2)) = 1 then (hopmeshlaw49_Delivery_85.l2 k l0 a2 a1 a2) else (if a2 > (wrap64 ((IntKind.u64.wrap (wrap64 (a1 + a3))) / 2)) then (hopmeshlaw49_Delivery_85.j4 k l0 a1 a2 a3 (wrap64 ((IntKind.u64.wrap (wrap64 (a1 + a3))) / 2)) (wrap64 ((wrap64 ((IntKind.u64.wrap (wrap64 (a1 + a3))) / 2)) + a2)) (wrap64 ((wrap64 ((wrap64 ((IntKind.u64.wrap (wrap64 (a1 + a3))) / 2)) + a2)) - a3)) (wrap64 ((IntKind.u64.wrap (wrap64 (a1 + a3))) / 2))) else (hopmeshlaw49_Delivery_85.j4 k l0 a1 a2 a3 (wrap64 ((IntKind.u64.wrap (wrap64 (a1 + a3))) / 2)) (wrap64 ((wrap64 ((IntKind.u64.wrap (wrap64 (a1 + a3))) / 2)) + a2)) a1 a2)))) = some r := h
 clear h
 by_cases c6 : (wrap64 (a2 - a1)) = 1
 ·rw [if_pos c6] at H
  have c6b0 : ((wrap64 (a2 - a1)) == 1) = true := beq_iff_eq.mpr c6
  have c6b1 : ((wrap64 (a2 - a1)) != 1) = false := bne_eq_false_iff_eq.mpr c6
  clear c6
  have H' := Aside0.mk H
  clear H
  go_enter Try.func85, Try.ntmps85
  go_wp2
  go_loopg [10, 11] k (fun kq v10 v11 w' => ∃ (x10_1 : Int) (x11_1 : Int), v10 = .int .i64 x10_1 ∧ v11 = .int .i64 x11_1 ∧ Aside0 (hopmeshlaw49_Delivery_85.l0 kq l0 a1 x10_1 x11_1 = some r) ∧ Aside0 (kq ≤ k) ∧ Aside0 (Kd.R k47 47 w' w0.heap.size (fun k_ => (P0_ k_ ∨ w.heap.size ≤ k_)) u9000_ l0) ∧ Aside0 (Kept w w' (fun k_ => P0_ k_)) ∧ Aside0 (Below w0.heap.size w0 w'))
  case atStart => exact ⟨(a2), (a3), rfs, rfs, H', ⟨Nat.le_refl _⟩, roA HO0, ⟨by repeat (first | (with_reducible first | exact HK.out | apply Kept.alloc | apply Kept.drewN | apply Kept.drew) | exact HK.out)⟩, hbA HB⟩
  case round =>
   clear H'
   try clear c6
   try clear c6b0
   try clear c6b1
   obtain ⟨x10_1, x11_1, rfl, rfl, HA, HK1, HO_0, HK, HB⟩ := hrel
   cases gk with
   | zero => exact absurd HA.out (by simp [hopmeshlaw49_Delivery_85.l0])
   | succ k1 =>
    have H := HA.out
    clear HA
    simp only [hopmeshlaw49_Delivery_85.l0] at H
    by_cases c7 : x10_1 < x11_1
    ·rw [if_pos c7] at H
     have c7b0 : decide (x10_1 < x11_1) = true := decide_eq_true c7
     clear c7
     obtain ⟨ji8, hji8⟩ : ∃ j_ : Int, (wrap64 ((IntKind.u64.wrap (wrap64 (x10_1 + x11_1))) / 2)) = j_ := ⟨_, rfl⟩
     replace H : (if 0 ≤ (ji8) then (if (ji8) < (l0.length : Int) then (if 0 ≤ a1 then (if a1 < (l0.length : Int) then ((hopmeshlaw49_order_1.f ((rd_T47 l0 (ji8)).f0) ((rd_T47 l0 (ji8)).f1) ((rd_T47 l0 (ji8)).f2) ((rd_T47 l0 a1).f0) ((rd_T47 l0 a1).f1) ((rd_T47 l0 a1).f2)).bind fun t310 => (if t310 < 0 then (hopmeshlaw49_Delivery_85.l0 k1 l0 a1 (wrap64 ((ji8) + 1)) x11_1) else (hopmeshlaw49_Delivery_85.l0 k1 l0 a1 x10_1 ji8))) else (none)) else (none)) else (none)) else (none)) = some r := by first | (rw [hji8] at H; exact H) | (simp only [hji8] at H ⊢; exact H)
     have hji8w : (IntKind.i64.wrap ((IntKind.u64.wrap (wrap64 (x10_1 + x11_1))) / 2)) = ji8 := (i64_w _).trans hji8
     by_cases c9 : 0 ≤ (ji8)
     ·rw [if_pos c9] at H
      have c9b0 : decide (0 ≤ (ji8)) = true := decide_eq_true c9
      clear c9
      by_cases c10 : (ji8) < (l0.length : Int)
      ·rw [if_pos c10] at H
       have c10b0 : decide ((ji8) < (l0.length : Int)) = true := decide_eq_true c10
       clear c10
       by_cases c11 : 0 ≤ a1
       ·rw [if_pos c11] at H
        have c11b0 : decide (0 ≤ a1) = true := decide_eq_true c11
        clear c11
        by_cases c12 : a1 < (l0.length : Int)
        ·rw [if_pos c12] at H
         have c12b0 : decide (a1 < (l0.length : Int)) = true := decide_eq_true c12
         clear c12
         replace H := Option.bind_eq_some_iff.mp H
         obtain ⟨t310, A130, H⟩ := H
         (try dsimp only at H)
         have A13 := Aside0.mk A130
         clear A130
         by_cases c14 : t310 < 0
         ·rw [if_pos c14] at H
          have c14b0 : decide (t310 < 0) = true := decide_eq_true c14
          clear c14
          have H' := Aside0.mk H
          clear H
          try go_wp2
          replace HO_0 := Aside0.mk (Kd.R_drew HO_0.out)
          replace HK := Aside0.mk (Kept.drew HK.out)
          replace HB := Aside0.mk (below_drew1 HB.out)
          obtain ⟨Ao16, co16, eo16⟩ := Kd.R_slice HO_0.out
          (first | subst eo16 | (injection eo16 with f1_ f2_ f3_; have f4_ := f1_.symm; have f5_ := f3_.symm; clear f1_ f2_ f3_; subst f4_; subst f5_))
          have p308 : 0 ≤ ((ji8) : Int) := pos_
          have q308 : (ji8) < (l0.length : Int) := pos_
          obtain ⟨ad308, e308, hx308_0, hx308_1, hx308_2⟩ := at_T47 (Kd.R_reads' HO_0.out).2.2 (ji8) p308 q308
          cases e308
          replace p308 := eq_true p308
          replace q308 := eq_true q308
          have p309 : 0 ≤ (a1 : Int) := pos_
          have q309 : a1 < (l0.length : Int) := pos_
          obtain ⟨ad309, e309, hx309_0, hx309_1, hx309_2⟩ := at_T47 (Kd.R_reads' HO_0.out).2.2 a1 p309 q309
          obtain rfl : ad308 = ad309 := (by injection e309)
          replace p309 := eq_true p309
          replace q309 := eq_true q309
          refine start_ (n := 11) (S := fun w' => w'.cell? (ad308.add (((ji8)).toNat * 3)) = some (.int .u8 ((rd_T47 l0 (ji8)).f0)) ∧ w'.cell? ⟨(ad308.add (((ji8)).toNat * 3)).block, (ad308.add (((ji8)).toNat * 3)).off + 1, none⟩ = some (.int .u8 ((rd_T47 l0 (ji8)).f1)) ∧ w'.cell? ⟨(ad308.add (((ji8)).toNat * 3)).block, (ad308.add (((ji8)).toNat * 3)).off + 2, none⟩ = some (.int .u8 ((rd_T47 l0 (ji8)).f2)) ∧ w'.cell? (ad308.add ((a1).toNat * 3)) = some (.int .u8 ((rd_T47 l0 a1).f0)) ∧ w'.cell? ⟨(ad308.add ((a1).toNat * 3)).block, (ad308.add ((a1).toNat * 3)).off + 1, none⟩ = some (.int .u8 ((rd_T47 l0 a1).f1)) ∧ w'.cell? ⟨(ad308.add ((a1).toNat * 3)).block, (ad308.add ((a1).toNat * 3)).off + 2, none⟩ = some (.int .u8 ((rd_T47 l0 a1).f2))) (ds := []) #[false, false, false, false, false, false, false, false, false, false, false] (by kernel_rfl) rfl rfl ⟨hx308_0, hx308_1, hx308_2, hx309_0, hx309_1, hx309_2⟩ (fun hHeld => ?_); refine with_tabW hopmeshlaw49_Delivery_85.tab5 hopmeshlaw49_Delivery_85.bits5 (fun HT_ HW_ => ?_)
          generalize wr.drew = w15 at HO_0 HK HB hx308_0 hx308_1 hx308_2 hx309_0 hx309_1 hx309_2 hHeld ⊢
          refine pur 0 (some 40) #[true, false, false, false, false, false, false, false, false, false, false] HT_ ?_
          refine pur 1 (some 41) #[true, true, false, false, false, false, false, false, false, false, false] HT_ ?_
          refine pur 2 (some 42) #[true, true, true, false, false, false, false, false, false, false, false] HT_ ?_
          refine pur 3 (some 43) #[true, true, true, true, false, false, false, false, false, false, false] HT_ ?_
          refine pur 5 (some 45) #[true, true, true, true, false, true, false, false, false, false, false] HT_ ?_
          refine pur 6 (some 46) #[true, true, true, true, false, true, true, false, false, false, false] HT_ ?_
          refine pur 7 (some 47) #[true, true, true, true, false, true, true, true, false, false, false] HT_ ?_
          refine tak 4 (some 44) #[true, true, true, true, true, true, true, true, false, false, false] HT_ HW_ hHeld rfl (Or.inl ⟨by rfl, by rintro w' ⟨s0, s1, s2, s3, s4, s5⟩; go_simp; with_reducible rfl⟩) ?_
          refine tak 8 (some 48) #[true, true, true, true, true, true, true, true, true, false, false] HT_ HW_ hHeld rfl (Or.inl ⟨by rfl, by rintro w' ⟨s0, s1, s2, s3, s4, s5⟩; go_simp; with_reducible rfl⟩) ?_
          refine one_ (i := 9) (N := some 49) #[true, true, true, true, true, true, true, true, true, true, false] rfl rfl (one_of HT_.out (by kernel_rfl)) (by decide) (fun K hK => ?_)
          refine goes_fv Try.func50 (by kernel_rfl) rfl #[.agg #[.int .u8 ((rd_T47 l0 (ji8)).f0), .int .u8 ((rd_T47 l0 (ji8)).f1), .int .u8 ((rd_T47 l0 (ji8)).f2)], .agg #[.int .u8 ((rd_T47 l0 a1).f0), .int .u8 ((rd_T47 l0 a1).f1), .int .u8 ((rd_T47 l0 a1).f2)]] (by rfl) rfl rfl (by rfl) (by (try simp only [List.map_toArray, List.map_cons, List.map_nil]); first | done | (simp only [hji8]; rfl) | rfl | (simp only [List.length_drop, List.length_take]; rfl)) ?_
          with_reducible refine (hopmeshlaw49_order_1.calls ((rd_T47 l0 (ji8)).f0) ((rd_T47 l0 (ji8)).f1) ((rd_T47 l0 (ji8)).f2) ((rd_T47 l0 a1).f0) ((rd_T47 l0 a1).f1) ((rd_T47 l0 a1).f2) t310 _ A13.out).mono ?_
          rintro e w17 ⟨rfl, hb⟩
          have HS0_ := (hb.cell (World.block_lt_of_cell? _ _ (hHeld.1))).trans (hHeld.1)
          have HS1_ := (hb.cell (World.block_lt_of_cell? _ _ (hHeld.2.1))).trans (hHeld.2.1)
          have HS2_ := (hb.cell (World.block_lt_of_cell? _ _ (hHeld.2.2.1))).trans (hHeld.2.2.1)
          have HS3_ := (hb.cell (World.block_lt_of_cell? _ _ (hHeld.2.2.2.1))).trans (hHeld.2.2.2.1)
          have HS4_ := (hb.cell (World.block_lt_of_cell? _ _ (hHeld.2.2.2.2.1))).trans (hHeld.2.2.2.2.1)
          have HS5_ := (hb.cell (World.block_lt_of_cell? _ _ (hHeld.2.2.2.2.2))).trans (hHeld.2.2.2.2.2)
          refine ⟨_, rfl, ?_⟩
          replace HO_0 := rB HO_0 hb
          replace HK := Aside0.mk (Kept.below (S := (fun k_ => P0_ k_)) (by repeat (first | (with_reducible first | exact HK.out | apply Kept.alloc | apply Kept.drewN | apply Kept.drew) | exact HK.out)) hb)
          replace HB := hbS HB hb
          (try clear hb)
          (try clear hk)
          refine hK.out _ _ ⟨HS0_, HS1_, HS2_, HS3_, HS4_, HS5_⟩ (fun hHeld => ?_)
          clear hK K
          refine nrm (some 49) ?_
          refine pur 10 (some 50) #[true, true, true, true, true, true, true, true, true, true, true] HT_ ?_
          refine done_ (done_of HT_.out (by kernel_rfl)) ?_
          try go_wp2
          go_roundg k1
          case measure => have := HK1.out; omega
          case rel => exact ⟨(wrap64 ((ji8) + 1)), (x11_1), (by first | rfl | (simp; done) | (simp only [← hji8] <;> (first | rfl | simp)) | (simp [*]; done)), rfs, H', ⟨by have := HK1.out; omega⟩, roA HO_0, ⟨by repeat (first | (with_reducible first | exact HK.out | apply Kept.alloc | apply Kept.drewN | apply Kept.drew) | exact HK.out)⟩, hbA HB⟩
         ·rw [if_neg c14] at H
          have c14b0 : decide (t310 < 0) = false := decide_eq_false c14
          clear c14
          have H' := Aside0.mk H
          clear H
          try go_wp2
          replace HO_0 := Aside0.mk (Kd.R_drew HO_0.out)
          replace HK := Aside0.mk (Kept.drew HK.out)
          replace HB := Aside0.mk (below_drew1 HB.out)
          obtain ⟨Ao19, co19, eo19⟩ := Kd.R_slice HO_0.out
          (first | subst eo19 | (injection eo19 with f1_ f2_ f3_; have f4_ := f1_.symm; have f5_ := f3_.symm; clear f1_ f2_ f3_; subst f4_; subst f5_))
          have p308 : 0 ≤ ((ji8) : Int) := pos_
          have q308 : (ji8) < (l0.length : Int) := pos_
          obtain ⟨ad308, e308, hx308_0, hx308_1, hx308_2⟩ := at_T47 (Kd.R_reads' HO_0.out).2.2 (ji8) p308 q308
          cases e308
          replace p308 := eq_true p308
          replace q308 := eq_true q308
          have p309 : 0 ≤ (a1 : Int) := pos_
          have q309 : a1 < (l0.length : Int) := pos_
          obtain ⟨ad309, e309, hx309_0, hx309_1, hx309_2⟩ := at_T47 (Kd.R_reads' HO_0.out).2.2 a1 p309 q309
          obtain rfl : ad308 = ad309 := (by injection e309)
          replace p309 := eq_true p309
          replace q309 := eq_true q309
          refine start_ (n := 11) (S := fun w' => w'.cell? (ad308.add (((ji8)).toNat * 3)) = some (.int .u8 ((rd_T47 l0 (ji8)).f0)) ∧ w'.cell? ⟨(ad308.add (((ji8)).toNat * 3)).block, (ad308.add (((ji8)).toNat * 3)).off + 1, none⟩ = some (.int .u8 ((rd_T47 l0 (ji8)).f1)) ∧ w'.cell? ⟨(ad308.add (((ji8)).toNat * 3)).block, (ad308.add (((ji8)).toNat * 3)).off + 2, none⟩ = some (.int .u8 ((rd_T47 l0 (ji8)).f2)) ∧ w'.cell? (ad308.add ((a1).toNat * 3)) = some (.int .u8 ((rd_T47 l0 a1).f0)) ∧ w'.cell? ⟨(ad308.add ((a1).toNat * 3)).block, (ad308.add ((a1).toNat * 3)).off + 1, none⟩ = some (.int .u8 ((rd_T47 l0 a1).f1)) ∧ w'.cell? ⟨(ad308.add ((a1).toNat * 3)).block, (ad308.add ((a1).toNat * 3)).off + 2, none⟩ = some (.int .u8 ((rd_T47 l0 a1).f2))) (ds := []) #[false, false, false, false, false, false, false, false, false, false, false] (by kernel_rfl) rfl rfl ⟨hx308_0, hx308_1, hx308_2, hx309_0, hx309_1, hx309_2⟩ (fun hHeld => ?_); refine with_tabW hopmeshlaw49_Delivery_85.tab5 hopmeshlaw49_Delivery_85.bits5 (fun HT_ HW_ => ?_)
          generalize wr.drew = w18 at HO_0 HK HB hx308_0 hx308_1 hx308_2 hx309_0 hx309_1 hx309_2 hHeld ⊢
          refine pur 0 (some 40) #[true, false, false, false, false, false, false, false, false, false, false] HT_ ?_
          refine pur 1 (some 41) #[true, true, false, false, false, false, false, false, false, false, false] HT_ ?_
          refine pur 2 (some 42) #[true, true, true, false, false, false, false, false, false, false, false] HT_ ?_
          refine pur 3 (some 43) #[true, true, true, true, false, false, false, false, false, false, false] HT_ ?_
          refine pur 5 (some 45) #[true, true, true, true, false, true, false, false, false, false, false] HT_ ?_
          refine pur 6 (some 46) #[true, true, true, true, false, true, true, false, false, false, false] HT_ ?_
          refine pur 7 (some 47) #[true, true, true, true, false, true, true, true, false, false, false] HT_ ?_
          refine tak 4 (some 44) #[true, true, true, true, true, true, true, true, false, false, false] HT_ HW_ hHeld rfl (Or.inl ⟨by rfl, by rintro w' ⟨s0, s1, s2, s3, s4, s5⟩; go_simp; with_reducible rfl⟩) ?_
          refine tak 8 (some 48) #[true, true, true, true, true, true, true, true, true, false, false] HT_ HW_ hHeld rfl (Or.inl ⟨by rfl, by rintro w' ⟨s0, s1, s2, s3, s4, s5⟩; go_simp; with_reducible rfl⟩) ?_
          refine one_ (i := 9) (N := some 49) #[true, true, true, true, true, true, true, true, true, true, false] rfl rfl (one_of HT_.out (by kernel_rfl)) (by decide) (fun K hK => ?_)
          refine goes_fv Try.func50 (by kernel_rfl) rfl #[.agg #[.int .u8 ((rd_T47 l0 (ji8)).f0), .int .u8 ((rd_T47 l0 (ji8)).f1), .int .u8 ((rd_T47 l0 (ji8)).f2)], .agg #[.int .u8 ((rd_T47 l0 a1).f0), .int .u8 ((rd_T47 l0 a1).f1), .int .u8 ((rd_T47 l0 a1).f2)]] (by rfl) rfl rfl (by rfl) (by (try simp only [List.map_toArray, List.map_cons, List.map_nil]); first | done | (simp only [hji8]; rfl) | rfl | (simp only [List.length_drop, List.length_take]; rfl)) ?_
          with_reducible refine (hopmeshlaw49_order_1.calls ((rd_T47 l0 (ji8)).f0) ((rd_T47 l0 (ji8)).f1) ((rd_T47 l0 (ji8)).f2) ((rd_T47 l0 a1).f0) ((rd_T47 l0 a1).f1) ((rd_T47 l0 a1).f2) t310 _ A13.out).mono ?_
          rintro e w20 ⟨rfl, hb⟩
          have HS0_ := (hb.cell (World.block_lt_of_cell? _ _ (hHeld.1))).trans (hHeld.1)
          have HS1_ := (hb.cell (World.block_lt_of_cell? _ _ (hHeld.2.1))).trans (hHeld.2.1)
          have HS2_ := (hb.cell (World.block_lt_of_cell? _ _ (hHeld.2.2.1))).trans (hHeld.2.2.1)
          have HS3_ := (hb.cell (World.block_lt_of_cell? _ _ (hHeld.2.2.2.1))).trans (hHeld.2.2.2.1)
          have HS4_ := (hb.cell (World.block_lt_of_cell? _ _ (hHeld.2.2.2.2.1))).trans (hHeld.2.2.2.2.1)
          have HS5_ := (hb.cell (World.block_lt_of_cell? _ _ (hHeld.2.2.2.2.2))).trans (hHeld.2.2.2.2.2)
          refine ⟨_, rfl, ?_⟩
          replace HO_0 := rB HO_0 hb
          replace HK := Aside0.mk (Kept.below (S := (fun k_ => P0_ k_)) (by repeat (first | (with_reducible first | exact HK.out | apply Kept.alloc | apply Kept.drewN | apply Kept.drew) | exact HK.out)) hb)
          replace HB := hbS HB hb
          (try clear hb)
          (try clear hk)
          refine hK.out _ _ ⟨HS0_, HS1_, HS2_, HS3_, HS4_, HS5_⟩ (fun hHeld => ?_)
          clear hK K
          refine nrm (some 49) ?_
          refine pur 10 (some 50) #[true, true, true, true, true, true, true, true, true, true, true] HT_ ?_
          refine done_ (done_of HT_.out (by kernel_rfl)) ?_
          try go_wp2
          go_roundg k1
          case measure => have := HK1.out; omega
          case rel => exact ⟨(x10_1), (ji8), rfs, (by first | rfl | (simp; done) | (simp only [← hji8] <;> (first | rfl | simp)) | (simp [*]; done)), H', ⟨by have := HK1.out; omega⟩, roA HO_0, ⟨by repeat (first | (with_reducible first | exact HK.out | apply Kept.alloc | apply Kept.drewN | apply Kept.drew) | exact HK.out)⟩, hbA HB⟩
        ·rw [if_neg c12] at H
         exact absurd H (by simp)
       ·rw [if_neg c11] at H
        exact absurd H (by simp)
      ·rw [if_neg c10] at H
       exact absurd H (by simp)
     ·rw [if_neg c9] at H
      exact absurd H (by simp)
    ·rw [if_neg c7] at H
     have c7b0 : decide (x10_1 < x11_1) = false := decide_eq_false c7
     clear c7
     have H' := Aside0.mk H
     clear H
     go_wp2
     go_loopg [13] k1 (fun kq v13 w' => ∃ (x0_2 : List (S47)) (x13_2 : Int), v13 = .int .i64 x13_2 ∧ Aside0 (hopmeshlaw49_Delivery_85.l1 kq x0_2 x10_1 x13_2 = some r) ∧ Aside0 (kq ≤ k1) ∧ Aside0 (Kd.R k47 47 w' w0.heap.size (fun k_ => (P0_ k_ ∨ w.heap.size ≤ k_)) u9000_ x0_2) ∧ Aside0 (Kept w w' (fun k_ => P0_ k_)) ∧ Aside0 (Below w0.heap.size w0 w'))
     case atStart => exact ⟨(l0), (a1), rfs, H', ⟨Nat.le_refl _⟩, roA HO_0, ⟨by repeat (first | (with_reducible first | exact HK.out | apply Kept.alloc | apply Kept.drewN | apply Kept.drew) | exact HK.out)⟩, hbA HB⟩
     case round =>
      clear H'
      try clear c6
      try clear c6b0
      try clear c6b1
      try clear c7
      try clear c7b0
      obtain ⟨x0_2, x13_2, rfl, HA, HK2, HO_0, HK, HB⟩ := hrel
      cases gk with
      | zero => exact absurd HA.out (by simp [hopmeshlaw49_Delivery_85.l1])
      | succ k2 =>
       have H := HA.out
       clear HA
       simp only [hopmeshlaw49_Delivery_85.l1] at H
       by_cases c21 : x13_2 < (wrap64 (x10_1 - 1))
       ·rw [if_pos c21] at H
        have c21b0 : decide (x13_2 < (wrap64 (x10_1 - 1))) = true := decide_eq_true c21
        clear c21
        obtain ⟨ji22, hji22⟩ : ∃ j_ : Int, (wrap64 (x13_2 + 1)) = j_ := ⟨_, rfl⟩
        replace H : (if 0 ≤ (ji22) then (if (ji22) < (x0_2.length : Int) then (if 0 ≤ x13_2 then (if x13_2 < (x0_2.length : Int) then (hopmeshlaw49_Delivery_85.l1 k2 ((x0_2.set (x13_2 : Int).toNat (⟨(rd_T47 x0_2 (ji22)).f0, (rd_T47 x0_2 (ji22)).f1, (rd_T47 x0_2 (ji22)).f2⟩ : S47)).set ((ji22) : Int).toNat (⟨(rd_T47 x0_2 x13_2).f0, (rd_T47 x0_2 x13_2).f1, (rd_T47 x0_2 x13_2).f2⟩ : S47)) x10_1 ji22) else (none)) else (none)) else (none)) else (none)) = some r := by first | (rw [hji22] at H; exact H) | (simp only [hji22] at H ⊢; exact H)
        have hji22w : (IntKind.i64.wrap (x13_2 + 1)) = ji22 := (i64_w _).trans hji22
        by_cases c23 : 0 ≤ (ji22)
        ·rw [if_pos c23] at H
         have c23b0 : decide (0 ≤ (ji22)) = true := decide_eq_true c23
         clear c23
         by_cases c24 : (ji22) < (x0_2.length : Int)
         ·rw [if_pos c24] at H
          have c24b0 : decide ((ji22) < (x0_2.length : Int)) = true := decide_eq_true c24
          clear c24
          by_cases c25 : 0 ≤ x13_2
          ·rw [if_pos c25] at H
           have c25b0 : decide (0 ≤ x13_2) = true := decide_eq_true c25
           clear c25
           by_cases c26 : x13_2 < (x0_2.length : Int)
           ·rw [if_pos c26] at H
            have c26b0 : decide (x13_2 < (x0_2.length : Int)) = true := decide_eq_true c26
            clear c26
            obtain ⟨y313, hy313⟩ : ∃ y_ : List (S47), y_ = (x0_2.set (x13_2 : Int).toNat (⟨(rd_T47 x0_2 (ji22)).f0, (rd_T47 x0_2 (ji22)).f1, (rd_T47 x0_2 (ji22)).f2⟩ : S47)) := ⟨_, rfl⟩
            replace H : (hopmeshlaw49_Delivery_85.l1 k2 (y313.set ((ji22) : Int).toNat (⟨(rd_T47 x0_2 x13_2).f0, (rd_T47 x0_2 x13_2).f1, (rd_T47 x0_2 x13_2).f2⟩ : S47)) x10_1 ji22) = some r := by first | (rw [hy313]; with_reducible exact H) | (have H2_ := (Option.bind_some _ _).symm.trans H; rw [hy313]; with_reducible exact H2_) | (have H2_ := (Option.bind_some _ _).symm.trans H; with_reducible exact H2_) | with_reducible exact H | (rw [hy313]; exact H) | exact H
            have Ny313 := Aside0.mk hy313
            clear hy313
            obtain ⟨y314, hy314⟩ : ∃ y_ : List (S47), y_ = (y313.set ((ji22) : Int).toNat (⟨(rd_T47 x0_2 x13_2).f0, (rd_T47 x0_2 x13_2).f1, (rd_T47 x0_2 x13_2).f2⟩ : S47)) := ⟨_, rfl⟩
            replace H : (hopmeshlaw49_Delivery_85.l1 k2 y314 x10_1 ji22) = some r := by first | (rw [hy314]; with_reducible exact H) | (have H2_ := (Option.bind_some _ _).symm.trans H; rw [hy314]; with_reducible exact H2_) | (have H2_ := (Option.bind_some _ _).symm.trans H; with_reducible exact H2_) | with_reducible exact H | (rw [hy314]; exact H) | exact H
            have Ny314 := Aside0.mk hy314
            clear hy314
            have H' := Aside0.mk H
            clear H
            try go_wp2
            replace HO_0 := Aside0.mk (Kd.R_drew HO_0.out)
            replace HK := Aside0.mk (Kept.drew HK.out)
            replace HB := Aside0.mk (below_drew1 HB.out)
            obtain ⟨Ao30, co30, eo30⟩ := Kd.R_slice HO_0.out
            (first | subst eo30 | (injection eo30 with f1_ f2_ f3_; have f4_ := f1_.symm; have f5_ := f3_.symm; clear f1_ f2_ f3_; subst f4_; subst f5_))
            have p311 : 0 ≤ ((ji22) : Int) := pos_
            have q311 : (ji22) < (x0_2.length : Int) := pos_
            obtain ⟨ad311, e311, hx311_0, hx311_1, hx311_2⟩ := at_T47 (Kd.R_reads' HO_0.out).2.2 (ji22) p311 q311
            cases e311
            replace p311 := eq_true p311
            replace q311 := eq_true q311
            have p312 : 0 ≤ (x13_2 : Int) := pos_
            have q312 : x13_2 < (x0_2.length : Int) := pos_
            obtain ⟨ad312, e312, hx312_0, hx312_1, hx312_2⟩ := at_T47 (Kd.R_reads' HO_0.out).2.2 x13_2 p312 q312
            obtain rfl : ad311 = ad312 := (by injection e312)
            replace p312 := eq_true p312
            replace q312 := eq_true q312
            have p27 : 0 ≤ (x13_2 : Int) := pos_
            have q27 : (x13_2 : Int) < ((x0_2.length : Int) : Int) := pos_
            obtain ⟨go27, co27, eo27, gb27, gl27, cl27, HG27⟩ := Kd.R_form HO_0.out (by omega)
            (first | cases eo27 | (injection eo27 with ea_ en_ ec_; (first | subst ea_ | (injection ea_ with ea_; subst ea_)); subst ec_; clear en_))
            have GB27 := Aside0.mk gb27
            have GG27 := Aside0.mk HG27
            clear gb27 gl27 HG27
            have HMgo27 := Aside0.mk (show (P0_ go27 ∨ w.heap.size ≤ go27) from (HO_0.out.1 _ rfl))
            (first | simp only [add_plain] at hx311_0 | skip)
            (first | simp only [add_plain] at hx311_1 | skip)
            (first | simp only [add_plain] at hx311_2 | skip)
            (first | simp only [add_plain] at hx312_0 | skip)
            (first | simp only [add_plain] at hx312_1 | skip)
            (first | simp only [add_plain] at hx312_2 | skip)
            obtain ⟨ce27, hcl27, hM27, hcc27, hfr27⟩ := Kd.R_elem HO_0.out z47 (x13_2 : Int) p27 q27
            obtain rfl := k47_openM hM27
            have hx27_0 : World.cell? _ ⟨go27, (x13_2 : Int).toNat * 3, none⟩ = some (.int .u8 ((rd_T47 x0_2 x13_2).f0)) := hcc27 0 _ rfl
            have hx27_1 : World.cell? _ ⟨go27, (x13_2 : Int).toNat * 3 + 1, none⟩ = some (.int .u8 ((rd_T47 x0_2 x13_2).f1)) := hcc27 1 _ rfl
            have hx27_2 : World.cell? _ ⟨go27, (x13_2 : Int).toNat * 3 + 2, none⟩ = some (.int .u8 ((rd_T47 x0_2 x13_2).f2)) := hcc27 2 _ rfl
            have hf27_0 : World.frozen? _ ⟨go27, (x13_2 : Int).toNat * 3, none⟩ = false := hfr27 0
            have hf27_1 : World.frozen? _ ⟨go27, (x13_2 : Int).toNat * 3 + 1, none⟩ = false := hfr27 1
            have hf27_2 : World.frozen? _ ⟨go27, (x13_2 : Int).toNat * 3 + 2, none⟩ = false := hfr27 2
            clear hcl27 hcc27 hfr27 hM27
            replace p27 := eq_true p27
            replace q27 := eq_true q27
            obtain ⟨ce31, hcl31, hM31, hcc31, hfr31⟩ := Kd.R_elem HO_0.out z47 (x13_2 : Int) (pos_) (by have h_ : (x13_2 : Int) < ((x0_2.length : Int) : Int) := pos_; first | exact h_ | (have e_ := (Kd.R_reads' HO_0.out).1; omega) | simpa using h_)
            obtain rfl := k47_openM hM31
            have HP31 := (Kd.R_seg HO_0.out (x13_2 : Int) (pos_) (by have h_ : (x13_2 : Int) < ((x0_2.length : Int) : Int) := pos_; first | exact h_ | (have e_ := (Kd.R_reads' HO_0.out).1; omega) | simpa using h_) (seg := [.int .u8 ((rd_T47 x0_2 (ji22)).f0), .int .u8 ((rd_T47 x0_2 (ji22)).f1), .int .u8 ((rd_T47 x0_2 (ji22)).f2)]) (j := 0) hcl31 hcc31 (show 3 ≤ 3 from by decide) (x' := (⟨(rd_T47 x0_2 (ji22)).f0, (rd_T47 x0_2 (ji22)).f1, (rd_T47 x0_2 (ji22)).f2⟩ : S47)) (k47_mkM _ _ _ (⟨(rd_T47 x0_2 (ji22)).f0, (rd_T47 x0_2 (ji22)).f1, (rd_T47 x0_2 (ji22)).f2⟩ : S47) ) (fun _ hk => hk)).1
            rw [← Ny313.out] at HP31
            have HQ31 := Aside0.mk HP31
            clear hcl31 hcc31 hfr31 hM31 HP31
            have p28 : 0 ≤ ((ji22) : Int) := pos_
            have q28 : ((ji22) : Int) < ((x0_2.length : Int) : Int) := pos_
            obtain ⟨ce28, hcl28, hM28, hcc28, hfr28⟩ := Kd.R_elem HQ31.out z47 ((ji22) : Int) p28 q28
            obtain rfl := k47_openM hM28
            have hx28_0 : World.cell? _ ⟨go27, ((ji22) : Int).toNat * 3, none⟩ = some (.int .u8 ((rd_T47 y313 (ji22)).f0)) := hcc28 0 _ rfl
            have hx28_1 : World.cell? _ ⟨go27, ((ji22) : Int).toNat * 3 + 1, none⟩ = some (.int .u8 ((rd_T47 y313 (ji22)).f1)) := hcc28 1 _ rfl
            have hx28_2 : World.cell? _ ⟨go27, ((ji22) : Int).toNat * 3 + 2, none⟩ = some (.int .u8 ((rd_T47 y313 (ji22)).f2)) := hcc28 2 _ rfl
            have hf28_0 : World.frozen? _ ⟨go27, ((ji22) : Int).toNat * 3, none⟩ = false := hfr28 0
            have hf28_1 : World.frozen? _ ⟨go27, ((ji22) : Int).toNat * 3 + 1, none⟩ = false := hfr28 1
            have hf28_2 : World.frozen? _ ⟨go27, ((ji22) : Int).toNat * 3 + 2, none⟩ = false := hfr28 2
            clear hcl28 hcc28 hfr28 hM28
            replace p28 := eq_true p28
            replace q28 := eq_true q28
            obtain ⟨ce32, hcl32, hM32, hcc32, hfr32⟩ := Kd.R_elem HQ31.out z47 ((ji22) : Int) (pos_) (by have h_ : ((ji22) : Int) < ((x0_2.length : Int) : Int) := pos_; first | exact h_ | (have e_ := (Kd.R_reads' HO_0.out).1; omega) | simpa using h_)
            obtain rfl := k47_openM hM32
            have HP32 := (Kd.R_seg HQ31.out ((ji22) : Int) (pos_) (by have h_ : ((ji22) : Int) < ((x0_2.length : Int) : Int) := pos_; first | exact h_ | (have e_ := (Kd.R_reads' HO_0.out).1; omega) | simpa using h_) (seg := [.int .u8 ((rd_T47 x0_2 x13_2).f0), .int .u8 ((rd_T47 x0_2 x13_2).f1), .int .u8 ((rd_T47 x0_2 x13_2).f2)]) (j := 0) hcl32 hcc32 (show 3 ≤ 3 from by decide) (x' := (⟨(rd_T47 x0_2 x13_2).f0, (rd_T47 x0_2 x13_2).f1, (rd_T47 x0_2 x13_2).f2⟩ : S47)) (k47_mkM _ _ _ (⟨(rd_T47 x0_2 x13_2).f0, (rd_T47 x0_2 x13_2).f1, (rd_T47 x0_2 x13_2).f2⟩ : S47) ) (fun _ hk => hk)).1
            rw [← Ny314.out] at HP32
            have HQ32 := Aside0.mk HP32
            clear hcl32 hcc32 hfr32 hM32 HP32
            refine start_ (n := 18) (S := fun w' => w'.cell? ⟨go27, ((ji22)).toNat * 3, none⟩ = some (.int .u8 ((rd_T47 x0_2 (ji22)).f0)) ∧ w'.cell? ⟨go27, ((ji22)).toNat * 3 + 1, none⟩ = some (.int .u8 ((rd_T47 x0_2 (ji22)).f1)) ∧ w'.cell? ⟨go27, ((ji22)).toNat * 3 + 2, none⟩ = some (.int .u8 ((rd_T47 x0_2 (ji22)).f2)) ∧ w'.cell? ⟨go27, ((x13_2).toNat * 3), none⟩ = some (.int .u8 ((rd_T47 x0_2 x13_2).f0)) ∧ w'.cell? ⟨go27, ((x13_2).toNat * 3) + 1, none⟩ = some (.int .u8 ((rd_T47 x0_2 x13_2).f1)) ∧ w'.cell? ⟨go27, ((x13_2).toNat * 3) + 2, none⟩ = some (.int .u8 ((rd_T47 x0_2 x13_2).f2))) (ds := [15, 17]) #[false, false, false, false, false, false, false, false, false, false, false, false, false, false, false, false, false, false] (by kernel_rfl) rfl rfl ⟨hx311_0, hx311_1, hx311_2, hx312_0, hx312_1, hx312_2⟩ (fun hHeld => ?_); refine with_tabW hopmeshlaw49_Delivery_85.tab11 hopmeshlaw49_Delivery_85.bits11 (fun HT_ HW_ => ?_)
            generalize wr.drew = w29 at HO_0 HK HB GG27 HQ31 HQ32 hf27_0 hf27_1 hf27_2 hf28_0 hf28_1 hf28_2 hx27_0 hx27_1 hx27_2 hx28_0 hx28_1 hx28_2 hx311_0 hx311_1 hx311_2 hx312_0 hx312_1 hx312_2 hHeld ⊢
            (try simp only [World.setCells, show k47.sz = 3 from rfl] at hx28_0 hx28_1 hx28_2 hf28_0 hf28_1 hf28_2)
            (try simp [go_sem] at hx28_0)
            (try simp [go_sem] at hx28_1)
            (try simp [go_sem] at hx28_2)
            (try simp [go_sem] at hf28_0)
            (try simp [go_sem] at hf28_1)
            (try simp [go_sem] at hf28_2)
            refine pur 0 (some 61) #[true, false, false, false, false, false, false, false, false, false, false, false, false, false, false, false, false, false] HT_ ?_
            refine pur 1 (some 62) #[true, true, false, false, false, false, false, false, false, false, false, false, false, false, false, false, false, false] HT_ ?_
            refine pur 2 (some 63) #[true, true, true, false, false, false, false, false, false, false, false, false, false, false, false, false, false, false] HT_ ?_
            refine pur 3 (some 64) #[true, true, true, true, false, false, false, false, false, false, false, false, false, false, false, false, false, false] HT_ ?_
            refine pur 4 (some 65) #[true, true, true, true, true, false, false, false, false, false, false, false, false, false, false, false, false, false] HT_ ?_
            refine pur 5 (some 66) #[true, true, true, true, true, true, false, false, false, false, false, false, false, false, false, false, false, false] HT_ ?_
            refine pur 6 (some 67) #[true, true, true, true, true, true, true, false, false, false, false, false, false, false, false, false, false, false] HT_ ?_
            refine pur 7 (some 68) #[true, true, true, true, true, true, true, true, false, false, false, false, false, false, false, false, false, false] HT_ ?_
            refine pur 8 (some 69) #[true, true, true, true, true, true, true, true, true, false, false, false, false, false, false, false, false, false] HT_ ?_
            refine pur 10 (some 71) #[true, true, true, true, true, true, true, true, true, false, true, false, false, false, false, false, false, false] HT_ ?_
            refine pur 11 (some 72) #[true, true, true, true, true, true, true, true, true, false, true, true, false, false, false, false, false, false] HT_ ?_
            refine pur 12 (some 73) #[true, true, true, true, true, true, true, true, true, false, true, true, true, false, false, false, false, false] HT_ ?_
            refine tak 9 (some 70) #[true, true, true, true, true, true, true, true, true, true, true, true, true, false, false, false, false, false] HT_ HW_ hHeld rfl (Or.inl ⟨by rfl, by rintro w' ⟨s0, s1, s2, s3, s4, s5⟩; go_simp; with_reducible rfl⟩) ?_
            refine tak 13 (some 74) #[true, true, true, true, true, true, true, true, true, true, true, true, true, true, false, false, false, false] HT_ HW_ hHeld rfl (Or.inl ⟨by rfl, by rintro w' ⟨s0, s1, s2, s3, s4, s5⟩; go_simp; with_reducible rfl⟩) ?_
            refine pur 14 (some 75) #[true, true, true, true, true, true, true, true, true, true, true, true, true, true, true, false, false, false] HT_ ?_
            refine last_ (i := 15) (N := none) #[true, true, true, true, true, true, true, true, true, true, true, true, true, true, true, true, false, false] rfl rfl (one_of HT_.out (by kernel_rfl)) (by decide) (fun K hK => ?_)
            refine skip_ (w1 := ?_) (by rfl) rfl ?_ ?_
            rotate_left
            ·go_simp
             rfl
            refine hK.out _ _ ?_
            clear hK K
            refine pur 16 (some 76) #[true, true, true, true, true, true, true, true, true, true, true, true, true, true, true, true, true, false] HT_ ?_
            refine last_ (i := 17) (N := none) #[true, true, true, true, true, true, true, true, true, true, true, true, true, true, true, true, true, true] rfl rfl (one_of HT_.out (by kernel_rfl)) (by decide) (fun K hK => ?_)
            refine skip_ (w1 := ?_) (by rfl) rfl ?_ ?_
            rotate_left
            ·go_simp
             rfl
            refine hK.out _ _ ?_
            clear hK K
            refine done_ (done_of HT_.out (by kernel_rfl)) ?_
            try go_wp2
            go_roundg k2
            case measure => have := HK1.out; have := HK2.out; omega
            case rel => exact ⟨(y314), (ji22), (by first | rfl | (simp; done) | (simp only [← hji22] <;> (first | rfl | simp)) | (simp [*]; done)), H', ⟨by have := HK1.out; have := HK2.out; omega⟩, ⟨by (with_reducible repeat (first | apply Kd.R_alloc | apply Kd.R_drewN | apply Kd.R_drew)); exact HQ32.out⟩, ⟨by repeat (first | (with_reducible first | exact HK.out | apply Kept.alloc | apply Kept.drewN | apply Kept.drew | refine Kept.setCell ?_ HMgo27.out _ | refine Kept.setCell ?_ HMgo27.out _ | refine Kept.setCell ?_ HMgo27.out _ | refine Kept.setCell ?_ HMgo27.out _ | refine Kept.setCell ?_ HMgo27.out _ | refine Kept.setCell ?_ HMgo27.out _) | exact HK.out)⟩, ⟨by repeat (first | (with_reducible first | exact HB.out | apply below_alloc | apply pw_below_drewN | apply below_drew1 | refine below_set ?_ GB27.out | refine below_set ?_ GB27.out | refine below_set ?_ GB27.out | refine below_set ?_ GB27.out | refine below_set ?_ GB27.out | refine below_set ?_ GB27.out) | exact HB.out)⟩⟩
           ·rw [if_neg c26] at H
            exact absurd H (by simp)
          ·rw [if_neg c25] at H
           exact absurd H (by simp)
         ·rw [if_neg c24] at H
          exact absurd H (by simp)
        ·rw [if_neg c23] at H
         exact absurd H (by simp)
       ·rw [if_neg c21] at H
        have c21b0 : decide (x13_2 < (wrap64 (x10_1 - 1))) = false := decide_eq_false c21
        clear c21
        obtain rfl := Option.some.inj H
        go_wp2
        first | go_end0 | ((try simp only [Exit.inBlock, Exit.then]); refine bodyPost_ret (results_none rfl _ _ _) rfl ?_)
        exact ⟨rerr, ro HO_0, hbx HB, by repeat (first | (with_reducible first | exact HK.out | apply Kept.alloc | apply Kept.drewN | apply Kept.drew) | exact HK.out)⟩
 ·exact absurd cx1.out c6
end Go.Proofs.Ytdigplhjfjchnaa.PQ
