-- Printed by fprint.py and zip.py, programs of this session's, over the kit's print; Lean checks it.
import Derived.Test.YtdigplhjfjchnaaZ0
import Derived.Test.YtdigplhjfjchnaaZf11
import Derived.Test.YtdigplhjfjchnaaZf12
import Derived.Test.YtdigplhjfjchnaaZf14
import Derived.Test.YtdigplhjfjchnaaZf15
import Derived.Test.YtdigplhjfjchnaaZf10
import Derived.Test.YtdigplhjfjchnaaZf17
import Derived.Test.YtdigplhjfjchnaaZT
namespace Go.Proofs.Ytdigplhjfjchnaa.PQ
open Go.RowKit Go.Proofs.YtdigplhjfjchnaaW.PrintWords Go.Proofs.YtdigplhjfjchnaaW.PrintLast Go.Proofs.YtdigplhjfjchnaaW.PrintMore
attribute [local go_sem] max2_int min2_int max_two min_two max_three min_three max_four min_four   -- for this text's walks alone
set_option linter.unusedVariables false
set_option linter.unusedSimpArgs false
mutual
def hopmeshlaw49_InstallTogether.j0 : Nat → Int → Int → List (S47) → Bool → Option (Bool)
 | 0, _, _, _, _ => none
 | k + 1, x0, x1, x2, x36 => if x36 = true then ((hopmeshlaw49_awake.f k).bind fun t339 => (some t339)) else (if 0 ≤ (wrap64 (1 + (wrap64 (Int.tmod x0 8)))) then (if (wrap64 (1 + (wrap64 (Int.tmod x0 8))) : Int).toNat ≤ 3909374676536 then (hopmeshlaw49_InstallTogether.l0 k x1 x2 (wrap64 (1 + (wrap64 (Int.tmod x0 8)))) ([] : List Int) (List.replicate (wrap64 (1 + (wrap64 (Int.tmod x0 8))) : Int).toNat z28) (wrap64 (1 + (wrap64 (Int.tmod x0 8)))) 0) else (none)) else (none))
def hopmeshlaw49_InstallTogether.l0 : Nat → Int → List (S47) → Int → List Int → List (S28) → Int → Int → Option (Bool)
 | 0, _, _, _, _, _, _, _ => none
 | k + 1, x1, x2, x7, x8, x9, x44, x45 => if x45 < x44 then ((hopmeshlaw49_id.f (⟨#[111]⟩ : ByteArray)).bind fun t343 => ((hopmeshlaw49_id.f (⟨#[120]⟩ : ByteArray)).bind fun t344 => ((install_Complete.f k t343 (⟨#[]⟩ : ByteArray) false (⟨#[]⟩ : ByteArray) 0 0 t344).bind fun bt345 => (if bt345.2.2.2.2.2.2 = 0 then (if x8.length < 17592186044416 then (if 0 ≤ x45 then (if x45 < (x9.length : Int) then (hopmeshlaw49_InstallTogether.l0 k x1 x2 x7 (x8 ++ [x45]) (x9.set (x45 : Int).toNat (⟨bt345.1, bt345.2.1, bt345.2.2.1, bt345.2.2.2.1, bt345.2.2.2.2.1, bt345.2.2.2.2.2.1⟩ : S28)) x44 (wrap64 (x45 + 1))) else (none)) else (none)) else (none)) else (none))))) else ((hopmeshlaw49_id.f (⟨#[120]⟩ : ByteArray)).bind fun t357 => (if 0 ≤ x7 then (if (x7 : Int).toNat ≤ 281474976710656 then ((hopmeshlaw49_order.f k x2).bind fun t362 => (hopmeshlaw49_InstallTogether.l1 k x1 x7 x9 (List.replicate (x7 : Int).toNat false) t362 0 1 1 (wrap64 (x1)) t357 x8)) else (none)) else (none)))
def hopmeshlaw49_InstallTogether.l1 : Nat → Int → Int → List (S28) → List Bool → List (S47) → Int → Int → Int → Int → ByteArray → List Int → Option (Bool)
 | 0, _, _, _, _, _, _, _, _, _, _, _ => none
 | k + 1, x1, x7, x9, x14, x15, x75, x359000, x359001, x359002, x359003, x359004 => if x75 < 260 then (hopmeshlaw49_InstallTogether.l2 k x1 x7 x9 x14 x15 x75 x75 (x9.length : Int) 0 x359000 x359001 x359002 x359003 x359004) else (hopmeshlaw49_InstallTogether.l4 k x14 x9 (x9.length : Int) 0)
def hopmeshlaw49_InstallTogether.l2 : Nat → Int → Int → List (S28) → List Bool → List (S47) → Int → Int → Int → Int → Int → Int → Int → ByteArray → List Int → Option (Bool)
 | 0, _, _, _, _, _, _, _, _, _, _, _, _, _, _ => none
 | k + 1, x1, x7, x9, x14, x15, x16, x75, x79, x80, x359000, x359001, x359002, x359003, x359004 => if x80 < x79 then (if 0 ≤ x80 then (if x80 < (x9.length : Int) then ((install_Step.f k ((rd_T28 x9 x80).f0) ((rd_T28 x9 x80).f1) ((rd_T28 x9 x80).f2) ((rd_T28 x9 x80).f3) ((rd_T28 x9 x80).f4) ((rd_T28 x9 x80).f5) x16).bind fun bt366 => (if bt366.2.2.2.2.2.2.2 = 0 then (if x80 < (x14.length : Int) then (if rdOf false x14 x80 = true then (if (bt366.2.2.2.2.2.2.1 != (x16 == (wrap64 (x1)))) = true then (none) else (hopmeshlaw49_InstallTogether.l2 k x1 x7 (x9.set (x80 : Int).toNat (⟨bt366.1, bt366.2.1, bt366.2.2.1, bt366.2.2.2.1, bt366.2.2.2.2.1, bt366.2.2.2.2.2.1⟩ : S28)) x14 x15 x16 x75 x79 (wrap64 (x80 + 1)) x359000 x359001 x359002 x359003 x359004)) else (if (bt366.2.2.2.2.2.2.1 != false) = true then (none) else (hopmeshlaw49_InstallTogether.l2 k x1 x7 (x9.set (x80 : Int).toNat (⟨bt366.1, bt366.2.1, bt366.2.2.1, bt366.2.2.2.1, bt366.2.2.2.2.1, bt366.2.2.2.2.2.1⟩ : S28)) x14 x15 x16 x75 x79 (wrap64 (x80 + 1)) x359000 x359001 x359002 x359003 x359004))) else (none)) else (none))) else (none)) else (none)) else (hopmeshlaw49_InstallTogether.l3 k x1 x7 x9 x14 x15 x16 x75 x359000 x359001 x359002 x359003 x359004)
def hopmeshlaw49_InstallTogether.l3 : Nat → Int → Int → List (S28) → List Bool → List (S47) → Int → Int → Int → Int → Int → ByteArray → List Int → Option (Bool)
 | 0, _, _, _, _, _, _, _, _, _, _, _, _ => none
 | k + 1, x1, x7, x9, x14, x15, x16, x75, x359000, x359001, x359002, x359003, x359004 => if (x15.length : Int) > 0 then (if 0 < (x15.length : Int) then (hopmeshlaw49_InstallTogether.j5 k x1 x7 x9 x14 x15 x16 x75 ((wrap64 ((rd_T47 x15 0).f2)) == x16) x359000 x359001 x359002 x359003 x359004) else (none)) else (hopmeshlaw49_InstallTogether.j5 k x1 x7 x9 x14 x15 x16 x75 false x359000 x359001 x359002 x359003 x359004)
def hopmeshlaw49_InstallTogether.j5 : Nat → Int → Int → List (S28) → List Bool → List (S47) → Int → Int → Bool → Int → Int → Int → ByteArray → List Int → Option (Bool)
 | 0, _, _, _, _, _, _, _, _, _, _, _, _, _ => none
 | k + 1, x1, x7, x9, x14, x15, x16, x75, x125, x359000, x359001, x359002, x359003, x359004 => if x125 = true then (if 0 < (x15.length : Int) then (if x7 = 0 then (none) else (if 0 ≤ (Int.tmod (wrap64 ((rd_T47 x15 0).f0)) x7) then (if (Int.tmod (wrap64 ((rd_T47 x15 0).f0)) x7) < (x9.length : Int) then ((install_Take.f k ((rd_T28 x9 (Int.tmod (wrap64 ((rd_T47 x15 0).f0)) x7)).f0) ((rd_T28 x9 (Int.tmod (wrap64 ((rd_T47 x15 0).f0)) x7)).f1) ((rd_T28 x9 (Int.tmod (wrap64 ((rd_T47 x15 0).f0)) x7)).f2) ((rd_T28 x9 (Int.tmod (wrap64 ((rd_T47 x15 0).f0)) x7)).f3) ((rd_T28 x9 (Int.tmod (wrap64 ((rd_T47 x15 0).f0)) x7)).f4) ((rd_T28 x9 (Int.tmod (wrap64 ((rd_T47 x15 0).f0)) x7)).f5) x359000 x359001 x359002 x359003 x359004 (Int.tmod (wrap64 ((rd_T47 x15 0).f0)) x7) x16).bind fun bt381 => (if bt381.2.2.2.2.2.2 = 0 then (if (Int.tmod (wrap64 ((rd_T47 x15 0).f0)) x7) < (x14.length : Int) then ((some (x14.set ((Int.tmod (wrap64 ((rd_T47 x15 0).f0)) x7) : Int).toNat true : List Bool)).bind fun y389 => (if x16 < (wrap64 (x1)) then (if ((bt381.2.2.2.2.2.2 == 0) != (((rd_T28 x9 (Int.tmod (wrap64 ((rd_T47 x15 0).f0)) x7)).f5) == 0)) = true then (none) else (if 1 ≤ (x15.length : Int) then (hopmeshlaw49_InstallTogether.l3 k x1 x7 (x9.set ((Int.tmod (wrap64 ((rd_T47 x15 0).f0)) x7) : Int).toNat (⟨bt381.1, bt381.2.1, bt381.2.2.1, bt381.2.2.2.1, bt381.2.2.2.2.1, bt381.2.2.2.2.2.1⟩ : S28)) y389 (x15.drop (1 : Int).toNat) x16 x75 x359000 x359001 x359002 x359003 x359004) else (none))) else (if ((bt381.2.2.2.2.2.2 == 0) != false) = true then (none) else (if 1 ≤ (x15.length : Int) then (hopmeshlaw49_InstallTogether.l3 k x1 x7 (x9.set ((Int.tmod (wrap64 ((rd_T47 x15 0).f0)) x7) : Int).toNat (⟨bt381.1, bt381.2.1, bt381.2.2.1, bt381.2.2.2.1, bt381.2.2.2.2.1, bt381.2.2.2.2.2.1⟩ : S28)) y389 (x15.drop (1 : Int).toNat) x16 x75 x359000 x359001 x359002 x359003 x359004) else (none))))) else (none)) else (if x16 < (wrap64 (x1)) then (if ((bt381.2.2.2.2.2.2 == 0) != (((rd_T28 x9 (Int.tmod (wrap64 ((rd_T47 x15 0).f0)) x7)).f5) == 0)) = true then (none) else (if 1 ≤ (x15.length : Int) then (hopmeshlaw49_InstallTogether.l3 k x1 x7 (x9.set ((Int.tmod (wrap64 ((rd_T47 x15 0).f0)) x7) : Int).toNat (⟨bt381.1, bt381.2.1, bt381.2.2.1, bt381.2.2.2.1, bt381.2.2.2.2.1, bt381.2.2.2.2.2.1⟩ : S28)) x14 (x15.drop (1 : Int).toNat) x16 x75 x359000 x359001 x359002 x359003 x359004) else (none))) else (if ((bt381.2.2.2.2.2.2 == 0) != false) = true then (none) else (if 1 ≤ (x15.length : Int) then (hopmeshlaw49_InstallTogether.l3 k x1 x7 (x9.set ((Int.tmod (wrap64 ((rd_T47 x15 0).f0)) x7) : Int).toNat (⟨bt381.1, bt381.2.1, bt381.2.2.1, bt381.2.2.2.1, bt381.2.2.2.2.1, bt381.2.2.2.2.2.1⟩ : S28)) x14 (x15.drop (1 : Int).toNat) x16 x75 x359000 x359001 x359002 x359003 x359004) else (none)))))) else (none)) else (none))) else (none)) else (hopmeshlaw49_InstallTogether.l1 k x1 x7 x9 x14 x15 (wrap64 (x75 + 1)) x359000 x359001 x359002 x359003 x359004)
def hopmeshlaw49_InstallTogether.l4 : Nat → List Bool → List (S28) → Int → Int → Option (Bool)
 | 0, _, _, _, _ => none
 | k + 1, x14, x171, x172, x173 => if x173 < x172 then (if 0 ≤ x173 then (if x173 < (x171.length : Int) then ((hopmeshlaw49_id.f (⟨#[120]⟩ : ByteArray)).bind fun t410 => (if x173 < (x14.length : Int) then (if ((((rd_T28 x171 x173).f0).toList == t410.toList) != (rdOf false x14 x173)) = true then (none) else (if (rd_T28 x171 x173).f2 = true then (none) else (hopmeshlaw49_InstallTogether.l4 k x14 x171 x172 (wrap64 (x173 + 1))))) else (none))) else (none)) else (none)) else (some true)
end
def hopmeshlaw49_InstallTogether.f (k : Nat) (a0 : Int) (a1 : Int) (l2 : List (S47)) : Option (Bool) := (hopmeshlaw49_awake.f k).bind fun t338 => (if t338 = true then (if (l2.length : Int) > 40 then (hopmeshlaw49_InstallTogether.j0 k a0 a1 l2 true) else (hopmeshlaw49_InstallTogether.j0 k a0 a1 l2 (a1 == 0))) else (hopmeshlaw49_InstallTogether.j0 k a0 a1 l2 true))
theorem hopmeshlaw49_InstallTogether.mono_l : ∀ k, (∀ y0 y1 y2 y3, LeO (hopmeshlaw49_InstallTogether.j0 k y0 y1 y2 y3) (hopmeshlaw49_InstallTogether.j0 (k + 1) y0 y1 y2 y3)) ∧ (∀ y0 y1 y2 y3 y4 y5 y6, LeO (hopmeshlaw49_InstallTogether.l0 k y0 y1 y2 y3 y4 y5 y6) (hopmeshlaw49_InstallTogether.l0 (k + 1) y0 y1 y2 y3 y4 y5 y6)) ∧ (∀ y0 y1 y2 y3 y4 y5 y6 y7 y8 y9 y10, LeO (hopmeshlaw49_InstallTogether.l1 k y0 y1 y2 y3 y4 y5 y6 y7 y8 y9 y10) (hopmeshlaw49_InstallTogether.l1 (k + 1) y0 y1 y2 y3 y4 y5 y6 y7 y8 y9 y10)) ∧ (∀ y0 y1 y2 y3 y4 y5 y6 y7 y8 y9 y10 y11 y12 y13, LeO (hopmeshlaw49_InstallTogether.l2 k y0 y1 y2 y3 y4 y5 y6 y7 y8 y9 y10 y11 y12 y13) (hopmeshlaw49_InstallTogether.l2 (k + 1) y0 y1 y2 y3 y4 y5 y6 y7 y8 y9 y10 y11 y12 y13)) ∧ (∀ y0 y1 y2 y3 y4 y5 y6 y7 y8 y9 y10 y11, LeO (hopmeshlaw49_InstallTogether.l3 k y0 y1 y2 y3 y4 y5 y6 y7 y8 y9 y10 y11) (hopmeshlaw49_InstallTogether.l3 (k + 1) y0 y1 y2 y3 y4 y5 y6 y7 y8 y9 y10 y11)) ∧ (∀ y0 y1 y2 y3 y4 y5 y6 y7 y8 y9 y10 y11 y12, LeO (hopmeshlaw49_InstallTogether.j5 k y0 y1 y2 y3 y4 y5 y6 y7 y8 y9 y10 y11 y12) (hopmeshlaw49_InstallTogether.j5 (k + 1) y0 y1 y2 y3 y4 y5 y6 y7 y8 y9 y10 y11 y12)) ∧ (∀ y0 y1 y2 y3, LeO (hopmeshlaw49_InstallTogether.l4 k y0 y1 y2 y3) (hopmeshlaw49_InstallTogether.l4 (k + 1) y0 y1 y2 y3))
 | 0 => ⟨fun _ _ _ _ r h => by simp [hopmeshlaw49_InstallTogether.j0] at h, fun _ _ _ _ _ _ _ r h => by simp [hopmeshlaw49_InstallTogether.l0] at h, fun _ _ _ _ _ _ _ _ _ _ _ r h => by simp [hopmeshlaw49_InstallTogether.l1] at h, fun _ _ _ _ _ _ _ _ _ _ _ _ _ _ r h => by simp [hopmeshlaw49_InstallTogether.l2] at h, fun _ _ _ _ _ _ _ _ _ _ _ _ r h => by simp [hopmeshlaw49_InstallTogether.l3] at h, fun _ _ _ _ _ _ _ _ _ _ _ _ _ r h => by simp [hopmeshlaw49_InstallTogether.j5] at h, fun _ _ _ _ r h => by simp [hopmeshlaw49_InstallTogether.l4] at h⟩
 | k + 1 => by
  obtain ⟨ih0, ih1, ih2, ih3, ih4, ih5, ih6⟩ := hopmeshlaw49_InstallTogether.mono_l k
  refine ⟨?_, ?_, ?_, ?_, ?_, ?_, ?_⟩
  ·intro y0 y1 y2 y3
   unfold hopmeshlaw49_InstallTogether.j0
   repeat' first
   | (with_reducible exact ih0 _ _ _ _)
   | (with_reducible exact ih1 _ _ _ _ _ _ _)
   | (with_reducible exact ih2 _ _ _ _ _ _ _ _ _ _ _)
   | (with_reducible exact ih3 _ _ _ _ _ _ _ _ _ _ _ _ _ _)
   | (with_reducible exact ih4 _ _ _ _ _ _ _ _ _ _ _ _)
   | (with_reducible exact ih5 _ _ _ _ _ _ _ _ _ _ _ _ _)
   | (with_reducible exact ih6 _ _ _ _)
   | (with_reducible exact hopmeshlaw49_awake.mono _)
   | (with_reducible exact hopmeshlaw49_order.mono _ _)
   | (with_reducible exact install_Complete.mono _ _ _ _ _ _ _ _)
   | (with_reducible exact install_Step.mono _ _ _ _ _ _ _ _)
   | (with_reducible exact install_Take.mono _ _ _ _ _ _ _ _ _ _ _ _ _ _)
   | (with_reducible exact LeO.refl _)
   | (with_reducible exact LeO.none _)
   | (with_reducible refine LeO.ite ?_ ?_)
   | (with_reducible refine LeO.bind ?_ (fun _ => ?_))
   | exact ih0 _ _ _ _
   | exact ih1 _ _ _ _ _ _ _
   | exact ih2 _ _ _ _ _ _ _ _ _ _ _
   | exact ih3 _ _ _ _ _ _ _ _ _ _ _ _ _ _
   | exact ih4 _ _ _ _ _ _ _ _ _ _ _ _
   | exact ih5 _ _ _ _ _ _ _ _ _ _ _ _ _
   | exact ih6 _ _ _ _
   | exact hopmeshlaw49_awake.mono _
   | exact hopmeshlaw49_order.mono _ _
   | exact install_Complete.mono _ _ _ _ _ _ _ _
   | exact install_Step.mono _ _ _ _ _ _ _ _
   | exact install_Take.mono _ _ _ _ _ _ _ _ _ _ _ _ _ _
   | exact LeO.none _
   | refine LeO.ite ?_ ?_
   | refine LeO.bind ?_ (fun _ => ?_)
  ·intro y0 y1 y2 y3 y4 y5 y6
   unfold hopmeshlaw49_InstallTogether.l0
   repeat' first
   | (with_reducible exact ih0 _ _ _ _)
   | (with_reducible exact ih1 _ _ _ _ _ _ _)
   | (with_reducible exact ih2 _ _ _ _ _ _ _ _ _ _ _)
   | (with_reducible exact ih3 _ _ _ _ _ _ _ _ _ _ _ _ _ _)
   | (with_reducible exact ih4 _ _ _ _ _ _ _ _ _ _ _ _)
   | (with_reducible exact ih5 _ _ _ _ _ _ _ _ _ _ _ _ _)
   | (with_reducible exact ih6 _ _ _ _)
   | (with_reducible exact hopmeshlaw49_awake.mono _)
   | (with_reducible exact hopmeshlaw49_order.mono _ _)
   | (with_reducible exact install_Complete.mono _ _ _ _ _ _ _ _)
   | (with_reducible exact install_Step.mono _ _ _ _ _ _ _ _)
   | (with_reducible exact install_Take.mono _ _ _ _ _ _ _ _ _ _ _ _ _ _)
   | (with_reducible exact LeO.refl _)
   | (with_reducible exact LeO.none _)
   | (with_reducible refine LeO.ite ?_ ?_)
   | (with_reducible refine LeO.bind ?_ (fun _ => ?_))
   | exact ih0 _ _ _ _
   | exact ih1 _ _ _ _ _ _ _
   | exact ih2 _ _ _ _ _ _ _ _ _ _ _
   | exact ih3 _ _ _ _ _ _ _ _ _ _ _ _ _ _
   | exact ih4 _ _ _ _ _ _ _ _ _ _ _ _
   | exact ih5 _ _ _ _ _ _ _ _ _ _ _ _ _
   | exact ih6 _ _ _ _
   | exact hopmeshlaw49_awake.mono _
   | exact hopmeshlaw49_order.mono _ _
   | exact install_Complete.mono _ _ _ _ _ _ _ _
   | exact install_Step.mono _ _ _ _ _ _ _ _
   | exact install_Take.mono _ _ _ _ _ _ _ _ _ _ _ _ _ _
   | exact LeO.none _
   | refine LeO.ite ?_ ?_
   | refine LeO.bind ?_ (fun _ => ?_)
  ·intro y0 y1 y2 y3 y4 y5 y6 y7 y8 y9 y10
   unfold hopmeshlaw49_InstallTogether.l1
   repeat' first
   | (with_reducible exact ih0 _ _ _ _)
   | (with_reducible exact ih1 _ _ _ _ _ _ _)
   | (with_reducible exact ih2 _ _ _ _ _ _ _ _ _ _ _)
   | (with_reducible exact ih3 _ _ _ _ _ _ _ _ _ _ _ _ _ _)
   | (with_reducible exact ih4 _ _ _ _ _ _ _ _ _ _ _ _)
   | (with_reducible exact ih5 _ _ _ _ _ _ _ _ _ _ _ _ _)
   | (with_reducible exact ih6 _ _ _ _)
   | (with_reducible exact hopmeshlaw49_awake.mono _)
   | (with_reducible exact hopmeshlaw49_order.mono _ _)
   | (with_reducible exact install_Complete.mono _ _ _ _ _ _ _ _)
   | (with_reducible exact install_Step.mono _ _ _ _ _ _ _ _)
   | (with_reducible exact install_Take.mono _ _ _ _ _ _ _ _ _ _ _ _ _ _)
   | (with_reducible exact LeO.refl _)
   | (with_reducible exact LeO.none _)
   | (with_reducible refine LeO.ite ?_ ?_)
   | (with_reducible refine LeO.bind ?_ (fun _ => ?_))
   | exact ih0 _ _ _ _
   | exact ih1 _ _ _ _ _ _ _
   | exact ih2 _ _ _ _ _ _ _ _ _ _ _
   | exact ih3 _ _ _ _ _ _ _ _ _ _ _ _ _ _
   | exact ih4 _ _ _ _ _ _ _ _ _ _ _ _
   | exact ih5 _ _ _ _ _ _ _ _ _ _ _ _ _
   | exact ih6 _ _ _ _
   | exact hopmeshlaw49_awake.mono _
   | exact hopmeshlaw49_order.mono _ _
   | exact install_Complete.mono _ _ _ _ _ _ _ _
   | exact install_Step.mono _ _ _ _ _ _ _ _
   | exact install_Take.mono _ _ _ _ _ _ _ _ _ _ _ _ _ _
   | exact LeO.none _
   | refine LeO.ite ?_ ?_
   | refine LeO.bind ?_ (fun _ => ?_)
  ·intro y0 y1 y2 y3 y4 y5 y6 y7 y8 y9 y10 y11 y12 y13
   unfold hopmeshlaw49_InstallTogether.l2
   repeat' first
   | (with_reducible exact ih0 _ _ _ _)
   | (with_reducible exact ih1 _ _ _ _ _ _ _)
   | (with_reducible exact ih2 _ _ _ _ _ _ _ _ _ _ _)
   | (with_reducible exact ih3 _ _ _ _ _ _ _ _ _ _ _ _ _ _)
   | (with_reducible exact ih4 _ _ _ _ _ _ _ _ _ _ _ _)
   | (with_reducible exact ih5 _ _ _ _ _ _ _ _ _ _ _ _ _)
   | (with_reducible exact ih6 _ _ _ _)
   | (with_reducible exact hopmeshlaw49_awake.mono _)
   | (with_reducible exact hopmeshlaw49_order.mono _ _)
   | (with_reducible exact install_Complete.mono _ _ _ _ _ _ _ _)
   | (with_reducible exact install_Step.mono _ _ _ _ _ _ _ _)
   | (with_reducible exact install_Take.mono _ _ _ _ _ _ _ _ _ _ _ _ _ _)
   | (with_reducible exact LeO.refl _)
   | (with_reducible exact LeO.none _)
   | (with_reducible refine LeO.ite ?_ ?_)
   | (with_reducible refine LeO.bind ?_ (fun _ => ?_))
   | exact ih0 _ _ _ _
   | exact ih1 _ _ _ _ _ _ _
   | exact ih2 _ _ _ _ _ _ _ _ _ _ _
   | exact ih3 _ _ _ _ _ _ _ _ _ _ _ _ _ _
   | exact ih4 _ _ _ _ _ _ _ _ _ _ _ _
   | exact ih5 _ _ _ _ _ _ _ _ _ _ _ _ _
   | exact ih6 _ _ _ _
   | exact hopmeshlaw49_awake.mono _
   | exact hopmeshlaw49_order.mono _ _
   | exact install_Complete.mono _ _ _ _ _ _ _ _
   | exact install_Step.mono _ _ _ _ _ _ _ _
   | exact install_Take.mono _ _ _ _ _ _ _ _ _ _ _ _ _ _
   | exact LeO.none _
   | refine LeO.ite ?_ ?_
   | refine LeO.bind ?_ (fun _ => ?_)
  ·intro y0 y1 y2 y3 y4 y5 y6 y7 y8 y9 y10 y11
   unfold hopmeshlaw49_InstallTogether.l3
   repeat' first
   | (with_reducible exact ih0 _ _ _ _)
   | (with_reducible exact ih1 _ _ _ _ _ _ _)
   | (with_reducible exact ih2 _ _ _ _ _ _ _ _ _ _ _)
   | (with_reducible exact ih3 _ _ _ _ _ _ _ _ _ _ _ _ _ _)
   | (with_reducible exact ih4 _ _ _ _ _ _ _ _ _ _ _ _)
   | (with_reducible exact ih5 _ _ _ _ _ _ _ _ _ _ _ _ _)
   | (with_reducible exact ih6 _ _ _ _)
   | (with_reducible exact hopmeshlaw49_awake.mono _)
   | (with_reducible exact hopmeshlaw49_order.mono _ _)
   | (with_reducible exact install_Complete.mono _ _ _ _ _ _ _ _)
   | (with_reducible exact install_Step.mono _ _ _ _ _ _ _ _)
   | (with_reducible exact install_Take.mono _ _ _ _ _ _ _ _ _ _ _ _ _ _)
   | (with_reducible exact LeO.refl _)
   | (with_reducible exact LeO.none _)
   | (with_reducible refine LeO.ite ?_ ?_)
   | (with_reducible refine LeO.bind ?_ (fun _ => ?_))
   | exact ih0 _ _ _ _
   | exact ih1 _ _ _ _ _ _ _
   | exact ih2 _ _ _ _ _ _ _ _ _ _ _
   | exact ih3 _ _ _ _ _ _ _ _ _ _ _ _ _ _
   | exact ih4 _ _ _ _ _ _ _ _ _ _ _ _
   | exact ih5 _ _ _ _ _ _ _ _ _ _ _ _ _
   | exact ih6 _ _ _ _
   | exact hopmeshlaw49_awake.mono _
   | exact hopmeshlaw49_order.mono _ _
   | exact install_Complete.mono _ _ _ _ _ _ _ _
   | exact install_Step.mono _ _ _ _ _ _ _ _
   | exact install_Take.mono _ _ _ _ _ _ _ _ _ _ _ _ _ _
   | exact LeO.none _
   | refine LeO.ite ?_ ?_
   | refine LeO.bind ?_ (fun _ => ?_)
  ·intro y0 y1 y2 y3 y4 y5 y6 y7 y8 y9 y10 y11 y12
   unfold hopmeshlaw49_InstallTogether.j5
   repeat' first
   | (with_reducible exact ih0 _ _ _ _)
   | (with_reducible exact ih1 _ _ _ _ _ _ _)
   | (with_reducible exact ih2 _ _ _ _ _ _ _ _ _ _ _)
   | (with_reducible exact ih3 _ _ _ _ _ _ _ _ _ _ _ _ _ _)
   | (with_reducible exact ih4 _ _ _ _ _ _ _ _ _ _ _ _)
   | (with_reducible exact ih5 _ _ _ _ _ _ _ _ _ _ _ _ _)
   | (with_reducible exact ih6 _ _ _ _)
   | (with_reducible exact hopmeshlaw49_awake.mono _)
   | (with_reducible exact hopmeshlaw49_order.mono _ _)
   | (with_reducible exact install_Complete.mono _ _ _ _ _ _ _ _)
   | (with_reducible exact install_Step.mono _ _ _ _ _ _ _ _)
   | (with_reducible exact install_Take.mono _ _ _ _ _ _ _ _ _ _ _ _ _ _)
   | (with_reducible exact LeO.refl _)
   | (with_reducible exact LeO.none _)
   | (with_reducible refine LeO.ite ?_ ?_)
   | (with_reducible refine LeO.bind ?_ (fun _ => ?_))
   | exact ih0 _ _ _ _
   | exact ih1 _ _ _ _ _ _ _
   | exact ih2 _ _ _ _ _ _ _ _ _ _ _
   | exact ih3 _ _ _ _ _ _ _ _ _ _ _ _ _ _
   | exact ih4 _ _ _ _ _ _ _ _ _ _ _ _
   | exact ih5 _ _ _ _ _ _ _ _ _ _ _ _ _
   | exact ih6 _ _ _ _
   | exact hopmeshlaw49_awake.mono _
   | exact hopmeshlaw49_order.mono _ _
   | exact install_Complete.mono _ _ _ _ _ _ _ _
   | exact install_Step.mono _ _ _ _ _ _ _ _
   | exact install_Take.mono _ _ _ _ _ _ _ _ _ _ _ _ _ _
   | exact LeO.none _
   | refine LeO.ite ?_ ?_
   | refine LeO.bind ?_ (fun _ => ?_)
  ·intro y0 y1 y2 y3
   unfold hopmeshlaw49_InstallTogether.l4
   repeat' first
   | (with_reducible exact ih0 _ _ _ _)
   | (with_reducible exact ih1 _ _ _ _ _ _ _)
   | (with_reducible exact ih2 _ _ _ _ _ _ _ _ _ _ _)
   | (with_reducible exact ih3 _ _ _ _ _ _ _ _ _ _ _ _ _ _)
   | (with_reducible exact ih4 _ _ _ _ _ _ _ _ _ _ _ _)
   | (with_reducible exact ih5 _ _ _ _ _ _ _ _ _ _ _ _ _)
   | (with_reducible exact ih6 _ _ _ _)
   | (with_reducible exact hopmeshlaw49_awake.mono _)
   | (with_reducible exact hopmeshlaw49_order.mono _ _)
   | (with_reducible exact install_Complete.mono _ _ _ _ _ _ _ _)
   | (with_reducible exact install_Step.mono _ _ _ _ _ _ _ _)
   | (with_reducible exact install_Take.mono _ _ _ _ _ _ _ _ _ _ _ _ _ _)
   | (with_reducible exact LeO.refl _)
   | (with_reducible exact LeO.none _)
   | (with_reducible refine LeO.ite ?_ ?_)
   | (with_reducible refine LeO.bind ?_ (fun _ => ?_))
   | exact ih0 _ _ _ _
   | exact ih1 _ _ _ _ _ _ _
   | exact ih2 _ _ _ _ _ _ _ _ _ _ _
   | exact ih3 _ _ _ _ _ _ _ _ _ _ _ _ _ _
   | exact ih4 _ _ _ _ _ _ _ _ _ _ _ _
   | exact ih5 _ _ _ _ _ _ _ _ _ _ _ _ _
   | exact ih6 _ _ _ _
   | exact hopmeshlaw49_awake.mono _
   | exact hopmeshlaw49_order.mono _ _
   | exact install_Complete.mono _ _ _ _ _ _ _ _
   | exact install_Step.mono _ _ _ _ _ _ _ _
   | exact install_Take.mono _ _ _ _ _ _ _ _ _ _ _ _ _ _
   | exact LeO.none _
   | refine LeO.ite ?_ ?_
   | refine LeO.bind ?_ (fun _ => ?_)
theorem hopmeshlaw49_InstallTogether.mono : ∀ a0 a1 a2 k, LeO (hopmeshlaw49_InstallTogether.f k a0 a1 a2) (hopmeshlaw49_InstallTogether.f (k + 1) a0 a1 a2) := by
 intro a0 a1 a2 k
 obtain ⟨ih0, ih1, ih2, ih3, ih4, ih5, ih6⟩ := hopmeshlaw49_InstallTogether.mono_l k
 unfold hopmeshlaw49_InstallTogether.f
 repeat' first
  | (with_reducible exact ih0 _ _ _ _)
  | (with_reducible exact ih1 _ _ _ _ _ _ _)
  | (with_reducible exact ih2 _ _ _ _ _ _ _ _ _ _ _)
  | (with_reducible exact ih3 _ _ _ _ _ _ _ _ _ _ _ _ _ _)
  | (with_reducible exact ih4 _ _ _ _ _ _ _ _ _ _ _ _)
  | (with_reducible exact ih5 _ _ _ _ _ _ _ _ _ _ _ _ _)
  | (with_reducible exact ih6 _ _ _ _)
  | (with_reducible exact hopmeshlaw49_awake.mono _)
  | (with_reducible exact hopmeshlaw49_order.mono _ _)
  | (with_reducible exact install_Complete.mono _ _ _ _ _ _ _ _)
  | (with_reducible exact install_Step.mono _ _ _ _ _ _ _ _)
  | (with_reducible exact install_Take.mono _ _ _ _ _ _ _ _ _ _ _ _ _ _)
  | (with_reducible exact LeO.refl _)
  | (with_reducible exact LeO.none _)
  | (with_reducible refine LeO.ite ?_ ?_)
  | (with_reducible refine LeO.bind ?_ (fun _ => ?_))
  | exact ih0 _ _ _ _
  | exact ih1 _ _ _ _ _ _ _
  | exact ih2 _ _ _ _ _ _ _ _ _ _ _
  | exact ih3 _ _ _ _ _ _ _ _ _ _ _ _ _ _
  | exact ih4 _ _ _ _ _ _ _ _ _ _ _ _
  | exact ih5 _ _ _ _ _ _ _ _ _ _ _ _ _
  | exact ih6 _ _ _ _
  | exact hopmeshlaw49_awake.mono _
  | exact hopmeshlaw49_order.mono _ _
  | exact install_Complete.mono _ _ _ _ _ _ _ _
  | exact install_Step.mono _ _ _ _ _ _ _ _
  | exact install_Take.mono _ _ _ _ _ _ _ _ _ _ _ _ _ _
  | exact LeO.none _
  | refine LeO.ite ?_ ?_
  | refine LeO.bind ?_ (fun _ => ?_)
end Go.Proofs.Ytdigplhjfjchnaa.PQ
