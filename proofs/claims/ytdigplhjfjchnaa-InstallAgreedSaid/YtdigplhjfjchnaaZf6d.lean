-- Printed by fprint.py and zip.py, programs of this session's, over the kit's print; Lean checks it.
import Derived.Test.YtdigplhjfjchnaaZ0
import Derived.Test.YtdigplhjfjchnaaZf11
import Derived.Test.YtdigplhjfjchnaaZf12
import Derived.Test.YtdigplhjfjchnaaZf14
import Derived.Test.YtdigplhjfjchnaaZf15
import Derived.Test.YtdigplhjfjchnaaZf18
import Derived.Test.YtdigplhjfjchnaaZf20
import Derived.Test.YtdigplhjfjchnaaZf10
import Derived.Test.YtdigplhjfjchnaaZf17
import Derived.Test.YtdigplhjfjchnaaZf19
import Derived.Test.YtdigplhjfjchnaaZf21
import Derived.Test.YtdigplhjfjchnaaZf22
import Derived.Test.YtdigplhjfjchnaaZf23
namespace Go.Proofs.Ytdigplhjfjchnaa.PQ
open Go.RowKit Go.Proofs.YtdigplhjfjchnaaW.PrintWords Go.Proofs.YtdigplhjfjchnaaW.PrintLast Go.Proofs.YtdigplhjfjchnaaW.PrintMore
attribute [local go_sem] max2_int min2_int max_two min_two max_three min_three max_four min_four   -- for this text's walks alone
set_option linter.unusedVariables false
set_option linter.unusedSimpArgs false
mutual
def hopmeshlaw49_InstallAgreed.j0 : Nat → Int → Int → List (S47) → Bool → Option (Bool)
 | 0, _, _, _, _ => none
 | k + 1, x0, x1, x2, x32 => if x32 = true then ((hopmeshlaw49_awake.f k).bind fun t526 => (some t526)) else (if 0 ≤ (wrap64 (1 + (wrap64 (Int.tmod x0 6)))) then (if (wrap64 (1 + (wrap64 (Int.tmod x0 6))) : Int).toNat ≤ 3909374676536 then (hopmeshlaw49_InstallAgreed.l0 k x1 x2 (wrap64 (1 + (wrap64 (Int.tmod x0 6)))) ([] : List Int) (List.replicate (wrap64 (1 + (wrap64 (Int.tmod x0 6))) : Int).toNat z28) (wrap64 (1 + (wrap64 (Int.tmod x0 6)))) 0) else (none)) else (none))
def hopmeshlaw49_InstallAgreed.l0 : Nat → Int → List (S47) → Int → List Int → List (S28) → Int → Int → Option (Bool)
 | 0, _, _, _, _, _, _, _ => none
 | k + 1, x1, x2, x7, x8, x9, x40, x41 => if x41 < x40 then (if x8.length < 17592186044416 then (if 0 ≤ x41 then (if x41 < (x9.length : Int) then ((some (x9.set (x41 : Int).toNat (⟨(⟨#[]⟩ : ByteArray), (⟨#[]⟩ : ByteArray), false, (⟨#[]⟩ : ByteArray), 0, 0⟩ : S28) : List (S28))).bind fun y533 => ((hopmeshlaw49_id.f (⟨#[120]⟩ : ByteArray)).bind fun t535 => ((install_Complete.f k ((rd_T28 y533 x41).f0) ((rd_T28 y533 x41).f1) ((rd_T28 y533 x41).f2) ((rd_T28 y533 x41).f3) ((rd_T28 y533 x41).f4) ((rd_T28 y533 x41).f5) t535).bind fun bt536 => (hopmeshlaw49_InstallAgreed.l0 k x1 x2 x7 (x8 ++ [x41]) (y533.set (x41 : Int).toNat (⟨bt536.1, bt536.2.1, bt536.2.2.1, bt536.2.2.2.1, bt536.2.2.2.2.1, bt536.2.2.2.2.2.1⟩ : S28)) x40 (wrap64 (x41 + 1)))))) else (none)) else (none)) else (none)) else ((hopmeshlaw49_id.f (⟨#[120]⟩ : ByteArray)).bind fun t544 => ((install_New.f k t544 x8).bind fun bt545 => (hopmeshlaw49_InstallAgreed.l1 k x1 x2 x7 x9 bt545.2.2.2.2.2.2 x7 0 bt545.1 bt545.2.1 bt545.2.2.1 bt545.2.2.2.1 bt545.2.2.2.2.1 bt545.2.2.2.2.2.1)))
def hopmeshlaw49_InstallAgreed.l1 : Nat → Int → List (S47) → Int → List (S28) → Int → Int → Int → ByteArray → List Int → List Bool → List Bool → Int → Int → Option (Bool)
 | 0, _, _, _, _, _, _, _, _, _, _, _, _, _ => none
 | k + 1, x1, x2, x7, x9, x12, x71, x72, x559000, x559001, x559002, x559003, x559004, x559005 => if x72 < x71 then (if x12 = 0 then (if 0 ≤ x72 then (if x72 < (x9.length : Int) then ((install_Report.f k x559000 x559001 x559002 x559003 x559004 x559005 x72 ((rd_T28 x9 x72).f1)).bind fun bt560 => (hopmeshlaw49_InstallAgreed.l1 k x1 x2 x7 x9 bt560.2.2.2.2.2.2 x71 (wrap64 (x72 + 1)) bt560.1 bt560.2.1 bt560.2.2.1 bt560.2.2.2.1 bt560.2.2.2.2.1 bt560.2.2.2.2.2.1)) else (none)) else (none)) else (hopmeshlaw49_InstallAgreed.l1 k x1 x2 x7 x9 x12 x71 (wrap64 (x72 + 1)) x559000 x559001 x559002 x559003 x559004 x559005)) else (if x12 = 0 then ((install_Ready.f k x559000 x559001 x559002 x559003 x559004 x559005).bind fun t573 => (if t573 = true then ((install_Agreed.f k x559000 x559001 x559002 x559003 x559004 x559005).bind fun t574 => (hopmeshlaw49_InstallAgreed.j3 k x1 x2 x7 x9 t574 x559000 x559001 x559002 x559003 x559004 x559005)) else (hopmeshlaw49_InstallAgreed.j3 k x1 x2 x7 x9 true x559000 x559001 x559002 x559003 x559004 x559005))) else (hopmeshlaw49_InstallAgreed.j3 k x1 x2 x7 x9 true x559000 x559001 x559002 x559003 x559004 x559005))
def hopmeshlaw49_InstallAgreed.j3 : Nat → Int → List (S47) → Int → List (S28) → Bool → ByteArray → List Int → List Bool → List Bool → Int → Int → Option (Bool)
 | 0, _, _, _, _, _, _, _, _, _, _, _ => none
 | k + 1, x1, x2, x7, x9, x99, x559000, x559001, x559002, x559003, x559004, x559005 => if x99 = true then (none) else ((install_Order.f k x559000 x559001 x559002 x559003 x559004 x559005 (wrap64 (x1))).bind fun bt575 => (if bt575.2.2.2.2.2.2.2.2.2.2.2 = 0 then ((hopmeshlaw49_order.f k x2).bind fun t596 => (hopmeshlaw49_InstallAgreed.l2 k x1 x7 x9 t596 (t596.length : Int) 0 bt575.1 bt575.2.1 bt575.2.2.1 bt575.2.2.2.1 bt575.2.2.2.2.1 bt575.2.2.2.2.2.1 bt575.2.2.2.2.2.2.1 bt575.2.2.2.2.2.2.2.1 bt575.2.2.2.2.2.2.2.2.1 bt575.2.2.2.2.2.2.2.2.2.1 bt575.2.2.2.2.2.2.2.2.2.2.1)) else (none)))
def hopmeshlaw49_InstallAgreed.j5 : Nat → Int → List (S28) → ByteArray → List Int → List Bool → List Bool → Int → Int → Option (Bool)
 | 0, _, _, _, _, _, _, _, _ => none
 | k + 1, x1, x9, x559000, x559001, x559002, x559003, x559004, x559005 => (install_Agreed.f k x559000 x559001 x559002 x559003 x559004 x559005).bind fun t625 => (if t625 = true then (hopmeshlaw49_InstallAgreed.l3 k x1 x9 (x9.length : Int) 0) else (some true))
def hopmeshlaw49_InstallAgreed.l3 : Nat → Int → List (S28) → Int → Int → Option (Bool)
 | 0, _, _, _, _ => none
 | k + 1, x1, x9, x174, x175 => if x175 < x174 then (if 0 ≤ x175 then (if x175 < (x9.length : Int) then ((install_Step.f k ((rd_T28 x9 x175).f0) ((rd_T28 x9 x175).f1) ((rd_T28 x9 x175).f2) ((rd_T28 x9 x175).f3) ((rd_T28 x9 x175).f4) ((rd_T28 x9 x175).f5) (wrap64 (x1))).bind fun bt627 => (if bt627.2.2.2.2.2.2.2 = 0 then (if bt627.2.2.2.2.2.2.1 = true then ((hopmeshlaw49_id.f (⟨#[120]⟩ : ByteArray)).bind fun t636 => (if bt627.1.toList = t636.toList then (hopmeshlaw49_InstallAgreed.l3 k x1 x9 x174 (wrap64 (x175 + 1))) else (none))) else (none)) else (none))) else (none)) else (none)) else (some true)
def hopmeshlaw49_InstallAgreed.l2 : Nat → Int → Int → List (S28) → List (S47) → Int → Int → ByteArray → List Int → List Bool → List Bool → Int → Int → Int → Int → Int → ByteArray → List Int → Option (Bool)
 | 0, _, _, _, _, _, _, _, _, _, _, _, _, _, _, _, _, _ => none
 | k + 1, x1, x7, x9, x111, x112, x113, x559000, x559001, x559002, x559003, x559004, x559005, x596000, x596001, x596002, x596003, x596004 => if x113 < x112 then (if 0 ≤ x113 then (if x113 < (x111.length : Int) then (if x7 = 0 then (none) else (if (wrap64 ((rd_T47 x111 x113).f2)) ≥ (wrap64 (x1)) then (hopmeshlaw49_InstallAgreed.j5 k x1 x9 x559000 x559001 x559002 x559003 x559004 x559005) else (if (Int.tmod ((rd_T47 x111 x113).f1) 2) = 0 then (if 0 ≤ (Int.tmod (wrap64 ((rd_T47 x111 x113).f0)) x7) then (if (Int.tmod (wrap64 ((rd_T47 x111 x113).f0)) x7) < (x9.length : Int) then ((install_Take.f k ((rd_T28 x9 (Int.tmod (wrap64 ((rd_T47 x111 x113).f0)) x7)).f0) ((rd_T28 x9 (Int.tmod (wrap64 ((rd_T47 x111 x113).f0)) x7)).f1) ((rd_T28 x9 (Int.tmod (wrap64 ((rd_T47 x111 x113).f0)) x7)).f2) ((rd_T28 x9 (Int.tmod (wrap64 ((rd_T47 x111 x113).f0)) x7)).f3) ((rd_T28 x9 (Int.tmod (wrap64 ((rd_T47 x111 x113).f0)) x7)).f4) ((rd_T28 x9 (Int.tmod (wrap64 ((rd_T47 x111 x113).f0)) x7)).f5) x596000 x596001 x596002 x596003 x596004 (Int.tmod (wrap64 ((rd_T47 x111 x113).f0)) x7) (wrap64 ((rd_T47 x111 x113).f2))).bind fun bt602 => (hopmeshlaw49_InstallAgreed.l2 k x1 x7 (x9.set ((Int.tmod (wrap64 ((rd_T47 x111 x113).f0)) x7) : Int).toNat (⟨bt602.1, bt602.2.1, bt602.2.2.1, bt602.2.2.2.1, bt602.2.2.2.2.1, bt602.2.2.2.2.2.1⟩ : S28)) x111 x112 (wrap64 (x113 + 1)) x559000 x559001 x559002 x559003 x559004 x559005 x596000 x596001 x596002 x596003 x596004)) else (none)) else (none)) else (if 0 ≤ (Int.tmod (wrap64 ((rd_T47 x111 x113).f0)) x7) then (if (Int.tmod (wrap64 ((rd_T47 x111 x113).f0)) x7) < (x9.length : Int) then (if ((rd_T28 x9 (Int.tmod (wrap64 ((rd_T47 x111 x113).f0)) x7)).f5) = x596000 then ((install_Acknowledge.f k x559000 x559001 x559002 x559003 x559004 x559005 (Int.tmod (wrap64 ((rd_T47 x111 x113).f0)) x7) ((rd_T28 x9 (Int.tmod (wrap64 ((rd_T47 x111 x113).f0)) x7)).f5)).bind fun bt612 => (if bt612.2.2.2.2.2.2 = 0 then (hopmeshlaw49_InstallAgreed.l2 k x1 x7 x9 x111 x112 (wrap64 (x113 + 1)) bt612.1 bt612.2.1 bt612.2.2.1 bt612.2.2.2.1 bt612.2.2.2.2.1 bt612.2.2.2.2.2.1 x596000 x596001 x596002 x596003 x596004) else (none))) else (hopmeshlaw49_InstallAgreed.l2 k x1 x7 x9 x111 x112 (wrap64 (x113 + 1)) x559000 x559001 x559002 x559003 x559004 x559005 x596000 x596001 x596002 x596003 x596004)) else (none)) else (none))))) else (none)) else (none)) else (hopmeshlaw49_InstallAgreed.j5 k x1 x9 x559000 x559001 x559002 x559003 x559004 x559005)
end
def hopmeshlaw49_InstallAgreed.f (k : Nat) (a0 : Int) (a1 : Int) (l2 : List (S47)) : Option (Bool) := (hopmeshlaw49_awake.f k).bind fun t525 => (if t525 = true then (if (l2.length : Int) > 60 then (hopmeshlaw49_InstallAgreed.j0 k a0 a1 l2 true) else (hopmeshlaw49_InstallAgreed.j0 k a0 a1 l2 (decide (a1 < 2)))) else (hopmeshlaw49_InstallAgreed.j0 k a0 a1 l2 true))
theorem hopmeshlaw49_InstallAgreed.mono_l : ∀ k, (∀ y0 y1 y2 y3, LeO (hopmeshlaw49_InstallAgreed.j0 k y0 y1 y2 y3) (hopmeshlaw49_InstallAgreed.j0 (k + 1) y0 y1 y2 y3)) ∧ (∀ y0 y1 y2 y3 y4 y5 y6, LeO (hopmeshlaw49_InstallAgreed.l0 k y0 y1 y2 y3 y4 y5 y6) (hopmeshlaw49_InstallAgreed.l0 (k + 1) y0 y1 y2 y3 y4 y5 y6)) ∧ (∀ y0 y1 y2 y3 y4 y5 y6 y7 y8 y9 y10 y11 y12, LeO (hopmeshlaw49_InstallAgreed.l1 k y0 y1 y2 y3 y4 y5 y6 y7 y8 y9 y10 y11 y12) (hopmeshlaw49_InstallAgreed.l1 (k + 1) y0 y1 y2 y3 y4 y5 y6 y7 y8 y9 y10 y11 y12)) ∧ (∀ y0 y1 y2 y3 y4 y5 y6 y7 y8 y9 y10, LeO (hopmeshlaw49_InstallAgreed.j3 k y0 y1 y2 y3 y4 y5 y6 y7 y8 y9 y10) (hopmeshlaw49_InstallAgreed.j3 (k + 1) y0 y1 y2 y3 y4 y5 y6 y7 y8 y9 y10)) ∧ (∀ y0 y1 y2 y3 y4 y5 y6 y7, LeO (hopmeshlaw49_InstallAgreed.j5 k y0 y1 y2 y3 y4 y5 y6 y7) (hopmeshlaw49_InstallAgreed.j5 (k + 1) y0 y1 y2 y3 y4 y5 y6 y7)) ∧ (∀ y0 y1 y2 y3, LeO (hopmeshlaw49_InstallAgreed.l3 k y0 y1 y2 y3) (hopmeshlaw49_InstallAgreed.l3 (k + 1) y0 y1 y2 y3)) ∧ (∀ y0 y1 y2 y3 y4 y5 y6 y7 y8 y9 y10 y11 y12 y13 y14 y15 y16, LeO (hopmeshlaw49_InstallAgreed.l2 k y0 y1 y2 y3 y4 y5 y6 y7 y8 y9 y10 y11 y12 y13 y14 y15 y16) (hopmeshlaw49_InstallAgreed.l2 (k + 1) y0 y1 y2 y3 y4 y5 y6 y7 y8 y9 y10 y11 y12 y13 y14 y15 y16))
 | 0 => ⟨fun _ _ _ _ r h => by simp [hopmeshlaw49_InstallAgreed.j0] at h, fun _ _ _ _ _ _ _ r h => by simp [hopmeshlaw49_InstallAgreed.l0] at h, fun _ _ _ _ _ _ _ _ _ _ _ _ _ r h => by simp [hopmeshlaw49_InstallAgreed.l1] at h, fun _ _ _ _ _ _ _ _ _ _ _ r h => by simp [hopmeshlaw49_InstallAgreed.j3] at h, fun _ _ _ _ _ _ _ _ r h => by simp [hopmeshlaw49_InstallAgreed.j5] at h, fun _ _ _ _ r h => by simp [hopmeshlaw49_InstallAgreed.l3] at h, fun _ _ _ _ _ _ _ _ _ _ _ _ _ _ _ _ _ r h => by simp [hopmeshlaw49_InstallAgreed.l2] at h⟩
 | k + 1 => by
  obtain ⟨ih0, ih1, ih2, ih3, ih4, ih5, ih6⟩ := hopmeshlaw49_InstallAgreed.mono_l k
  refine ⟨?_, ?_, ?_, ?_, ?_, ?_, ?_⟩
  ·intro y0 y1 y2 y3
   unfold hopmeshlaw49_InstallAgreed.j0
   repeat' first
   | (with_reducible exact ih0 _ _ _ _)
   | (with_reducible exact ih1 _ _ _ _ _ _ _)
   | (with_reducible exact ih2 _ _ _ _ _ _ _ _ _ _ _ _ _)
   | (with_reducible exact ih3 _ _ _ _ _ _ _ _ _ _ _)
   | (with_reducible exact ih4 _ _ _ _ _ _ _ _)
   | (with_reducible exact ih5 _ _ _ _)
   | (with_reducible exact ih6 _ _ _ _ _ _ _ _ _ _ _ _ _ _ _ _ _)
   | (with_reducible exact hopmeshlaw49_awake.mono _)
   | (with_reducible exact hopmeshlaw49_order.mono _ _)
   | (with_reducible exact install_Acknowledge.mono _ _ _ _ _ _ _ _ _)
   | (with_reducible exact install_Agreed.mono _ _ _ _ _ _ _)
   | (with_reducible exact install_Complete.mono _ _ _ _ _ _ _ _)
   | (with_reducible exact install_New.mono _ _ _)
   | (with_reducible exact install_Order.mono _ _ _ _ _ _ _ _)
   | (with_reducible exact install_Ready.mono _ _ _ _ _ _ _)
   | (with_reducible exact install_Report.mono _ _ _ _ _ _ _ _ _)
   | (with_reducible exact install_Step.mono _ _ _ _ _ _ _ _)
   | (with_reducible exact install_Take.mono _ _ _ _ _ _ _ _ _ _ _ _ _ _)
   | (with_reducible exact LeO.refl _)
   | (with_reducible exact LeO.none _)
   | (with_reducible refine LeO.ite ?_ ?_)
   | (with_reducible refine LeO.bind ?_ (fun _ => ?_))
   | exact ih0 _ _ _ _
   | exact ih1 _ _ _ _ _ _ _
   | exact ih2 _ _ _ _ _ _ _ _ _ _ _ _ _
   | exact ih3 _ _ _ _ _ _ _ _ _ _ _
   | exact ih4 _ _ _ _ _ _ _ _
   | exact ih5 _ _ _ _
   | exact ih6 _ _ _ _ _ _ _ _ _ _ _ _ _ _ _ _ _
   | exact hopmeshlaw49_awake.mono _
   | exact hopmeshlaw49_order.mono _ _
   | exact install_Acknowledge.mono _ _ _ _ _ _ _ _ _
   | exact install_Agreed.mono _ _ _ _ _ _ _
   | exact install_Complete.mono _ _ _ _ _ _ _ _
   | exact install_New.mono _ _ _
   | exact install_Order.mono _ _ _ _ _ _ _ _
   | exact install_Ready.mono _ _ _ _ _ _ _
   | exact install_Report.mono _ _ _ _ _ _ _ _ _
   | exact install_Step.mono _ _ _ _ _ _ _ _
   | exact install_Take.mono _ _ _ _ _ _ _ _ _ _ _ _ _ _
   | exact LeO.none _
   | refine LeO.ite ?_ ?_
   | refine LeO.bind ?_ (fun _ => ?_)
  ·intro y0 y1 y2 y3 y4 y5 y6
   unfold hopmeshlaw49_InstallAgreed.l0
   repeat' first
   | (with_reducible exact ih0 _ _ _ _)
   | (with_reducible exact ih1 _ _ _ _ _ _ _)
   | (with_reducible exact ih2 _ _ _ _ _ _ _ _ _ _ _ _ _)
   | (with_reducible exact ih3 _ _ _ _ _ _ _ _ _ _ _)
   | (with_reducible exact ih4 _ _ _ _ _ _ _ _)
   | (with_reducible exact ih5 _ _ _ _)
   | (with_reducible exact ih6 _ _ _ _ _ _ _ _ _ _ _ _ _ _ _ _ _)
   | (with_reducible exact hopmeshlaw49_awake.mono _)
   | (with_reducible exact hopmeshlaw49_order.mono _ _)
   | (with_reducible exact install_Acknowledge.mono _ _ _ _ _ _ _ _ _)
   | (with_reducible exact install_Agreed.mono _ _ _ _ _ _ _)
   | (with_reducible exact install_Complete.mono _ _ _ _ _ _ _ _)
   | (with_reducible exact install_New.mono _ _ _)
   | (with_reducible exact install_Order.mono _ _ _ _ _ _ _ _)
   | (with_reducible exact install_Ready.mono _ _ _ _ _ _ _)
   | (with_reducible exact install_Report.mono _ _ _ _ _ _ _ _ _)
   | (with_reducible exact install_Step.mono _ _ _ _ _ _ _ _)
   | (with_reducible exact install_Take.mono _ _ _ _ _ _ _ _ _ _ _ _ _ _)
   | (with_reducible exact LeO.refl _)
   | (with_reducible exact LeO.none _)
   | (with_reducible refine LeO.ite ?_ ?_)
   | (with_reducible refine LeO.bind ?_ (fun _ => ?_))
   | exact ih0 _ _ _ _
   | exact ih1 _ _ _ _ _ _ _
   | exact ih2 _ _ _ _ _ _ _ _ _ _ _ _ _
   | exact ih3 _ _ _ _ _ _ _ _ _ _ _
   | exact ih4 _ _ _ _ _ _ _ _
   | exact ih5 _ _ _ _
   | exact ih6 _ _ _ _ _ _ _ _ _ _ _ _ _ _ _ _ _
   | exact hopmeshlaw49_awake.mono _
   | exact hopmeshlaw49_order.mono _ _
   | exact install_Acknowledge.mono _ _ _ _ _ _ _ _ _
   | exact install_Agreed.mono _ _ _ _ _ _ _
   | exact install_Complete.mono _ _ _ _ _ _ _ _
   | exact install_New.mono _ _ _
   | exact install_Order.mono _ _ _ _ _ _ _ _
   | exact install_Ready.mono _ _ _ _ _ _ _
   | exact install_Report.mono _ _ _ _ _ _ _ _ _
   | exact install_Step.mono _ _ _ _ _ _ _ _
   | exact install_Take.mono _ _ _ _ _ _ _ _ _ _ _ _ _ _
   | exact LeO.none _
   | refine LeO.ite ?_ ?_
   | refine LeO.bind ?_ (fun _ => ?_)
  ·intro y0 y1 y2 y3 y4 y5 y6 y7 y8 y9 y10 y11 y12
   unfold hopmeshlaw49_InstallAgreed.l1
   repeat' first
   | (with_reducible exact ih0 _ _ _ _)
   | (with_reducible exact ih1 _ _ _ _ _ _ _)
   | (with_reducible exact ih2 _ _ _ _ _ _ _ _ _ _ _ _ _)
   | (with_reducible exact ih3 _ _ _ _ _ _ _ _ _ _ _)
   | (with_reducible exact ih4 _ _ _ _ _ _ _ _)
   | (with_reducible exact ih5 _ _ _ _)
   | (with_reducible exact ih6 _ _ _ _ _ _ _ _ _ _ _ _ _ _ _ _ _)
   | (with_reducible exact hopmeshlaw49_awake.mono _)
   | (with_reducible exact hopmeshlaw49_order.mono _ _)
   | (with_reducible exact install_Acknowledge.mono _ _ _ _ _ _ _ _ _)
   | (with_reducible exact install_Agreed.mono _ _ _ _ _ _ _)
   | (with_reducible exact install_Complete.mono _ _ _ _ _ _ _ _)
   | (with_reducible exact install_New.mono _ _ _)
   | (with_reducible exact install_Order.mono _ _ _ _ _ _ _ _)
   | (with_reducible exact install_Ready.mono _ _ _ _ _ _ _)
   | (with_reducible exact install_Report.mono _ _ _ _ _ _ _ _ _)
   | (with_reducible exact install_Step.mono _ _ _ _ _ _ _ _)
   | (with_reducible exact install_Take.mono _ _ _ _ _ _ _ _ _ _ _ _ _ _)
   | (with_reducible exact LeO.refl _)
   | (with_reducible exact LeO.none _)
   | (with_reducible refine LeO.ite ?_ ?_)
   | (with_reducible refine LeO.bind ?_ (fun _ => ?_))
   | exact ih0 _ _ _ _
   | exact ih1 _ _ _ _ _ _ _
   | exact ih2 _ _ _ _ _ _ _ _ _ _ _ _ _
   | exact ih3 _ _ _ _ _ _ _ _ _ _ _
   | exact ih4 _ _ _ _ _ _ _ _
   | exact ih5 _ _ _ _
   | exact ih6 _ _ _ _ _ _ _ _ _ _ _ _ _ _ _ _ _
   | exact hopmeshlaw49_awake.mono _
   | exact hopmeshlaw49_order.mono _ _
   | exact install_Acknowledge.mono _ _ _ _ _ _ _ _ _
   | exact install_Agreed.mono _ _ _ _ _ _ _
   | exact install_Complete.mono _ _ _ _ _ _ _ _
   | exact install_New.mono _ _ _
   | exact install_Order.mono _ _ _ _ _ _ _ _
   | exact install_Ready.mono _ _ _ _ _ _ _
   | exact install_Report.mono _ _ _ _ _ _ _ _ _
   | exact install_Step.mono _ _ _ _ _ _ _ _
   | exact install_Take.mono _ _ _ _ _ _ _ _ _ _ _ _ _ _
   | exact LeO.none _
   | refine LeO.ite ?_ ?_
   | refine LeO.bind ?_ (fun _ => ?_)
  ·intro y0 y1 y2 y3 y4 y5 y6 y7 y8 y9 y10
   unfold hopmeshlaw49_InstallAgreed.j3
   repeat' first
   | (with_reducible exact ih0 _ _ _ _)
   | (with_reducible exact ih1 _ _ _ _ _ _ _)
   | (with_reducible exact ih2 _ _ _ _ _ _ _ _ _ _ _ _ _)
   | (with_reducible exact ih3 _ _ _ _ _ _ _ _ _ _ _)
   | (with_reducible exact ih4 _ _ _ _ _ _ _ _)
   | (with_reducible exact ih5 _ _ _ _)
   | (with_reducible exact ih6 _ _ _ _ _ _ _ _ _ _ _ _ _ _ _ _ _)
   | (with_reducible exact hopmeshlaw49_awake.mono _)
   | (with_reducible exact hopmeshlaw49_order.mono _ _)
   | (with_reducible exact install_Acknowledge.mono _ _ _ _ _ _ _ _ _)
   | (with_reducible exact install_Agreed.mono _ _ _ _ _ _ _)
   | (with_reducible exact install_Complete.mono _ _ _ _ _ _ _ _)
   | (with_reducible exact install_New.mono _ _ _)
   | (with_reducible exact install_Order.mono _ _ _ _ _ _ _ _)
   | (with_reducible exact install_Ready.mono _ _ _ _ _ _ _)
   | (with_reducible exact install_Report.mono _ _ _ _ _ _ _ _ _)
   | (with_reducible exact install_Step.mono _ _ _ _ _ _ _ _)
   | (with_reducible exact install_Take.mono _ _ _ _ _ _ _ _ _ _ _ _ _ _)
   | (with_reducible exact LeO.refl _)
   | (with_reducible exact LeO.none _)
   | (with_reducible refine LeO.ite ?_ ?_)
   | (with_reducible refine LeO.bind ?_ (fun _ => ?_))
   | exact ih0 _ _ _ _
   | exact ih1 _ _ _ _ _ _ _
   | exact ih2 _ _ _ _ _ _ _ _ _ _ _ _ _
   | exact ih3 _ _ _ _ _ _ _ _ _ _ _
   | exact ih4 _ _ _ _ _ _ _ _
   | exact ih5 _ _ _ _
   | exact ih6 _ _ _ _ _ _ _ _ _ _ _ _ _ _ _ _ _
   | exact hopmeshlaw49_awake.mono _
   | exact hopmeshlaw49_order.mono _ _
   | exact install_Acknowledge.mono _ _ _ _ _ _ _ _ _
   | exact install_Agreed.mono _ _ _ _ _ _ _
   | exact install_Complete.mono _ _ _ _ _ _ _ _
   | exact install_New.mono _ _ _
   | exact install_Order.mono _ _ _ _ _ _ _ _
   | exact install_Ready.mono _ _ _ _ _ _ _
   | exact install_Report.mono _ _ _ _ _ _ _ _ _
   | exact install_Step.mono _ _ _ _ _ _ _ _
   | exact install_Take.mono _ _ _ _ _ _ _ _ _ _ _ _ _ _
   | exact LeO.none _
   | refine LeO.ite ?_ ?_
   | refine LeO.bind ?_ (fun _ => ?_)
  ·intro y0 y1 y2 y3 y4 y5 y6 y7
   unfold hopmeshlaw49_InstallAgreed.j5
   repeat' first
   | (with_reducible exact ih0 _ _ _ _)
   | (with_reducible exact ih1 _ _ _ _ _ _ _)
   | (with_reducible exact ih2 _ _ _ _ _ _ _ _ _ _ _ _ _)
   | (with_reducible exact ih3 _ _ _ _ _ _ _ _ _ _ _)
   | (with_reducible exact ih4 _ _ _ _ _ _ _ _)
   | (with_reducible exact ih5 _ _ _ _)
   | (with_reducible exact ih6 _ _ _ _ _ _ _ _ _ _ _ _ _ _ _ _ _)
   | (with_reducible exact hopmeshlaw49_awake.mono _)
   | (with_reducible exact hopmeshlaw49_order.mono _ _)
   | (with_reducible exact install_Acknowledge.mono _ _ _ _ _ _ _ _ _)
   | (with_reducible exact install_Agreed.mono _ _ _ _ _ _ _)
   | (with_reducible exact install_Complete.mono _ _ _ _ _ _ _ _)
   | (with_reducible exact install_New.mono _ _ _)
   | (with_reducible exact install_Order.mono _ _ _ _ _ _ _ _)
   | (with_reducible exact install_Ready.mono _ _ _ _ _ _ _)
   | (with_reducible exact install_Report.mono _ _ _ _ _ _ _ _ _)
   | (with_reducible exact install_Step.mono _ _ _ _ _ _ _ _)
   | (with_reducible exact install_Take.mono _ _ _ _ _ _ _ _ _ _ _ _ _ _)
   | (with_reducible exact LeO.refl _)
   | (with_reducible exact LeO.none _)
   | (with_reducible refine LeO.ite ?_ ?_)
   | (with_reducible refine LeO.bind ?_ (fun _ => ?_))
   | exact ih0 _ _ _ _
   | exact ih1 _ _ _ _ _ _ _
   | exact ih2 _ _ _ _ _ _ _ _ _ _ _ _ _
   | exact ih3 _ _ _ _ _ _ _ _ _ _ _
   | exact ih4 _ _ _ _ _ _ _ _
   | exact ih5 _ _ _ _
   | exact ih6 _ _ _ _ _ _ _ _ _ _ _ _ _ _ _ _ _
   | exact hopmeshlaw49_awake.mono _
   | exact hopmeshlaw49_order.mono _ _
   | exact install_Acknowledge.mono _ _ _ _ _ _ _ _ _
   | exact install_Agreed.mono _ _ _ _ _ _ _
   | exact install_Complete.mono _ _ _ _ _ _ _ _
   | exact install_New.mono _ _ _
   | exact install_Order.mono _ _ _ _ _ _ _ _
   | exact install_Ready.mono _ _ _ _ _ _ _
   | exact install_Report.mono _ _ _ _ _ _ _ _ _
   | exact install_Step.mono _ _ _ _ _ _ _ _
   | exact install_Take.mono _ _ _ _ _ _ _ _ _ _ _ _ _ _
   | exact LeO.none _
   | refine LeO.ite ?_ ?_
   | refine LeO.bind ?_ (fun _ => ?_)
  ·intro y0 y1 y2 y3
   unfold hopmeshlaw49_InstallAgreed.l3
   repeat' first
   | (with_reducible exact ih0 _ _ _ _)
   | (with_reducible exact ih1 _ _ _ _ _ _ _)
   | (with_reducible exact ih2 _ _ _ _ _ _ _ _ _ _ _ _ _)
   | (with_reducible exact ih3 _ _ _ _ _ _ _ _ _ _ _)
   | (with_reducible exact ih4 _ _ _ _ _ _ _ _)
   | (with_reducible exact ih5 _ _ _ _)
   | (with_reducible exact ih6 _ _ _ _ _ _ _ _ _ _ _ _ _ _ _ _ _)
   | (with_reducible exact hopmeshlaw49_awake.mono _)
   | (with_reducible exact hopmeshlaw49_order.mono _ _)
   | (with_reducible exact install_Acknowledge.mono _ _ _ _ _ _ _ _ _)
   | (with_reducible exact install_Agreed.mono _ _ _ _ _ _ _)
   | (with_reducible exact install_Complete.mono _ _ _ _ _ _ _ _)
   | (with_reducible exact install_New.mono _ _ _)
   | (with_reducible exact install_Order.mono _ _ _ _ _ _ _ _)
   | (with_reducible exact install_Ready.mono _ _ _ _ _ _ _)
   | (with_reducible exact install_Report.mono _ _ _ _ _ _ _ _ _)
   | (with_reducible exact install_Step.mono _ _ _ _ _ _ _ _)
   | (with_reducible exact install_Take.mono _ _ _ _ _ _ _ _ _ _ _ _ _ _)
   | (with_reducible exact LeO.refl _)
   | (with_reducible exact LeO.none _)
   | (with_reducible refine LeO.ite ?_ ?_)
   | (with_reducible refine LeO.bind ?_ (fun _ => ?_))
   | exact ih0 _ _ _ _
   | exact ih1 _ _ _ _ _ _ _
   | exact ih2 _ _ _ _ _ _ _ _ _ _ _ _ _
   | exact ih3 _ _ _ _ _ _ _ _ _ _ _
   | exact ih4 _ _ _ _ _ _ _ _
   | exact ih5 _ _ _ _
   | exact ih6 _ _ _ _ _ _ _ _ _ _ _ _ _ _ _ _ _
   | exact hopmeshlaw49_awake.mono _
   | exact hopmeshlaw49_order.mono _ _
   | exact install_Acknowledge.mono _ _ _ _ _ _ _ _ _
   | exact install_Agreed.mono _ _ _ _ _ _ _
   | exact install_Complete.mono _ _ _ _ _ _ _ _
   | exact install_New.mono _ _ _
   | exact install_Order.mono _ _ _ _ _ _ _ _
   | exact install_Ready.mono _ _ _ _ _ _ _
   | exact install_Report.mono _ _ _ _ _ _ _ _ _
   | exact install_Step.mono _ _ _ _ _ _ _ _
   | exact install_Take.mono _ _ _ _ _ _ _ _ _ _ _ _ _ _
   | exact LeO.none _
   | refine LeO.ite ?_ ?_
   | refine LeO.bind ?_ (fun _ => ?_)
  ·intro y0 y1 y2 y3 y4 y5 y6 y7 y8 y9 y10 y11 y12 y13 y14 y15 y16
   unfold hopmeshlaw49_InstallAgreed.l2
   repeat' first
   | (with_reducible exact ih0 _ _ _ _)
   | (with_reducible exact ih1 _ _ _ _ _ _ _)
   | (with_reducible exact ih2 _ _ _ _ _ _ _ _ _ _ _ _ _)
   | (with_reducible exact ih3 _ _ _ _ _ _ _ _ _ _ _)
   | (with_reducible exact ih4 _ _ _ _ _ _ _ _)
   | (with_reducible exact ih5 _ _ _ _)
   | (with_reducible exact ih6 _ _ _ _ _ _ _ _ _ _ _ _ _ _ _ _ _)
   | (with_reducible exact hopmeshlaw49_awake.mono _)
   | (with_reducible exact hopmeshlaw49_order.mono _ _)
   | (with_reducible exact install_Acknowledge.mono _ _ _ _ _ _ _ _ _)
   | (with_reducible exact install_Agreed.mono _ _ _ _ _ _ _)
   | (with_reducible exact install_Complete.mono _ _ _ _ _ _ _ _)
   | (with_reducible exact install_New.mono _ _ _)
   | (with_reducible exact install_Order.mono _ _ _ _ _ _ _ _)
   | (with_reducible exact install_Ready.mono _ _ _ _ _ _ _)
   | (with_reducible exact install_Report.mono _ _ _ _ _ _ _ _ _)
   | (with_reducible exact install_Step.mono _ _ _ _ _ _ _ _)
   | (with_reducible exact install_Take.mono _ _ _ _ _ _ _ _ _ _ _ _ _ _)
   | (with_reducible exact LeO.refl _)
   | (with_reducible exact LeO.none _)
   | (with_reducible refine LeO.ite ?_ ?_)
   | (with_reducible refine LeO.bind ?_ (fun _ => ?_))
   | exact ih0 _ _ _ _
   | exact ih1 _ _ _ _ _ _ _
   | exact ih2 _ _ _ _ _ _ _ _ _ _ _ _ _
   | exact ih3 _ _ _ _ _ _ _ _ _ _ _
   | exact ih4 _ _ _ _ _ _ _ _
   | exact ih5 _ _ _ _
   | exact ih6 _ _ _ _ _ _ _ _ _ _ _ _ _ _ _ _ _
   | exact hopmeshlaw49_awake.mono _
   | exact hopmeshlaw49_order.mono _ _
   | exact install_Acknowledge.mono _ _ _ _ _ _ _ _ _
   | exact install_Agreed.mono _ _ _ _ _ _ _
   | exact install_Complete.mono _ _ _ _ _ _ _ _
   | exact install_New.mono _ _ _
   | exact install_Order.mono _ _ _ _ _ _ _ _
   | exact install_Ready.mono _ _ _ _ _ _ _
   | exact install_Report.mono _ _ _ _ _ _ _ _ _
   | exact install_Step.mono _ _ _ _ _ _ _ _
   | exact install_Take.mono _ _ _ _ _ _ _ _ _ _ _ _ _ _
   | exact LeO.none _
   | refine LeO.ite ?_ ?_
   | refine LeO.bind ?_ (fun _ => ?_)
theorem hopmeshlaw49_InstallAgreed.mono : ∀ a0 a1 a2 k, LeO (hopmeshlaw49_InstallAgreed.f k a0 a1 a2) (hopmeshlaw49_InstallAgreed.f (k + 1) a0 a1 a2) := by
 intro a0 a1 a2 k
 obtain ⟨ih0, ih1, ih2, ih3, ih4, ih5, ih6⟩ := hopmeshlaw49_InstallAgreed.mono_l k
 unfold hopmeshlaw49_InstallAgreed.f
 repeat' first
  | (with_reducible exact ih0 _ _ _ _)
  | (with_reducible exact ih1 _ _ _ _ _ _ _)
  | (with_reducible exact ih2 _ _ _ _ _ _ _ _ _ _ _ _ _)
  | (with_reducible exact ih3 _ _ _ _ _ _ _ _ _ _ _)
  | (with_reducible exact ih4 _ _ _ _ _ _ _ _)
  | (with_reducible exact ih5 _ _ _ _)
  | (with_reducible exact ih6 _ _ _ _ _ _ _ _ _ _ _ _ _ _ _ _ _)
  | (with_reducible exact hopmeshlaw49_awake.mono _)
  | (with_reducible exact hopmeshlaw49_order.mono _ _)
  | (with_reducible exact install_Acknowledge.mono _ _ _ _ _ _ _ _ _)
  | (with_reducible exact install_Agreed.mono _ _ _ _ _ _ _)
  | (with_reducible exact install_Complete.mono _ _ _ _ _ _ _ _)
  | (with_reducible exact install_New.mono _ _ _)
  | (with_reducible exact install_Order.mono _ _ _ _ _ _ _ _)
  | (with_reducible exact install_Ready.mono _ _ _ _ _ _ _)
  | (with_reducible exact install_Report.mono _ _ _ _ _ _ _ _ _)
  | (with_reducible exact install_Step.mono _ _ _ _ _ _ _ _)
  | (with_reducible exact install_Take.mono _ _ _ _ _ _ _ _ _ _ _ _ _ _)
  | (with_reducible exact LeO.refl _)
  | (with_reducible exact LeO.none _)
  | (with_reducible refine LeO.ite ?_ ?_)
  | (with_reducible refine LeO.bind ?_ (fun _ => ?_))
  | exact ih0 _ _ _ _
  | exact ih1 _ _ _ _ _ _ _
  | exact ih2 _ _ _ _ _ _ _ _ _ _ _ _ _
  | exact ih3 _ _ _ _ _ _ _ _ _ _ _
  | exact ih4 _ _ _ _ _ _ _ _
  | exact ih5 _ _ _ _
  | exact ih6 _ _ _ _ _ _ _ _ _ _ _ _ _ _ _ _ _
  | exact hopmeshlaw49_awake.mono _
  | exact hopmeshlaw49_order.mono _ _
  | exact install_Acknowledge.mono _ _ _ _ _ _ _ _ _
  | exact install_Agreed.mono _ _ _ _ _ _ _
  | exact install_Complete.mono _ _ _ _ _ _ _ _
  | exact install_New.mono _ _ _
  | exact install_Order.mono _ _ _ _ _ _ _ _
  | exact install_Ready.mono _ _ _ _ _ _ _
  | exact install_Report.mono _ _ _ _ _ _ _ _ _
  | exact install_Step.mono _ _ _ _ _ _ _ _
  | exact install_Take.mono _ _ _ _ _ _ _ _ _ _ _ _ _ _
  | exact LeO.none _
  | refine LeO.ite ?_ ?_
  | refine LeO.bind ?_ (fun _ => ?_)
end Go.Proofs.Ytdigplhjfjchnaa.PQ
