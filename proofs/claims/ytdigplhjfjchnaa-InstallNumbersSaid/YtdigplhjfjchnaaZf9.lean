-- Printed by fprint.py and zip.py, programs of this session's, over the kit's print; Lean checks it.
import Derived.Test.YtdigplhjfjchnaaZ0
import Derived.Test.YtdigplhjfjchnaaZf11
import Derived.Test.YtdigplhjfjchnaaZf18
import Derived.Test.YtdigplhjfjchnaaZf10
import Derived.Test.YtdigplhjfjchnaaZf19
import Derived.Test.YtdigplhjfjchnaaZf21
import Derived.Test.YtdigplhjfjchnaaZf22
import Derived.Test.YtdigplhjfjchnaaZf23
import Derived.Test.YtdigplhjfjchnaaZf39
namespace Go.Proofs.Ytdigplhjfjchnaa.PQ
open Go.RowKit Go.Proofs.YtdigplhjfjchnaaW.PrintWords Go.Proofs.YtdigplhjfjchnaaW.PrintLast Go.Proofs.YtdigplhjfjchnaaW.PrintMore
attribute [local go_sem] max2_int min2_int max_two min_two max_three min_three max_four min_four   -- for this text's walks alone
set_option linter.unusedVariables false
set_option linter.unusedSimpArgs false
mutual
def hopmeshlaw49_InstallNumbers.j0 : Nat → List Bool → Int → Bool → Option (Bool)
 | 0, _, _, _ => none
 | k + 1, x0, x1, x19 => if x19 = true then ((hopmeshlaw49_awake.f k).bind fun t1027 => (some t1027)) else ((hopmeshlaw49_id.f (⟨#[120]⟩ : ByteArray)).bind fun t1028 => ((install_New.f k t1028 (([2] : List Int))).bind fun bt1032 => (if bt1032.2.2.2.2.2.2 = 0 then ((hopmeshlaw49_id.f (⟨#[120]⟩ : ByteArray)).bind fun t1046 => ((install_Report.f k bt1032.1 bt1032.2.1 bt1032.2.2.1 bt1032.2.2.2.1 bt1032.2.2.2.2.1 bt1032.2.2.2.2.2.1 2 t1046).bind fun bt1047 => (if bt1047.2.2.2.2.2.2 = 0 then (hopmeshlaw49_InstallNumbers.l0 k x1 x0 (x0.length : Int) 0 bt1047.1 bt1047.2.1 bt1047.2.2.1 bt1047.2.2.2.1 bt1047.2.2.2.2.1 bt1047.2.2.2.2.2.1) else (none)))) else (none))))
def hopmeshlaw49_InstallNumbers.l0 : Nat → Int → List Bool → Int → Int → ByteArray → List Int → List Bool → List Bool → Int → Int → Option (Bool)
 | 0, _, _, _, _, _, _, _, _, _, _ => none
 | k + 1, x1, x37, x38, x39, x1046000, x1046001, x1046002, x1046003, x1046004, x1046005 => if x39 < x38 then (if 0 ≤ x39 then (if x39 < (x37.length : Int) then (if rdOf false x37 x39 = true then ((install_Withdraw.f k x1046000 x1046001 x1046002 x1046003 x1046004 x1046005).bind fun bt1063 => (hopmeshlaw49_InstallNumbers.j2 k x1 bt1063.2.2.2.2.2.2.2.2.2.2.2 (rdOf false x37 x39) x1046005 x37 x38 x39 x1046000 x1046001 x1046002 x1046003 x1046004 x1046005 bt1063.2.2.2.2.2.2.1 bt1063.2.2.2.2.2.2.2.1 bt1063.2.2.2.2.2.2.2.2.1 bt1063.2.2.2.2.2.2.2.2.2.1 bt1063.2.2.2.2.2.2.2.2.2.2.1 bt1063.1 bt1063.2.1 bt1063.2.2.1 bt1063.2.2.2.1 bt1063.2.2.2.2.1 bt1063.2.2.2.2.2.1)) else ((install_Order.f k x1046000 x1046001 x1046002 x1046003 x1046004 x1046005 (wrap64 (10 + x39))).bind fun bt1083 => (hopmeshlaw49_InstallNumbers.j2 k x1 bt1083.2.2.2.2.2.2.2.2.2.2.2 (rdOf false x37 x39) x1046005 x37 x38 x39 x1046000 x1046001 x1046002 x1046003 x1046004 x1046005 bt1083.2.2.2.2.2.2.1 bt1083.2.2.2.2.2.2.2.1 bt1083.2.2.2.2.2.2.2.2.1 bt1083.2.2.2.2.2.2.2.2.2.1 bt1083.2.2.2.2.2.2.2.2.2.2.1 bt1083.1 bt1083.2.1 bt1083.2.2.1 bt1083.2.2.2.1 bt1083.2.2.2.2.1 bt1083.2.2.2.2.2.1))) else (none)) else (none)) else (some true)
def hopmeshlaw49_InstallNumbers.j2 : Nat → Int → Int → Bool → Int → List Bool → Int → Int → ByteArray → List Int → List Bool → List Bool → Int → Int → Int → Int → Int → ByteArray → List Int → ByteArray → List Int → List Bool → List Bool → Int → Int → Option (Bool)
 | 0, _, _, _, _, _, _, _, _, _, _, _, _, _, _, _, _, _, _, _, _, _, _, _, _ => none
 | k + 1, x1, x6, x8, x10, x37, x38, x39, x1046000, x1046001, x1046002, x1046003, x1046004, x1046005, x1062000, x1062001, x1062002, x1062003, x1062004, x1063000, x1063001, x1063002, x1063003, x1063004, x1063005 => if x8 = true then (hopmeshlaw49_InstallNumbers.j3 k x1 x6 x8 x37 x38 x39 (x10 == 0) x1046000 x1046001 x1046002 x1046003 x1046004 x1046005 x1062000 x1062001 x1062002 x1062003 x1062004 x1063000 x1063001 x1063002 x1063003 x1063004 x1063005) else (hopmeshlaw49_InstallNumbers.j3 k x1 x6 x8 x37 x38 x39 false x1046000 x1046001 x1046002 x1046003 x1046004 x1046005 x1062000 x1062001 x1062002 x1062003 x1062004 x1063000 x1063001 x1063002 x1063003 x1063004 x1063005)
def hopmeshlaw49_InstallNumbers.j3 : Nat → Int → Int → Bool → List Bool → Int → Int → Bool → ByteArray → List Int → List Bool → List Bool → Int → Int → Int → Int → Int → ByteArray → List Int → ByteArray → List Int → List Bool → List Bool → Int → Int → Option (Bool)
 | 0, _, _, _, _, _, _, _, _, _, _, _, _, _, _, _, _, _, _, _, _, _, _, _, _ => none
 | k + 1, x1, x6, x8, x37, x38, x39, x66, x1046000, x1046001, x1046002, x1046003, x1046004, x1046005, x1062000, x1062001, x1062002, x1062003, x1062004, x1063000, x1063001, x1063002, x1063003, x1063004, x1063005 => if x66 = true then (if x6 = 12 then (hopmeshlaw49_InstallNumbers.l0 k x1 x37 x38 (wrap64 (x39 + 1)) x1046000 x1046001 x1046002 x1046003 x1046004 x1046005) else (none)) else (if x6 = 0 then (if x1062000 = (wrap64 (x1046004 + 1)) then (if x1063004 = x1062000 then ((install_Agreed.f k x1063000 x1063001 x1063002 x1063003 x1063004 x1063005).bind fun t1103 => (if t1103 = true then (hopmeshlaw49_InstallNumbers.j4 k x1 x8 x37 x38 x39 true x1062000 x1062001 x1062002 x1062003 x1062004 x1063000 x1063001 x1063002 x1063003 x1063004 x1063005) else (hopmeshlaw49_InstallNumbers.j4 k x1 x8 x37 x38 x39 ((x1063005 == 0) != x8) x1062000 x1062001 x1062002 x1062003 x1062004 x1063000 x1063001 x1063002 x1063003 x1063004 x1063005))) else (hopmeshlaw49_InstallNumbers.j4 k x1 x8 x37 x38 x39 true x1062000 x1062001 x1062002 x1062003 x1062004 x1063000 x1063001 x1063002 x1063003 x1063004 x1063005)) else (hopmeshlaw49_InstallNumbers.j4 k x1 x8 x37 x38 x39 true x1062000 x1062001 x1062002 x1062003 x1062004 x1063000 x1063001 x1063002 x1063003 x1063004 x1063005)) else (hopmeshlaw49_InstallNumbers.j4 k x1 x8 x37 x38 x39 true x1062000 x1062001 x1062002 x1062003 x1062004 x1063000 x1063001 x1063002 x1063003 x1063004 x1063005))
def hopmeshlaw49_InstallNumbers.j4 : Nat → Int → Bool → List Bool → Int → Int → Bool → Int → Int → Int → ByteArray → List Int → ByteArray → List Int → List Bool → List Bool → Int → Int → Option (Bool)
 | 0, _, _, _, _, _, _, _, _, _, _, _, _, _, _, _, _, _ => none
 | k + 1, x1, x8, x37, x38, x39, x96, x1062000, x1062001, x1062002, x1062003, x1062004, x1063000, x1063001, x1063002, x1063003, x1063004, x1063005 => if x96 = true then (none) else (if x1062000 = 0 then (none) else (if (Int.tmod (wrap64 (x1)) x1062000) > 0 then ((install_Acknowledge.f k x1063000 x1063001 x1063002 x1063003 x1063004 x1063005 2 (Int.tmod (wrap64 (x1)) x1062000)).bind fun bt1104 => (if bt1104.2.2.2.2.2.2 = 0 then ((install_Agreed.f k bt1104.1 bt1104.2.1 bt1104.2.2.1 bt1104.2.2.2.1 bt1104.2.2.2.2.1 bt1104.2.2.2.2.2.1).bind fun t1117 => (if t1117 = true then (none) else (hopmeshlaw49_InstallNumbers.j5 k x1 x8 x37 x38 x39 bt1104.1 bt1104.2.1 bt1104.2.2.1 bt1104.2.2.2.1 bt1104.2.2.2.2.1 bt1104.2.2.2.2.2.1 x1062000 x1062001 x1062002 x1062003 x1062004))) else (none))) else (hopmeshlaw49_InstallNumbers.j5 k x1 x8 x37 x38 x39 x1063000 x1063001 x1063002 x1063003 x1063004 x1063005 x1062000 x1062001 x1062002 x1062003 x1062004)))
def hopmeshlaw49_InstallNumbers.j5 : Nat → Int → Bool → List Bool → Int → Int → ByteArray → List Int → List Bool → List Bool → Int → Int → Int → Int → Int → ByteArray → List Int → Option (Bool)
 | 0, _, _, _, _, _, _, _, _, _, _, _, _, _, _, _, _ => none
 | k + 1, x1, x8, x37, x38, x39, x1046000, x1046001, x1046002, x1046003, x1046004, x1046005, x1062000, x1062001, x1062002, x1062003, x1062004 => (install_Acknowledge.f k x1046000 x1046001 x1046002 x1046003 x1046004 x1046005 2 x1062000).bind fun bt1118 => (if bt1118.2.2.2.2.2.2 = 0 then ((install_Agreed.f k bt1118.1 bt1118.2.1 bt1118.2.2.1 bt1118.2.2.2.1 bt1118.2.2.2.2.1 bt1118.2.2.2.2.2.1).bind fun t1131 => (if (t1131 == x8) = true then (none) else (hopmeshlaw49_InstallNumbers.l0 k x1 x37 x38 (wrap64 (x39 + 1)) bt1118.1 bt1118.2.1 bt1118.2.2.1 bt1118.2.2.2.1 bt1118.2.2.2.2.1 bt1118.2.2.2.2.2.1))) else (none))
end
def hopmeshlaw49_InstallNumbers.f (k : Nat) (l0 : List Bool) (a1 : Int) : Option (Bool) := (hopmeshlaw49_awake.f k).bind fun t1026 => (if t1026 = true then (hopmeshlaw49_InstallNumbers.j0 k l0 a1 (decide ((l0.length : Int) > 20))) else (hopmeshlaw49_InstallNumbers.j0 k l0 a1 true))
theorem hopmeshlaw49_InstallNumbers.mono_l : ∀ k, (∀ y0 y1 y2, LeO (hopmeshlaw49_InstallNumbers.j0 k y0 y1 y2) (hopmeshlaw49_InstallNumbers.j0 (k + 1) y0 y1 y2)) ∧ (∀ y0 y1 y2 y3 y4 y5 y6 y7 y8 y9, LeO (hopmeshlaw49_InstallNumbers.l0 k y0 y1 y2 y3 y4 y5 y6 y7 y8 y9) (hopmeshlaw49_InstallNumbers.l0 (k + 1) y0 y1 y2 y3 y4 y5 y6 y7 y8 y9)) ∧ (∀ y0 y1 y2 y3 y4 y5 y6 y7 y8 y9 y10 y11 y12 y13 y14 y15 y16 y17 y18 y19 y20 y21 y22 y23, LeO (hopmeshlaw49_InstallNumbers.j2 k y0 y1 y2 y3 y4 y5 y6 y7 y8 y9 y10 y11 y12 y13 y14 y15 y16 y17 y18 y19 y20 y21 y22 y23) (hopmeshlaw49_InstallNumbers.j2 (k + 1) y0 y1 y2 y3 y4 y5 y6 y7 y8 y9 y10 y11 y12 y13 y14 y15 y16 y17 y18 y19 y20 y21 y22 y23)) ∧ (∀ y0 y1 y2 y3 y4 y5 y6 y7 y8 y9 y10 y11 y12 y13 y14 y15 y16 y17 y18 y19 y20 y21 y22 y23, LeO (hopmeshlaw49_InstallNumbers.j3 k y0 y1 y2 y3 y4 y5 y6 y7 y8 y9 y10 y11 y12 y13 y14 y15 y16 y17 y18 y19 y20 y21 y22 y23) (hopmeshlaw49_InstallNumbers.j3 (k + 1) y0 y1 y2 y3 y4 y5 y6 y7 y8 y9 y10 y11 y12 y13 y14 y15 y16 y17 y18 y19 y20 y21 y22 y23)) ∧ (∀ y0 y1 y2 y3 y4 y5 y6 y7 y8 y9 y10 y11 y12 y13 y14 y15 y16, LeO (hopmeshlaw49_InstallNumbers.j4 k y0 y1 y2 y3 y4 y5 y6 y7 y8 y9 y10 y11 y12 y13 y14 y15 y16) (hopmeshlaw49_InstallNumbers.j4 (k + 1) y0 y1 y2 y3 y4 y5 y6 y7 y8 y9 y10 y11 y12 y13 y14 y15 y16)) ∧ (∀ y0 y1 y2 y3 y4 y5 y6 y7 y8 y9 y10 y11 y12 y13 y14 y15, LeO (hopmeshlaw49_InstallNumbers.j5 k y0 y1 y2 y3 y4 y5 y6 y7 y8 y9 y10 y11 y12 y13 y14 y15) (hopmeshlaw49_InstallNumbers.j5 (k + 1) y0 y1 y2 y3 y4 y5 y6 y7 y8 y9 y10 y11 y12 y13 y14 y15))
 | 0 => ⟨fun _ _ _ r h => by simp [hopmeshlaw49_InstallNumbers.j0] at h, fun _ _ _ _ _ _ _ _ _ _ r h => by simp [hopmeshlaw49_InstallNumbers.l0] at h, fun _ _ _ _ _ _ _ _ _ _ _ _ _ _ _ _ _ _ _ _ _ _ _ _ r h => by simp [hopmeshlaw49_InstallNumbers.j2] at h, fun _ _ _ _ _ _ _ _ _ _ _ _ _ _ _ _ _ _ _ _ _ _ _ _ r h => by simp [hopmeshlaw49_InstallNumbers.j3] at h, fun _ _ _ _ _ _ _ _ _ _ _ _ _ _ _ _ _ r h => by simp [hopmeshlaw49_InstallNumbers.j4] at h, fun _ _ _ _ _ _ _ _ _ _ _ _ _ _ _ _ r h => by simp [hopmeshlaw49_InstallNumbers.j5] at h⟩
 | k + 1 => by
  obtain ⟨ih0, ih1, ih2, ih3, ih4, ih5⟩ := hopmeshlaw49_InstallNumbers.mono_l k
  refine ⟨?_, ?_, ?_, ?_, ?_, ?_⟩
  ·intro y0 y1 y2
   unfold hopmeshlaw49_InstallNumbers.j0
   repeat' first
   | (with_reducible exact ih0 _ _ _)
   | (with_reducible exact ih1 _ _ _ _ _ _ _ _ _ _)
   | (with_reducible exact ih2 _ _ _ _ _ _ _ _ _ _ _ _ _ _ _ _ _ _ _ _ _ _ _ _)
   | (with_reducible exact ih3 _ _ _ _ _ _ _ _ _ _ _ _ _ _ _ _ _ _ _ _ _ _ _ _)
   | (with_reducible exact ih4 _ _ _ _ _ _ _ _ _ _ _ _ _ _ _ _ _)
   | (with_reducible exact ih5 _ _ _ _ _ _ _ _ _ _ _ _ _ _ _ _)
   | (with_reducible exact hopmeshlaw49_awake.mono _)
   | (with_reducible exact install_Acknowledge.mono _ _ _ _ _ _ _ _ _)
   | (with_reducible exact install_Agreed.mono _ _ _ _ _ _ _)
   | (with_reducible exact install_New.mono _ _ _)
   | (with_reducible exact install_Order.mono _ _ _ _ _ _ _ _)
   | (with_reducible exact install_Report.mono _ _ _ _ _ _ _ _ _)
   | (with_reducible exact install_Withdraw.mono _ _ _ _ _ _ _)
   | (with_reducible exact LeO.refl _)
   | (with_reducible exact LeO.none _)
   | (with_reducible refine LeO.ite ?_ ?_)
   | (with_reducible refine LeO.bind ?_ (fun _ => ?_))
   | exact ih0 _ _ _
   | exact ih1 _ _ _ _ _ _ _ _ _ _
   | exact ih2 _ _ _ _ _ _ _ _ _ _ _ _ _ _ _ _ _ _ _ _ _ _ _ _
   | exact ih3 _ _ _ _ _ _ _ _ _ _ _ _ _ _ _ _ _ _ _ _ _ _ _ _
   | exact ih4 _ _ _ _ _ _ _ _ _ _ _ _ _ _ _ _ _
   | exact ih5 _ _ _ _ _ _ _ _ _ _ _ _ _ _ _ _
   | exact hopmeshlaw49_awake.mono _
   | exact install_Acknowledge.mono _ _ _ _ _ _ _ _ _
   | exact install_Agreed.mono _ _ _ _ _ _ _
   | exact install_New.mono _ _ _
   | exact install_Order.mono _ _ _ _ _ _ _ _
   | exact install_Report.mono _ _ _ _ _ _ _ _ _
   | exact install_Withdraw.mono _ _ _ _ _ _ _
   | exact LeO.none _
   | refine LeO.ite ?_ ?_
   | refine LeO.bind ?_ (fun _ => ?_)
  ·intro y0 y1 y2 y3 y4 y5 y6 y7 y8 y9
   unfold hopmeshlaw49_InstallNumbers.l0
   repeat' first
   | (with_reducible exact ih0 _ _ _)
   | (with_reducible exact ih1 _ _ _ _ _ _ _ _ _ _)
   | (with_reducible exact ih2 _ _ _ _ _ _ _ _ _ _ _ _ _ _ _ _ _ _ _ _ _ _ _ _)
   | (with_reducible exact ih3 _ _ _ _ _ _ _ _ _ _ _ _ _ _ _ _ _ _ _ _ _ _ _ _)
   | (with_reducible exact ih4 _ _ _ _ _ _ _ _ _ _ _ _ _ _ _ _ _)
   | (with_reducible exact ih5 _ _ _ _ _ _ _ _ _ _ _ _ _ _ _ _)
   | (with_reducible exact hopmeshlaw49_awake.mono _)
   | (with_reducible exact install_Acknowledge.mono _ _ _ _ _ _ _ _ _)
   | (with_reducible exact install_Agreed.mono _ _ _ _ _ _ _)
   | (with_reducible exact install_New.mono _ _ _)
   | (with_reducible exact install_Order.mono _ _ _ _ _ _ _ _)
   | (with_reducible exact install_Report.mono _ _ _ _ _ _ _ _ _)
   | (with_reducible exact install_Withdraw.mono _ _ _ _ _ _ _)
   | (with_reducible exact LeO.refl _)
   | (with_reducible exact LeO.none _)
   | (with_reducible refine LeO.ite ?_ ?_)
   | (with_reducible refine LeO.bind ?_ (fun _ => ?_))
   | exact ih0 _ _ _
   | exact ih1 _ _ _ _ _ _ _ _ _ _
   | exact ih2 _ _ _ _ _ _ _ _ _ _ _ _ _ _ _ _ _ _ _ _ _ _ _ _
   | exact ih3 _ _ _ _ _ _ _ _ _ _ _ _ _ _ _ _ _ _ _ _ _ _ _ _
   | exact ih4 _ _ _ _ _ _ _ _ _ _ _ _ _ _ _ _ _
   | exact ih5 _ _ _ _ _ _ _ _ _ _ _ _ _ _ _ _
   | exact hopmeshlaw49_awake.mono _
   | exact install_Acknowledge.mono _ _ _ _ _ _ _ _ _
   | exact install_Agreed.mono _ _ _ _ _ _ _
   | exact install_New.mono _ _ _
   | exact install_Order.mono _ _ _ _ _ _ _ _
   | exact install_Report.mono _ _ _ _ _ _ _ _ _
   | exact install_Withdraw.mono _ _ _ _ _ _ _
   | exact LeO.none _
   | refine LeO.ite ?_ ?_
   | refine LeO.bind ?_ (fun _ => ?_)
  ·intro y0 y1 y2 y3 y4 y5 y6 y7 y8 y9 y10 y11 y12 y13 y14 y15 y16 y17 y18 y19 y20 y21 y22 y23
   unfold hopmeshlaw49_InstallNumbers.j2
   repeat' first
   | (with_reducible exact ih0 _ _ _)
   | (with_reducible exact ih1 _ _ _ _ _ _ _ _ _ _)
   | (with_reducible exact ih2 _ _ _ _ _ _ _ _ _ _ _ _ _ _ _ _ _ _ _ _ _ _ _ _)
   | (with_reducible exact ih3 _ _ _ _ _ _ _ _ _ _ _ _ _ _ _ _ _ _ _ _ _ _ _ _)
   | (with_reducible exact ih4 _ _ _ _ _ _ _ _ _ _ _ _ _ _ _ _ _)
   | (with_reducible exact ih5 _ _ _ _ _ _ _ _ _ _ _ _ _ _ _ _)
   | (with_reducible exact hopmeshlaw49_awake.mono _)
   | (with_reducible exact install_Acknowledge.mono _ _ _ _ _ _ _ _ _)
   | (with_reducible exact install_Agreed.mono _ _ _ _ _ _ _)
   | (with_reducible exact install_New.mono _ _ _)
   | (with_reducible exact install_Order.mono _ _ _ _ _ _ _ _)
   | (with_reducible exact install_Report.mono _ _ _ _ _ _ _ _ _)
   | (with_reducible exact install_Withdraw.mono _ _ _ _ _ _ _)
   | (with_reducible exact LeO.refl _)
   | (with_reducible exact LeO.none _)
   | (with_reducible refine LeO.ite ?_ ?_)
   | (with_reducible refine LeO.bind ?_ (fun _ => ?_))
   | exact ih0 _ _ _
   | exact ih1 _ _ _ _ _ _ _ _ _ _
   | exact ih2 _ _ _ _ _ _ _ _ _ _ _ _ _ _ _ _ _ _ _ _ _ _ _ _
   | exact ih3 _ _ _ _ _ _ _ _ _ _ _ _ _ _ _ _ _ _ _ _ _ _ _ _
   | exact ih4 _ _ _ _ _ _ _ _ _ _ _ _ _ _ _ _ _
   | exact ih5 _ _ _ _ _ _ _ _ _ _ _ _ _ _ _ _
   | exact hopmeshlaw49_awake.mono _
   | exact install_Acknowledge.mono _ _ _ _ _ _ _ _ _
   | exact install_Agreed.mono _ _ _ _ _ _ _
   | exact install_New.mono _ _ _
   | exact install_Order.mono _ _ _ _ _ _ _ _
   | exact install_Report.mono _ _ _ _ _ _ _ _ _
   | exact install_Withdraw.mono _ _ _ _ _ _ _
   | exact LeO.none _
   | refine LeO.ite ?_ ?_
   | refine LeO.bind ?_ (fun _ => ?_)
  ·intro y0 y1 y2 y3 y4 y5 y6 y7 y8 y9 y10 y11 y12 y13 y14 y15 y16 y17 y18 y19 y20 y21 y22 y23
   unfold hopmeshlaw49_InstallNumbers.j3
   repeat' first
   | (with_reducible exact ih0 _ _ _)
   | (with_reducible exact ih1 _ _ _ _ _ _ _ _ _ _)
   | (with_reducible exact ih2 _ _ _ _ _ _ _ _ _ _ _ _ _ _ _ _ _ _ _ _ _ _ _ _)
   | (with_reducible exact ih3 _ _ _ _ _ _ _ _ _ _ _ _ _ _ _ _ _ _ _ _ _ _ _ _)
   | (with_reducible exact ih4 _ _ _ _ _ _ _ _ _ _ _ _ _ _ _ _ _)
   | (with_reducible exact ih5 _ _ _ _ _ _ _ _ _ _ _ _ _ _ _ _)
   | (with_reducible exact hopmeshlaw49_awake.mono _)
   | (with_reducible exact install_Acknowledge.mono _ _ _ _ _ _ _ _ _)
   | (with_reducible exact install_Agreed.mono _ _ _ _ _ _ _)
   | (with_reducible exact install_New.mono _ _ _)
   | (with_reducible exact install_Order.mono _ _ _ _ _ _ _ _)
   | (with_reducible exact install_Report.mono _ _ _ _ _ _ _ _ _)
   | (with_reducible exact install_Withdraw.mono _ _ _ _ _ _ _)
   | (with_reducible exact LeO.refl _)
   | (with_reducible exact LeO.none _)
   | (with_reducible refine LeO.ite ?_ ?_)
   | (with_reducible refine LeO.bind ?_ (fun _ => ?_))
   | exact ih0 _ _ _
   | exact ih1 _ _ _ _ _ _ _ _ _ _
   | exact ih2 _ _ _ _ _ _ _ _ _ _ _ _ _ _ _ _ _ _ _ _ _ _ _ _
   | exact ih3 _ _ _ _ _ _ _ _ _ _ _ _ _ _ _ _ _ _ _ _ _ _ _ _
   | exact ih4 _ _ _ _ _ _ _ _ _ _ _ _ _ _ _ _ _
   | exact ih5 _ _ _ _ _ _ _ _ _ _ _ _ _ _ _ _
   | exact hopmeshlaw49_awake.mono _
   | exact install_Acknowledge.mono _ _ _ _ _ _ _ _ _
   | exact install_Agreed.mono _ _ _ _ _ _ _
   | exact install_New.mono _ _ _
   | exact install_Order.mono _ _ _ _ _ _ _ _
   | exact install_Report.mono _ _ _ _ _ _ _ _ _
   | exact install_Withdraw.mono _ _ _ _ _ _ _
   | exact LeO.none _
   | refine LeO.ite ?_ ?_
   | refine LeO.bind ?_ (fun _ => ?_)
  ·intro y0 y1 y2 y3 y4 y5 y6 y7 y8 y9 y10 y11 y12 y13 y14 y15 y16
   unfold hopmeshlaw49_InstallNumbers.j4
   repeat' first
   | (with_reducible exact ih0 _ _ _)
   | (with_reducible exact ih1 _ _ _ _ _ _ _ _ _ _)
   | (with_reducible exact ih2 _ _ _ _ _ _ _ _ _ _ _ _ _ _ _ _ _ _ _ _ _ _ _ _)
   | (with_reducible exact ih3 _ _ _ _ _ _ _ _ _ _ _ _ _ _ _ _ _ _ _ _ _ _ _ _)
   | (with_reducible exact ih4 _ _ _ _ _ _ _ _ _ _ _ _ _ _ _ _ _)
   | (with_reducible exact ih5 _ _ _ _ _ _ _ _ _ _ _ _ _ _ _ _)
   | (with_reducible exact hopmeshlaw49_awake.mono _)
   | (with_reducible exact install_Acknowledge.mono _ _ _ _ _ _ _ _ _)
   | (with_reducible exact install_Agreed.mono _ _ _ _ _ _ _)
   | (with_reducible exact install_New.mono _ _ _)
   | (with_reducible exact install_Order.mono _ _ _ _ _ _ _ _)
   | (with_reducible exact install_Report.mono _ _ _ _ _ _ _ _ _)
   | (with_reducible exact install_Withdraw.mono _ _ _ _ _ _ _)
   | (with_reducible exact LeO.refl _)
   | (with_reducible exact LeO.none _)
   | (with_reducible refine LeO.ite ?_ ?_)
   | (with_reducible refine LeO.bind ?_ (fun _ => ?_))
   | exact ih0 _ _ _
   | exact ih1 _ _ _ _ _ _ _ _ _ _
   | exact ih2 _ _ _ _ _ _ _ _ _ _ _ _ _ _ _ _ _ _ _ _ _ _ _ _
   | exact ih3 _ _ _ _ _ _ _ _ _ _ _ _ _ _ _ _ _ _ _ _ _ _ _ _
   | exact ih4 _ _ _ _ _ _ _ _ _ _ _ _ _ _ _ _ _
   | exact ih5 _ _ _ _ _ _ _ _ _ _ _ _ _ _ _ _
   | exact hopmeshlaw49_awake.mono _
   | exact install_Acknowledge.mono _ _ _ _ _ _ _ _ _
   | exact install_Agreed.mono _ _ _ _ _ _ _
   | exact install_New.mono _ _ _
   | exact install_Order.mono _ _ _ _ _ _ _ _
   | exact install_Report.mono _ _ _ _ _ _ _ _ _
   | exact install_Withdraw.mono _ _ _ _ _ _ _
   | exact LeO.none _
   | refine LeO.ite ?_ ?_
   | refine LeO.bind ?_ (fun _ => ?_)
  ·intro y0 y1 y2 y3 y4 y5 y6 y7 y8 y9 y10 y11 y12 y13 y14 y15
   unfold hopmeshlaw49_InstallNumbers.j5
   repeat' first
   | (with_reducible exact ih0 _ _ _)
   | (with_reducible exact ih1 _ _ _ _ _ _ _ _ _ _)
   | (with_reducible exact ih2 _ _ _ _ _ _ _ _ _ _ _ _ _ _ _ _ _ _ _ _ _ _ _ _)
   | (with_reducible exact ih3 _ _ _ _ _ _ _ _ _ _ _ _ _ _ _ _ _ _ _ _ _ _ _ _)
   | (with_reducible exact ih4 _ _ _ _ _ _ _ _ _ _ _ _ _ _ _ _ _)
   | (with_reducible exact ih5 _ _ _ _ _ _ _ _ _ _ _ _ _ _ _ _)
   | (with_reducible exact hopmeshlaw49_awake.mono _)
   | (with_reducible exact install_Acknowledge.mono _ _ _ _ _ _ _ _ _)
   | (with_reducible exact install_Agreed.mono _ _ _ _ _ _ _)
   | (with_reducible exact install_New.mono _ _ _)
   | (with_reducible exact install_Order.mono _ _ _ _ _ _ _ _)
   | (with_reducible exact install_Report.mono _ _ _ _ _ _ _ _ _)
   | (with_reducible exact install_Withdraw.mono _ _ _ _ _ _ _)
   | (with_reducible exact LeO.refl _)
   | (with_reducible exact LeO.none _)
   | (with_reducible refine LeO.ite ?_ ?_)
   | (with_reducible refine LeO.bind ?_ (fun _ => ?_))
   | exact ih0 _ _ _
   | exact ih1 _ _ _ _ _ _ _ _ _ _
   | exact ih2 _ _ _ _ _ _ _ _ _ _ _ _ _ _ _ _ _ _ _ _ _ _ _ _
   | exact ih3 _ _ _ _ _ _ _ _ _ _ _ _ _ _ _ _ _ _ _ _ _ _ _ _
   | exact ih4 _ _ _ _ _ _ _ _ _ _ _ _ _ _ _ _ _
   | exact ih5 _ _ _ _ _ _ _ _ _ _ _ _ _ _ _ _
   | exact hopmeshlaw49_awake.mono _
   | exact install_Acknowledge.mono _ _ _ _ _ _ _ _ _
   | exact install_Agreed.mono _ _ _ _ _ _ _
   | exact install_New.mono _ _ _
   | exact install_Order.mono _ _ _ _ _ _ _ _
   | exact install_Report.mono _ _ _ _ _ _ _ _ _
   | exact install_Withdraw.mono _ _ _ _ _ _ _
   | exact LeO.none _
   | refine LeO.ite ?_ ?_
   | refine LeO.bind ?_ (fun _ => ?_)
theorem hopmeshlaw49_InstallNumbers.mono : ∀ a0 a1 k, LeO (hopmeshlaw49_InstallNumbers.f k a0 a1) (hopmeshlaw49_InstallNumbers.f (k + 1) a0 a1) := by
 intro a0 a1 k
 obtain ⟨ih0, ih1, ih2, ih3, ih4, ih5⟩ := hopmeshlaw49_InstallNumbers.mono_l k
 unfold hopmeshlaw49_InstallNumbers.f
 repeat' first
  | (with_reducible exact ih0 _ _ _)
  | (with_reducible exact ih1 _ _ _ _ _ _ _ _ _ _)
  | (with_reducible exact ih2 _ _ _ _ _ _ _ _ _ _ _ _ _ _ _ _ _ _ _ _ _ _ _ _)
  | (with_reducible exact ih3 _ _ _ _ _ _ _ _ _ _ _ _ _ _ _ _ _ _ _ _ _ _ _ _)
  | (with_reducible exact ih4 _ _ _ _ _ _ _ _ _ _ _ _ _ _ _ _ _)
  | (with_reducible exact ih5 _ _ _ _ _ _ _ _ _ _ _ _ _ _ _ _)
  | (with_reducible exact hopmeshlaw49_awake.mono _)
  | (with_reducible exact install_Acknowledge.mono _ _ _ _ _ _ _ _ _)
  | (with_reducible exact install_Agreed.mono _ _ _ _ _ _ _)
  | (with_reducible exact install_New.mono _ _ _)
  | (with_reducible exact install_Order.mono _ _ _ _ _ _ _ _)
  | (with_reducible exact install_Report.mono _ _ _ _ _ _ _ _ _)
  | (with_reducible exact install_Withdraw.mono _ _ _ _ _ _ _)
  | (with_reducible exact LeO.refl _)
  | (with_reducible exact LeO.none _)
  | (with_reducible refine LeO.ite ?_ ?_)
  | (with_reducible refine LeO.bind ?_ (fun _ => ?_))
  | exact ih0 _ _ _
  | exact ih1 _ _ _ _ _ _ _ _ _ _
  | exact ih2 _ _ _ _ _ _ _ _ _ _ _ _ _ _ _ _ _ _ _ _ _ _ _ _
  | exact ih3 _ _ _ _ _ _ _ _ _ _ _ _ _ _ _ _ _ _ _ _ _ _ _ _
  | exact ih4 _ _ _ _ _ _ _ _ _ _ _ _ _ _ _ _ _
  | exact ih5 _ _ _ _ _ _ _ _ _ _ _ _ _ _ _ _
  | exact hopmeshlaw49_awake.mono _
  | exact install_Acknowledge.mono _ _ _ _ _ _ _ _ _
  | exact install_Agreed.mono _ _ _ _ _ _ _
  | exact install_New.mono _ _ _
  | exact install_Order.mono _ _ _ _ _ _ _ _
  | exact install_Report.mono _ _ _ _ _ _ _ _ _
  | exact install_Withdraw.mono _ _ _ _ _ _ _
  | exact LeO.none _
  | refine LeO.ite ?_ ?_
  | refine LeO.bind ?_ (fun _ => ?_)
def hopmeshlaw49_InstallNumbers.T6 : Bool × List (List Nat × List Nat) := (true, [([], []), ([], []), ([0, 1, 1], [0, 1]), ([2], [2]), ([3], [3]), ([3], [3]), ([4, 2, 0, 1, 2, 3, 4], [4]), ([5, 6, 0, 1, 2, 3, 4, 5, 6], [5])])
def hopmeshlaw49_InstallNumbers.B6 : List Nat := [0, 0, 3, 7, 15, 15, 31, 127]
theorem hopmeshlaw49_InstallNumbers.tab6 : rtab .any (opsOf Try.f9 6) = hopmeshlaw49_InstallNumbers.T6 := by kernel_rfl
theorem hopmeshlaw49_InstallNumbers.bits6 : waitsOk hopmeshlaw49_InstallNumbers.T6.2 hopmeshlaw49_InstallNumbers.B6 = true := by kernel_rfl
set_option maxHeartbeats 8000000 in
set_option maxRecDepth 100000 in
theorem hopmeshlaw49_InstallNumbers.calls (k : Nat) (A0 : Option Addr) (c0 : Nat) (l0 : List Bool) (a1 : Int) (r : Bool) (w : World) (hr0 : Kd.C Kd.bool w A0 l0.length l0) (hc0 : l0.length ≤ c0) (h : hopmeshlaw49_InstallNumbers.f k l0 a1 = some r) :
 Calls Try.prog 9 #[.slice A0 l0.length c0, .int .u8 a1] w fun e w' => e = .returned (.bool r) ∧ Below w.heap.size w w' := by
 have hu50 := Try.underlying50
 have hu36 := Try.underlying36
 have HR0 := Aside0.mk hr0
 have HC0 := Aside0.mk hc0
 clear hr0 hc0
 have HB := Aside0.mk (Below.refl w.heap.size w)
 have H : ((hopmeshlaw49_awake.f k).bind fun t1026 => (if t1026 = true then (hopmeshlaw49_InstallNumbers.j0 k l0 a1 (decide ((l0.length : Int) > 20))) else (hopmeshlaw49_InstallNumbers.j0 k l0 a1 true))) = some r := h
 clear h
 have HC3 := Aside0.mk H
 clear H
 go_enter Try.func9, Try.ntmps9
 go_upto_region 1 with (fail)
 go_cut [19] (fun v19 wc => ∃ (kq : Nat) (x19_2 : Bool), v19 = .bool x19_2 ∧ Aside0 (hopmeshlaw49_InstallNumbers.j0 kq l0 a1 x19_2 = some r) ∧ Aside0 (kq ≤ k) ∧ Aside0 (Below w.heap.size w wc))
 case first =>
  have H := HC3.out
  clear HC3
  replace H := Option.bind_eq_some_iff.mp H
  obtain ⟨t1026, A40, H⟩ := H
  (try dsimp only at H)
  have A4 := Aside0.mk A40
  clear A40
  by_cases c5 : t1026 = true
  ·subst c5
   rw [if_pos rfl] at H
   have H' := Aside0.mk H
   clear H
   go_wp2_with (first | ((with_reducible refine gate_callee (f := 10) rfl ?_); refine goesL_ (some 13) rfl rfl Try.func10 (by kernel_rfl) rfl #[] rfl sma ?_; (with_reducible refine (hopmeshlaw49_awake.calls k  true _ A4.out).mono ?_); rintro e w6 ⟨rfl, hb⟩; refine ⟨_, rfl, ?_⟩; replace HB := hbS HB hb; (try clear hb); (try clear hb2); (try clear hk); (try clear hi)))
   go_meet
   case rel => exact ⟨_, (decide ((l0.length : Int) > 20)), rfs, H', kle, hbA HB⟩
  ·replace c5 := Bool.eq_false_iff.mpr c5
   subst c5
   rw [if_neg (show ¬ (false = true) by decide)] at H
   have H' := Aside0.mk H
   clear H
   go_wp2_with (first | ((with_reducible refine gate_callee (f := 10) rfl ?_); refine goesL_ (some 13) rfl rfl Try.func10 (by kernel_rfl) rfl #[] rfl sma ?_; (with_reducible refine (hopmeshlaw49_awake.calls k  false _ A4.out).mono ?_); rintro e w7 ⟨rfl, hb⟩; refine ⟨_, rfl, ?_⟩; replace HB := hbS HB hb; (try clear hb); (try clear hb2); (try clear hk); (try clear hi)))
   go_meet
   case rel => exact ⟨_, (true), rfs, H', kle, hbA HB⟩
 case rest =>
  clear HC3
  obtain ⟨kq, x19_2, rfl, HA, HJ2, HB⟩ := hcut
  cases kq with
  | zero => exact absurd HA.out (by simp [hopmeshlaw49_InstallNumbers.j0])
  | succ kj2 =>
   have H := HA.out
   clear HA
   simp only [hopmeshlaw49_InstallNumbers.j0] at H
   by_cases c8 : x19_2 = true
   ·subst c8
    rw [if_pos rfl] at H
    replace H := Option.bind_eq_some_iff.mp H
    obtain ⟨t1027, A90, H⟩ := H
    (try dsimp only at H)
    have A9 := Aside0.mk A90
    clear A90
    obtain rfl := Option.some.inj H
    go_wp2_with (first | ((with_reducible refine gate_callee (f := 10) rfl ?_); refine goesL_ (some 20) rfl rfl Try.func10 (by kernel_rfl) rfl #[] rfl sma ?_; (with_reducible refine (hopmeshlaw49_awake.calls kj2  t1027 _ A9.out).mono ?_); rintro e w10 ⟨rfl, hb⟩; refine ⟨_, rfl, ?_⟩; replace HB := hbS HB hb; (try clear hb); (try clear hb2); (try clear hk); (try clear hi)))
    go_ret
    exact ⟨rerr, hbx HB⟩
   ·replace c8 := Bool.eq_false_iff.mpr c8
    subst c8
    rw [if_neg (show ¬ (false = true) by decide)] at H
    replace H := Option.bind_eq_some_iff.mp H
    obtain ⟨t1028, A110, H⟩ := H
    (try dsimp only at H)
    have A11 := Aside0.mk A110
    clear A110
    obtain ⟨y1029, hy1029⟩ : ∃ y_ : List Int, y_ = (([2] : List Int)) := ⟨_, rfl⟩
    replace H : ((install_New.f kj2 t1028 y1029).bind fun bt1032 => (if bt1032.2.2.2.2.2.2 = 0 then ((hopmeshlaw49_id.f (⟨#[120]⟩ : ByteArray)).bind fun t1046 => ((install_Report.f kj2 bt1032.1 bt1032.2.1 bt1032.2.2.1 bt1032.2.2.2.1 bt1032.2.2.2.2.1 bt1032.2.2.2.2.2.1 2 t1046).bind fun bt1047 => (if bt1047.2.2.2.2.2.2 = 0 then (hopmeshlaw49_InstallNumbers.l0 kj2 a1 l0 (l0.length : Int) 0 bt1047.1 bt1047.2.1 bt1047.2.2.1 bt1047.2.2.2.1 bt1047.2.2.2.2.1 bt1047.2.2.2.2.2.1) else (none)))) else (none))) = some r := by first | (rw [hy1029]; with_reducible exact H) | (have H2_ := (Option.bind_some _ _).symm.trans H; rw [hy1029]; with_reducible exact H2_) | (have H2_ := (Option.bind_some _ _).symm.trans H; with_reducible exact H2_) | with_reducible exact H | (rw [hy1029]; exact H) | exact H
    have Ny1029 := Aside0.mk hy1029
    clear hy1029
    replace H := Option.bind_eq_some_iff.mp H
    obtain ⟨⟨t1032, t1033, t1036, t1039, t1042, t1043, t1044⟩, A120, H⟩ := H
    (try dsimp only at H)
    have A12 := Aside0.mk A120
    clear A120
    by_cases c13 : t1044 = 0
    ·rw [if_pos c13] at H
     have c13b0 : (t1044 == 0) = true := beq_iff_eq.mpr c13
     have c13b1 : (t1044 != 0) = false := bne_eq_false_iff_eq.mpr c13
     clear c13
     replace H := Option.bind_eq_some_iff.mp H
     obtain ⟨t1046, A140, H⟩ := H
     (try dsimp only at H)
     have A14 := Aside0.mk A140
     clear A140
     replace H := Option.bind_eq_some_iff.mp H
     obtain ⟨⟨t1047, t1048, t1051, t1054, t1057, t1058, t1059⟩, A150, H⟩ := H
     (try dsimp only at H)
     have A15 := Aside0.mk A150
     clear A150
     by_cases c16 : t1059 = 0
     ·rw [if_pos c16] at H
      have c16b0 : (t1059 == 0) = true := beq_iff_eq.mpr c16
      have c16b1 : (t1059 != 0) = false := bne_eq_false_iff_eq.mpr c16
      clear c16
      have H' := Aside0.mk H
      clear H
      try go_wp2_with (first | ((with_reducible refine gate_callee (f := 11) rfl ?_); refine goesL_ (some 22) rfl rfl Try.func11 (by kernel_rfl) rfl #[.string (⟨#[120]⟩ : ByteArray)] rfl sma ?_; (with_reducible refine (hopmeshlaw49_id.calls (⟨#[120]⟩ : ByteArray) t1028 _ A11.out).mono ?_); rintro e w17 ⟨rfl, hb⟩; refine ⟨_, rfl, ?_⟩; replace HB := hbS HB hb; (try clear hb); (try clear hb2); (try clear hk); (try clear hi)) | ((with_reducible refine gate_dst (N := 23) rfl ?_); (try (refine gate_guard (by rfl) ?_; dsimp only)); refine Kd.R_lit (Kd.int .i64) _ 3 ?hg (N := 23) ?hd (xs := ([2] : List Int)) (inner := [.int .i64 2]) (ok := fun _ => True) (okp := fun _ => True) ?hr ?hp (fun _ hk => hk) trivial (Below.refl _ _) (Nat.le_refl _) (by simp) ?_; (case hd => rfl); (case hg => rfl); (case hr => first | (go_simp; done) | (go_simp; rfl)); (case hp => exact (Reps.one (show Kd.M (Kd.int .i64) _ _ _ 2 [.int .i64 2] from rfl) (Reps.none _ _))); intro v1030 w18 ho19 hb hg_ hnew_; clear hg_ hnew_; (first | rw [← Ny1029.out] at ho19 | (simp only [Int.reduceToNat] at ho19; rw [← Ny1029.out] at ho19)); have HO1031 := Aside0.mk (Kd.R_lower ho19 (below_size (hbx HB))); replace HB := hbS HB hb; clear hb ho19; obtain ⟨Ao20, co20, eo20⟩ := Kd.R_slice HO1031.out; subst eo20) | ((with_reducible refine gate_callee (f := 18) rfl ?_); refine goesL_ (some 24) rfl rfl Try.func18 (by kernel_rfl) rfl #[.string t1028, .slice Ao20 y1029.length co20] rfl sma ?_; (with_reducible refine (install_New.calls kj2 t1028 _ _ y1029 t1032 t1033 t1036 t1039 t1042 t1043 t1044 _ ?side1 ?side2 A12.out).mono ?_); (case side1 => repeat (first | exact (Kd.R_reads' HO1031.out).2.2 | (with_reducible refine Kd.C_alloc ?_ _) | (with_reducible refine Kd.C_drewN ?_ _) | (with_reducible refine Kd.C_drew ?_))); (case side2 => exact (Kd.R_reads' HO1031.out).2.1); rintro e w21 ⟨v1034, v1037, v1040, rfl, ho0, ho1, ho2, hb⟩; refine ⟨_, rfl, ?_⟩; have HO1035 := Aside0.mk (Kd.R_lower (Kd.R_new' ho0 (Kd.R_lt (ro HO1031))) (below_size (hbx HB))); replace HO1031 := Aside0.mk (Kd.R_elder' (ro HO1031) (Kd.R_base ho0) hb); have HO1038 := Aside0.mk (Kd.R_lower ho1 (below_size (hbx HB))); have HO1041 := Aside0.mk (Kd.R_lower ho2 (below_size (hbx HB))); replace HB := hbS HB hb; (try clear hb); (try clear hb2); (try clear hk); (try clear hi); (try clear ho0); (try clear ho1); (try clear ho2)) | ((with_reducible refine gate_dst (N := 5) rfl ?_); (try (refine gate_guard (by rfl) ?_; dsimp only)); refine boxE 5 #[.string (⟨#[]⟩ : ByteArray), .slice none 0 0, .slice none 0 0, .slice none 0 0, .int .i64 0, .int .i64 0] 50 ?_; intro gb1045 hg w22 hbox hb; replace HO1031 := rB HO1031 hb; replace HO1035 := rB HO1035 hb; replace HO1038 := rB HO1038 hb; replace HO1041 := rB HO1041 hb; have BK1045 := Aside0.mk (hbox); have GW1045 := gw hg HB; have GE1045 := gw hg HB; replace HB := hbS HB hb; clear hb hbox hg; obtain ⟨z0, z1, z2, z3, z4, z5, y0, y1, y2, y3, y4, y5⟩ := bc6 BK1045; obtain ⟨Ao24, co24, eo24⟩ := Kd.R_slice HO1035.out; subst eo24; obtain ⟨Ao25, co25, eo25⟩ := Kd.R_slice HO1038.out; subst eo25; obtain ⟨Ao26, co26, eo26⟩ := Kd.R_slice HO1041.out; subst eo26))
      have n0_ : Aside0 (Kd.R (Kd.int .i64) 3 ((((((w22.setCell ⟨gb1045, 0, none⟩ (.string t1032)).setCell ⟨gb1045, 1, none⟩ (.slice Ao24 t1033.length co24)).setCell ⟨gb1045, 2, none⟩ (.slice Ao25 t1036.length co25)).setCell ⟨gb1045, 3, none⟩ (.slice Ao26 t1039.length co26)).setCell ⟨gb1045, 4, none⟩ (.int .i64 t1042)).setCell ⟨gb1045, 5, none⟩ (.int .i64 t1043)) w.heap.size (fun k_ => some k_ ≠ (.slice Ao24 t1033.length co24 : Value).ownBlock) (.slice Ao20 y1029.length co20) y1029) := ⟨Kd.R_mono (rty (rfo HO1031) BK1045) (fun _ hk => hk.1.2)⟩
      have n1_ : Aside0 (Kd.R (Kd.int .i64) 3 ((((((w22.setCell ⟨gb1045, 0, none⟩ (.string t1032)).setCell ⟨gb1045, 1, none⟩ (.slice Ao24 t1033.length co24)).setCell ⟨gb1045, 2, none⟩ (.slice Ao25 t1036.length co25)).setCell ⟨gb1045, 3, none⟩ (.slice Ao26 t1039.length co26)).setCell ⟨gb1045, 4, none⟩ (.int .i64 t1042)).setCell ⟨gb1045, 5, none⟩ (.int .i64 t1043)) w.heap.size (fun k_ => some k_ ≠ (.slice Ao20 y1029.length co20 : Value).ownBlock) (.slice Ao24 t1033.length co24) t1033) := ⟨Kd.R_mono (rty (rfo HO1035) BK1045) (fun _ hk => hk.1.2)⟩
      have n2_ : Aside0 (Kd.R Kd.bool 4 ((((((w22.setCell ⟨gb1045, 0, none⟩ (.string t1032)).setCell ⟨gb1045, 1, none⟩ (.slice Ao24 t1033.length co24)).setCell ⟨gb1045, 2, none⟩ (.slice Ao25 t1036.length co25)).setCell ⟨gb1045, 3, none⟩ (.slice Ao26 t1039.length co26)).setCell ⟨gb1045, 4, none⟩ (.int .i64 t1042)).setCell ⟨gb1045, 5, none⟩ (.int .i64 t1043)) w.heap.size (fun k_ => some k_ ≠ (.slice Ao26 t1039.length co26 : Value).ownBlock) (.slice Ao25 t1036.length co25) t1036) := rfA HO1038
      have n3_ : Aside0 (Kd.R Kd.bool 4 ((((((w22.setCell ⟨gb1045, 0, none⟩ (.string t1032)).setCell ⟨gb1045, 1, none⟩ (.slice Ao24 t1033.length co24)).setCell ⟨gb1045, 2, none⟩ (.slice Ao25 t1036.length co25)).setCell ⟨gb1045, 3, none⟩ (.slice Ao26 t1039.length co26)).setCell ⟨gb1045, 4, none⟩ (.int .i64 t1042)).setCell ⟨gb1045, 5, none⟩ (.int .i64 t1043)) w.heap.size (fun k_ => some k_ ≠ (.slice Ao25 t1036.length co25 : Value).ownBlock) (.slice Ao26 t1039.length co26) t1039) := rfA HO1041
      have n4_ : Aside0 (((((((w22.setCell ⟨gb1045, 0, none⟩ (.string t1032)).setCell ⟨gb1045, 1, none⟩ (.slice Ao24 t1033.length co24)).setCell ⟨gb1045, 2, none⟩ (.slice Ao25 t1036.length co25)).setCell ⟨gb1045, 3, none⟩ (.slice Ao26 t1039.length co26)).setCell ⟨gb1045, 4, none⟩ (.int .i64 t1042)).setCell ⟨gb1045, 5, none⟩ (.int .i64 t1043)).heap[gb1045]? = some (.cells #[.string t1032, .slice Ao24 t1033.length co24, .slice Ao25 t1036.length co25, .slice Ao26 t1039.length co26, .int .i64 t1042, .int .i64 t1043] 50 (0, 0))) := bkpA BK1045
      have n5_ : Aside0 (Below w.heap.size w ((((((w22.setCell ⟨gb1045, 0, none⟩ (.string t1032)).setCell ⟨gb1045, 1, none⟩ (.slice Ao24 t1033.length co24)).setCell ⟨gb1045, 2, none⟩ (.slice Ao25 t1036.length co25)).setCell ⟨gb1045, 3, none⟩ (.slice Ao26 t1039.length co26)).setCell ⟨gb1045, 4, none⟩ (.int .i64 t1042)).setCell ⟨gb1045, 5, none⟩ (.int .i64 t1043))) := hbA HB
      (try clear HO1031)
      (try clear HO1035)
      (try clear HO1038)
      (try clear HO1041)
      (try clear BK1045)
      (try clear HB)
      generalize ((((((w22.setCell ⟨gb1045, 0, none⟩ (.string t1032)).setCell ⟨gb1045, 1, none⟩ (.slice Ao24 t1033.length co24)).setCell ⟨gb1045, 2, none⟩ (.slice Ao25 t1036.length co25)).setCell ⟨gb1045, 3, none⟩ (.slice Ao26 t1039.length co26)).setCell ⟨gb1045, 4, none⟩ (.int .i64 t1042)).setCell ⟨gb1045, 5, none⟩ (.int .i64 t1043)) = w27 at n0_ n1_ n2_ n3_ n4_ n5_ ⊢
      have HO1031 := n0_
      have HO1035 := n1_
      have HO1038 := n2_
      have HO1041 := n3_
      have BK1045 := n4_
      have HB := n5_
      clear n0_ n1_ n2_ n3_ n4_ n5_
      replace HO1031 := Aside0.mk (Kd.R_drew HO1031.out)
      replace HO1035 := Aside0.mk (Kd.R_drew HO1035.out)
      replace HO1038 := Aside0.mk (Kd.R_drew HO1038.out)
      replace HO1041 := Aside0.mk (Kd.R_drew HO1041.out)
      replace BK1045 := Aside0.mk (blk_drew BK1045.out)
      replace HB := Aside0.mk (below_drew1 HB.out)
      refine start_ (n := 8) (S := fun w' => w'.cell? ⟨gb1045, 0, none⟩ = some (.string t1032) ∧ w'.cell? ⟨gb1045, 1, none⟩ = some (.slice Ao24 t1033.length co24) ∧ w'.cell? ⟨gb1045, 2, none⟩ = some (.slice Ao25 t1036.length co25) ∧ w'.cell? ⟨gb1045, 3, none⟩ = some (.slice Ao26 t1039.length co26) ∧ w'.cell? ⟨gb1045, 4, none⟩ = some (.int .i64 t1042) ∧ w'.cell? ⟨gb1045, 5, none⟩ = some (.int .i64 t1043)) (ds := [6]) #[false, false, false, false, false, false, false, false] (by kernel_rfl) rfl rfl ⟨(blk_cell BK1045.out 0).trans rfl, (blk_cell BK1045.out 1).trans rfl, (blk_cell BK1045.out 2).trans rfl, (blk_cell BK1045.out 3).trans rfl, (blk_cell BK1045.out 4).trans rfl, (blk_cell BK1045.out 5).trans rfl⟩ (fun hHeld => ?_); refine with_tabW hopmeshlaw49_InstallNumbers.tab6 hopmeshlaw49_InstallNumbers.bits6 (fun HT_ HW_ => ?_)
      generalize w27.drew = w28 at HO1031 HO1035 HO1038 HO1041 BK1045 HB hHeld ⊢
      refine tak 0 (some 30) #[true, false, false, false, false, false, false, false] HT_ HW_ hHeld rfl (Or.inl ⟨by rfl, by rintro w' ⟨s0, s1, s2, s3, s4, s5⟩; go_simp; with_reducible rfl⟩) ?_
      refine one_ (i := 1) (N := some 31) #[true, true, false, false, false, false, false, false] rfl rfl (one_of HT_.out (by kernel_rfl)) (by decide) (fun K hK => ?_)
      refine goes_ Try.func11 (by kernel_rfl) rfl #[.string (⟨#[120]⟩ : ByteArray)] (by rfl) rfl rfl sma ?_
      with_reducible refine (hopmeshlaw49_id.calls (⟨#[120]⟩ : ByteArray) t1046 _ A14.out).mono ?_
      rintro e w29 ⟨rfl, hb⟩
      refine ⟨_, rfl, ?_⟩
      replace HO1031 := rB HO1031 hb
      replace HO1035 := rB HO1035 hb
      replace HO1038 := rB HO1038 hb
      replace HO1041 := rB HO1041 hb
      replace BK1045 := bkB BK1045 hb
      replace HB := hbS HB hb
      (try clear hb)
      (try clear hb2)
      (try clear hk)
      (try clear hi)
      refine hK.out _ _ ⟨(blk_cell BK1045.out 0).trans rfl, (blk_cell BK1045.out 1).trans rfl, (blk_cell BK1045.out 2).trans rfl, (blk_cell BK1045.out 3).trans rfl, (blk_cell BK1045.out 4).trans rfl, (blk_cell BK1045.out 5).trans rfl⟩ (fun hHeld => ?_)
      clear hK K
      refine nrm (some 31) ?_
      refine one_ (i := 2) (N := some 32) #[true, true, true, false, false, false, false, false] rfl rfl (one_of HT_.out (by kernel_rfl)) (by decide) (fun K hK => ?_)
      refine goes_ Try.func19 (by kernel_rfl) rfl #[.agg #[.string t1032, .slice Ao24 t1033.length co24, .slice Ao25 t1036.length co25, .slice Ao26 t1039.length co26, .int .i64 t1042, .int .i64 t1043], .int .i64 2, .string t1046] (by rfl) rfl rfl sma ?_
      with_reducible refine (install_Report.calls kj2 t1032 _ _ t1033 _ _ t1036 _ _ t1039 t1042 t1043 2 t1046 t1047 t1048 t1051 t1054 t1057 t1058 t1059 _ ?side1 ?side2 ?side3 ?side4 ?side5 ?side6 A15.out).mono ?_
      (case side1 => repeat (first | exact (Kd.R_reads' HO1035.out).2.2 | (with_reducible refine Kd.C_alloc ?_ _) | (with_reducible refine Kd.C_drewN ?_ _) | (with_reducible refine Kd.C_drew ?_)))
      (case side2 => exact (Kd.R_reads' HO1035.out).2.1)
      (case side3 => repeat (first | exact (Kd.R_reads' HO1038.out).2.2 | (with_reducible refine Kd.C_alloc ?_ _) | (with_reducible refine Kd.C_drewN ?_ _) | (with_reducible refine Kd.C_drew ?_)))
      (case side4 => exact (Kd.R_reads' HO1038.out).2.1)
      (case side5 => repeat (first | exact (Kd.R_reads' HO1041.out).2.2 | (with_reducible refine Kd.C_alloc ?_ _) | (with_reducible refine Kd.C_drewN ?_ _) | (with_reducible refine Kd.C_drew ?_)))
      (case side6 => exact (Kd.R_reads' HO1041.out).2.1)
      rintro e w30 ⟨v1049, v1052, v1055, rfl, ho0, ho1, ho2, hb⟩
      refine ⟨_, rfl, ?_⟩
      have HO1050 := Aside0.mk (Kd.R_lower (Kd.R_new' (Kd.R_new' ho0 (Kd.R_lt (ro HO1031))) (Kd.R_lt (ro HO1035))) (below_size (hbx HB)))
      replace HO1031 := Aside0.mk (Kd.R_elder' (ro HO1031) (Kd.R_base ho0) hb)
      replace HO1035 := Aside0.mk (Kd.R_elder' (ro HO1035) (Kd.R_base ho0) hb)
      have HO1053 := Aside0.mk (Kd.R_lower (Kd.R_new' (Kd.R_new' ho1 (Kd.R_lt (ro HO1038))) (Kd.R_lt (ro HO1041))) (below_size (hbx HB)))
      have HO1056 := Aside0.mk (Kd.R_lower (Kd.R_new' (Kd.R_new' ho2 (Kd.R_lt (ro HO1038))) (Kd.R_lt (ro HO1041))) (below_size (hbx HB)))
      replace HO1038 := Aside0.mk (Kd.R_mono (Kd.R_told (Kd.R_told (Kd.R_old (ro HO1038) hb) (Kd.R_base ho1)) (Kd.R_base ho2)) (fun _ h_ => h_.1))
      replace HO1041 := Aside0.mk (Kd.R_mono (Kd.R_told (Kd.R_told (Kd.R_old (ro HO1041) hb) (Kd.R_base ho1)) (Kd.R_base ho2)) (fun _ h_ => h_.1))
      replace BK1045 := bkB BK1045 hb
      replace HB := hbS HB hb
      (try clear hb)
      (try clear hb2)
      (try clear hk)
      (try clear hi)
      (try clear ho0)
      (try clear ho1)
      (try clear ho2)
      obtain ⟨Ao32, co32, eo32⟩ := Kd.R_slice HO1050.out
      (first | subst eo32 | (injection eo32 with f1_ f2_ f3_; have f4_ := f1_.symm; have f5_ := f3_.symm; clear f1_ f2_ f3_; subst f4_; subst f5_))
      obtain ⟨Ao34, co34, eo34⟩ := Kd.R_slice HO1053.out
      (first | subst eo34 | (injection eo34 with f1_ f2_ f3_; have f4_ := f1_.symm; have f5_ := f3_.symm; clear f1_ f2_ f3_; subst f4_; subst f5_))
      obtain ⟨Ao36, co36, eo36⟩ := Kd.R_slice HO1056.out
      (first | subst eo36 | (injection eo36 with f1_ f2_ f3_; have f4_ := f1_.symm; have f5_ := f3_.symm; clear f1_ f2_ f3_; subst f4_; subst f5_))
      refine hK.out _ _ ⟨(blk_cell BK1045.out 0).trans rfl, (blk_cell BK1045.out 1).trans rfl, (blk_cell BK1045.out 2).trans rfl, (blk_cell BK1045.out 3).trans rfl, (blk_cell BK1045.out 4).trans rfl, (blk_cell BK1045.out 5).trans rfl⟩ (fun hHeld => ?_)
      clear hK K
      refine nrm (some 32) ?_
      refine pur 3 (some 29) #[true, true, true, true, false, false, false, false] HT_ ?_
      refine pur 4 (some 33) #[true, true, true, true, true, false, false, false] HT_ ?_
      refine pur 5 (some 34) #[true, true, true, true, true, true, false, false] HT_ ?_
      refine last_ (i := 6) (N := none) #[true, true, true, true, true, true, true, false] rfl rfl (one_of HT_.out (by kernel_rfl)) (by decide) (fun K hK => ?_)
      have hs31 : w30.cell? ⟨gb1045, 0, none⟩ = some (.string t1032) := (blk_cell BK1045.out 0).trans rfl
      have hfs31 := blk_frozen BK1045.out 0
      have hs33 : w30.cell? ⟨gb1045, 1, none⟩ = some (.slice Ao24 t1033.length co24) := (blk_cell BK1045.out 1).trans rfl
      have hfs33 := blk_frozen BK1045.out 1
      have hs35 : w30.cell? ⟨gb1045, 2, none⟩ = some (.slice Ao25 t1036.length co25) := (blk_cell BK1045.out 2).trans rfl
      have hfs35 := blk_frozen BK1045.out 2
      have hs37 : w30.cell? ⟨gb1045, 3, none⟩ = some (.slice Ao26 t1039.length co26) := (blk_cell BK1045.out 3).trans rfl
      have hfs37 := blk_frozen BK1045.out 3
      have hs38 : w30.cell? ⟨gb1045, 4, none⟩ = some (.int .i64 t1042) := (blk_cell BK1045.out 4).trans rfl
      have hfs38 := blk_frozen BK1045.out 4
      have hs39 : w30.cell? ⟨gb1045, 5, none⟩ = some (.int .i64 t1043) := (blk_cell BK1045.out 5).trans rfl
      have hfs39 := blk_frozen BK1045.out 5
      refine skip_ (w1 := ?_) (by rfl) rfl ?_ ?_
      rotate_left
      ·go_simp
       rfl
      refine hK.out _ _ ?_
      clear hK K
      refine pur 7 (some 6) #[true, true, true, true, true, true, true, true] HT_ ?_
      refine done_ (done_of HT_.out (by kernel_rfl)) ?_
      try go_wp2
      go_loopg [39] kj2 (fun kq v39 w' => ∃ (x39_2 : Int) (x1046000_2 : ByteArray) (x1046001_2 : List Int) (x1046002_2 : List Bool) (x1046003_2 : List Bool) (x1046004_2 : Int) (x1046005_2 : Int) (u1046001 : Value) (u1046002 : Value) (u1046003 : Value), v39 = .int .i64 x39_2 ∧ Aside0 (hopmeshlaw49_InstallNumbers.l0 kq a1 l0 (l0.length : Int) x39_2 x1046000_2 x1046001_2 x1046002_2 x1046003_2 x1046004_2 x1046005_2 = some r) ∧ Aside0 (kq ≤ kj2) ∧ Aside0 (Kd.R (Kd.int .i64) 3 w' w.heap.size (fun _ => True) u1046001 x1046001_2) ∧ Aside0 (Kd.R Kd.bool 4 w' w.heap.size (fun k_ => some k_ ≠ (u1046003 : Value).ownBlock) u1046002 x1046002_2) ∧ Aside0 (Kd.R Kd.bool 4 w' w.heap.size (fun k_ => some k_ ≠ (u1046002 : Value).ownBlock) u1046003 x1046003_2) ∧ Aside0 (w'.heap[gb1045]? = some (.cells #[.string x1046000_2, u1046001, u1046002, u1046003, .int .i64 x1046004_2, .int .i64 x1046005_2] 50 (0, 0))) ∧ Aside0 (Below w.heap.size w w'))
      case atStart => exact ⟨(0), (t1047), (t1048), (t1051), (t1054), (t1057), (t1058), (.slice Ao32 t1048.length co32), (.slice Ao34 t1051.length co34), (.slice Ao36 t1054.length co36), rfs, H', ⟨Nat.le_refl _⟩, ⟨Kd.R_mono (rty (rfo HO1050) BK1045) (fun _ hk => trivial)⟩, ⟨Kd.R_mono (rty (rfo HO1053) BK1045) (fun _ hk => hk.1.1.1)⟩, ⟨Kd.R_mono (rty (rfo HO1056) BK1045) (fun _ hk => hk.1.1.1)⟩, bkpA BK1045, hbA HB⟩
      case round =>
       clear H'
       try clear c8
       try clear c13
       try clear c13b0
       try clear c13b1
       try clear c16
       try clear c16b0
       try clear c16b1
       try clear hcz23_0
       try clear hcz23_1
       try clear hcz23_2
       try clear hcz23_3
       try clear hcz23_4
       try clear hcz23_5
       try clear hfz23_0
       try clear hfz23_1
       try clear hfz23_2
       try clear hfz23_3
       try clear hfz23_4
       try clear hfz23_5
       obtain ⟨x39_2, x1046000_2, x1046001_2, x1046002_2, x1046003_2, x1046004_2, x1046005_2, u1046001, u1046002, u1046003, rfl, HA, HK2, HO_1046001, HO_1046002, HO_1046003, BK1045, HB⟩ := hrel
       cases gk with
       | zero => exact absurd HA.out (by simp [hopmeshlaw49_InstallNumbers.l0])
       | succ k2 =>
        have H := HA.out
        clear HA
        simp only [hopmeshlaw49_InstallNumbers.l0] at H
        by_cases c40 : x39_2 < (l0.length : Int)
        ·rw [if_pos c40] at H
         have c40b0 : decide (x39_2 < (l0.length : Int)) = true := decide_eq_true c40
         clear c40
         by_cases c41 : 0 ≤ x39_2
         ·rw [if_pos c41] at H
          have c41b0 : decide (0 ≤ x39_2) = true := decide_eq_true c41
          clear c41
          by_cases c42 : x39_2 < (l0.length : Int)
          ·rw [if_pos c42] at H
           have c42b0 : decide (x39_2 < (l0.length : Int)) = true := decide_eq_true c42
           clear c42
           obtain ⟨bw, hbw⟩ : ∃ b_ : Bool, rdOf false l0 x39_2 = b_ := ⟨_, rfl⟩
           rw [hbw] at H
           have HC43 := Aside0.mk H
           clear H
           have p1060 : 0 ≤ (x39_2 : Int) := pos_
           have q1060 : x39_2 < (l0.length : Int) := pos_
           obtain ⟨ad1060, e1060, hx1060_0⟩ := Kd.at_bool HR0.out x39_2 p1060 q1060
           cases e1060
           replace hx1060_0 := (HB.out.cell (World.block_lt_of_cell? w _ hx1060_0)).trans hx1060_0
           rw [hbw] at hx1060_0
           clear hbw
           replace p1060 := eq_true p1060
           replace q1060 := eq_true q1060
           go_upto_if 47 with (first | ((with_reducible refine gate_dst (N := 9) rfl ?_); (try (refine gate_guard (by rfl) ?_; dsimp only)); refine boxE 9 #[.int .i64 0, .int .i64 0, .int .i64 0, .string (⟨#[]⟩ : ByteArray), .slice none 0 0] 36 ?_; intro gb1061 hg w44 hbox hb; replace HO_1046001 := rB HO_1046001 hb; replace HO_1046002 := rB HO_1046002 hb; replace HO_1046003 := rB HO_1046003 hb; have BK1061 := Aside0.mk (hbox); have GW1061 := gw hg HB; have GE1061 := gw hg HB; replace HB := hbS HB hb; have NB1045_1061 := nbl hg BK1045; have NB1061_1045 := nbg hg BK1045; replace BK1045 := bkB BK1045 hb; clear hb hbox hg; have hnb45 := NB1045_1061.out; have hnc45 := NB1061_1045.out; obtain ⟨z0, z1, z2, z3, z4, z5, y0, y1, y2, y3, y4, y5⟩ := bc6 BK1045) | ((with_reducible refine gate_dst (N := 11) rfl ?_); (try (refine gate_guard (by rfl) ?_; dsimp only)); refine boxE 11 #[.string (⟨#[]⟩ : ByteArray), .slice none 0 0, .slice none 0 0, .slice none 0 0, .int .i64 0, .int .i64 0] 50 ?_; intro gb1062 hg w47 hbox hb; replace HO_1046001 := rB HO_1046001 hb; replace HO_1046002 := rB HO_1046002 hb; replace HO_1046003 := rB HO_1046003 hb; have BK1062 := Aside0.mk (hbox); have GW1062 := gw hg HB; have GE1062 := gw hg HB; replace HB := hbS HB hb; have NB1045_1062 := nbl hg BK1045; have NB1062_1045 := nbg hg BK1045; replace BK1045 := bkB BK1045 hb; have NB1061_1062 := nbl hg BK1061; have NB1062_1061 := nbg hg BK1061; replace BK1061 := bkB BK1061 hb; clear hb hbox hg; have hnb48 := NB1062_1045.out; have hnc48 := NB1045_1062.out; have hnb49 := NB1062_1061.out; have hnc49 := NB1061_1062.out; obtain ⟨z0, z1, z2, z3, z4, z5, y0, y1, y2, y3, y4, y5⟩ := bc6 BK1062; obtain ⟨Ao51, co51, eo51⟩ := Kd.R_slice HO_1046001.out; subst eo51; obtain ⟨Ao52, co52, eo52⟩ := Kd.R_slice HO_1046002.out; subst eo52; obtain ⟨Ao53, co53, eo53⟩ := Kd.R_slice HO_1046003.out; subst eo53))
           (try simp only [Act.put, List.setIfInBounds_toArray, List.set_cons_zero, List.set_cons_succ])
           go_cut [6] (fun v6 wc => ∃ (kq : Nat) (x6_42 : Int) (x1062000_42 : Int) (x1062001_42 : Int) (x1062002_42 : Int) (x1062003_42 : ByteArray) (x1062004_42 : List Int) (x1063000_42 : ByteArray) (x1063001_42 : List Int) (x1063002_42 : List Bool) (x1063003_42 : List Bool) (x1063004_42 : Int) (x1063005_42 : Int) (u1062004 : Value) (u1063001 : Value) (u1063002 : Value) (u1063003 : Value), v6 = .int .i64 x6_42 ∧ Aside0 (hopmeshlaw49_InstallNumbers.j2 kq a1 x6_42 bw x1046005_2 l0 (l0.length : Int) x39_2 x1046000_2 x1046001_2 x1046002_2 x1046003_2 x1046004_2 x1046005_2 x1062000_42 x1062001_42 x1062002_42 x1062003_42 x1062004_42 x1063000_42 x1063001_42 x1063002_42 x1063003_42 x1063004_42 x1063005_42 = some r) ∧ Aside0 (kq ≤ k2) ∧ Aside0 (Kd.R (Kd.int .i64) 3 wc w.heap.size (fun k_ => some k_ ≠ (u1062004 : Value).ownBlock) (.slice Ao51 x1046001_2.length co51) x1046001_2) ∧ Aside0 (Kd.R Kd.bool 4 wc w.heap.size (fun k_ => some k_ ≠ ((.slice Ao53 x1046003_2.length co53) : Value).ownBlock ∧ some k_ ≠ (u1063003 : Value).ownBlock) (.slice Ao52 x1046002_2.length co52) x1046002_2) ∧ Aside0 (Kd.R Kd.bool 4 wc w.heap.size (fun k_ => some k_ ≠ ((.slice Ao52 x1046002_2.length co52) : Value).ownBlock ∧ some k_ ≠ (u1063002 : Value).ownBlock) (.slice Ao53 x1046003_2.length co53) x1046003_2) ∧ Aside0 (Kd.R (Kd.int .i64) 3 wc w.heap.size (fun k_ => some k_ ≠ ((.slice Ao51 x1046001_2.length co51) : Value).ownBlock ∧ some k_ ≠ (u1063001 : Value).ownBlock) u1062004 x1062004_42) ∧ Aside0 (Kd.R (Kd.int .i64) 3 wc w.heap.size (fun k_ => some k_ ≠ (u1062004 : Value).ownBlock) u1063001 x1063001_42) ∧ Aside0 (Kd.R Kd.bool 4 wc w.heap.size (fun k_ => some k_ ≠ ((.slice Ao53 x1046003_2.length co53) : Value).ownBlock ∧ some k_ ≠ (u1063003 : Value).ownBlock) u1063002 x1063002_42) ∧ Aside0 (Kd.R Kd.bool 4 wc w.heap.size (fun k_ => some k_ ≠ ((.slice Ao52 x1046002_2.length co52) : Value).ownBlock ∧ some k_ ≠ (u1063002 : Value).ownBlock) u1063003 x1063003_42) ∧ Aside0 (wc.heap[gb1045]? = some (.cells #[.string x1046000_2, (.slice Ao51 x1046001_2.length co51), (.slice Ao52 x1046002_2.length co52), (.slice Ao53 x1046003_2.length co53), .int .i64 x1046004_2, .int .i64 x1046005_2] 50 (0, 0))) ∧ Aside0 (wc.heap[gb1061]? = some (.cells #[.int .i64 x1062000_42, .int .i64 x1062001_42, .int .i64 x1062002_42, .string x1062003_42, u1062004] 36 (0, 0))) ∧ Aside0 (wc.heap[gb1062]? = some (.cells #[.string x1063000_42, u1063001, u1063002, u1063003, .int .i64 x1063004_42, .int .i64 x1063005_42] 50 (0, 0))) ∧ Aside0 (Below w.heap.size w wc))
           case first =>
            have H := HC43.out
            clear HC43
            by_cases c55 : bw = true
            ·subst c55
             rw [if_pos rfl] at H
             replace H := Option.bind_eq_some_iff.mp H
             obtain ⟨⟨t1063, t1064, t1067, t1070, t1073, t1074, t1075, t1076, t1077, t1078, t1079, t1082⟩, A560, H⟩ := H
             (try dsimp only at H)
             have A56 := Aside0.mk A560
             clear A560
             have H' := Aside0.mk H
             clear H
             have hnb57 := NB1045_1061.out
             have hnc57 := NB1061_1045.out
             have hnb58 := NB1045_1062.out
             have hnc58 := NB1062_1045.out
             obtain ⟨z0, z1, z2, z3, z4, z5, y0, y1, y2, y3, y4, y5⟩ := bc6 BK1045
             go_wp2_with (first | ((with_reducible refine gate_callee (f := 39) rfl ?_); refine goesL_ (some 50) rfl rfl Try.func39 (by kernel_rfl) rfl #[.agg #[.string x1046000_2, .slice Ao51 x1046001_2.length co51, .slice Ao52 x1046002_2.length co52, .slice Ao53 x1046003_2.length co53, .int .i64 x1046004_2, .int .i64 x1046005_2]] rfl sma ?_; (with_reducible refine (install_Withdraw.calls k2 x1046000_2 _ _ x1046001_2 _ _ x1046002_2 _ _ x1046003_2 x1046004_2 x1046005_2 t1063 t1064 t1067 t1070 t1073 t1074 t1075 t1076 t1077 t1078 t1079 t1082 _ ?side1 ?side2 ?side3 ?side4 ?side5 ?side6 A56.out).mono ?_); (case side1 => refine (Kd.R_reads' (e := 3) (base := w.heap.size) (ok := fun k_ => True) (n := x1046001_2.length) (c := co51) ?_).2.2; exact (rx (Kd.R_mono (Kd.R_far (p := ⟨gb1062, 5, none⟩) (Kd.R_far (p := ⟨gb1062, 4, none⟩) (Kd.R_far (p := ⟨gb1062, 3, none⟩) (Kd.R_far (p := ⟨gb1062, 2, none⟩) (Kd.R_far (p := ⟨gb1062, 1, none⟩) (Kd.R_far (p := ⟨gb1062, 0, none⟩) (Kd.R_types HO_1046001.out BK1062.out (by decide)) (fun _ hk => hk.2) (.string x1046000_2)) (fun _ hk => hk.2) (.slice Ao51 x1046001_2.length co51)) (fun _ hk => hk.2) (.slice Ao52 x1046002_2.length co52)) (fun _ hk => hk.2) (.slice Ao53 x1046003_2.length co53)) (fun _ hk => hk.2) (.int .i64 x1046004_2)) (fun _ hk => hk.2) (.int .i64 x1046005_2)) (fun _ h_ => h_.1)))); (case side2 => exact (Kd.R_reads' HO_1046001.out).2.1); (case side3 => refine (Kd.R_reads' (e := 4) (base := w.heap.size) (ok := fun k_ => some k_ ≠ (.slice Ao53 x1046003_2.length co53 : Value).ownBlock) (n := x1046002_2.length) (c := co52) ?_).2.2; exact (rx (Kd.R_mono (Kd.R_far (p := ⟨gb1062, 5, none⟩) (Kd.R_far (p := ⟨gb1062, 4, none⟩) (Kd.R_far (p := ⟨gb1062, 3, none⟩) (Kd.R_far (p := ⟨gb1062, 2, none⟩) (Kd.R_far (p := ⟨gb1062, 1, none⟩) (Kd.R_far (p := ⟨gb1062, 0, none⟩) (Kd.R_types HO_1046002.out BK1062.out (by decide)) (fun _ hk => hk.2) (.string x1046000_2)) (fun _ hk => hk.2) (.slice Ao51 x1046001_2.length co51)) (fun _ hk => hk.2) (.slice Ao52 x1046002_2.length co52)) (fun _ hk => hk.2) (.slice Ao53 x1046003_2.length co53)) (fun _ hk => hk.2) (.int .i64 x1046004_2)) (fun _ hk => hk.2) (.int .i64 x1046005_2)) (fun _ h_ => h_.1)))); (case side4 => exact (Kd.R_reads' HO_1046002.out).2.1); (case side5 => refine (Kd.R_reads' (e := 4) (base := w.heap.size) (ok := fun k_ => some k_ ≠ (.slice Ao52 x1046002_2.length co52 : Value).ownBlock) (n := x1046003_2.length) (c := co53) ?_).2.2; exact (rx (Kd.R_mono (Kd.R_far (p := ⟨gb1062, 5, none⟩) (Kd.R_far (p := ⟨gb1062, 4, none⟩) (Kd.R_far (p := ⟨gb1062, 3, none⟩) (Kd.R_far (p := ⟨gb1062, 2, none⟩) (Kd.R_far (p := ⟨gb1062, 1, none⟩) (Kd.R_far (p := ⟨gb1062, 0, none⟩) (Kd.R_types HO_1046003.out BK1062.out (by decide)) (fun _ hk => hk.2) (.string x1046000_2)) (fun _ hk => hk.2) (.slice Ao51 x1046001_2.length co51)) (fun _ hk => hk.2) (.slice Ao52 x1046002_2.length co52)) (fun _ hk => hk.2) (.slice Ao53 x1046003_2.length co53)) (fun _ hk => hk.2) (.int .i64 x1046004_2)) (fun _ hk => hk.2) (.int .i64 x1046005_2)) (fun _ h_ => h_.1)))); (case side6 => exact (Kd.R_reads' HO_1046003.out).2.1); rintro e w60 ⟨v1065, v1068, v1071, v1080, rfl, ho0, ho1, ho2, ho3, hb⟩; refine ⟨_, rfl, ?_⟩; have HO1066 := Aside0.mk (Kd.R_lower (Kd.R_new' ho0 (Kd.R_lt (rx (Kd.R_mono (Kd.R_far (p := ⟨gb1062, 5, none⟩) (Kd.R_far (p := ⟨gb1062, 4, none⟩) (Kd.R_far (p := ⟨gb1062, 3, none⟩) (Kd.R_far (p := ⟨gb1062, 2, none⟩) (Kd.R_far (p := ⟨gb1062, 1, none⟩) (Kd.R_far (p := ⟨gb1062, 0, none⟩) (Kd.R_types HO_1046001.out BK1062.out (by decide)) (fun _ hk => hk.2) (.string x1046000_2)) (fun _ hk => hk.2) (.slice Ao51 x1046001_2.length co51)) (fun _ hk => hk.2) (.slice Ao52 x1046002_2.length co52)) (fun _ hk => hk.2) (.slice Ao53 x1046003_2.length co53)) (fun _ hk => hk.2) (.int .i64 x1046004_2)) (fun _ hk => hk.2) (.int .i64 x1046005_2)) (fun _ h_ => h_.1))))) (below_size (hbx HB))); have HO1069 := Aside0.mk (Kd.R_lower (Kd.R_new' (Kd.R_new' ho1 (Kd.R_lt (rx (Kd.R_mono (Kd.R_far (p := ⟨gb1062, 5, none⟩) (Kd.R_far (p := ⟨gb1062, 4, none⟩) (Kd.R_far (p := ⟨gb1062, 3, none⟩) (Kd.R_far (p := ⟨gb1062, 2, none⟩) (Kd.R_far (p := ⟨gb1062, 1, none⟩) (Kd.R_far (p := ⟨gb1062, 0, none⟩) (Kd.R_types HO_1046002.out BK1062.out (by decide)) (fun _ hk => hk.2) (.string x1046000_2)) (fun _ hk => hk.2) (.slice Ao51 x1046001_2.length co51)) (fun _ hk => hk.2) (.slice Ao52 x1046002_2.length co52)) (fun _ hk => hk.2) (.slice Ao53 x1046003_2.length co53)) (fun _ hk => hk.2) (.int .i64 x1046004_2)) (fun _ hk => hk.2) (.int .i64 x1046005_2)) (fun _ h_ => h_.1))))) (Kd.R_lt (rx (Kd.R_mono (Kd.R_far (p := ⟨gb1062, 5, none⟩) (Kd.R_far (p := ⟨gb1062, 4, none⟩) (Kd.R_far (p := ⟨gb1062, 3, none⟩) (Kd.R_far (p := ⟨gb1062, 2, none⟩) (Kd.R_far (p := ⟨gb1062, 1, none⟩) (Kd.R_far (p := ⟨gb1062, 0, none⟩) (Kd.R_types HO_1046003.out BK1062.out (by decide)) (fun _ hk => hk.2) (.string x1046000_2)) (fun _ hk => hk.2) (.slice Ao51 x1046001_2.length co51)) (fun _ hk => hk.2) (.slice Ao52 x1046002_2.length co52)) (fun _ hk => hk.2) (.slice Ao53 x1046003_2.length co53)) (fun _ hk => hk.2) (.int .i64 x1046004_2)) (fun _ hk => hk.2) (.int .i64 x1046005_2)) (fun _ h_ => h_.1))))) (below_size (hbx HB))); have HO1072 := Aside0.mk (Kd.R_lower (Kd.R_new' (Kd.R_new' ho2 (Kd.R_lt (rx (Kd.R_mono (Kd.R_far (p := ⟨gb1062, 5, none⟩) (Kd.R_far (p := ⟨gb1062, 4, none⟩) (Kd.R_far (p := ⟨gb1062, 3, none⟩) (Kd.R_far (p := ⟨gb1062, 2, none⟩) (Kd.R_far (p := ⟨gb1062, 1, none⟩) (Kd.R_far (p := ⟨gb1062, 0, none⟩) (Kd.R_types HO_1046002.out BK1062.out (by decide)) (fun _ hk => hk.2) (.string x1046000_2)) (fun _ hk => hk.2) (.slice Ao51 x1046001_2.length co51)) (fun _ hk => hk.2) (.slice Ao52 x1046002_2.length co52)) (fun _ hk => hk.2) (.slice Ao53 x1046003_2.length co53)) (fun _ hk => hk.2) (.int .i64 x1046004_2)) (fun _ hk => hk.2) (.int .i64 x1046005_2)) (fun _ h_ => h_.1))))) (Kd.R_lt (rx (Kd.R_mono (Kd.R_far (p := ⟨gb1062, 5, none⟩) (Kd.R_far (p := ⟨gb1062, 4, none⟩) (Kd.R_far (p := ⟨gb1062, 3, none⟩) (Kd.R_far (p := ⟨gb1062, 2, none⟩) (Kd.R_far (p := ⟨gb1062, 1, none⟩) (Kd.R_far (p := ⟨gb1062, 0, none⟩) (Kd.R_types HO_1046003.out BK1062.out (by decide)) (fun _ hk => hk.2) (.string x1046000_2)) (fun _ hk => hk.2) (.slice Ao51 x1046001_2.length co51)) (fun _ hk => hk.2) (.slice Ao52 x1046002_2.length co52)) (fun _ hk => hk.2) (.slice Ao53 x1046003_2.length co53)) (fun _ hk => hk.2) (.int .i64 x1046004_2)) (fun _ hk => hk.2) (.int .i64 x1046005_2)) (fun _ h_ => h_.1))))) (below_size (hbx HB))); replace HO_1046002 := Aside0.mk (Kd.R_mono (Kd.R_told (Kd.R_told (Kd.R_old (rx (Kd.R_mono (Kd.R_far (p := ⟨gb1062, 5, none⟩) (Kd.R_far (p := ⟨gb1062, 4, none⟩) (Kd.R_far (p := ⟨gb1062, 3, none⟩) (Kd.R_far (p := ⟨gb1062, 2, none⟩) (Kd.R_far (p := ⟨gb1062, 1, none⟩) (Kd.R_far (p := ⟨gb1062, 0, none⟩) (Kd.R_types HO_1046002.out BK1062.out (by decide)) (fun _ hk => hk.2) (.string x1046000_2)) (fun _ hk => hk.2) (.slice Ao51 x1046001_2.length co51)) (fun _ hk => hk.2) (.slice Ao52 x1046002_2.length co52)) (fun _ hk => hk.2) (.slice Ao53 x1046003_2.length co53)) (fun _ hk => hk.2) (.int .i64 x1046004_2)) (fun _ hk => hk.2) (.int .i64 x1046005_2)) (fun _ h_ => h_.1))) hb) (Kd.R_base ho1)) (Kd.R_base ho2)) (fun _ h_ => h_.1)); replace HO_1046003 := Aside0.mk (Kd.R_mono (Kd.R_told (Kd.R_told (Kd.R_old (rx (Kd.R_mono (Kd.R_far (p := ⟨gb1062, 5, none⟩) (Kd.R_far (p := ⟨gb1062, 4, none⟩) (Kd.R_far (p := ⟨gb1062, 3, none⟩) (Kd.R_far (p := ⟨gb1062, 2, none⟩) (Kd.R_far (p := ⟨gb1062, 1, none⟩) (Kd.R_far (p := ⟨gb1062, 0, none⟩) (Kd.R_types HO_1046003.out BK1062.out (by decide)) (fun _ hk => hk.2) (.string x1046000_2)) (fun _ hk => hk.2) (.slice Ao51 x1046001_2.length co51)) (fun _ hk => hk.2) (.slice Ao52 x1046002_2.length co52)) (fun _ hk => hk.2) (.slice Ao53 x1046003_2.length co53)) (fun _ hk => hk.2) (.int .i64 x1046004_2)) (fun _ hk => hk.2) (.int .i64 x1046005_2)) (fun _ h_ => h_.1))) hb) (Kd.R_base ho1)) (Kd.R_base ho2)) (fun _ h_ => h_.1)); have HO1081 := Aside0.mk (Kd.R_lower (Kd.R_new' ho3 (Kd.R_lt (rx (Kd.R_mono (Kd.R_far (p := ⟨gb1062, 5, none⟩) (Kd.R_far (p := ⟨gb1062, 4, none⟩) (Kd.R_far (p := ⟨gb1062, 3, none⟩) (Kd.R_far (p := ⟨gb1062, 2, none⟩) (Kd.R_far (p := ⟨gb1062, 1, none⟩) (Kd.R_far (p := ⟨gb1062, 0, none⟩) (Kd.R_types HO_1046001.out BK1062.out (by decide)) (fun _ hk => hk.2) (.string x1046000_2)) (fun _ hk => hk.2) (.slice Ao51 x1046001_2.length co51)) (fun _ hk => hk.2) (.slice Ao52 x1046002_2.length co52)) (fun _ hk => hk.2) (.slice Ao53 x1046003_2.length co53)) (fun _ hk => hk.2) (.int .i64 x1046004_2)) (fun _ hk => hk.2) (.int .i64 x1046005_2)) (fun _ h_ => h_.1))))) (below_size (hbx HB))); replace HO_1046001 := Aside0.mk (Kd.R_mono (Kd.R_told (Kd.R_told (Kd.R_old (rx (Kd.R_mono (Kd.R_far (p := ⟨gb1062, 5, none⟩) (Kd.R_far (p := ⟨gb1062, 4, none⟩) (Kd.R_far (p := ⟨gb1062, 3, none⟩) (Kd.R_far (p := ⟨gb1062, 2, none⟩) (Kd.R_far (p := ⟨gb1062, 1, none⟩) (Kd.R_far (p := ⟨gb1062, 0, none⟩) (Kd.R_types HO_1046001.out BK1062.out (by decide)) (fun _ hk => hk.2) (.string x1046000_2)) (fun _ hk => hk.2) (.slice Ao51 x1046001_2.length co51)) (fun _ hk => hk.2) (.slice Ao52 x1046002_2.length co52)) (fun _ hk => hk.2) (.slice Ao53 x1046003_2.length co53)) (fun _ hk => hk.2) (.int .i64 x1046004_2)) (fun _ hk => hk.2) (.int .i64 x1046005_2)) (fun _ h_ => h_.1))) hb) (Kd.R_base ho0)) (Kd.R_base ho3)) (fun _ h_ => h_.1)); replace BK1045 := bkfB BK1045 hb; replace BK1061 := bkfB BK1061 hb; replace BK1062 := Aside0.mk (blk_below (o := .cells #[.string x1046000_2, .slice Ao51 x1046001_2.length co51, .slice Ao52 x1046002_2.length co52, .slice Ao53 x1046003_2.length co53, .int .i64 x1046004_2, .int .i64 x1046005_2] 50 (0, 0)) (bkp BK1062) hb); replace HB := hbS HB hb; (try clear hb); (try clear hb2); (try clear hk); (try clear hi); (try clear ho0); (try clear ho1); (try clear ho2); (try clear ho3); have hnb61 := NB1062_1061.out; have hnc61 := NB1061_1062.out; obtain ⟨z0, z1, z2, z3, z4, z5, y0, y1, y2, y3, y4, y5⟩ := bc6 BK1062; obtain ⟨Ao63, co63, eo63⟩ := Kd.R_slice HO1066.out; subst eo63; obtain ⟨Ao64, co64, eo64⟩ := Kd.R_slice HO1069.out; subst eo64; obtain ⟨Ao65, co65, eo65⟩ := Kd.R_slice HO1072.out; subst eo65; obtain ⟨z0, z1, z2, z3, z4, y0, y1, y2, y3, y4⟩ := bc5 BK1061; obtain ⟨Ao67, co67, eo67⟩ := Kd.R_slice HO1081.out; subst eo67))
             go_meet
             case rel => exact ⟨_, (t1082), (t1075), (t1076), (t1077), (t1078), (t1079), (t1063), (t1064), (t1067), (t1070), (t1073), (t1074), (.slice Ao67 t1079.length co67), (.slice Ao63 t1064.length co63), (.slice Ao64 t1067.length co64), (.slice Ao65 t1070.length co65), rfs, H', ⟨by have := HJ2.out; have := HK2.out; first | omega | exact Nat.le_refl _⟩, ⟨Kd.R_mono (rty (rty (rfo HO_1046001) BK1062) BK1061) (fun _ hk => hk.1.1.2)⟩, ⟨Kd.R_mono (rty (rty (rfo HO_1046002) BK1062) BK1061) (fun _ hk => ⟨hk.1.1.1.1, hk.1.1.2⟩)⟩, ⟨Kd.R_mono (rty (rty (rfo HO_1046003) BK1062) BK1061) (fun _ hk => ⟨hk.1.1.1.1, hk.1.1.1.2⟩)⟩, ⟨Kd.R_mono (rty (rty (rfo HO1081) BK1062) BK1061) (fun _ hk => ⟨hk.1.1.2, hk.1.1.1⟩)⟩, ⟨Kd.R_mono (rty (rty (rfo HO1066) BK1062) BK1061) (fun _ hk => hk.1.1.1)⟩, ⟨Kd.R_mono (rty (rty (rfo HO1069) BK1062) BK1061) (fun _ hk => ⟨hk.1.1.2, hk.1.1.1.1⟩)⟩, ⟨Kd.R_mono (rty (rty (rfo HO1072) BK1062) BK1061) (fun _ hk => ⟨hk.1.1.1.2, hk.1.1.1.1⟩)⟩, bkfA BK1045, bkpA BK1061, bkpA BK1062, hbA HB⟩
            ·replace c55 := Bool.eq_false_iff.mpr c55
             subst c55
             rw [if_neg (show ¬ (false = true) by decide)] at H
             replace H := Option.bind_eq_some_iff.mp H
             obtain ⟨⟨t1083, t1084, t1087, t1090, t1093, t1094, t1095, t1096, t1097, t1098, t1099, t1102⟩, A680, H⟩ := H
             (try dsimp only at H)
             have A68 := Aside0.mk A680
             clear A680
             have H' := Aside0.mk H
             clear H
             have hnb69 := NB1045_1061.out
             have hnc69 := NB1061_1045.out
             have hnb70 := NB1045_1062.out
             have hnc70 := NB1062_1045.out
             obtain ⟨z0, z1, z2, z3, z4, z5, y0, y1, y2, y3, y4, y5⟩ := bc6 BK1045
             go_wp2_with (first | ((with_reducible refine gate_callee (f := 22) rfl ?_); refine goesL_ (some 58) rfl rfl Try.func22 (by kernel_rfl) rfl #[.agg #[.string x1046000_2, .slice Ao51 x1046001_2.length co51, .slice Ao52 x1046002_2.length co52, .slice Ao53 x1046003_2.length co53, .int .i64 x1046004_2, .int .i64 x1046005_2], .int .i64 (wrap64 (10 + x39_2))] rfl sma ?_; (with_reducible refine (install_Order.calls k2 x1046000_2 _ _ x1046001_2 _ _ x1046002_2 _ _ x1046003_2 x1046004_2 x1046005_2 (wrap64 (10 + x39_2)) t1083 t1084 t1087 t1090 t1093 t1094 t1095 t1096 t1097 t1098 t1099 t1102 _ ?side1 ?side2 ?side3 ?side4 ?side5 ?side6 A68.out).mono ?_); (case side1 => refine (Kd.R_reads' (e := 3) (base := w.heap.size) (ok := fun k_ => True) (n := x1046001_2.length) (c := co51) ?_).2.2; exact (rx (Kd.R_mono (Kd.R_far (p := ⟨gb1062, 5, none⟩) (Kd.R_far (p := ⟨gb1062, 4, none⟩) (Kd.R_far (p := ⟨gb1062, 3, none⟩) (Kd.R_far (p := ⟨gb1062, 2, none⟩) (Kd.R_far (p := ⟨gb1062, 1, none⟩) (Kd.R_far (p := ⟨gb1062, 0, none⟩) (Kd.R_types HO_1046001.out BK1062.out (by decide)) (fun _ hk => hk.2) (.string x1046000_2)) (fun _ hk => hk.2) (.slice Ao51 x1046001_2.length co51)) (fun _ hk => hk.2) (.slice Ao52 x1046002_2.length co52)) (fun _ hk => hk.2) (.slice Ao53 x1046003_2.length co53)) (fun _ hk => hk.2) (.int .i64 x1046004_2)) (fun _ hk => hk.2) (.int .i64 x1046005_2)) (fun _ h_ => h_.1)))); (case side2 => exact (Kd.R_reads' HO_1046001.out).2.1); (case side3 => refine (Kd.R_reads' (e := 4) (base := w.heap.size) (ok := fun k_ => some k_ ≠ (.slice Ao53 x1046003_2.length co53 : Value).ownBlock) (n := x1046002_2.length) (c := co52) ?_).2.2; exact (rx (Kd.R_mono (Kd.R_far (p := ⟨gb1062, 5, none⟩) (Kd.R_far (p := ⟨gb1062, 4, none⟩) (Kd.R_far (p := ⟨gb1062, 3, none⟩) (Kd.R_far (p := ⟨gb1062, 2, none⟩) (Kd.R_far (p := ⟨gb1062, 1, none⟩) (Kd.R_far (p := ⟨gb1062, 0, none⟩) (Kd.R_types HO_1046002.out BK1062.out (by decide)) (fun _ hk => hk.2) (.string x1046000_2)) (fun _ hk => hk.2) (.slice Ao51 x1046001_2.length co51)) (fun _ hk => hk.2) (.slice Ao52 x1046002_2.length co52)) (fun _ hk => hk.2) (.slice Ao53 x1046003_2.length co53)) (fun _ hk => hk.2) (.int .i64 x1046004_2)) (fun _ hk => hk.2) (.int .i64 x1046005_2)) (fun _ h_ => h_.1)))); (case side4 => exact (Kd.R_reads' HO_1046002.out).2.1); (case side5 => refine (Kd.R_reads' (e := 4) (base := w.heap.size) (ok := fun k_ => some k_ ≠ (.slice Ao52 x1046002_2.length co52 : Value).ownBlock) (n := x1046003_2.length) (c := co53) ?_).2.2; exact (rx (Kd.R_mono (Kd.R_far (p := ⟨gb1062, 5, none⟩) (Kd.R_far (p := ⟨gb1062, 4, none⟩) (Kd.R_far (p := ⟨gb1062, 3, none⟩) (Kd.R_far (p := ⟨gb1062, 2, none⟩) (Kd.R_far (p := ⟨gb1062, 1, none⟩) (Kd.R_far (p := ⟨gb1062, 0, none⟩) (Kd.R_types HO_1046003.out BK1062.out (by decide)) (fun _ hk => hk.2) (.string x1046000_2)) (fun _ hk => hk.2) (.slice Ao51 x1046001_2.length co51)) (fun _ hk => hk.2) (.slice Ao52 x1046002_2.length co52)) (fun _ hk => hk.2) (.slice Ao53 x1046003_2.length co53)) (fun _ hk => hk.2) (.int .i64 x1046004_2)) (fun _ hk => hk.2) (.int .i64 x1046005_2)) (fun _ h_ => h_.1)))); (case side6 => exact (Kd.R_reads' HO_1046003.out).2.1); rintro e w72 ⟨v1085, v1088, v1091, v1100, rfl, ho0, ho1, ho2, ho3, hb⟩; refine ⟨_, rfl, ?_⟩; have HO1086 := Aside0.mk (Kd.R_lower (Kd.R_new' ho0 (Kd.R_lt (rx (Kd.R_mono (Kd.R_far (p := ⟨gb1062, 5, none⟩) (Kd.R_far (p := ⟨gb1062, 4, none⟩) (Kd.R_far (p := ⟨gb1062, 3, none⟩) (Kd.R_far (p := ⟨gb1062, 2, none⟩) (Kd.R_far (p := ⟨gb1062, 1, none⟩) (Kd.R_far (p := ⟨gb1062, 0, none⟩) (Kd.R_types HO_1046001.out BK1062.out (by decide)) (fun _ hk => hk.2) (.string x1046000_2)) (fun _ hk => hk.2) (.slice Ao51 x1046001_2.length co51)) (fun _ hk => hk.2) (.slice Ao52 x1046002_2.length co52)) (fun _ hk => hk.2) (.slice Ao53 x1046003_2.length co53)) (fun _ hk => hk.2) (.int .i64 x1046004_2)) (fun _ hk => hk.2) (.int .i64 x1046005_2)) (fun _ h_ => h_.1))))) (below_size (hbx HB))); have HO1089 := Aside0.mk (Kd.R_lower (Kd.R_new' (Kd.R_new' ho1 (Kd.R_lt (rx (Kd.R_mono (Kd.R_far (p := ⟨gb1062, 5, none⟩) (Kd.R_far (p := ⟨gb1062, 4, none⟩) (Kd.R_far (p := ⟨gb1062, 3, none⟩) (Kd.R_far (p := ⟨gb1062, 2, none⟩) (Kd.R_far (p := ⟨gb1062, 1, none⟩) (Kd.R_far (p := ⟨gb1062, 0, none⟩) (Kd.R_types HO_1046002.out BK1062.out (by decide)) (fun _ hk => hk.2) (.string x1046000_2)) (fun _ hk => hk.2) (.slice Ao51 x1046001_2.length co51)) (fun _ hk => hk.2) (.slice Ao52 x1046002_2.length co52)) (fun _ hk => hk.2) (.slice Ao53 x1046003_2.length co53)) (fun _ hk => hk.2) (.int .i64 x1046004_2)) (fun _ hk => hk.2) (.int .i64 x1046005_2)) (fun _ h_ => h_.1))))) (Kd.R_lt (rx (Kd.R_mono (Kd.R_far (p := ⟨gb1062, 5, none⟩) (Kd.R_far (p := ⟨gb1062, 4, none⟩) (Kd.R_far (p := ⟨gb1062, 3, none⟩) (Kd.R_far (p := ⟨gb1062, 2, none⟩) (Kd.R_far (p := ⟨gb1062, 1, none⟩) (Kd.R_far (p := ⟨gb1062, 0, none⟩) (Kd.R_types HO_1046003.out BK1062.out (by decide)) (fun _ hk => hk.2) (.string x1046000_2)) (fun _ hk => hk.2) (.slice Ao51 x1046001_2.length co51)) (fun _ hk => hk.2) (.slice Ao52 x1046002_2.length co52)) (fun _ hk => hk.2) (.slice Ao53 x1046003_2.length co53)) (fun _ hk => hk.2) (.int .i64 x1046004_2)) (fun _ hk => hk.2) (.int .i64 x1046005_2)) (fun _ h_ => h_.1))))) (below_size (hbx HB))); have HO1092 := Aside0.mk (Kd.R_lower (Kd.R_new' (Kd.R_new' ho2 (Kd.R_lt (rx (Kd.R_mono (Kd.R_far (p := ⟨gb1062, 5, none⟩) (Kd.R_far (p := ⟨gb1062, 4, none⟩) (Kd.R_far (p := ⟨gb1062, 3, none⟩) (Kd.R_far (p := ⟨gb1062, 2, none⟩) (Kd.R_far (p := ⟨gb1062, 1, none⟩) (Kd.R_far (p := ⟨gb1062, 0, none⟩) (Kd.R_types HO_1046002.out BK1062.out (by decide)) (fun _ hk => hk.2) (.string x1046000_2)) (fun _ hk => hk.2) (.slice Ao51 x1046001_2.length co51)) (fun _ hk => hk.2) (.slice Ao52 x1046002_2.length co52)) (fun _ hk => hk.2) (.slice Ao53 x1046003_2.length co53)) (fun _ hk => hk.2) (.int .i64 x1046004_2)) (fun _ hk => hk.2) (.int .i64 x1046005_2)) (fun _ h_ => h_.1))))) (Kd.R_lt (rx (Kd.R_mono (Kd.R_far (p := ⟨gb1062, 5, none⟩) (Kd.R_far (p := ⟨gb1062, 4, none⟩) (Kd.R_far (p := ⟨gb1062, 3, none⟩) (Kd.R_far (p := ⟨gb1062, 2, none⟩) (Kd.R_far (p := ⟨gb1062, 1, none⟩) (Kd.R_far (p := ⟨gb1062, 0, none⟩) (Kd.R_types HO_1046003.out BK1062.out (by decide)) (fun _ hk => hk.2) (.string x1046000_2)) (fun _ hk => hk.2) (.slice Ao51 x1046001_2.length co51)) (fun _ hk => hk.2) (.slice Ao52 x1046002_2.length co52)) (fun _ hk => hk.2) (.slice Ao53 x1046003_2.length co53)) (fun _ hk => hk.2) (.int .i64 x1046004_2)) (fun _ hk => hk.2) (.int .i64 x1046005_2)) (fun _ h_ => h_.1))))) (below_size (hbx HB))); replace HO_1046002 := Aside0.mk (Kd.R_mono (Kd.R_told (Kd.R_told (Kd.R_old (rx (Kd.R_mono (Kd.R_far (p := ⟨gb1062, 5, none⟩) (Kd.R_far (p := ⟨gb1062, 4, none⟩) (Kd.R_far (p := ⟨gb1062, 3, none⟩) (Kd.R_far (p := ⟨gb1062, 2, none⟩) (Kd.R_far (p := ⟨gb1062, 1, none⟩) (Kd.R_far (p := ⟨gb1062, 0, none⟩) (Kd.R_types HO_1046002.out BK1062.out (by decide)) (fun _ hk => hk.2) (.string x1046000_2)) (fun _ hk => hk.2) (.slice Ao51 x1046001_2.length co51)) (fun _ hk => hk.2) (.slice Ao52 x1046002_2.length co52)) (fun _ hk => hk.2) (.slice Ao53 x1046003_2.length co53)) (fun _ hk => hk.2) (.int .i64 x1046004_2)) (fun _ hk => hk.2) (.int .i64 x1046005_2)) (fun _ h_ => h_.1))) hb) (Kd.R_base ho1)) (Kd.R_base ho2)) (fun _ h_ => h_.1)); replace HO_1046003 := Aside0.mk (Kd.R_mono (Kd.R_told (Kd.R_told (Kd.R_old (rx (Kd.R_mono (Kd.R_far (p := ⟨gb1062, 5, none⟩) (Kd.R_far (p := ⟨gb1062, 4, none⟩) (Kd.R_far (p := ⟨gb1062, 3, none⟩) (Kd.R_far (p := ⟨gb1062, 2, none⟩) (Kd.R_far (p := ⟨gb1062, 1, none⟩) (Kd.R_far (p := ⟨gb1062, 0, none⟩) (Kd.R_types HO_1046003.out BK1062.out (by decide)) (fun _ hk => hk.2) (.string x1046000_2)) (fun _ hk => hk.2) (.slice Ao51 x1046001_2.length co51)) (fun _ hk => hk.2) (.slice Ao52 x1046002_2.length co52)) (fun _ hk => hk.2) (.slice Ao53 x1046003_2.length co53)) (fun _ hk => hk.2) (.int .i64 x1046004_2)) (fun _ hk => hk.2) (.int .i64 x1046005_2)) (fun _ h_ => h_.1))) hb) (Kd.R_base ho1)) (Kd.R_base ho2)) (fun _ h_ => h_.1)); have HO1101 := Aside0.mk (Kd.R_lower (Kd.R_new' ho3 (Kd.R_lt (rx (Kd.R_mono (Kd.R_far (p := ⟨gb1062, 5, none⟩) (Kd.R_far (p := ⟨gb1062, 4, none⟩) (Kd.R_far (p := ⟨gb1062, 3, none⟩) (Kd.R_far (p := ⟨gb1062, 2, none⟩) (Kd.R_far (p := ⟨gb1062, 1, none⟩) (Kd.R_far (p := ⟨gb1062, 0, none⟩) (Kd.R_types HO_1046001.out BK1062.out (by decide)) (fun _ hk => hk.2) (.string x1046000_2)) (fun _ hk => hk.2) (.slice Ao51 x1046001_2.length co51)) (fun _ hk => hk.2) (.slice Ao52 x1046002_2.length co52)) (fun _ hk => hk.2) (.slice Ao53 x1046003_2.length co53)) (fun _ hk => hk.2) (.int .i64 x1046004_2)) (fun _ hk => hk.2) (.int .i64 x1046005_2)) (fun _ h_ => h_.1))))) (below_size (hbx HB))); replace HO_1046001 := Aside0.mk (Kd.R_mono (Kd.R_told (Kd.R_told (Kd.R_old (rx (Kd.R_mono (Kd.R_far (p := ⟨gb1062, 5, none⟩) (Kd.R_far (p := ⟨gb1062, 4, none⟩) (Kd.R_far (p := ⟨gb1062, 3, none⟩) (Kd.R_far (p := ⟨gb1062, 2, none⟩) (Kd.R_far (p := ⟨gb1062, 1, none⟩) (Kd.R_far (p := ⟨gb1062, 0, none⟩) (Kd.R_types HO_1046001.out BK1062.out (by decide)) (fun _ hk => hk.2) (.string x1046000_2)) (fun _ hk => hk.2) (.slice Ao51 x1046001_2.length co51)) (fun _ hk => hk.2) (.slice Ao52 x1046002_2.length co52)) (fun _ hk => hk.2) (.slice Ao53 x1046003_2.length co53)) (fun _ hk => hk.2) (.int .i64 x1046004_2)) (fun _ hk => hk.2) (.int .i64 x1046005_2)) (fun _ h_ => h_.1))) hb) (Kd.R_base ho0)) (Kd.R_base ho3)) (fun _ h_ => h_.1)); replace BK1045 := bkfB BK1045 hb; replace BK1061 := bkfB BK1061 hb; replace BK1062 := Aside0.mk (blk_below (o := .cells #[.string x1046000_2, .slice Ao51 x1046001_2.length co51, .slice Ao52 x1046002_2.length co52, .slice Ao53 x1046003_2.length co53, .int .i64 x1046004_2, .int .i64 x1046005_2] 50 (0, 0)) (bkp BK1062) hb); replace HB := hbS HB hb; (try clear hb); (try clear hb2); (try clear hk); (try clear hi); (try clear ho0); (try clear ho1); (try clear ho2); (try clear ho3); have hnb73 := NB1062_1061.out; have hnc73 := NB1061_1062.out; obtain ⟨z0, z1, z2, z3, z4, z5, y0, y1, y2, y3, y4, y5⟩ := bc6 BK1062; obtain ⟨Ao75, co75, eo75⟩ := Kd.R_slice HO1086.out; subst eo75; obtain ⟨Ao76, co76, eo76⟩ := Kd.R_slice HO1089.out; subst eo76; obtain ⟨Ao77, co77, eo77⟩ := Kd.R_slice HO1092.out; subst eo77; obtain ⟨z0, z1, z2, z3, z4, y0, y1, y2, y3, y4⟩ := bc5 BK1061; obtain ⟨Ao79, co79, eo79⟩ := Kd.R_slice HO1101.out; subst eo79))
             go_meet
             case rel => exact ⟨_, (t1102), (t1095), (t1096), (t1097), (t1098), (t1099), (t1083), (t1084), (t1087), (t1090), (t1093), (t1094), (.slice Ao79 t1099.length co79), (.slice Ao75 t1084.length co75), (.slice Ao76 t1087.length co76), (.slice Ao77 t1090.length co77), rfs, H', ⟨by have := HJ2.out; have := HK2.out; first | omega | exact Nat.le_refl _⟩, ⟨Kd.R_mono (rty (rty (rfo HO_1046001) BK1062) BK1061) (fun _ hk => hk.1.1.2)⟩, ⟨Kd.R_mono (rty (rty (rfo HO_1046002) BK1062) BK1061) (fun _ hk => ⟨hk.1.1.1.1, hk.1.1.2⟩)⟩, ⟨Kd.R_mono (rty (rty (rfo HO_1046003) BK1062) BK1061) (fun _ hk => ⟨hk.1.1.1.1, hk.1.1.1.2⟩)⟩, ⟨Kd.R_mono (rty (rty (rfo HO1101) BK1062) BK1061) (fun _ hk => ⟨hk.1.1.2, hk.1.1.1⟩)⟩, ⟨Kd.R_mono (rty (rty (rfo HO1086) BK1062) BK1061) (fun _ hk => hk.1.1.1)⟩, ⟨Kd.R_mono (rty (rty (rfo HO1089) BK1062) BK1061) (fun _ hk => ⟨hk.1.1.2, hk.1.1.1.1⟩)⟩, ⟨Kd.R_mono (rty (rty (rfo HO1092) BK1062) BK1061) (fun _ hk => ⟨hk.1.1.1.2, hk.1.1.1.1⟩)⟩, bkfA BK1045, bkpA BK1061, bkpA BK1062, hbA HB⟩
           case rest =>
            clear HC43
            try clear c8
            try clear c13
            try clear c13b0
            try clear c13b1
            try clear c16
            try clear c16b0
            try clear c16b1
            try clear c40
            try clear c40b0
            try clear c41
            try clear c41b0
            try clear c42
            try clear c42b0
            try clear hcz23_0
            try clear hcz23_1
            try clear hcz23_2
            try clear hcz23_3
            try clear hcz23_4
            try clear hcz23_5
            try clear hcz46_0
            try clear hcz46_1
            try clear hcz46_2
            try clear hcz46_3
            try clear hcz46_4
            try clear hcz46_5
            try clear hcz50_0
            try clear hcz50_1
            try clear hcz50_2
            try clear hcz50_3
            try clear hcz50_4
            try clear hcz50_5
            try clear hfz23_0
            try clear hfz23_1
            try clear hfz23_2
            try clear hfz23_3
            try clear hfz23_4
            try clear hfz23_5
            try clear hfz46_0
            try clear hfz46_1
            try clear hfz46_2
            try clear hfz46_3
            try clear hfz46_4
            try clear hfz46_5
            try clear hfz50_0
            try clear hfz50_1
            try clear hfz50_2
            try clear hfz50_3
            try clear hfz50_4
            try clear hfz50_5
            try clear hx1060_0
            try clear p1060
            try clear q1060
            obtain ⟨kq, x6_42, x1062000_42, x1062001_42, x1062002_42, x1062003_42, x1062004_42, x1063000_42, x1063001_42, x1063002_42, x1063003_42, x1063004_42, x1063005_42, u1062004, u1063001, u1063002, u1063003, rfl, HA, HJ42, HO_1046001, HO_1046002, HO_1046003, HO_1062004, HO_1063001, HO_1063002, HO_1063003, BK1045, BK1061, BK1062, HB⟩ := hcut
            cases kq with
            | zero => exact absurd HA.out (by simp [hopmeshlaw49_InstallNumbers.j2])
            | succ kj42 =>
             have H := HA.out
             clear HA
             simp only [hopmeshlaw49_InstallNumbers.j2] at H
             have HC80 := Aside0.mk H
             clear H
             go_upto_region 18 with (fail)
             go_cut [66] (fun v66 wc => ∃ (kq : Nat) (x66_79 : Bool), v66 = .bool x66_79 ∧ Aside0 (hopmeshlaw49_InstallNumbers.j3 kq a1 x6_42 bw l0 (l0.length : Int) x39_2 x66_79 x1046000_2 x1046001_2 x1046002_2 x1046003_2 x1046004_2 x1046005_2 x1062000_42 x1062001_42 x1062002_42 x1062003_42 x1062004_42 x1063000_42 x1063001_42 x1063002_42 x1063003_42 x1063004_42 x1063005_42 = some r) ∧ Aside0 (kq ≤ kj42) ∧ Aside0 (Kd.R (Kd.int .i64) 3 wc w.heap.size (fun k_ => some k_ ≠ (u1062004 : Value).ownBlock) (.slice Ao51 x1046001_2.length co51) x1046001_2) ∧ Aside0 (Kd.R Kd.bool 4 wc w.heap.size (fun k_ => some k_ ≠ ((.slice Ao53 x1046003_2.length co53) : Value).ownBlock ∧ some k_ ≠ (u1063003 : Value).ownBlock) (.slice Ao52 x1046002_2.length co52) x1046002_2) ∧ Aside0 (Kd.R Kd.bool 4 wc w.heap.size (fun k_ => some k_ ≠ ((.slice Ao52 x1046002_2.length co52) : Value).ownBlock ∧ some k_ ≠ (u1063002 : Value).ownBlock) (.slice Ao53 x1046003_2.length co53) x1046003_2) ∧ Aside0 (Kd.R (Kd.int .i64) 3 wc w.heap.size (fun k_ => some k_ ≠ ((.slice Ao51 x1046001_2.length co51) : Value).ownBlock ∧ some k_ ≠ (u1063001 : Value).ownBlock) u1062004 x1062004_42) ∧ Aside0 (Kd.R (Kd.int .i64) 3 wc w.heap.size (fun k_ => some k_ ≠ (u1062004 : Value).ownBlock) u1063001 x1063001_42) ∧ Aside0 (Kd.R Kd.bool 4 wc w.heap.size (fun k_ => some k_ ≠ ((.slice Ao53 x1046003_2.length co53) : Value).ownBlock ∧ some k_ ≠ (u1063003 : Value).ownBlock) u1063002 x1063002_42) ∧ Aside0 (Kd.R Kd.bool 4 wc w.heap.size (fun k_ => some k_ ≠ ((.slice Ao52 x1046002_2.length co52) : Value).ownBlock ∧ some k_ ≠ (u1063002 : Value).ownBlock) u1063003 x1063003_42) ∧ Aside0 (wc.heap[gb1045]? = some (.cells #[.string x1046000_2, (.slice Ao51 x1046001_2.length co51), (.slice Ao52 x1046002_2.length co52), (.slice Ao53 x1046003_2.length co53), .int .i64 x1046004_2, .int .i64 x1046005_2] 50 (0, 0))) ∧ Aside0 (wc.heap[gb1061]? = some (.cells #[.int .i64 x1062000_42, .int .i64 x1062001_42, .int .i64 x1062002_42, .string x1062003_42, u1062004] 36 (0, 0))) ∧ Aside0 (wc.heap[gb1062]? = some (.cells #[.string x1063000_42, u1063001, u1063002, u1063003, .int .i64 x1063004_42, .int .i64 x1063005_42] 50 (0, 0))) ∧ Aside0 (Below w.heap.size w wc))
             case first =>
              have H := HC80.out
              clear HC80
              by_cases c82 : bw = true
              ·rw [if_pos c82] at H
               cases c82
               have H' := Aside0.mk H
               clear H
               go_wp2
               go_meet
               case rel => exact ⟨_, ((x1046005_2 == 0)), rfs, H', ⟨by have := HJ2.out; have := HK2.out; have := HJ42.out; first | omega | exact Nat.le_refl _⟩, roA HO_1046001, roA HO_1046002, roA HO_1046003, roA HO_1062004, roA HO_1063001, roA HO_1063002, roA HO_1063003, bkA BK1045, bkA BK1061, bkA BK1062, hbA HB⟩
              ·rw [if_neg c82] at H
               replace c82 := Bool.eq_false_iff.mpr c82
               cases c82
               have H' := Aside0.mk H
               clear H
               go_wp2
               go_meet
               case rel => exact ⟨_, (false), rfs, H', ⟨by have := HJ2.out; have := HK2.out; have := HJ42.out; first | omega | exact Nat.le_refl _⟩, roA HO_1046001, roA HO_1046002, roA HO_1046003, roA HO_1062004, roA HO_1063001, roA HO_1063002, roA HO_1063003, bkA BK1045, bkA BK1061, bkA BK1062, hbA HB⟩
             case rest =>
              clear HC80
              try clear c8
              try clear c13
              try clear c13b0
              try clear c13b1
              try clear c16
              try clear c16b0
              try clear c16b1
              try clear c40
              try clear c40b0
              try clear c41
              try clear c41b0
              try clear c42
              try clear c42b0
              try clear hcz23_0
              try clear hcz23_1
              try clear hcz23_2
              try clear hcz23_3
              try clear hcz23_4
              try clear hcz23_5
              try clear hcz46_0
              try clear hcz46_1
              try clear hcz46_2
              try clear hcz46_3
              try clear hcz46_4
              try clear hcz46_5
              try clear hcz50_0
              try clear hcz50_1
              try clear hcz50_2
              try clear hcz50_3
              try clear hcz50_4
              try clear hcz50_5
              try clear hfz23_0
              try clear hfz23_1
              try clear hfz23_2
              try clear hfz23_3
              try clear hfz23_4
              try clear hfz23_5
              try clear hfz46_0
              try clear hfz46_1
              try clear hfz46_2
              try clear hfz46_3
              try clear hfz46_4
              try clear hfz46_5
              try clear hfz50_0
              try clear hfz50_1
              try clear hfz50_2
              try clear hfz50_3
              try clear hfz50_4
              try clear hfz50_5
              try clear hx1060_0
              try clear p1060
              try clear q1060
              obtain ⟨kq, x66_79, rfl, HA, HJ79, HO_1046001, HO_1046002, HO_1046003, HO_1062004, HO_1063001, HO_1063002, HO_1063003, BK1045, BK1061, BK1062, HB⟩ := hcut
              cases kq with
              | zero => exact absurd HA.out (by simp [hopmeshlaw49_InstallNumbers.j3])
              | succ kj79 =>
               have H := HA.out
               clear HA
               simp only [hopmeshlaw49_InstallNumbers.j3] at H
               by_cases c83 : x66_79 = true
               ·subst c83
                rw [if_pos rfl] at H
                by_cases c84 : x6_42 = 12
                ·rw [if_pos c84] at H
                 have c84b0 : (x6_42 == 12) = true := beq_iff_eq.mpr c84
                 have c84b1 : (x6_42 != 12) = false := bne_eq_false_iff_eq.mpr c84
                 clear c84
                 have H' := Aside0.mk H
                 clear H
                 go_wp2
                 go_roundg kj79
                 case measure => have := HJ2.out; have := HK2.out; have := HJ42.out; have := HJ79.out; omega
                 case rel => exact ⟨(wrap64 (x39_2 + 1)), (x1046000_2), (x1046001_2), (x1046002_2), (x1046003_2), (x1046004_2), (x1046005_2), (.slice Ao51 x1046001_2.length co51), (.slice Ao52 x1046002_2.length co52), (.slice Ao53 x1046003_2.length co53), rfs, H', ⟨by have := HJ2.out; have := HK2.out; have := HJ42.out; have := HJ79.out; omega⟩, ⟨by (with_reducible repeat (first | apply Kd.R_alloc | apply Kd.R_drewN | apply Kd.R_drew)); exact Kd.R_mono HO_1046001.out (fun _ hk => trivial)⟩, ⟨by (with_reducible repeat (first | apply Kd.R_alloc | apply Kd.R_drewN | apply Kd.R_drew)); exact Kd.R_mono HO_1046002.out (fun _ hk => hk.1)⟩, ⟨by (with_reducible repeat (first | apply Kd.R_alloc | apply Kd.R_drewN | apply Kd.R_drew)); exact Kd.R_mono HO_1046003.out (fun _ hk => hk.1)⟩, bkA BK1045, hbA HB⟩
                ·rw [if_neg c84] at H
                 exact absurd H (by simp)
               ·replace c83 := Bool.eq_false_iff.mpr c83
                subst c83
                rw [if_neg (show ¬ (false = true) by decide)] at H
                have HC85 := Aside0.mk H
                clear H
                go_upto_region 21 with (fail)
                go_cut [96] (fun v96 wc => ∃ (kq : Nat) (x96_84 : Bool), v96 = .bool x96_84 ∧ Aside0 (hopmeshlaw49_InstallNumbers.j4 kq a1 bw l0 (l0.length : Int) x39_2 x96_84 x1062000_42 x1062001_42 x1062002_42 x1062003_42 x1062004_42 x1063000_42 x1063001_42 x1063002_42 x1063003_42 x1063004_42 x1063005_42 = some r) ∧ Aside0 (kq ≤ kj79) ∧ Aside0 (Kd.R (Kd.int .i64) 3 wc w.heap.size (fun k_ => some k_ ≠ (u1062004 : Value).ownBlock) (.slice Ao51 x1046001_2.length co51) x1046001_2) ∧ Aside0 (Kd.R Kd.bool 4 wc w.heap.size (fun k_ => some k_ ≠ ((.slice Ao53 x1046003_2.length co53) : Value).ownBlock ∧ some k_ ≠ (u1063003 : Value).ownBlock) (.slice Ao52 x1046002_2.length co52) x1046002_2) ∧ Aside0 (Kd.R Kd.bool 4 wc w.heap.size (fun k_ => some k_ ≠ ((.slice Ao52 x1046002_2.length co52) : Value).ownBlock ∧ some k_ ≠ (u1063002 : Value).ownBlock) (.slice Ao53 x1046003_2.length co53) x1046003_2) ∧ Aside0 (Kd.R (Kd.int .i64) 3 wc w.heap.size (fun k_ => some k_ ≠ ((.slice Ao51 x1046001_2.length co51) : Value).ownBlock ∧ some k_ ≠ (u1063001 : Value).ownBlock) u1062004 x1062004_42) ∧ Aside0 (Kd.R (Kd.int .i64) 3 wc w.heap.size (fun k_ => some k_ ≠ (u1062004 : Value).ownBlock) u1063001 x1063001_42) ∧ Aside0 (Kd.R Kd.bool 4 wc w.heap.size (fun k_ => some k_ ≠ ((.slice Ao53 x1046003_2.length co53) : Value).ownBlock ∧ some k_ ≠ (u1063003 : Value).ownBlock) u1063002 x1063002_42) ∧ Aside0 (Kd.R Kd.bool 4 wc w.heap.size (fun k_ => some k_ ≠ ((.slice Ao52 x1046002_2.length co52) : Value).ownBlock ∧ some k_ ≠ (u1063002 : Value).ownBlock) u1063003 x1063003_42) ∧ Aside0 (wc.heap[gb1045]? = some (.cells #[.string x1046000_2, (.slice Ao51 x1046001_2.length co51), (.slice Ao52 x1046002_2.length co52), (.slice Ao53 x1046003_2.length co53), .int .i64 x1046004_2, .int .i64 x1046005_2] 50 (0, 0))) ∧ Aside0 (wc.heap[gb1061]? = some (.cells #[.int .i64 x1062000_42, .int .i64 x1062001_42, .int .i64 x1062002_42, .string x1062003_42, u1062004] 36 (0, 0))) ∧ Aside0 (wc.heap[gb1062]? = some (.cells #[.string x1063000_42, u1063001, u1063002, u1063003, .int .i64 x1063004_42, .int .i64 x1063005_42] 50 (0, 0))) ∧ Aside0 (Below w.heap.size w wc))
                case first =>
                 have H := HC85.out
                 clear HC85
                 by_cases c86 : x6_42 = 0
                 ·rw [if_pos c86] at H
                  have c86b0 : (x6_42 == 0) = true := beq_iff_eq.mpr c86
                  have c86b1 : (x6_42 != 0) = false := bne_eq_false_iff_eq.mpr c86
                  clear c86
                  (first | rw [c86b0] | (simp only [i64_w, i32_w]; rw [c86b0]) | skip)
                  by_cases c87 : x1062000_42 = (wrap64 (x1046004_2 + 1))
                  ·rw [if_pos c87] at H
                   have c87b0 : (x1062000_42 == (wrap64 (x1046004_2 + 1))) = true := beq_iff_eq.mpr c87
                   have c87b1 : (x1062000_42 != (wrap64 (x1046004_2 + 1))) = false := bne_eq_false_iff_eq.mpr c87
                   clear c87
                   by_cases c88 : x1063004_42 = x1062000_42
                   ·rw [if_pos c88] at H
                    have c88b0 : (x1063004_42 == x1062000_42) = true := beq_iff_eq.mpr c88
                    have c88b1 : (x1063004_42 != x1062000_42) = false := bne_eq_false_iff_eq.mpr c88
                    clear c88
                    replace H := Option.bind_eq_some_iff.mp H
                    obtain ⟨t1103, A890, H⟩ := H
                    (try dsimp only at H)
                    have A89 := Aside0.mk A890
                    clear A890
                    by_cases c90 : t1103 = true
                    ·subst c90
                     rw [if_pos rfl] at H
                     have H' := Aside0.mk H
                     clear H
                     have hnb91 := NB1061_1045.out
                     have hnc91 := NB1045_1061.out
                     have hnb92 := NB1061_1062.out
                     have hnc92 := NB1062_1061.out
                     obtain ⟨z0, z1, z2, z3, z4, y0, y1, y2, y3, y4⟩ := bc5 BK1061
                     have hnb94 := NB1045_1062.out
                     have hnc94 := NB1062_1045.out
                     obtain ⟨z0, z1, z2, z3, z4, z5, y0, y1, y2, y3, y4, y5⟩ := bc6 BK1045
                     obtain ⟨z0, z1, z2, z3, z4, z5, y0, y1, y2, y3, y4, y5⟩ := bc6 BK1062
                     obtain ⟨Ao97, co97, eo97⟩ := Kd.R_slice HO_1063001.out
                     subst eo97
                     obtain ⟨Ao98, co98, eo98⟩ := Kd.R_slice HO_1063002.out
                     subst eo98
                     obtain ⟨Ao99, co99, eo99⟩ := Kd.R_slice HO_1063003.out
                     subst eo99
                     go_wp2_with (first | (go_at_call 21; (with_reducible refine (install_Agreed.calls kj79 x1063000_42 _ _ x1063001_42 _ _ x1063002_42 _ _ x1063003_42 x1063004_42 x1063005_42 true _ ?side1 ?side2 ?side3 ?side4 ?side5 ?side6 A89.out).mono ?_); (case side1 => repeat (first | exact (Kd.R_reads' HO_1063001.out).2.2 | (with_reducible refine Kd.C_alloc ?_ _) | (with_reducible refine Kd.C_drewN ?_ _) | (with_reducible refine Kd.C_drew ?_))); (case side2 => exact (Kd.R_reads' HO_1063001.out).2.1); (case side3 => repeat (first | exact (Kd.R_reads' HO_1063002.out).2.2 | (with_reducible refine Kd.C_alloc ?_ _) | (with_reducible refine Kd.C_drewN ?_ _) | (with_reducible refine Kd.C_drew ?_))); (case side4 => exact (Kd.R_reads' HO_1063002.out).2.1); (case side5 => repeat (first | exact (Kd.R_reads' HO_1063003.out).2.2 | (with_reducible refine Kd.C_alloc ?_ _) | (with_reducible refine Kd.C_drewN ?_ _) | (with_reducible refine Kd.C_drew ?_))); (case side6 => exact (Kd.R_reads' HO_1063003.out).2.1); rintro e w100 ⟨rfl, hb⟩; replace HO_1046001 := rB HO_1046001 hb; replace HO_1046002 := rB HO_1046002 hb; replace HO_1046003 := rB HO_1046003 hb; replace HO_1062004 := rB HO_1062004 hb; replace HO_1063001 := rB HO_1063001 hb; replace HO_1063002 := rB HO_1063002 hb; replace HO_1063003 := rB HO_1063003 hb; replace BK1045 := bkB BK1045 hb; replace BK1061 := bkB BK1061 hb; replace BK1062 := bkB BK1062 hb; replace HB := hbS HB hb; (try clear hb); (try clear hb2); (try clear hk); (try clear hi)))
                     go_meet
                     case rel => exact ⟨_, (true), rfs, H', ⟨by have := HJ2.out; have := HK2.out; have := HJ42.out; have := HJ79.out; first | omega | exact Nat.le_refl _⟩, roA HO_1046001, roA HO_1046002, roA HO_1046003, roA HO_1062004, roA HO_1063001, roA HO_1063002, roA HO_1063003, bkA BK1045, bkA BK1061, bkA BK1062, hbA HB⟩
                    ·replace c90 := Bool.eq_false_iff.mpr c90
                     subst c90
                     rw [if_neg (show ¬ (false = true) by decide)] at H
                     have H' := Aside0.mk H
                     clear H
                     have hnb101 := NB1061_1045.out
                     have hnc101 := NB1045_1061.out
                     have hnb102 := NB1061_1062.out
                     have hnc102 := NB1062_1061.out
                     obtain ⟨z0, z1, z2, z3, z4, y0, y1, y2, y3, y4⟩ := bc5 BK1061
                     have hnb104 := NB1045_1062.out
                     have hnc104 := NB1062_1045.out
                     obtain ⟨z0, z1, z2, z3, z4, z5, y0, y1, y2, y3, y4, y5⟩ := bc6 BK1045
                     obtain ⟨z0, z1, z2, z3, z4, z5, y0, y1, y2, y3, y4, y5⟩ := bc6 BK1062
                     obtain ⟨Ao107, co107, eo107⟩ := Kd.R_slice HO_1063001.out
                     subst eo107
                     obtain ⟨Ao108, co108, eo108⟩ := Kd.R_slice HO_1063002.out
                     subst eo108
                     obtain ⟨Ao109, co109, eo109⟩ := Kd.R_slice HO_1063003.out
                     subst eo109
                     go_wp2_with (first | (go_at_call 21; (with_reducible refine (install_Agreed.calls kj79 x1063000_42 _ _ x1063001_42 _ _ x1063002_42 _ _ x1063003_42 x1063004_42 x1063005_42 false _ ?side1 ?side2 ?side3 ?side4 ?side5 ?side6 A89.out).mono ?_); (case side1 => repeat (first | exact (Kd.R_reads' HO_1063001.out).2.2 | (with_reducible refine Kd.C_alloc ?_ _) | (with_reducible refine Kd.C_drewN ?_ _) | (with_reducible refine Kd.C_drew ?_))); (case side2 => exact (Kd.R_reads' HO_1063001.out).2.1); (case side3 => repeat (first | exact (Kd.R_reads' HO_1063002.out).2.2 | (with_reducible refine Kd.C_alloc ?_ _) | (with_reducible refine Kd.C_drewN ?_ _) | (with_reducible refine Kd.C_drew ?_))); (case side4 => exact (Kd.R_reads' HO_1063002.out).2.1); (case side5 => repeat (first | exact (Kd.R_reads' HO_1063003.out).2.2 | (with_reducible refine Kd.C_alloc ?_ _) | (with_reducible refine Kd.C_drewN ?_ _) | (with_reducible refine Kd.C_drew ?_))); (case side6 => exact (Kd.R_reads' HO_1063003.out).2.1); rintro e w110 ⟨rfl, hb⟩; replace HO_1046001 := rB HO_1046001 hb; replace HO_1046002 := rB HO_1046002 hb; replace HO_1046003 := rB HO_1046003 hb; replace HO_1062004 := rB HO_1062004 hb; replace HO_1063001 := rB HO_1063001 hb; replace HO_1063002 := rB HO_1063002 hb; replace HO_1063003 := rB HO_1063003 hb; replace BK1045 := bkB BK1045 hb; replace BK1061 := bkB BK1061 hb; replace BK1062 := bkB BK1062 hb; replace HB := hbS HB hb; (try clear hb); (try clear hb2); (try clear hk); (try clear hi); obtain ⟨z0, z1, z2, z3, z4, z5, y0, y1, y2, y3, y4, y5⟩ := bc6 BK1062))
                     go_meet
                     case rel => exact ⟨_, (((x1063005_42 == 0) != bw)), rfs, H', ⟨by have := HJ2.out; have := HK2.out; have := HJ42.out; have := HJ79.out; first | omega | exact Nat.le_refl _⟩, roA HO_1046001, roA HO_1046002, roA HO_1046003, roA HO_1062004, roA HO_1063001, roA HO_1063002, roA HO_1063003, bkA BK1045, bkA BK1061, bkA BK1062, hbA HB⟩
                   ·rw [if_neg c88] at H
                    have c88b0 : (x1063004_42 == x1062000_42) = false := beq_eq_false_iff_ne.mpr c88
                    have c88b1 : (x1063004_42 != x1062000_42) = true := bne_iff_ne.mpr c88
                    have H' := Aside0.mk H
                    clear H
                    have hnb112 := NB1061_1045.out
                    have hnc112 := NB1045_1061.out
                    have hnb113 := NB1061_1062.out
                    have hnc113 := NB1062_1061.out
                    obtain ⟨z0, z1, z2, z3, z4, y0, y1, y2, y3, y4⟩ := bc5 BK1061
                    have hnb115 := NB1045_1062.out
                    have hnc115 := NB1062_1045.out
                    obtain ⟨z0, z1, z2, z3, z4, z5, y0, y1, y2, y3, y4, y5⟩ := bc6 BK1045
                    obtain ⟨z0, z1, z2, z3, z4, z5, y0, y1, y2, y3, y4, y5⟩ := bc6 BK1062
                    go_wp2
                    go_meet
                    case rel => exact ⟨_, (true), rfs, H', ⟨by have := HJ2.out; have := HK2.out; have := HJ42.out; have := HJ79.out; first | omega | exact Nat.le_refl _⟩, roA HO_1046001, roA HO_1046002, roA HO_1046003, roA HO_1062004, roA HO_1063001, roA HO_1063002, roA HO_1063003, bkA BK1045, bkA BK1061, bkA BK1062, hbA HB⟩
                  ·rw [if_neg c87] at H
                   have c87b0 : (x1062000_42 == (wrap64 (x1046004_2 + 1))) = false := beq_eq_false_iff_ne.mpr c87
                   have c87b1 : (x1062000_42 != (wrap64 (x1046004_2 + 1))) = true := bne_iff_ne.mpr c87
                   have H' := Aside0.mk H
                   clear H
                   have hnb118 := NB1061_1045.out
                   have hnc118 := NB1045_1061.out
                   have hnb119 := NB1061_1062.out
                   have hnc119 := NB1062_1061.out
                   obtain ⟨z0, z1, z2, z3, z4, y0, y1, y2, y3, y4⟩ := bc5 BK1061
                   have hnb121 := NB1045_1062.out
                   have hnc121 := NB1062_1045.out
                   obtain ⟨z0, z1, z2, z3, z4, z5, y0, y1, y2, y3, y4, y5⟩ := bc6 BK1045
                   go_wp2
                   go_meet
                   case rel => exact ⟨_, (true), rfs, H', ⟨by have := HJ2.out; have := HK2.out; have := HJ42.out; have := HJ79.out; first | omega | exact Nat.le_refl _⟩, roA HO_1046001, roA HO_1046002, roA HO_1046003, roA HO_1062004, roA HO_1063001, roA HO_1063002, roA HO_1063003, bkA BK1045, bkA BK1061, bkA BK1062, hbA HB⟩
                 ·rw [if_neg c86] at H
                  have c86b0 : (x6_42 == 0) = false := beq_eq_false_iff_ne.mpr c86
                  have c86b1 : (x6_42 != 0) = true := bne_iff_ne.mpr c86
                  (first | rw [c86b0] | (simp only [i64_w, i32_w]; rw [c86b0]) | skip)
                  have H' := Aside0.mk H
                  clear H
                  go_wp2
                  go_meet
                  case rel => exact ⟨_, (true), rfs, H', ⟨by have := HJ2.out; have := HK2.out; have := HJ42.out; have := HJ79.out; first | omega | exact Nat.le_refl _⟩, roA HO_1046001, roA HO_1046002, roA HO_1046003, roA HO_1062004, roA HO_1063001, roA HO_1063002, roA HO_1063003, bkA BK1045, bkA BK1061, bkA BK1062, hbA HB⟩
                case rest =>
                 clear HC85
                 try clear c8
                 try clear c13
                 try clear c13b0
                 try clear c13b1
                 try clear c16
                 try clear c16b0
                 try clear c16b1
                 try clear c40
                 try clear c40b0
                 try clear c41
                 try clear c41b0
                 try clear c42
                 try clear c42b0
                 try clear c83
                 try clear hcz23_0
                 try clear hcz23_1
                 try clear hcz23_2
                 try clear hcz23_3
                 try clear hcz23_4
                 try clear hcz23_5
                 try clear hcz46_0
                 try clear hcz46_1
                 try clear hcz46_2
                 try clear hcz46_3
                 try clear hcz46_4
                 try clear hcz46_5
                 try clear hcz50_0
                 try clear hcz50_1
                 try clear hcz50_2
                 try clear hcz50_3
                 try clear hcz50_4
                 try clear hcz50_5
                 try clear hfz23_0
                 try clear hfz23_1
                 try clear hfz23_2
                 try clear hfz23_3
                 try clear hfz23_4
                 try clear hfz23_5
                 try clear hfz46_0
                 try clear hfz46_1
                 try clear hfz46_2
                 try clear hfz46_3
                 try clear hfz46_4
                 try clear hfz46_5
                 try clear hfz50_0
                 try clear hfz50_1
                 try clear hfz50_2
                 try clear hfz50_3
                 try clear hfz50_4
                 try clear hfz50_5
                 try clear hx1060_0
                 try clear p1060
                 try clear q1060
                 obtain ⟨kq, x96_84, rfl, HA, HJ84, HO_1046001, HO_1046002, HO_1046003, HO_1062004, HO_1063001, HO_1063002, HO_1063003, BK1045, BK1061, BK1062, HB⟩ := hcut
                 cases kq with
                 | zero => exact absurd HA.out (by simp [hopmeshlaw49_InstallNumbers.j4])
                 | succ kj84 =>
                  have H := HA.out
                  clear HA
                  simp only [hopmeshlaw49_InstallNumbers.j4] at H
                  by_cases c123 : x96_84 = true
                  ·subst c123
                   rw [if_pos rfl] at H
                   exact absurd H (by simp)
                  ·replace c123 := Bool.eq_false_iff.mpr c123
                   subst c123
                   rw [if_neg (show ¬ (false = true) by decide)] at H
                   by_cases c124 : x1062000_42 = 0
                   ·rw [if_pos c124] at H
                    exact absurd H (by simp)
                   ·rw [if_neg c124] at H
                    have c124b0 : (x1062000_42 == 0) = false := beq_eq_false_iff_ne.mpr c124
                    have c124b1 : (x1062000_42 != 0) = true := bne_iff_ne.mpr c124
                    have HC125 := Aside0.mk H
                    clear H
                    have hnb126 := NB1062_1045.out
                    have hnc126 := NB1045_1062.out
                    have hnb127 := NB1062_1061.out
                    have hnc127 := NB1061_1062.out
                    obtain ⟨z0, z1, z2, z3, z4, z5, y0, y1, y2, y3, y4, y5⟩ := bc6 BK1062
                    have hnb129 := NB1045_1061.out
                    have hnc129 := NB1061_1045.out
                    obtain ⟨z0, z1, z2, z3, z4, z5, y0, y1, y2, y3, y4, y5⟩ := bc6 BK1045
                    obtain ⟨Ao131, co131, eo131⟩ := Kd.R_slice HO_1063001.out
                    subst eo131
                    obtain ⟨Ao132, co132, eo132⟩ := Kd.R_slice HO_1063002.out
                    subst eo132
                    obtain ⟨Ao133, co133, eo133⟩ := Kd.R_slice HO_1063003.out
                    subst eo133
                    obtain ⟨z0, z1, z2, z3, z4, y0, y1, y2, y3, y4⟩ := bc5 BK1061
                    go_upto_if 104 with (fail)
                    go_cut [] (fun wc => ∃ (kq : Nat) (x1046000_124 : ByteArray) (x1046001_124 : List Int) (x1046002_124 : List Bool) (x1046003_124 : List Bool) (x1046004_124 : Int) (x1046005_124 : Int) (u1046001 : Value) (u1046002 : Value) (u1046003 : Value), Aside0 (hopmeshlaw49_InstallNumbers.j5 kq a1 bw l0 (l0.length : Int) x39_2 x1046000_124 x1046001_124 x1046002_124 x1046003_124 x1046004_124 x1046005_124 x1062000_42 x1062001_42 x1062002_42 x1062003_42 x1062004_42 = some r) ∧ Aside0 (kq ≤ kj84) ∧ Aside0 (Kd.R (Kd.int .i64) 3 wc w.heap.size (fun k_ => some k_ ≠ (u1062004 : Value).ownBlock) u1046001 x1046001_124) ∧ Aside0 (Kd.R Kd.bool 4 wc w.heap.size (fun k_ => some k_ ≠ (u1046003 : Value).ownBlock ∧ some k_ ≠ ((.slice Ao133 x1063003_42.length co133) : Value).ownBlock) u1046002 x1046002_124) ∧ Aside0 (Kd.R Kd.bool 4 wc w.heap.size (fun k_ => some k_ ≠ (u1046002 : Value).ownBlock ∧ some k_ ≠ ((.slice Ao132 x1063002_42.length co132) : Value).ownBlock) u1046003 x1046003_124) ∧ Aside0 (Kd.R (Kd.int .i64) 3 wc w.heap.size (fun k_ => some k_ ≠ (u1046001 : Value).ownBlock ∧ some k_ ≠ ((.slice Ao131 x1063001_42.length co131) : Value).ownBlock) u1062004 x1062004_42) ∧ Aside0 (Kd.R (Kd.int .i64) 3 wc w.heap.size (fun k_ => some k_ ≠ (u1062004 : Value).ownBlock) (.slice Ao131 x1063001_42.length co131) x1063001_42) ∧ Aside0 (Kd.R Kd.bool 4 wc w.heap.size (fun k_ => some k_ ≠ (u1046003 : Value).ownBlock ∧ some k_ ≠ ((.slice Ao133 x1063003_42.length co133) : Value).ownBlock) (.slice Ao132 x1063002_42.length co132) x1063002_42) ∧ Aside0 (Kd.R Kd.bool 4 wc w.heap.size (fun k_ => some k_ ≠ (u1046002 : Value).ownBlock ∧ some k_ ≠ ((.slice Ao132 x1063002_42.length co132) : Value).ownBlock) (.slice Ao133 x1063003_42.length co133) x1063003_42) ∧ Aside0 (wc.heap[gb1045]? = some (.cells #[.string x1046000_124, u1046001, u1046002, u1046003, .int .i64 x1046004_124, .int .i64 x1046005_124] 50 (0, 0))) ∧ Aside0 (wc.heap[gb1061]? = some (.cells #[.int .i64 x1062000_42, .int .i64 x1062001_42, .int .i64 x1062002_42, .string x1062003_42, u1062004] 36 (0, 0))) ∧ Aside0 (wc.heap[gb1062]? = some (.cells #[.string x1063000_42, (.slice Ao131 x1063001_42.length co131), (.slice Ao132 x1063002_42.length co132), (.slice Ao133 x1063003_42.length co133), .int .i64 x1063004_42, .int .i64 x1063005_42] 50 (0, 0))) ∧ Aside0 (Below w.heap.size w wc))
                    case first =>
                     have H := HC125.out
                     clear HC125
                     by_cases c135 : (Int.tmod (wrap64 (a1)) x1062000_42) > 0
                     ·rw [if_pos c135] at H
                      have c135b0 : decide (0 < (Int.tmod (wrap64 (a1)) x1062000_42)) = true := decide_eq_true c135
                      clear c135
                      (first | rw [c135b0] | (simp only [i64_w, i32_w]; rw [c135b0]) | skip)
                      replace H := Option.bind_eq_some_iff.mp H
                      obtain ⟨⟨t1104, t1105, t1108, t1111, t1114, t1115, t1116⟩, A1360, H⟩ := H
                      (try dsimp only at H)
                      have A136 := Aside0.mk A1360
                      clear A1360
                      by_cases c137 : t1116 = 0
                      ·rw [if_pos c137] at H
                       have c137b0 : (t1116 == 0) = true := beq_iff_eq.mpr c137
                       have c137b1 : (t1116 != 0) = false := bne_eq_false_iff_eq.mpr c137
                       clear c137
                       replace H := Option.bind_eq_some_iff.mp H
                       obtain ⟨t1117, A1380, H⟩ := H
                       (try dsimp only at H)
                       have A138 := Aside0.mk A1380
                       clear A1380
                       by_cases c139 : t1117 = true
                       ·subst c139
                        rw [if_pos rfl] at H
                        exact absurd H (by simp)
                       ·replace c139 := Bool.eq_false_iff.mpr c139
                        subst c139
                        rw [if_neg (show ¬ (false = true) by decide)] at H
                        have H' := Aside0.mk H
                        clear H
                        have hnb140 := NB1045_1061.out
                        have hnc140 := NB1061_1045.out
                        have hnb141 := NB1045_1062.out
                        have hnc141 := NB1062_1045.out
                        obtain ⟨z0, z1, z2, z3, z4, z5, y0, y1, y2, y3, y4, y5⟩ := bc6 BK1045
                        go_wp2_with (first | ((with_reducible refine gate_callee (f := 23) rfl ?_); refine goesL_ (some 108) rfl rfl Try.func23 (by kernel_rfl) rfl #[.agg #[.string x1063000_42, .slice Ao131 x1063001_42.length co131, .slice Ao132 x1063002_42.length co132, .slice Ao133 x1063003_42.length co133, .int .i64 x1063004_42, .int .i64 x1063005_42], .int .i64 2, .int .i64 (Int.tmod (wrap64 (a1)) x1062000_42)] rfl sma ?_; (with_reducible refine (install_Acknowledge.calls kj84 x1063000_42 _ _ x1063001_42 _ _ x1063002_42 _ _ x1063003_42 x1063004_42 x1063005_42 2 (Int.tmod (wrap64 (a1)) x1062000_42) t1104 t1105 t1108 t1111 t1114 t1115 t1116 _ ?side1 ?side2 ?side3 ?side4 ?side5 ?side6 A136.out).mono ?_); (case side1 => refine (Kd.R_reads' (e := 3) (base := w.heap.size) (ok := fun k_ => some k_ ≠ (u1062004 : Value).ownBlock) (n := x1063001_42.length) (c := co131) ?_).2.2; exact (rx (Kd.R_mono (Kd.R_far (p := ⟨gb1045, 5, none⟩) (Kd.R_far (p := ⟨gb1045, 4, none⟩) (Kd.R_far (p := ⟨gb1045, 3, none⟩) (Kd.R_far (p := ⟨gb1045, 2, none⟩) (Kd.R_far (p := ⟨gb1045, 1, none⟩) (Kd.R_far (p := ⟨gb1045, 0, none⟩) (Kd.R_types HO_1063001.out BK1045.out (by decide)) (fun _ hk => hk.2) (.string x1063000_42)) (fun _ hk => hk.2) (.slice Ao131 x1063001_42.length co131)) (fun _ hk => hk.2) (.slice Ao132 x1063002_42.length co132)) (fun _ hk => hk.2) (.slice Ao133 x1063003_42.length co133)) (fun _ hk => hk.2) (.int .i64 x1063004_42)) (fun _ hk => hk.2) (.int .i64 x1063005_42)) (fun _ h_ => h_.1)))); (case side2 => exact (Kd.R_reads' HO_1063001.out).2.1); (case side3 => refine (Kd.R_reads' (e := 4) (base := w.heap.size) (ok := fun k_ => (some k_ ≠ (.slice Ao53 x1046003_2.length co53 : Value).ownBlock ∧ some k_ ≠ (.slice Ao133 x1063003_42.length co133 : Value).ownBlock)) (n := x1063002_42.length) (c := co132) ?_).2.2; exact (rx (Kd.R_mono (Kd.R_far (p := ⟨gb1045, 5, none⟩) (Kd.R_far (p := ⟨gb1045, 4, none⟩) (Kd.R_far (p := ⟨gb1045, 3, none⟩) (Kd.R_far (p := ⟨gb1045, 2, none⟩) (Kd.R_far (p := ⟨gb1045, 1, none⟩) (Kd.R_far (p := ⟨gb1045, 0, none⟩) (Kd.R_types HO_1063002.out BK1045.out (by decide)) (fun _ hk => hk.2) (.string x1063000_42)) (fun _ hk => hk.2) (.slice Ao131 x1063001_42.length co131)) (fun _ hk => hk.2) (.slice Ao132 x1063002_42.length co132)) (fun _ hk => hk.2) (.slice Ao133 x1063003_42.length co133)) (fun _ hk => hk.2) (.int .i64 x1063004_42)) (fun _ hk => hk.2) (.int .i64 x1063005_42)) (fun _ h_ => h_.1)))); (case side4 => exact (Kd.R_reads' HO_1063002.out).2.1); (case side5 => refine (Kd.R_reads' (e := 4) (base := w.heap.size) (ok := fun k_ => (some k_ ≠ (.slice Ao52 x1046002_2.length co52 : Value).ownBlock ∧ some k_ ≠ (.slice Ao132 x1063002_42.length co132 : Value).ownBlock)) (n := x1063003_42.length) (c := co133) ?_).2.2; exact (rx (Kd.R_mono (Kd.R_far (p := ⟨gb1045, 5, none⟩) (Kd.R_far (p := ⟨gb1045, 4, none⟩) (Kd.R_far (p := ⟨gb1045, 3, none⟩) (Kd.R_far (p := ⟨gb1045, 2, none⟩) (Kd.R_far (p := ⟨gb1045, 1, none⟩) (Kd.R_far (p := ⟨gb1045, 0, none⟩) (Kd.R_types HO_1063003.out BK1045.out (by decide)) (fun _ hk => hk.2) (.string x1063000_42)) (fun _ hk => hk.2) (.slice Ao131 x1063001_42.length co131)) (fun _ hk => hk.2) (.slice Ao132 x1063002_42.length co132)) (fun _ hk => hk.2) (.slice Ao133 x1063003_42.length co133)) (fun _ hk => hk.2) (.int .i64 x1063004_42)) (fun _ hk => hk.2) (.int .i64 x1063005_42)) (fun _ h_ => h_.1)))); (case side6 => exact (Kd.R_reads' HO_1063003.out).2.1); rintro e w143 ⟨v1106, v1109, v1112, rfl, ho0, ho1, ho2, hb⟩; refine ⟨_, rfl, ?_⟩; have HO1107 := Aside0.mk (Kd.R_lower (Kd.R_new' (Kd.R_new' (Kd.R_new' ho0 (Kd.R_lt (rx (Kd.R_mono (Kd.R_far (p := ⟨gb1045, 5, none⟩) (Kd.R_far (p := ⟨gb1045, 4, none⟩) (Kd.R_far (p := ⟨gb1045, 3, none⟩) (Kd.R_far (p := ⟨gb1045, 2, none⟩) (Kd.R_far (p := ⟨gb1045, 1, none⟩) (Kd.R_far (p := ⟨gb1045, 0, none⟩) (Kd.R_types HO_1046001.out BK1045.out (by decide)) (fun _ hk => hk.2) (.string x1063000_42)) (fun _ hk => hk.2) (.slice Ao131 x1063001_42.length co131)) (fun _ hk => hk.2) (.slice Ao132 x1063002_42.length co132)) (fun _ hk => hk.2) (.slice Ao133 x1063003_42.length co133)) (fun _ hk => hk.2) (.int .i64 x1063004_42)) (fun _ hk => hk.2) (.int .i64 x1063005_42)) (fun _ h_ => h_.1))))) (Kd.R_lt (rx (Kd.R_mono (Kd.R_far (p := ⟨gb1045, 5, none⟩) (Kd.R_far (p := ⟨gb1045, 4, none⟩) (Kd.R_far (p := ⟨gb1045, 3, none⟩) (Kd.R_far (p := ⟨gb1045, 2, none⟩) (Kd.R_far (p := ⟨gb1045, 1, none⟩) (Kd.R_far (p := ⟨gb1045, 0, none⟩) (Kd.R_types HO_1062004.out BK1045.out (by decide)) (fun _ hk => hk.2) (.string x1063000_42)) (fun _ hk => hk.2) (.slice Ao131 x1063001_42.length co131)) (fun _ hk => hk.2) (.slice Ao132 x1063002_42.length co132)) (fun _ hk => hk.2) (.slice Ao133 x1063003_42.length co133)) (fun _ hk => hk.2) (.int .i64 x1063004_42)) (fun _ hk => hk.2) (.int .i64 x1063005_42)) (fun _ h_ => h_.1))))) (Kd.R_lt (rx (Kd.R_mono (Kd.R_far (p := ⟨gb1045, 5, none⟩) (Kd.R_far (p := ⟨gb1045, 4, none⟩) (Kd.R_far (p := ⟨gb1045, 3, none⟩) (Kd.R_far (p := ⟨gb1045, 2, none⟩) (Kd.R_far (p := ⟨gb1045, 1, none⟩) (Kd.R_far (p := ⟨gb1045, 0, none⟩) (Kd.R_types HO_1063001.out BK1045.out (by decide)) (fun _ hk => hk.2) (.string x1063000_42)) (fun _ hk => hk.2) (.slice Ao131 x1063001_42.length co131)) (fun _ hk => hk.2) (.slice Ao132 x1063002_42.length co132)) (fun _ hk => hk.2) (.slice Ao133 x1063003_42.length co133)) (fun _ hk => hk.2) (.int .i64 x1063004_42)) (fun _ hk => hk.2) (.int .i64 x1063005_42)) (fun _ h_ => h_.1))))) (below_size (hbx HB))); replace HO_1046001 := Aside0.mk (Kd.R_elder' (rx (Kd.R_mono (Kd.R_far (p := ⟨gb1045, 5, none⟩) (Kd.R_far (p := ⟨gb1045, 4, none⟩) (Kd.R_far (p := ⟨gb1045, 3, none⟩) (Kd.R_far (p := ⟨gb1045, 2, none⟩) (Kd.R_far (p := ⟨gb1045, 1, none⟩) (Kd.R_far (p := ⟨gb1045, 0, none⟩) (Kd.R_types HO_1046001.out BK1045.out (by decide)) (fun _ hk => hk.2) (.string x1063000_42)) (fun _ hk => hk.2) (.slice Ao131 x1063001_42.length co131)) (fun _ hk => hk.2) (.slice Ao132 x1063002_42.length co132)) (fun _ hk => hk.2) (.slice Ao133 x1063003_42.length co133)) (fun _ hk => hk.2) (.int .i64 x1063004_42)) (fun _ hk => hk.2) (.int .i64 x1063005_42)) (fun _ h_ => h_.1))) (Kd.R_base ho0) hb); replace HO_1062004 := Aside0.mk (Kd.R_elder' (rx (Kd.R_mono (Kd.R_far (p := ⟨gb1045, 5, none⟩) (Kd.R_far (p := ⟨gb1045, 4, none⟩) (Kd.R_far (p := ⟨gb1045, 3, none⟩) (Kd.R_far (p := ⟨gb1045, 2, none⟩) (Kd.R_far (p := ⟨gb1045, 1, none⟩) (Kd.R_far (p := ⟨gb1045, 0, none⟩) (Kd.R_types HO_1062004.out BK1045.out (by decide)) (fun _ hk => hk.2) (.string x1063000_42)) (fun _ hk => hk.2) (.slice Ao131 x1063001_42.length co131)) (fun _ hk => hk.2) (.slice Ao132 x1063002_42.length co132)) (fun _ hk => hk.2) (.slice Ao133 x1063003_42.length co133)) (fun _ hk => hk.2) (.int .i64 x1063004_42)) (fun _ hk => hk.2) (.int .i64 x1063005_42)) (fun _ h_ => h_.1))) (Kd.R_base ho0) hb); replace HO_1063001 := Aside0.mk (Kd.R_elder' (rx (Kd.R_mono (Kd.R_far (p := ⟨gb1045, 5, none⟩) (Kd.R_far (p := ⟨gb1045, 4, none⟩) (Kd.R_far (p := ⟨gb1045, 3, none⟩) (Kd.R_far (p := ⟨gb1045, 2, none⟩) (Kd.R_far (p := ⟨gb1045, 1, none⟩) (Kd.R_far (p := ⟨gb1045, 0, none⟩) (Kd.R_types HO_1063001.out BK1045.out (by decide)) (fun _ hk => hk.2) (.string x1063000_42)) (fun _ hk => hk.2) (.slice Ao131 x1063001_42.length co131)) (fun _ hk => hk.2) (.slice Ao132 x1063002_42.length co132)) (fun _ hk => hk.2) (.slice Ao133 x1063003_42.length co133)) (fun _ hk => hk.2) (.int .i64 x1063004_42)) (fun _ hk => hk.2) (.int .i64 x1063005_42)) (fun _ h_ => h_.1))) (Kd.R_base ho0) hb); have HO1110 := Aside0.mk (Kd.R_lower (Kd.R_new' (Kd.R_new' (Kd.R_new' (Kd.R_new' ho1 (Kd.R_lt (rx (Kd.R_mono (Kd.R_far (p := ⟨gb1045, 5, none⟩) (Kd.R_far (p := ⟨gb1045, 4, none⟩) (Kd.R_far (p := ⟨gb1045, 3, none⟩) (Kd.R_far (p := ⟨gb1045, 2, none⟩) (Kd.R_far (p := ⟨gb1045, 1, none⟩) (Kd.R_far (p := ⟨gb1045, 0, none⟩) (Kd.R_types HO_1046002.out BK1045.out (by decide)) (fun _ hk => hk.2) (.string x1063000_42)) (fun _ hk => hk.2) (.slice Ao131 x1063001_42.length co131)) (fun _ hk => hk.2) (.slice Ao132 x1063002_42.length co132)) (fun _ hk => hk.2) (.slice Ao133 x1063003_42.length co133)) (fun _ hk => hk.2) (.int .i64 x1063004_42)) (fun _ hk => hk.2) (.int .i64 x1063005_42)) (fun _ h_ => h_.1))))) (Kd.R_lt (rx (Kd.R_mono (Kd.R_far (p := ⟨gb1045, 5, none⟩) (Kd.R_far (p := ⟨gb1045, 4, none⟩) (Kd.R_far (p := ⟨gb1045, 3, none⟩) (Kd.R_far (p := ⟨gb1045, 2, none⟩) (Kd.R_far (p := ⟨gb1045, 1, none⟩) (Kd.R_far (p := ⟨gb1045, 0, none⟩) (Kd.R_types HO_1046003.out BK1045.out (by decide)) (fun _ hk => hk.2) (.string x1063000_42)) (fun _ hk => hk.2) (.slice Ao131 x1063001_42.length co131)) (fun _ hk => hk.2) (.slice Ao132 x1063002_42.length co132)) (fun _ hk => hk.2) (.slice Ao133 x1063003_42.length co133)) (fun _ hk => hk.2) (.int .i64 x1063004_42)) (fun _ hk => hk.2) (.int .i64 x1063005_42)) (fun _ h_ => h_.1))))) (Kd.R_lt (rx (Kd.R_mono (Kd.R_far (p := ⟨gb1045, 5, none⟩) (Kd.R_far (p := ⟨gb1045, 4, none⟩) (Kd.R_far (p := ⟨gb1045, 3, none⟩) (Kd.R_far (p := ⟨gb1045, 2, none⟩) (Kd.R_far (p := ⟨gb1045, 1, none⟩) (Kd.R_far (p := ⟨gb1045, 0, none⟩) (Kd.R_types HO_1063002.out BK1045.out (by decide)) (fun _ hk => hk.2) (.string x1063000_42)) (fun _ hk => hk.2) (.slice Ao131 x1063001_42.length co131)) (fun _ hk => hk.2) (.slice Ao132 x1063002_42.length co132)) (fun _ hk => hk.2) (.slice Ao133 x1063003_42.length co133)) (fun _ hk => hk.2) (.int .i64 x1063004_42)) (fun _ hk => hk.2) (.int .i64 x1063005_42)) (fun _ h_ => h_.1))))) (Kd.R_lt (rx (Kd.R_mono (Kd.R_far (p := ⟨gb1045, 5, none⟩) (Kd.R_far (p := ⟨gb1045, 4, none⟩) (Kd.R_far (p := ⟨gb1045, 3, none⟩) (Kd.R_far (p := ⟨gb1045, 2, none⟩) (Kd.R_far (p := ⟨gb1045, 1, none⟩) (Kd.R_far (p := ⟨gb1045, 0, none⟩) (Kd.R_types HO_1063003.out BK1045.out (by decide)) (fun _ hk => hk.2) (.string x1063000_42)) (fun _ hk => hk.2) (.slice Ao131 x1063001_42.length co131)) (fun _ hk => hk.2) (.slice Ao132 x1063002_42.length co132)) (fun _ hk => hk.2) (.slice Ao133 x1063003_42.length co133)) (fun _ hk => hk.2) (.int .i64 x1063004_42)) (fun _ hk => hk.2) (.int .i64 x1063005_42)) (fun _ h_ => h_.1))))) (below_size (hbx HB))); have HO1113 := Aside0.mk (Kd.R_lower (Kd.R_new' (Kd.R_new' (Kd.R_new' (Kd.R_new' ho2 (Kd.R_lt (rx (Kd.R_mono (Kd.R_far (p := ⟨gb1045, 5, none⟩) (Kd.R_far (p := ⟨gb1045, 4, none⟩) (Kd.R_far (p := ⟨gb1045, 3, none⟩) (Kd.R_far (p := ⟨gb1045, 2, none⟩) (Kd.R_far (p := ⟨gb1045, 1, none⟩) (Kd.R_far (p := ⟨gb1045, 0, none⟩) (Kd.R_types HO_1046002.out BK1045.out (by decide)) (fun _ hk => hk.2) (.string x1063000_42)) (fun _ hk => hk.2) (.slice Ao131 x1063001_42.length co131)) (fun _ hk => hk.2) (.slice Ao132 x1063002_42.length co132)) (fun _ hk => hk.2) (.slice Ao133 x1063003_42.length co133)) (fun _ hk => hk.2) (.int .i64 x1063004_42)) (fun _ hk => hk.2) (.int .i64 x1063005_42)) (fun _ h_ => h_.1))))) (Kd.R_lt (rx (Kd.R_mono (Kd.R_far (p := ⟨gb1045, 5, none⟩) (Kd.R_far (p := ⟨gb1045, 4, none⟩) (Kd.R_far (p := ⟨gb1045, 3, none⟩) (Kd.R_far (p := ⟨gb1045, 2, none⟩) (Kd.R_far (p := ⟨gb1045, 1, none⟩) (Kd.R_far (p := ⟨gb1045, 0, none⟩) (Kd.R_types HO_1046003.out BK1045.out (by decide)) (fun _ hk => hk.2) (.string x1063000_42)) (fun _ hk => hk.2) (.slice Ao131 x1063001_42.length co131)) (fun _ hk => hk.2) (.slice Ao132 x1063002_42.length co132)) (fun _ hk => hk.2) (.slice Ao133 x1063003_42.length co133)) (fun _ hk => hk.2) (.int .i64 x1063004_42)) (fun _ hk => hk.2) (.int .i64 x1063005_42)) (fun _ h_ => h_.1))))) (Kd.R_lt (rx (Kd.R_mono (Kd.R_far (p := ⟨gb1045, 5, none⟩) (Kd.R_far (p := ⟨gb1045, 4, none⟩) (Kd.R_far (p := ⟨gb1045, 3, none⟩) (Kd.R_far (p := ⟨gb1045, 2, none⟩) (Kd.R_far (p := ⟨gb1045, 1, none⟩) (Kd.R_far (p := ⟨gb1045, 0, none⟩) (Kd.R_types HO_1063002.out BK1045.out (by decide)) (fun _ hk => hk.2) (.string x1063000_42)) (fun _ hk => hk.2) (.slice Ao131 x1063001_42.length co131)) (fun _ hk => hk.2) (.slice Ao132 x1063002_42.length co132)) (fun _ hk => hk.2) (.slice Ao133 x1063003_42.length co133)) (fun _ hk => hk.2) (.int .i64 x1063004_42)) (fun _ hk => hk.2) (.int .i64 x1063005_42)) (fun _ h_ => h_.1))))) (Kd.R_lt (rx (Kd.R_mono (Kd.R_far (p := ⟨gb1045, 5, none⟩) (Kd.R_far (p := ⟨gb1045, 4, none⟩) (Kd.R_far (p := ⟨gb1045, 3, none⟩) (Kd.R_far (p := ⟨gb1045, 2, none⟩) (Kd.R_far (p := ⟨gb1045, 1, none⟩) (Kd.R_far (p := ⟨gb1045, 0, none⟩) (Kd.R_types HO_1063003.out BK1045.out (by decide)) (fun _ hk => hk.2) (.string x1063000_42)) (fun _ hk => hk.2) (.slice Ao131 x1063001_42.length co131)) (fun _ hk => hk.2) (.slice Ao132 x1063002_42.length co132)) (fun _ hk => hk.2) (.slice Ao133 x1063003_42.length co133)) (fun _ hk => hk.2) (.int .i64 x1063004_42)) (fun _ hk => hk.2) (.int .i64 x1063005_42)) (fun _ h_ => h_.1))))) (below_size (hbx HB))); replace HO_1046002 := Aside0.mk (Kd.R_mono (Kd.R_told (Kd.R_told (Kd.R_old (rx (Kd.R_mono (Kd.R_far (p := ⟨gb1045, 5, none⟩) (Kd.R_far (p := ⟨gb1045, 4, none⟩) (Kd.R_far (p := ⟨gb1045, 3, none⟩) (Kd.R_far (p := ⟨gb1045, 2, none⟩) (Kd.R_far (p := ⟨gb1045, 1, none⟩) (Kd.R_far (p := ⟨gb1045, 0, none⟩) (Kd.R_types HO_1046002.out BK1045.out (by decide)) (fun _ hk => hk.2) (.string x1063000_42)) (fun _ hk => hk.2) (.slice Ao131 x1063001_42.length co131)) (fun _ hk => hk.2) (.slice Ao132 x1063002_42.length co132)) (fun _ hk => hk.2) (.slice Ao133 x1063003_42.length co133)) (fun _ hk => hk.2) (.int .i64 x1063004_42)) (fun _ hk => hk.2) (.int .i64 x1063005_42)) (fun _ h_ => h_.1))) hb) (Kd.R_base ho1)) (Kd.R_base ho2)) (fun _ h_ => h_.1)); replace HO_1046003 := Aside0.mk (Kd.R_mono (Kd.R_told (Kd.R_told (Kd.R_old (rx (Kd.R_mono (Kd.R_far (p := ⟨gb1045, 5, none⟩) (Kd.R_far (p := ⟨gb1045, 4, none⟩) (Kd.R_far (p := ⟨gb1045, 3, none⟩) (Kd.R_far (p := ⟨gb1045, 2, none⟩) (Kd.R_far (p := ⟨gb1045, 1, none⟩) (Kd.R_far (p := ⟨gb1045, 0, none⟩) (Kd.R_types HO_1046003.out BK1045.out (by decide)) (fun _ hk => hk.2) (.string x1063000_42)) (fun _ hk => hk.2) (.slice Ao131 x1063001_42.length co131)) (fun _ hk => hk.2) (.slice Ao132 x1063002_42.length co132)) (fun _ hk => hk.2) (.slice Ao133 x1063003_42.length co133)) (fun _ hk => hk.2) (.int .i64 x1063004_42)) (fun _ hk => hk.2) (.int .i64 x1063005_42)) (fun _ h_ => h_.1))) hb) (Kd.R_base ho1)) (Kd.R_base ho2)) (fun _ h_ => h_.1)); replace HO_1063002 := Aside0.mk (Kd.R_mono (Kd.R_told (Kd.R_told (Kd.R_old (rx (Kd.R_mono (Kd.R_far (p := ⟨gb1045, 5, none⟩) (Kd.R_far (p := ⟨gb1045, 4, none⟩) (Kd.R_far (p := ⟨gb1045, 3, none⟩) (Kd.R_far (p := ⟨gb1045, 2, none⟩) (Kd.R_far (p := ⟨gb1045, 1, none⟩) (Kd.R_far (p := ⟨gb1045, 0, none⟩) (Kd.R_types HO_1063002.out BK1045.out (by decide)) (fun _ hk => hk.2) (.string x1063000_42)) (fun _ hk => hk.2) (.slice Ao131 x1063001_42.length co131)) (fun _ hk => hk.2) (.slice Ao132 x1063002_42.length co132)) (fun _ hk => hk.2) (.slice Ao133 x1063003_42.length co133)) (fun _ hk => hk.2) (.int .i64 x1063004_42)) (fun _ hk => hk.2) (.int .i64 x1063005_42)) (fun _ h_ => h_.1))) hb) (Kd.R_base ho1)) (Kd.R_base ho2)) (fun _ h_ => h_.1)); replace HO_1063003 := Aside0.mk (Kd.R_mono (Kd.R_told (Kd.R_told (Kd.R_old (rx (Kd.R_mono (Kd.R_far (p := ⟨gb1045, 5, none⟩) (Kd.R_far (p := ⟨gb1045, 4, none⟩) (Kd.R_far (p := ⟨gb1045, 3, none⟩) (Kd.R_far (p := ⟨gb1045, 2, none⟩) (Kd.R_far (p := ⟨gb1045, 1, none⟩) (Kd.R_far (p := ⟨gb1045, 0, none⟩) (Kd.R_types HO_1063003.out BK1045.out (by decide)) (fun _ hk => hk.2) (.string x1063000_42)) (fun _ hk => hk.2) (.slice Ao131 x1063001_42.length co131)) (fun _ hk => hk.2) (.slice Ao132 x1063002_42.length co132)) (fun _ hk => hk.2) (.slice Ao133 x1063003_42.length co133)) (fun _ hk => hk.2) (.int .i64 x1063004_42)) (fun _ hk => hk.2) (.int .i64 x1063005_42)) (fun _ h_ => h_.1))) hb) (Kd.R_base ho1)) (Kd.R_base ho2)) (fun _ h_ => h_.1)); replace BK1045 := Aside0.mk (blk_below (o := .cells #[.string x1063000_42, .slice Ao131 x1063001_42.length co131, .slice Ao132 x1063002_42.length co132, .slice Ao133 x1063003_42.length co133, .int .i64 x1063004_42, .int .i64 x1063005_42] 50 (0, 0)) (bkp BK1045) hb); replace BK1061 := bkfB BK1061 hb; replace BK1062 := bkfB BK1062 hb; replace HB := hbS HB hb; (try clear hb); (try clear hb2); (try clear hk); (try clear hi); (try clear ho0); (try clear ho1); (try clear ho2); obtain ⟨z0, z1, z2, z3, z4, z5, y0, y1, y2, y3, y4, y5⟩ := bc6 BK1045; obtain ⟨Ao145, co145, eo145⟩ := Kd.R_slice HO1107.out; subst eo145; obtain ⟨Ao146, co146, eo146⟩ := Kd.R_slice HO1110.out; subst eo146; obtain ⟨Ao147, co147, eo147⟩ := Kd.R_slice HO1113.out; subst eo147) | (go_at_call 21; (with_reducible refine (install_Agreed.calls kj84 t1104 _ _ t1105 _ _ t1108 _ _ t1111 t1114 t1115 false _ ?side1 ?side2 ?side3 ?side4 ?side5 ?side6 A138.out).mono ?_); (case side1 => refine (Kd.R_reads' (e := 3) (base := w.heap.size) (ok := fun k_ => (((True ∧ some k_ ≠ (.slice Ao51 x1046001_2.length co51 : Value).ownBlock) ∧ some k_ ≠ (u1062004 : Value).ownBlock) ∧ some k_ ≠ (.slice Ao131 x1063001_42.length co131 : Value).ownBlock)) (n := t1105.length) (c := co145) ?_).2.2; exact (rx (Kd.R_mono (Kd.R_far (p := ⟨gb1045, 5, none⟩) (Kd.R_far (p := ⟨gb1045, 4, none⟩) (Kd.R_far (p := ⟨gb1045, 3, none⟩) (Kd.R_far (p := ⟨gb1045, 2, none⟩) (Kd.R_far (p := ⟨gb1045, 1, none⟩) (Kd.R_far (p := ⟨gb1045, 0, none⟩) (Kd.R_types HO1107.out BK1045.out (by decide)) (fun _ hk => hk.2) (.string t1104)) (fun _ hk => hk.2) (.slice Ao145 t1105.length co145)) (fun _ hk => hk.2) (.slice Ao146 t1108.length co146)) (fun _ hk => hk.2) (.slice Ao147 t1111.length co147)) (fun _ hk => hk.2) (.int .i64 t1114)) (fun _ hk => hk.2) (.int .i64 t1115)) (fun _ h_ => h_.1)))); (case side2 => exact (Kd.R_reads' HO1107.out).2.1); (case side3 => refine (Kd.R_reads' (e := 4) (base := w.heap.size) (ok := fun k_ => ((((some k_ ≠ (.slice Ao147 t1111.length co147 : Value).ownBlock ∧ some k_ ≠ (.slice Ao52 x1046002_2.length co52 : Value).ownBlock) ∧ some k_ ≠ (.slice Ao53 x1046003_2.length co53 : Value).ownBlock) ∧ some k_ ≠ (.slice Ao132 x1063002_42.length co132 : Value).ownBlock) ∧ some k_ ≠ (.slice Ao133 x1063003_42.length co133 : Value).ownBlock)) (n := t1108.length) (c := co146) ?_).2.2; exact (rx (Kd.R_mono (Kd.R_far (p := ⟨gb1045, 5, none⟩) (Kd.R_far (p := ⟨gb1045, 4, none⟩) (Kd.R_far (p := ⟨gb1045, 3, none⟩) (Kd.R_far (p := ⟨gb1045, 2, none⟩) (Kd.R_far (p := ⟨gb1045, 1, none⟩) (Kd.R_far (p := ⟨gb1045, 0, none⟩) (Kd.R_types HO1110.out BK1045.out (by decide)) (fun _ hk => hk.2) (.string t1104)) (fun _ hk => hk.2) (.slice Ao145 t1105.length co145)) (fun _ hk => hk.2) (.slice Ao146 t1108.length co146)) (fun _ hk => hk.2) (.slice Ao147 t1111.length co147)) (fun _ hk => hk.2) (.int .i64 t1114)) (fun _ hk => hk.2) (.int .i64 t1115)) (fun _ h_ => h_.1)))); (case side4 => exact (Kd.R_reads' HO1110.out).2.1); (case side5 => refine (Kd.R_reads' (e := 4) (base := w.heap.size) (ok := fun k_ => ((((some k_ ≠ (.slice Ao146 t1108.length co146 : Value).ownBlock ∧ some k_ ≠ (.slice Ao52 x1046002_2.length co52 : Value).ownBlock) ∧ some k_ ≠ (.slice Ao53 x1046003_2.length co53 : Value).ownBlock) ∧ some k_ ≠ (.slice Ao132 x1063002_42.length co132 : Value).ownBlock) ∧ some k_ ≠ (.slice Ao133 x1063003_42.length co133 : Value).ownBlock)) (n := t1111.length) (c := co147) ?_).2.2; exact (rx (Kd.R_mono (Kd.R_far (p := ⟨gb1045, 5, none⟩) (Kd.R_far (p := ⟨gb1045, 4, none⟩) (Kd.R_far (p := ⟨gb1045, 3, none⟩) (Kd.R_far (p := ⟨gb1045, 2, none⟩) (Kd.R_far (p := ⟨gb1045, 1, none⟩) (Kd.R_far (p := ⟨gb1045, 0, none⟩) (Kd.R_types HO1113.out BK1045.out (by decide)) (fun _ hk => hk.2) (.string t1104)) (fun _ hk => hk.2) (.slice Ao145 t1105.length co145)) (fun _ hk => hk.2) (.slice Ao146 t1108.length co146)) (fun _ hk => hk.2) (.slice Ao147 t1111.length co147)) (fun _ hk => hk.2) (.int .i64 t1114)) (fun _ hk => hk.2) (.int .i64 t1115)) (fun _ h_ => h_.1)))); (case side6 => exact (Kd.R_reads' HO1113.out).2.1); rintro e w148 ⟨rfl, hb⟩; replace HO_1046001 := Aside0.mk (Kd.R_below (rx (Kd.R_mono (Kd.R_far (p := ⟨gb1045, 5, none⟩) (Kd.R_far (p := ⟨gb1045, 4, none⟩) (Kd.R_far (p := ⟨gb1045, 3, none⟩) (Kd.R_far (p := ⟨gb1045, 2, none⟩) (Kd.R_far (p := ⟨gb1045, 1, none⟩) (Kd.R_far (p := ⟨gb1045, 0, none⟩) (Kd.R_types HO_1046001.out BK1045.out (by decide)) (fun _ hk => hk.2) (.string t1104)) (fun _ hk => hk.2) (.slice Ao145 t1105.length co145)) (fun _ hk => hk.2) (.slice Ao146 t1108.length co146)) (fun _ hk => hk.2) (.slice Ao147 t1111.length co147)) (fun _ hk => hk.2) (.int .i64 t1114)) (fun _ hk => hk.2) (.int .i64 t1115)) (fun _ h_ => h_.1))) hb); replace HO_1046002 := Aside0.mk (Kd.R_below (rx (Kd.R_mono (Kd.R_far (p := ⟨gb1045, 5, none⟩) (Kd.R_far (p := ⟨gb1045, 4, none⟩) (Kd.R_far (p := ⟨gb1045, 3, none⟩) (Kd.R_far (p := ⟨gb1045, 2, none⟩) (Kd.R_far (p := ⟨gb1045, 1, none⟩) (Kd.R_far (p := ⟨gb1045, 0, none⟩) (Kd.R_types HO_1046002.out BK1045.out (by decide)) (fun _ hk => hk.2) (.string t1104)) (fun _ hk => hk.2) (.slice Ao145 t1105.length co145)) (fun _ hk => hk.2) (.slice Ao146 t1108.length co146)) (fun _ hk => hk.2) (.slice Ao147 t1111.length co147)) (fun _ hk => hk.2) (.int .i64 t1114)) (fun _ hk => hk.2) (.int .i64 t1115)) (fun _ h_ => h_.1))) hb); replace HO_1046003 := Aside0.mk (Kd.R_below (rx (Kd.R_mono (Kd.R_far (p := ⟨gb1045, 5, none⟩) (Kd.R_far (p := ⟨gb1045, 4, none⟩) (Kd.R_far (p := ⟨gb1045, 3, none⟩) (Kd.R_far (p := ⟨gb1045, 2, none⟩) (Kd.R_far (p := ⟨gb1045, 1, none⟩) (Kd.R_far (p := ⟨gb1045, 0, none⟩) (Kd.R_types HO_1046003.out BK1045.out (by decide)) (fun _ hk => hk.2) (.string t1104)) (fun _ hk => hk.2) (.slice Ao145 t1105.length co145)) (fun _ hk => hk.2) (.slice Ao146 t1108.length co146)) (fun _ hk => hk.2) (.slice Ao147 t1111.length co147)) (fun _ hk => hk.2) (.int .i64 t1114)) (fun _ hk => hk.2) (.int .i64 t1115)) (fun _ h_ => h_.1))) hb); replace HO_1062004 := Aside0.mk (Kd.R_below (rx (Kd.R_mono (Kd.R_far (p := ⟨gb1045, 5, none⟩) (Kd.R_far (p := ⟨gb1045, 4, none⟩) (Kd.R_far (p := ⟨gb1045, 3, none⟩) (Kd.R_far (p := ⟨gb1045, 2, none⟩) (Kd.R_far (p := ⟨gb1045, 1, none⟩) (Kd.R_far (p := ⟨gb1045, 0, none⟩) (Kd.R_types HO_1062004.out BK1045.out (by decide)) (fun _ hk => hk.2) (.string t1104)) (fun _ hk => hk.2) (.slice Ao145 t1105.length co145)) (fun _ hk => hk.2) (.slice Ao146 t1108.length co146)) (fun _ hk => hk.2) (.slice Ao147 t1111.length co147)) (fun _ hk => hk.2) (.int .i64 t1114)) (fun _ hk => hk.2) (.int .i64 t1115)) (fun _ h_ => h_.1))) hb); replace HO_1063001 := Aside0.mk (Kd.R_below (rx (Kd.R_mono (Kd.R_far (p := ⟨gb1045, 5, none⟩) (Kd.R_far (p := ⟨gb1045, 4, none⟩) (Kd.R_far (p := ⟨gb1045, 3, none⟩) (Kd.R_far (p := ⟨gb1045, 2, none⟩) (Kd.R_far (p := ⟨gb1045, 1, none⟩) (Kd.R_far (p := ⟨gb1045, 0, none⟩) (Kd.R_types HO_1063001.out BK1045.out (by decide)) (fun _ hk => hk.2) (.string t1104)) (fun _ hk => hk.2) (.slice Ao145 t1105.length co145)) (fun _ hk => hk.2) (.slice Ao146 t1108.length co146)) (fun _ hk => hk.2) (.slice Ao147 t1111.length co147)) (fun _ hk => hk.2) (.int .i64 t1114)) (fun _ hk => hk.2) (.int .i64 t1115)) (fun _ h_ => h_.1))) hb); replace HO_1063002 := Aside0.mk (Kd.R_below (rx (Kd.R_mono (Kd.R_far (p := ⟨gb1045, 5, none⟩) (Kd.R_far (p := ⟨gb1045, 4, none⟩) (Kd.R_far (p := ⟨gb1045, 3, none⟩) (Kd.R_far (p := ⟨gb1045, 2, none⟩) (Kd.R_far (p := ⟨gb1045, 1, none⟩) (Kd.R_far (p := ⟨gb1045, 0, none⟩) (Kd.R_types HO_1063002.out BK1045.out (by decide)) (fun _ hk => hk.2) (.string t1104)) (fun _ hk => hk.2) (.slice Ao145 t1105.length co145)) (fun _ hk => hk.2) (.slice Ao146 t1108.length co146)) (fun _ hk => hk.2) (.slice Ao147 t1111.length co147)) (fun _ hk => hk.2) (.int .i64 t1114)) (fun _ hk => hk.2) (.int .i64 t1115)) (fun _ h_ => h_.1))) hb); replace HO_1063003 := Aside0.mk (Kd.R_below (rx (Kd.R_mono (Kd.R_far (p := ⟨gb1045, 5, none⟩) (Kd.R_far (p := ⟨gb1045, 4, none⟩) (Kd.R_far (p := ⟨gb1045, 3, none⟩) (Kd.R_far (p := ⟨gb1045, 2, none⟩) (Kd.R_far (p := ⟨gb1045, 1, none⟩) (Kd.R_far (p := ⟨gb1045, 0, none⟩) (Kd.R_types HO_1063003.out BK1045.out (by decide)) (fun _ hk => hk.2) (.string t1104)) (fun _ hk => hk.2) (.slice Ao145 t1105.length co145)) (fun _ hk => hk.2) (.slice Ao146 t1108.length co146)) (fun _ hk => hk.2) (.slice Ao147 t1111.length co147)) (fun _ hk => hk.2) (.int .i64 t1114)) (fun _ hk => hk.2) (.int .i64 t1115)) (fun _ h_ => h_.1))) hb); replace HO1107 := Aside0.mk (Kd.R_below (rx (Kd.R_mono (Kd.R_far (p := ⟨gb1045, 5, none⟩) (Kd.R_far (p := ⟨gb1045, 4, none⟩) (Kd.R_far (p := ⟨gb1045, 3, none⟩) (Kd.R_far (p := ⟨gb1045, 2, none⟩) (Kd.R_far (p := ⟨gb1045, 1, none⟩) (Kd.R_far (p := ⟨gb1045, 0, none⟩) (Kd.R_types HO1107.out BK1045.out (by decide)) (fun _ hk => hk.2) (.string t1104)) (fun _ hk => hk.2) (.slice Ao145 t1105.length co145)) (fun _ hk => hk.2) (.slice Ao146 t1108.length co146)) (fun _ hk => hk.2) (.slice Ao147 t1111.length co147)) (fun _ hk => hk.2) (.int .i64 t1114)) (fun _ hk => hk.2) (.int .i64 t1115)) (fun _ h_ => h_.1))) hb); replace HO1110 := Aside0.mk (Kd.R_below (rx (Kd.R_mono (Kd.R_far (p := ⟨gb1045, 5, none⟩) (Kd.R_far (p := ⟨gb1045, 4, none⟩) (Kd.R_far (p := ⟨gb1045, 3, none⟩) (Kd.R_far (p := ⟨gb1045, 2, none⟩) (Kd.R_far (p := ⟨gb1045, 1, none⟩) (Kd.R_far (p := ⟨gb1045, 0, none⟩) (Kd.R_types HO1110.out BK1045.out (by decide)) (fun _ hk => hk.2) (.string t1104)) (fun _ hk => hk.2) (.slice Ao145 t1105.length co145)) (fun _ hk => hk.2) (.slice Ao146 t1108.length co146)) (fun _ hk => hk.2) (.slice Ao147 t1111.length co147)) (fun _ hk => hk.2) (.int .i64 t1114)) (fun _ hk => hk.2) (.int .i64 t1115)) (fun _ h_ => h_.1))) hb); replace HO1113 := Aside0.mk (Kd.R_below (rx (Kd.R_mono (Kd.R_far (p := ⟨gb1045, 5, none⟩) (Kd.R_far (p := ⟨gb1045, 4, none⟩) (Kd.R_far (p := ⟨gb1045, 3, none⟩) (Kd.R_far (p := ⟨gb1045, 2, none⟩) (Kd.R_far (p := ⟨gb1045, 1, none⟩) (Kd.R_far (p := ⟨gb1045, 0, none⟩) (Kd.R_types HO1113.out BK1045.out (by decide)) (fun _ hk => hk.2) (.string t1104)) (fun _ hk => hk.2) (.slice Ao145 t1105.length co145)) (fun _ hk => hk.2) (.slice Ao146 t1108.length co146)) (fun _ hk => hk.2) (.slice Ao147 t1111.length co147)) (fun _ hk => hk.2) (.int .i64 t1114)) (fun _ hk => hk.2) (.int .i64 t1115)) (fun _ h_ => h_.1))) hb); replace BK1045 := Aside0.mk (blk_below (o := .cells #[.string t1104, .slice Ao145 t1105.length co145, .slice Ao146 t1108.length co146, .slice Ao147 t1111.length co147, .int .i64 t1114, .int .i64 t1115] 50 (0, 0)) (bkp BK1045) hb); replace BK1061 := bkfB BK1061 hb; replace BK1062 := bkfB BK1062 hb; replace HB := hbS HB hb; (try clear hb); (try clear hb2); (try clear hk); (try clear hi)))
                        go_meet
                        case rel => exact ⟨_, (t1104), (t1105), (t1108), (t1111), (t1114), (t1115), (.slice Ao145 t1105.length co145), (.slice Ao146 t1108.length co146), (.slice Ao147 t1111.length co147), H', ⟨by have := HJ2.out; have := HK2.out; have := HJ42.out; have := HJ79.out; have := HJ84.out; first | omega | exact Nat.le_refl _⟩, ⟨by (with_reducible repeat (first | apply Kd.R_alloc | apply Kd.R_drewN | apply Kd.R_drew)); exact Kd.R_mono HO1107.out (fun _ hk => hk.1.2)⟩, ⟨by (with_reducible repeat (first | apply Kd.R_alloc | apply Kd.R_drewN | apply Kd.R_drew)); exact Kd.R_mono HO1110.out (fun _ hk => ⟨hk.1.1.1.1, hk.2⟩)⟩, ⟨by (with_reducible repeat (first | apply Kd.R_alloc | apply Kd.R_drewN | apply Kd.R_drew)); exact Kd.R_mono HO1113.out (fun _ hk => ⟨hk.1.1.1.1, hk.1.2⟩)⟩, ⟨by (with_reducible repeat (first | apply Kd.R_alloc | apply Kd.R_drewN | apply Kd.R_drew)); exact Kd.R_mono HO_1062004.out (fun _ hk => ⟨hk.2, hk.1.2⟩)⟩, ⟨by (with_reducible repeat (first | apply Kd.R_alloc | apply Kd.R_drewN | apply Kd.R_drew)); exact Kd.R_mono HO_1063001.out (fun _ hk => hk.1)⟩, ⟨by (with_reducible repeat (first | apply Kd.R_alloc | apply Kd.R_drewN | apply Kd.R_drew)); exact Kd.R_mono HO_1063002.out (fun _ hk => ⟨hk.2, hk.1.1.2⟩)⟩, ⟨by (with_reducible repeat (first | apply Kd.R_alloc | apply Kd.R_drewN | apply Kd.R_drew)); exact Kd.R_mono HO_1063003.out (fun _ hk => ⟨hk.1.2, hk.1.1.2⟩)⟩, bkA BK1045, bkA BK1061, bkA BK1062, hbA HB⟩
                      ·rw [if_neg c137] at H
                       exact absurd H (by simp)
                     ·rw [if_neg c135] at H
                      have c135b0 : decide (0 < (Int.tmod (wrap64 (a1)) x1062000_42)) = false := decide_eq_false c135
                      clear c135
                      (first | rw [c135b0] | (simp only [i64_w, i32_w]; rw [c135b0]) | skip)
                      have H' := Aside0.mk H
                      clear H
                      go_wp2
                      go_meet
                      case rel => exact ⟨_, (x1063000_42), (x1063001_42), (x1063002_42), (x1063003_42), (x1063004_42), (x1063005_42), (.slice Ao131 x1063001_42.length co131), (.slice Ao132 x1063002_42.length co132), (.slice Ao133 x1063003_42.length co133), H', ⟨by have := HJ2.out; have := HK2.out; have := HJ42.out; have := HJ79.out; have := HJ84.out; first | omega | exact Nat.le_refl _⟩, rfA HO_1063001, ⟨Kd.R_mono (rty (rfo HO_1063002) BK1045) (fun _ hk => ⟨hk.1.2, hk.1.2⟩)⟩, ⟨Kd.R_mono (rty (rfo HO_1063003) BK1045) (fun _ hk => ⟨hk.1.2, hk.1.2⟩)⟩, ⟨Kd.R_mono (rty (rfo HO_1062004) BK1045) (fun _ hk => ⟨hk.1.2, hk.1.2⟩)⟩, rfA HO_1063001, ⟨Kd.R_mono (rty (rfo HO_1063002) BK1045) (fun _ hk => ⟨hk.1.2, hk.1.2⟩)⟩, ⟨Kd.R_mono (rty (rfo HO_1063003) BK1045) (fun _ hk => ⟨hk.1.2, hk.1.2⟩)⟩, bkpA BK1045, bkfA BK1061, bkfA BK1062, hbA HB⟩
                    case rest =>
                     clear HC125
                     try clear c8
                     try clear c13
                     try clear c13b0
                     try clear c13b1
                     try clear c16
                     try clear c16b0
                     try clear c16b1
                     try clear c40
                     try clear c40b0
                     try clear c41
                     try clear c41b0
                     try clear c42
                     try clear c42b0
                     try clear c83
                     try clear c123
                     try clear c124
                     try clear c124b0
                     try clear c124b1
                     try clear hcz128_0
                     try clear hcz128_1
                     try clear hcz128_2
                     try clear hcz128_3
                     try clear hcz128_4
                     try clear hcz128_5
                     try clear hcz130_0
                     try clear hcz130_1
                     try clear hcz130_2
                     try clear hcz130_3
                     try clear hcz130_4
                     try clear hcz130_5
                     try clear hcz134_0
                     try clear hcz134_1
                     try clear hcz134_2
                     try clear hcz134_3
                     try clear hcz134_4
                     try clear hcz23_0
                     try clear hcz23_1
                     try clear hcz23_2
                     try clear hcz23_3
                     try clear hcz23_4
                     try clear hcz23_5
                     try clear hcz46_0
                     try clear hcz46_1
                     try clear hcz46_2
                     try clear hcz46_3
                     try clear hcz46_4
                     try clear hcz46_5
                     try clear hcz50_0
                     try clear hcz50_1
                     try clear hcz50_2
                     try clear hcz50_3
                     try clear hcz50_4
                     try clear hcz50_5
                     try clear hfz128_0
                     try clear hfz128_1
                     try clear hfz128_2
                     try clear hfz128_3
                     try clear hfz128_4
                     try clear hfz128_5
                     try clear hfz130_0
                     try clear hfz130_1
                     try clear hfz130_2
                     try clear hfz130_3
                     try clear hfz130_4
                     try clear hfz130_5
                     try clear hfz134_0
                     try clear hfz134_1
                     try clear hfz134_2
                     try clear hfz134_3
                     try clear hfz134_4
                     try clear hfz23_0
                     try clear hfz23_1
                     try clear hfz23_2
                     try clear hfz23_3
                     try clear hfz23_4
                     try clear hfz23_5
                     try clear hfz46_0
                     try clear hfz46_1
                     try clear hfz46_2
                     try clear hfz46_3
                     try clear hfz46_4
                     try clear hfz46_5
                     try clear hfz50_0
                     try clear hfz50_1
                     try clear hfz50_2
                     try clear hfz50_3
                     try clear hfz50_4
                     try clear hfz50_5
                     try clear hx1060_0
                     try clear p1060
                     try clear q1060
                     obtain ⟨kq, x1046000_124, x1046001_124, x1046002_124, x1046003_124, x1046004_124, x1046005_124, u1046001, u1046002, u1046003, HA, HJ124, HO_1046001, HO_1046002, HO_1046003, HO_1062004, HO_1063001, HO_1063002, HO_1063003, BK1045, BK1061, BK1062, HB⟩ := hcut
                     cases kq with
                     | zero => exact absurd HA.out (by simp [hopmeshlaw49_InstallNumbers.j5])
                     | succ kj124 =>
                      have H := HA.out
                      clear HA
                      simp only [hopmeshlaw49_InstallNumbers.j5] at H
                      replace H := Option.bind_eq_some_iff.mp H
                      obtain ⟨⟨t1118, t1119, t1122, t1125, t1128, t1129, t1130⟩, A1490, H⟩ := H
                      (try dsimp only at H)
                      have A149 := Aside0.mk A1490
                      clear A1490
                      by_cases c150 : t1130 = 0
                      ·rw [if_pos c150] at H
                       have c150b0 : (t1130 == 0) = true := beq_iff_eq.mpr c150
                       have c150b1 : (t1130 != 0) = false := bne_eq_false_iff_eq.mpr c150
                       clear c150
                       replace H := Option.bind_eq_some_iff.mp H
                       obtain ⟨t1131, A1510, H⟩ := H
                       (try dsimp only at H)
                       have A151 := Aside0.mk A1510
                       clear A1510
                       by_cases c152 : (t1131 == bw) = true
                       ·rw [if_pos c152] at H
                        exact absurd H (by simp)
                       ·rw [if_neg c152] at H
                        have c152b0 : (t1131 == bw) = false := by simpa using c152
                        (try (have c152b1 : decide (t1131 = bw) = false := by simpa using c152))
                        (try (have c152b2 : (t1131 == bw) = false := by simpa using c152))
                        (try (have c152b3 : ¬ (t1131 = bw) := by simpa using c152))
                        clear c152
                        have H' := Aside0.mk H
                        clear H
                        have hnb153 := NB1045_1061.out
                        have hnc153 := NB1061_1045.out
                        have hnb154 := NB1045_1062.out
                        have hnc154 := NB1062_1045.out
                        obtain ⟨z0, z1, z2, z3, z4, z5, y0, y1, y2, y3, y4, y5⟩ := bc6 BK1045
                        have hnb156 := NB1061_1062.out
                        have hnc156 := NB1062_1061.out
                        obtain ⟨z0, z1, z2, z3, z4, y0, y1, y2, y3, y4⟩ := bc5 BK1061
                        obtain ⟨Ao158, co158, eo158⟩ := Kd.R_slice HO_1046001.out
                        subst eo158
                        obtain ⟨Ao159, co159, eo159⟩ := Kd.R_slice HO_1046002.out
                        subst eo159
                        obtain ⟨Ao160, co160, eo160⟩ := Kd.R_slice HO_1046003.out
                        subst eo160
                        go_wp2_with (first | ((with_reducible refine gate_callee (f := 23) rfl ?_); refine goesL_ (some 121) rfl rfl Try.func23 (by kernel_rfl) rfl #[.agg #[.string x1046000_124, .slice Ao158 x1046001_124.length co158, .slice Ao159 x1046002_124.length co159, .slice Ao160 x1046003_124.length co160, .int .i64 x1046004_124, .int .i64 x1046005_124], .int .i64 2, .int .i64 x1062000_42] rfl sma ?_; (with_reducible refine (install_Acknowledge.calls kj124 x1046000_124 _ _ x1046001_124 _ _ x1046002_124 _ _ x1046003_124 x1046004_124 x1046005_124 2 x1062000_42 t1118 t1119 t1122 t1125 t1128 t1129 t1130 _ ?side1 ?side2 ?side3 ?side4 ?side5 ?side6 A149.out).mono ?_); (case side1 => repeat (first | exact (Kd.R_reads' HO_1046001.out).2.2 | (with_reducible refine Kd.C_alloc ?_ _) | (with_reducible refine Kd.C_drewN ?_ _) | (with_reducible refine Kd.C_drew ?_))); (case side2 => exact (Kd.R_reads' HO_1046001.out).2.1); (case side3 => repeat (first | exact (Kd.R_reads' HO_1046002.out).2.2 | (with_reducible refine Kd.C_alloc ?_ _) | (with_reducible refine Kd.C_drewN ?_ _) | (with_reducible refine Kd.C_drew ?_))); (case side4 => exact (Kd.R_reads' HO_1046002.out).2.1); (case side5 => repeat (first | exact (Kd.R_reads' HO_1046003.out).2.2 | (with_reducible refine Kd.C_alloc ?_ _) | (with_reducible refine Kd.C_drewN ?_ _) | (with_reducible refine Kd.C_drew ?_))); (case side6 => exact (Kd.R_reads' HO_1046003.out).2.1); rintro e w161 ⟨v1120, v1123, v1126, rfl, ho0, ho1, ho2, hb⟩; refine ⟨_, rfl, ?_⟩; have HO1121 := Aside0.mk (Kd.R_lower (Kd.R_new' (Kd.R_new' (Kd.R_new' ho0 (Kd.R_lt (ro HO_1046001))) (Kd.R_lt (ro HO_1062004))) (Kd.R_lt (ro HO_1063001))) (below_size (hbx HB))); replace HO_1046001 := Aside0.mk (Kd.R_elder' (ro HO_1046001) (Kd.R_base ho0) hb); replace HO_1062004 := Aside0.mk (Kd.R_elder' (ro HO_1062004) (Kd.R_base ho0) hb); replace HO_1063001 := Aside0.mk (Kd.R_elder' (ro HO_1063001) (Kd.R_base ho0) hb); have HO1124 := Aside0.mk (Kd.R_lower (Kd.R_new' (Kd.R_new' (Kd.R_new' (Kd.R_new' ho1 (Kd.R_lt (ro HO_1046002))) (Kd.R_lt (ro HO_1046003))) (Kd.R_lt (ro HO_1063002))) (Kd.R_lt (ro HO_1063003))) (below_size (hbx HB))); have HO1127 := Aside0.mk (Kd.R_lower (Kd.R_new' (Kd.R_new' (Kd.R_new' (Kd.R_new' ho2 (Kd.R_lt (ro HO_1046002))) (Kd.R_lt (ro HO_1046003))) (Kd.R_lt (ro HO_1063002))) (Kd.R_lt (ro HO_1063003))) (below_size (hbx HB))); replace HO_1046002 := Aside0.mk (Kd.R_mono (Kd.R_told (Kd.R_told (Kd.R_old (ro HO_1046002) hb) (Kd.R_base ho1)) (Kd.R_base ho2)) (fun _ h_ => h_.1)); replace HO_1046003 := Aside0.mk (Kd.R_mono (Kd.R_told (Kd.R_told (Kd.R_old (ro HO_1046003) hb) (Kd.R_base ho1)) (Kd.R_base ho2)) (fun _ h_ => h_.1)); replace HO_1063002 := Aside0.mk (Kd.R_mono (Kd.R_told (Kd.R_told (Kd.R_old (ro HO_1063002) hb) (Kd.R_base ho1)) (Kd.R_base ho2)) (fun _ h_ => h_.1)); replace HO_1063003 := Aside0.mk (Kd.R_mono (Kd.R_told (Kd.R_told (Kd.R_old (ro HO_1063003) hb) (Kd.R_base ho1)) (Kd.R_base ho2)) (fun _ h_ => h_.1)); replace BK1045 := bkB BK1045 hb; replace BK1061 := bkB BK1061 hb; replace BK1062 := bkB BK1062 hb; replace HB := hbS HB hb; (try clear hb); (try clear hb2); (try clear hk); (try clear hi); (try clear ho0); (try clear ho1); (try clear ho2); obtain ⟨z0, z1, z2, z3, z4, z5, y0, y1, y2, y3, y4, y5⟩ := bc6 BK1045; obtain ⟨Ao163, co163, eo163⟩ := Kd.R_slice HO1121.out; subst eo163; obtain ⟨Ao164, co164, eo164⟩ := Kd.R_slice HO1124.out; subst eo164; obtain ⟨Ao165, co165, eo165⟩ := Kd.R_slice HO1127.out; subst eo165) | (go_at_call 21; (with_reducible refine (install_Agreed.calls kj124 t1118 _ _ t1119 _ _ t1122 _ _ t1125 t1128 t1129 t1131 _ ?side1 ?side2 ?side3 ?side4 ?side5 ?side6 A151.out).mono ?_); (case side1 => refine (Kd.R_reads' (e := 3) (base := w.heap.size) (ok := fun k_ => (((True ∧ some k_ ≠ (.slice Ao158 x1046001_124.length co158 : Value).ownBlock) ∧ some k_ ≠ (u1062004 : Value).ownBlock) ∧ some k_ ≠ (.slice Ao131 x1063001_42.length co131 : Value).ownBlock)) (n := t1119.length) (c := co163) ?_).2.2; exact (rx (Kd.R_mono (Kd.R_far (p := ⟨gb1045, 5, none⟩) (Kd.R_far (p := ⟨gb1045, 4, none⟩) (Kd.R_far (p := ⟨gb1045, 3, none⟩) (Kd.R_far (p := ⟨gb1045, 2, none⟩) (Kd.R_far (p := ⟨gb1045, 1, none⟩) (Kd.R_far (p := ⟨gb1045, 0, none⟩) (Kd.R_types HO1121.out BK1045.out (by decide)) (fun _ hk => hk.2) (.string t1118)) (fun _ hk => hk.2) (.slice Ao163 t1119.length co163)) (fun _ hk => hk.2) (.slice Ao164 t1122.length co164)) (fun _ hk => hk.2) (.slice Ao165 t1125.length co165)) (fun _ hk => hk.2) (.int .i64 t1128)) (fun _ hk => hk.2) (.int .i64 t1129)) (fun _ h_ => h_.1)))); (case side2 => exact (Kd.R_reads' HO1121.out).2.1); (case side3 => refine (Kd.R_reads' (e := 4) (base := w.heap.size) (ok := fun k_ => ((((some k_ ≠ (.slice Ao165 t1125.length co165 : Value).ownBlock ∧ some k_ ≠ (.slice Ao159 x1046002_124.length co159 : Value).ownBlock) ∧ some k_ ≠ (.slice Ao160 x1046003_124.length co160 : Value).ownBlock) ∧ some k_ ≠ (.slice Ao132 x1063002_42.length co132 : Value).ownBlock) ∧ some k_ ≠ (.slice Ao133 x1063003_42.length co133 : Value).ownBlock)) (n := t1122.length) (c := co164) ?_).2.2; exact (rx (Kd.R_mono (Kd.R_far (p := ⟨gb1045, 5, none⟩) (Kd.R_far (p := ⟨gb1045, 4, none⟩) (Kd.R_far (p := ⟨gb1045, 3, none⟩) (Kd.R_far (p := ⟨gb1045, 2, none⟩) (Kd.R_far (p := ⟨gb1045, 1, none⟩) (Kd.R_far (p := ⟨gb1045, 0, none⟩) (Kd.R_types HO1124.out BK1045.out (by decide)) (fun _ hk => hk.2) (.string t1118)) (fun _ hk => hk.2) (.slice Ao163 t1119.length co163)) (fun _ hk => hk.2) (.slice Ao164 t1122.length co164)) (fun _ hk => hk.2) (.slice Ao165 t1125.length co165)) (fun _ hk => hk.2) (.int .i64 t1128)) (fun _ hk => hk.2) (.int .i64 t1129)) (fun _ h_ => h_.1)))); (case side4 => exact (Kd.R_reads' HO1124.out).2.1); (case side5 => refine (Kd.R_reads' (e := 4) (base := w.heap.size) (ok := fun k_ => ((((some k_ ≠ (.slice Ao164 t1122.length co164 : Value).ownBlock ∧ some k_ ≠ (.slice Ao159 x1046002_124.length co159 : Value).ownBlock) ∧ some k_ ≠ (.slice Ao160 x1046003_124.length co160 : Value).ownBlock) ∧ some k_ ≠ (.slice Ao132 x1063002_42.length co132 : Value).ownBlock) ∧ some k_ ≠ (.slice Ao133 x1063003_42.length co133 : Value).ownBlock)) (n := t1125.length) (c := co165) ?_).2.2; exact (rx (Kd.R_mono (Kd.R_far (p := ⟨gb1045, 5, none⟩) (Kd.R_far (p := ⟨gb1045, 4, none⟩) (Kd.R_far (p := ⟨gb1045, 3, none⟩) (Kd.R_far (p := ⟨gb1045, 2, none⟩) (Kd.R_far (p := ⟨gb1045, 1, none⟩) (Kd.R_far (p := ⟨gb1045, 0, none⟩) (Kd.R_types HO1127.out BK1045.out (by decide)) (fun _ hk => hk.2) (.string t1118)) (fun _ hk => hk.2) (.slice Ao163 t1119.length co163)) (fun _ hk => hk.2) (.slice Ao164 t1122.length co164)) (fun _ hk => hk.2) (.slice Ao165 t1125.length co165)) (fun _ hk => hk.2) (.int .i64 t1128)) (fun _ hk => hk.2) (.int .i64 t1129)) (fun _ h_ => h_.1)))); (case side6 => exact (Kd.R_reads' HO1127.out).2.1); rintro e w166 ⟨rfl, hb⟩; replace HO_1046001 := Aside0.mk (Kd.R_below (rx (Kd.R_mono (Kd.R_far (p := ⟨gb1045, 5, none⟩) (Kd.R_far (p := ⟨gb1045, 4, none⟩) (Kd.R_far (p := ⟨gb1045, 3, none⟩) (Kd.R_far (p := ⟨gb1045, 2, none⟩) (Kd.R_far (p := ⟨gb1045, 1, none⟩) (Kd.R_far (p := ⟨gb1045, 0, none⟩) (Kd.R_types HO_1046001.out BK1045.out (by decide)) (fun _ hk => hk.2) (.string t1118)) (fun _ hk => hk.2) (.slice Ao163 t1119.length co163)) (fun _ hk => hk.2) (.slice Ao164 t1122.length co164)) (fun _ hk => hk.2) (.slice Ao165 t1125.length co165)) (fun _ hk => hk.2) (.int .i64 t1128)) (fun _ hk => hk.2) (.int .i64 t1129)) (fun _ h_ => h_.1))) hb); replace HO_1046002 := Aside0.mk (Kd.R_below (rx (Kd.R_mono (Kd.R_far (p := ⟨gb1045, 5, none⟩) (Kd.R_far (p := ⟨gb1045, 4, none⟩) (Kd.R_far (p := ⟨gb1045, 3, none⟩) (Kd.R_far (p := ⟨gb1045, 2, none⟩) (Kd.R_far (p := ⟨gb1045, 1, none⟩) (Kd.R_far (p := ⟨gb1045, 0, none⟩) (Kd.R_types HO_1046002.out BK1045.out (by decide)) (fun _ hk => hk.2) (.string t1118)) (fun _ hk => hk.2) (.slice Ao163 t1119.length co163)) (fun _ hk => hk.2) (.slice Ao164 t1122.length co164)) (fun _ hk => hk.2) (.slice Ao165 t1125.length co165)) (fun _ hk => hk.2) (.int .i64 t1128)) (fun _ hk => hk.2) (.int .i64 t1129)) (fun _ h_ => h_.1))) hb); replace HO_1046003 := Aside0.mk (Kd.R_below (rx (Kd.R_mono (Kd.R_far (p := ⟨gb1045, 5, none⟩) (Kd.R_far (p := ⟨gb1045, 4, none⟩) (Kd.R_far (p := ⟨gb1045, 3, none⟩) (Kd.R_far (p := ⟨gb1045, 2, none⟩) (Kd.R_far (p := ⟨gb1045, 1, none⟩) (Kd.R_far (p := ⟨gb1045, 0, none⟩) (Kd.R_types HO_1046003.out BK1045.out (by decide)) (fun _ hk => hk.2) (.string t1118)) (fun _ hk => hk.2) (.slice Ao163 t1119.length co163)) (fun _ hk => hk.2) (.slice Ao164 t1122.length co164)) (fun _ hk => hk.2) (.slice Ao165 t1125.length co165)) (fun _ hk => hk.2) (.int .i64 t1128)) (fun _ hk => hk.2) (.int .i64 t1129)) (fun _ h_ => h_.1))) hb); replace HO_1062004 := Aside0.mk (Kd.R_below (rx (Kd.R_mono (Kd.R_far (p := ⟨gb1045, 5, none⟩) (Kd.R_far (p := ⟨gb1045, 4, none⟩) (Kd.R_far (p := ⟨gb1045, 3, none⟩) (Kd.R_far (p := ⟨gb1045, 2, none⟩) (Kd.R_far (p := ⟨gb1045, 1, none⟩) (Kd.R_far (p := ⟨gb1045, 0, none⟩) (Kd.R_types HO_1062004.out BK1045.out (by decide)) (fun _ hk => hk.2) (.string t1118)) (fun _ hk => hk.2) (.slice Ao163 t1119.length co163)) (fun _ hk => hk.2) (.slice Ao164 t1122.length co164)) (fun _ hk => hk.2) (.slice Ao165 t1125.length co165)) (fun _ hk => hk.2) (.int .i64 t1128)) (fun _ hk => hk.2) (.int .i64 t1129)) (fun _ h_ => h_.1))) hb); replace HO_1063001 := Aside0.mk (Kd.R_below (rx (Kd.R_mono (Kd.R_far (p := ⟨gb1045, 5, none⟩) (Kd.R_far (p := ⟨gb1045, 4, none⟩) (Kd.R_far (p := ⟨gb1045, 3, none⟩) (Kd.R_far (p := ⟨gb1045, 2, none⟩) (Kd.R_far (p := ⟨gb1045, 1, none⟩) (Kd.R_far (p := ⟨gb1045, 0, none⟩) (Kd.R_types HO_1063001.out BK1045.out (by decide)) (fun _ hk => hk.2) (.string t1118)) (fun _ hk => hk.2) (.slice Ao163 t1119.length co163)) (fun _ hk => hk.2) (.slice Ao164 t1122.length co164)) (fun _ hk => hk.2) (.slice Ao165 t1125.length co165)) (fun _ hk => hk.2) (.int .i64 t1128)) (fun _ hk => hk.2) (.int .i64 t1129)) (fun _ h_ => h_.1))) hb); replace HO_1063002 := Aside0.mk (Kd.R_below (rx (Kd.R_mono (Kd.R_far (p := ⟨gb1045, 5, none⟩) (Kd.R_far (p := ⟨gb1045, 4, none⟩) (Kd.R_far (p := ⟨gb1045, 3, none⟩) (Kd.R_far (p := ⟨gb1045, 2, none⟩) (Kd.R_far (p := ⟨gb1045, 1, none⟩) (Kd.R_far (p := ⟨gb1045, 0, none⟩) (Kd.R_types HO_1063002.out BK1045.out (by decide)) (fun _ hk => hk.2) (.string t1118)) (fun _ hk => hk.2) (.slice Ao163 t1119.length co163)) (fun _ hk => hk.2) (.slice Ao164 t1122.length co164)) (fun _ hk => hk.2) (.slice Ao165 t1125.length co165)) (fun _ hk => hk.2) (.int .i64 t1128)) (fun _ hk => hk.2) (.int .i64 t1129)) (fun _ h_ => h_.1))) hb); replace HO_1063003 := Aside0.mk (Kd.R_below (rx (Kd.R_mono (Kd.R_far (p := ⟨gb1045, 5, none⟩) (Kd.R_far (p := ⟨gb1045, 4, none⟩) (Kd.R_far (p := ⟨gb1045, 3, none⟩) (Kd.R_far (p := ⟨gb1045, 2, none⟩) (Kd.R_far (p := ⟨gb1045, 1, none⟩) (Kd.R_far (p := ⟨gb1045, 0, none⟩) (Kd.R_types HO_1063003.out BK1045.out (by decide)) (fun _ hk => hk.2) (.string t1118)) (fun _ hk => hk.2) (.slice Ao163 t1119.length co163)) (fun _ hk => hk.2) (.slice Ao164 t1122.length co164)) (fun _ hk => hk.2) (.slice Ao165 t1125.length co165)) (fun _ hk => hk.2) (.int .i64 t1128)) (fun _ hk => hk.2) (.int .i64 t1129)) (fun _ h_ => h_.1))) hb); replace HO1121 := Aside0.mk (Kd.R_below (rx (Kd.R_mono (Kd.R_far (p := ⟨gb1045, 5, none⟩) (Kd.R_far (p := ⟨gb1045, 4, none⟩) (Kd.R_far (p := ⟨gb1045, 3, none⟩) (Kd.R_far (p := ⟨gb1045, 2, none⟩) (Kd.R_far (p := ⟨gb1045, 1, none⟩) (Kd.R_far (p := ⟨gb1045, 0, none⟩) (Kd.R_types HO1121.out BK1045.out (by decide)) (fun _ hk => hk.2) (.string t1118)) (fun _ hk => hk.2) (.slice Ao163 t1119.length co163)) (fun _ hk => hk.2) (.slice Ao164 t1122.length co164)) (fun _ hk => hk.2) (.slice Ao165 t1125.length co165)) (fun _ hk => hk.2) (.int .i64 t1128)) (fun _ hk => hk.2) (.int .i64 t1129)) (fun _ h_ => h_.1))) hb); replace HO1124 := Aside0.mk (Kd.R_below (rx (Kd.R_mono (Kd.R_far (p := ⟨gb1045, 5, none⟩) (Kd.R_far (p := ⟨gb1045, 4, none⟩) (Kd.R_far (p := ⟨gb1045, 3, none⟩) (Kd.R_far (p := ⟨gb1045, 2, none⟩) (Kd.R_far (p := ⟨gb1045, 1, none⟩) (Kd.R_far (p := ⟨gb1045, 0, none⟩) (Kd.R_types HO1124.out BK1045.out (by decide)) (fun _ hk => hk.2) (.string t1118)) (fun _ hk => hk.2) (.slice Ao163 t1119.length co163)) (fun _ hk => hk.2) (.slice Ao164 t1122.length co164)) (fun _ hk => hk.2) (.slice Ao165 t1125.length co165)) (fun _ hk => hk.2) (.int .i64 t1128)) (fun _ hk => hk.2) (.int .i64 t1129)) (fun _ h_ => h_.1))) hb); replace HO1127 := Aside0.mk (Kd.R_below (rx (Kd.R_mono (Kd.R_far (p := ⟨gb1045, 5, none⟩) (Kd.R_far (p := ⟨gb1045, 4, none⟩) (Kd.R_far (p := ⟨gb1045, 3, none⟩) (Kd.R_far (p := ⟨gb1045, 2, none⟩) (Kd.R_far (p := ⟨gb1045, 1, none⟩) (Kd.R_far (p := ⟨gb1045, 0, none⟩) (Kd.R_types HO1127.out BK1045.out (by decide)) (fun _ hk => hk.2) (.string t1118)) (fun _ hk => hk.2) (.slice Ao163 t1119.length co163)) (fun _ hk => hk.2) (.slice Ao164 t1122.length co164)) (fun _ hk => hk.2) (.slice Ao165 t1125.length co165)) (fun _ hk => hk.2) (.int .i64 t1128)) (fun _ hk => hk.2) (.int .i64 t1129)) (fun _ h_ => h_.1))) hb); replace BK1045 := Aside0.mk (blk_below (o := .cells #[.string t1118, .slice Ao163 t1119.length co163, .slice Ao164 t1122.length co164, .slice Ao165 t1125.length co165, .int .i64 t1128, .int .i64 t1129] 50 (0, 0)) (bkp BK1045) hb); replace BK1061 := bkfB BK1061 hb; replace BK1062 := bkfB BK1062 hb; replace HB := hbS HB hb; (try clear hb); (try clear hb2); (try clear hk); (try clear hi)))
                        go_roundg kj124
                        case measure => have := HJ2.out; have := HK2.out; have := HJ42.out; have := HJ79.out; have := HJ84.out; have := HJ124.out; omega
                        case rel => exact ⟨(wrap64 (x39_2 + 1)), (t1118), (t1119), (t1122), (t1125), (t1128), (t1129), (.slice Ao163 t1119.length co163), (.slice Ao164 t1122.length co164), (.slice Ao165 t1125.length co165), rfs, H', ⟨by have := HJ2.out; have := HK2.out; have := HJ42.out; have := HJ79.out; have := HJ84.out; have := HJ124.out; omega⟩, ⟨by (with_reducible repeat (first | apply Kd.R_alloc | apply Kd.R_drewN | apply Kd.R_drew)); exact Kd.R_mono HO1121.out (fun _ hk => trivial)⟩, ⟨by (with_reducible repeat (first | apply Kd.R_alloc | apply Kd.R_drewN | apply Kd.R_drew)); exact Kd.R_mono HO1124.out (fun _ hk => hk.1.1.1.1)⟩, ⟨by (with_reducible repeat (first | apply Kd.R_alloc | apply Kd.R_drewN | apply Kd.R_drew)); exact Kd.R_mono HO1127.out (fun _ hk => hk.1.1.1.1)⟩, bkA BK1045, hbA HB⟩
                      ·rw [if_neg c150] at H
                       exact absurd H (by simp)
          ·rw [if_neg c42] at H
           exact absurd H (by simp)
         ·rw [if_neg c41] at H
          exact absurd H (by simp)
        ·rw [if_neg c40] at H
         have c40b0 : decide (x39_2 < (l0.length : Int)) = false := decide_eq_false c40
         clear c40
         obtain rfl := Option.some.inj H
         go_wp2
         go_ret
         exact ⟨rerr, hbx HB⟩
     ·rw [if_neg c16] at H
      exact absurd H (by simp)
    ·rw [if_neg c13] at H
     exact absurd H (by simp)
end Go.Proofs.Ytdigplhjfjchnaa.PQ
