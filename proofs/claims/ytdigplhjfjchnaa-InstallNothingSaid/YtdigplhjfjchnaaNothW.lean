/-
  The walk and the plain law InstallNothing joined: the law's call returns true and leaves what was there as it was. Condition: the slots are bytes, as their type says.
-/
import Derived.Test.YtdigplhjfjchnaaNothing
namespace Go.Proofs.Ytdigplhjfjchnaa.PureN
open Go.RowKit Go.Proofs.Ytdigplhjfjchnaa.PQ Go.Proofs.YtdigplhjfjchnaaW.PrintWords Go.Proofs.YtdigplhjfjchnaaW.PrintLast Go.Proofs.YtdigplhjfjchnaaW.PrintMore
theorem nothing_walk (A0 : Option Addr) (c0 : Nat) (l0 : List Bool) (A1 : Option Addr) (c1 : Nat) (l1 : List S36) (A2 : Option Addr) (c2 : Nat) (l2 : List Int) (w : World)
    (r0 : Kd.C Kd.bool w A0 l0.length l0) (g0 : l0.length ≤ c0) (r1 : Kd.C k36 w A1 l1.length l1) (g1 : l1.length ≤ c1) (r2 : Kd.C (Kd.int .u8) w A2 l2.length l2) (g2 : l2.length ≤ c2) (hb : ∀ x ∈ l2, 0 ≤ x ∧ x ≤ 255) :
    Calls Try.prog 3 #[.slice A0 l0.length c0, .slice A1 l1.length c1, .slice A2 l2.length c2] w fun e w' => e = .returned (.bool true) ∧ Below w.heap.size w w' :=
  hopmeshlaw49_InstallNothing.calls 300 A0 c0 l0 A1 c1 l1 A2 c2 l2 true w r0 g0 r1 g1 r2 g2 (nothing l0 l1 l2 hb)
end Go.Proofs.Ytdigplhjfjchnaa.PureN
