/-
  The walk and the plain law InstallBoards joined: the law's call returns true and leaves what was there as it was. No condition.
-/
import Derived.Test.YtdigplhjfjchnaaBoards
import Derived.Test.YtdigplhjfjchnaaZf8
namespace Go.Proofs.Ytdigplhjfjchnaa.PureB
open Go.RowKit Go.Proofs.Ytdigplhjfjchnaa.PQ Go.Proofs.YtdigplhjfjchnaaW.PrintWords Go.Proofs.YtdigplhjfjchnaaW.PrintLast Go.Proofs.YtdigplhjfjchnaaW.PrintMore
theorem boards_walk (id : ByteArray) (A1 : Option Addr) (c1 : Nat) (l1 : List Int) (A2 : Option Addr) (c2 : Nat) (l2 : List Bool) (A3 : Option Addr) (c3 : Nat) (l3 : List Bool) (m s : Int) (name : ByteArray) (node slot : Int) (w : World) 
    (r1 : Kd.C (Kd.int .i64) w A1 l1.length l1) (g1 : l1.length ≤ c1) (r2 : Kd.C Kd.bool w A2 l2.length l2) (g2 : l2.length ≤ c2) (r3 : Kd.C Kd.bool w A3 l3.length l3) (g3 : l3.length ≤ c3) :
    Calls Try.prog 8 #[.agg #[.string id,.slice A1 l1.length c1,.slice A2 l2.length c2,.slice A3 l3.length c3,.int .i64 m,.int .i64 s],.string name,.int .i64 node,.int .i64 slot] w fun e w' => e = .returned (.bool true) ∧ Below w.heap.size w w':=
  hopmeshlaw49_InstallBoards.calls 300 id A1 c1 l1 A2 c2 l2 A3 c3 l3 m s name node slot true w r1 g1 r2 g2 r3 g3 (boards 300 (Nat.le_refl _) id l1 l2 l3 m s name node slot)
end Go.Proofs.Ytdigplhjfjchnaa.PureB
