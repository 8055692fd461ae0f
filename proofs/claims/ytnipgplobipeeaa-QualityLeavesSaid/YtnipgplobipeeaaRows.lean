/-
  No cell of these rows narrows 'for every input' (looked for: loops, veiled, ifaces, maps, wideKeys, modest, calm, conditions, laid).
  DERIVED. THE GIVEN ROWS OF THIS SEAT. 7 by the template 'for every input the law returns true; each argument reads behind the call as it read before'; 0 by the template 'total and deterministic' (their statements: YtnipgplobipeeaaTotals.lean).
  GIVEN WITH THE SEED: the statements are not yours to turn. If you find one false, say at which input.
  Laid BY PROGRAM, IN A SANDBOX (cutbox-rows.mjs): the forced cells as the released guide's own fill.sh prints them over the translation fab7329831f9eebe… (all of the seat's roots in one cut). By AI agents, Wed Nov 11 2026. No macro, syntax, notation, axiom, sorry.
-/
import Derived.Test.YtnipgplobipeeaaChecked
import GoSem.Claim
import GoSem.ClaimJoined
import GoSem.ClaimMapViews
import Derived.JoinedTies
import Derived.KernelRfl
namespace Go.Proofs.Ytnipgplobipeeaa
/- THE CELL 'sum', in the pinned program and in every row, IS THE sha256 OF THE DUMP (.gsa) THAT YtnipgplobipeeaaProg.lean LOADS. Nothing in Lean hashes anything: it is a label: what it is worth is what the hold of that sum in a sandbox is worth. -/
noncomputable def Try.pinned : Pinned := { name := "ytnipgplobipeeaa", sum := "fab7329831f9eebe59a12fe1bc01a1bbb74540292a5412f37530911ed9408c8b", checked := Try.checked }
namespace Rows
def none {H : Type} : Left H := { results := [], args := [] }

/-- 'hopmeshlaw12.QualityReturns': WHATEVER THE INPUT: true; the input reads as it did. -/
def qualityReturnsSpec : ChangeSpec := { name := "qualityReturns", fn := fun _ => fun
  | [d1, d2] => { results := [.lit (.bool true)], args := [d1, d2] }
  | _ => none }
def qualityReturnsRow : OpenClaim := { program := "ytnipgplobipeeaa", sum := "fab7329831f9eebe59a12fe1bc01a1bbb74540292a5412f37530911ed9408c8b", func := "hopmesh/hopmeshlaw12.QualityReturns", spec := "qualityReturns", unfollowed := true, recurses := true, apart := false }
def QualityReturnsSaid : Prop := qualityReturnsRow.holds Try.pinned (OpenSpec.ofChange qualityReturnsSpec)

/-- ITS FALSE NEIGHBOUR: 'it returns false'. Refute it at one input. -/
def qualityReturnsWrong : ChangeSpec := { name := "qualityReturns", fn := fun _ => fun
  | [d1, d2] => { results := [.lit (.bool false)], args := [d1, d2] }
  | _ => none }
def QualityReturnsWrongFalsely : Prop := qualityReturnsRow.holds Try.pinned (OpenSpec.ofChange qualityReturnsWrong)

/-- 'hopmeshlaw12.QualityCounts': WHATEVER THE INPUT: true; the input reads as it did. -/
def qualityCountsSpec : ChangeSpec := { name := "qualityCounts", fn := fun _ => fun
  | [d1, d2, d3] => { results := [.lit (.bool true)], args := [d1, d2, d3] }
  | _ => none }
def qualityCountsRow : OpenClaim := { program := "ytnipgplobipeeaa", sum := "fab7329831f9eebe59a12fe1bc01a1bbb74540292a5412f37530911ed9408c8b", func := "hopmesh/hopmeshlaw12.QualityCounts", spec := "qualityCounts", unfollowed := true, recurses := true, apart := false }
def QualityCountsSaid : Prop := qualityCountsRow.holds Try.pinned (OpenSpec.ofChange qualityCountsSpec)

/-- ITS FALSE NEIGHBOUR: 'it returns false'. Refute it at one input. -/
def qualityCountsWrong : ChangeSpec := { name := "qualityCounts", fn := fun _ => fun
  | [d1, d2, d3] => { results := [.lit (.bool false)], args := [d1, d2, d3] }
  | _ => none }
def QualityCountsWrongFalsely : Prop := qualityCountsRow.holds Try.pinned (OpenSpec.ofChange qualityCountsWrong)

/-- 'hopmeshlaw12.QualityCompares': WHATEVER THE INPUT: true; the input reads as it did. -/
def qualityComparesSpec : ChangeSpec := { name := "qualityCompares", fn := fun _ => fun
  | [d1, d2, d3] => { results := [.lit (.bool true)], args := [d1, d2, d3] }
  | _ => none }
def qualityComparesRow : OpenClaim := { program := "ytnipgplobipeeaa", sum := "fab7329831f9eebe59a12fe1bc01a1bbb74540292a5412f37530911ed9408c8b", func := "hopmesh/hopmeshlaw12.QualityCompares", spec := "qualityCompares", unfollowed := true, recurses := true, apart := false }
def QualityComparesSaid : Prop := qualityComparesRow.holds Try.pinned (OpenSpec.ofChange qualityComparesSpec)

/-- ITS FALSE NEIGHBOUR: 'it returns false'. Refute it at one input. -/
def qualityComparesWrong : ChangeSpec := { name := "qualityCompares", fn := fun _ => fun
  | [d1, d2, d3] => { results := [.lit (.bool false)], args := [d1, d2, d3] }
  | _ => none }
def QualityComparesWrongFalsely : Prop := qualityComparesRow.holds Try.pinned (OpenSpec.ofChange qualityComparesWrong)

/-- 'hopmeshlaw12.QualityMerges': WHATEVER THE INPUT: true; the input reads as it did. -/
def qualityMergesSpec : ChangeSpec := { name := "qualityMerges", fn := fun _ => fun
  | [d1, d2] => { results := [.lit (.bool true)], args := [d1, d2] }
  | _ => none }
def qualityMergesRow : OpenClaim := { program := "ytnipgplobipeeaa", sum := "fab7329831f9eebe59a12fe1bc01a1bbb74540292a5412f37530911ed9408c8b", func := "hopmesh/hopmeshlaw12.QualityMerges", spec := "qualityMerges", unfollowed := true, recurses := true, apart := false }
def QualityMergesSaid : Prop := qualityMergesRow.holds Try.pinned (OpenSpec.ofChange qualityMergesSpec)

/-- ITS FALSE NEIGHBOUR: 'it returns false'. Refute it at one input. -/
def qualityMergesWrong : ChangeSpec := { name := "qualityMerges", fn := fun _ => fun
  | [d1, d2] => { results := [.lit (.bool false)], args := [d1, d2] }
  | _ => none }
def QualityMergesWrongFalsely : Prop := qualityMergesRow.holds Try.pinned (OpenSpec.ofChange qualityMergesWrong)

/-- 'hopmeshlaw12.QualityLeaves': WHATEVER THE INPUT: true; the input reads as it did. -/
def qualityLeavesSpec : ChangeSpec := { name := "qualityLeaves", fn := fun _ => fun
  | [d1, d2] => { results := [.lit (.bool true)], args := [d1, d2] }
  | _ => none }
def qualityLeavesRow : OpenClaim := { program := "ytnipgplobipeeaa", sum := "fab7329831f9eebe59a12fe1bc01a1bbb74540292a5412f37530911ed9408c8b", func := "hopmesh/hopmeshlaw12.QualityLeaves", spec := "qualityLeaves", unfollowed := true, recurses := true, apart := false }
def QualityLeavesSaid : Prop := qualityLeavesRow.holds Try.pinned (OpenSpec.ofChange qualityLeavesSpec)

/-- ITS FALSE NEIGHBOUR: 'it returns false'. Refute it at one input. -/
def qualityLeavesWrong : ChangeSpec := { name := "qualityLeaves", fn := fun _ => fun
  | [d1, d2] => { results := [.lit (.bool false)], args := [d1, d2] }
  | _ => none }
def QualityLeavesWrongFalsely : Prop := qualityLeavesRow.holds Try.pinned (OpenSpec.ofChange qualityLeavesWrong)

/-- 'hopmeshlaw12.QualityLearns': WHATEVER THE INPUT: true; the input reads as it did. -/
def qualityLearnsSpec : ChangeSpec := { name := "qualityLearns", fn := fun _ => fun
  | [d1, d2, d3] => { results := [.lit (.bool true)], args := [d1, d2, d3] }
  | _ => none }
def qualityLearnsRow : OpenClaim := { program := "ytnipgplobipeeaa", sum := "fab7329831f9eebe59a12fe1bc01a1bbb74540292a5412f37530911ed9408c8b", func := "hopmesh/hopmeshlaw12.QualityLearns", spec := "qualityLearns", unfollowed := true, recurses := true, apart := false }
def QualityLearnsSaid : Prop := qualityLearnsRow.holds Try.pinned (OpenSpec.ofChange qualityLearnsSpec)

/-- ITS FALSE NEIGHBOUR: 'it returns false'. Refute it at one input. -/
def qualityLearnsWrong : ChangeSpec := { name := "qualityLearns", fn := fun _ => fun
  | [d1, d2, d3] => { results := [.lit (.bool false)], args := [d1, d2, d3] }
  | _ => none }
def QualityLearnsWrongFalsely : Prop := qualityLearnsRow.holds Try.pinned (OpenSpec.ofChange qualityLearnsWrong)

/-- 'hopmeshlaw12.QualityOrder': WHATEVER THE INPUT: true; the input reads as it did. -/
def qualityOrderSpec : ChangeSpec := { name := "qualityOrder", fn := fun _ => fun
  | [d1, d2, d3] => { results := [.lit (.bool true)], args := [d1, d2, d3] }
  | _ => none }
def qualityOrderRow : OpenClaim := { program := "ytnipgplobipeeaa", sum := "fab7329831f9eebe59a12fe1bc01a1bbb74540292a5412f37530911ed9408c8b", func := "hopmesh/hopmeshlaw12.QualityOrder", spec := "qualityOrder", unfollowed := true, recurses := true, apart := false }
def QualityOrderSaid : Prop := qualityOrderRow.holds Try.pinned (OpenSpec.ofChange qualityOrderSpec)

/-- ITS FALSE NEIGHBOUR: 'it returns false'. Refute it at one input. -/
def qualityOrderWrong : ChangeSpec := { name := "qualityOrder", fn := fun _ => fun
  | [d1, d2, d3] => { results := [.lit (.bool false)], args := [d1, d2, d3] }
  | _ => none }
def QualityOrderWrongFalsely : Prop := qualityOrderRow.holds Try.pinned (OpenSpec.ofChange qualityOrderWrong)

/- THE SECOND FORM. 'bulk': how many values and letters a reading holds, each counted each time it is reached (what is shared counts as often as it is met; a slice's spare places count too). A statement '..UptoSaid' is the law's where the arguments, and the package variables that the reading takes, are together of bulk at most 1048576: NARROWER than '..Said'. Prove '..Said' where nothing that the law and all that it calls make is longer than what came in: it says more and counts as full. Else prove '..UptoSaid'. A law counts once. -/
mutual
def uptoBulk {H : Type} : DataW H → Nat
  | .lit (.string bytes) => bytes.length + 1
  | .lit _ => 1
  | .nil => 1
  | .ptr d => uptoBulk d + 1
  | .slice elems spare => uptoBulkAll elems + uptoBulkAll spare + 1
  | .agg parts => uptoBulkAll parts + 1
  | .iface _ d => uptoBulk d + 1
  | .map entries => uptoBulkEntries entries + 1
  | .held _ => 1
def uptoBulkAll {H : Type} : List (DataW H) → Nat
  | [] => 0
  | d :: r => uptoBulk d + uptoBulkAll r
def uptoBulkEntries {H : Type} : List (Lit × DataW H) → Nat
  | [] => 0
  | x :: r => uptoBulkEntry x + uptoBulkEntries r
def uptoBulkEntry {H : Type} : Lit × DataW H → Nat
  | (.string bytes, d) => bytes.length + uptoBulk d + 1
  | (_, d) => uptoBulk d + 1
 end
def uptoSmall : (H : Type) → List (DataW H) → Bool := fun _ ds => decide (uptoBulkAll ds ≤ 1048576)
def OpenSpec.upto (s : _root_.Go.ChangeSpec) : _root_.Go.OpenSpec := { _root_.Go.OpenSpec.ofChange s with cond := some uptoSmall }

/-- 'hopmeshlaw12.QualityReturns', WHERE WHAT IT READS IS OF BULK AT MOST 1048576: true; the input reads as it did. -/
def qualityReturnsUptoRow : OpenClaim := { program := "ytnipgplobipeeaa", sum := "fab7329831f9eebe59a12fe1bc01a1bbb74540292a5412f37530911ed9408c8b", func := "hopmesh/hopmeshlaw12.QualityReturns", spec := "qualityReturns", unfollowed := true, recurses := true, apart := false, narrowed := true }
def QualityReturnsUptoSaid : Prop := qualityReturnsUptoRow.holds Try.pinned (OpenSpec.upto qualityReturnsSpec)

/-- 'hopmeshlaw12.QualityCounts', WHERE WHAT IT READS IS OF BULK AT MOST 1048576: true; the input reads as it did. -/
def qualityCountsUptoRow : OpenClaim := { program := "ytnipgplobipeeaa", sum := "fab7329831f9eebe59a12fe1bc01a1bbb74540292a5412f37530911ed9408c8b", func := "hopmesh/hopmeshlaw12.QualityCounts", spec := "qualityCounts", unfollowed := true, recurses := true, apart := false, narrowed := true }
def QualityCountsUptoSaid : Prop := qualityCountsUptoRow.holds Try.pinned (OpenSpec.upto qualityCountsSpec)

/-- 'hopmeshlaw12.QualityCompares', WHERE WHAT IT READS IS OF BULK AT MOST 1048576: true; the input reads as it did. -/
def qualityComparesUptoRow : OpenClaim := { program := "ytnipgplobipeeaa", sum := "fab7329831f9eebe59a12fe1bc01a1bbb74540292a5412f37530911ed9408c8b", func := "hopmesh/hopmeshlaw12.QualityCompares", spec := "qualityCompares", unfollowed := true, recurses := true, apart := false, narrowed := true }
def QualityComparesUptoSaid : Prop := qualityComparesUptoRow.holds Try.pinned (OpenSpec.upto qualityComparesSpec)

/-- 'hopmeshlaw12.QualityMerges', WHERE WHAT IT READS IS OF BULK AT MOST 1048576: true; the input reads as it did. -/
def qualityMergesUptoRow : OpenClaim := { program := "ytnipgplobipeeaa", sum := "fab7329831f9eebe59a12fe1bc01a1bbb74540292a5412f37530911ed9408c8b", func := "hopmesh/hopmeshlaw12.QualityMerges", spec := "qualityMerges", unfollowed := true, recurses := true, apart := false, narrowed := true }
def QualityMergesUptoSaid : Prop := qualityMergesUptoRow.holds Try.pinned (OpenSpec.upto qualityMergesSpec)

/-- 'hopmeshlaw12.QualityLeaves', WHERE WHAT IT READS IS OF BULK AT MOST 1048576: true; the input reads as it did. -/
def qualityLeavesUptoRow : OpenClaim := { program := "ytnipgplobipeeaa", sum := "fab7329831f9eebe59a12fe1bc01a1bbb74540292a5412f37530911ed9408c8b", func := "hopmesh/hopmeshlaw12.QualityLeaves", spec := "qualityLeaves", unfollowed := true, recurses := true, apart := false, narrowed := true }
def QualityLeavesUptoSaid : Prop := qualityLeavesUptoRow.holds Try.pinned (OpenSpec.upto qualityLeavesSpec)

/-- 'hopmeshlaw12.QualityLearns', WHERE WHAT IT READS IS OF BULK AT MOST 1048576: true; the input reads as it did. -/
def qualityLearnsUptoRow : OpenClaim := { program := "ytnipgplobipeeaa", sum := "fab7329831f9eebe59a12fe1bc01a1bbb74540292a5412f37530911ed9408c8b", func := "hopmesh/hopmeshlaw12.QualityLearns", spec := "qualityLearns", unfollowed := true, recurses := true, apart := false, narrowed := true }
def QualityLearnsUptoSaid : Prop := qualityLearnsUptoRow.holds Try.pinned (OpenSpec.upto qualityLearnsSpec)

/-- 'hopmeshlaw12.QualityOrder', WHERE WHAT IT READS IS OF BULK AT MOST 1048576: true; the input reads as it did. -/
def qualityOrderUptoRow : OpenClaim := { program := "ytnipgplobipeeaa", sum := "fab7329831f9eebe59a12fe1bc01a1bbb74540292a5412f37530911ed9408c8b", func := "hopmesh/hopmeshlaw12.QualityOrder", spec := "qualityOrder", unfollowed := true, recurses := true, apart := false, narrowed := true }
def QualityOrderUptoSaid : Prop := qualityOrderUptoRow.holds Try.pinned (OpenSpec.upto qualityOrderSpec)

end Rows
end Go.Proofs.Ytnipgplobipeeaa
