/- Where a walk is cut into texts: the statement that begins with a region, and what follows it. No condition. -/
import Derived.Test.YtdigplhjfjchnaaZU
namespace Go.Proofs.Ytdigplhjfjchnaa.PQ
open Go
/-- The sequence whose head is region n: the head, and what follows. -/
def seqAt (n : Nat) : Code → Option (Code × Code)
  | .seq (.region m o d) c => if m = n then some (.region m o d,c) else seqAt n c
  | .seq a b => match seqAt n a with
    | some x => some x
    | none => seqAt n b
  | .block _ c => seqAt n c
  | .loop c => seqAt n c
  | .scope c => seqAt n c
  | .cond _ a b => match seqAt n a with
    | some x => some x
    | none => seqAt n b
  | _ => none
/-- As seqAt, where the head stands in a sequence that is itself the head of one. -/
def seqAt2 (n : Nat) : Code → Option (Code × Code × Code)
  | .seq (.seq (.region m o d) c) e => if m = n then some (.region m o d,c,e) else match seqAt2 n c with
    | some x => some x
    | none => seqAt2 n e
  | .seq a b => match seqAt2 n a with
    | some x => some x
    | none => seqAt2 n b
  | .block _ c => seqAt2 n c
  | .loop c => seqAt2 n c
  | .scope c => seqAt2 n c
  | .cond _ a b => match seqAt2 n a with
    | some x => some x
    | none => seqAt2 n b
  | _ => none
/-- The part of a code at a path: 0 the first limb, 1 the second. -/
def codeAt : List Nat → Code → Option Code
  | [],c => some c
  | 0 :: p,.seq a _ => codeAt p a
  | _ :: p,.seq _ b => codeAt p b
  | 0 :: p,.cond _ a _ => codeAt p a
  | _ :: p,.cond _ _ b => codeAt p b
  | _ :: p,.block _ c => codeAt p c
  | _ :: p,.loop c => codeAt p c
  | _ :: p,.scope c => codeAt p c
  | _,_ => none
end Go.Proofs.Ytdigplhjfjchnaa.PQ
