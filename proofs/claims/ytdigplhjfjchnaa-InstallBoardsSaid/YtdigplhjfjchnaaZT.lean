/- Short words for printed walks, more of them: what a letter for the world behind stores tells anew. No condition. -/
import Derived.Test.YtdigplhjfjchnaaZU
namespace Go.Proofs.Ytdigplhjfjchnaa.PQ
open Go Go.RowKit Go.Proofs.YtdigplhjfjchnaaW.PrintWords Go.Proofs.YtdigplhjfjchnaaW.PrintLast Go.Proofs.YtdigplhjfjchnaaW.PrintMore
set_option linter.unusedVariables false
section
variable {α : Type} {d : Kd α} {w w0 w1 w2 : World} {n e base g : Nat} {xs : List α} {ok : Nat → Prop} {v : Value} {t : TypeId} {cs : Array Value}
theorem rsw (h : Aside0 (d.R e w base ok v xs)) (hw : w2 = w1) (p : d.R e w base ok v xs → d.R e w1 base ok v xs:=by intro h;repeat (first | (with_reducible first | exact h | apply Kd.R_alloc | apply Kd.R_drewN | apply Kd.R_drew) | refine rft ?_ (bkp (by assumption)) (by decide) _ | exact h)) : Aside0 (d.R e w2 base ok v xs):=⟨by rw [hw];exact p h.out⟩
theorem bsw (h : Aside0 (w.heap[g]? = some (.cells cs t (0,0)))) (hw : w2 = w1) (p : w.heap[g]? = some (.cells cs t (0,0)) → w1.heap[g]? = some (.cells cs t (0,0)):=by intro h;repeat (first | (with_reducible first | exact h | refine blk_drewN ?_ _ | refine blk_drew ?_ | refine blk_alloc ?_ _ | refine blk_far ?_ (Aside0.out (by assumption)) _) | exact h)) : Aside0 (w2.heap[g]? = some (.cells cs t (0,0))):=⟨by rw [hw];exact p h.out⟩
theorem hsw (h : Aside0 (Below w0.heap.size w0 w)) (hw : w2 = w1) (p : Below w0.heap.size w0 w → Below w0.heap.size w0 w1:=by intro h;repeat (first | (with_reducible first | exact h | apply below_alloc | apply pw_below_drewN | apply below_drew1 | refine below_set ?_ (Aside0.out (by assumption))) | exact h)) : Aside0 (Below w0.heap.size w0 w2):=⟨by rw [hw];exact p h.out⟩
end
end Go.Proofs.Ytdigplhjfjchnaa.PQ
