/- Small laws of this session's beside the printed words: a call through a function value of no captured variable, in a region that draws its order. -/
import Derived.Test.YtdigplhjfjchnaaWWords
import Derived.Test.YtdigplhjfjchnaaWLast
import Derived.Test.YtdigplhjfjchnaaWMore
import Derived.Lib.SliceRun
namespace Go.Proofs.Ytdigplhjfjchnaa.PQ
open Go.RowKit Go.Proofs.YtdigplhjfjchnaaW.PrintWords Go.Proofs.YtdigplhjfjchnaaW.PrintLast Go.Proofs.YtdigplhjfjchnaaW.PrintMore
set_option linter.unusedVariables false
set_option linter.unusedSimpArgs false
section
variable {P : Program} {ops : Array Oper} {Q : Exit → Act → World → Prop}
/-- A call through a slot that holds a function of no captured variable, as a step of a region. -/
theorem goes_fv {oi : Oper} {N : Option Tmp} {a : Act} {w : World} {K : Act → World → Prop} {f : FuncId} {fn : Func} {x : Operand} {as : Array Operand} {ts : Array TypeId} (hf : P.funcs[f]? = some fn) (hname : (fn.name == "runtime.NumGoroutine") = false) (hb : fn.body.isSome = true) (args : Array Value)
    (hw : Region.wanted oi (yielded ops a.tmps) = true) (hN : oi.dst = N) (hop : oi.op = .call { callee := .value x, args := as, argTypes := ts }) (hx : a.eval x = .func (.func f) #[] #[]) (hargs : as.map a.eval = args)
    (h : Calls P f args w fun e w' => ∃ v, e = .returned v ∧ K (a.put N v) w') : if Region.wanted oi (yielded ops a.tmps) = true then Oper.wp P oi a w K Q else K (a.put N undef) w := by
  refine call_ f args hw hN ?_ h
  have he := enters_ hf hname hb args w
  unfold execOp
  simp [hop, resolve, Deferred.ofValue, invoke, hx, hargs, he]
/-- The same in a plain region, as an arm of go_wp2_with. -/
theorem goesL_fv {rest : List Oper} {oi : Oper} {a : Act} {w : World} (N : Option Tmp) (hd : oi.dst = N) (hg : oi.guard = none) {f : FuncId} {fn : Func} {x : Operand} {as : Array Operand} {ts : Array TypeId} (hf : P.funcs[f]? = some fn) (hname : (fn.name == "runtime.NumGoroutine") = false) (hb : fn.body.isSome = true) (args : Array Value)
    (hop : oi.op = .call { callee := .value x, args := as, argTypes := ts }) (hx : a.eval x = .func (.func f) #[] #[]) (hargs : as.map a.eval = args)
    (h : Calls P f args w fun e w' => ∃ v, e = .returned v ∧ wpList P ops Q rest (a.put N v) w') : wpList P ops Q (oi :: rest) a w := by
  refine wpList_plain hg fun K hK => ?_
  have he := enters_ hf hname hb args w
  have hrun : (execOp a.eval oi).run P w = .ok (.enter f args) w := by
    unfold execOp
    simp [hop, resolve, Deferred.ofValue, invoke, hx, hargs, he]
  unfold Oper.wp
  rw [hrun, Oper.upon_enter]
  refine h.mono fun e w'' hh => ?_
  obtain ⟨v, rfl, hk⟩ := hh
  subst hd
  exact hK _ _ hk
end

namespace Kd
open Go.Proofs.YtdigplhjfjchnaaW.PrintWords.Kd
section
variable {P : Program} {ops : Array Oper} {rest : List Oper} {o : Oper} {a : Act} {Q : Exit → Act → World → Prop} {α : Type}
/-- clear(v), v a row of scalars of one's own: each element is the zero value then. -/
theorem R_clear {enc : α → Value} {h1 : ∀ x, (enc x).oneCell' = true} (z0 : α) {w0 W : World} (base : Nat) (hgd : o.guard = none) (s : Operand) (t e : TypeId)
    (ho : o.op = .call { callee := .builtin .clear, args := #[s], argTypes := #[t] }) (ht : P.underlying t = some (.slice e)) (hz : ∀ w, (zeroValue e).run P w = .ok (enc z0) w) (hc1 : (enc z0).cells = #[enc z0])
    (v : Value) (xs : List α) (ok : Nat → Prop) (hs : a.eval s = v)
    (HO : (scalar enc h1).R e W base ok v xs) (HB : Below base w0 W) (hbase : base ≤ W.heap.size)
    (h : ∀ w1, (scalar enc h1).R e w1 base ok v (List.replicate xs.length z0) → Below base w0 w1 → W.grownBy w1 v.ownBlock → wpList P ops Q rest (a.put o.dst (.tuple #[])) w1) :
    wpList P ops Q (o :: rest) a W := by
  have hown := own_of_R HO
  have fin : ∀ w1, (Builtin.clear_ #[t] o.type #[v]).run P W = .ok (.tuple #[]) w1 → (scalar enc h1).R e w1 base ok v (List.replicate xs.length z0) → W.grownBy w1 v.ownBlock → wpList P ops Q (o :: rest) a W := by
    intro w1 hr hrow hg
    refine wpList_plain hgd fun K hK => ?_
    unfold Oper.wp execOp
    simp only [ho, resolve, invoke, builtin, Sem.run_bind, Sem.run_pure, Result.andThen_ok, List.map_toArray, List.map_cons, List.map_nil, hs, hr]
    exact hK _ _ (h w1 hrow (HB.grown hg hbase (own_base hown)) hg)
  rcases Nat.eq_zero_or_pos xs.length with h0 | hp
  · obtain ⟨A', c', hv⟩ := own_slice hown
    obtain rfl : xs = [] := List.eq_nil_of_length_eq_zero h0
    refine fin W ?_ (by simpa using HO) (World.grownBy.refl W _)
    rw [hv]
    cases A' <;> simp [Builtin.clear_, run_underlying ht]
  · rcases hown.2 with ⟨_, hx0⟩ | ⟨g, cap, cur, hv, hb, hh, hnc, hcm, hcs, htake⟩
    · omega
    have hcs1 : cur.size = cap := by omega
    have hr := Go.Lib.run_clear_slice (P := P) W t e o.type (enc z0) ht hz hc1 (h1 z0) g 0 xs.length cap hp
      (fun j hj => by rw [cell_of_row W g _ cur e (0, 0) hh]; simp; omega) (fun j _ => blk_frozen hh _)
    have hkl : (List.replicate xs.length (enc z0)).length = xs.length := by simp
    obtain ⟨cur', h3, h4, h5⟩ := setCells_row (List.replicate xs.length (enc z0)) 0 W cur hh (by rw [hkl]; omega)
    obtain ⟨s1, s2, s3, s4⟩ := setCells_same g (List.replicate xs.length (enc z0)) 0 W
    refine fin _ (by rw [hv, hr]) (R_of_own ?_ HO.1) ⟨s1, s2, s3, by rw [s4]; exact Nat.le_refl _, fun k _ hk => setCells_far _ _ k (fun he => hk (by rw [hv, he]; simp [Value.ownBlock]))⟩
    refine ⟨by simp [encs], .inr ⟨g, cap, cur', by rw [hv]; simp, hb, h3, by simpa using hnc, hcm, by rw [h4]; exact hcs, ?_⟩⟩
    rw [h5]
    simp [encs]
end
end Kd
end Go.Proofs.Ytdigplhjfjchnaa.PQ
