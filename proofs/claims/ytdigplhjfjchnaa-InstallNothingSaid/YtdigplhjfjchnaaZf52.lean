-- Printed by fprint.py and zip.py, programs of this session's, over the kit's print; Lean checks it.
import Derived.Test.YtdigplhjfjchnaaZ0
namespace Go.Proofs.Ytdigplhjfjchnaa.PQ
open Go.RowKit Go.Proofs.YtdigplhjfjchnaaW.PrintWords Go.Proofs.YtdigplhjfjchnaaW.PrintLast Go.Proofs.YtdigplhjfjchnaaW.PrintMore
attribute [local go_sem] max2_int min2_int max_two min_two max_three min_three max_four min_four   -- for this text's walks alone
set_option linter.unusedVariables false
set_option linter.unusedSimpArgs false
def slices_Clone_int_int.f (l0 : List Int) : Option (List Int) := if l0.length < 17592186044416 then some l0 else none
set_option maxHeartbeats 8000000 in
set_option maxRecDepth 100000 in
theorem slices_Clone_int_int.calls (A0 : Option Addr) (c0 : Nat) (l0 : List Int) (r : List Int) (w : World) (hr0 : Kd.C (Kd.int .i64) w A0 l0.length l0) (hc0 : l0.length ≤ c0) (h : slices_Clone_int_int.f l0 = some r) :
 Calls Try.prog 52 #[.slice A0 l0.length c0] w fun e w' => ∃ v0_ : Value, e = .returned (v0_) ∧ Kd.R (Kd.int .i64) 3 w' w.heap.size (fun _ => True) v0_ r ∧ Below w.heap.size w w' := by
 have hu34 := Try.underlying34
 unfold slices_Clone_int_int.f at h
 by_cases hlim : l0.length < 17592186044416
 ·rw [if_pos hlim] at h
  obtain rfl := Option.some.inj h
  clear h
  have LM := Aside0.mk hlim
  clear hlim
  have HR0 := Aside0.mk hr0
  have HC0 := Aside0.mk hc0
  have HB := Aside0.mk (Below.refl w.heap.size w)
  cases A0 with
  | none =>
   have hl0 : l0 = [] := by
    rcases Nat.eq_zero_or_pos l0.length with h0 | h0
    ·exact List.eq_nil_of_length_eq_zero h0
    ·obtain ⟨ad, h1, _⟩ := hr0.2.2 h0
     cases h1
   subst hl0
   clear hr0 hc0
   have he := Go.Lib.run_eql_slice_nil (P := Try.prog) w 34 3 none 0 c0 0 0 Try.underlying34
   simp only [Option.isNone_none] at he
   go_enter Try.func52, Try.ntmps52
   go_wp2
   go_ret
   exact ⟨_, rfl, Kd.R_nil _ _ _ _ _, HB.out⟩
  | some ad =>
   clear hr0 hc0
   have he := Go.Lib.run_eql_slice_nil (P := Try.prog) w 34 3 (some ad) l0.length c0 0 0 Try.underlying34
   simp only [Option.isNone_some] at he
   go_enter Try.func52, Try.ntmps52
   go_wp2_with (first | ((with_reducible refine gate_dst (N := 5) rfl ?_); refine Kd.R_lit (Kd.int .i64) _ 3 ?hg (N := 5) ?hd (xs := ([] : List Int)) (inner := []) (ok := fun _ => True) (okp := fun _ => True) ?hr ?hp (fun _ hk => hk) trivial (Below.refl _ _) (Nat.le_refl _) (by simp) ?_; (case hd => rfl); (case hg => rfl); (case hr => first | (go_simp; done) | (go_simp; rfl)); (case hp => exact (Reps.none _ _)); intro v5 w5 ho5 hb hg_ hnew_; clear hg_ hnew_; have HO5 := Aside0.mk ho5; have HB5 := Aside0.mk hb; clear ho5 hb) | ((with_reducible refine gate_builtin (b := .append) (xs := #[.tmp 5, .tmp 6]) rfl ?_); at_builtin; refine Kd.R_append_rows (Kd.int .i64) (w0 := w) w.heap.size rfl (.tmp 5) (.tmp 6) 34 3 (.int .i64 0) 8 rfl Try.underlying34 info3 rfl (by decide) (by omega) v5 [] l0 _ _ _ (fun _ => True) (fun _ => False) rfl rfl ?aO ?aR (fun _ _ h => h) (fun _ h => h.elim) (fun _ _ => trivial) ?aB ?aS ?aL ?_; (case aR => exact Kd.C_below HR0.out HB5.out); (case aB => exact HB5.out); (case aO => exact HO5.out); (case aS => exact HB5.out.size); (case aL => have := LM.out; simp; omega); intro v7 w7 ho hb hg hat; rw [List.nil_append] at ho; have HO7 := Aside0.mk ho; have HB7 := Aside0.mk hb; clear ho hb hg hat))
   go_ret
   exact ⟨_, rfl, HO7.out, HB7.out⟩
 ·rw [if_neg hlim] at h
  exact absurd h (by simp)
end Go.Proofs.Ytdigplhjfjchnaa.PQ
