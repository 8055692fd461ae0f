-- Printed by fprint.py and zip.py, programs of this session's, over the kit's print; Lean checks it.
import Derived.Test.YtdigplhjfjchnaaZ0
namespace Go.Proofs.Ytdigplhjfjchnaa.PQ
open Go.RowKit Go.Proofs.YtdigplhjfjchnaaW.PrintWords Go.Proofs.YtdigplhjfjchnaaW.PrintLast Go.Proofs.YtdigplhjfjchnaaW.PrintMore
attribute [local go_sem] max2_int min2_int max_two min_two max_three min_three max_four min_four   -- for this text's walks alone
set_option linter.unusedVariables false
set_option linter.unusedSimpArgs false
def install_own_1.f (l0 : List Bool) : Option (List Bool) := if l0.length < 140737488355328 then some l0 else none
set_option maxHeartbeats 8000000 in
set_option maxRecDepth 100000 in
theorem install_own_1.calls (A0 : Option Addr) (c0 : Nat) (l0 : List Bool) (r : List Bool) (w : World) (hr0 : Kd.C Kd.bool w A0 l0.length l0) (hc0 : l0.length ≤ c0) (h : install_own_1.f l0 = some r) :
 Calls Try.prog 86 #[.slice A0 l0.length c0] w fun e w' => ∃ v0_ : Value, e = .returned (v0_) ∧ Kd.R Kd.bool 4 w' w.heap.size (fun _ => True) v0_ r ∧ Below w.heap.size w w' := by
 unfold install_own_1.f at h
 by_cases hlim : l0.length < 140737488355328
 ·rw [if_pos hlim] at h
  obtain rfl := Option.some.inj h
  clear h
  have LM := Aside0.mk hlim
  clear hlim
  have HR0 := Aside0.mk hr0
  have HC0 := Aside0.mk hc0
  have HB := Aside0.mk (Below.refl w.heap.size w)
  clear hr0 hc0
  have E9 := Aside0.mk (show l0.take (min l0.length (List.replicate (l0.length : Int).toNat false).length) ++ (List.replicate (l0.length : Int).toNat false).drop (min l0.length (List.replicate (l0.length : Int).toNat false).length) = l0 by rw [List.length_replicate, Int.toNat_natCast, Nat.min_self, List.take_length, List.drop_eq_nil_of_le (by simp), List.append_nil])
  go_enter Try.func86, Try.ntmps86
  go_wp2_with (first | ((with_reducible refine gate_dst (N := 6) rfl ?_); refine Kd.R_make Kd.bool w.heap.size 4 rfl (N := 6) rfl 22 _ _ rfl (l0.length : Int) rfl rfl Try.underlying22 (.bool false) 1 info4 rfl (by decide) (by omega) false (ok := fun _ => True) (okp := fun _ => True) rfl (fun _ hk => hk) trivial (Int.natCast_nonneg _) (by have := LM.out; simp; omega) (Below.refl _ _) (Nat.le_refl _) ?_; intro v6 w6 ho hb hg_ hnew_; clear hg_ hnew_; have HO6 := Aside0.mk ho; have HB6 := Aside0.mk hb; clear ho hb) | ((with_reducible refine gate_builtin (b := .copy) (xs := #[.tmp 7, .tmp 8]) rfl ?_); refine Kd.R_copy (enc := Value.bool) (h1 := fun _ => rfl) (w0 := w) false w.heap.size rfl (.tmp 7) (.tmp 8) 22 22 4 rfl Try.underlying22 (by kernel_rfl) v6 (List.replicate (l0.length : Int).toNat false) l0 _ _ _ (fun _ => True) rfl rfl HO6.out (Kd.C_below HR0.out HB6.out) HB6.out HB6.out.size ?_; intro w9 ho hb hg; rw [E9.out] at ho; have HO9 := Aside0.mk ho; have HB9 := Aside0.mk hb; clear ho hb hg))
  go_ret
  exact ⟨_, rfl, HO9.out, HB9.out⟩
 ·rw [if_neg hlim] at h
  exact absurd h (by simp)
end Go.Proofs.Ytdigplhjfjchnaa.PQ
