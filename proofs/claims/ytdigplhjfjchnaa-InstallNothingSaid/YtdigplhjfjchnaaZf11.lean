-- Printed by fprint.py and zip.py, programs of this session's, over the kit's print; Lean checks it.
import Derived.Test.YtdigplhjfjchnaaZ0
namespace Go.Proofs.Ytdigplhjfjchnaa.PQ
open Go.RowKit Go.Proofs.YtdigplhjfjchnaaW.PrintWords Go.Proofs.YtdigplhjfjchnaaW.PrintLast Go.Proofs.YtdigplhjfjchnaaW.PrintMore
attribute [local go_sem] max2_int min2_int max_two min_two max_three min_three max_four min_four   -- for this text's walks alone
set_option linter.unusedVariables false
set_option linter.unusedSimpArgs false
def rep32 (a : ByteArray) : ByteArray := ⟨(Go.Lib.repeatL a.data.toList 32).toArray⟩
def hopmeshlaw49_id.f (a0 : ByteArray) : Option (ByteArray) := if a0.size = 1 then some (rep32 a0) else none
set_option maxHeartbeats 8000000 in
set_option maxRecDepth 100000 in
theorem hopmeshlaw49_id.calls (a0 : ByteArray) (r : ByteArray) (w : World) (h : hopmeshlaw49_id.f a0 = some r) :
 Calls Try.prog 11 #[.string a0] w fun e w' => e = .returned (.string r) ∧ Below w.heap.size w w' := by
 unfold hopmeshlaw49_id.f at h
 by_cases hs : a0.size = 1
 ·rw [if_pos hs] at h
  obtain rfl := Option.some.inj h
  clear h
  go_enter Try.func11, Try.ntmps11
  go_wp2_with ((with_reducible refine gate_callee (f := 41) rfl ?_); refine goesL_ (some 4) rfl rfl Try.func41 (by kernel_rfl) rfl #[.string a0, .int .i64 32] rfl (by (try simp only [List.map_toArray, List.map_cons, List.map_nil]); first | done | rfl) ?_; refine (Go.Proofs.Try.strings_Repeat a0 32 _ (by omega) (by omega)).mono ?_; rintro e w1 ⟨rfl, hb⟩; refine ⟨_, rfl, ?_⟩)
  go_ret
  exact ⟨rfl, hb⟩
 ·rw [if_neg hs] at h
  exact absurd h (by simp)
end Go.Proofs.Ytdigplhjfjchnaa.PQ
