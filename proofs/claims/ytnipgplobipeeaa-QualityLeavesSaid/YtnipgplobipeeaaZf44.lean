-- Printed by fprint.py and zip.py, programs of this session's, over the kit's print; Lean checks it.
import Derived.Test.YtnipgplobipeeaaZ0
namespace Go.Proofs.Ytnipgplobipeeaa.PQ
open Go.RowKit Go.Proofs.YtnipgplobipeeaaW.PrintWords Go.Proofs.YtnipgplobipeeaaW.PrintLast Go.Proofs.YtnipgplobipeeaaW.PrintMore
attribute [local go_sem] max2_int min2_int max_two min_two max_three min_three max_four min_four   -- for this text's walks alone
set_option linter.unusedVariables false
set_option linter.unusedSimpArgs false
def hopmeshref12_rate.f (a0_0 : Int) (a0_1 : Int) : Option (Int) := if a0_0 = 0 then (some 0) else (some (wrap64 (Int.tdiv (wrap64 (1000 * a0_1)) a0_0)))
set_option maxHeartbeats 8000000 in
set_option maxRecDepth 100000 in
theorem hopmeshref12_rate.calls (a0_0 : Int) (a0_1 : Int) (r : Int) (w : World) (h : hopmeshref12_rate.f a0_0 a0_1 = some r) :
 Calls Try.prog 44 #[.agg #[.int .i64 a0_0, .int .i64 a0_1]] w fun e w' => e = .returned (.int .i64 r) ∧ Below w.heap.size w w' := by
 have hu34 := Try.underlying34
 have HB := Aside0.mk (Below.refl w.heap.size w)
 have H : (if a0_0 = 0 then (some 0) else (some (wrap64 (Int.tdiv (wrap64 (1000 * a0_1)) a0_0)))) = some r := h
 clear h
 by_cases c2 : a0_0 = 0
 ·rw [if_pos c2] at H
  have c2b0 : (a0_0 == 0) = true := beq_iff_eq.mpr c2
  have c2b1 : (a0_0 != 0) = false := bne_eq_false_iff_eq.mpr c2
  clear c2
  obtain rfl := Option.some.inj H
  go_enter Try.func44, Try.ntmps44
  go_wp2_with (first | ((with_reducible refine gate_dst (N := 1) rfl ?_); refine boxE 1 #[.int .i64 a0_0, .int .i64 a0_1] 34 ?_; intro gb372 hg w3 hbox hb; have BK372 := Aside0.mk (hbox); have GW372 := gw hg HB; have GE372 := gw hg HB; replace HB := hbS HB hb; clear hb hbox hg; obtain ⟨z0, z1, y0, y1⟩ := bc2 BK372))
  go_ret
  exact ⟨rerr, hbx HB⟩
 ·rw [if_neg c2] at H
  have c2b0 : (a0_0 == 0) = false := beq_eq_false_iff_ne.mpr c2
  have c2b1 : (a0_0 != 0) = true := bne_iff_ne.mpr c2
  obtain rfl := Option.some.inj H
  go_enter Try.func44, Try.ntmps44
  go_wp2_with (first | ((with_reducible refine gate_dst (N := 1) rfl ?_); refine boxE 1 #[.int .i64 a0_0, .int .i64 a0_1] 34 ?_; intro gb372 hg w5 hbox hb; have BK372 := Aside0.mk (hbox); have GW372 := gw hg HB; have GE372 := gw hg HB; replace HB := hbS HB hb; clear hb hbox hg; obtain ⟨z0, z1, y0, y1⟩ := bc2 BK372))
  go_ret
  exact ⟨rerr, hbx HB⟩
end Go.Proofs.Ytnipgplobipeeaa.PQ
