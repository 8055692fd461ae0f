-- Printed by fprint.py and zip.py, programs of this session's, over the kit's print; Lean checks it.
import Derived.Test.YtnipgplobipeeaaZ0
namespace Go.Proofs.Ytnipgplobipeeaa.PQ
open Go.RowKit Go.Proofs.YtnipgplobipeeaaW.PrintWords Go.Proofs.YtnipgplobipeeaaW.PrintLast Go.Proofs.YtnipgplobipeeaaW.PrintMore
attribute [local go_sem] max2_int min2_int max_two min_two max_three min_three max_four min_four   -- for this text's walks alone
set_option linter.unusedVariables false
set_option linter.unusedSimpArgs false
def quality_Check.f (a0_0 : Int) (a0_1 : Int) : Option (Int) := if a0_1 < 0 then (some 1) else (if a0_1 > a0_0 then (some 1) else (if a0_0 > 1073741824 then (some 1) else (some 0)))
set_option maxHeartbeats 8000000 in
set_option maxRecDepth 100000 in
theorem quality_Check.calls (a0_0 : Int) (a0_1 : Int) (r : Int) (w : World) (h : quality_Check.f a0_0 a0_1 = some r) :
 Calls Try.prog 24 #[.agg #[.int .i64 a0_0, .int .i64 a0_1]] w fun e w' => e = .returned (.int .i64 r) ∧ Below w.heap.size w w' := by
 have hu34 := Try.underlying34
 have HB := Aside0.mk (Below.refl w.heap.size w)
 have H : (if a0_1 < 0 then (some 1) else (if a0_1 > a0_0 then (some 1) else (if a0_0 > 1073741824 then (some 1) else (some 0)))) = some r := h
 clear h
 by_cases c2 : a0_1 < 0
 ·rw [if_pos c2] at H
  have c2b0 : decide (a0_1 < 0) = true := decide_eq_true c2
  clear c2
  obtain rfl := Option.some.inj H
  go_enter Try.func24, Try.ntmps24
  go_wp2_with (first | ((with_reducible refine gate_dst (N := 1) rfl ?_); refine boxE 1 #[.int .i64 a0_0, .int .i64 a0_1] 34 ?_; intro gb101 hg w3 hbox hb; have BK101 := Aside0.mk (hbox); have GW101 := gw hg HB; have GE101 := gw hg HB; replace HB := hbS HB hb; clear hb hbox hg; obtain ⟨z0, z1, y0, y1⟩ := bc2 BK101))
  go_ret
  exact ⟨rerr, hbx HB⟩
 ·rw [if_neg c2] at H
  have c2b0 : decide (a0_1 < 0) = false := decide_eq_false c2
  clear c2
  by_cases c5 : a0_1 > a0_0
  ·rw [if_pos c5] at H
   have c5b0 : decide (a0_0 < a0_1) = true := decide_eq_true c5
   clear c5
   obtain rfl := Option.some.inj H
   go_enter Try.func24, Try.ntmps24
   go_wp2_with (first | ((with_reducible refine gate_dst (N := 1) rfl ?_); refine boxE 1 #[.int .i64 a0_0, .int .i64 a0_1] 34 ?_; intro gb101 hg w6 hbox hb; have BK101 := Aside0.mk (hbox); have GW101 := gw hg HB; have GE101 := gw hg HB; replace HB := hbS HB hb; clear hb hbox hg; obtain ⟨z0, z1, y0, y1⟩ := bc2 BK101))
   go_ret
   exact ⟨rerr, hbx HB⟩
  ·rw [if_neg c5] at H
   have c5b0 : decide (a0_0 < a0_1) = false := decide_eq_false c5
   clear c5
   by_cases c8 : a0_0 > 1073741824
   ·rw [if_pos c8] at H
    have c8b0 : decide (1073741824 < a0_0) = true := decide_eq_true c8
    clear c8
    obtain rfl := Option.some.inj H
    go_enter Try.func24, Try.ntmps24
    go_wp2_with (first | ((with_reducible refine gate_dst (N := 1) rfl ?_); refine boxE 1 #[.int .i64 a0_0, .int .i64 a0_1] 34 ?_; intro gb101 hg w9 hbox hb; have BK101 := Aside0.mk (hbox); have GW101 := gw hg HB; have GE101 := gw hg HB; replace HB := hbS HB hb; clear hb hbox hg; obtain ⟨z0, z1, y0, y1⟩ := bc2 BK101))
    go_ret
    exact ⟨rerr, hbx HB⟩
   ·rw [if_neg c8] at H
    have c8b0 : decide (1073741824 < a0_0) = false := decide_eq_false c8
    clear c8
    obtain rfl := Option.some.inj H
    go_enter Try.func24, Try.ntmps24
    go_wp2_with (first | ((with_reducible refine gate_dst (N := 1) rfl ?_); refine boxE 1 #[.int .i64 a0_0, .int .i64 a0_1] 34 ?_; intro gb101 hg w11 hbox hb; have BK101 := Aside0.mk (hbox); have GW101 := gw hg HB; have GE101 := gw hg HB; replace HB := hbS HB hb; clear hb hbox hg; obtain ⟨z0, z1, y0, y1⟩ := bc2 BK101))
    go_ret
    exact ⟨rerr, hbx HB⟩
end Go.Proofs.Ytnipgplobipeeaa.PQ
