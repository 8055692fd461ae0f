-- Printed by fprint.py and zip.py, programs of this session's, over the kit's print; Lean checks it.
import Derived.Test.YtnipgplobipeeaaZ0
namespace Go.Proofs.Ytnipgplobipeeaa.PQ
open Go.RowKit Go.Proofs.YtnipgplobipeeaaW.PrintWords Go.Proofs.YtnipgplobipeeaaW.PrintLast Go.Proofs.YtnipgplobipeeaaW.PrintMore
attribute [local go_sem] max2_int min2_int max_two min_two max_three min_three max_four min_four   -- for this text's walks alone
set_option linter.unusedVariables false
set_option linter.unusedSimpArgs false
def quality_rules_right.f (a0_0 : Int) (a0_1 : Int) (a0_2 : Int) (a0_3 : Int) : Option (Bool) := if a0_0 ≥ 1 then (if a0_0 ≤ 1000 then (if a0_1 ≥ 0 then (if a0_1 ≤ a0_2 then (if a0_2 ≤ 1000 then (if a0_3 ≥ 1 then (some (decide (a0_3 ≤ 16))) else (some false)) else (some false)) else (some false)) else (some false)) else (some false)) else (some false)
set_option maxHeartbeats 8000000 in
set_option maxRecDepth 100000 in
theorem quality_rules_right.calls (a0_0 : Int) (a0_1 : Int) (a0_2 : Int) (a0_3 : Int) (r : Bool) (w : World) (h : quality_rules_right.f a0_0 a0_1 a0_2 a0_3 = some r) :
 Calls Try.prog 52 #[.agg #[.int .i64 a0_0, .int .i64 a0_1, .int .i64 a0_2, .int .i64 a0_3]] w fun e w' => e = .returned (.bool r) ∧ Below w.heap.size w w' := by
 have hu69 := Try.underlying69
 have HB := Aside0.mk (Below.refl w.heap.size w)
 have H : (if a0_0 ≥ 1 then (if a0_0 ≤ 1000 then (if a0_1 ≥ 0 then (if a0_1 ≤ a0_2 then (if a0_2 ≤ 1000 then (if a0_3 ≥ 1 then (some (decide (a0_3 ≤ 16))) else (some false)) else (some false)) else (some false)) else (some false)) else (some false)) else (some false)) = some r := h
 clear h
 by_cases c2 : a0_0 ≥ 1
 ·rw [if_pos c2] at H
  have c2b0 : decide (1 ≤ a0_0) = true := decide_eq_true c2
  clear c2
  by_cases c3 : a0_0 ≤ 1000
  ·rw [if_pos c3] at H
   have c3b0 : decide (a0_0 ≤ 1000) = true := decide_eq_true c3
   clear c3
   by_cases c4 : a0_1 ≥ 0
   ·rw [if_pos c4] at H
    have c4b0 : decide (0 ≤ a0_1) = true := decide_eq_true c4
    clear c4
    by_cases c5 : a0_1 ≤ a0_2
    ·rw [if_pos c5] at H
     have c5b0 : decide (a0_1 ≤ a0_2) = true := decide_eq_true c5
     clear c5
     by_cases c6 : a0_2 ≤ 1000
     ·rw [if_pos c6] at H
      have c6b0 : decide (a0_2 ≤ 1000) = true := decide_eq_true c6
      clear c6
      by_cases c7 : a0_3 ≥ 1
      ·rw [if_pos c7] at H
       have c7b0 : decide (1 ≤ a0_3) = true := decide_eq_true c7
       clear c7
       obtain rfl := Option.some.inj H
       go_enter Try.func52, Try.ntmps52
       go_wp2_with (first | ((with_reducible refine gate_dst (N := 1) rfl ?_); refine boxE 1 #[.int .i64 a0_0, .int .i64 a0_1, .int .i64 a0_2, .int .i64 a0_3] 69 ?_; intro gb156 hg w8 hbox hb; have BK156 := Aside0.mk (hbox); have GW156 := gw hg HB; have GE156 := gw hg HB; replace HB := hbS HB hb; clear hb hbox hg; obtain ⟨z0, z1, z2, z3, y0, y1, y2, y3⟩ := bc4 BK156))
       go_ret
       exact ⟨rerr, hbx HB⟩
      ·rw [if_neg c7] at H
       have c7b0 : decide (1 ≤ a0_3) = false := decide_eq_false c7
       clear c7
       obtain rfl := Option.some.inj H
       go_enter Try.func52, Try.ntmps52
       go_wp2_with (first | ((with_reducible refine gate_dst (N := 1) rfl ?_); refine boxE 1 #[.int .i64 a0_0, .int .i64 a0_1, .int .i64 a0_2, .int .i64 a0_3] 69 ?_; intro gb156 hg w10 hbox hb; have BK156 := Aside0.mk (hbox); have GW156 := gw hg HB; have GE156 := gw hg HB; replace HB := hbS HB hb; clear hb hbox hg; obtain ⟨z0, z1, z2, z3, y0, y1, y2, y3⟩ := bc4 BK156))
       go_ret
       exact ⟨rerr, hbx HB⟩
     ·rw [if_neg c6] at H
      have c6b0 : decide (a0_2 ≤ 1000) = false := decide_eq_false c6
      clear c6
      obtain rfl := Option.some.inj H
      go_enter Try.func52, Try.ntmps52
      go_wp2_with (first | ((with_reducible refine gate_dst (N := 1) rfl ?_); refine boxE 1 #[.int .i64 a0_0, .int .i64 a0_1, .int .i64 a0_2, .int .i64 a0_3] 69 ?_; intro gb156 hg w12 hbox hb; have BK156 := Aside0.mk (hbox); have GW156 := gw hg HB; have GE156 := gw hg HB; replace HB := hbS HB hb; clear hb hbox hg; obtain ⟨z0, z1, z2, z3, y0, y1, y2, y3⟩ := bc4 BK156))
      go_ret
      exact ⟨rerr, hbx HB⟩
    ·rw [if_neg c5] at H
     have c5b0 : decide (a0_1 ≤ a0_2) = false := decide_eq_false c5
     clear c5
     obtain rfl := Option.some.inj H
     go_enter Try.func52, Try.ntmps52
     go_wp2_with (first | ((with_reducible refine gate_dst (N := 1) rfl ?_); refine boxE 1 #[.int .i64 a0_0, .int .i64 a0_1, .int .i64 a0_2, .int .i64 a0_3] 69 ?_; intro gb156 hg w14 hbox hb; have BK156 := Aside0.mk (hbox); have GW156 := gw hg HB; have GE156 := gw hg HB; replace HB := hbS HB hb; clear hb hbox hg; obtain ⟨z0, z1, z2, z3, y0, y1, y2, y3⟩ := bc4 BK156))
     go_ret
     exact ⟨rerr, hbx HB⟩
   ·rw [if_neg c4] at H
    have c4b0 : decide (0 ≤ a0_1) = false := decide_eq_false c4
    clear c4
    obtain rfl := Option.some.inj H
    go_enter Try.func52, Try.ntmps52
    go_wp2_with (first | ((with_reducible refine gate_dst (N := 1) rfl ?_); refine boxE 1 #[.int .i64 a0_0, .int .i64 a0_1, .int .i64 a0_2, .int .i64 a0_3] 69 ?_; intro gb156 hg w16 hbox hb; have BK156 := Aside0.mk (hbox); have GW156 := gw hg HB; have GE156 := gw hg HB; replace HB := hbS HB hb; clear hb hbox hg; obtain ⟨z0, z1, z2, z3, y0, y1, y2, y3⟩ := bc4 BK156))
    go_ret
    exact ⟨rerr, hbx HB⟩
  ·rw [if_neg c3] at H
   have c3b0 : decide (a0_0 ≤ 1000) = false := decide_eq_false c3
   clear c3
   obtain rfl := Option.some.inj H
   go_enter Try.func52, Try.ntmps52
   go_wp2_with (first | ((with_reducible refine gate_dst (N := 1) rfl ?_); refine boxE 1 #[.int .i64 a0_0, .int .i64 a0_1, .int .i64 a0_2, .int .i64 a0_3] 69 ?_; intro gb156 hg w18 hbox hb; have BK156 := Aside0.mk (hbox); have GW156 := gw hg HB; have GE156 := gw hg HB; replace HB := hbS HB hb; clear hb hbox hg; obtain ⟨z0, z1, z2, z3, y0, y1, y2, y3⟩ := bc4 BK156))
   go_ret
   exact ⟨rerr, hbx HB⟩
 ·rw [if_neg c2] at H
  have c2b0 : decide (1 ≤ a0_0) = false := decide_eq_false c2
  clear c2
  obtain rfl := Option.some.inj H
  go_enter Try.func52, Try.ntmps52
  go_wp2_with (first | ((with_reducible refine gate_dst (N := 1) rfl ?_); refine boxE 1 #[.int .i64 a0_0, .int .i64 a0_1, .int .i64 a0_2, .int .i64 a0_3] 69 ?_; intro gb156 hg w20 hbox hb; have BK156 := Aside0.mk (hbox); have GW156 := gw hg HB; have GE156 := gw hg HB; replace HB := hbS HB hb; clear hb hbox hg; obtain ⟨z0, z1, z2, z3, y0, y1, y2, y3⟩ := bc4 BK156))
  go_ret
  exact ⟨rerr, hbx HB⟩
end Go.Proofs.Ytnipgplobipeeaa.PQ
