-- Printed by fprint.py and zip.py, programs of this session's, over the kit's print; Lean checks it.
import Derived.Test.YtnipgplobipeeaaZ0
import Derived.Test.YtnipgplobipeeaaZf24
namespace Go.Proofs.Ytnipgplobipeeaa.PQ
open Go.RowKit Go.Proofs.YtnipgplobipeeaaW.PrintWords Go.Proofs.YtnipgplobipeeaaW.PrintLast Go.Proofs.YtnipgplobipeeaaW.PrintMore
attribute [local go_sem] max2_int min2_int max_two min_two max_three min_three max_four min_four   -- for this text's walks alone
set_option linter.unusedVariables false
set_option linter.unusedSimpArgs false
def quality_Add.f (a0_0 : Int) (a0_1 : Int) (a1 : Bool) : Option (Int × Int × Int) := (quality_Check.f a0_0 a0_1).bind fun t367 => (if t367 = 0 then (if a0_0 = 1073741824 then (some (0, 0, 13)) else (if a1 = true then (some (wrap64 (a0_0 + 1), wrap64 (a0_1 + 1), 0)) else (some (wrap64 (a0_0 + 1), a0_1, 0)))) else (some (0, 0, 1)))
set_option maxHeartbeats 8000000 in
set_option maxRecDepth 100000 in
theorem quality_Add.calls (a0_0 : Int) (a0_1 : Int) (a1 : Bool) (r1 : Int) (r2 : Int) (r3 : Int) (w : World) (h : quality_Add.f a0_0 a0_1 a1 = some (r1, r2, r3)) :
 Calls Try.prog 18 #[.agg #[.int .i64 a0_0, .int .i64 a0_1], .bool a1] w fun e w' => e = .returned (.tuple #[.agg #[.int .i64 r1, .int .i64 r2], .int .i64 r3]) ∧ Below w.heap.size w w' := by
 have hu34 := Try.underlying34
 have HB := Aside0.mk (Below.refl w.heap.size w)
 have H : ((quality_Check.f a0_0 a0_1).bind fun t367 => (if t367 = 0 then (if a0_0 = 1073741824 then (some (0, 0, 13)) else (if a1 = true then (some (wrap64 (a0_0 + 1), wrap64 (a0_1 + 1), 0)) else (some (wrap64 (a0_0 + 1), a0_1, 0)))) else (some (0, 0, 1)))) = some (r1, r2, r3) := h
 clear h
 replace H := Option.bind_eq_some_iff.mp H
 obtain ⟨t367, A30, H⟩ := H
 (try dsimp only at H)
 have A3 := Aside0.mk A30
 clear A30
 by_cases c4 : t367 = 0
 ·rw [if_pos c4] at H
  have c4b0 : (t367 == 0) = true := beq_iff_eq.mpr c4
  have c4b1 : (t367 != 0) = false := bne_eq_false_iff_eq.mpr c4
  clear c4
  by_cases c5 : a0_0 = 1073741824
  ·rw [if_pos c5] at H
   have c5b0 : (a0_0 == 1073741824) = true := beq_iff_eq.mpr c5
   have c5b1 : (a0_0 != 1073741824) = false := bne_eq_false_iff_eq.mpr c5
   clear c5
   simp only [Option.some.injEq, Prod.mk.injEq] at H
   obtain ⟨rfl, rfl, rfl⟩ := H
   go_enter Try.func18, Try.ntmps18
   go_wp2_with (first | ((with_reducible refine gate_dst (N := 2) rfl ?_); refine boxE 2 #[.int .i64 a0_0, .int .i64 a0_1] 34 ?_; intro gb365 hg w6 hbox hb; have BK365 := Aside0.mk (hbox); have GW365 := gw hg HB; have GE365 := gw hg HB; replace HB := hbS HB hb; clear hb hbox hg) | ((with_reducible refine gate_dst (N := 4) rfl ?_); refine boxE 4 #[.int .i64 0, .int .i64 0] 34 ?_; intro gb366 hg w7 hbox hb; have BK366 := Aside0.mk (hbox); have GW366 := gw hg HB; have GE366 := gw hg HB; replace HB := hbS HB hb; have NB365_366 := nbl hg BK365; have NB366_365 := nbg hg BK365; replace BK365 := bkB BK365 hb; clear hb hbox hg; have hnb8 := NB365_366.out; have hnc8 := NB366_365.out; obtain ⟨z0, z1, y0, y1⟩ := bc2 BK365) | ((with_reducible refine gate_callee (f := 24) rfl ?_); refine goesL_ (some 8) rfl rfl Try.func24 (by kernel_rfl) rfl #[.agg #[.int .i64 a0_0, .int .i64 a0_1]] rfl sma ?_; (with_reducible refine (quality_Check.calls a0_0 a0_1 t367 _ A3.out).mono ?_); rintro e w10 ⟨rfl, hb⟩; refine ⟨_, rfl, ?_⟩; replace BK365 := bkB BK365 hb; replace BK366 := bkB BK366 hb; replace HB := hbS HB hb; (try clear hb); (try clear hb2); (try clear hk); (try clear hi); obtain ⟨z0, z1, y0, y1⟩ := bc2 BK365; obtain ⟨z0, z1, y0, y1⟩ := bc2 BK366))
   refine bodyPost_ret (results_ct rfl _ _ gb366 34 #[.int .i64 0, .int .i64 0] (0, 0) _ rfl (bkp BK366) Try.underlying34 rfl (by kernel_rfl)) rfl ?_
   exact ⟨rerr, hbx HB⟩
  ·rw [if_neg c5] at H
   have c5b0 : (a0_0 == 1073741824) = false := beq_eq_false_iff_ne.mpr c5
   have c5b1 : (a0_0 != 1073741824) = true := bne_iff_ne.mpr c5
   by_cases c13 : a1 = true
   ·subst c13
    rw [if_pos rfl] at H
    simp only [Option.some.injEq, Prod.mk.injEq] at H
    obtain ⟨rfl, rfl, rfl⟩ := H
    go_enter Try.func18, Try.ntmps18
    go_wp2_with (first | ((with_reducible refine gate_dst (N := 2) rfl ?_); refine boxE 2 #[.int .i64 a0_0, .int .i64 a0_1] 34 ?_; intro gb365 hg w14 hbox hb; have BK365 := Aside0.mk (hbox); have GW365 := gw hg HB; have GE365 := gw hg HB; replace HB := hbS HB hb; clear hb hbox hg) | ((with_reducible refine gate_dst (N := 4) rfl ?_); refine boxE 4 #[.int .i64 0, .int .i64 0] 34 ?_; intro gb366 hg w15 hbox hb; have BK366 := Aside0.mk (hbox); have GW366 := gw hg HB; have GE366 := gw hg HB; replace HB := hbS HB hb; have NB365_366 := nbl hg BK365; have NB366_365 := nbg hg BK365; replace BK365 := bkB BK365 hb; clear hb hbox hg; have hnb16 := NB365_366.out; have hnc16 := NB366_365.out; obtain ⟨z0, z1, y0, y1⟩ := bc2 BK365) | ((with_reducible refine gate_callee (f := 24) rfl ?_); refine goesL_ (some 8) rfl rfl Try.func24 (by kernel_rfl) rfl #[.agg #[.int .i64 a0_0, .int .i64 a0_1]] rfl sma ?_; (with_reducible refine (quality_Check.calls a0_0 a0_1 t367 _ A3.out).mono ?_); rintro e w18 ⟨rfl, hb⟩; refine ⟨_, rfl, ?_⟩; replace BK365 := bkB BK365 hb; replace BK366 := bkB BK366 hb; replace HB := hbS HB hb; (try clear hb); (try clear hb2); (try clear hk); (try clear hi); obtain ⟨z0, z1, y0, y1⟩ := bc2 BK365; obtain ⟨z0, z1, y0, y1⟩ := bc2 BK366))
    refine bodyPost_ret (results_ct rfl _ _ gb366 34 #[.int .i64 (wrap64 (a0_0 + 1)), .int .i64 (wrap64 (a0_1 + 1))] (0, 0) _ rfl (bkp BK366) Try.underlying34 rfl (by kernel_rfl)) rfl ?_
    exact ⟨rerr, hbx HB⟩
   ·replace c13 := Bool.eq_false_iff.mpr c13
    subst c13
    rw [if_neg (show ¬ (false = true) by decide)] at H
    simp only [Option.some.injEq, Prod.mk.injEq] at H
    obtain ⟨rfl, rfl, rfl⟩ := H
    go_enter Try.func18, Try.ntmps18
    go_wp2_with (first | ((with_reducible refine gate_dst (N := 2) rfl ?_); refine boxE 2 #[.int .i64 a0_0, .int .i64 a0_1] 34 ?_; intro gb365 hg w21 hbox hb; have BK365 := Aside0.mk (hbox); have GW365 := gw hg HB; have GE365 := gw hg HB; replace HB := hbS HB hb; clear hb hbox hg) | ((with_reducible refine gate_dst (N := 4) rfl ?_); refine boxE 4 #[.int .i64 0, .int .i64 0] 34 ?_; intro gb366 hg w22 hbox hb; have BK366 := Aside0.mk (hbox); have GW366 := gw hg HB; have GE366 := gw hg HB; replace HB := hbS HB hb; have NB365_366 := nbl hg BK365; have NB366_365 := nbg hg BK365; replace BK365 := bkB BK365 hb; clear hb hbox hg; have hnb23 := NB365_366.out; have hnc23 := NB366_365.out; obtain ⟨z0, z1, y0, y1⟩ := bc2 BK365) | ((with_reducible refine gate_callee (f := 24) rfl ?_); refine goesL_ (some 8) rfl rfl Try.func24 (by kernel_rfl) rfl #[.agg #[.int .i64 a0_0, .int .i64 a0_1]] rfl sma ?_; (with_reducible refine (quality_Check.calls a0_0 a0_1 t367 _ A3.out).mono ?_); rintro e w25 ⟨rfl, hb⟩; refine ⟨_, rfl, ?_⟩; replace BK365 := bkB BK365 hb; replace BK366 := bkB BK366 hb; replace HB := hbS HB hb; (try clear hb); (try clear hb2); (try clear hk); (try clear hi); obtain ⟨z0, z1, y0, y1⟩ := bc2 BK365; obtain ⟨z0, z1, y0, y1⟩ := bc2 BK366))
    refine bodyPost_ret (results_ct rfl _ _ gb366 34 #[.int .i64 (wrap64 (a0_0 + 1)), .int .i64 a0_1] (0, 0) _ rfl (bkp BK366) Try.underlying34 rfl (by kernel_rfl)) rfl ?_
    exact ⟨rerr, hbx HB⟩
 ·rw [if_neg c4] at H
  have c4b0 : (t367 == 0) = false := beq_eq_false_iff_ne.mpr c4
  have c4b1 : (t367 != 0) = true := bne_iff_ne.mpr c4
  simp only [Option.some.injEq, Prod.mk.injEq] at H
  obtain ⟨rfl, rfl, rfl⟩ := H
  go_enter Try.func18, Try.ntmps18
  go_wp2_with (first | ((with_reducible refine gate_dst (N := 2) rfl ?_); refine boxE 2 #[.int .i64 a0_0, .int .i64 a0_1] 34 ?_; intro gb365 hg w28 hbox hb; have BK365 := Aside0.mk (hbox); have GW365 := gw hg HB; have GE365 := gw hg HB; replace HB := hbS HB hb; clear hb hbox hg) | ((with_reducible refine gate_dst (N := 4) rfl ?_); refine boxE 4 #[.int .i64 0, .int .i64 0] 34 ?_; intro gb366 hg w29 hbox hb; have BK366 := Aside0.mk (hbox); have GW366 := gw hg HB; have GE366 := gw hg HB; replace HB := hbS HB hb; have NB365_366 := nbl hg BK365; have NB366_365 := nbg hg BK365; replace BK365 := bkB BK365 hb; clear hb hbox hg; have hnb30 := NB365_366.out; have hnc30 := NB366_365.out; obtain ⟨z0, z1, y0, y1⟩ := bc2 BK365) | ((with_reducible refine gate_callee (f := 24) rfl ?_); refine goesL_ (some 8) rfl rfl Try.func24 (by kernel_rfl) rfl #[.agg #[.int .i64 a0_0, .int .i64 a0_1]] rfl sma ?_; (with_reducible refine (quality_Check.calls a0_0 a0_1 t367 _ A3.out).mono ?_); rintro e w32 ⟨rfl, hb⟩; refine ⟨_, rfl, ?_⟩; replace BK365 := bkB BK365 hb; replace BK366 := bkB BK366 hb; replace HB := hbS HB hb; (try clear hb); (try clear hb2); (try clear hk); (try clear hi); obtain ⟨z0, z1, y0, y1⟩ := bc2 BK366))
  refine bodyPost_ret (results_ct rfl _ _ gb366 34 #[.int .i64 0, .int .i64 0] (0, 0) _ rfl (bkp BK366) Try.underlying34 rfl (by kernel_rfl)) rfl ?_
  exact ⟨rerr, hbx HB⟩
end Go.Proofs.Ytnipgplobipeeaa.PQ
