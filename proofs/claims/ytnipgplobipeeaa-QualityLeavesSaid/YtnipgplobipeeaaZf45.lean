-- Printed by fprint.py and zip.py, programs of this session's, over the kit's print; Lean checks it.
import Derived.Test.YtnipgplobipeeaaZ0
import Derived.Test.YtnipgplobipeeaaZf54
namespace Go.Proofs.Ytnipgplobipeeaa.PQ
open Go.RowKit Go.Proofs.YtnipgplobipeeaaW.PrintWords Go.Proofs.YtnipgplobipeeaaW.PrintLast Go.Proofs.YtnipgplobipeeaaW.PrintMore
attribute [local go_sem] max2_int min2_int max_two min_two max_three min_three max_four min_four   -- for this text's walks alone
set_option linter.unusedVariables false
set_option linter.unusedSimpArgs false
def quality_compare.f (a0_0 : Int) (a0_1 : Int) (a1_0 : Int) (a1_1 : Int) : Option (Int) := (cmp_Compare_int.f (wrap64 (a0_1 * (mx a1_0 1))) (wrap64 (a1_1 * (mx a0_0 1)))).bind fun t382 => (some t382)
set_option maxHeartbeats 8000000 in
set_option maxRecDepth 100000 in
theorem quality_compare.calls (a0_0 : Int) (a0_1 : Int) (a1_0 : Int) (a1_1 : Int) (r : Int) (w : World) (h : quality_compare.f a0_0 a0_1 a1_0 a1_1 = some r) :
 Calls Try.prog 45 #[.agg #[.int .i64 a0_0, .int .i64 a0_1], .agg #[.int .i64 a1_0, .int .i64 a1_1]] w fun e w' => e = .returned (.int .i64 r) ∧ Below w.heap.size w w' := by
 have hu34 := Try.underlying34
 have HB := Aside0.mk (Below.refl w.heap.size w)
 have H : ((cmp_Compare_int.f (wrap64 (a0_1 * (mx a1_0 1))) (wrap64 (a1_1 * (mx a0_0 1)))).bind fun t382 => (some t382)) = some r := h
 clear h
 obtain ⟨ji3, hji3⟩ : ∃ j_ : Int, (mx a1_0 1) = j_ := ⟨_, rfl⟩
 replace H : ((cmp_Compare_int.f (wrap64 (a0_1 * (ji3))) (wrap64 (a1_1 * (mx a0_0 1)))).bind fun t382 => (some t382)) = some r := by first | (rw [hji3] at H; exact H) | (simp only [hji3] at H ⊢; exact H)
 (try (have hji3l : 1 ≤ ji3 := by (rw [← hji3]; unfold mx; (repeat' split) <;> omega)))
 (try (have hji3m : 0 ≤ ji3 := by omega))
 have hji3_ : (if a1_0 < 1 then 1 else a1_0) = ji3 := hji3
 obtain ⟨ji4, hji4⟩ : ∃ j_ : Int, (mx a0_0 1) = j_ := ⟨_, rfl⟩
 replace H : ((cmp_Compare_int.f (wrap64 (a0_1 * (ji3))) (wrap64 (a1_1 * (ji4)))).bind fun t382 => (some t382)) = some r := by first | (rw [hji4] at H; exact H) | (simp only [hji4] at H ⊢; exact H)
 (try (have hji4l : 1 ≤ ji4 := by (rw [← hji4]; unfold mx; (repeat' split) <;> omega)))
 (try (have hji4m : 0 ≤ ji4 := by omega))
 have hji4_ : (if a0_0 < 1 then 1 else a0_0) = ji4 := hji4
 replace H := Option.bind_eq_some_iff.mp H
 obtain ⟨t382, A50, H⟩ := H
 (try dsimp only at H)
 have A5 := Aside0.mk A50
 clear A50
 obtain rfl := Option.some.inj H
 go_enter Try.func45, Try.ntmps45
 go_wp2_with (first | ((with_reducible refine gate_dst (N := 2) rfl ?_); refine boxE 2 #[.int .i64 a0_0, .int .i64 a0_1] 34 ?_; intro gb380 hg w6 hbox hb; have BK380 := Aside0.mk (hbox); have GW380 := gw hg HB; have GE380 := gw hg HB; replace HB := hbS HB hb; clear hb hbox hg) | ((with_reducible refine gate_dst (N := 3) rfl ?_); refine boxE 3 #[.int .i64 a1_0, .int .i64 a1_1] 34 ?_; intro gb381 hg w7 hbox hb; have BK381 := Aside0.mk (hbox); have GW381 := gw hg HB; have GE381 := gw hg HB; replace HB := hbS HB hb; have NB380_381 := nbl hg BK380; have NB381_380 := nbg hg BK380; replace BK380 := bkB BK380 hb; clear hb hbox hg; have hnb8 := NB380_381.out; have hnc8 := NB381_380.out; obtain ⟨z0, z1, y0, y1⟩ := bc2 BK380; obtain ⟨z0, z1, y0, y1⟩ := bc2 BK381) | ((with_reducible refine gate_callee (f := 54) rfl ?_); refine goesL_ (some 17) rfl rfl Try.func54 (by kernel_rfl) rfl #[.int .i64 (wrap64 (a0_1 * (ji3))), .int .i64 (wrap64 (a1_1 * (ji4)))] rfl (by (try simp only [List.map_toArray, List.map_cons, List.map_nil]); first | done | (simp only [hji3, hji4]; rfl) | rfl | (simp only [List.length_drop, List.length_take]; rfl)) ?_; (with_reducible refine (cmp_Compare_int.calls (wrap64 (a0_1 * (ji3))) (wrap64 (a1_1 * (ji4))) t382 _ A5.out).mono ?_); rintro e w' ⟨rfl, ⟨nd, rfl⟩⟩; refine ⟨_, rfl, ?_⟩))
 go_ret
 exact ⟨by first | rfl | (simp [errW_none, errW_some] <;> rfl) | (simp only [← hji3, ← hji4]; first | rfl | (simp [errW_none, errW_some] <;> rfl)) | (simp [*, errW_none, errW_some] <;> rfl), hbx HB⟩
end Go.Proofs.Ytnipgplobipeeaa.PQ
