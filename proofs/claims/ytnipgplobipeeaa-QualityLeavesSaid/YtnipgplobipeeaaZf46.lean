-- Printed by fprint.py and zip.py, programs of this session's, over the kit's print; Lean checks it.
import Derived.Test.YtnipgplobipeeaaZ0
namespace Go.Proofs.Ytnipgplobipeeaa.PQ
open Go.RowKit Go.Proofs.YtnipgplobipeeaaW.PrintWords Go.Proofs.YtnipgplobipeeaaW.PrintLast Go.Proofs.YtnipgplobipeeaaW.PrintMore
attribute [local go_sem] max2_int min2_int max_two min_two max_three min_three max_four min_four   -- for this text's walks alone
set_option linter.unusedVariables false
set_option linter.unusedSimpArgs false
def hopmeshref12_less.f (a0_0 : Int) (a0_1 : Int) (a1_0 : Int) (a1_1 : Int) : Option (Bool) := some (decide ((wrap64 (a0_1 * (mx a1_0 1))) < (wrap64 (a1_1 * (mx a0_0 1)))))
set_option maxHeartbeats 8000000 in
set_option maxRecDepth 100000 in
theorem hopmeshref12_less.calls (a0_0 : Int) (a0_1 : Int) (a1_0 : Int) (a1_1 : Int) (r : Bool) (w : World) (h : hopmeshref12_less.f a0_0 a0_1 a1_0 a1_1 = some r) :
 Calls Try.prog 46 #[.agg #[.int .i64 a0_0, .int .i64 a0_1], .agg #[.int .i64 a1_0, .int .i64 a1_1]] w fun e w' => e = .returned (.bool r) ∧ Below w.heap.size w w' := by
 have hu34 := Try.underlying34
 have HB := Aside0.mk (Below.refl w.heap.size w)
 have H : (some (decide ((wrap64 (a0_1 * (mx a1_0 1))) < (wrap64 (a1_1 * (mx a0_0 1)))))) = some r := h
 clear h
 obtain ⟨ji3, hji3⟩ : ∃ j_ : Int, (mx a1_0 1) = j_ := ⟨_, rfl⟩
 replace H : (some (decide ((wrap64 (a0_1 * (ji3))) < (wrap64 (a1_1 * (mx a0_0 1)))))) = some r := by first | (rw [hji3] at H; exact H) | (simp only [hji3] at H ⊢; exact H)
 (try (have hji3l : 1 ≤ ji3 := by (rw [← hji3]; unfold mx; (repeat' split) <;> omega)))
 (try (have hji3m : 0 ≤ ji3 := by omega))
 have hji3_ : (if a1_0 < 1 then 1 else a1_0) = ji3 := hji3
 obtain ⟨ji4, hji4⟩ : ∃ j_ : Int, (mx a0_0 1) = j_ := ⟨_, rfl⟩
 replace H : (some (decide ((wrap64 (a0_1 * (ji3))) < (wrap64 (a1_1 * (ji4)))))) = some r := by first | (rw [hji4] at H; exact H) | (simp only [hji4] at H ⊢; exact H)
 (try (have hji4l : 1 ≤ ji4 := by (rw [← hji4]; unfold mx; (repeat' split) <;> omega)))
 (try (have hji4m : 0 ≤ ji4 := by omega))
 have hji4_ : (if a0_0 < 1 then 1 else a0_0) = ji4 := hji4
 obtain rfl := Option.some.inj H
 go_enter Try.func46, Try.ntmps46
 go_wp2_with (first | ((with_reducible refine gate_dst (N := 2) rfl ?_); refine boxE 2 #[.int .i64 a0_0, .int .i64 a0_1] 34 ?_; intro gb388 hg w5 hbox hb; have BK388 := Aside0.mk (hbox); have GW388 := gw hg HB; have GE388 := gw hg HB; replace HB := hbS HB hb; clear hb hbox hg) | ((with_reducible refine gate_dst (N := 3) rfl ?_); refine boxE 3 #[.int .i64 a1_0, .int .i64 a1_1] 34 ?_; intro gb389 hg w6 hbox hb; have BK389 := Aside0.mk (hbox); have GW389 := gw hg HB; have GE389 := gw hg HB; replace HB := hbS HB hb; have NB388_389 := nbl hg BK388; have NB389_388 := nbg hg BK388; replace BK388 := bkB BK388 hb; clear hb hbox hg; have hnb7 := NB388_389.out; have hnc7 := NB389_388.out; obtain ⟨z0, z1, y0, y1⟩ := bc2 BK388; obtain ⟨z0, z1, y0, y1⟩ := bc2 BK389))
 go_ret
 exact ⟨by first | rfl | (simp [errW_none, errW_some] <;> rfl) | (simp only [← hji3, ← hji4]; first | rfl | (simp [errW_none, errW_some] <;> rfl)) | (simp [*, errW_none, errW_some] <;> rfl), hbx HB⟩
end Go.Proofs.Ytnipgplobipeeaa.PQ
