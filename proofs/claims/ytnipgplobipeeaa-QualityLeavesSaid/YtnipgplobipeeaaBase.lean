/-
  Plain facts on the printed functions of the quality laws: what the two Valids ask, what the two copies and Same answer. No condition beyond the bounds that stand in each lemma.
-/
import Derived.Test.YtnipgplobipeeaaZf12
import Derived.Test.YtnipgplobipeeaaZf11
import Derived.Test.YtnipgplobipeeaaZf13
import Derived.Test.YtnipgplobipeeaaZf30
import Derived.Test.YtnipgplobipeeaaZf39
import Derived.Test.YtnipgplobipeeaaZf47
namespace Go.Proofs.Ytnipgplobipeeaa.PureB
open Go.RowKit Go.Proofs.Ytnipgplobipeeaa.PQ Go.Proofs.YtnipgplobipeeaaW.PrintWords Go.Proofs.YtnipgplobipeeaaW.PrintLast Go.Proofs.YtnipgplobipeeaaW.PrintMore

theorem wrap_in (n : Int) (h : -9223372036854775808 ≤ n ∧ n ≤ 9223372036854775807) : wrap64 n = n := by unfold wrap64; omega
theorem wrap_nat (i : Nat) (h : i < 1000000) : wrap64 ((i : Int) + 1) = ((i + 1 : Nat) : Int) := by rw [wrap_in _ (by omega)]; omega
theorem check_or (a b : Int) : quality_Check.f a b = some 0 ∨ quality_Check.f a b = some 1 := by
  unfold quality_Check.f
  split
  · exact .inr rfl
  · split
    · exact .inr rfl
    · split
      · exact .inr rfl
      · exact .inl rfl
theorem hold_or (a : Int) : quality_hold.f a = some true ∨ quality_hold.f a = some false := by
  unfold quality_hold.f
  split
  · split
    · cases h : ((Go.bits .and .i64 a (wrap64 (a - 1))) == 0)
      · exact .inr rfl
      · exact .inl rfl
    · exact .inr rfl
  · exact .inr rfl
/-- What Valid asks of a channel. -/
def rowOk (R : Int) (c : S34) (u h : Int) : Prop := quality_Check.f c.f0 c.f1 = some 0 ∧ quality_hold.f h = some true ∧ (u = 0 ∨ (R < u ∧ u ≤ R + 64 ∧ h ≠ 0))
structure Ok (R : Int) (cs : List S34) (us hs : List Int) : Prop where
  r : 0 ≤ R ∧ R ≤ 1073741824
  lc : cs.length = 16
  lu : us.length = 16
  lh : hs.length = 16
  each : ∀ j : Nat, j < 16 → rowOk R (rd_T34 cs (j : Int)) (rd us (j : Int)) (rd hs (j : Int))
theorem valid_loop (R : Int) (cs : List S34) (us hs : List Int) (hR : 0 ≤ R ∧ R ≤ 1073741824) (lc : cs.length = 16) (lu : us.length = 16) (lh : hs.length = 16) :
    ∀ (n i k : Nat), i + n = 16 →
      (quality_Valid.l0 (n + 1 + k) cs (cs.length : Int) (i : Int) R cs us hs = some 0 ∧ ∀ j : Nat, i ≤ j → j < 16 → rowOk R (rd_T34 cs (j : Int)) (rd us (j : Int)) (rd hs (j : Int))) ∨
      (quality_Valid.l0 (n + 1 + k) cs (cs.length : Int) (i : Int) R cs us hs = some 1 ∧ ¬ ∀ j : Nat, i ≤ j → j < 16 → rowOk R (rd_T34 cs (j : Int)) (rd us (j : Int)) (rd hs (j : Int)))
  | 0, i, k, hi => by
    left
    refine ⟨?_, fun j h1 h2 => by omega⟩
    rw [show 0 + 1 + k = k + 1 by omega]
    unfold quality_Valid.l0
    rw [if_neg (by omega)]
  | n + 1, i, k, hi => by
    have ih := valid_loop R cs us hs hR lc lu lh n (i + 1) k (by omega)
    rw [show n + 1 + 1 + k = (n + 1 + k) + 1 by omega]
    unfold quality_Valid.l0
    rw [if_pos (show (i : Int) < (cs.length : Int) by omega), if_pos (show (0 : Int) ≤ (i : Int) by omega), if_pos (show (i : Int) < (cs.length : Int) by omega), if_pos (show (i : Int) < (us.length : Int) by omega), wrap_nat i (by omega), wrap_in (R + 64) (by omega)]
    have keep : rowOk R (rd_T34 cs (i : Int)) (rd us (i : Int)) (rd hs (i : Int)) → ((∀ j : Nat, i ≤ j → j < 16 → rowOk R (rd_T34 cs (j : Int)) (rd us (j : Int)) (rd hs (j : Int))) ↔ ∀ j : Nat, i + 1 ≤ j → j < 16 → rowOk R (rd_T34 cs (j : Int)) (rd us (j : Int)) (rd hs (j : Int))) := by
      intro h0
      refine ⟨fun h j h1 h2 => h j (by omega) h2, fun h j h1 h2 => ?_⟩
      rcases Nat.lt_or_ge i j with h3 | h3
      · exact h j (by omega) h2
      · rw [show j = i by omega]
        exact h0
    have drop : ¬ rowOk R (rd_T34 cs (i : Int)) (rd us (i : Int)) (rd hs (i : Int)) → ¬ ∀ j : Nat, i ≤ j → j < 16 → rowOk R (rd_T34 cs (j : Int)) (rd us (j : Int)) (rd hs (j : Int)) := fun h0 h => h0 (h i (Nat.le_refl _) (by omega))
    have next : rowOk R (rd_T34 cs (i : Int)) (rd us (i : Int)) (rd hs (i : Int)) → (quality_Valid.l0 (n + 1 + k) cs (cs.length : Int) ((i + 1 : Nat) : Int) R cs us hs = some 0 ∧ ∀ j : Nat, i ≤ j → j < 16 → rowOk R (rd_T34 cs (j : Int)) (rd us (j : Int)) (rd hs (j : Int))) ∨
      (quality_Valid.l0 (n + 1 + k) cs (cs.length : Int) ((i + 1 : Nat) : Int) R cs us hs = some 1 ∧ ¬ ∀ j : Nat, i ≤ j → j < 16 → rowOk R (rd_T34 cs (j : Int)) (rd us (j : Int)) (rd hs (j : Int))) := by
      intro h0
      rw [keep h0]
      exact ih
    rcases check_or (rd_T34 cs (i : Int)).f0 (rd_T34 cs (i : Int)).f1 with hc | hc
    · rw [hc]
      simp only [Option.bind_some, if_true]
      rw [if_pos (show (i : Int) < (hs.length : Int) by omega)]
      rcases hold_or (rd hs (i : Int)) with hh | hh
      · rw [hh]
        simp only [Option.bind_some, if_true]
        by_cases h0 : rd us (i : Int) = 0
        · rw [if_pos h0]
          exact next ⟨hc, hh, .inl h0⟩
        · rw [if_neg h0]
          by_cases h1 : rd us (i : Int) ≤ R
          · rw [if_pos h1]
            exact .inr ⟨rfl, drop fun h => by rcases h.2.2 with h | h <;> omega⟩
          · rw [if_neg h1]
            by_cases h2 : rd us (i : Int) > R + 64
            · rw [if_pos h2]
              exact .inr ⟨rfl, drop fun h => by rcases h.2.2 with h | h <;> omega⟩
            · rw [if_neg h2]
              by_cases h3 : rd hs (i : Int) = 0
              · rw [if_pos h3]
                exact .inr ⟨rfl, drop fun h => by rcases h.2.2 with h | h <;> omega⟩
              · rw [if_neg h3]
                exact next ⟨hc, hh, .inr ⟨by omega, by omega, h3⟩⟩
      · rw [hh]
        exact .inr ⟨rfl, drop fun h => by have := h.2.1; rw [hh] at this; cases this⟩
    · rw [hc]
      exact .inr ⟨rfl, drop fun h => by have := h.1; rw [hc] at this; cases this⟩
theorem valid_val (k : Nat) (R : Int) (cs : List S34) (us hs : List Int) :
    (quality_Valid.f (k + 20) R cs us hs = some 0 ∧ Ok R cs us hs) ∨ (quality_Valid.f (k + 20) R cs us hs = some 1 ∧ ¬ Ok R cs us hs) := by
  unfold quality_Valid.f
  have bad : quality_Valid.j0 (k + 20) true R cs us hs = some 1 := by unfold quality_Valid.j0; rfl
  by_cases h1 : R < 0
  · rw [if_pos h1]
    exact .inr ⟨bad, fun h => by have := h.r; omega⟩
  · rw [if_neg h1]
    by_cases h2 : R > 1073741824
    · rw [if_pos h2]
      exact .inr ⟨bad, fun h => by have := h.r; omega⟩
    · rw [if_neg h2]
      by_cases h3 : (cs.length : Int) = 16
      · rw [if_pos h3]
        by_cases h4 : (us.length : Int) = 16
        · rw [if_pos h4]
          by_cases h5 : (hs.length : Int) = 16
          · have e5 : ((hs.length : Int) != 16) = false := by simp [h5]
            rw [e5]
            rw [show k + 20 = (16 + 1 + (k + 2)) + 1 by omega]
            unfold quality_Valid.j0
            simp only [Bool.false_eq_true, if_false]
            have := valid_loop R cs us hs (by omega) (by omega) (by omega) (by omega) 16 0 (k + 2) rfl
            rcases this with ⟨a, b⟩ | ⟨a, b⟩
            · exact .inl ⟨a, ⟨by omega, by omega, by omega, by omega, fun j hj => b j (Nat.zero_le _) hj⟩⟩
            · exact .inr ⟨a, fun h => b fun j _ hj => h.each j hj⟩
          · have e5 : ((hs.length : Int) != 16) = true := by simp [h5]
            rw [e5]
            exact .inr ⟨bad, fun h => by have := h.lh; omega⟩
        · rw [if_neg h4]
          exact .inr ⟨bad, fun h => by have := h.lu; omega⟩
      · rw [if_neg h3]
        exact .inr ⟨bad, fun h => by have := h.lc; omega⟩
theorem valid_ok (k : Nat) (R : Int) (cs : List S34) (us hs : List Int) (h : Ok R cs us hs) : quality_Valid.f (k + 20) R cs us hs = some 0 := by
  rcases valid_val k R cs us hs with ⟨a, _⟩ | ⟨_, b⟩
  · exact a
  · exact absurd h b
theorem copy_val (R : Int) (cs : List S34) (us hs : List Int) (l1 : cs.length ≤ 20) (l2 : us.length ≤ 20) (l3 : hs.length ≤ 20) : hopmeshref12_Copy.f R cs us hs = some (R, cs, us, hs) := by
  unfold hopmeshref12_Copy.f
  simp only [Option.bind_some, List.length_nil, List.nil_append]
  rw [if_pos (by omega), if_pos (by omega), if_pos (by omega)]
theorem clone_val (R : Int) (cs : List S34) (us hs : List Int) (l1 : cs.length = 16) (l2 : us.length = 16) (l3 : hs.length = 16) : quality_clone.f R cs us hs = some (R, cs, us, hs) := by
  have hn : quality_New.f = some (0, List.replicate 16 z34, List.replicate 16 0, List.replicate 16 0) := by kernel_rfl
  unfold quality_clone.f
  rw [hn]
  simp only [Option.bind_some, List.length_replicate]
  rw [if_pos (by omega), if_pos (by omega), if_pos (by omega), if_pos (by omega), if_pos (by omega), if_pos (by omega)]
theorem rcheck (a b : Int) : hopmeshref12_Check.f a b = quality_Check.f a b := rfl
theorem rhold_small : ∀ a : Fin 65, hopmeshref12_hold.l0 10 ((a.val : Nat) : Int) 1 = some ((Go.bits .and .i64 ((a.val : Nat) : Int) (wrap64 (((a.val : Nat) : Int) - 1))) == 0) := by decide +kernel
theorem rhold_big (a : Int) (h : a < 0 ∨ 64 < a) : hopmeshref12_hold.l0 10 a 1 = some false := by
  have w2 : wrap64 (2 * 1) = 2 := by decide +kernel
  have w4 : wrap64 (2 * 2) = 4 := by decide +kernel
  have w8 : wrap64 (2 * 4) = 8 := by decide +kernel
  have w16 : wrap64 (2 * 8) = 16 := by decide +kernel
  have w32 : wrap64 (2 * 16) = 32 := by decide +kernel
  have w64 : wrap64 (2 * 32) = 64 := by decide +kernel
  have w128 : wrap64 (2 * 64) = 128 := by decide +kernel
  simp only [hopmeshref12_hold.l0]
  rw [if_pos (by omega), if_neg (by omega), w2, if_pos (by omega), if_neg (by omega), w4, if_pos (by omega), if_neg (by omega), w8, if_pos (by omega), if_neg (by omega), w16, if_pos (by omega), if_neg (by omega), w32, if_pos (by omega), if_neg (by omega), w64, if_pos (by omega), if_neg (by omega), w128, if_neg (by omega)]
  have : (a == 0) = false := by simp; omega
  rw [this]
theorem hold_more (a : Int) (r : Bool) (h : hopmeshref12_hold.l0 10 a 1 = some r) : ∀ k, hopmeshref12_hold.l0 (10 + k) a 1 = some r
  | 0 => h
  | k + 1 => hopmeshref12_hold.mono_l (10 + k) a 1 r (hold_more a r h k)
theorem rhold (k : Nat) (a : Int) : hopmeshref12_hold.f (k + 10) a = quality_hold.f a := by
  unfold hopmeshref12_hold.f quality_hold.f
  by_cases h0 : a ≥ 0
  · rw [if_pos h0]
    by_cases h1 : a ≤ 64
    · rw [if_pos h1]
      have := rhold_small ⟨a.toNat, by omega⟩
      rw [show (((⟨a.toNat, by omega⟩ : Fin 65).val : Nat) : Int) = a from by show ((a.toNat : Nat) : Int) = a; omega] at this
      rw [show k + 10 = 10 + k by omega]
      exact hold_more a _ this k
    · rw [if_neg h1, show k + 10 = 10 + k by omega]
      exact hold_more a _ (rhold_big a (by omega)) k
  · rw [if_neg h0, show k + 10 = 10 + k by omega]
    exact hold_more a _ (rhold_big a (by omega)) k
theorem rvalid_loop (R : Int) (cs : List S34) (us hs : List Int) (hR : 0 ≤ R ∧ R ≤ 1073741824) (lc : cs.length = 16) (lu : us.length = 16) (lh : hs.length = 16) :
    ∀ (n i k : Nat), i + n = 16 →
      (hopmeshref12_Valid.l0 (2 * n + 12 + k) (i : Int) R cs us hs = some 0 ∧ ∀ j : Nat, i ≤ j → j < 16 → rowOk R (rd_T34 cs (j : Int)) (rd us (j : Int)) (rd hs (j : Int))) ∨
      (hopmeshref12_Valid.l0 (2 * n + 12 + k) (i : Int) R cs us hs = some 1 ∧ ¬ ∀ j : Nat, i ≤ j → j < 16 → rowOk R (rd_T34 cs (j : Int)) (rd us (j : Int)) (rd hs (j : Int)))
  | 0, i, k, hi => by
    left
    refine ⟨?_, fun j h1 h2 => by omega⟩
    rw [show 2 * 0 + 12 + k = (k + 11) + 1 by omega]
    unfold hopmeshref12_Valid.l0
    rw [if_neg (by omega)]
  | n + 1, i, k, hi => by
    have ih := rvalid_loop R cs us hs hR lc lu lh n (i + 1) k (by omega)
    rw [show 2 * (n + 1) + 12 + k = (2 * n + 12 + k) + 1 + 1 by omega]
    unfold hopmeshref12_Valid.l0
    rw [if_pos (show (i : Int) < 16 by omega), if_pos (show (0 : Int) ≤ (i : Int) by omega), if_pos (show (i : Int) < (cs.length : Int) by omega), rcheck]
    have drop : ¬ rowOk R (rd_T34 cs (i : Int)) (rd us (i : Int)) (rd hs (i : Int)) → ¬ ∀ j : Nat, i ≤ j → j < 16 → rowOk R (rd_T34 cs (j : Int)) (rd us (j : Int)) (rd hs (j : Int)) := fun h0 h => h0 (h i (Nat.le_refl _) (by omega))
    have next : rowOk R (rd_T34 cs (i : Int)) (rd us (i : Int)) (rd hs (i : Int)) → (hopmeshref12_Valid.l0 (2 * n + 12 + k) ((i + 1 : Nat) : Int) R cs us hs = some 0 ∧ ∀ j : Nat, i ≤ j → j < 16 → rowOk R (rd_T34 cs (j : Int)) (rd us (j : Int)) (rd hs (j : Int))) ∨
      (hopmeshref12_Valid.l0 (2 * n + 12 + k) ((i + 1 : Nat) : Int) R cs us hs = some 1 ∧ ¬ ∀ j : Nat, i ≤ j → j < 16 → rowOk R (rd_T34 cs (j : Int)) (rd us (j : Int)) (rd hs (j : Int))) := by
      intro h0
      rcases ih with ⟨a, b⟩ | ⟨a, b⟩
      · refine .inl ⟨a, fun j h1 h2 => ?_⟩
        rcases Nat.lt_or_ge i j with h3 | h3
        · exact b j (by omega) h2
        · rw [show j = i by omega]
          exact h0
      · exact .inr ⟨a, fun h => b fun j h1 h2 => h j (by omega) h2⟩
    have bad : hopmeshref12_Valid.j2 (2 * n + 12 + k + 1) (i : Int) true R cs us hs = some 1 := by unfold hopmeshref12_Valid.j2; rfl
    rcases check_or (rd_T34 cs (i : Int)).f0 (rd_T34 cs (i : Int)).f1 with hc | hc
    · rw [hc]
      simp only [Option.bind_some, if_true]
      rw [if_pos (show (i : Int) < (hs.length : Int) by omega), show 2 * n + 12 + k + 1 = (2 * n + 3 + k) + 10 by omega, rhold]
      rcases hold_or (rd hs (i : Int)) with hh | hh
      · rw [hh]
        simp only [Option.bind_some, Bool.not_true]
        rw [show 2 * n + 3 + k + 10 = (2 * n + 12 + k) + 1 by omega]
        unfold hopmeshref12_Valid.j2
        simp only [Bool.false_eq_true, if_false]
        rw [if_pos (show (0 : Int) ≤ (i : Int) by omega), if_pos (show (i : Int) < (us.length : Int) by omega), wrap_nat i (by omega), wrap_in (R + 64) (by omega)]
        by_cases h0 : rd us (i : Int) = 0
        · rw [if_pos h0]
          exact next ⟨hc, hh, .inl h0⟩
        · rw [if_neg h0]
          by_cases h1 : rd us (i : Int) ≤ R
          · rw [if_pos h1]
            exact .inr ⟨rfl, drop fun h => by rcases h.2.2 with h | h <;> omega⟩
          · rw [if_neg h1]
            by_cases h2 : rd us (i : Int) > R + 64
            · rw [if_pos h2]
              exact .inr ⟨rfl, drop fun h => by rcases h.2.2 with h | h <;> omega⟩
            · rw [if_neg h2, if_pos (show (i : Int) < (hs.length : Int) by omega)]
              by_cases h3 : rd hs (i : Int) = 0
              · rw [if_pos h3]
                exact .inr ⟨rfl, drop fun h => by rcases h.2.2 with h | h <;> omega⟩
              · rw [if_neg h3]
                exact next ⟨hc, hh, .inr ⟨by omega, by omega, h3⟩⟩
      · rw [hh]
        simp only [Option.bind_some, Bool.not_false]
        rw [show 2 * n + 3 + k + 10 = 2 * n + 12 + k + 1 by omega]
        exact .inr ⟨bad, drop fun h => by have := h.2.1; rw [hh] at this; cases this⟩
    · rw [hc]
      exact .inr ⟨bad, drop fun h => by have := h.1; rw [hc] at this; cases this⟩
theorem rvalid_val (k : Nat) (R : Int) (cs : List S34) (us hs : List Int) :
    (hopmeshref12_Valid.f (k + 60) R cs us hs = some 0 ∧ Ok R cs us hs) ∨ (hopmeshref12_Valid.f (k + 60) R cs us hs = some 1 ∧ ¬ Ok R cs us hs) := by
  unfold hopmeshref12_Valid.f
  have bad : hopmeshref12_Valid.j0 (k + 60) true R cs us hs = some 1 := by unfold hopmeshref12_Valid.j0; rfl
  by_cases h1 : R < 0
  · rw [if_pos h1]
    exact .inr ⟨bad, fun h => by have := h.r; omega⟩
  · rw [if_neg h1]
    by_cases h2 : R > 1073741824
    · rw [if_pos h2]
      exact .inr ⟨bad, fun h => by have := h.r; omega⟩
    · rw [if_neg h2]
      by_cases h3 : (cs.length : Int) = 16
      · rw [if_pos h3]
        by_cases h4 : (us.length : Int) = 16
        · rw [if_pos h4]
          by_cases h5 : (hs.length : Int) = 16
          · have e5 : ((hs.length : Int) != 16) = false := by simp [h5]
            rw [e5]
            rw [show k + 60 = (2 * 16 + 12 + (k + 15)) + 1 by omega]
            unfold hopmeshref12_Valid.j0
            simp only [Bool.false_eq_true, if_false]
            have := rvalid_loop R cs us hs (by omega) (by omega) (by omega) (by omega) 16 0 (k + 15) rfl
            rcases this with ⟨a, b⟩ | ⟨a, b⟩
            · exact .inl ⟨a, ⟨by omega, by omega, by omega, by omega, fun j hj => b j (Nat.zero_le _) hj⟩⟩
            · exact .inr ⟨a, fun h => b fun j _ hj => h.each j hj⟩
          · have e5 : ((hs.length : Int) != 16) = true := by simp [h5]
            rw [e5]
            exact .inr ⟨bad, fun h => by have := h.lh; omega⟩
        · rw [if_neg h4]
          exact .inr ⟨bad, fun h => by have := h.lu; omega⟩
      · rw [if_neg h3]
        exact .inr ⟨bad, fun h => by have := h.lc; omega⟩
open Classical in
theorem valid_dec (k : Nat) (R : Int) (cs : List S34) (us hs : List Int) : quality_Valid.f (k + 20) R cs us hs = some (if Ok R cs us hs then 0 else 1) := by
  rcases valid_val k R cs us hs with ⟨a, b⟩ | ⟨a, b⟩
  · rw [a, if_pos b]
  · rw [a, if_neg b]
open Classical in
theorem rvalid_dec (k : Nat) (R : Int) (cs : List S34) (us hs : List Int) : hopmeshref12_Valid.f (k + 60) R cs us hs = some (if Ok R cs us hs then 0 else 1) := by
  rcases rvalid_val k R cs us hs with ⟨a, b⟩ | ⟨a, b⟩
  · rw [a, if_pos b]
  · rw [a, if_neg b]
theorem same_l2 (R : Int) (cs : List S34) (us hs : List Int) (lh : hs.length ≤ 20) : ∀ (n i k : Nat), i + n = hs.length → hopmeshref12_Same.l2 (n + 1 + k) (i : Int) R cs us hs R cs us hs = some true
  | 0, i, k, hi => by
    rw [show 0 + 1 + k = k + 1 by omega]
    unfold hopmeshref12_Same.l2
    rw [if_neg (by omega)]
  | n + 1, i, k, hi => by
    rw [show n + 1 + 1 + k = (n + 1 + k) + 1 by omega]
    unfold hopmeshref12_Same.l2
    rw [if_pos (by omega), if_pos (by omega), if_pos (by omega), if_pos rfl, wrap_nat i (by omega)]
    exact same_l2 R cs us hs lh n (i + 1) k (by omega)
theorem same_l1 (R : Int) (cs : List S34) (us hs : List Int) (lu : us.length ≤ 20) (lh : hs.length ≤ 20) : ∀ (n i k : Nat), i + n = us.length → hopmeshref12_Same.l1 (n + 1 + (hs.length + 1 + k)) (i : Int) R cs us hs R cs us hs = some true
  | 0, i, k, hi => by
    rw [show 0 + 1 + (hs.length + 1 + k) = (hs.length + 1 + k) + 1 by omega]
    unfold hopmeshref12_Same.l1
    rw [if_neg (by omega)]
    exact same_l2 R cs us hs lh hs.length 0 k (by omega)
  | n + 1, i, k, hi => by
    rw [show n + 1 + 1 + (hs.length + 1 + k) = (n + 1 + (hs.length + 1 + k)) + 1 by omega]
    unfold hopmeshref12_Same.l1
    rw [if_pos (by omega), if_pos (by omega), if_pos (by omega), if_pos rfl, wrap_nat i (by omega)]
    exact same_l1 R cs us hs lu lh n (i + 1) k (by omega)
theorem same_l0 (R : Int) (cs : List S34) (us hs : List Int) (lc : cs.length ≤ 20) (lu : us.length ≤ 20) (lh : hs.length ≤ 20) : ∀ (n i k : Nat), i + n = cs.length → hopmeshref12_Same.l0 (n + 1 + (us.length + 1 + (hs.length + 1 + k))) (i : Int) R cs us hs R cs us hs = some true
  | 0, i, k, hi => by
    rw [show 0 + 1 + (us.length + 1 + (hs.length + 1 + k)) = (us.length + 1 + (hs.length + 1 + k)) + 1 by omega]
    unfold hopmeshref12_Same.l0
    rw [if_neg (by omega)]
    exact same_l1 R cs us hs lu lh us.length 0 k (by omega)
  | n + 1, i, k, hi => by
    rw [show n + 1 + 1 + (us.length + 1 + (hs.length + 1 + k)) = (n + 1 + (us.length + 1 + (hs.length + 1 + k))) + 1 by omega]
    unfold hopmeshref12_Same.l0
    rw [if_pos (by omega), if_pos (by omega), if_pos (by omega), wrap_nat i (by omega), if_neg (by simp)]
    exact same_l0 R cs us hs lc lu lh n (i + 1) k (by omega)
theorem same_val (k : Nat) (R : Int) (cs : List S34) (us hs : List Int) (lc : cs.length ≤ 20) (lu : us.length ≤ 20) (lh : hs.length ≤ 20) : hopmeshref12_Same.f (k + 70) R cs us hs R cs us hs = some true := by
  unfold hopmeshref12_Same.f
  rw [if_pos rfl, if_pos rfl, if_pos rfl, bne_self_eq_false, show k + 70 = (cs.length + 1 + (us.length + 1 + (hs.length + 1 + (k + 66 - cs.length - us.length - hs.length)))) + 1 by omega]
  unfold hopmeshref12_Same.j0
  simp only [Bool.false_eq_true, if_false]
  exact same_l0 R cs us hs lc lu lh cs.length 0 _ (by omega)
theorem few_val (R : Int) (cs : List S34) (us hs : List Int) : hopmeshref12_Few.f R cs us hs = some (decide (cs.length ≤ 20 ∧ us.length ≤ 20 ∧ hs.length ≤ 20)) := by
  unfold hopmeshref12_Few.f
  by_cases h1 : cs.length ≤ 20
  · rw [if_pos (by omega)]
    by_cases h2 : us.length ≤ 20
    · rw [if_pos (by omega)]
      by_cases h3 : hs.length ≤ 20
      · rw [decide_eq_true (by omega), decide_eq_true ⟨h1, h2, h3⟩]
      · rw [decide_eq_false (by omega), decide_eq_false (fun h => h3 h.2.2)]
    · rw [if_neg (by omega), decide_eq_false (fun h => h2 h.2.1)]
  · rw [if_neg (by omega), decide_eq_false (fun h => h1 h.1)]
theorem rd_set (l : List S34) (i : Nat) (v : S34) (h : i < l.length) : rd_T34 (l.set ((i : Nat) : Int).toNat v) ((i : Nat) : Int) = v := by
  unfold rd_T34
  rw [List.getD_eq_getElem?_getD, show ((i : Nat) : Int).toNat = i by omega, List.getElem?_set_self h]
  rfl
theorem rd_set_ne (l : List S34) (i j : Nat) (v : S34) (h : i ≠ j) : rd_T34 (l.set ((i : Nat) : Int).toNat v) ((j : Nat) : Int) = rd_T34 l ((j : Nat) : Int) := by
  unfold rd_T34
  rw [List.getD_eq_getElem?_getD, List.getD_eq_getElem?_getD, show ((i : Nat) : Int).toNat = i by omega, show ((j : Nat) : Int).toNat = j by omega, List.getElem?_set_ne h]
theorem check_zero {a b : Int} (h : quality_Check.f a b = some 0) : 0 ≤ b ∧ b ≤ a ∧ a ≤ 1073741824 := by
  unfold quality_Check.f at h
  split at h
  · cases h
  · split at h
    · cases h
    · split at h
      · cases h
      · omega
theorem check_sum {a b : Int} (h : 0 ≤ b ∧ b ≤ a) : quality_Check.f a b = some (if a > 1073741824 then 1 else 0) := by
  unfold quality_Check.f
  rw [if_neg (by omega), if_neg (by omega)]
  split <;> rfl
end Go.Proofs.Ytnipgplobipeeaa.PureB
