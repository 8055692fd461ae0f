/-
  The plain law QualityReturns, its parts: a learner without counts behind a closing. No condition beyond the loops' own.
-/
import Derived.Test.YtnipgplobipeeaaZf3
namespace Go.Proofs.Ytnipgplobipeeaa.PureR
open Go.RowKit Go.Proofs.Ytnipgplobipeeaa.PQ Go.Proofs.YtnipgplobipeeaaW.PrintWords Go.Proofs.YtnipgplobipeeaaW.PrintLast Go.Proofs.YtnipgplobipeeaaW.PrintMore

theorem wrap_in (n : Int) (h : -9223372036854775808 ≤ n ∧ n ≤ 9223372036854775807) : wrap64 n = n := by unfold wrap64; omega
theorem wrap_nat (i : Nat) (h : i < 1000000) : wrap64 ((i : Int) + 1) = ((i + 1 : Nat) : Int) := by rw [wrap_in _ (by omega)]; omega
theorem check_or (a b : Int) : quality_Check.f a b = some 0 ∨ quality_Check.f a b = some 1 := by
  unfold quality_Check.f
  split
  · exact .inr rfl
  · split
    · exact .inr rfl
    · split
      · exact .inr rfl
      · exact .inl rfl
theorem hold_or (a : Int) : quality_hold.f a = some true ∨ quality_hold.f a = some false := by
  unfold quality_hold.f
  split
  · split
    · cases h : ((Go.bits .and .i64 a (wrap64 (a - 1))) == 0)
      · exact .inr rfl
      · exact .inl rfl
    · exact .inr rfl
  · exact .inr rfl
/-- What Valid asks of a channel. -/
def rowOk (R : Int) (c : S34) (u h : Int) : Prop := quality_Check.f c.f0 c.f1 = some 0 ∧ quality_hold.f h = some true ∧ (u = 0 ∨ (R < u ∧ u ≤ R + 64 ∧ h ≠ 0))
structure Ok (R : Int) (cs : List S34) (us hs : List Int) : Prop where
  r : 0 ≤ R ∧ R ≤ 1073741824
  lc : cs.length = 16
  lu : us.length = 16
  lh : hs.length = 16
  each : ∀ j : Nat, j < 16 → rowOk R (rd_T34 cs (j : Int)) (rd us (j : Int)) (rd hs (j : Int))
theorem valid_loop (R : Int) (cs : List S34) (us hs : List Int) (hR : 0 ≤ R ∧ R ≤ 1073741824) (lc : cs.length = 16) (lu : us.length = 16) (lh : hs.length = 16) :
    ∀ (n i k : Nat), i + n = 16 →
      (quality_Valid.l0 (n + 1 + k) cs (cs.length : Int) (i : Int) R cs us hs = some 0 ∧ ∀ j : Nat, i ≤ j → j < 16 → rowOk R (rd_T34 cs (j : Int)) (rd us (j : Int)) (rd hs (j : Int))) ∨
      (quality_Valid.l0 (n + 1 + k) cs (cs.length : Int) (i : Int) R cs us hs = some 1 ∧ ¬ ∀ j : Nat, i ≤ j → j < 16 → rowOk R (rd_T34 cs (j : Int)) (rd us (j : Int)) (rd hs (j : Int)))
  | 0, i, k, hi => by
    left
    refine ⟨?_, fun j h1 h2 => by omega⟩
    rw [show 0 + 1 + k = k + 1 by omega]
    unfold quality_Valid.l0
    rw [if_neg (by omega)]
  | n + 1, i, k, hi => by
    have ih := valid_loop R cs us hs hR lc lu lh n (i + 1) k (by omega)
    rw [show n + 1 + 1 + k = (n + 1 + k) + 1 by omega]
    unfold quality_Valid.l0
    rw [if_pos (show (i : Int) < (cs.length : Int) by omega), if_pos (show (0 : Int) ≤ (i : Int) by omega), if_pos (show (i : Int) < (cs.length : Int) by omega), if_pos (show (i : Int) < (us.length : Int) by omega), wrap_nat i (by omega), wrap_in (R + 64) (by omega)]
    have keep : rowOk R (rd_T34 cs (i : Int)) (rd us (i : Int)) (rd hs (i : Int)) → ((∀ j : Nat, i ≤ j → j < 16 → rowOk R (rd_T34 cs (j : Int)) (rd us (j : Int)) (rd hs (j : Int))) ↔ ∀ j : Nat, i + 1 ≤ j → j < 16 → rowOk R (rd_T34 cs (j : Int)) (rd us (j : Int)) (rd hs (j : Int))) := by
      intro h0
      refine ⟨fun h j h1 h2 => h j (by omega) h2, fun h j h1 h2 => ?_⟩
      rcases Nat.lt_or_ge i j with h3 | h3
      · exact h j (by omega) h2
      · rw [show j = i by omega]
        exact h0
    have drop : ¬ rowOk R (rd_T34 cs (i : Int)) (rd us (i : Int)) (rd hs (i : Int)) → ¬ ∀ j : Nat, i ≤ j → j < 16 → rowOk R (rd_T34 cs (j : Int)) (rd us (j : Int)) (rd hs (j : Int)) := fun h0 h => h0 (h i (Nat.le_refl _) (by omega))
    have next : rowOk R (rd_T34 cs (i : Int)) (rd us (i : Int)) (rd hs (i : Int)) → (quality_Valid.l0 (n + 1 + k) cs (cs.length : Int) ((i + 1 : Nat) : Int) R cs us hs = some 0 ∧ ∀ j : Nat, i ≤ j → j < 16 → rowOk R (rd_T34 cs (j : Int)) (rd us (j : Int)) (rd hs (j : Int))) ∨
      (quality_Valid.l0 (n + 1 + k) cs (cs.length : Int) ((i + 1 : Nat) : Int) R cs us hs = some 1 ∧ ¬ ∀ j : Nat, i ≤ j → j < 16 → rowOk R (rd_T34 cs (j : Int)) (rd us (j : Int)) (rd hs (j : Int))) := by
      intro h0
      rw [keep h0]
      exact ih
    rcases check_or (rd_T34 cs (i : Int)).f0 (rd_T34 cs (i : Int)).f1 with hc | hc
    · rw [hc]
      simp only [Option.bind_some, if_true]
      rw [if_pos (show (i : Int) < (hs.length : Int) by omega)]
      rcases hold_or (rd hs (i : Int)) with hh | hh
      · rw [hh]
        simp only [Option.bind_some, if_true]
        by_cases h0 : rd us (i : Int) = 0
        · rw [if_pos h0]
          exact next ⟨hc, hh, .inl h0⟩
        · rw [if_neg h0]
          by_cases h1 : rd us (i : Int) ≤ R
          · rw [if_pos h1]
            exact .inr ⟨rfl, drop fun h => by rcases h.2.2 with h | h <;> omega⟩
          · rw [if_neg h1]
            by_cases h2 : rd us (i : Int) > R + 64
            · rw [if_pos h2]
              exact .inr ⟨rfl, drop fun h => by rcases h.2.2 with h | h <;> omega⟩
            · rw [if_neg h2]
              by_cases h3 : rd hs (i : Int) = 0
              · rw [if_pos h3]
                exact .inr ⟨rfl, drop fun h => by rcases h.2.2 with h | h <;> omega⟩
              · rw [if_neg h3]
                exact next ⟨hc, hh, .inr ⟨by omega, by omega, h3⟩⟩
      · rw [hh]
        exact .inr ⟨rfl, drop fun h => by have := h.2.1; rw [hh] at this; cases this⟩
    · rw [hc]
      exact .inr ⟨rfl, drop fun h => by have := h.1; rw [hc] at this; cases this⟩
theorem valid_val (k : Nat) (R : Int) (cs : List S34) (us hs : List Int) :
    (quality_Valid.f (k + 20) R cs us hs = some 0 ∧ Ok R cs us hs) ∨ (quality_Valid.f (k + 20) R cs us hs = some 1 ∧ ¬ Ok R cs us hs) := by
  unfold quality_Valid.f
  have bad : quality_Valid.j0 (k + 20) true R cs us hs = some 1 := by unfold quality_Valid.j0; rfl
  by_cases h1 : R < 0
  · rw [if_pos h1]
    exact .inr ⟨bad, fun h => by have := h.r; omega⟩
  · rw [if_neg h1]
    by_cases h2 : R > 1073741824
    · rw [if_pos h2]
      exact .inr ⟨bad, fun h => by have := h.r; omega⟩
    · rw [if_neg h2]
      by_cases h3 : (cs.length : Int) = 16
      · rw [if_pos h3]
        by_cases h4 : (us.length : Int) = 16
        · rw [if_pos h4]
          by_cases h5 : (hs.length : Int) = 16
          · have e5 : ((hs.length : Int) != 16) = false := by simp [h5]
            rw [e5]
            rw [show k + 20 = (16 + 1 + (k + 2)) + 1 by omega]
            unfold quality_Valid.j0
            simp only [Bool.false_eq_true, if_false]
            have := valid_loop R cs us hs (by omega) (by omega) (by omega) (by omega) 16 0 (k + 2) rfl
            rcases this with ⟨a, b⟩ | ⟨a, b⟩
            · exact .inl ⟨a, ⟨by omega, by omega, by omega, by omega, fun j hj => b j (Nat.zero_le _) hj⟩⟩
            · exact .inr ⟨a, fun h => b fun j _ hj => h.each j hj⟩
          · have e5 : ((hs.length : Int) != 16) = true := by simp [h5]
            rw [e5]
            exact .inr ⟨bad, fun h => by have := h.lh; omega⟩
        · rw [if_neg h4]
          exact .inr ⟨bad, fun h => by have := h.lu; omega⟩
      · rw [if_neg h3]
        exact .inr ⟨bad, fun h => by have := h.lc; omega⟩
theorem valid_ok (k : Nat) (R : Int) (cs : List S34) (us hs : List Int) (h : Ok R cs us hs) : quality_Valid.f (k + 20) R cs us hs = some 0 := by
  rcases valid_val k R cs us hs with ⟨a, _⟩ | ⟨_, b⟩
  · exact a
  · exact absurd h b
/-- A row of which the first i elements have been turned. -/
def pre {α : Type} (f : α → α) (us : List α) (i : Nat) : List α := (us.take i).map f ++ us.drop i
theorem pre_set {α : Type} (f : α → α) (z : α) : ∀ (us : List α) (i : Nat), i < us.length → (pre f us i).set i (f (us.getD i z)) = pre f us (i + 1)
  | [], i, h => by cases h
  | u :: us, 0, h => by simp [pre]
  | u :: us, i + 1, h => by
    have ih := pre_set f z us i (by simpa using h)
    simp only [pre, List.take_succ_cons, List.map_cons, List.drop_succ_cons, List.cons_append, List.set_cons_succ, List.getD_cons_succ] at ih ⊢
    rw [ih]
theorem pre_same {α : Type} (f : α → α) (z : α) : ∀ (us : List α) (i : Nat), i < us.length → f (us.getD i z) = us.getD i z → pre f us i = pre f us (i + 1)
  | [], i, h, _ => by cases h
  | u :: us, 0, h, e => by simp at e; simp [pre, e]
  | u :: us, i + 1, h, e => by
    have ih := pre_same f z us i (by simpa using h) (by simpa using e)
    simp only [pre, List.take_succ_cons, List.map_cons, List.drop_succ_cons, List.cons_append] at ih ⊢
    rw [ih]
theorem pre_get {α : Type} (f : α → α) (z : α) : ∀ (us : List α) (i : Nat), i < us.length → (pre f us i).getD i z = us.getD i z
  | [], i, h => by cases h
  | u :: us, 0, h => by simp [pre]
  | u :: us, i + 1, h => by
    have ih := pre_get f z us i (by simpa using h)
    simpa only [pre, List.take_succ_cons, List.map_cons, List.drop_succ_cons, List.cons_append, List.getD_cons_succ] using ih
theorem pre_len {α : Type} (f : α → α) (us : List α) (i : Nat) (h : i ≤ us.length) : (pre f us i).length = us.length := by
  simp [pre]
  omega
theorem pre_zero {α : Type} (f : α → α) (us : List α) : pre f us 0 = us := by simp [pre]
theorem pre_all {α : Type} (f : α → α) (us : List α) : pre f us us.length = us.map f := by simp [pre]
def z16 : List S34 := List.replicate 16 z34
theorem z16_at (i : Nat) : rd_T34 z16 (i : Int) = z34 := by
  unfold rd_T34 z16
  rw [List.getD_eq_getElem?_getD, List.getElem?_replicate]
  split <;> rfl
theorem judge_loop (R win low high least : Int) (us hs : List Int) (lu : us.length = 16) (hw : 1 ≤ win) : ∀ (n i k : Nat), i + n = 16 →
    quality_rules_judge.l0 (2 * n + 1 + k) [] [] z16 (z16.length : Int) (i : Int) win low high least R z16 us hs = some ([], [])
  | 0, i, k, hi => by
    rw [show 2 * 0 + 1 + k = k + 1 by omega]
    unfold quality_rules_judge.l0
    rw [if_neg (show ¬ (i : Int) < (z16.length : Int) by simp [z16]; omega), if_pos (by simp)]
  | n + 1, i, k, hi => by
    have ih := judge_loop R win low high least us hs lu hw n (i + 1) k (by omega)
    have hz : (z16.length : Int) = 16 := rfl
    rw [show 2 * (n + 1) + 1 + k = (2 * n + 1 + k) + 1 + 1 by omega]
    unfold quality_rules_judge.l0
    rw [if_pos (show (i : Int) < (z16.length : Int) by omega), if_pos (show (0 : Int) ≤ (i : Int) by omega), if_pos (show (i : Int) < (z16.length : Int) by omega), if_pos (show (i : Int) < (us.length : Int) by omega), z16_at]
    have e : decide (z34.f0 < win) = true := decide_eq_true (show (0 : Int) < win by omega)
    have goal : quality_rules_judge.j1 (2 * n + 1 + k + 1) [] [] (i : Int) z16 (z16.length : Int) (i : Int) true win low high least R z16 us hs z34.f0 z34.f1 = some ([], []) := by
      unfold quality_rules_judge.j1
      rw [if_pos rfl, wrap_nat i (by omega)]
      exact ih
    split
    · rw [e]
      exact goal
    · exact goal
theorem judge_val (k : Nat) (R win low high least : Int) (us hs : List Int) (lu : us.length = 16) (hw : 1 ≤ win) : quality_rules_judge.f (k + 40) win low high least R z16 us hs = some ([], []) := by
  unfold quality_rules_judge.f
  rw [show k + 40 = 2 * 16 + 1 + (k + 7) by omega]
  exact judge_loop R win low high least us hs lu hw 16 0 (k + 7) rfl
/-- What a closing leaves of a round that a channel names. -/
def due (R u : Int) : Int := if u ≤ R then 0 else u
theorem last_loop (R : Int) (us hs : List Int) (lu : us.length = 16) : ∀ (n i k : Nat), i + n = 16 →
    quality_Close.l3 (n + 1 + k) (us.length : Int) (i : Int) R z16 (pre (due R) us i) hs = some (R, z16, us.map (due R), hs, 0)
  | 0, i, k, hi => by
    rw [show 0 + 1 + k = k + 1 by omega]
    unfold quality_Close.l3
    rw [if_neg (by omega), show i = us.length by omega, pre_all]
  | n + 1, i, k, hi => by
    have ih := last_loop R us hs lu n (i + 1) k (by omega)
    have lp := pre_len (due R) us i (by omega)
    have g : rd (pre (due R) us i) (i : Int) = us.getD i 0 := pre_get (due R) 0 us i (by omega)
    rw [show n + 1 + 1 + k = (n + 1 + k) + 1 by omega]
    unfold quality_Close.l3
    rw [if_pos (by omega), if_pos (by omega), if_pos (by omega), g, wrap_nat i (by omega)]
    have hz : (z16.length : Int) = 16 := rfl
    have sz : z16.set (i : Int).toNat (⟨0, 0⟩ : S34) = z16 := by
      refine List.ext_getElem? fun j => ?_
      rw [List.getElem?_set]
      split
      · rename_i h
        subst h
        have : (i : Int).toNat < z16.length := by show _ < 16; omega
        rw [if_pos this]
        unfold z16
        rw [List.getElem?_replicate, if_pos (by omega)]
        rfl
      · rfl
    by_cases hu : us.getD i 0 ≤ R
    · rw [if_pos hu, if_pos (by omega), sz]
      have e := pre_set (due R) 0 us i (by omega)
      have ed : due R (us.getD i 0) = 0 := by unfold due; rw [if_pos hu]
      rw [ed] at e
      rw [show (i : Int).toNat = i by omega, e]
      exact ih
    · rw [if_neg hu, if_pos (by omega), sz]
      have ed : due R (us.getD i 0) = us.getD i 0 := by unfold due; rw [if_neg hu]
      rw [pre_same (due R) 0 us i (by omega) ed]
      exact ih
theorem count_loop (R win low high least : Int) (us hs : List Int) (hR : 0 ≤ R ∧ R ≤ 1073741823) (lu : us.length = 16) (hw : 1 ≤ win) : ∀ (n i k : Nat) (free : Int), i + n = 16 →
    quality_Close.l0 (n + 1 + (k + 60)) least free us (us.length : Int) (i : Int) R z16 us hs win low high least R z16 us hs = some (R + 1, z16, us.map (due (R + 1)), hs, 0)
  | 0, i, k, free, hi => by
    rw [show 0 + 1 + (k + 60) = (k + 60) + 1 by omega]
    unfold quality_Close.l0
    rw [if_neg (by omega), show k + 60 = (k + 20) + 40 by omega, judge_val (k + 20) R win low high least us hs lu hw]
    have hm : mx 0 (mn ((([] : List Int).length : Nat) : Int) (wrap64 (free - least))) = 0 := by
      unfold mx mn
      simp only [List.length_nil]
      split
      · split <;> omega
      · split <;> simp_all
    simp only [Option.bind_some]
    rw [hm]
    simp only [Int.le_refl, if_true, List.length_nil, Int.ofNat_zero, Int.toNat_zero, List.take_zero]
    rw [show k + 20 + 40 = (17 + (k + 40)) + 1 + 1 + 1 by omega]
    unfold quality_Close.l1
    rw [if_neg (by simp)]
    unfold quality_Close.l2
    rw [if_neg (by simp), wrap_in (R + 1) (by omega)]
    have := last_loop (R + 1) us hs lu 16 0 (k + 41) rfl
    rw [pre_zero] at this
    rw [show 17 + (k + 40) + 1 = 16 + 1 + (k + 41) by omega]
    exact this
  | n + 1, i, k, free, hi => by
    rw [show n + 1 + 1 + (k + 60) = (n + 1 + (k + 60)) + 1 by omega]
    unfold quality_Close.l0
    rw [if_pos (by omega), if_pos (by omega), if_pos (by omega), wrap_nat i (by omega)]
    split
    · exact count_loop R win low high least us hs hR lu hw n (i + 1) k _ (by omega)
    · exact count_loop R win low high least us hs hR lu hw n (i + 1) k _ (by omega)
/-- A closing of a learner without counts, by rules in their ranges: nothing is blacklisted newly. -/
theorem close_val (k : Nat) (R win low high least : Int) (us hs : List Int) (ho : Ok R z16 us hs) (hR : R ≤ 1073741823) (hr : quality_rules_right.f win low high least = some true) :
    quality_Close.f (k + 100) R z16 us hs win low high least = some (R + 1, z16, us.map (due (R + 1)), hs, 0) := by
  have hw : 1 ≤ win := by
    unfold quality_rules_right.f at hr
    by_cases h : win ≥ 1
    · exact h
    · rw [if_neg h] at hr
      cases hr
  have hn : quality_New.f = some (0, List.replicate 16 z34, List.replicate 16 0, List.replicate 16 0) := by kernel_rfl
  have lc : quality_clone.f R z16 us hs = some (R, z16, us, hs) := by
    unfold quality_clone.f
    rw [hn]
    simp only [Option.bind_some, List.length_replicate]
    have l1 : (z16.length : Int) = 16 := rfl
    have l2 := ho.lu
    have l3 := ho.lh
    rw [if_pos (by omega), if_pos (by omega), if_pos (by omega), if_pos (by omega), if_pos (by omega), if_pos (by omega)]
  unfold quality_Close.f
  rw [show k + 100 = (k + 80) + 20 by omega, valid_ok (k + 80) R z16 us hs ho]
  simp only [Option.bind_some, if_true]
  rw [hr]
  simp only [Option.bind_some, if_true]
  rw [if_neg (show ¬ R = 1073741824 by omega), lc]
  simp only [Option.bind_some]
  rw [show k + 80 + 20 = 16 + 1 + ((k + 23) + 60) by omega]
  exact count_loop R win low high least us hs (by have := ho.r; omega) ho.lu hw 16 0 (k + 23) 0 rfl
theorem right_or (a b c d : Int) : quality_rules_right.f a b c d = some true ∨ quality_rules_right.f a b c d = some false := by
  unfold quality_rules_right.f
  repeat' split
  all_goals first | exact .inr rfl | skip
  rename_i h
  by_cases hd : d ≤ 16
  · rw [decide_eq_true hd]; exact .inl rfl
  · rw [decide_eq_false hd]; exact .inr rfl
theorem close_bad (k : Nat) (R win low high least : Int) (us hs : List Int) (ho : Ok R z16 us hs) (hr : quality_rules_right.f win low high least = some false) :
    quality_Close.f (k + 100) R z16 us hs win low high least = some (0, [], [], [], 2) := by
  unfold quality_Close.f
  rw [show k + 100 = (k + 80) + 20 by omega, valid_ok (k + 80) R z16 us hs ho]
  simp only [Option.bind_some, if_true]
  rw [hr]
  rfl
theorem copy_val (R : Int) (cs : List S34) (us hs : List Int) (l1 : cs.length ≤ 20) (l2 : us.length ≤ 20) (l3 : hs.length ≤ 20) : hopmeshref12_Copy.f R cs us hs = some (R, cs, us, hs) := by
  unfold hopmeshref12_Copy.f
  simp only [Option.bind_some, List.length_nil, List.nil_append]
  rw [if_pos (by omega), if_pos (by omega), if_pos (by omega)]
/-- The round behind: still a learner that checks well. -/
theorem ok_next (R : Int) (us hs : List Int) (ho : Ok R z16 us hs) (hR : R ≤ 1073741823) : Ok (R + 1) z16 (us.map (due (R + 1))) hs := by
  have l2 := ho.lu
  refine ⟨by have := ho.r; omega, rfl, by rw [List.length_map]; exact l2, ho.lh, fun j hj => ?_⟩
  obtain ⟨h1, h2, h3⟩ := ho.each j hj
  refine ⟨h1, h2, ?_⟩
  have e : rd (us.map (due (R + 1))) (j : Int) = due (R + 1) (rd us (j : Int)) := by
    unfold rd
    rw [List.getD_eq_getElem?_getD, List.getD_eq_getElem?_getD, List.getElem?_map]
    cases us[(j : Int).toNat]? <;> simp [due]
  rw [e]
  unfold due
  split
  · exact .inl rfl
  · rcases h3 with h3 | h3
    · exact .inl h3
    · exact .inr ⟨by omega, by omega, h3.2.2⟩
/-- The blacklisted channels from i on. -/
def bl (us : List Int) : Nat → Nat → List Int
  | 0, _ => []
  | n + 1, i => if rd us (i : Int) = 0 then bl us n (i + 1) else (i : Int) :: bl us n (i + 1)
theorem bl_len (us : List Int) : ∀ n i, (bl us n i).length ≤ n
  | 0, _ => Nat.le_refl _
  | n + 1, i => by
    unfold bl
    have := bl_len us n (i + 1)
    split
    · omega
    · simp; omega
theorem bl_mem (us : List Int) (c : Nat) : ∀ n i, (c : Int) ∈ bl us n i ↔ i ≤ c ∧ c < i + n ∧ rd us (c : Int) ≠ 0
  | 0, i => by simp [bl]; omega
  | n + 1, i => by
    have ih := bl_mem us c n (i + 1)
    unfold bl
    by_cases h : rd us (i : Int) = 0
    · rw [if_pos h, ih]
      constructor
      · rintro ⟨a, b, d⟩; exact ⟨by omega, by omega, d⟩
      · rintro ⟨a, b, d⟩
        refine ⟨?_, by omega, d⟩
        rcases Nat.lt_or_ge i c with h1 | h1
        · omega
        · rw [show c = i by omega] at d
          exact absurd h d
    · rw [if_neg h, List.mem_cons, ih]
      constructor
      · rintro (a | ⟨a, b, d⟩)
        · have : c = i := by omega
          subst this
          exact ⟨Nat.le_refl _, by omega, h⟩
        · exact ⟨by omega, by omega, d⟩
      · rintro ⟨a, b, d⟩
        rcases Nat.lt_or_ge i c with h1 | h1
        · exact .inr ⟨by omega, by omega, d⟩
        · exact .inl (by omega)
theorem black_loop (us : List Int) (lu : us.length = 16) : ∀ (n i k : Nat) (acc : List Int), i + n = 16 → acc.length ≤ i →
    quality_Black.l0 (n + 1 + k) acc us (us.length : Int) (i : Int) = some (acc ++ bl us n i, 0)
  | 0, i, k, acc, hi, _ => by
    rw [show 0 + 1 + k = k + 1 by omega]
    unfold quality_Black.l0
    rw [if_neg (by omega)]
    simp [bl]
  | n + 1, i, k, acc, hi, ha => by
    rw [show n + 1 + 1 + k = (n + 1 + k) + 1 by omega]
    unfold quality_Black.l0 bl
    rw [if_pos (by omega), if_pos (by omega), if_pos (by omega), wrap_nat i (by omega)]
    by_cases h : rd us (i : Int) = 0
    · rw [if_pos h, if_pos h]
      exact black_loop us lu n (i + 1) k acc (by omega) (by omega)
    · rw [if_neg h, if_neg h, if_pos (by omega), black_loop us lu n (i + 1) k (acc ++ [(i : Int)]) (by omega) (by simp; omega)]
      simp
theorem black_val (k : Nat) (R : Int) (us hs : List Int) (ho : Ok R z16 us hs) : quality_Black.f (k + 100) R z16 us hs = some (bl us 16 0, 0) := by
  unfold quality_Black.f
  rw [show k + 100 = (k + 80) + 20 by omega, valid_ok (k + 80) R z16 us hs ho]
  simp only [Option.bind_some, if_true]
  rw [show k + 80 + 20 = 16 + 1 + (k + 83) by omega]
  have := black_loop us ho.lu 16 0 (k + 83) [] rfl (Nat.le_refl _)
  rw [List.nil_append] at this
  exact this
theorem index_loop (l : List Int) (a : Int) (hl : l.length ≤ 100) : ∀ (n i k : Nat), i + n = l.length →
    ∃ r, slices_Index_int_int.l0 (n + 1 + k) l a (l.length : Int) (i : Int) = some r ∧ (0 ≤ r ↔ a ∈ l.drop i)
  | 0, i, k, hi => by
    refine ⟨-1, ?_, ?_⟩
    · rw [show 0 + 1 + k = k + 1 by omega]
      unfold slices_Index_int_int.l0
      rw [if_neg (by omega)]
    · rw [List.drop_eq_nil_of_le (by omega)]
      simp
  | n + 1, i, k, hi => by
    obtain ⟨r, h1, h2⟩ := index_loop l a hl n (i + 1) k (by omega)
    have hd : l.drop i = rd l (i : Int) :: l.drop (i + 1) := by
      unfold rd
      rw [List.getD_eq_getElem?_getD, show (i : Int).toNat = i by omega, List.getElem?_eq_getElem (show i < l.length by omega), List.drop_eq_getElem_cons (show i < l.length by omega)]
      rfl
    rw [show n + 1 + 1 + k = (n + 1 + k) + 1 by omega]
    unfold slices_Index_int_int.l0
    rw [if_pos (by omega), if_pos (by omega), if_pos (by omega), wrap_nat i (by omega), hd]
    by_cases h : a = rd l (i : Int)
    · rw [if_pos h]
      exact ⟨_, rfl, fun _ => by rw [h]; exact List.mem_cons_self, fun _ => by omega⟩
    · rw [if_neg h]
      refine ⟨r, h1, h2.trans ?_⟩
      rw [List.mem_cons]
      exact ⟨.inr, fun hh => hh.resolve_left h⟩
theorem contains_val (k : Nat) (l : List Int) (a : Int) (hl : l.length ≤ 16) : slices_Contains_int_int.f (k + 20) l a = some (decide (a ∈ l)) := by
  unfold slices_Contains_int_int.f slices_Index_int_int.f
  obtain ⟨r, h1, h2⟩ := index_loop l a (by omega) l.length 0 (k + 19 - l.length) (by omega)
  rw [show l.length + 1 + (k + 19 - l.length) = k + 20 by omega] at h1
  have h1' : slices_Index_int_int.l0 (k + 20) l a (l.length : Int) 0 = some r := h1
  rw [h1', Option.bind_some]
  rw [List.drop_zero] at h2
  by_cases h : a ∈ l
  · rw [decide_eq_true h, decide_eq_true (show r ≥ 0 from h2.mpr h)]
  · rw [decide_eq_false h, decide_eq_false (fun hh : r ≥ 0 => h (h2.mp hh))]
theorem closed_val (k : Nat) (R win low high least : Int) (us hs : List Int) (ho : Ok R z16 us hs) (hR : R ≤ 1073741823) (hr : quality_rules_right.f win low high least = some true) :
    hopmeshlaw12_closed.f (k + 100) R z16 us hs win low high least = some (R + 1, z16, us.map (due (R + 1)), hs, 0) := by
  unfold hopmeshlaw12_closed.f
  rw [copy_val R z16 us hs (by decide) (by have := ho.lu; omega) (by have := ho.lh; omega), Option.bind_some, close_val k R win low high least us hs ho hR hr, Option.bind_some]
theorem closed_bad (k : Nat) (R win low high least : Int) (us hs : List Int) (ho : Ok R z16 us hs) (hr : quality_rules_right.f win low high least = some false) :
    hopmeshlaw12_closed.f (k + 100) R z16 us hs win low high least = some (0, [], [], [], 2) := by
  unfold hopmeshlaw12_closed.f
  rw [copy_val R z16 us hs (by decide) (by have := ho.lu; omega) (by have := ho.lh; omega), Option.bind_some, close_bad k R win low high least us hs ho hr, Option.bind_some]
/-- The channels' rounds as they stand in round R. -/
def now (R : Int) (us : List Int) : List Int := us.map (due R)
theorem due_due (R u : Int) : due (R + 1) (due R u) = due (R + 1) u := by
  unfold due
  split
  · split
    · split <;> omega
    · omega
  · rfl
theorem now_next (R : Int) (us : List Int) : (now R us).map (due (R + 1)) = now (R + 1) us := by
  unfold now
  rw [List.map_map]
  exact List.map_congr_left fun u _ => due_due R u
theorem now_at (R : Int) (us : List Int) (j : Nat) : rd (now R us) (j : Int) = due R (rd us (j : Int)) := by
  unfold now rd
  rw [List.getD_eq_getElem?_getD, List.getD_eq_getElem?_getD, List.getElem?_map]
  cases us[(j : Int).toNat]? <;> simp [due]
section
variable (R0 win low high least : Int) (cs : List S34) (us hs : List Int)
/-- The inner loop: each channel that was blacklisted is so still just where its round lies ahead. -/
theorem tell_loop (R : Int) (t : Int) (res : Bool) (lu : us.length = 16) (G : Nat → Option Bool) (hG : ∀ k, G k = hopmeshlaw12_QualityReturns.l1 k (wrap64 (t + 1)) R0 cs us hs win low high least R z16 (now R us) hs) :
    ∀ (n i k : Nat), i + n = 16 → G (k + 20) = some res →
      hopmeshlaw12_QualityReturns.l2 (n + 1 + (k + 20)) (bl (now R us) 16 0) t us (us.length : Int) (i : Int) R0 cs us hs win low high least R z16 (now R us) hs = some res
  | 0, i, k, hi, h => by
    rw [show 0 + 1 + (k + 20) = (k + 20) + 1 by omega]
    unfold hopmeshlaw12_QualityReturns.l2
    rw [if_neg (by omega), ← hG]
    exact h
  | n + 1, i, k, hi, h => by
    have ih := tell_loop R t res lu G hG n (i + 1) k (by omega) h
    rw [show n + 1 + 1 + (k + 20) = (n + 1 + (k + 20)) + 1 by omega]
    unfold hopmeshlaw12_QualityReturns.l2
    rw [if_pos (by omega), if_pos (by omega), if_pos (by omega), wrap_nat i (by omega)]
    by_cases h0 : rd us (i : Int) = 0
    · rw [if_pos h0]
      exact ih
    · rw [if_neg h0, show n + 1 + (k + 20) = (n + 1 + k) + 20 by omega, contains_val (n + 1 + k) _ (i : Int) (bl_len _ 16 0), Option.bind_some]
      have e : decide ((i : Int) ∈ bl (now R us) 16 0) = decide (rd us (i : Int) > R) := by
        have m := bl_mem (now R us) i 16 0
        rw [now_at] at m
        by_cases h1 : rd us (i : Int) > R
        · rw [decide_eq_true h1]
          refine decide_eq_true (m.mpr ⟨Nat.zero_le _, by omega, ?_⟩)
          unfold due
          rw [if_neg (by omega)]
          exact h0
        · rw [decide_eq_false h1]
          refine decide_eq_false fun hm => ?_
          have := (m.mp hm).2.2
          unfold due at this
          rw [if_pos (by omega)] at this
          exact this rfl
      rw [e]
      simp only [bne_self_eq_false, Bool.false_eq_true, if_false]
      rw [show n + 1 + k + 20 = n + 1 + (k + 20) by omega]
      exact ih
/-- The 64 rounds. -/
theorem rounds (h0 : 0 ≤ R0 ∧ R0 ≤ 1000000) (hr : quality_rules_right.f win low high least = some true) (lu : us.length = 16) (hus : ∀ j : Nat, j < 16 → rd us (j : Int) ≤ R0 + 64) :
    ∀ (n t k : Nat), t + n = 64 → Ok (R0 + (t : Int)) z16 (now (R0 + (t : Int)) us) hs →
      hopmeshlaw12_QualityReturns.l1 (18 * n + 200 + k) (t : Int) R0 cs us hs win low high least (R0 + (t : Int)) z16 (now (R0 + (t : Int)) us) hs = some true
  | 0, t, k, ht, ho => by
    rw [show 18 * 0 + 200 + k = (k + 99 + 100) + 1 by omega]
    unfold hopmeshlaw12_QualityReturns.l1
    have l2 := ho.lu
    have l3 := ho.lh
    rw [if_neg (by omega), copy_val _ z16 _ hs (by decide) (by omega) (by omega), Option.bind_some, black_val (k + 99) _ _ hs ho, Option.bind_some]
    have e : bl (now (R0 + (t : Int)) us) 16 0 = [] := by
      refine List.eq_nil_iff_forall_not_mem.mpr fun c hc => ?_
      have hz : ∀ n i, ∀ c ∈ bl (now (R0 + (t : Int)) us) n i, ∃ j : Nat, c = (j : Int) := by
        intro n
        induction n with
        | zero => intro i c hc; cases hc
        | succ n ih =>
          intro i c hc
          unfold bl at hc
          split at hc
          · exact ih _ _ hc
          · rcases List.mem_cons.mp hc with h | h
            · exact ⟨i, h⟩
            · exact ih _ _ h
      obtain ⟨j, rfl⟩ := hz 16 0 c hc
      have m := (bl_mem _ j 16 0).mp hc
      rw [now_at] at m
      have := hus j (by omega)
      unfold due at m
      rw [if_pos (by omega)] at m
      exact m.2.2 rfl
    simp only [e, if_true]
    unfold slices_Equal_int_int.f
    rw [if_pos rfl, show k + 99 + 100 = (k + 198) + 1 by omega]
    unfold slices_Equal_int_int.l0
    rw [if_neg (by simp)]
    rfl
  | n + 1, t, k, ht, ho => by
    have hnext : Ok (R0 + ((t + 1 : Nat) : Int)) z16 (now (R0 + ((t + 1 : Nat) : Int)) us) hs := by
      have := ok_next _ _ hs ho (by omega)
      rw [now_next] at this
      rw [show R0 + ((t + 1 : Nat) : Int) = R0 + (t : Int) + 1 by omega]
      exact this
    have ih := rounds h0 hr lu hus n (t + 1) k (by omega) hnext
    rw [show 18 * (n + 1) + 200 + k = (16 + 1 + ((18 * n + 180 + k) + 20)) + 1 by omega]
    unfold hopmeshlaw12_QualityReturns.l1
    have hc := closed_val (16 + 1 + (18 * n + 100 + k)) (R0 + (t : Int)) win low high least _ hs ho (by omega) hr
    rw [show 16 + 1 + (18 * n + 100 + k) + 100 = 16 + 1 + ((18 * n + 180 + k) + 20) by omega, now_next] at hc
    have hn2 : Ok (R0 + (t : Int) + 1) z16 (now (R0 + (t : Int) + 1) us) hs := by
      rw [show R0 + ((t + 1 : Nat) : Int) = R0 + (t : Int) + 1 by omega] at hnext
      exact hnext
    have hb := black_val (16 + 1 + (18 * n + 100 + k)) (R0 + (t : Int) + 1) _ hs hn2
    rw [show 16 + 1 + (18 * n + 100 + k) + 100 = 16 + 1 + ((18 * n + 180 + k) + 20) by omega] at hb
    have l2 := hn2.lu
    have l3 := hn2.lh
    rw [if_pos (by omega), hc, Option.bind_some]
    simp only [if_true]
    rw [copy_val _ z16 _ hs (by decide) (by omega) (by omega), Option.bind_some]
    simp only []
    rw [hb, Option.bind_some]
    simp only [if_true]
    refine tell_loop R0 win low high least cs us hs (R0 + (t : Int) + 1) (t : Int) true lu (fun k => hopmeshlaw12_QualityReturns.l1 k (wrap64 ((t : Int) + 1)) R0 cs us hs win low high least (R0 + (t : Int) + 1) z16 (now (R0 + (t : Int) + 1) us) hs) (fun _ => rfl) 16 0 (18 * n + 180 + k) rfl ?_
    show hopmeshlaw12_QualityReturns.l1 _ _ _ _ _ _ _ _ _ _ _ _ _ _ = _
    rw [wrap_nat t (by omega), show R0 + (t : Int) + 1 = R0 + ((t + 1 : Nat) : Int) by omega, show 18 * n + 180 + k + 20 = 18 * n + 200 + k by omega]
    exact ih
end
theorem clear_loop (R0 win low high least : Int) (cs : List S34) (us hs : List Int) (R1 : Int) (us1 hs1 : List Int) (lc : cs.length = 16) (res : Bool) :
    ∀ (n i k : Nat), i + n = 16 → hopmeshlaw12_QualityReturns.l1 k 0 R0 cs us hs win low high least R1 z16 us1 hs1 = some res →
      hopmeshlaw12_QualityReturns.l0 (n + 1 + k) (cs.length : Int) (i : Int) R0 cs us hs win low high least R1 (pre (fun _ => z34) cs i) us1 hs1 = some res
  | 0, i, k, hi, h => by
    rw [show 0 + 1 + k = k + 1 by omega]
    unfold hopmeshlaw12_QualityReturns.l0
    rw [if_neg (by omega), show i = cs.length by omega, pre_all]
    have e : cs.map (fun _ => z34) = z16 := by
      unfold z16
      rw [List.map_const', lc]
    rw [e]
    exact h
  | n + 1, i, k, hi, h => by
    have ih := clear_loop R0 win low high least cs us hs R1 us1 hs1 lc res n (i + 1) k (by omega) h
    rw [show n + 1 + 1 + k = (n + 1 + k) + 1 by omega]
    unfold hopmeshlaw12_QualityReturns.l0
    have lp := pre_len (fun _ => z34) cs i (by omega)
    rw [if_pos (by omega), if_pos (by omega), if_pos (by omega), wrap_nat i (by omega)]
    have e := pre_set (fun _ => z34) z34 cs i (by omega)
    rw [show (i : Int).toNat = i by omega]
    rw [show (⟨0, 0⟩ : S34) = z34 from rfl, e]
    exact ih
theorem awake2k : hopmeshlaw12_awake.f 2000 = some true := by kernel_rfl
theorem stop (k : Nat) (a : Int) (cs : List S34) (us hs : List Int) (b c d e : Int) : hopmeshlaw12_QualityReturns.j0 (k + 1) true a cs us hs b c d e = some true := by
  unfold hopmeshlaw12_QualityReturns.j0
  rfl
theorem returns (R : Int) (cs : List S34) (us hs : List Int) (win low high least : Int) : hopmeshlaw12_QualityReturns.f 2000 R cs us hs win low high least = some true := by
  unfold hopmeshlaw12_QualityReturns.f
  rw [awake2k]
  simp only [Option.bind_some, if_true]
  have few : hopmeshref12_Few.f R cs us hs = some (decide (cs.length ≤ 20 ∧ us.length ≤ 20 ∧ hs.length ≤ 20)) := by
    unfold hopmeshref12_Few.f
    by_cases h1 : cs.length ≤ 20
    · rw [if_pos (by omega)]
      by_cases h2 : us.length ≤ 20
      · rw [if_pos (by omega)]
        by_cases h3 : hs.length ≤ 20
        · rw [decide_eq_true (by omega), decide_eq_true ⟨h1, h2, h3⟩]
        · rw [decide_eq_false (by omega), decide_eq_false (fun h => h3 h.2.2)]
      · rw [if_neg (by omega), decide_eq_false (fun h => h2 h.2.1)]
    · rw [if_neg (by omega), decide_eq_false (fun h => h1 h.1)]
  rw [few]
  simp only [Option.bind_some, decide_eq_true_eq]
  by_cases hf : cs.length ≤ 20 ∧ us.length ≤ 20 ∧ hs.length ≤ 20
  · rw [if_pos hf, copy_val R cs us hs hf.1 hf.2.1 hf.2.2]
    simp only [Option.bind_some]
    rcases valid_val 1980 R cs us hs with ⟨hv, ho⟩ | ⟨hv, _⟩
    · rw [show 1980 + 20 = 2000 from rfl] at hv
      rw [hv]
      simp only [Option.bind_some, if_true]
      by_cases hR : R > 1000000
      · rw [decide_eq_true hR]
        exact stop 1999 _ _ _ _ _ _ _ _
      · rw [decide_eq_false hR]
        rw [show 2000 = 1999 + 1 from rfl]
        unfold hopmeshlaw12_QualityReturns.j0
        simp only [Bool.false_eq_true, if_false]
        rw [copy_val R cs us hs hf.1 hf.2.1 hf.2.2]
        simp only [Option.bind_some]
        have oz : Ok R z16 us hs := ⟨ho.r, rfl, ho.lu, ho.lh, fun j hj => by
          have := ho.each j hj
          refine ⟨?_, this.2.1, this.2.2⟩
          rw [z16_at]
          rfl⟩
        have lp := clear_loop R win low high least cs us hs R us hs ho.lc true 16 0 1982 rfl
        rw [pre_zero] at lp
        rw [show 1999 = 16 + 1 + 1982 from rfl]
        refine lp ?_
        rcases right_or win low high least with hr | hr
        · have hnow : now R us = us := by
            unfold now
            rw [show us = us.map id by simp]
            rw [List.map_map]
            refine List.map_congr_left fun u hu => ?_
            obtain ⟨j, hj, rfl⟩ := List.mem_iff_getElem.1 hu
            have hl := ho.lu
            have h3 := (ho.each j (by omega)).2.2
            have e : rd us (j : Int) = us[j] := by
              unfold rd
              rw [List.getD_eq_getElem?_getD, show (j : Int).toNat = j by omega, List.getElem?_eq_getElem hj]
              rfl
            rw [e] at h3
            show due R us[j] = us[j]
            unfold due
            split <;> omega
          have := rounds R win low high least cs us hs (by have := ho.r; omega) hr ho.lu (fun j hj => by
            have h3 := (ho.each j hj).2.2
            have hr := ho.r
            omega) 64 0 630 rfl (by
              rw [show R + ((0 : Nat) : Int) = R by omega, hnow]
              exact oz)
          rw [show R + ((0 : Nat) : Int) = R by omega, hnow] at this
          exact this
        · rw [show 1982 = (1881 + 100) + 1 from rfl]
          unfold hopmeshlaw12_QualityReturns.l1
          rw [if_pos (by omega), closed_bad 1881 R win low high least us hs oz hr]
          rfl
    · rw [show 1980 + 20 = 2000 from rfl] at hv
      rw [hv]
      simp only [Option.bind_some]
      rw [if_neg (by decide)]
      exact stop 1999 _ _ _ _ _ _ _ _
  · rw [if_neg hf]
    exact stop 1999 _ _ _ _ _ _ _ _
theorem returns_walk (n : Int) (A1 : Option Addr) (c1 : Nat) (l1 : List S34) (A2 : Option Addr) (c2 : Nat) (l2 : List Int) (A3 : Option Addr) (c3 : Nat) (l3 : List Int) (a b c d : Int) (w : World)
    (r1 : Kd.C k34 w A1 l1.length l1) (g1 : l1.length ≤ c1) (r2 : Kd.C (Kd.int .i64) w A2 l2.length l2) (g2 : l2.length ≤ c2) (r3 : Kd.C (Kd.int .i64) w A3 l3.length l3) (g3 : l3.length ≤ c3) :
    Calls Try.prog 3 #[.agg #[.int .i64 n, .slice A1 l1.length c1, .slice A2 l2.length c2, .slice A3 l3.length c3], .agg #[.int .i64 a, .int .i64 b, .int .i64 c, .int .i64 d]] w fun e w' => e = .returned (.bool true) ∧ Below w.heap.size w w' :=
  hopmeshlaw12_QualityReturns.calls 2000 n A1 c1 l1 A2 c2 l2 A3 c3 l3 a b c d true w r1 g1 r2 g2 r3 g3 (returns n l1 l2 l3 a b c d)
end Go.Proofs.Ytnipgplobipeeaa.PureR
