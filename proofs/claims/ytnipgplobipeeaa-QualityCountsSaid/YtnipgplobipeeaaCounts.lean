/-
  The plain law QualityCounts: what the law's code computes is true at each pair of counts. No condition.
-/
import Derived.Test.YtnipgplobipeeaaZf4
namespace Go.Proofs.Ytnipgplobipeeaa.Pure
open Go.RowKit Go.Proofs.Ytnipgplobipeeaa.PQ Go.Proofs.YtnipgplobipeeaaW.PrintWords Go.Proofs.YtnipgplobipeeaaW.PrintLast Go.Proofs.YtnipgplobipeeaaW.PrintMore

theorem check_or (a b : Int) : quality_Check.f a b = some 0 ∨ quality_Check.f a b = some 1 := by
  unfold quality_Check.f
  split
  · exact .inr rfl
  · split
    · exact .inr rfl
    · split
      · exact .inr rfl
      · exact .inl rfl
theorem rate_eq (a b : Int) : hopmeshref12_Rate.f a b = quality_Rate.f a b := by
  unfold hopmeshref12_Rate.f quality_Rate.f
  rw [show hopmeshref12_Check.f a b = quality_Check.f a b from rfl]
  rcases check_or a b with h | h <;> rw [h] <;> rfl
theorem compare_lt (a b c d : Int) : ((quality_compare.f a b c d).bind fun t => some (decide (t < 0))) = hopmeshref12_less.f a b c d := by
  unfold quality_compare.f hopmeshref12_less.f cmp_Compare_int.f cmp_isNaN_int.f
  simp only [bne_self_eq_false, Option.bind_some, Bool.false_eq_true, if_false]
  generalize wrap64 (b * mx c 1) = x
  generalize wrap64 (d * mx a 1) = y
  by_cases h : x < y
  · simp [h]
  · by_cases h2 : x > y
    · simp [h, h2]
    · simp [h, h2]
theorem less_eq (a b c d : Int) : hopmeshref12_Less.f a b c d = quality_Less.f a b c d := by
  unfold hopmeshref12_Less.f quality_Less.f
  rw [show hopmeshref12_Check.f a b = quality_Check.f a b from rfl, show hopmeshref12_Check.f c d = quality_Check.f c d from rfl, compare_lt]
  rcases check_or a b with h | h <;> rw [h]
  · rcases check_or c d with h2 | h2 <;> rw [h2] <;> simp [Option.bind_some]
  · rfl
theorem add_some (a b : Int) (c : Bool) : ∃ r, quality_Add.f a b c = some r := by
  unfold quality_Add.f
  rcases check_or a b with h | h <;> rw [h]
  · simp only [Option.bind_some, if_true]
    split
    · exact ⟨_, rfl⟩
    · split <;> exact ⟨_, rfl⟩
  · exact ⟨_, rfl⟩
theorem rate_some (a b : Int) : ∃ r, quality_Rate.f a b = some r := by
  unfold quality_Rate.f quality_rate.f
  rcases check_or a b with h | h <;> rw [h]
  · simp only [Option.bind_some, if_true]
    split <;> exact ⟨_, rfl⟩
  · exact ⟨_, rfl⟩
theorem cost_some (a b : Int) : ∃ r, quality_Cost.f a b = some r := by
  unfold quality_Cost.f
  rcases check_or a b with h | h <;> rw [h]
  · simp only [Option.bind_some, if_true]
    split <;> exact ⟨_, rfl⟩
  · exact ⟨_, rfl⟩
theorem less_some (a b c d : Int) : ∃ r, quality_Less.f a b c d = some r := by
  rw [← less_eq]
  unfold hopmeshref12_Less.f hopmeshref12_less.f
  rw [show hopmeshref12_Check.f a b = quality_Check.f a b from rfl, show hopmeshref12_Check.f c d = quality_Check.f c d from rfl]
  rcases check_or a b with h | h <;> rw [h]
  · rcases check_or c d with h2 | h2 <;> rw [h2] <;> exact ⟨_, rfl⟩
  · exact ⟨_, rfl⟩
theorem awake200 : hopmeshlaw12_awake.f 200 = some true := by kernel_rfl
theorem counts (a0 a1 b0 b1 : Int) (c : Bool) : hopmeshlaw12_QualityCounts.f 200 a0 a1 b0 b1 c = some true := by
  obtain ⟨x, hx⟩ := add_some a0 a1 c
  obtain ⟨y, hy⟩ := rate_some a0 a1
  obtain ⟨z, hz⟩ := cost_some a0 a1
  obtain ⟨u, hu⟩ := less_some a0 a1 b0 b1
  have e1 : hopmeshref12_Add.f a0 a1 c = some x := hx
  have e2 : hopmeshref12_Rate.f a0 a1 = some y := (rate_eq a0 a1).trans hy
  have e3 : hopmeshref12_Cost.f a0 a1 = some z := hz
  have e4 : hopmeshref12_Less.f a0 a1 b0 b1 = some u := (less_eq a0 a1 b0 b1).trans hu
  have e5 : hopmeshref12_Check.f a0 a1 = quality_Check.f a0 a1 := rfl
  unfold hopmeshlaw12_QualityCounts.f
  rw [awake200, hx, hy, hz, hu, e1, e2, e3, e4, e5]
  rcases check_or a0 a1 with h | h <;> rw [h] <;> simp [Option.bind_some]
theorem counts_walk (a b c d : Int) (t : Bool) (w : World) : Calls Try.prog 4 #[.agg #[.int .i64 a, .int .i64 b], .agg #[.int .i64 c, .int .i64 d], .bool t] w fun e w' => e = .returned (.bool true) ∧ Below w.heap.size w w' :=
  hopmeshlaw12_QualityCounts.calls 200 a b c d t true w (counts a b c d t)
end Go.Proofs.Ytnipgplobipeeaa.Pure
