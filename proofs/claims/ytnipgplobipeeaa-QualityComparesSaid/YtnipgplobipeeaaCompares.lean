/-
  The plain law QualityCompares: what the law's code computes is true at each three pairs of counts. No condition.
-/
import Derived.Test.YtnipgplobipeeaaZf5
namespace Go.Proofs.Ytnipgplobipeeaa.PureC
open Go.RowKit Go.Proofs.Ytnipgplobipeeaa.PQ Go.Proofs.YtnipgplobipeeaaW.PrintWords Go.Proofs.YtnipgplobipeeaaW.PrintLast Go.Proofs.YtnipgplobipeeaaW.PrintMore

def ok (a b : Int) : Prop := 0 ≤ b ∧ b ≤ a ∧ a ≤ 1073741824
instance (a b : Int) : Decidable (ok a b) := inferInstanceAs (Decidable (_ ∧ _ ∧ _))
def lt (a b c d : Int) : Prop := ok a b ∧ ok c d ∧ b * mx c 1 < d * mx a 1
instance (a b c d : Int) : Decidable (lt a b c d) := inferInstanceAs (Decidable (_ ∧ _ ∧ _))
theorem wrap_in (n : Int) (h : -9223372036854775808 ≤ n ∧ n ≤ 9223372036854775807) : wrap64 n = n := by unfold wrap64; omega
theorem check_val (a b : Int) : quality_Check.f a b = some (if ok a b then 0 else 1) := by
  unfold quality_Check.f
  by_cases h1 : b < 0
  · rw [if_pos h1, if_neg (show ¬ ok a b by unfold ok; omega)]
  · rw [if_neg h1]
    by_cases h2 : b > a
    · rw [if_pos h2, if_neg (show ¬ ok a b by unfold ok; omega)]
    · rw [if_neg h2]
      by_cases h3 : a > 1073741824
      · rw [if_pos h3, if_neg (show ¬ ok a b by unfold ok; omega)]
      · rw [if_neg h3, if_pos (show ok a b by unfold ok; omega)]
theorem check_one (a b : Int) (h : ok a b) : quality_Check.f a b = some 0 := by rw [check_val, if_pos h]
theorem check_bad (a b : Int) (h : ¬ ok a b) : quality_Check.f a b = some 1 := by rw [check_val, if_neg h]
theorem mx_one (a : Int) (h : a ≤ 1073741824) : 1 ≤ mx a 1 ∧ mx a 1 ≤ 1073741824 := by
  unfold mx
  split <;> omega
theorem prod_in (b m : Int) (hb : 0 ≤ b ∧ b ≤ 1073741824) (hm : 1 ≤ m ∧ m ≤ 1073741824) : 0 ≤ b * m ∧ b * m ≤ 1152921504606846976 := by
  refine ⟨Int.mul_nonneg hb.1 (by omega), ?_⟩
  have h1 : b * m ≤ 1073741824 * m := Int.mul_le_mul_of_nonneg_right hb.2 (by omega)
  omega
theorem less_val (a b c d : Int) : quality_Less.f a b c d = some (decide (lt a b c d)) := by
  unfold quality_Less.f
  by_cases h1 : ok a b
  · rw [check_one a b h1]
    by_cases h2 : ok c d
    · rw [check_one c d h2]
      unfold quality_compare.f cmp_Compare_int.f cmp_isNaN_int.f
      have m1 := mx_one c h2.2.2
      have m2 := mx_one a h1.2.2
      have p1 := prod_in b (mx c 1) (by unfold ok at h1; omega) m1
      have p2 := prod_in d (mx a 1) (by unfold ok at h2; omega) m2
      rw [wrap_in (b * mx c 1) (by omega), wrap_in (d * mx a 1) (by omega)]
      simp only [bne_self_eq_false, Option.bind_some, Bool.false_eq_true, if_false, if_true]
      by_cases h3 : b * mx c 1 < d * mx a 1
      · rw [if_pos h3]
        have : lt a b c d := ⟨h1, h2, h3⟩
        simp [this]
      · have hn : ¬ lt a b c d := fun h => h3 h.2.2
        rw [if_neg h3]
        by_cases h4 : b * mx c 1 > d * mx a 1
        · simp [hn, h4]
        · simp [hn, h4]
    · rw [check_bad c d h2]
      have hn : ¬ lt a b c d := fun h => h2 h.2.1
      simp [hn]
  · rw [check_bad a b h1]
    have hn : ¬ lt a b c d := fun h => h1 h.1
    simp [hn]
theorem lt_irrefl (a b : Int) : ¬ lt a b a b := fun h => by have := h.2.2; omega
theorem lt_asymm (a b c d : Int) (h : lt a b c d) : ¬ lt c d a b := fun h2 => by have := h.2.2; have := h2.2.2; omega
theorem lt_trans (a b c d e f : Int) (h : lt a b c d) (h2 : lt c d e f) : lt a b e f := by
  refine ⟨h.1, h2.2.1, ?_⟩
  have ma := (mx_one a h.1.2.2).1
  have mc := (mx_one c h.2.1.2.2).1
  have me := (mx_one e h2.2.1.2.2).1
  have x := h.2.2
  have y := h2.2.2
  generalize mx a 1 = A at *
  generalize mx c 1 = C at *
  generalize mx e 1 = E at *
  have x2 : b * C * E < d * A * E := Int.mul_lt_mul_of_pos_right x (by omega)
  have y2 : d * E * A < f * C * A := Int.mul_lt_mul_of_pos_right y (by omega)
  have e1 : d * A * E = d * E * A := by rw [Int.mul_assoc, Int.mul_comm A E, ← Int.mul_assoc]
  have e2 : b * C * E = b * E * C := by rw [Int.mul_assoc, Int.mul_comm C E, ← Int.mul_assoc]
  have e3 : f * C * A = f * A * C := by rw [Int.mul_assoc, Int.mul_comm C A, ← Int.mul_assoc]
  have z : b * E * C < f * A * C := by omega
  exact Int.lt_of_mul_lt_mul_right z (by omega)
theorem add_val (a b : Int) (h : ok a b) (ha : a < 1073741824) (t : Bool) : quality_Add.f a b t = some (if t = true then (a + 1, b + 1, 0) else (a + 1, b, 0)) := by
  unfold quality_Add.f
  unfold ok at h
  rw [check_one a b h]
  simp only [Option.bind_some, if_true]
  rw [if_neg (show ¬ a = 1073741824 by omega), wrap_in (a + 1) (by omega), wrap_in (b + 1) (by omega)]
  cases t <;> rfl
theorem add_full (b : Int) (h : ok 1073741824 b) (t : Bool) : quality_Add.f 1073741824 b t = some (0, 0, 13) := by
  unfold quality_Add.f
  rw [check_one _ b h]
  rfl
def cost (a b : Int) : Int := if b = 0 then 65535 else mn (128 * a / b) 65535
theorem cost_val (a b : Int) (h : ok a b) : quality_Cost.f a b = some (cost a b, 0) := by
  unfold quality_Cost.f cost
  rw [check_one a b h]
  unfold ok at h
  simp only [Option.bind_some, if_true]
  by_cases hb : b = 0
  · rw [if_pos hb, if_pos hb]
  · rw [if_neg hb, if_neg hb, wrap_in (128 * a) (by omega)]
    have e : Int.tdiv (128 * a) b = 128 * a / b := Int.tdiv_eq_ediv_of_nonneg (by omega)
    have h1 : 0 ≤ 128 * a / b := Int.ediv_nonneg (by omega) (by omega)
    have h2 : 128 * a / b ≤ 128 * a := Int.ediv_le_self _ (by omega)
    rw [e, wrap_in _ (by omega)]
theorem cost_ge (a b : Int) (h : ok a b) : 128 ≤ cost a b ∧ cost a b ≤ 65535 := by
  unfold cost mn
  unfold ok at h
  split
  · omega
  · have h1 : 128 ≤ 128 * a / b := by
      rw [Int.le_ediv_iff_mul_le (by omega)]
      omega
    split <;> omega
theorem cost_more (a b : Int) (h : ok a b) : cost (a + 1) (b + 1) ≤ cost a b := by
  unfold ok at h
  by_cases hb : b = 0
  · have h1 : cost a b = 65535 := by unfold cost; rw [if_pos hb]
    rw [h1]
    unfold cost mn
    rw [if_neg (by omega)]
    split <;> omega
  · unfold cost
    rw [if_neg hb, if_neg (show ¬ b + 1 = 0 by omega)]
    have key : 128 * (a + 1) / (b + 1) ≤ 128 * a / b := by
      have hq : 128 ≤ 128 * a / b := by
        rw [Int.le_ediv_iff_mul_le (by omega)]
        omega
      have h2 : 128 * a < (128 * a / b + 1) * b := by
        have := Int.lt_ediv_add_one_mul_self (128 * a) (show (0 : Int) < b by omega)
        exact this
      refine Int.le_of_lt_add_one ?_
      rw [Int.ediv_lt_iff_lt_mul (by omega)]
      generalize 128 * a / b = q at *
      have e : (q + 1) * (b + 1) = (q + 1) * b + (q + 1) := by rw [Int.mul_add, Int.mul_one]
      omega
    unfold mn
    split <;> split <;> omega
theorem cost_less (a b : Int) (h : ok a b) : cost a b ≤ cost (a + 1) b := by
  unfold cost
  unfold ok at h
  by_cases hb : b = 0
  · rw [if_pos hb, if_pos hb]
    exact Int.le_refl _
  · rw [if_neg hb, if_neg hb]
    have key : 128 * a / b ≤ 128 * (a + 1) / b := Int.ediv_le_ediv (by omega) (by omega)
    unfold mn
    split <;> split <;> omega
theorem not_more (a b : Int) (h : ok a b) : ¬ lt (a + 1) (b + 1) a b := fun h2 => by
  have x := h2.2.2
  unfold ok at h
  unfold mx at x
  by_cases ha : a = 0
  · subst ha
    have : b = 0 := by omega
    subst this
    simp at x
  · rw [if_neg (show ¬ a < 1 by omega), if_neg (show ¬ a + 1 < 1 by omega), Int.add_mul, Int.mul_add, Int.one_mul, Int.mul_one] at x
    omega
theorem not_less (a b : Int) (h : ok a b) : ¬ lt a b (a + 1) b := fun h2 => by
  have x := h2.2.2
  unfold ok at h
  have y : b * mx a 1 ≤ b * mx (a + 1) 1 := Int.mul_le_mul_of_nonneg_left (by unfold mx; split <;> split <;> omega) h.1
  omega
theorem awake200 : hopmeshlaw12_awake.f 200 = some true := by kernel_rfl
theorem rest (k : Nat) (a b c d : Int) : hopmeshlaw12_QualityCompares.j0 (k + 2) false a b c d = some true := by
  unfold hopmeshlaw12_QualityCompares.j0
  simp only [Bool.false_eq_true, if_false, less_val]
  by_cases h : ok a b
  · rw [check_one a b h]
    simp only [Option.bind_some, if_true]
    have ho := h
    unfold ok at ho
    by_cases ha : a = 1073741824
    · subst ha
      rw [add_full b h true, add_full b h false]
      simp [hopmeshlaw12_QualityCompares.j1]
    · have h1 : ok (a + 1) (b + 1) := by unfold ok; omega
      have h2 : ok (a + 1) b := by unfold ok; omega
      rw [add_val a b h (by omega) true, add_val a b h (by omega) false]
      have g1 := cost_ge a b h
      have g2 := cost_more a b h
      have g3 := cost_less a b h
      have n1 := not_more a b h
      have n2 := not_less a b h
      simp [hopmeshlaw12_QualityCompares.j1, cost_val a b h, cost_val (a + 1) (b + 1) h1, cost_val (a + 1) b h2, less_val, n1, n2, g2, g3, g1.1, g1.2]
  · rw [check_bad a b h]
    have n1 : ¬ lt a b c d := fun x => h x.1
    have n2 : ¬ lt c d a b := fun x => h x.2.1
    simp [n1, n2]
theorem compares (a b c d e f : Int) : hopmeshlaw12_QualityCompares.f 200 a b c d e f = some true := by
  unfold hopmeshlaw12_QualityCompares.f
  rw [awake200]
  simp only [Option.bind_some, if_true, less_val]
  have r := rest 198 a b c d
  have n0 := lt_irrefl a b
  by_cases h1 : lt a b c d
  · have n1 := lt_asymm a b c d h1
    by_cases h2 : lt c d e f
    · have h3 := lt_trans a b c d e f h1 h2
      simp only [h1, n1, h2, h3, n0, decide_true, decide_false, if_true, Bool.false_eq_true, if_false]
      exact r
    · simp only [h1, n1, h2, n0, decide_true, decide_false, if_true, Bool.false_eq_true, if_false]
      exact r
  · simp only [h1, n0, decide_false, Bool.false_eq_true, if_false]
    exact r
theorem compares_walk (a b c d e f : Int) (w : World) : Calls Try.prog 5 #[.agg #[.int .i64 a, .int .i64 b], .agg #[.int .i64 c, .int .i64 d], .agg #[.int .i64 e, .int .i64 f]] w fun e w' => e = .returned (.bool true) ∧ Below w.heap.size w w' :=
  hopmeshlaw12_QualityCompares.calls 200 a b c d e f true w (compares a b c d e f)
end Go.Proofs.Ytnipgplobipeeaa.PureC
