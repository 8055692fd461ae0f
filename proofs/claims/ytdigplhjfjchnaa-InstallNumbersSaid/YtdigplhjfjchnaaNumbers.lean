/-
  The plain law InstallNumbers: a board counts its commands from 1 on; acknowledgements of earlier commands do not count. No condition.
-/
import Derived.Test.YtdigplhjfjchnaaZf9
namespace Go.Proofs.Ytdigplhjfjchnaa.PureM
open Go.RowKit Go.Proofs.Ytdigplhjfjchnaa.PQ Go.Proofs.YtdigplhjfjchnaaW.PrintWords Go.Proofs.YtdigplhjfjchnaaW.PrintLast Go.Proofs.YtdigplhjfjchnaaW.PrintMore

def X : ByteArray := rep32 ⟨#[120]⟩
theorem id_x : hopmeshlaw49_id.f ⟨#[120]⟩ = some X := by kernel_rfl
theorem identX : install_identifier.f X = some true := by kernel_rfl
theorem wrap_in (n : Int) (h : -9223372036854775808 ≤ n ∧ n ≤ 9223372036854775807) : wrap64 n = n := by unfold wrap64; omega
theorem wrap_nat (i : Nat) (h : i < 1000000) : wrap64 ((i : Int) + 1) = ((i + 1 : Nat) : Int) := by rw [wrap_in _ (by omega)]; omega
theorem list2 : ∀ k, install_list.f (k + 2) [2] = some true := fun k => by kernel_rfl
theorem index2 : ∀ k, slices_Index_int_int.f (k + 2) [2] 2 = some 0 := fun k => by kernel_rfl
theorem has : ∀ (k : Nat) (a b : Bool), slices_Contains_bool_bool.f (k + 3) [a] b = some (a == b) := fun k a b => by cases a <;> cases b <;> kernel_rfl
theorem own_val (r a : Bool) (m s : Int) : install_own.f X [2] [r] [a] m s = some (X, [2], [r], [a], m, s) := by kernel_rfl
theorem clone2 : slices_Clone_int_int.f [2] = some [2] := by kernel_rfl
/-- What a board of the one node 2 may hold. -/
def Fine (m s : Int) (a : Bool) : Prop := (m = 0 ∧ s = 0 ∧ a = false) ∨ (1 ≤ m ∧ m ≤ 1000 ∧ 0 ≤ s ∧ s ≤ 1073741824)
theorem valid_j0 (k : Nat) (r a : Bool) (m s : Int) : install_Valid.j0 (k + 1) false X [2] [r] [a] m s = if m = 0 then (if s = 0 then ((slices_Contains_bool_bool.f k [a] true).bind fun t => (if t = true then some 1 else some 0)) else some 1) else some 0 := rfl
theorem valid (K : Nat) (hK : 10 ≤ K) (r a : Bool) (m s : Int) (h : Fine m s a) : install_Valid.f K X [2] [r] [a] m s = some 0 := by
  obtain ⟨k, rfl⟩ : ∃ k, K = k + 10 := ⟨K - 10, by omega⟩
  have l2 := list2 (k + 8)
  rw [show k + 8 + 2 = k + 10 by omega] at l2
  unfold install_Valid.f
  rw [identX, Option.bind_some, if_pos rfl, l2, Option.bind_some, if_pos rfl, if_pos (show (([r] : List Bool).length : Int) = (([2] : List Int).length : Int) from rfl), if_pos (show (([a] : List Bool).length : Int) = (([2] : List Int).length : Int) from rfl), if_neg (show ¬ m < 0 by rcases h with h | h <;> omega), if_neg (show ¬ m > 1048576 by rcases h with h | h <;> omega), if_neg (show ¬ s < 0 by rcases h with h | h <;> omega), decide_eq_false (show ¬ s > 1073741824 by rcases h with h | h <;> omega), show k + 10 = (k + 9) + 1 by omega, valid_j0]
  rcases h with ⟨h1, h2, h3⟩ | h
  · subst h3
    rw [if_pos h1, if_pos h2, show k + 9 = (k + 6) + 3 by omega, has, Option.bind_some, if_neg (by decide)]
  · rw [if_neg (by omega)]
theorem find (K : Nat) (hK : 10 ≤ K) (r a : Bool) (m s : Int) (h : Fine m s a) : install_find.f K X [2] [r] [a] m s 2 = some (X, [2], [r], [a], m, s, 0, 0) := by
  have va := valid K hK r a m s h
  obtain ⟨k, rfl⟩ : ∃ k, K = k + 10 := ⟨K - 10, by omega⟩
  have i2 := index2 (k + 8)
  rw [show k + 8 + 2 = k + 10 by omega] at i2
  unfold install_find.f
  rw [va, Option.bind_some, if_pos rfl, i2, Option.bind_some, if_neg (by decide), own_val, Option.bind_some]
theorem ack_same (K : Nat) (hK : 10 ≤ K) (r a : Bool) (m s n : Int) (h : Fine m s a) (hn : n ≠ m) : install_Acknowledge.f K X [2] [r] [a] m s 2 n = some (X, [2], [r], [a], m, s, 0) := by
  unfold install_Acknowledge.f
  rw [find K hK r a m s h, Option.bind_some, if_pos rfl, if_neg hn]
theorem ack_now (K : Nat) (hK : 10 ≤ K) (r a : Bool) (m s : Int) (h : Fine m s a) (hm : 1 ≤ m) : install_Acknowledge.f K X [2] [r] [a] m s 2 m = some (X, [2], [r], [true], m, s, 0) := by
  unfold install_Acknowledge.f
  rw [find K hK r a m s h, Option.bind_some, if_pos rfl, if_pos rfl, if_pos (show m > 0 by omega), if_pos (show (0 : Int) ≤ 0 by omega), if_pos (show (0 : Int) < (([a] : List Bool).length : Int) from by simp)]
  rfl
theorem agreed (K : Nat) (hK : 10 ≤ K) (r a : Bool) (m s : Int) (h : Fine m s a) : install_Agreed.f K X [2] [r] [a] m s = some (if s = 0 then false else a) := by
  have va := valid K hK r a m s h
  obtain ⟨k, rfl⟩ : ∃ k, K = k + 10 := ⟨K - 10, by omega⟩
  have hh := has (k + 7) a false
  rw [show k + 7 + 3 = k + 10 by omega] at hh
  unfold install_Agreed.f
  rw [va, Option.bind_some, if_pos rfl]
  by_cases hs : s = 0
  · rw [if_pos hs, if_pos hs]
  · rw [if_neg hs, if_neg hs, hh, Option.bind_some]
    cases a <;> rfl
theorem ready (K : Nat) (hK : 10 ≤ K) (a : Bool) (m s : Int) (h : Fine m s a) : install_Ready.f K X [2] [true] [a] m s = some true := by
  have va := valid K hK true a m s h
  obtain ⟨k, rfl⟩ : ∃ k, K = k + 10 := ⟨K - 10, by omega⟩
  have hh := has (k + 7) true false
  rw [show k + 7 + 3 = k + 10 by omega] at hh
  unfold install_Ready.f
  rw [va, Option.bind_some, if_pos rfl, hh, Option.bind_some]
  rfl
theorem ordered (a : Bool) (m s x y : Int) (hm : 0 ≤ m ∧ m ≤ 100) : install_order.f X [2] [true] [a] m s x y = some (X, [2], [true], [false], m + 1, y, m + 1, x, y, X, [2], 0) := by
  unfold install_order.f
  rw [if_neg (show ¬ m = 1048576 by omega), own_val, Option.bind_some, clone2, Option.bind_some, wrap_in (m + 1) (by omega)]
  rfl
theorem order_val (K : Nat) (hK : 10 ≤ K) (a : Bool) (m s y : Int) (h : Fine m s a) (hm : m ≤ 100) (hy : 1 ≤ y ∧ y ≤ 1073741824) : install_Order.f K X [2] [true] [a] m s y = some (X, [2], [true], [false], m + 1, y, m + 1, 1, y, X, [2], 0) := by
  unfold install_Order.f
  rw [valid K hK true a m s h, Option.bind_some, if_pos rfl, ready K hK a m s h, Option.bind_some, if_pos rfl, if_neg (by omega), if_neg (by omega), ordered a m s 1 y (by rcases h with h | h <;> omega), Option.bind_some]
theorem withdraw_none (K : Nat) (hK : 10 ≤ K) (a : Bool) (m s : Int) (h : Fine m s a) (hs : s = 0) : install_Withdraw.f K X [2] [true] [a] m s = some (⟨#[]⟩, [], [], [], 0, 0, 0, 0, 0, ⟨#[]⟩, [], 12) := by
  unfold install_Withdraw.f
  rw [valid K hK true a m s h, Option.bind_some, if_pos rfl, if_pos hs]
theorem withdraw_val (K : Nat) (hK : 10 ≤ K) (a : Bool) (m s : Int) (h : Fine m s a) (hm : m ≤ 100) (hs : s ≠ 0) : install_Withdraw.f K X [2] [true] [a] m s = some (X, [2], [true], [false], m + 1, 0, m + 1, 2, 0, X, [2], 0) := by
  unfold install_Withdraw.f
  rw [valid K hK true a m s h, Option.bind_some, if_pos rfl, if_neg hs, ordered a m s 2 0 (by rcases h with h | h <;> omega), Option.bind_some]
section
variable (u : Int) (l : List Bool) (len i m v kind slot : Int) (w : Bool) (k : Nat)
theorem tail5 (hm : 0 ≤ m ∧ m ≤ 100) (hv : 0 ≤ v ∧ v ≤ 1073741824) (hw : (v = 0) ↔ w = true) (ih : hopmeshlaw49_InstallNumbers.l0 (k + 10) u l len (wrap64 (i + 1)) X [2] [true] [true] (m + 1) v = some true) :
    hopmeshlaw49_InstallNumbers.j5 (k + 10 + 1) u w l len i X [2] [true] [false] (m + 1) v (m + 1) kind slot X [2] = some true := by
  have f1 : Fine (m + 1) v false := .inr (by omega)
  have f2 : Fine (m + 1) v true := .inr (by omega)
  unfold hopmeshlaw49_InstallNumbers.j5
  rw [ack_now (k + 10) (by omega) true false (m + 1) v f1 (by omega), Option.bind_some, if_pos rfl, agreed (k + 10) (by omega) true true (m + 1) v f2, Option.bind_some, if_neg ?_]
  · exact ih
  · by_cases h : v = 0
    · rw [if_pos h, hw.mp h]; decide
    · have : w = false := by cases w with | false => rfl | true => exact absurd (hw.mpr rfl) h
      rw [if_neg h, this]; decide
theorem tail4 (hu : 0 ≤ u ∧ u ≤ 255) (hm : 0 ≤ m ∧ m ≤ 100) (hv : 0 ≤ v ∧ v ≤ 1073741824) (hw : (v = 0) ↔ w = true) (ih : hopmeshlaw49_InstallNumbers.l0 (k + 10) u l len (wrap64 (i + 1)) X [2] [true] [true] (m + 1) v = some true) :
    hopmeshlaw49_InstallNumbers.j4 (k + 11 + 1) u w l len i false (m + 1) kind slot X [2] X [2] [true] [false] (m + 1) v = some true := by
  have f1 : Fine (m + 1) v false := .inr (by omega)
  have t5 := tail5 u l len i m v kind slot w k hm hv hw ih
  unfold hopmeshlaw49_InstallNumbers.j4
  rw [if_neg (by decide), if_neg (show ¬ m + 1 = 0 by omega), wrap_in u (by omega)]
  by_cases hn : Int.tmod u (m + 1) > 0
  · have hlt := Int.tmod_lt_of_pos u (show 0 < m + 1 by omega)
    rw [if_pos hn, ack_same (k + 11) (by omega) true false (m + 1) v (Int.tmod u (m + 1)) f1 (by omega), Option.bind_some, if_pos rfl, agreed (k + 11) (by omega) true false (m + 1) v f1, Option.bind_some, if_neg (by split <;> decide)]
    exact t5
  · rw [if_neg hn]
    exact t5
theorem tail3 (m0 s0 : Int) (a0 : Bool) (hu : 0 ≤ u ∧ u ≤ 255) (hm : 0 ≤ m ∧ m ≤ 100) (hv : 0 ≤ v ∧ v ≤ 1073741824) (hw : (v = 0) ↔ w = true) (e0 : m0 = m) (ih : hopmeshlaw49_InstallNumbers.l0 (k + 10) u l len (wrap64 (i + 1)) X [2] [true] [true] (m + 1) v = some true) :
    hopmeshlaw49_InstallNumbers.j3 (k + 12 + 1) u 0 w l len i false X [2] [true] [a0] m0 s0 (m + 1) kind slot X [2] X [2] [true] [false] (m + 1) v = some true := by
  have f1 : Fine (m + 1) v false := .inr (by omega)
  have t4 := tail4 u l len i m v kind slot w k hu hm hv hw ih
  unfold hopmeshlaw49_InstallNumbers.j3
  rw [if_neg (by decide), if_pos rfl, if_pos (show m + 1 = wrap64 (m0 + 1) by rw [wrap_in _ (by omega), e0]), if_pos rfl, agreed (k + 12) (by omega) true false (m + 1) v f1, Option.bind_some, if_neg (by split <;> decide)]
  have e : ((v == 0) != w) = false := by
    by_cases h : v = 0
    · rw [hw.mp h, h]; decide
    · have : w = false := by cases w with | false => rfl | true => exact absurd (hw.mpr rfl) h
      rw [this, beq_eq_false_iff_ne.mpr h]; decide
  rw [e]
  exact t4
end
theorem loop (u : Int) (l : List Bool) (hu : 0 ≤ u ∧ u ≤ 255) (h20 : l.length ≤ 20) : ∀ (n i K : Nat) (m s : Int) (a : Bool), i + n = l.length → 5 * n + 20 ≤ K → Fine m s a → m ≤ (i : Int) →
    hopmeshlaw49_InstallNumbers.l0 K u l (l.length : Int) (i : Int) X [2] [true] [a] m s = some true := by
  intro n
  induction n with
  | zero =>
    intro i K m s a hi hK hf hm
    obtain ⟨k, rfl⟩ : ∃ k, K = k + 1 := ⟨K - 1, by omega⟩
    unfold hopmeshlaw49_InstallNumbers.l0
    rw [if_neg (by omega)]
  | succ n ih =>
    intro i K m s a hi hK hf hm
    obtain ⟨k, rfl⟩ : ∃ k, K = k + 15 := ⟨K - 15, by omega⟩
    have m0 : 0 ≤ m := by rcases hf with h | h <;> omega
    have nx := wrap_nat i (by omega)
    rw [show k + 15 = (k + 14) + 1 by omega]
    unfold hopmeshlaw49_InstallNumbers.l0
    rw [if_pos (show (i : Int) < (l.length : Int) by omega), if_pos (show 0 ≤ (i : Int) by omega), if_pos (show (i : Int) < (l.length : Int) by omega)]
    generalize rdOf false l (i : Int) = w
    by_cases hw : w = true
    · subst hw
      rw [if_pos rfl]
      by_cases hs : s = 0
      · rw [withdraw_none (k + 14) (by omega) a m s hf hs, Option.bind_some]
        show hopmeshlaw49_InstallNumbers.j2 ((k + 13) + 1) u 12 true s l (l.length : Int) (i : Int) X [2] [true] [a] m s 0 0 0 ⟨#[]⟩ [] ⟨#[]⟩ [] [] [] 0 0 = some true
        unfold hopmeshlaw49_InstallNumbers.j2
        rw [if_pos rfl, show (s == 0) = true from beq_iff_eq.mpr hs, show k + 13 = (k + 12) + 1 by omega]
        unfold hopmeshlaw49_InstallNumbers.j3
        rw [if_pos rfl, if_pos rfl, nx]
        exact ih (i + 1) (k + 12) m s a (by omega) (by omega) hf (by omega)
      · have i2 := ih (i + 1) (k + 10) (m + 1) 0 true (by omega) (by omega) (.inr (by omega)) (by omega)
        rw [← nx] at i2
        rw [withdraw_val (k + 14) (by omega) a m s hf (by omega) hs, Option.bind_some]
        show hopmeshlaw49_InstallNumbers.j2 ((k + 13) + 1) u 0 true s l (l.length : Int) (i : Int) X [2] [true] [a] m s (m + 1) 2 0 X [2] X [2] [true] [false] (m + 1) 0 = some true
        unfold hopmeshlaw49_InstallNumbers.j2
        rw [if_pos rfl, show (s == 0) = false from beq_eq_false_iff_ne.mpr hs, show k + 13 = (k + 12) + 1 by omega]
        exact tail3 u l (l.length : Int) (i : Int) m 0 2 0 true k m s a hu (by omega) (by omega) (by simp) rfl i2
    · have hw' : w = false := by cases w with | false => rfl | true => exact absurd rfl hw
      subst hw'
      have i2 := ih (i + 1) (k + 10) (m + 1) (10 + (i : Int)) true (by omega) (by omega) (.inr (by omega)) (by omega)
      rw [← nx] at i2
      rw [if_neg (by decide), wrap_in (10 + (i : Int)) (by omega), order_val (k + 14) (by omega) a m s (10 + (i : Int)) hf (by omega) (by omega), Option.bind_some]
      show hopmeshlaw49_InstallNumbers.j2 ((k + 13) + 1) u 0 false s l (l.length : Int) (i : Int) X [2] [true] [a] m s (m + 1) 1 (10 + (i : Int)) X [2] X [2] [true] [false] (m + 1) (10 + (i : Int)) = some true
      unfold hopmeshlaw49_InstallNumbers.j2
      rw [if_neg (by decide), show k + 13 = (k + 12) + 1 by omega]
      exact tail3 u l (l.length : Int) (i : Int) m (10 + (i : Int)) 1 (10 + (i : Int)) false k m s a hu (by omega) (by omega) (by constructor <;> intro h <;> first | omega | cases h) rfl i2
theorem awake62 : hopmeshlaw49_awake.f 62 = some true := by kernel_rfl
theorem awake_more (K : Nat) (hK : 62 ≤ K) : hopmeshlaw49_awake.f K = some true := at_rounds hopmeshlaw49_awake.mono hK awake62
theorem new_val (K : Nat) (hK : 20 ≤ K) : install_New.f K X [2] = some (X, [2], [false], [false], 0, 0, 0) := at_rounds (install_New.mono X [2]) hK (by kernel_rfl)
theorem report_val (K : Nat) (hK : 20 ≤ K) : install_Report.f K X [2] [false] [false] 0 0 2 X = some (X, [2], [true], [false], 0, 0, 0) := at_rounds (install_Report.mono X [2] [false] [false] 0 0 2 X) hK (by kernel_rfl)
theorem j0_t (K : Nat) (l : List Bool) (u : Int) : hopmeshlaw49_InstallNumbers.j0 (K + 1) l u true = (hopmeshlaw49_awake.f K).bind fun t => some t := by
  unfold hopmeshlaw49_InstallNumbers.j0
  rfl
theorem j0_f (K : Nat) (l : List Bool) (u : Int) : hopmeshlaw49_InstallNumbers.j0 (K + 1) l u false = (hopmeshlaw49_id.f ⟨#[120]⟩).bind fun t1 => (install_New.f K t1 [2]).bind fun b => if b.2.2.2.2.2.2 = 0 then ((hopmeshlaw49_id.f ⟨#[120]⟩).bind fun t2 => (install_Report.f K b.1 b.2.1 b.2.2.1 b.2.2.2.1 b.2.2.2.2.1 b.2.2.2.2.2.1 2 t2).bind fun c => if c.2.2.2.2.2.2 = 0 then hopmeshlaw49_InstallNumbers.l0 K u l (l.length : Int) 0 c.1 c.2.1 c.2.2.1 c.2.2.2.1 c.2.2.2.2.1 c.2.2.2.2.2.1 else none) else none := by
  unfold hopmeshlaw49_InstallNumbers.j0
  rfl
theorem numbers (k : Nat) (l : List Bool) (u : Int) (hu : 0 ≤ u ∧ u ≤ 255) : hopmeshlaw49_InstallNumbers.f (k + 199 + 1) l u = some true := by
  unfold hopmeshlaw49_InstallNumbers.f
  rw [awake_more (k + 199 + 1) (by omega), Option.bind_some, if_pos rfl]
  by_cases h : l.length > 20
  · rw [decide_eq_true (show (l.length : Int) > 20 by omega)]
    rw [j0_t, awake_more (k + 199) (by omega), Option.bind_some]
  · rw [decide_eq_false (show ¬ (l.length : Int) > 20 by omega)]
    rw [j0_f, id_x, Option.bind_some, new_val (k + 199) (by omega), Option.bind_some, if_pos rfl, Option.bind_some, report_val (k + 199) (by omega), Option.bind_some, if_pos rfl]
    exact loop u l hu (by omega) l.length 0 (k + 199) 0 0 false (by omega) (by omega) (.inl ⟨rfl, rfl, rfl⟩) (by omega)
theorem numbers_walk (A0 : Option Addr) (c0 : Nat) (l : List Bool) (u : Int) (w : World) (r : Kd.C Kd.bool w A0 l.length l) (g : l.length ≤ c0) (hu : 0 ≤ u ∧ u ≤ 255) :
    Calls Try.prog 9 #[.slice A0 l.length c0, .int .u8 u] w fun e w' => e = .returned (.bool true) ∧ Below w.heap.size w w' :=
  hopmeshlaw49_InstallNumbers.calls 200 A0 c0 l u true w r g (numbers 0 l u hu)
end Go.Proofs.Ytdigplhjfjchnaa.PureM
