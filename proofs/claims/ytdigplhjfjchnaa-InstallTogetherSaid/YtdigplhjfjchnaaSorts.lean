/- The law's order of deliveries ends for any row of at most 100: it tells a row of the same length with elements of the row that came in. -/
import Derived.Test.YtdigplhjfjchnaaZf89
import Derived.Test.YtdigplhjfjchnaaZf84
import Derived.Test.YtdigplhjfjchnaaZf85w
import Derived.Test.YtdigplhjfjchnaaZf17
namespace Go.Proofs.Ytdigplhjfjchnaa.PureS
open Go.RowKit Go.Proofs.Ytdigplhjfjchnaa.PQ Go.Proofs.YtdigplhjfjchnaaW.PrintWords Go.Proofs.YtdigplhjfjchnaaW.PrintLast Go.Proofs.YtdigplhjfjchnaaW.PrintMore
theorem wrap_in (n : Int) (h : -9223372036854775808 ≤ n ∧ n ≤ 9223372036854775807) : wrap64 n = n := by unfold wrap64; omega
theorem wrap_add (a b : Nat) (h : a + b < 1000000) : wrap64 ((a : Int) + (b : Int)) = ((a + b : Nat) : Int) := by rw [wrap_in _ (by omega)]; omega
theorem wrap_nat (i : Nat) (h : i < 1000000) : wrap64 ((i : Int) + 1) = ((i + 1 : Nat) : Int) := by rw [wrap_in _ (by omega)]; omega
theorem wrap_sub (a b : Nat) (h : b ≤ a) (h2 : a < 1000000) : wrap64 ((a : Int) - (b : Int)) = ((a - b : Nat) : Int) := by rw [wrap_in _ (by omega)]; omega
/-- A row of the same length, out of elements of the one that came in. -/
def G (l r : List S47) : Prop := r.length = l.length ∧ ∀ x ∈ r, x ∈ l
theorem G.refl (l : List S47) : G l l := ⟨rfl, fun _ h => h⟩
theorem G.trans {l r s : List S47} (h : G l r) (h2 : G r s) : G l s := ⟨h2.1.trans h.1, fun x hx => h.2 x (h2.2 x hx)⟩
theorem rd_mem (l : List S47) (i : Nat) (h : i < l.length) : rd_T47 l (i : Int) ∈ l := by
  unfold rd_T47
  rw [List.getD_eq_getElem?_getD, show ((i : Nat) : Int).toNat = i by omega, List.getElem?_eq_getElem h]
  exact List.getElem_mem h
theorem swap (l : List S47) (i j : Nat) (hi : i < l.length) (hj : j < l.length) : G l ((l.set ((i : Nat) : Int).toNat ⟨(rd_T47 l (j : Int)).f0, (rd_T47 l (j : Int)).f1, (rd_T47 l (j : Int)).f2⟩).set ((j : Nat) : Int).toNat ⟨(rd_T47 l (i : Int)).f0, (rd_T47 l (i : Int)).f1, (rd_T47 l (i : Int)).f2⟩) := by
  refine ⟨by rw [List.length_set, List.length_set], fun x hx => ?_⟩
  rcases List.mem_or_eq_of_mem_set hx with h | h
  · rcases List.mem_or_eq_of_mem_set h with h | h
    · exact h
    · rw [h]; exact rd_mem l j hj
  · rw [h]; exact rd_mem l i hi
theorem range_loop (a b c : Nat) (h3 : a + c < 100000) (h4 : b + c < 100000) : ∀ (n i K : Nat) (l : List S47), i + n = c → a + c ≤ l.length → b + c ≤ l.length → n + 1 ≤ K →
    ∃ r, hopmeshlaw49_Delivery_90.l0 K l (a : Int) (b : Int) (c : Int) (i : Int) = some r ∧ G l r := by
  intro n
  induction n with
  | zero =>
    intro i K l hi h1 h2 hK
    obtain ⟨k, rfl⟩ : ∃ k, K = k + 1 := ⟨K - 1, by omega⟩
    refine ⟨l, ?_, G.refl l⟩
    unfold hopmeshlaw49_Delivery_90.l0
    rw [if_neg (by omega)]
  | succ n ih =>
    intro i K l hi h1 h2 hK
    obtain ⟨k, rfl⟩ : ∃ k, K = k + 1 := ⟨K - 1, by omega⟩
    have g := swap l (a + i) (b + i) (by omega) (by omega)
    obtain ⟨r, hr, hg⟩ := ih (i + 1) k _ (by omega) (by rw [g.1]; exact h1) (by rw [g.1]; exact h2) (by omega)
    refine ⟨r, ?_, g.trans hg⟩
    unfold hopmeshlaw49_Delivery_90.l0
    rw [if_pos (show (i : Int) < (c : Int) by omega), wrap_add b i (by omega), wrap_add a i (by omega), if_pos (show (0 : Int) ≤ ((b + i : Nat) : Int) by omega), if_pos (show ((b + i : Nat) : Int) < (l.length : Int) by omega), if_pos (show (0 : Int) ≤ ((a + i : Nat) : Int) by omega), if_pos (show ((a + i : Nat) : Int) < (l.length : Int) by omega), wrap_nat i (by omega)]
    exact hr
theorem range (a b c K : Nat) (l : List S47) (h1 : a + c ≤ l.length) (h2 : b + c ≤ l.length) (h3 : l.length < 100000) (hK : c + 1 ≤ K) : ∃ r, hopmeshlaw49_Delivery_90.f K l (a : Int) (b : Int) (c : Int) = some r ∧ G l r :=
  range_loop a b c (by omega) (by omega) c 0 K l (by omega) h1 h2 hK
theorem rotate_loop (m : Nat) : ∀ (s i j K : Nat) (l : List S47), i + j ≤ s → 1 ≤ i → 1 ≤ j → i ≤ m → m + j ≤ l.length → l.length < 100000 → 2 * s + 2 ≤ K →
    ∃ r, hopmeshlaw49_Delivery_89.l0 K l (m : Int) (i : Int) (j : Int) = some r ∧ G l r := by
  intro s
  induction s with
  | zero => intro i j K l h0 h1 h2; omega
  | succ s ih =>
    intro i j K l h0 h1 h2 h3 h4 h5 hK
    obtain ⟨k, rfl⟩ : ∃ k, K = k + 1 := ⟨K - 1, by omega⟩
    unfold hopmeshlaw49_Delivery_89.l0
    by_cases e : i = j
    · subst e
      obtain ⟨r, hr, hg⟩ := range (m - i) m i k l (by omega) (by omega) h5 (by omega)
      rw [if_pos rfl, wrap_sub m i h3 (by omega), hr, Option.bind_some]
      exact ⟨r, rfl, hg⟩
    · rw [if_neg (by omega)]
      by_cases c : i > j
      · obtain ⟨r, hr, hg⟩ := range (m - i) m j k l (by omega) (by omega) h5 (by omega)
        obtain ⟨r2, hr2, hg2⟩ := ih (i - j) j k r (by omega) (by omega) h2 (by omega) (by rw [hg.1]; exact h4) (by rw [hg.1]; exact h5) (by omega)
        rw [if_pos (show (i : Int) > (j : Int) by omega), wrap_sub m i h3 (by omega), hr, Option.bind_some, wrap_sub i j (by omega) (by omega)]
        exact ⟨r2, hr2, hg.trans hg2⟩
      · obtain ⟨r, hr, hg⟩ := range (m - i) (m + j - i) i k l (by omega) (by omega) h5 (by omega)
        obtain ⟨r2, hr2, hg2⟩ := ih i (j - i) k r (by omega) h1 (by omega) h3 (by rw [hg.1]; omega) (by rw [hg.1]; exact h5) (by omega)
        rw [if_neg (show ¬ (i : Int) > (j : Int) by omega), wrap_sub m i h3 (by omega), wrap_add m j (by omega), wrap_sub (m + j) i (by omega) (by omega), hr, Option.bind_some, wrap_sub j i (by omega) (by omega)]
        exact ⟨r2, hr2, hg.trans hg2⟩
theorem rotate (a m b K : Nat) (l : List S47) (h1 : a < m) (h2 : m < b) (h3 : b ≤ l.length) (h4 : l.length < 100000) (hK : 2 * (b - a) + 2 ≤ K) : ∃ r, hopmeshlaw49_Delivery_89.f K l (a : Int) (m : Int) (b : Int) = some r ∧ G l r := by
  unfold hopmeshlaw49_Delivery_89.f
  rw [wrap_sub m a (by omega) (by omega), wrap_sub b m (by omega) (by omega)]
  exact rotate_loop m (b - a) (m - a) (b - m) K l (by omega) (by omega) (by omega) (by omega) (by omega) h4 hK
theorem ins_in (a b i : Nat) (F : Nat) (hb : b < 100000) (hi : i < b) (hl0 : ∀ (l : List S47) (K : Nat), b ≤ l.length → F ≤ K → ∃ r, hopmeshlaw49_Delivery_84.l0 K l (a : Int) (b : Int) ((i + 1 : Nat) : Int) = some r ∧ G l r) :
    ∀ (n j K : Nat) (l : List S47), j = a + n → j ≤ i → b ≤ l.length → F + n + 1 ≤ K → ∃ r, hopmeshlaw49_Delivery_84.l1 K l (a : Int) (b : Int) (i : Int) (j : Int) = some r ∧ G l r := by
  intro n
  induction n with
  | zero =>
    intro j K l hj hji hbl hK
    obtain ⟨k, rfl⟩ : ∃ k, K = k + 1 := ⟨K - 1, by omega⟩
    unfold hopmeshlaw49_Delivery_84.l1
    rw [if_neg (by omega), wrap_nat i (by omega)]
    exact hl0 l k hbl (by omega)
  | succ n ih =>
    intro j K l hj hji hbl hK
    obtain ⟨k, rfl⟩ : ∃ k, K = k + 1 := ⟨K - 1, by omega⟩
    unfold hopmeshlaw49_Delivery_84.l1
    rw [if_pos (by omega), if_pos (by omega), if_pos (by omega), show wrap64 ((j : Int) - 1) = ((j - 1 : Nat) : Int) from wrap_sub j 1 (by omega) (by omega), if_pos (by omega), if_pos (by omega)]
    unfold hopmeshlaw49_order_1.f
    rw [Option.bind_some]
    split
    · have g := swap l j (j - 1) (by omega) (by omega)
      obtain ⟨r, hr, hg⟩ := ih (j - 1) k _ (by omega) (by omega) (by rw [g.1]; exact hbl) (by omega)
      exact ⟨r, hr, g.trans hg⟩
    · rw [wrap_nat i (by omega)]
      exact hl0 l k hbl (by omega)
theorem ins_loop (a b : Nat) (hb : b < 100000) : ∀ (n i K : Nat) (l : List S47), i + n = b → a ≤ i → b ≤ l.length → n * (b + 3) + 1 ≤ K → ∃ r, hopmeshlaw49_Delivery_84.l0 K l (a : Int) (b : Int) (i : Int) = some r ∧ G l r := by
  intro n
  induction n with
  | zero =>
    intro i K l hi ha hbl hK
    obtain ⟨k, rfl⟩ : ∃ k, K = k + 1 := ⟨K - 1, by omega⟩
    refine ⟨l, ?_, G.refl l⟩
    unfold hopmeshlaw49_Delivery_84.l0
    rw [if_neg (by omega)]
  | succ n ih =>
    intro i K l hi ha hbl hK
    rw [Nat.succ_mul] at hK
    obtain ⟨k, rfl⟩ : ∃ k, K = k + 1 := ⟨K - 1, by omega⟩
    obtain ⟨r, hr, hg⟩ := ins_in a b i (n * (b + 3) + 1) hb (by omega) (fun l2 K2 h1 h2 => ih (i + 1) K2 l2 (by omega) (by omega) h1 h2) (i - a) i k l (by omega) (Nat.le_refl _) hbl (by omega)
    refine ⟨r, ?_, hg⟩
    unfold hopmeshlaw49_Delivery_84.l0
    rw [if_pos (by omega)]
    exact hr
theorem insertion (a b K : Nat) (l : List S47) (h : a < b) (hbl : b ≤ l.length) (hb : l.length < 100000) (hK : b * (b + 3) + 1 ≤ K) : ∃ r, hopmeshlaw49_Delivery_84.f K l (a : Int) (b : Int) = some r ∧ G l r := by
  unfold hopmeshlaw49_Delivery_84.f
  rw [wrap_nat a (by omega)]
  refine ins_loop a b (by omega) (b - (a + 1)) (a + 1) K l (by omega) (by omega) hbl (Nat.le_trans ?_ hK)
  exact Nat.succ_le_succ (Nat.mul_le_mul_right _ (by omega))
end Go.Proofs.Ytdigplhjfjchnaa.PureS
namespace Go.Proofs.Ytdigplhjfjchnaa.PureS
open Go.RowKit Go.Proofs.Ytdigplhjfjchnaa.PQ Go.Proofs.YtdigplhjfjchnaaW.PrintWords Go.Proofs.YtdigplhjfjchnaaW.PrintLast Go.Proofs.YtdigplhjfjchnaaW.PrintMore
theorem half (i j : Nat) (h : i + j < 100000) : wrap64 ((IntKind.u64.wrap (wrap64 ((i : Int) + (j : Int)))) / 2) = (((i + j) / 2 : Nat) : Int) := by
  rw [wrap_add i j (by omega)]
  have e : IntKind.u64.wrap (((i + j : Nat)) : Int) = ((i + j : Nat) : Int) := by
    simp [IntKind.wrap, IntKind.bits, IntKind.signed]
    omega
  rw [e, wrap_in _ (by omega)]
  omega
theorem dec (j : Nat) (h : 1 ≤ j) (h2 : j < 100000) : wrap64 ((j : Int) - 1) = ((j - 1 : Nat) : Int) := wrap_sub j 1 h (by omega)
theorem up (i : Nat) : ∀ (n x K : Nat) (l : List S47), i - 1 - x ≤ n → i ≤ l.length → l.length < 1000 → 1 ≤ i → n + 1 ≤ K → ∃ r, hopmeshlaw49_Delivery_85.l1 K l (i : Int) (x : Int) = some r ∧ G l r := by
  intro n
  induction n with
  | zero =>
    intro x K l h0 h1 h2 h3 hK
    obtain ⟨k, rfl⟩ : ∃ k, K = k + 1 := ⟨K - 1, by omega⟩
    refine ⟨l, ?_, G.refl l⟩
    unfold hopmeshlaw49_Delivery_85.l1
    rw [dec i h3 (by omega), if_neg (by omega)]
  | succ n ih =>
    intro x K l h0 h1 h2 h3 hK
    obtain ⟨k, rfl⟩ : ∃ k, K = k + 1 := ⟨K - 1, by omega⟩
    unfold hopmeshlaw49_Delivery_85.l1
    rw [dec i h3 (by omega)]
    by_cases c : x < i - 1
    · have g := swap l x (x + 1) (by omega) (by omega)
      obtain ⟨r, hr, hg⟩ := ih (x + 1) k _ (by omega) (by rw [g.1]; exact h1) (by rw [g.1]; exact h2) h3 (by omega)
      rw [if_pos (by omega), wrap_nat x (by omega), if_pos (by omega), if_pos (by omega), if_pos (by omega), if_pos (by omega)]
      exact ⟨r, hr, g.trans hg⟩
    · rw [if_neg (by omega)]
      exact ⟨l, rfl, G.refl l⟩
theorem down (i : Nat) : ∀ (n x K : Nat) (l : List S47), x - i ≤ n → x < l.length → l.length < 1000 → n + 1 ≤ K → ∃ r, hopmeshlaw49_Delivery_85.l3 K l (i : Int) (x : Int) = some r ∧ G l r := by
  intro n
  induction n with
  | zero =>
    intro x K l h0 h1 h2 hK
    obtain ⟨k, rfl⟩ : ∃ k, K = k + 1 := ⟨K - 1, by omega⟩
    refine ⟨l, ?_, G.refl l⟩
    unfold hopmeshlaw49_Delivery_85.l3
    rw [if_neg (by omega)]
  | succ n ih =>
    intro x K l h0 h1 h2 hK
    obtain ⟨k, rfl⟩ : ∃ k, K = k + 1 := ⟨K - 1, by omega⟩
    unfold hopmeshlaw49_Delivery_85.l3
    by_cases c : x > i
    · have g := swap l x (x - 1) (by omega) (by omega)
      obtain ⟨r, hr, hg⟩ := ih (x - 1) k _ (by omega) (by rw [g.1]; omega) (by rw [g.1]; exact h2) (by omega)
      rw [if_pos (by omega), dec x (by omega) (by omega), if_pos (by omega), if_pos (by omega), if_pos (by omega), if_pos (by omega)]
      exact ⟨r, hr, g.trans hg⟩
    · rw [if_neg (by omega)]
      exact ⟨l, rfl, G.refl l⟩
theorem way1 (a : Nat) : ∀ (n i j K : Nat) (l : List S47), j - i ≤ n → a < i → i ≤ l.length → j ≤ l.length → l.length < 1000 → n + 1002 ≤ K → ∃ r, hopmeshlaw49_Delivery_85.l0 K l (a : Int) (i : Int) (j : Int) = some r ∧ G l r := by
  intro n
  induction n with
  | zero =>
    intro i j K l h0 h1 h2 h3 h4 hK
    obtain ⟨k, rfl⟩ : ∃ k, K = k + 1 := ⟨K - 1, by omega⟩
    unfold hopmeshlaw49_Delivery_85.l0
    rw [if_neg (by omega)]
    exact up i (i - 1 - a) a k l (Nat.le_refl _) h2 h4 (by omega) (by omega)
  | succ n ih =>
    intro i j K l h0 h1 h2 h3 h4 hK
    obtain ⟨k, rfl⟩ : ∃ k, K = k + 1 := ⟨K - 1, by omega⟩
    unfold hopmeshlaw49_Delivery_85.l0
    by_cases c : i < j
    · rw [if_pos (by omega), half i j (by omega), if_pos (by omega), if_pos (by omega), if_pos (by omega), if_pos (by omega)]
      unfold hopmeshlaw49_order_1.f
      rw [Option.bind_some]
      split
      · rw [wrap_nat _ (by omega)]
        exact ih ((i + j) / 2 + 1) j k l (by omega) (by omega) (by omega) h3 h4 (by omega)
      · exact ih i ((i + j) / 2) k l (by omega) h1 h2 (by omega) h4 (by omega)
    · rw [if_neg (by omega)]
      exact up i (i - 1 - a) a k l (Nat.le_refl _) h2 h4 (by omega) (by omega)
theorem way2 (m : Nat) : ∀ (n i j K : Nat) (l : List S47), j - i ≤ n → j ≤ m → m < l.length → l.length < 1000 → n + 1002 ≤ K → ∃ r, hopmeshlaw49_Delivery_85.l2 K l (m : Int) (i : Int) (j : Int) = some r ∧ G l r := by
  intro n
  induction n with
  | zero =>
    intro i j K l h0 h1 h2 h4 hK
    obtain ⟨k, rfl⟩ : ∃ k, K = k + 1 := ⟨K - 1, by omega⟩
    unfold hopmeshlaw49_Delivery_85.l2
    rw [if_neg (by omega)]
    exact down i (m - i) m k l (Nat.le_refl _) h2 h4 (by omega)
  | succ n ih =>
    intro i j K l h0 h1 h2 h4 hK
    obtain ⟨k, rfl⟩ : ∃ k, K = k + 1 := ⟨K - 1, by omega⟩
    unfold hopmeshlaw49_Delivery_85.l2
    by_cases c : i < j
    · rw [if_pos (by omega), half i j (by omega), if_pos (by omega), if_pos (by omega), if_pos (by omega), if_pos (by omega)]
      unfold hopmeshlaw49_order_1.f
      rw [Option.bind_some]
      split
      · exact ih i ((i + j) / 2) k l (by omega) (by omega) h2 h4 (by omega)
      · rw [wrap_nat _ (by omega)]
        exact ih ((i + j) / 2 + 1) j k l (by omega) h1 h2 h4 (by omega)
    · rw [if_neg (by omega)]
      exact down i (m - i) m k l (Nat.le_refl _) h2 h4 (by omega)
/-- What symMerge asks for, up to a size. -/
def Sym (s : Nat) : Prop := ∀ (a m b K : Nat) (l : List S47), b - a ≤ s → a < m → m < b → b ≤ l.length → l.length < 1000 → 10000 * s + 1 ≤ K → ∃ r, hopmeshlaw49_Delivery_85.f K l (a : Int) (m : Int) (b : Int) = some r ∧ G l r
theorem last (s : Nat) (ih : Sym s) (a b mid st en K : Nat) (l : List S47) (hK : 10000 * s + 2 ≤ K) (h1 : mid - a ≤ s) (h2 : b - mid ≤ s) (h3 : mid ≤ b) (h4 : b ≤ l.length) (h5 : l.length < 1000) (f : Bool) (hf : f = true → a < st ∧ st < mid) :
    ∃ r, hopmeshlaw49_Delivery_85.j8 K l (a : Int) (b : Int) (mid : Int) (st : Int) (en : Int) f = some r ∧ G l r := by
  obtain ⟨k, rfl⟩ : ∃ k, K = k + 1 := ⟨K - 1, by omega⟩
  have tail : ∀ l2 : List S47, l2.length = l.length → ∃ r, (if (mid : Int) < (en : Int) then (if (en : Int) < (b : Int) then ((hopmeshlaw49_Delivery_85.f k l2 (mid : Int) (en : Int) (b : Int)).bind fun t => some t) else some l2) else some l2) = some r ∧ G l2 r := fun l2 hl => by
    by_cases c1 : mid < en
    · rw [if_pos (by omega)]
      by_cases c2 : en < b
      · obtain ⟨r, hr, hg⟩ := ih mid en b k l2 h2 c1 c2 (by omega) (by omega) (by omega)
        rw [if_pos (by omega), hr, Option.bind_some]
        exact ⟨r, rfl, hg⟩
      · rw [if_neg (by omega)]
        exact ⟨l2, rfl, G.refl l2⟩
    · rw [if_neg (by omega)]
      exact ⟨l2, rfl, G.refl l2⟩
  unfold hopmeshlaw49_Delivery_85.j8
  cases f with
  | true =>
    obtain ⟨f1, f2⟩ := hf rfl
    obtain ⟨r, hr, hg⟩ := ih a st mid k l h1 f1 f2 (by omega) h5 (by omega)
    rw [if_pos rfl, hr, Option.bind_some]
    obtain ⟨r2, hr2, hg2⟩ := tail r hg.1
    exact ⟨r2, hr2, hg.trans hg2⟩
  | false =>
    rw [if_neg (by decide)]
    exact tail l rfl
theorem mid7 (s : Nat) (ih : Sym s) (a b mid st en K : Nat) (l : List S47) (hK : 10000 * s + 3 ≤ K) (h1 : mid - a ≤ s) (h2 : b - mid ≤ s) (h3 : mid ≤ b) (h4 : b ≤ l.length) (h5 : l.length < 1000) :
    ∃ r, hopmeshlaw49_Delivery_85.j7 K l (a : Int) (b : Int) (mid : Int) (st : Int) (en : Int) = some r ∧ G l r := by
  obtain ⟨k, rfl⟩ : ∃ k, K = k + 1 := ⟨K - 1, by omega⟩
  unfold hopmeshlaw49_Delivery_85.j7
  by_cases c : a < st
  · rw [if_pos (by omega)]
    exact last s ih a b mid st en k l (by omega) h1 h2 h3 h4 h5 _ (fun h => ⟨c, by have := of_decide_eq_true h; omega⟩)
  · rw [if_neg (by omega)]
    exact last s ih a b mid st en k l (by omega) h1 h2 h3 h4 h5 false (fun h => by cases h)
theorem mid6 (s : Nat) (ih : Sym s) (a m b mid st en K : Nat) (l : List S47) (hK : 10000 * s + 2100 ≤ K) (h1 : mid - a ≤ s) (h2 : b - mid ≤ s) (h3 : mid ≤ b) (h4 : b ≤ l.length) (h5 : l.length < 1000) (f : Bool) (hf : f = true → st < m ∧ m < en) (he : en ≤ b) :
    ∃ r, hopmeshlaw49_Delivery_85.j6 K l (a : Int) (m : Int) (b : Int) (mid : Int) (st : Int) (en : Int) f = some r ∧ G l r := by
  obtain ⟨k, rfl⟩ : ∃ k, K = k + 1 := ⟨K - 1, by omega⟩
  unfold hopmeshlaw49_Delivery_85.j6
  cases f with
  | true =>
    obtain ⟨f1, f2⟩ := hf rfl
    obtain ⟨r, hr, hg⟩ := rotate st m en k l f1 f2 (by omega) (by omega) (by omega)
    rw [if_pos rfl, hr, Option.bind_some]
    obtain ⟨r2, hr2, hg2⟩ := mid7 s ih a b mid st en k r (by omega) h1 h2 h3 (by rw [hg.1]; exact h4) (by rw [hg.1]; exact h5)
    exact ⟨r2, hr2, hg.trans hg2⟩
  | false =>
    rw [if_neg (by decide)]
    exact mid7 s ih a b mid st en k l (by omega) h1 h2 h3 h4 h5
theorem search (s : Nat) (ih : Sym s) (a m b mid lo hi : Nat) (h1 : mid - a ≤ s) (h2 : b - mid ≤ s) (h3 : mid ≤ b) (hm : m < b) (hlo : mid + m ≤ lo + b) (hhi : hi ≤ mid) (hhi2 : hi ≤ m) : ∀ (n st r K : Nat) (l : List S47), b ≤ l.length → l.length < 1000 → r - st ≤ n → lo ≤ st → st ≤ hi → r ≤ hi → 10000 * s + 2101 + n ≤ K → 1 ≤ mid + m →
    ∃ q, hopmeshlaw49_Delivery_85.l4 K l (a : Int) (m : Int) (b : Int) (mid : Int) ((mid + m : Nat) : Int) (st : Int) (r : Int) ((mid + m - 1 : Nat) : Int) = some q ∧ G l q := by
  intro n
  have fin : ∀ (st k : Nat) (l : List S47), b ≤ l.length → l.length < 1000 → lo ≤ st → st ≤ hi → 10000 * s + 2100 ≤ k →
      ∃ q, (if (st : Int) < (m : Int) then (hopmeshlaw49_Delivery_85.j6 k l (a : Int) (m : Int) (b : Int) (mid : Int) (st : Int) (wrap64 (((mid + m : Nat) : Int) - (st : Int))) (decide ((m : Int) < (wrap64 (((mid + m : Nat) : Int) - (st : Int)))))) else (hopmeshlaw49_Delivery_85.j6 k l (a : Int) (m : Int) (b : Int) (mid : Int) (st : Int) (wrap64 (((mid + m : Nat) : Int) - (st : Int))) false)) = some q ∧ G l q := fun st k l hb hl x1 x2 hk => by
    rw [wrap_sub (mid + m) st (by omega) (by omega)]
    by_cases c : st < m
    · rw [if_pos (by omega)]
      exact mid6 s ih a m b mid st (mid + m - st) k l hk h1 h2 h3 hb hl _ (fun h => ⟨c, by have := of_decide_eq_true h; omega⟩) (by omega)
    · rw [if_neg (by omega)]
      exact mid6 s ih a m b mid st (mid + m - st) k l hk h1 h2 h3 hb hl false (fun h => by cases h) (by omega)
  induction n with
  | zero =>
    intro st r K l hb hl h0 x1 x2 x3 hK h9
    obtain ⟨k, rfl⟩ : ∃ k, K = k + 1 := ⟨K - 1, by omega⟩
    unfold hopmeshlaw49_Delivery_85.l4
    rw [if_neg (by omega)]
    exact fin st k l hb hl x1 x2 (by omega)
  | succ n ihn =>
    intro st r K l hb hl h0 x1 x2 x3 hK h9
    obtain ⟨k, rfl⟩ : ∃ k, K = k + 1 := ⟨K - 1, by omega⟩
    unfold hopmeshlaw49_Delivery_85.l4
    by_cases c : st < r
    · rw [if_pos (by omega), half st r (by omega), wrap_sub (mid + m - 1) ((st + r) / 2) (by omega) (by omega), if_pos (by omega), if_pos (by omega), if_pos (by omega), if_pos (by omega)]
      unfold hopmeshlaw49_order_1.f
      rw [Option.bind_some]
      split
      · exact ihn st ((st + r) / 2) k l hb hl (by omega) x1 x2 (by omega) (by omega) h9
      · rw [wrap_nat _ (by omega)]
        exact ihn ((st + r) / 2 + 1) r k l hb hl (by omega) (by omega) (by omega) x3 (by omega) h9
    · rw [if_neg (by omega)]
      exact fin st k l hb hl x1 x2 (by omega)
theorem sym : ∀ s, Sym s := by
  intro s
  induction s with
  | zero => intro a m b K l h0 h1 h2; omega
  | succ s ih =>
    intro a m b K l h0 h1 h2 h3 h4 hK
    obtain ⟨k, rfl⟩ : ∃ k, K = k + 1 := ⟨K - 1, by omega⟩
    unfold hopmeshlaw49_Delivery_85.f
    rw [wrap_sub m a (by omega) (by omega), wrap_sub b m (by omega) (by omega)]
    by_cases c1 : m - a = 1
    · rw [if_pos (by omega)]
      exact way1 a (b - m) m b k l (Nat.le_refl _) h1 (by omega) h3 h4 (by omega)
    · rw [if_neg (by omega)]
      by_cases c2 : b - m = 1
      · rw [if_pos (by omega)]
        exact way2 m (m - a) a m k l (Nat.le_refl _) (Nat.le_refl _) (by omega) h4 (by omega)
      · rw [if_neg (by omega), half a b (by omega), wrap_add ((a + b) / 2) m (by omega)]
        obtain ⟨k2, rfl⟩ : ∃ k2, k = k2 + 1 := ⟨k - 1, by omega⟩
        by_cases c3 : m > (a + b) / 2
        · rw [if_pos (by omega)]
          unfold hopmeshlaw49_Delivery_85.j4
          rw [dec ((a + b) / 2 + m) (by omega) (by omega), wrap_sub ((a + b) / 2 + m) b (by omega) (by omega)]
          exact search s ih a m b ((a + b) / 2) ((a + b) / 2 + m - b) ((a + b) / 2) (by omega) (by omega) (by omega) h2 (by omega) (Nat.le_refl _) (by omega) ((a + b) / 2 - ((a + b) / 2 + m - b)) _ _ k2 l h3 h4 (Nat.le_refl _) (Nat.le_refl _) (by omega) (Nat.le_refl _) (by omega) (by omega)
        · rw [if_neg (by omega)]
          unfold hopmeshlaw49_Delivery_85.j4
          rw [dec ((a + b) / 2 + m) (by omega) (by omega)]
          exact search s ih a m b ((a + b) / 2) a m (by omega) (by omega) (by omega) h2 (by omega) (by omega) (Nat.le_refl _) (m - a) _ _ k2 l h3 h4 (Nat.le_refl _) (Nat.le_refl _) (by omega) (Nat.le_refl _) (by omega) (by omega)
end Go.Proofs.Ytdigplhjfjchnaa.PureS
namespace Go.Proofs.Ytdigplhjfjchnaa.PureS
open Go.RowKit Go.Proofs.Ytdigplhjfjchnaa.PQ Go.Proofs.YtdigplhjfjchnaaW.PrintWords Go.Proofs.YtdigplhjfjchnaaW.PrintLast Go.Proofs.YtdigplhjfjchnaaW.PrintMore
theorem ins_any (a b K : Nat) (l : List S47) (h : a ≤ b) (hbl : b ≤ l.length) (hb : l.length ≤ 100) (hK : 20000 ≤ K) : ∃ r, hopmeshlaw49_Delivery_84.f K l (a : Int) (b : Int) = some r ∧ G l r := by
  by_cases c : a < b
  · refine insertion a b K l c hbl (by omega) (Nat.le_trans ?_ hK)
    have : b * (b + 3) ≤ 100 * 103 := Nat.mul_le_mul (by omega) (by omega)
    omega
  · obtain ⟨k, rfl⟩ : ∃ k, K = k + 1 := ⟨K - 1, by omega⟩
    refine ⟨l, ?_, G.refl l⟩
    unfold hopmeshlaw49_Delivery_84.f
    rw [wrap_nat a (by omega)]
    unfold hopmeshlaw49_Delivery_84.l0
    rw [if_neg (by omega)]
theorem sym100 (a m b K : Nat) (l : List S47) (h1 : a < m) (h2 : m < b) (h3 : b ≤ l.length) (h4 : l.length ≤ 100) (hK : 1000001 ≤ K) : ∃ r, hopmeshlaw49_Delivery_85.f K l (a : Int) (m : Int) (b : Int) = some r ∧ G l r :=
  sym 100 a m b K l (by omega) h1 h2 h3 (by omega) (by omega)
theorem twice (b : Nat) (h : b < 10000) : wrap64 (2 * (b : Int)) = ((2 * b : Nat) : Int) := by rw [wrap_in _ (by omega)]; omega
theorem merge2 (n bs e : Nat) (hn : n ≤ 100) (hb : 1 ≤ bs) (hb2 : bs < n) (ih : ∀ (K : Nat) (l : List S47), l.length = n → 2000000 + 300 * e ≤ K → ∃ r, hopmeshlaw49_Delivery_74.l1 K l (n : Int) ((2 * bs : Nat) : Int) = some r ∧ G l r) :
    ∀ (d a K : Nat) (l : List S47), n - a ≤ d → a ≤ n → l.length = n → 2000000 + 300 * e + d + 2 ≤ K → ∃ r, hopmeshlaw49_Delivery_74.l2 K l (n : Int) (bs : Int) (a : Int) ((a + 2 * bs : Nat) : Int) = some r ∧ G l r := by
  intro d
  have two : wrap64 ((bs : Int) * 2) = ((2 * bs : Nat) : Int) := by rw [wrap_in _ (by omega)]; omega
  have rest : ∀ (a k : Nat) (l : List S47), a ≤ n → l.length = n → 2000000 + 300 * e ≤ k → ∃ r, (if (wrap64 ((a : Int) + (bs : Int))) < (n : Int) then ((hopmeshlaw49_Delivery_85.f k l (a : Int) (wrap64 ((a : Int) + (bs : Int))) (n : Int)).bind fun t => (hopmeshlaw49_Delivery_74.l1 k t (n : Int) (wrap64 ((bs : Int) * 2)))) else (hopmeshlaw49_Delivery_74.l1 k l (n : Int) (wrap64 ((bs : Int) * 2)))) = some r ∧ G l r := fun a k l ha hl hk => by
    rw [wrap_add a bs (by omega), two]
    by_cases c : a + bs < n
    · obtain ⟨r, hr, hg⟩ := sym100 a (a + bs) n k l (by omega) c (by omega) (by omega) (by omega)
      obtain ⟨r2, hr2, hg2⟩ := ih k r (by rw [hg.1]; exact hl) hk
      rw [if_pos (by omega), hr, Option.bind_some]
      exact ⟨r2, hr2, hg.trans hg2⟩
    · rw [if_neg (by omega)]
      exact ih k l hl hk
  induction d with
  | zero =>
    intro a K l h0 ha hl hK
    obtain ⟨k, rfl⟩ : ∃ k, K = k + 1 := ⟨K - 1, by omega⟩
    unfold hopmeshlaw49_Delivery_74.l2
    rw [if_neg (by omega)]
    exact rest a k l ha hl (by omega)
  | succ d ihd =>
    intro a K l h0 ha hl hK
    obtain ⟨k, rfl⟩ : ∃ k, K = k + 1 := ⟨K - 1, by omega⟩
    unfold hopmeshlaw49_Delivery_74.l2
    by_cases c : a + 2 * bs ≤ n
    · obtain ⟨r, hr, hg⟩ := sym100 a (a + bs) (a + 2 * bs) k l (by omega) (by omega) (by omega) (by omega) (by omega)
      obtain ⟨r2, hr2, hg2⟩ := ihd (a + 2 * bs) k r (by omega) c (by rw [hg.1]; exact hl) (by omega)
      rw [if_pos (by omega), wrap_add a bs (by omega), hr, Option.bind_some, twice bs (by omega), wrap_add (a + 2 * bs) (2 * bs) (by omega)]
      exact ⟨r2, hr2, hg.trans hg2⟩
    · rw [if_neg (by omega)]
      exact rest a k l ha hl (by omega)
theorem merge1 (n : Nat) (hn : n ≤ 100) : ∀ (e bs K : Nat) (l : List S47), n - bs ≤ e → 1 ≤ bs → l.length = n → 2000000 + 300 * e ≤ K → ∃ r, hopmeshlaw49_Delivery_74.l1 K l (n : Int) (bs : Int) = some r ∧ G l r := by
  intro e
  induction e with
  | zero =>
    intro bs K l h0 hb hl hK
    obtain ⟨k, rfl⟩ : ∃ k, K = k + 1 := ⟨K - 1, by omega⟩
    unfold hopmeshlaw49_Delivery_74.l1
    rw [if_neg (by omega)]
    exact ⟨l, rfl, G.refl l⟩
  | succ e ih =>
    intro bs K l h0 hb hl hK
    obtain ⟨k, rfl⟩ : ∃ k, K = k + 1 := ⟨K - 1, by omega⟩
    unfold hopmeshlaw49_Delivery_74.l1
    by_cases c : bs < n
    · rw [if_pos (by omega), twice bs (by omega)]
      have := merge2 n bs e hn hb c (fun K2 l2 h1 h2 => ih (2 * bs) K2 l2 (by omega) (by omega) h1 h2) n 0 k l (by omega) (by omega) hl (by omega)
      rw [show 0 + 2 * bs = 2 * bs by omega] at this
      exact this
    · rw [if_neg (by omega)]
      exact ⟨l, rfl, G.refl l⟩
theorem blocks (n : Nat) (hn : n ≤ 100) : ∀ (d a K : Nat) (l : List S47), n - a ≤ d → a ≤ n → l.length = n → 2100000 + d ≤ K → ∃ r, hopmeshlaw49_Delivery_74.l0 K l (n : Int) 20 (a : Int) ((a + 20 : Nat) : Int) = some r ∧ G l r := by
  intro d
  have rest : ∀ (a k : Nat) (l : List S47), a ≤ n → l.length = n → 2090000 ≤ k → ∃ r, ((hopmeshlaw49_Delivery_84.f k l (a : Int) (n : Int)).bind fun t => (hopmeshlaw49_Delivery_74.l1 k t (n : Int) 20)) = some r ∧ G l r := fun a k l ha hl hk => by
    obtain ⟨r, hr, hg⟩ := ins_any a n k l ha (by omega) (by omega) (by omega)
    obtain ⟨r2, hr2, hg2⟩ := merge1 n hn n 20 k r (by omega) (by omega) (by rw [hg.1]; exact hl) (by omega)
    rw [hr, Option.bind_some]
    exact ⟨r2, hr2, hg.trans hg2⟩
  induction d with
  | zero =>
    intro a K l h0 ha hl hK
    obtain ⟨k, rfl⟩ : ∃ k, K = k + 1 := ⟨K - 1, by omega⟩
    unfold hopmeshlaw49_Delivery_74.l0
    rw [if_neg (by omega)]
    exact rest a k l ha hl (by omega)
  | succ d ih =>
    intro a K l h0 ha hl hK
    obtain ⟨k, rfl⟩ : ∃ k, K = k + 1 := ⟨K - 1, by omega⟩
    unfold hopmeshlaw49_Delivery_74.l0
    by_cases c : a + 20 ≤ n
    · obtain ⟨r, hr, hg⟩ := ins_any a (a + 20) k l (by omega) (by omega) (by omega) (by omega)
      obtain ⟨r2, hr2, hg2⟩ := ih (a + 20) k r (by omega) c (by rw [hg.1]; exact hl) (by omega)
      rw [if_pos (by omega), hr, Option.bind_some, show wrap64 (((a + 20 : Nat) : Int) + 20) = ((a + 20 + 20 : Nat) : Int) from wrap_add (a + 20) 20 (by omega)]
      exact ⟨r2, hr2, hg.trans hg2⟩
    · rw [if_neg (by omega)]
      exact rest a k l ha hl (by omega)
/-- The law's order of deliveries. -/
theorem order_total (l : List S47) (h : l.length ≤ 100) (K : Nat) (hK : 2200000 ≤ K) : ∃ r, hopmeshlaw49_order.f K l = some r ∧ G l r := by
  obtain ⟨r, hr, hg⟩ := blocks l.length h l.length 0 K l (by omega) (by omega) rfl (by omega)
  refine ⟨r, ?_, hg⟩
  unfold hopmeshlaw49_order.f hopmeshlaw49_Delivery_48.f hopmeshlaw49_Delivery_49.f hopmeshlaw49_Delivery_74.f
  rw [if_pos (by omega), Option.bind_some]
  have hr' : hopmeshlaw49_Delivery_74.l0 K l (l.length : Int) 20 0 20 = some r := hr
  rw [hr']
  rfl
end Go.Proofs.Ytdigplhjfjchnaa.PureS
