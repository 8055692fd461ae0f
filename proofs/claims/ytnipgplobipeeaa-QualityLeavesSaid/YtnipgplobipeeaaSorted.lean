/-
  What the judge's sort leaves of a rising row of channels: the same channels, the worst one first, equals by their number. The counts are valid ones.
-/
import Derived.Test.YtnipgplobipeeaaClose
import Derived.Sort.LotA
namespace Go.Proofs.Ytnipgplobipeeaa.PureS
open Go.RowKit Go.Proofs.Ytnipgplobipeeaa.PQ Go.Proofs.Ytnipgplobipeeaa.PureB Go.Proofs.YtnipgplobipeeaaW.PrintWords Go.Proofs.YtnipgplobipeeaaW.PrintLast Go.Proofs.YtnipgplobipeeaaW.PrintMore
open Go.Sort (swp insInner insOuter insertionSort SWO PermIn SortedIn)
section
variable {α : Type} [Inhabited α] (lt lt2 : α → α → Bool) (key : α → Nat)
theorem swp_get (d : Array α) (i j k : Nat) (hi : i < d.size) (hj : j < d.size) : (swp d i j)[k]! = if k = j then d[i]! else if k = i then d[j]! else d[k]! := by
  unfold swp
  by_cases hk : k < d.size
  · rw [getElem!_pos _ k (by simpa using hk), Array.getElem_setIfInBounds (by simpa using hk), Array.getElem_setIfInBounds hk, getElem!_pos d k hk]
    by_cases h1 : j = k
    · simp [h1]
    · have h1' : ¬ k = j := fun e => h1 e.symm
      by_cases h2 : i = k
      · simp [h1, h1', h2]
      · have h2' : ¬ k = i := fun e => h2 e.symm
        simp [h1, h1', h2, h2']
  · rw [if_neg (by omega), if_neg (by omega), getElem!_neg _ k (by simpa using hk), getElem!_neg _ k hk]
theorem inner_size (a : Nat) : ∀ (j : Nat) (d : Array α), (insInner lt a j d).size = d.size := insInner_size lt a
theorem inner_far (a : Nat) : ∀ (j : Nat) (d : Array α), j < d.size → ∀ k, j < k → (insInner lt a j d)[k]! = d[k]!
  | 0, d, _, k, hk => rfl
  | j + 1, d, hd, k, hk => by
    unfold insInner
    split
    · rw [inner_far a j _ (by rw [Go.Sort.size_swp]; omega) k (by omega), swp_get d (j + 1) j k hd (by omega), if_neg (by omega), if_neg (by omega)]
    · rfl
theorem inner_from (a : Nat) : ∀ (j : Nat) (d : Array α), j < d.size → ∀ k, k ≤ j → ∃ k', k' ≤ j ∧ (insInner lt a j d)[k]! = d[k']!
  | 0, d, _, k, hk => ⟨k, hk, rfl⟩
  | j + 1, d, hd, k, hk => by
    unfold insInner
    split
    · rcases Nat.lt_or_ge j k with h | h
      · refine ⟨j, by omega, ?_⟩
        rw [inner_far lt a j _ (by rw [Go.Sort.size_swp]; omega) k (by omega), swp_get d (j + 1) j k hd (by omega), if_neg (by omega), if_pos (by omega)]
      · obtain ⟨k', h1, h2⟩ := inner_from a j (swp d (j + 1) j) (by rw [Go.Sort.size_swp]; omega) k h
        rw [h2, swp_get d (j + 1) j k' hd (by omega)]
        by_cases e1 : k' = j
        · exact ⟨j + 1, Nat.le_refl _, by rw [if_pos e1]⟩
        · exact ⟨k', by omega, by rw [if_neg e1, if_neg (by omega)]⟩
    · exact ⟨k, hk, rfl⟩
/-- Two orders that agree where the later one has the greater key take the same way. -/
theorem inner_same (h : ∀ x y, key y < key x → lt x y = lt2 x y) (a : Nat) : ∀ (j : Nat) (d : Array α), j < d.size → (∀ k, k < j → key d[k]! < key d[j]!) → insInner lt a j d = insInner lt2 a j d
  | 0, d, _, _ => rfl
  | j + 1, d, hd, hk => by
    unfold insInner
    rw [h d[j + 1]! d[j]! (hk j (by omega))]
    split
    · refine inner_same h a j _ (by rw [Go.Sort.size_swp]; omega) fun k hkj => ?_
      rw [swp_get d (j + 1) j k hd (by omega), swp_get d (j + 1) j j hd (by omega), if_neg (by omega), if_neg (by omega), if_pos rfl]
      exact hk k (by omega)
    · rfl
theorem outer_same (h : ∀ x y, key y < key x → lt x y = lt2 x y) (a b : Nat) : ∀ (n i : Nat) (d : Array α), b - i = n → b ≤ d.size → (∀ k m, k < i → i ≤ m → m < b → key d[k]! < key d[m]!) → (∀ k m, i ≤ k → k < m → m < b → key d[k]! < key d[m]!) → insOuter lt a b i d = insOuter lt2 a b i d
  | 0, i, d, hn, _, _, _ => by rw [insOuter_stop _ _ _ _ _ (by omega), insOuter_stop _ _ _ _ _ (by omega)]
  | n + 1, i, d, hn, hb, h1, h2 => by
    have hi : i < b := by omega
    rw [insOuter_go _ _ _ _ _ hi, insOuter_go _ _ _ _ _ hi, ← inner_same lt lt2 key h a i d (by omega) fun k hk => h1 k i hk (Nat.le_refl _) hi]
    refine outer_same h a b n (i + 1) _ (by omega) (by rw [inner_size]; exact hb) (fun k m hk hm hmb => ?_) (fun k m hk hkm hmb => ?_)
    · obtain ⟨k', e1, e2⟩ := inner_from lt a i d (by omega) k (by omega)
      rw [e2, inner_far lt a i d (by omega) m (by omega)]
      rcases Nat.lt_or_ge k' i with e3 | e3
      · exact h1 k' m e3 (by omega) hmb
      · exact h2 k' m (by omega) (by omega) hmb
    · rw [inner_far lt a i d (by omega) k (by omega), inner_far lt a i d (by omega) m (by omega)]
      exact h2 k m (by omega) hkm hmb
theorem sort_same (h : ∀ x y, key y < key x → lt x y = lt2 x y) (d : Array α) (hd : ∀ k m, k < m → m < d.size → key d[k]! < key d[m]!) : insertionSort lt d 0 d.size = insertionSort lt2 d 0 d.size := by
  unfold insertionSort
  refine outer_same lt lt2 key h 0 d.size _ 1 d rfl (Nat.le_refl _) (fun k m hk hm hmb => hd k m (by omega) hmb) (fun k m hk hkm hmb => hd k m hkm hmb)
end
/-! ### The order of rates -/
def num (c : S34) : Int := c.f1
def den (c : S34) : Int := mx c.f0 1
def Good (c : S34) : Prop := quality_Check.f c.f0 c.f1 = some 0
theorem den_in (c : S34) (h : Good c) : 1 ≤ den c ∧ den c ≤ 1073741824 ∧ 0 ≤ num c ∧ num c ≤ 1073741824 := by
  have := check_zero h
  unfold den num mx
  split <;> omega
theorem prod_in (b m : Int) (hb : 0 ≤ b ∧ b ≤ 1073741824) (hm : 1 ≤ m ∧ m ≤ 1073741824) : 0 ≤ b * m ∧ b * m ≤ 1152921504606846976 := by
  refine ⟨Int.mul_nonneg hb.1 (by omega), ?_⟩
  have h1 : b * m ≤ 1073741824 * m := Int.mul_le_mul_of_nonneg_right hb.2 (by omega)
  omega
theorem cmpv_val (a b : S34) (ha : Good a) (hb : Good b) : cmpv a b = if num a * den b < num b * den a then -1 else if num a * den b > num b * den a then 1 else 0 := by
  have m1 := den_in a ha
  have m2 := den_in b hb
  have p1 := prod_in (num a) (den b) ⟨m1.2.2.1, m1.2.2.2⟩ ⟨m2.1, m2.2.1⟩
  have p2 := prod_in (num b) (den a) ⟨m2.2.2.1, m2.2.2.2⟩ ⟨m1.1, m1.2.1⟩
  have e : quality_compare.f a.f0 a.f1 b.f0 b.f1 = some (if num a * den b < num b * den a then -1 else if num a * den b > num b * den a then 1 else 0) := by
    unfold quality_compare.f cmp_Compare_int.f cmp_isNaN_int.f
    show Option.bind (Option.bind (some (wrap64 (num a * den b) != wrap64 (num a * den b))) _) _ = _
    rw [show wrap64 (a.f1 * mx b.f0 1) = num a * den b from wrap_in (num a * den b) (by omega), show wrap64 (b.f1 * mx a.f0 1) = num b * den a from wrap_in (num b * den a) (by omega), show wrap64 (num a * den b) = num a * den b from wrap_in (num a * den b) (by omega)]
    simp only [bne_self_eq_false, Option.bind_some, Bool.false_eq_true, if_false]
    split
    · rfl
    · split <;> rfl
  unfold cmpv
  rw [e]
  rfl
theorem tr (a A b B c C : Int) (hA : 1 ≤ A) (hB : 1 ≤ B) (hC : 1 ≤ C) (h1 : a * B ≤ b * A) (h2 : b * C ≤ c * B) : a * C ≤ c * A ∧ (a * B < b * A ∨ b * C < c * B → a * C < c * A) := by
  have x := Int.mul_le_mul_of_nonneg_right h1 (show 0 ≤ C by omega)
  have y := Int.mul_le_mul_of_nonneg_right h2 (show 0 ≤ A by omega)
  have e1 : b * A * C = b * C * A := by rw [Int.mul_assoc, Int.mul_comm A C, ← Int.mul_assoc]
  have e2 : a * B * C = a * C * B := by rw [Int.mul_assoc, Int.mul_comm B C, ← Int.mul_assoc]
  have e3 : c * B * A = c * A * B := by rw [Int.mul_assoc, Int.mul_comm B A, ← Int.mul_assoc]
  refine ⟨Int.le_of_mul_le_mul_right (show a * C * B ≤ c * A * B by omega) (by omega), fun h => ?_⟩
  refine Int.lt_of_mul_lt_mul_right (show a * C * B < c * A * B from ?_) (by omega)
  rcases h with h | h
  · have := Int.mul_lt_mul_of_pos_right h (show 0 < C by omega)
    omega
  · have := Int.mul_lt_mul_of_pos_right h (show 0 < A by omega)
    omega
section
variable (cs : List S34)
/-- x before y: the lesser rate, or an equal one and the lesser number. -/
def Lx (x y : Int) : Prop := num (rd_T34 cs x) * den (rd_T34 cs y) < num (rd_T34 cs y) * den (rd_T34 cs x) ∨ (num (rd_T34 cs x) * den (rd_T34 cs y) = num (rd_T34 cs y) * den (rd_T34 cs x) ∧ x < y)
instance (x y : Int) : Decidable (Lx cs x y) := inferInstanceAs (Decidable (_ ∨ _))
theorem Lx_irrefl (x : Int) : ¬ Lx cs x x := fun h => by rcases h with h | h <;> omega
theorem Lx_asymm (x y : Int) (h : Lx cs x y) : ¬ Lx cs y x := fun h2 => by rcases h with h | h <;> rcases h2 with h2 | h2 <;> omega
theorem Lx_total (x y : Int) (h : x ≠ y) : Lx cs x y ∨ Lx cs y x := by
  unfold Lx
  omega
theorem Lx_trans (x y z : Int) (gx : Good (rd_T34 cs x)) (gy : Good (rd_T34 cs y)) (gz : Good (rd_T34 cs z)) (h1 : Lx cs x y) (h2 : Lx cs y z) : Lx cs x z := by
  have t := tr (num (rd_T34 cs x)) (den (rd_T34 cs x)) (num (rd_T34 cs y)) (den (rd_T34 cs y)) (num (rd_T34 cs z)) (den (rd_T34 cs z)) (den_in _ gx).1 (den_in _ gy).1 (den_in _ gz).1 (by rcases h1 with h1 | h1 <;> omega) (by rcases h2 with h2 | h2 <;> omega)
  rcases h1 with h1 | ⟨h1, i1⟩
  · exact .inl (t.2 (.inl h1))
  · rcases h2 with h2 | ⟨h2, i2⟩
    · exact .inl (t.2 (.inr h2))
    · rcases Int.lt_or_eq_of_le t.1 with h | h
      · exact .inl h
      · exact .inr ⟨h, by omega⟩
end
def ltF (cs : List S34) (m : Nat) (x y : Fin (m + 1)) : Bool := decide (Lx cs (ofF m x) (ofF m y))
theorem ltF_swo (cs : List S34) (m : Nat) (hg : ∀ x : Fin (m + 1), Good (rd_T34 cs (ofF m x))) : SWO (ltF cs m) := by
  have tot : ∀ x y : Fin (m + 1), ltF cs m x y = false → ltF cs m y x = true ∨ x = y := fun x y h => by
    by_cases e : x = y
    · exact .inr e
    · left
      have : ofF m x ≠ ofF m y := fun h => e (Fin.ext (by unfold ofF at h; omega))
      rcases Lx_total cs _ _ this with h1 | h1
      · exact absurd h1 (of_decide_eq_false h)
      · exact decide_eq_true h1
  have trans : ∀ x y z, ltF cs m x y = true → ltF cs m y z = true → ltF cs m x z = true := fun x y z h1 h2 => decide_eq_true (Lx_trans cs _ _ _ (hg x) (hg y) (hg z) (of_decide_eq_true h1) (of_decide_eq_true h2))
  refine ⟨fun x => decide_eq_false (Lx_irrefl cs _), trans, fun x y z h1 h2 => ?_⟩
  have h3 : ltF cs m z x = true ∨ x = z := by
    rcases tot x y h1 with a | a
    · rcases tot y z h2 with b | b
      · exact .inl (trans z y x b a)
      · exact .inl (b ▸ a)
    · rcases tot y z h2 with b | b
      · exact .inl (a ▸ b)
      · exact .inr (a.trans b)
  rcases h3 with h3 | h3
  · exact decide_eq_false (Lx_asymm cs _ _ (of_decide_eq_true h3))
  · rw [h3]
    exact decide_eq_false (Lx_irrefl cs _)
theorem ofF_toF (m : Nat) (x : Int) (h : 0 ≤ x ∧ x < (m : Int) + 1) : ofF m (toF m x) = x := by
  unfold ofF toF
  show ((min x.toNat m : Nat) : Int) = x
  omega
theorem sortM_spec (cs : List S34) (m : Nat) (ss : List Int) (hg : ∀ x : Fin (m + 1), Good (rd_T34 cs (ofF m x))) (hin : ∀ x ∈ ss, 0 ≤ x ∧ x < (m : Int) + 1) (hinc : List.Pairwise (· < ·) ss) :
    (sortM cs m ss).Perm ss ∧ List.Pairwise (Lx cs) (sortM cs m ss) := by
  have hsz : ((ss.map (toF m)).toArray).size = ss.length := by simp
  have hget : ∀ k (h : k < ss.length), ((ss.map (toF m)).toArray)[k]! = toF m ss[k] := fun k h => by
    rw [getElem!_pos _ k (by simpa using h)]
    simp
  have hsame := sort_same (ltOf (cfF cs m)) (ltF cs m) (fun x : Fin (m + 1) => x.val) (fun x y hxy => by
    unfold ltOf ltF cfF
    have hv := cmpv_val (rd_T34 cs ((x.val : Nat) : Int)) (rd_T34 cs ((y.val : Nat) : Int)) (hg x) (hg y)
    rw [hv]
    by_cases h : num (rd_T34 cs ((x.val : Nat) : Int)) * den (rd_T34 cs ((y.val : Nat) : Int)) < num (rd_T34 cs ((y.val : Nat) : Int)) * den (rd_T34 cs ((x.val : Nat) : Int))
    · rw [if_pos h, decide_eq_true (show (-1 : Int) < 0 by decide), decide_eq_true (show Lx cs (ofF m x) (ofF m y) from .inl h)]
    · have hn : ¬ Lx cs (ofF m x) (ofF m y) := fun e => by
        rcases e with e | e
        · exact h e
        · have := e.2
          unfold ofF at this
          omega
      rw [if_neg h, decide_eq_false hn]
      refine decide_eq_false ?_
      split <;> omega) (ss.map (toF m)).toArray (fun k j hk hj => by
    rw [hsz] at hj
    rw [hget k (by omega), hget j hj]
    have h1 := List.pairwise_iff_getElem.mp hinc k j (by omega) hj hk
    have h2 := hin ss[k] (List.getElem_mem _)
    have h3 := hin ss[j] (List.getElem_mem _)
    show min ss[k].toNat m < min ss[j].toNat m
    omega)
  rw [hsz] at hsame
  obtain ⟨⟨p1, _, p3⟩, srt⟩ := Go.Sort.insertionSort_holds (ltF_swo cs m hg) (ss.map (toF m)).toArray 0 ss.length (Nat.zero_le _) (by omega)
  unfold sortM
  rw [hsame]
  generalize insertionSort (ltF cs m) (ss.map (toF m)).toArray 0 ss.length = d at p1 p3 srt
  rw [hsz] at p1
  have hd : d.toList.Perm (ss.map (toF m)) := by
    have e1 : (d.extract 0 ss.length).toList = d.toList := by rw [← p1, Array.extract_size]
    have e2 : ((ss.map (toF m)).toArray.extract 0 ss.length).toList = ss.map (toF m) := by rw [← hsz, Array.extract_size]
    rw [e1, e2] at p3
    exact p3
  have hback : (ss.map (toF m)).map (ofF m) = ss := by
    rw [List.map_map]
    refine (List.map_congr_left fun x hx => ?_).trans (List.map_id ss)
    exact ofF_toF m x (hin x hx)
  have hp : (d.toList.map (ofF m)).Perm ss := by
    have := hd.map (ofF m)
    rw [hback] at this
    exact this
  refine ⟨hp, ?_⟩
  have hnd : (d.toList.map (ofF m)).Nodup := by
    refine hp.nodup_iff.mpr (hinc.imp fun {a b} h => ?_)
    omega
  rw [List.pairwise_iff_getElem]
  intro i j hi hj hij
  rw [List.length_map, Array.length_toList, p1] at hi hj
  have hs := srt i j (Nat.zero_le _) hij hj
  rw [getElem!_pos d j (by omega), getElem!_pos d i (by omega)] at hs
  have hne : (d.toList.map (ofF m))[i]'(by simp; omega) ≠ (d.toList.map (ofF m))[j]'(by simp; omega) := List.pairwise_iff_getElem.mp hnd i j (by simp; omega) (by simp; omega) hij
  rw [List.getElem_map, List.getElem_map, Array.getElem_toList, Array.getElem_toList] at hne ⊢
  rcases Lx_total cs _ _ hne with h | h
  · exact h
  · exact absurd h (of_decide_eq_false hs)
/-- The judge's sort of a rising row of channels. -/
theorem sortI_spec (cs : List S34) (ss : List Int) (lc : cs.length = 16) (hg : ∀ j : Nat, j < 16 → Good (rd_T34 cs (j : Int))) (hin : ∀ x ∈ ss, 0 ≤ x ∧ x < 16) (hinc : List.Pairwise (· < ·) ss) :
    (sortI cs ss).Perm ss ∧ List.Pairwise (Lx cs) (sortI cs ss) := by
  unfold sortI
  by_cases h : ss.length ≤ 1
  · rw [if_pos h]
    refine ⟨List.Perm.refl _, ?_⟩
    match ss, h with
    | [], _ => exact List.Pairwise.nil
    | [a], _ => exact List.pairwise_singleton _ _
  · rw [if_neg h, lc]
    exact sortM_spec cs 15 ss (fun x => hg x.val (by have := x.isLt; omega)) (fun x hx => by have := hin x hx; omega) hinc
end Go.Proofs.Ytnipgplobipeeaa.PureS
