/-
  The plain law QualityOrder: what a learner has counted depends on the notes' tally alone. No condition beyond the law's own bounds.
-/
import Derived.Test.YtnipgplobipeeaaClose
import Derived.Test.YtnipgplobipeeaaZf9
namespace Go.Proofs.Ytnipgplobipeeaa.PureO
open Go.RowKit Go.Proofs.Ytnipgplobipeeaa.PQ Go.Proofs.Ytnipgplobipeeaa.PureB Go.Proofs.YtnipgplobipeeaaW.PrintWords Go.Proofs.YtnipgplobipeeaaW.PrintLast Go.Proofs.YtnipgplobipeeaaW.PrintMore

theorem ext_rd : ∀ (a b : List Int), a.length = b.length → (∀ j : Nat, j < a.length → rd a (j : Int) = rd b (j : Int)) → a = b := by
  intro a b hl h
  refine List.ext_getElem hl fun j h1 h2 => ?_
  have := h j h1
  unfold rd at this
  rw [List.getD_eq_getElem?_getD, List.getD_eq_getElem?_getD, show ((j : Nat) : Int).toNat = j by omega, List.getElem?_eq_getElem h1, List.getElem?_eq_getElem h2] at this
  exact this
theorem equal_loop (a b : List Int) (hl : a.length = b.length) (h20 : a.length ≤ 20) : ∀ (n i k : Nat), i + n = a.length →
    (slices_Equal_int_int.l0 (n + 1 + k) a b (a.length : Int) (i : Int) = some true ∧ ∀ j : Nat, i ≤ j → j < a.length → rd a (j : Int) = rd b (j : Int)) ∨
    (slices_Equal_int_int.l0 (n + 1 + k) a b (a.length : Int) (i : Int) = some false ∧ a ≠ b)
  | 0, i, k, hi => by
    left
    refine ⟨?_, fun j h1 h2 => by omega⟩
    rw [show 0 + 1 + k = k + 1 by omega]
    unfold slices_Equal_int_int.l0
    rw [if_neg (by omega)]
  | n + 1, i, k, hi => by
    rw [show n + 1 + 1 + k = (n + 1 + k) + 1 by omega]
    unfold slices_Equal_int_int.l0
    rw [if_pos (by omega), if_pos (by omega), if_pos (by omega), if_pos (by omega), wrap_nat i (by omega)]
    by_cases h : rd a (i : Int) = rd b (i : Int)
    · rw [if_pos h]
      rcases equal_loop a b hl h20 n (i + 1) k (by omega) with ⟨x, y⟩ | ⟨x, y⟩
      · refine .inl ⟨x, fun j h1 h2 => ?_⟩
        rcases Nat.lt_or_ge i j with h3 | h3
        · exact y j (by omega) h2
        · rw [show j = i by omega]
          exact h
      · exact .inr ⟨x, y⟩
    · rw [if_neg h]
      exact .inr ⟨rfl, fun e => h (by rw [e])⟩
theorem equal_val (k : Nat) (a b : List Int) (ha : a.length = 16) (hb : b.length = 16) : slices_Equal_int_int.f (k + 20) a b = some (decide (a = b)) := by
  unfold slices_Equal_int_int.f
  rw [if_pos (by omega)]
  have := equal_loop a b (by omega) (by omega) 16 0 (k + 3) (by omega)
  rw [show k + 20 = 16 + 1 + (k + 3) by omega]
  rcases this with ⟨x, y⟩ | ⟨x, y⟩
  · rw [decide_eq_true (ext_rd a b (by omega) fun j hj => y j (Nat.zero_le _) hj)]
    exact x
  · rw [decide_eq_false y]
    exact x
abbrev Res : Type := Int × List S34 × List Int × List Int × Int
def err (e : Int) : Option Res := some (0, [], [], [], e)
/-- The counts of both, channel by channel from i on. -/
def go (R : Int) (cs ds : List S34) (us hs : List Int) : Nat → Nat → List S34 → Option Res
  | 0, _, acc => some (R, acc, us, hs, 0)
  | n + 1, i, acc => if (rd_T34 cs (i : Int)).f0 + (rd_T34 ds (i : Int)).f0 > 1073741824 then err 13 else go R cs ds us hs n (i + 1) (acc.set i ⟨(rd_T34 cs (i : Int)).f0 + (rd_T34 ds (i : Int)).f0, (rd_T34 cs (i : Int)).f1 + (rd_T34 ds (i : Int)).f1⟩)
theorem set_two (l : List S34) (i : Nat) (a b : S34) : (l.set i a).set i b = l.set i b := List.set_set ..
theorem mine (R R2 : Int) (cs ds : List S34) (us hs us2 hs2 : List Int) (hc : ∀ j : Nat, j < 16 → quality_Check.f (rd_T34 cs (j : Int)).f0 (rd_T34 cs (j : Int)).f1 = some 0) (hd : ∀ j : Nat, j < 16 → quality_Check.f (rd_T34 ds (j : Int)).f0 (rd_T34 ds (j : Int)).f1 = some 0) (ld : ds.length = 16) :
    ∀ (n i k : Nat) (acc : List S34), i + n = 16 → acc.length = 16 → (∀ j : Nat, i ≤ j → j < 16 → rd_T34 acc (j : Int) = rd_T34 cs (j : Int)) →
      quality_Merge.l0 (n + 1 + k) 16 (i : Int) R2 ds us2 hs2 R acc us hs = go R cs ds us hs n i acc
  | 0, i, k, acc, hi, la, ha => by
    rw [show 0 + 1 + k = k + 1 by omega]
    unfold quality_Merge.l0
    rw [if_neg (by omega)]
    rfl
  | n + 1, i, k, acc, hi, la, ha => by
    have h1 := check_zero (hc i (by omega))
    have h2 := check_zero (hd i (by omega))
    have e := ha i (Nat.le_refl _) (by omega)
    rw [show n + 1 + 1 + k = (n + 1 + k) + 1 by omega]
    unfold quality_Merge.l0 go
    rw [if_pos (by omega), if_pos (by omega), if_pos (by omega), if_pos (by omega), e, wrap_in ((rd_T34 cs (i : Int)).f0 + (rd_T34 ds (i : Int)).f0) (by omega)]
    simp only [Option.bind_some]
    rw [rd_set acc i _ (by omega)]
    simp only []
    rw [wrap_in ((rd_T34 cs (i : Int)).f1 + (rd_T34 ds (i : Int)).f1) (by omega), check_sum (by omega), Option.bind_some, wrap_nat i (by omega), show ((i : Nat) : Int).toNat = i by omega, set_two]
    by_cases hb : (rd_T34 cs (i : Int)).f0 + (rd_T34 ds (i : Int)).f0 > 1073741824
    · rw [if_pos hb, if_pos hb, if_neg (by decide)]
      rfl
    · rw [if_neg hb, if_neg hb, if_pos rfl]
      refine mine R R2 cs ds us hs us2 hs2 hc hd ld n (i + 1) k _ (by omega) (by rw [List.length_set]; exact la) fun j hj1 hj2 => ?_
      rw [← ha j (by omega) hj2]
      have := rd_set_ne acc i j ⟨(rd_T34 cs (i : Int)).f0 + (rd_T34 ds (i : Int)).f0, (rd_T34 cs (i : Int)).f1 + (rd_T34 ds (i : Int)).f1⟩ (by omega)
      rw [show ((i : Nat) : Int).toNat = i by omega] at this
      exact this
def cp (j : Nat) (l : List Int) : Nat := l.countP fun n => decide (n % 16 = (j : Int))
def cq (j : Nat) (l : List Int) : Nat := l.countP fun n => decide (n % 16 = (j : Int)) && decide (n ≥ 128)
/-- The counts of sixteen channels behind these notes. -/
def T (l : List Int) : List S34 := (List.range 16).map fun j => ⟨(cp j l : Int), (cq j l : Int)⟩
def Z : List Int := List.replicate 16 0
theorem T_len (l : List Int) : (T l).length = 16 := by unfold T; simp
theorem T_get (l : List Int) (j : Nat) (h : j < (T l).length) : (T l)[j] = ⟨(cp j l : Int), (cq j l : Int)⟩ := by simp only [T, List.getElem_map, List.getElem_range]
theorem at_get (l : List S34) (j : Nat) (h : j < l.length) : rd_T34 l (j : Int) = l[j] := by
  unfold rd_T34
  rw [List.getD_eq_getElem?_getD, show ((j : Nat) : Int).toNat = j by omega, List.getElem?_eq_getElem h]
  rfl
theorem T_at (l : List Int) (j : Nat) (h : j < 16) : rd_T34 (T l) (j : Int) = ⟨(cp j l : Int), (cq j l : Int)⟩ := by
  rw [at_get _ _ (by rw [T_len]; exact h), T_get]
theorem cp_snoc (j : Nat) (l : List Int) (n : Int) : cp j (l ++ [n]) = cp j l + (if n % 16 = (j : Int) then 1 else 0) := by
  unfold cp
  rw [List.countP_append, List.countP_singleton]
  by_cases h : n % 16 = (j : Int)
  · rw [if_pos h, decide_eq_true h]; rfl
  · rw [if_neg h, decide_eq_false h]; rfl
theorem cq_snoc (j : Nat) (l : List Int) (n : Int) : cq j (l ++ [n]) = cq j l + (if n % 16 = (j : Int) ∧ n ≥ 128 then 1 else 0) := by
  unfold cq
  rw [List.countP_append, List.countP_singleton]
  by_cases h : n % 16 = (j : Int)
  · by_cases h2 : n ≥ 128
    · simp [h, h2]
    · simp [h, h2]
  · simp [h]
theorem T_snoc (l : List Int) (n : Int) (c : Nat) (hc : n % 16 = (c : Int)) : (T l).set c ⟨(cp c l : Int) + 1, (cq c l : Int) + (if n ≥ 128 then 1 else 0)⟩ = T (l ++ [n]) := by
  refine List.ext_getElem (by rw [List.length_set, T_len, T_len]) fun j h1 h2 => ?_
  rw [List.getElem_set, T_get (l ++ [n]), cp_snoc, cq_snoc]
  by_cases h : c = j
  · subst h
    rw [if_pos rfl, if_pos hc]
    by_cases h3 : n ≥ 128
    · rw [if_pos h3, if_pos ⟨hc, h3⟩]; rfl
    · rw [if_neg h3, if_neg (fun e => h3 e.2)]; rfl
  · rw [if_neg h, T_get, if_neg (by omega), if_neg (fun e => h (by omega))]
    rfl
theorem cp_le (j : Nat) (l : List Int) : cp j l ≤ l.length := List.countP_le_length
theorem cq_le (j : Nat) (l : List Int) : cq j l ≤ cp j l := List.countP_mono_left fun n _ h => by
  rw [Bool.and_eq_true] at h
  exact h.1
theorem T_rev (l : List Int) : T l.reverse = T l := by
  unfold T
  refine List.map_congr_left fun j _ => ?_
  unfold cp cq
  rw [List.countP_reverse, List.countP_reverse]
theorem Z_at (j : Nat) : rd Z (j : Int) = 0 := by
  unfold rd Z
  rw [List.getD_eq_getElem?_getD, List.getElem?_replicate]
  split <;> rfl
theorem hold0 : quality_hold.f 0 = some true := by kernel_rfl
theorem okT (l : List Int) (h : l.length ≤ 60) : Ok 0 (T l) Z Z := by
  refine ⟨by decide, T_len l, rfl, rfl, fun j hj => ?_⟩
  rw [T_at l j hj, Z_at]
  refine ⟨?_, hold0, .inl rfl⟩
  have h1 := cp_le j l
  have h2 := cq_le j l
  show quality_Check.f (cp j l : Int) (cq j l : Int) = some 0
  rw [check_sum (by omega), if_neg (by omega)]
theorem note_val (k : Nat) (l : List Int) (n : Int) (hl : l.length < 60) (hn : 0 ≤ n ∧ n < 256) :
    quality_Note.f (k + 20) 0 (T l) Z Z (Int.tmod (wrap64 n) 16) (decide (n ≥ 128)) = some (0, T (l ++ [n]), Z, Z, 0) := by
  have ho := okT l (by omega)
  obtain ⟨c, hc⟩ : ∃ c : Nat, n % 16 = (c : Int) := ⟨(n % 16).toNat, by omega⟩
  have h16 : c < 16 := by omega
  have e : Int.tmod (wrap64 n) 16 = (c : Int) := by rw [wrap_in n (by omega), Int.tmod_eq_emod_of_nonneg hn.1]; exact hc
  have h1 := cp_le c l
  have h2 := cq_le c l
  unfold quality_Note.f
  rw [valid_ok k 0 (T l) Z Z ho, Option.bind_some, if_pos rfl, e, if_neg (by omega), if_neg (by omega), if_pos (by omega), if_pos (by rw [T_len]; omega), T_at l c h16, clone_val 0 (T l) Z Z (T_len l) rfl rfl]
  unfold quality_Add.f
  simp only []
  rw [check_sum (by omega), if_neg (by omega), Option.bind_some, if_pos rfl, if_neg (by omega), wrap_in ((cp c l : Int) + 1) (by omega)]
  have ts := T_snoc l n c hc
  by_cases h3 : n ≥ 128
  · rw [decide_eq_true h3, if_pos rfl, wrap_in ((cq c l : Int) + 1) (by omega)]
    rw [if_pos h3] at ts
    simp only [Option.bind_some, if_true]
    rw [if_pos (by rw [T_len]; omega), show ((c : Nat) : Int).toNat = c by omega, ts]
  · rw [decide_eq_false h3, if_neg (by decide)]
    rw [if_neg h3, Int.add_zero] at ts
    simp only [Option.bind_some, if_true]
    rw [if_pos (by rw [T_len]; omega), show ((c : Nat) : Int).toNat = c by omega, ts]
theorem go_sum (R : Int) (cs ds : List S34) (us hs : List Int) (hsum : ∀ j : Nat, j < 16 → (rd_T34 cs (j : Int)).f0 + (rd_T34 ds (j : Int)).f0 ≤ 1073741824) : ∀ (n i : Nat) (acc : List S34), i + n = 16 → acc.length = 16 →
    ∃ r, go R cs ds us hs n i acc = some (R, r, us, hs, 0) ∧ r.length = 16 ∧ ∀ j : Nat, j < 16 → rd_T34 r (j : Int) = if j < i then rd_T34 acc (j : Int) else ⟨(rd_T34 cs (j : Int)).f0 + (rd_T34 ds (j : Int)).f0, (rd_T34 cs (j : Int)).f1 + (rd_T34 ds (j : Int)).f1⟩
  | 0, i, acc, hi, la => ⟨acc, rfl, la, fun j hj => by rw [if_pos (by omega)]⟩
  | n + 1, i, acc, hi, la => by
    obtain ⟨r, h1, h2, h3⟩ := go_sum R cs ds us hs hsum n (i + 1) (acc.set i ⟨(rd_T34 cs (i : Int)).f0 + (rd_T34 ds (i : Int)).f0, (rd_T34 cs (i : Int)).f1 + (rd_T34 ds (i : Int)).f1⟩) (by omega) (by rw [List.length_set]; exact la)
    refine ⟨r, ?_, h2, fun j hj => ?_⟩
    · unfold go
      rw [if_neg (by have := hsum i (by omega); omega)]
      exact h1
    · rw [h3 j hj]
      rcases Nat.lt_trichotomy j i with h | h | h
      · rw [if_pos (by omega), if_pos h, at_get _ _ (by rw [List.length_set]; omega), at_get acc _ (by omega), List.getElem_set_ne (by omega)]
      · subst h
        rw [if_pos (by omega), if_neg (by omega), at_get _ _ (by rw [List.length_set]; omega), List.getElem_set_self]
      · rw [if_neg (by omega), if_neg (by omega)]
theorem ext_at (a b : List S34) (h : a.length = b.length) (e : ∀ j : Nat, j < a.length → rd_T34 a (j : Int) = rd_T34 b (j : Int)) : a = b := by
  refine List.ext_getElem h fun j h1 h2 => ?_
  have := e j h1
  rw [at_get a j h1, at_get b j h2] at this
  exact this
theorem merge_gen (k : Nat) (R : Int) (cs ds : List S34) (us hs : List Int) (ou : Ok R cs us hs) (ov : Ok R ds us hs) (r : List S34) (h1 : go R cs ds us hs 16 0 cs = some (R, r, us, hs, 0)) : quality_Merge.f (k + 60) R cs us hs R ds us hs = some (R, r, us, hs, 0) := by
  have v1 := valid_ok (k + 40) R cs us hs ou
  have v2 := valid_ok (k + 40) R ds us hs ov
  rw [show k + 40 + 20 = k + 60 by omega] at v1 v2
  have hq := equal_val (k + 39) us us ou.lu ou.lu
  have hq2 := equal_val (k + 39) hs hs ou.lh ou.lh
  rw [decide_eq_true rfl, show k + 39 + 20 = k + 59 by omega] at hq hq2
  unfold quality_Merge.f
  rw [v1, v2]
  simp only [Option.bind_some, if_true]
  rw [show k + 60 = (k + 59) + 1 by omega]
  unfold quality_Merge.j0
  simp only [bne_self_eq_false, Bool.false_eq_true, if_false, if_true]
  rw [hq, hq2, clone_val R cs us hs ou.lc ou.lu ou.lh]
  simp only [Option.bind_some, if_true]
  have hm := mine R R cs ds us hs us hs (fun j hj => (ou.each j hj).1) (fun j hj => (ov.each j hj).1) ov.lc 16 0 (k + 42) cs rfl ou.lc (fun _ _ _ => rfl)
  rw [show 16 + 1 + (k + 42) = k + 59 by omega, h1] at hm
  have hl : (cs.length : Int) = 16 := by rw [ou.lc]; rfl
  rw [hl]
  exact hm
theorem merge_val (k : Nat) (u v : List Int) (h : u.length + v.length ≤ 60) : quality_Merge.f (k + 60) 0 (T u) Z Z 0 (T v) Z Z = some (0, T (u ++ v), Z, Z, 0) := by
  have ou := okT u (by omega)
  have ov := okT v (by omega)
  have hsum : ∀ j : Nat, j < 16 → (rd_T34 (T u) (j : Int)).f0 + (rd_T34 (T v) (j : Int)).f0 ≤ 1073741824 := fun j hj => by
    rw [T_at u j hj, T_at v j hj]
    have h1 := cp_le j u
    have h2 := cp_le j v
    show (cp j u : Int) + (cp j v : Int) ≤ _
    omega
  obtain ⟨r, h1, h2, h3⟩ := go_sum 0 (T u) (T v) Z Z hsum 16 0 (T u) rfl (T_len u)
  have hr : r = T (u ++ v) := ext_at _ _ (by rw [h2, T_len]) fun j hj => by
    rw [h3 j (by omega), if_neg (Nat.not_lt_zero j), T_at u j (by omega), T_at v j (by omega), T_at (u ++ v) j (by omega)]
    unfold cp cq
    rw [List.countP_append, List.countP_append]
    simp
  rw [hr] at h1
  exact merge_gen k 0 (T u) (T v) Z Z ou ov _ h1
theorem rd_at (l : List Int) (i : Nat) (h : i < l.length) : rd l (i : Int) = l[i] := by
  unfold rd
  rw [List.getD_eq_getElem?_getD, show ((i : Nat) : Int).toNat = i by omega, List.getElem?_eq_getElem h]
  rfl
theorem last (k : Nat) (win low high least R : Int) (cs : List S34) (us hs : List Int) (l1 : cs.length ≤ 20) (l2 : us.length ≤ 20) (l3 : hs.length ≤ 20) : hopmeshlaw12_QualityOrder.j1 (k + 201) false win low high least R cs us hs R cs us hs = some true := by
  rw [show k + 201 = (k + 200) + 1 by omega]
  unfold hopmeshlaw12_QualityOrder.j1
  simp only [Bool.false_eq_true, if_false]
  rw [PureC.closed_val k win low high least R cs us hs l1 l2 l3]
  obtain ⟨f1, f2, f3⟩ := PureC.close_fits win low high least R cs us hs
  generalize PureC.closeR win low high least R cs us hs = v at f1 f2 f3
  simp only [Option.bind_some, if_true]
  have := same_val (k + 130) v.1 _ _ _ f1 f2 f3
  rw [show k + 130 + 70 = k + 200 by omega] at this
  rw [this, Option.bind_some]
section
variable (L : List Int) (s : Nat) (a1 win low high least : Int) (t : List Int → List S34) (z : List Int)
theorem loop (hL : L.length ≤ 60) (hn : ∀ x ∈ L, 0 ≤ x ∧ x < 256) (hs : Int.tmod (wrap64 a1) (wrap64 ((L.length : Int) + 1)) = (s : Int)) (hsl : s ≤ L.length)
    (hN : ∀ (k : Nat) (l : List Int) (n : Int), l.length < 60 → 0 ≤ n ∧ n < 256 → quality_Note.f (k + 20) 0 (t l) z z (Int.tmod (wrap64 n) 16) (decide (n ≥ 128)) = some (0, t (l ++ [n]), z, z, 0))
    (hM : ∀ (k : Nat) (u v : List Int), u.length + v.length ≤ 60 → quality_Merge.f (k + 60) 0 (t u) z z 0 (t v) z z = some (0, t (u ++ v), z, z, 0))
    (hT : ∀ l, t l.reverse = t l) (hlt : ∀ l, (t l).length ≤ 20) (hlz : z.length ≤ 20) : ∀ (n i k : Nat), i + n = L.length →
    hopmeshlaw12_QualityOrder.l0 (n + 1 + (k + 201)) L a1 L (L.length : Int) (i : Int) win low high least 0 (t (L.take i)) z z 0 (t (L.reverse.take i)) z z 0 (t (L.take (min i s))) z z 0 (t ((L.take i).drop s)) z z = some true := by
  intro n
  induction n with
  | zero =>
    intro i k hi
    rw [show 0 + 1 + (k + 201) = (k + 201) + 1 by omega]
    unfold hopmeshlaw12_QualityOrder.l0
    have e1 : L.take i = L := List.take_of_length_le (by omega)
    have e2 : L.reverse.take i = L.reverse := List.take_of_length_le (by simp; omega)
    rw [if_neg (by omega), e1, e2, show min i s = s by omega, hT]
    have hm := hM (k + 141) (L.take s) (L.drop s) (by simp; omega)
    rw [show k + 141 + 60 = k + 201 by omega, List.take_append_drop] at hm
    have hsame := same_val (k + 131) 0 (t L) z z (hlt L) hlz hlz
    rw [show k + 131 + 70 = k + 201 by omega] at hsame
    rw [hm, Option.bind_some, if_pos rfl, hsame, Option.bind_some, if_pos rfl, Option.bind_some]
    exact last k win low high least 0 (t L) z z (hlt L) hlz hlz
  | succ n ih0 =>
    intro i k hi
    have ih := ih0 (i + 1) k (by omega)
    have hri : i < L.reverse.length := by rw [List.length_reverse]; omega
    have hx := hn L[i] (List.getElem_mem _)
    have hy := hn (L.reverse[i]'hri) (List.mem_reverse.mp (List.getElem_mem _))
    have t1 : L.take (i + 1) = L.take i ++ [L[i]] := List.take_succ_eq_append_getElem (by omega)
    have t2 : L.reverse.take (i + 1) = L.reverse.take i ++ [L.reverse[i]'hri] := List.take_succ_eq_append_getElem hri
    have ei : wrap64 ((wrap64 ((L.length : Int) - 1)) - (i : Int)) = ((L.length - 1 - i : Nat) : Int) := by rw [wrap_in ((L.length : Int) - 1) (by omega), wrap_in _ (by omega)]; omega
    have er : rd L ((L.length - 1 - i : Nat) : Int) = L.reverse[i]'hri := by rw [rd_at L _ (by omega), List.getElem_reverse]
    have n1 := hN (n + 182 + k) (L.take i) L[i] (by rw [List.length_take]; omega) hx
    have n2 := hN (n + 182 + k) (L.reverse.take i) (L.reverse[i]'hri) (by rw [List.length_take, List.length_reverse]; omega) hy
    have n3 := hN (n + 182 + k) (L.take (min i s)) L[i] (by rw [List.length_take]; omega) hx
    have n4 := hN (n + 182 + k) ((L.take i).drop s) L[i] (by rw [List.length_drop, List.length_take]; omega) hx
    rw [show n + 182 + k + 20 = n + 1 + (k + 201) by omega] at n1 n2 n3 n4
    rw [show n + 1 + 1 + (k + 201) = (n + 1 + (k + 201)) + 1 by omega]
    unfold hopmeshlaw12_QualityOrder.l0
    rw [if_pos (show (i : Int) < (L.length : Int) by omega), if_pos (show (0 : Int) ≤ (i : Int) by omega), if_pos (show (i : Int) < (L.length : Int) by omega), rd_at L i (by omega), n1, Option.bind_some, if_pos rfl]
    rw [ei, if_pos (show (0 : Int) ≤ ((L.length - 1 - i : Nat) : Int) by omega), if_pos (show ((L.length - 1 - i : Nat) : Int) < (L.length : Int) by omega), er, n2, Option.bind_some, if_pos rfl]
    rw [if_neg (show ¬ wrap64 ((L.length : Int) + 1) = 0 by rw [wrap_in _ (by omega)]; omega), hs, wrap_nat i (by omega), ← t1, ← t2]
    by_cases h : (i : Int) ≥ (s : Int)
    · rw [if_pos h, n4, Option.bind_some, if_pos rfl]
      have e3 : (L.take i).drop s ++ [L[i]] = (L.take (i + 1)).drop s := by rw [t1, List.drop_append_of_le_length (by rw [List.length_take]; omega)]
      rw [e3]
      rw [show min (i + 1) s = min i s by omega] at ih
      exact ih
    · rw [if_neg h, n3, Option.bind_some, if_pos rfl]
      have e3 : L.take (min i s) ++ [L[i]] = L.take (min (i + 1) s) := by rw [show min i s = i by omega, show min (i + 1) s = i + 1 by omega, t1]
      have e4 : (L.take (i + 1)).drop s = (L.take i).drop s := by rw [List.drop_eq_nil_of_le (by rw [List.length_take]; omega), List.drop_eq_nil_of_le (by rw [List.length_take]; omega)]
      rw [e3]
      rw [e4] at ih
      exact ih
end
section
variable (L : List Int) (s : Nat) (a1 win low high least : Int)
theorem awake100 : hopmeshlaw12_awake.f 100 = some true := by kernel_rfl
theorem awake400 : hopmeshlaw12_awake.f 400 = some true := at_rounds hopmeshlaw12_awake.mono (by decide) awake100
theorem order (hn : ∀ x ∈ L, 0 ≤ x ∧ x < 256) (ha : 0 ≤ a1 ∧ a1 < 256) : hopmeshlaw12_QualityOrder.f 400 L a1 win low high least = some true := by
  unfold hopmeshlaw12_QualityOrder.f
  rw [awake400, Option.bind_some, if_pos rfl]
  by_cases hL : (L.length : Int) > 60
  · rw [if_pos hL]
  · rw [if_neg hL]
    have hnew : quality_New.f = some (0, T [], Z, Z) := by
      rw [show T [] = List.replicate 16 z34 from ext_at _ _ (by rw [T_len]; rfl) fun j hj => by rw [T_len] at hj; rw [T_at _ j hj, at_get _ _ (by simpa using hj), List.getElem_replicate]; rfl]
      rfl
    rw [hnew, Option.bind_some, Option.bind_some, Option.bind_some, Option.bind_some]
    have hw1 : wrap64 a1 = a1 := wrap_in _ (by omega)
    have hw2 : wrap64 ((L.length : Int) + 1) = (L.length : Int) + 1 := wrap_in _ (by omega)
    have hmod := Int.emod_nonneg a1 (show (L.length : Int) + 1 ≠ 0 by omega)
    have hmod2 := Int.emod_lt_of_pos a1 (show 0 < (L.length : Int) + 1 by omega)
    have hs : Int.tmod (wrap64 a1) (wrap64 ((L.length : Int) + 1)) = (((a1 % ((L.length : Int) + 1)).toNat : Nat) : Int) := by
      rw [hw1, hw2, Int.tmod_eq_emod_of_nonneg ha.1]
      omega
    have := loop L (a1 % ((L.length : Int) + 1)).toNat a1 win low high least T Z (by omega) hn hs (by omega) note_val merge_val T_rev (fun l => by rw [T_len]; decide) (by decide) L.length 0 (198 - L.length) (by omega)
    rw [show L.length + 1 + (198 - L.length + 201) = 400 by omega] at this
    simp only [List.take_zero, Nat.zero_min, List.drop_nil] at this
    exact this
end
theorem order_walk (A : Option Addr) (c : Nat) (l : List Int) (a1 m0 m1 m2 m3 : Int) (w : World) (r : Kd.C (Kd.int .u8) w A l.length l) (g : l.length ≤ c) (hn : ∀ x ∈ l, 0 ≤ x ∧ x < 256) (ha : 0 ≤ a1 ∧ a1 < 256) :
    Calls Try.prog 9 #[.slice A l.length c, .int .u8 a1, .agg #[.int .i64 m0, .int .i64 m1, .int .i64 m2, .int .i64 m3]] w fun e w' => e = .returned (.bool true) ∧ Below w.heap.size w w' :=
  hopmeshlaw12_QualityOrder.calls 400 A c l a1 m0 m1 m2 m3 true w r g (order l a1 m0 m1 m2 m3 hn ha)
end Go.Proofs.Ytnipgplobipeeaa.PureO
