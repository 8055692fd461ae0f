/-
  The plain law QualityMerges: the two printed Merges answer alike for any two learners. No condition.
-/
import Derived.Test.YtnipgplobipeeaaBase
import Derived.Test.YtnipgplobipeeaaZf6
namespace Go.Proofs.Ytnipgplobipeeaa.PureM
open Go.RowKit Go.Proofs.Ytnipgplobipeeaa.PQ Go.Proofs.Ytnipgplobipeeaa.PureB Go.Proofs.YtnipgplobipeeaaW.PrintWords Go.Proofs.YtnipgplobipeeaaW.PrintLast Go.Proofs.YtnipgplobipeeaaW.PrintMore

theorem ext_rd : ∀ (a b : List Int), a.length = b.length → (∀ j : Nat, j < a.length → rd a (j : Int) = rd b (j : Int)) → a = b := by
  intro a b hl h
  refine List.ext_getElem hl fun j h1 h2 => ?_
  have := h j h1
  unfold rd at this
  rw [List.getD_eq_getElem?_getD, List.getD_eq_getElem?_getD, show ((j : Nat) : Int).toNat = j by omega, List.getElem?_eq_getElem h1, List.getElem?_eq_getElem h2] at this
  exact this
theorem equal_loop (a b : List Int) (hl : a.length = b.length) (h20 : a.length ≤ 20) : ∀ (n i k : Nat), i + n = a.length →
    (slices_Equal_int_int.l0 (n + 1 + k) a b (a.length : Int) (i : Int) = some true ∧ ∀ j : Nat, i ≤ j → j < a.length → rd a (j : Int) = rd b (j : Int)) ∨
    (slices_Equal_int_int.l0 (n + 1 + k) a b (a.length : Int) (i : Int) = some false ∧ a ≠ b)
  | 0, i, k, hi => by
    left
    refine ⟨?_, fun j h1 h2 => by omega⟩
    rw [show 0 + 1 + k = k + 1 by omega]
    unfold slices_Equal_int_int.l0
    rw [if_neg (by omega)]
  | n + 1, i, k, hi => by
    rw [show n + 1 + 1 + k = (n + 1 + k) + 1 by omega]
    unfold slices_Equal_int_int.l0
    rw [if_pos (by omega), if_pos (by omega), if_pos (by omega), if_pos (by omega), wrap_nat i (by omega)]
    by_cases h : rd a (i : Int) = rd b (i : Int)
    · rw [if_pos h]
      rcases equal_loop a b hl h20 n (i + 1) k (by omega) with ⟨x, y⟩ | ⟨x, y⟩
      · refine .inl ⟨x, fun j h1 h2 => ?_⟩
        rcases Nat.lt_or_ge i j with h3 | h3
        · exact y j (by omega) h2
        · rw [show j = i by omega]
          exact h
      · exact .inr ⟨x, y⟩
    · rw [if_neg h]
      exact .inr ⟨rfl, fun e => h (by rw [e])⟩
theorem equal_val (k : Nat) (a b : List Int) (ha : a.length = 16) (hb : b.length = 16) : slices_Equal_int_int.f (k + 20) a b = some (decide (a = b)) := by
  unfold slices_Equal_int_int.f
  rw [if_pos (by omega)]
  have := equal_loop a b (by omega) (by omega) 16 0 (k + 3) (by omega)
  rw [show k + 20 = 16 + 1 + (k + 3) by omega]
  rcases this with ⟨x, y⟩ | ⟨x, y⟩
  · rw [decide_eq_true (ext_rd a b (by omega) fun j hj => y j (Nat.zero_le _) hj)]
    exact x
  · rw [decide_eq_false y]
    exact x
abbrev Res : Type := Int × List S34 × List Int × List Int × Int
def err (e : Int) : Option Res := some (0, [], [], [], e)
/-- The counts of both, channel by channel from i on. -/
def go (R : Int) (cs ds : List S34) (us hs : List Int) : Nat → Nat → List S34 → Option Res
  | 0, _, acc => some (R, acc, us, hs, 0)
  | n + 1, i, acc => if (rd_T34 cs (i : Int)).f0 + (rd_T34 ds (i : Int)).f0 > 1073741824 then err 13 else go R cs ds us hs n (i + 1) (acc.set i ⟨(rd_T34 cs (i : Int)).f0 + (rd_T34 ds (i : Int)).f0, (rd_T34 cs (i : Int)).f1 + (rd_T34 ds (i : Int)).f1⟩)
theorem set_two (l : List S34) (i : Nat) (a b : S34) : (l.set i a).set i b = l.set i b := List.set_set ..
theorem mine (R R2 : Int) (cs ds : List S34) (us hs us2 hs2 : List Int) (hc : ∀ j : Nat, j < 16 → quality_Check.f (rd_T34 cs (j : Int)).f0 (rd_T34 cs (j : Int)).f1 = some 0) (hd : ∀ j : Nat, j < 16 → quality_Check.f (rd_T34 ds (j : Int)).f0 (rd_T34 ds (j : Int)).f1 = some 0) (ld : ds.length = 16) :
    ∀ (n i k : Nat) (acc : List S34), i + n = 16 → acc.length = 16 → (∀ j : Nat, i ≤ j → j < 16 → rd_T34 acc (j : Int) = rd_T34 cs (j : Int)) →
      quality_Merge.l0 (n + 1 + k) 16 (i : Int) R2 ds us2 hs2 R acc us hs = go R cs ds us hs n i acc
  | 0, i, k, acc, hi, la, ha => by
    rw [show 0 + 1 + k = k + 1 by omega]
    unfold quality_Merge.l0
    rw [if_neg (by omega)]
    rfl
  | n + 1, i, k, acc, hi, la, ha => by
    have h1 := check_zero (hc i (by omega))
    have h2 := check_zero (hd i (by omega))
    have e := ha i (Nat.le_refl _) (by omega)
    rw [show n + 1 + 1 + k = (n + 1 + k) + 1 by omega]
    unfold quality_Merge.l0 go
    rw [if_pos (by omega), if_pos (by omega), if_pos (by omega), if_pos (by omega), e, wrap_in ((rd_T34 cs (i : Int)).f0 + (rd_T34 ds (i : Int)).f0) (by omega)]
    simp only [Option.bind_some]
    rw [rd_set acc i _ (by omega)]
    simp only []
    rw [wrap_in ((rd_T34 cs (i : Int)).f1 + (rd_T34 ds (i : Int)).f1) (by omega), check_sum (by omega), Option.bind_some, wrap_nat i (by omega), show ((i : Nat) : Int).toNat = i by omega, set_two]
    by_cases hb : (rd_T34 cs (i : Int)).f0 + (rd_T34 ds (i : Int)).f0 > 1073741824
    · rw [if_pos hb, if_pos hb, if_neg (by decide)]
      rfl
    · rw [if_neg hb, if_neg hb, if_pos rfl]
      refine mine R R2 cs ds us hs us2 hs2 hc hd ld n (i + 1) k _ (by omega) (by rw [List.length_set]; exact la) fun j hj1 hj2 => ?_
      rw [← ha j (by omega) hj2]
      have := rd_set_ne acc i j ⟨(rd_T34 cs (i : Int)).f0 + (rd_T34 ds (i : Int)).f0, (rd_T34 cs (i : Int)).f1 + (rd_T34 ds (i : Int)).f1⟩ (by omega)
      rw [show ((i : Nat) : Int).toNat = i by omega] at this
      exact this
theorem theirs (R R2 : Int) (cs ds : List S34) (us hs us2 hs2 : List Int) (hc : ∀ j : Nat, j < 16 → quality_Check.f (rd_T34 cs (j : Int)).f0 (rd_T34 cs (j : Int)).f1 = some 0) (hd : ∀ j : Nat, j < 16 → quality_Check.f (rd_T34 ds (j : Int)).f0 (rd_T34 ds (j : Int)).f1 = some 0) (lc : cs.length = 16) (ld : ds.length = 16) :
    ∀ (n i k : Nat) (acc : List S34), i + n = 16 → acc.length = 16 →
      hopmeshref12_Merge.l1 (n + 1 + k) (i : Int) R cs us hs R2 ds us2 hs2 R acc us hs = go R cs ds us hs n i acc
  | 0, i, k, acc, hi, la => by
    rw [show 0 + 1 + k = k + 1 by omega]
    unfold hopmeshref12_Merge.l1
    rw [if_neg (by omega)]
    rfl
  | n + 1, i, k, acc, hi, la => by
    have h1 := check_zero (hc i (by omega))
    have h2 := check_zero (hd i (by omega))
    rw [show n + 1 + 1 + k = (n + 1 + k) + 1 by omega]
    unfold hopmeshref12_Merge.l1 go
    rw [if_pos (by omega), if_pos (by omega), if_pos (by omega), if_pos (by omega), if_pos (by omega), wrap_in ((rd_T34 cs (i : Int)).f0 + (rd_T34 ds (i : Int)).f0) (by omega)]
    simp only [Option.bind_some]
    rw [rd_set acc i _ (by omega)]
    simp only []
    rw [wrap_in ((rd_T34 cs (i : Int)).f1 + (rd_T34 ds (i : Int)).f1) (by omega), wrap_nat i (by omega), show ((i : Nat) : Int).toNat = i by omega, set_two]
    by_cases hb : (rd_T34 cs (i : Int)).f0 + (rd_T34 ds (i : Int)).f0 > 1073741824
    · rw [if_pos hb, if_pos hb]
      rfl
    · rw [if_neg hb, if_neg hb]
      exact theirs R R2 cs ds us _ us2 hs2 hc hd lc ld n (i + 1) k _ (by omega) (by rw [List.length_set]; exact la)
theorem their_cmp (R R2 : Int) (cs ds : List S34) (us hs us2 hs2 : List Int) (l1 : us.length = 16) (l2 : hs.length = 16) (l3 : us2.length = 16) (l4 : hs2.length = 16)
    (hcopy : hopmeshref12_Copy.f R cs us hs = some (R, cs, us, hs)) :
    ∀ (n i k : Nat), i + n = 16 → (∀ j : Nat, j < i → rd us (j : Int) = rd us2 (j : Int)) → (∀ j : Nat, j < i → rd hs (j : Int) = rd hs2 (j : Int)) →
      (us = us2 ∧ hs = hs2 ∧ hopmeshref12_Merge.l0 (n + 1 + k) (i : Int) R cs us hs R2 ds us2 hs2 = hopmeshref12_Merge.l1 k 0 R cs us hs R2 ds us2 hs2 R cs us hs) ∨
      (¬ (us = us2 ∧ hs = hs2) ∧ hopmeshref12_Merge.l0 (n + 1 + k) (i : Int) R cs us hs R2 ds us2 hs2 = err 11)
  | 0, i, k, hi, hu, hh => by
    left
    refine ⟨ext_rd us us2 (by omega) fun j hj => hu j (by omega), ext_rd hs hs2 (by omega) fun j hj => hh j (by omega), ?_⟩
    rw [show 0 + 1 + k = k + 1 by omega]
    unfold hopmeshref12_Merge.l0
    rw [if_neg (by omega), hcopy, Option.bind_some]
  | n + 1, i, k, hi, hu, hh => by
    rw [show n + 1 + 1 + k = (n + 1 + k) + 1 by omega]
    unfold hopmeshref12_Merge.l0
    rw [if_pos (by omega), if_pos (by omega), if_pos (by omega), if_pos (by omega), wrap_nat i (by omega)]
    by_cases h1 : rd us (i : Int) = rd us2 (i : Int)
    · rw [if_pos h1, if_pos (by omega), if_pos (by omega)]
      by_cases h2 : rd hs (i : Int) = rd hs2 (i : Int)
      · rw [if_pos h2]
        refine their_cmp R R2 cs ds us hs us2 hs2 l1 l2 l3 l4 hcopy n (i + 1) k (by omega) (fun j hj => ?_) (fun j hj => ?_)
        · rcases Nat.lt_or_ge j i with h | h
          · exact hu j h
          · rw [show j = i by omega]; exact h1
        · rcases Nat.lt_or_ge j i with h | h
          · exact hh j h
          · rw [show j = i by omega]; exact h2
      · rw [if_neg h2]
        exact .inr ⟨fun e => h2 (by rw [e.2]), rfl⟩
    · rw [if_neg h1]
      exact .inr ⟨fun e => h1 (by rw [e.1]), rfl⟩
def Fits (v : Res) : Prop := v.2.1.length ≤ 20 ∧ v.2.2.1.length ≤ 20 ∧ v.2.2.2.1.length ≤ 20
theorem go_fits (R : Int) (cs ds : List S34) (us hs : List Int) (l1 : us.length = 16) (l2 : hs.length = 16) : ∀ (n i : Nat) (acc : List S34), acc.length = 16 → ∃ v, go R cs ds us hs n i acc = some v ∧ Fits v
  | 0, i, acc, la => ⟨_, rfl, by show acc.length ≤ 20; omega, by show us.length ≤ 20; omega, by show hs.length ≤ 20; omega⟩
  | n + 1, i, acc, la => by
    unfold go
    split
    · exact ⟨_, rfl, Nat.zero_le _, Nat.zero_le _, Nat.zero_le _⟩
    · exact go_fits R cs ds us hs l1 l2 n (i + 1) _ (by rw [List.length_set]; exact la)
theorem err_fits (e : Int) : ∃ v, err e = some v ∧ Fits v := ⟨_, rfl, Nat.zero_le _, Nat.zero_le _, Nat.zero_le _⟩
theorem alike (R R2 : Int) (cs ds : List S34) (us hs us2 hs2 : List Int) : ∃ v : Res, quality_Merge.f 200 R cs us hs R2 ds us2 hs2 = some v ∧ hopmeshref12_Merge.f 200 R cs us hs R2 ds us2 hs2 = some v ∧ Fits v := by
  have bad1 : quality_Merge.j0 200 true R cs us hs R2 ds us2 hs2 = err 1 := by unfold quality_Merge.j0; rfl
  have bad2 : hopmeshref12_Merge.j0 200 true R cs us hs R2 ds us2 hs2 = err 1 := by unfold hopmeshref12_Merge.j0; rfl
  unfold quality_Merge.f hopmeshref12_Merge.f
  have va := valid_dec 180 R cs us hs
  have vb := valid_dec 180 R2 ds us2 hs2
  have ra := rvalid_dec 140 R cs us hs
  have rb := rvalid_dec 140 R2 ds us2 hs2
  rw [show 180 + 20 = 200 from rfl] at va vb
  rw [show 140 + 60 = 200 from rfl] at ra rb
  rw [va, ra]
  simp only [Option.bind_some]
  by_cases oa : Ok R cs us hs
  · rw [if_pos oa, if_pos rfl, if_pos rfl, vb, rb]
    simp only [Option.bind_some]
    by_cases ob : Ok R2 ds us2 hs2
    · rw [if_pos ob]
      show ∃ v, quality_Merge.j0 (199 + 1) (0 != 0) R cs us hs R2 ds us2 hs2 = some v ∧ hopmeshref12_Merge.j0 (199 + 1) (0 != 0) R cs us hs R2 ds us2 hs2 = some v ∧ Fits v
      unfold quality_Merge.j0 hopmeshref12_Merge.j0
      simp only [bne_self_eq_false, Bool.false_eq_true, if_false]
      by_cases hR : R = R2
      · rw [if_pos hR, if_pos hR]
        have hq := equal_val 179 us us2 oa.lu ob.lu
        have hq2 := equal_val 179 hs hs2 oa.lh ob.lh
        rw [show 179 + 20 = 199 from rfl] at hq hq2
        rw [hq, hq2]
        have hcl := clone_val R cs us hs oa.lc oa.lu oa.lh
        have hcp := copy_val R cs us hs (by have := oa.lc; omega) (by have := oa.lu; omega) (by have := oa.lh; omega)
        have ht := their_cmp R R2 cs ds us hs us2 hs2 oa.lu oa.lh ob.lu ob.lh hcp 16 0 182 rfl (fun j hj => absurd hj (Nat.not_lt_zero _)) (fun j hj => absurd hj (Nat.not_lt_zero _))
        rw [show 16 + 1 + 182 = 199 from rfl] at ht
        simp only [Option.bind_some, decide_eq_true_eq]
        rcases ht with ⟨e1, e2, ht⟩ | ⟨ne, ht⟩
        · rw [if_pos e1, if_pos e2, hcl]
          simp only [Option.bind_some]
          have hc := fun j hj => (oa.each j hj).1
          have hd := fun j hj => (ob.each j hj).1
          have hm := mine R R2 cs ds us hs us2 hs2 hc hd ob.lc 16 0 182 cs rfl oa.lc (fun _ _ _ => rfl)
          have hth := theirs R R2 cs ds us hs us2 hs2 hc hd oa.lc ob.lc 16 0 165 cs rfl oa.lc
          obtain ⟨v, hv, hf⟩ := go_fits R cs ds us hs oa.lu oa.lh 16 0 cs oa.lc
          have lc : (cs.length : Int) = 16 := by have := oa.lc; omega
          refine ⟨v, ?_, ?_, hf⟩
          · rw [lc]
            exact hm.trans hv
          · exact ht.trans (hth.trans hv)
        · obtain ⟨v, hv, hf⟩ := err_fits 11
          refine ⟨v, ?_, ht.trans hv, hf⟩
          rw [← hv]
          by_cases e1 : us = us2
          · rw [if_pos e1, if_neg fun e2 => ne ⟨e1, e2⟩]
            rfl
          · rw [if_neg e1]
            rfl
      · rw [if_neg hR, if_neg hR]
        obtain ⟨v, hv, hf⟩ := err_fits 11
        exact ⟨v, hv, hv, hf⟩
    · rw [if_neg ob]
      obtain ⟨v, hv, hf⟩ := err_fits 1
      exact ⟨v, bad1.trans hv, bad2.trans hv, hf⟩
  · rw [if_neg oa, if_neg (by decide), if_neg (by decide)]
    obtain ⟨v, hv, hf⟩ := err_fits 1
    exact ⟨v, bad1.trans hv, bad2.trans hv, hf⟩
theorem awake200 : hopmeshlaw12_awake.f 200 = some true := by kernel_rfl
theorem news : quality_New.f = hopmeshref12_New.f := rfl
theorem stop (k : Nat) (R R2 : Int) (cs ds : List S34) (us hs us2 hs2 : List Int) : hopmeshlaw12_QualityMerges.j0 (k + 1) true R cs us hs R2 ds us2 hs2 = some true := by
  unfold hopmeshlaw12_QualityMerges.j0
  rfl
theorem more (k : Nat) (R R2 : Int) (cs ds : List S34) (us hs us2 hs2 : List Int) (r : Res) : ∀ n, quality_Merge.f k R cs us hs R2 ds us2 hs2 = some r → quality_Merge.f (k + n) R cs us hs R2 ds us2 hs2 = some r
  | 0, h => h
  | n + 1, h => quality_Merge.mono R cs us hs R2 ds us2 hs2 (k + n) r (more k R R2 cs ds us hs us2 hs2 r n h)
theorem merges (R R2 : Int) (cs ds : List S34) (us hs us2 hs2 : List Int) : hopmeshlaw12_QualityMerges.f 201 R cs us hs R2 ds us2 hs2 = some true := by
  unfold hopmeshlaw12_QualityMerges.f
  rw [show hopmeshlaw12_awake.f 201 = some true from by kernel_rfl]
  simp only [Option.bind_some, if_true]
  rw [few_val, few_val]
  simp only [Option.bind_some, decide_eq_true_eq]
  by_cases hf : cs.length ≤ 20 ∧ us.length ≤ 20 ∧ hs.length ≤ 20
  · rw [if_pos hf]
    by_cases hg : ds.length ≤ 20 ∧ us2.length ≤ 20 ∧ hs2.length ≤ 20
    · rw [decide_eq_true hg, show 201 = 200 + 1 from rfl]
      unfold hopmeshlaw12_QualityMerges.j0
      simp only [Bool.not_true, Bool.false_eq_true, if_false]
      rw [copy_val R cs us hs hf.1 hf.2.1 hf.2.2, Option.bind_some, copy_val R2 ds us2 hs2 hg.1 hg.2.1 hg.2.2, Option.bind_some]
      obtain ⟨⟨v0, v1, v2, v3, v4⟩, h1, h2, f1, f2, f3⟩ := alike R R2 cs ds us hs us2 hs2
      simp only []
      rw [h1, h2]
      simp only [Option.bind_some]
      have hsame := same_val 130 v0 v1 v2 v3 f1 f2 f3
      rw [show 130 + 70 = 200 from rfl] at hsame
      rw [hsame]
      simp only [Option.bind_some, if_true]
      have hn : hopmeshref12_New.f = some (0, List.replicate 16 z34, List.replicate 16 0, List.replicate 16 0) := by kernel_rfl
      rw [news, hn]
      simp only [Option.bind_some]
      have hs2 := same_val 130 0 (List.replicate 16 z34) (List.replicate 16 0) (List.replicate 16 0) (by simp) (by simp) (by simp)
      rw [show 130 + 70 = 200 from rfl] at hs2
      rw [hs2]
      rfl
    · rw [decide_eq_false hg]
      exact stop 200 _ _ _ _ _ _ _ _
  · rw [if_neg hf]
    exact stop 200 _ _ _ _ _ _ _ _
theorem merges_walk (n : Int) (A1 : Option Addr) (c1 : Nat) (l1 : List S34) (A2 : Option Addr) (c2 : Nat) (l2 : List Int) (A3 : Option Addr) (c3 : Nat) (l3 : List Int)
    (m : Int) (B1 : Option Addr) (d1 : Nat) (k1 : List S34) (B2 : Option Addr) (d2 : Nat) (k2 : List Int) (B3 : Option Addr) (d3 : Nat) (k3 : List Int) (w : World)
    (r1 : Kd.C k34 w A1 l1.length l1) (g1 : l1.length ≤ c1) (r2 : Kd.C (Kd.int .i64) w A2 l2.length l2) (g2 : l2.length ≤ c2) (r3 : Kd.C (Kd.int .i64) w A3 l3.length l3) (g3 : l3.length ≤ c3)
    (s1 : Kd.C k34 w B1 k1.length k1) (e1 : k1.length ≤ d1) (s2 : Kd.C (Kd.int .i64) w B2 k2.length k2) (e2 : k2.length ≤ d2) (s3 : Kd.C (Kd.int .i64) w B3 k3.length k3) (e3 : k3.length ≤ d3) :
    Calls Try.prog 6 #[.agg #[.int .i64 n, .slice A1 l1.length c1, .slice A2 l2.length c2, .slice A3 l3.length c3], .agg #[.int .i64 m, .slice B1 k1.length d1, .slice B2 k2.length d2, .slice B3 k3.length d3]] w fun e w' => e = .returned (.bool true) ∧ Below w.heap.size w w' :=
  hopmeshlaw12_QualityMerges.calls 201 n A1 c1 l1 A2 c2 l2 A3 c3 l3 m B1 d1 k1 B2 d2 k2 B3 d3 k3 true w r1 g1 r2 g2 r3 g3 s1 e1 s2 e2 s3 e3 (merges n m l1 k1 l2 l3 k2 k3)
end Go.Proofs.Ytnipgplobipeeaa.PureM
