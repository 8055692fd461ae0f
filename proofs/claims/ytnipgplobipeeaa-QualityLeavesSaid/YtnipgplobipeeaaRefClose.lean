/-
  The reference's Close answers what the program's Close answers, for any learner and rules. No condition.
-/
import Derived.Test.YtnipgplobipeeaaSorted
import Derived.Test.YtnipgplobipeeaaZf37
namespace Go.Proofs.Ytnipgplobipeeaa.PureL
open Go.RowKit Go.Proofs.Ytnipgplobipeeaa.PQ Go.Proofs.Ytnipgplobipeeaa.PureB Go.Proofs.Ytnipgplobipeeaa.PureC Go.Proofs.Ytnipgplobipeeaa.PureS Go.Proofs.YtnipgplobipeeaaW.PrintWords Go.Proofs.YtnipgplobipeeaaW.PrintLast Go.Proofs.YtnipgplobipeeaaW.PrintMore

theorem free_loop (R : Int) (cs : List S34) (us hs : List Int) (lu : us.length = 16) : ∀ (n i k f : Nat), i + n = 16 → f ≤ i →
    hopmeshref12_free.l0 (n + 1 + k) (f : Int) (i : Int) R cs us hs = some ((f + zeros us n i : Nat) : Int)
  | 0, i, k, f, hi, hf => by
    rw [show 0 + 1 + k = k + 1 by omega]
    unfold hopmeshref12_free.l0 zeros
    rw [if_neg (by omega)]
    rfl
  | n + 1, i, k, f, hi, hf => by
    rw [show n + 1 + 1 + k = (n + 1 + k) + 1 by omega]
    unfold hopmeshref12_free.l0 zeros
    rw [if_pos (by omega), if_pos (by omega), if_pos (by omega), wrap_nat i (by omega)]
    by_cases h : rd us (i : Int) = 0
    · rw [if_pos h, if_pos h, wrap_nat f (by omega), free_loop R cs us hs lu n (i + 1) k (f + 1) (by omega) (by omega), Nat.add_assoc]
    · rw [if_neg h, if_neg h, free_loop R cs us hs lu n (i + 1) k f (by omega) (by omega), Nat.zero_add]
theorem free_val (k : Nat) (R : Int) (cs : List S34) (us hs : List Int) (lu : us.length = 16) : hopmeshref12_free.f (k + 20) R cs us hs = some ((zeros us 16 0 : Nat) : Int) := by
  unfold hopmeshref12_free.f
  have := free_loop R cs us hs lu 16 0 (k + 3) 0 rfl (Nat.le_refl _)
  rw [show 16 + 1 + (k + 3) = k + 20 by omega, Nat.zero_add] at this
  exact this
/-! ### The worst channel -/
structure IsBest (p : Nat → Bool) (cs : List S34) (n b : Nat) : Prop where
  ok : p b = true
  lt : b < n
  best : ∀ j, j < n → p j = true → j ≠ b → Lx cs (b : Int) (j : Int)
theorem best_one (p : Nat → Bool) (cs : List S34) (n b c : Nat) (h : IsBest p cs n b) (h2 : IsBest p cs n c) : b = c := by
  by_cases e : b = c
  · exact e
  · exact absurd (h2.best b h.lt h.ok e) (Lx_asymm cs _ _ (h.best c h2.lt h2.ok (fun x => e x.symm)))
def Inv (p : Nat → Bool) (cs : List S34) (i : Nat) (w : Int) : Prop := (w = -1 ∧ ∀ j, j < i → p j = false) ∨ ∃ b : Nat, w = (b : Int) ∧ IsBest p cs i b
theorem inv_skip (p : Nat → Bool) (cs : List S34) (i : Nat) (w : Int) (h : Inv p cs i w) (hp : p i = false) : Inv p cs (i + 1) w := by
  rcases h with ⟨h1, h2⟩ | ⟨b, h1, h2⟩
  · refine .inl ⟨h1, fun j hj => ?_⟩
    rcases Nat.lt_or_ge j i with h | h
    · exact h2 j h
    · rw [show j = i by omega]; exact hp
  · refine .inr ⟨b, h1, h2.ok, by have := h2.lt; omega, fun j hj hpj hne => ?_⟩
    rcases Nat.lt_or_ge j i with h | h
    · exact h2.best j h hpj hne
    · rw [show j = i by omega, hp] at hpj; cases hpj
theorem rrate (c : S34) : hopmeshref12_rate.f c.f0 c.f1 = some (rateV c) := rate_some c
theorem rless (a b : S34) (ha : PureS.Good a) (hb : PureS.Good b) : hopmeshref12_less.f a.f0 a.f1 b.f0 b.f1 = some (decide (num a * den b < num b * den a)) := by
  have m1 := den_in a ha
  have m2 := den_in b hb
  have p1 := prod_in (num a) (den b) ⟨m1.2.2.1, m1.2.2.2⟩ ⟨m2.1, m2.2.1⟩
  have p2 := prod_in (num b) (den a) ⟨m2.2.2.1, m2.2.2.2⟩ ⟨m1.1, m1.2.1⟩
  unfold hopmeshref12_less.f
  rw [show wrap64 (a.f1 * mx b.f0 1) = num a * den b from wrap_in (num a * den b) (by omega), show wrap64 (b.f1 * mx a.f0 1) = num b * den a from wrap_in (num b * den a) (by omega)]
theorem worst_loop (R win low : Int) (cs : List S34) (us hs : List Int) (lc : cs.length = 16) (lu : us.length = 16) (hg : ∀ j : Nat, j < 16 → PureS.Good (rd_T34 cs (j : Int))) : ∀ (n i k : Nat) (w : Int), i + n = 16 → Inv (isBad win low cs us) cs i w →
    ∃ v, hopmeshref12_worst.l0 (2 * n + 1 + k) win low w (i : Int) R cs us hs = some v ∧ Inv (isBad win low cs us) cs 16 v
  | 0, i, k, w, hi, hv => by
    rw [show 2 * 0 + 1 + k = k + 1 by omega]
    unfold hopmeshref12_worst.l0
    rw [if_neg (by omega)]
    rw [show i = 16 by omega] at hv
    exact ⟨w, rfl, hv⟩
  | n + 1, i, k, w, hi, hv => by
    rw [show 2 * (n + 1) + 1 + k = (2 * n + 1 + k) + 1 + 1 by omega]
    unfold hopmeshref12_worst.l0
    rw [if_pos (by omega), if_pos (by omega), if_pos (by omega)]
    have skip : isBad win low cs us i = false → ∃ v, hopmeshref12_worst.j1 (2 * n + 1 + k + 1) win low w (i : Int) true R cs us hs = some v ∧ Inv (isBad win low cs us) cs 16 v := fun h => by
      unfold hopmeshref12_worst.j1
      rw [if_pos rfl, wrap_nat i (by omega)]
      exact worst_loop R win low cs us hs lc lu hg n (i + 1) k w (by omega) (inv_skip _ cs i w hv h)
    by_cases h0 : rd us (i : Int) = 0
    · rw [if_pos h0, if_pos (by omega)]
      by_cases hw : (rd_T34 cs (i : Int)).f0 < win
      · rw [if_pos hw]
        exact skip (by unfold isBad isOpen; rw [decide_eq_true hw]; simp)
      · rw [if_neg hw, rrate, Option.bind_some]
        by_cases h1 : rateV (rd_T34 cs (i : Int)) ≥ low
        · rw [decide_eq_true h1]
          exact skip (by unfold isBad; rw [decide_eq_false (show ¬ rateV (rd_T34 cs (i : Int)) < low by omega)]; simp)
        · rw [decide_eq_false h1]
          have hb : isBad win low cs us i = true := by unfold isBad isOpen; rw [decide_eq_true h0, decide_eq_false hw, decide_eq_true (show rateV (rd_T34 cs (i : Int)) < low by omega)]; rfl
          unfold hopmeshref12_worst.j1
          simp only [Bool.false_eq_true, if_false]
          rw [wrap_nat i (by omega)]
          rcases hv with ⟨e1, e2⟩ | ⟨b, e1, e2⟩
          · rw [if_pos (show w < 0 by omega)]
            exact worst_loop R win low cs us hs lc lu hg n (i + 1) k (i : Int) (by omega) (.inr ⟨i, rfl, hb, by omega, fun j hj hp hne => by
              rw [e2 j (by omega)] at hp
              cases hp⟩)
          · have hbi := e2.lt
            subst e1
            rw [if_neg (by omega), if_pos (by omega), if_pos (by omega), if_pos (by omega), if_pos (by omega), rless _ _ (hg i (by omega)) (hg b (by omega)), Option.bind_some]
            by_cases h2 : num (rd_T34 cs (i : Int)) * den (rd_T34 cs (b : Int)) < num (rd_T34 cs (b : Int)) * den (rd_T34 cs (i : Int))
            · rw [decide_eq_true h2, if_pos rfl]
              refine worst_loop R win low cs us hs lc lu hg n (i + 1) k (i : Int) (by omega) (.inr ⟨i, rfl, hb, by omega, fun j hj hp hne => ?_⟩)
              by_cases e : j = b
              · subst e
                exact .inl h2
              · exact Lx_trans cs _ _ _ (hg i (by omega)) (hg b (by omega)) (hg j (by omega)) (.inl h2) (e2.best j (by omega) hp e)
            · rw [decide_eq_false h2, if_neg (by decide)]
              refine worst_loop R win low cs us hs lc lu hg n (i + 1) k (b : Int) (by omega) (.inr ⟨b, rfl, e2.ok, by omega, fun j hj hp hne => ?_⟩)
              rcases Nat.lt_or_ge j i with h | h
              · exact e2.best j h hp hne
              · rw [show j = i by omega]
                unfold Lx
                omega
    · rw [if_neg h0]
      exact skip (by unfold isBad isOpen; rw [decide_eq_false h0]; rfl)
theorem worst_val (k : Nat) (R win low : Int) (cs : List S34) (us hs : List Int) (lc : cs.length = 16) (lu : us.length = 16) (hg : ∀ j : Nat, j < 16 → PureS.Good (rd_T34 cs (j : Int))) :
    ∃ v, hopmeshref12_worst.f (k + 40) R cs us hs win low = some v ∧ Inv (isBad win low cs us) cs 16 v := by
  unfold hopmeshref12_worst.f
  have := worst_loop R win low cs us hs lc lu hg 16 0 (k + 7) (-1) rfl (.inl ⟨rfl, fun j hj => absurd hj (Nat.not_lt_zero _)⟩)
  rw [show 2 * 16 + 1 + (k + 7) = k + 40 by omega] at this
  exact this
/-! ### What blacklisting leaves -/
theorem rd_set (l : List Int) (i : Nat) (v : Int) (h : i < l.length) : rd (l.set i v) (i : Int) = v := by
  rw [rd_at _ _ (by rw [List.length_set]; exact h), List.getElem_set_self]
theorem rd_set_ne (l : List Int) (i j : Nat) (v : Int) (h : i ≠ j) : rd (l.set i v) (j : Int) = rd l (j : Int) := by
  unfold rd
  rw [List.getD_eq_getElem?_getD, List.getD_eq_getElem?_getD, show ((j : Nat) : Int).toNat = j by omega, List.getElem?_set_ne h]
def newHold (h : Int) : Int := mn (mx (wrap64 (2 * h)) 1) 64
theorem newHold_in (h : Int) : 1 ≤ newHold h ∧ newHold h ≤ 64 := by
  unfold newHold mn mx
  split <;> split <;> omega
theorem punish_cons (R : Int) (i : Nat) (t us hs : List Int) (hi : i < hs.length) : punish R ((i : Int) :: t) us hs = punish R t (us.set i (wrap64 (wrap64 (R + 1) + newHold (rd hs (i : Int))))) (hs.set i (newHold (rd hs (i : Int)))) := by
  have e := rd_set hs i (newHold (rd hs (i : Int))) hi
  unfold newHold at e
  show punish R t (us.set ((i : Int)).toNat (wrap64 (wrap64 (R + 1) + (rd (hs.set ((i : Int)).toNat _) (i : Int))))) (hs.set ((i : Int)).toNat _) = _
  rw [show ((i : Nat) : Int).toNat = i by omega, e]
  rfl
theorem punish_snoc (R : Int) (i : Nat) : ∀ (q us hs : List Int), i < hs.length → punish R (q ++ [(i : Int)]) us hs = ((punish R q us hs).1.set i (wrap64 (wrap64 (R + 1) + newHold (rd (punish R q us hs).2 (i : Int)))), (punish R q us hs).2.set i (newHold (rd (punish R q us hs).2 (i : Int))))
  | [], us, hs, hi => by rw [List.nil_append, punish_cons R i [] us hs hi]; rfl
  | x :: q, us, hs, hi => by
    show punish R (q ++ [(i : Int)]) _ _ = _
    rw [punish_snoc R i q _ _ (by rw [List.length_set]; exact hi)]
    rfl
theorem punish_out (R : Int) (j : Nat) : ∀ (q us hs : List Int), (∀ x ∈ q, 0 ≤ x) → (j : Int) ∉ q → rd (punish R q us hs).1 (j : Int) = rd us (j : Int)
  | [], us, hs, _, _ => rfl
  | x :: q, us, hs, h0, hj => by
    have hx := h0 x List.mem_cons_self
    show rd (punish R q _ _).1 (j : Int) = _
    rw [punish_out R j q _ _ (fun y hy => h0 y (List.mem_cons_of_mem _ hy)) (fun h => hj (List.mem_cons_of_mem _ h)), rd_set_ne _ _ _ _ (fun e => hj (by rw [← e, show ((x.toNat : Nat) : Int) = x by omega]; exact List.mem_cons_self))]
theorem punish_in (R : Int) (hR : 0 ≤ R ∧ R ≤ 1073741823) (j : Nat) : ∀ (q us hs : List Int), us.length = 16 → hs.length = 16 → (∀ x ∈ q, 0 ≤ x ∧ x < 16) → (j : Int) ∈ q → rd (punish R q us hs).1 (j : Int) ≠ 0
  | x :: q, us, hs, lu, lh, h0, hj => by
    have hx := h0 x List.mem_cons_self
    by_cases h : (j : Int) ∈ q
    · show rd (punish R q _ _).1 (j : Int) ≠ 0
      exact punish_in R hR j q _ _ (by rw [List.length_set]; exact lu) (by rw [List.length_set]; exact lh) (fun y hy => h0 y (List.mem_cons_of_mem _ hy)) h
    · have e : x = (j : Int) := ((List.mem_cons.mp hj).resolve_right h).symm
      subst e
      have nh := newHold_in (rd hs (j : Int))
      rw [punish_cons R j q us hs (by omega), punish_out R j q _ _ (fun y hy => (h0 y (List.mem_cons_of_mem _ hy)).1) h, rd_set _ _ _ (by omega), wrap_in (R + 1) (by omega), wrap_in _ (by omega)]
      omega
theorem zeros_set (us : List Int) (i : Nat) (v : Int) (hi : i < us.length) (h0 : rd us (i : Int) = 0) (hv : v ≠ 0) : ∀ (n s : Nat), zeros (us.set i v) n s + (if s ≤ i ∧ i < s + n then 1 else 0) = zeros us n s
  | 0, s => by
    unfold zeros
    rw [if_neg (by omega)]
  | n + 1, s => by
    have ih := zeros_set us i v hi h0 hv n (s + 1)
    unfold zeros
    by_cases e : s = i
    · subst e
      rw [rd_set us s v hi, if_neg hv, if_pos h0, if_pos (by omega)]
      rw [if_neg (by omega)] at ih
      omega
    · rw [rd_set_ne us i s v (fun h => e h.symm)]
      by_cases h : s ≤ i ∧ i < s + (n + 1)
      · rw [if_pos h]
        rw [if_pos (by omega)] at ih
        omega
      · rw [if_neg h]
        rw [if_neg (by omega)] at ih
        omega
theorem pick_inc (p : Nat → Bool) : ∀ n i, List.Pairwise (· < ·) (pick p n i)
  | 0, _ => List.Pairwise.nil
  | n + 1, i => by
    unfold pick
    split
    · refine List.Pairwise.cons (fun x hx => ?_) (pick_inc p n (i + 1))
      obtain ⟨j, rfl, h, _, _⟩ := (pick_mem p x n (i + 1)).mp hx
      omega
    · exact pick_inc p n (i + 1)
theorem zeros_eq (us : List Int) (i : Nat) (v : Int) (hi : i < 16) (lu : us.length = 16) (h0 : rd us (i : Int) = 0) (hv : v ≠ 0) : zeros (us.set i v) 16 0 + 1 = zeros us 16 0 := by
  have := zeros_set us i v (by omega) h0 hv 16 0
  rw [if_pos (by omega)] at this
  exact this
section
variable (R win low high least : Int) (cs : List S34) (us hs : List Int)
def PL : List Int := sortI cs (bads win low cs us)
theorem pl_spec (ok : Ok R cs us hs) : (PL win low cs us).Perm (bads win low cs us) ∧ List.Pairwise (Lx cs) (PL win low cs us) :=
  sortI_spec cs _ ok.lc (fun j hj => (ok.each j hj).1) (bads_in win low cs us) (pick_inc _ 16 0)
theorem pl_mem (ok : Ok R cs us hs) (j : Nat) : (j : Int) ∈ PL win low cs us ↔ j < 16 ∧ isBad win low cs us j = true := by
  rw [(pl_spec R win low cs us hs ok).1.mem_iff]
  unfold bads
  rw [pick_mem]
  constructor
  · rintro ⟨i, e, _, h1, h2⟩
    have : i = j := by omega
    subst this
    exact ⟨by omega, h2⟩
  · rintro ⟨h1, h2⟩
    exact ⟨j, rfl, Nat.zero_le _, by omega, h2⟩
theorem pl_in : ∀ x ∈ PL win low cs us, cs.length = 16 → 0 ≤ x ∧ x < 16 := fun x hx lc => sortI_in cs _ lc (bads_in win low cs us) x hx
/-- The bad channels behind blacklisting the first t ones. -/
theorem bad_st (ok : Ok R cs us hs) (hR : R ≤ 1073741823) (t j : Nat) : isBad win low cs (punish R ((PL win low cs us).take t) us hs).1 j = true ↔ isBad win low cs us j = true ∧ (j : Int) ∉ (PL win low cs us).take t := by
  have hin : ∀ x ∈ (PL win low cs us).take t, 0 ≤ x ∧ x < 16 := fun x hx => pl_in win low cs us x (List.mem_of_mem_take hx) ok.lc
  by_cases h : (j : Int) ∈ (PL win low cs us).take t
  · have := punish_in R ⟨ok.r.1, hR⟩ j _ us hs ok.lu ok.lh hin h
    have e : isBad win low cs (punish R ((PL win low cs us).take t) us hs).1 j = false := by unfold isBad isOpen; rw [decide_eq_false this]; rfl
    rw [e]
    exact ⟨fun h => (by cases h), fun h2 => absurd h h2.2⟩
  · have := punish_out R j _ us hs (fun x hx => (hin x hx).1) h
    unfold isBad isOpen
    rw [this]
    exact ⟨fun h2 => ⟨h2, h⟩, fun h2 => h2.1⟩
theorem step_worst (ok : Ok R cs us hs) (hR : R ≤ 1073741823) (t : Nat) (ht : t < (PL win low cs us).length) (v : Int) (hv : Inv (isBad win low cs (punish R ((PL win low cs us).take t) us hs).1) cs 16 v) : v = (PL win low cs us)[t] := by
  have hsp := pl_spec R win low cs us hs ok
  have hin := pl_in win low cs us _ (List.getElem_mem ht) ok.lc
  obtain ⟨b, hb⟩ : ∃ b : Nat, (PL win low cs us)[t] = (b : Int) := ⟨(PL win low cs us)[t].toNat, by omega⟩
  have hpw := List.pairwise_iff_getElem.mp hsp.2
  have hbad : isBad win low cs us b = true := ((pl_mem R win low cs us hs ok b).mp (by rw [← hb]; exact List.getElem_mem ht)).2
  have hnot : (b : Int) ∉ (PL win low cs us).take t := fun h => by
    obtain ⟨s, hs1, hs2⟩ := List.mem_iff_getElem.mp h
    rw [List.length_take] at hs1
    rw [List.getElem_take] at hs2
    have := hpw s t (by omega) ht (by omega)
    rw [hs2, hb] at this
    exact Lx_irrefl cs _ this
  have hbest : IsBest (isBad win low cs (punish R ((PL win low cs us).take t) us hs).1) cs 16 b := by
    refine ⟨(bad_st R win low cs us hs ok hR t b).mpr ⟨hbad, hnot⟩, by omega, fun j hj hp hne => ?_⟩
    obtain ⟨h1, h2⟩ := (bad_st R win low cs us hs ok hR t j).mp hp
    obtain ⟨s, hs1, hs2⟩ := List.mem_iff_getElem.mp ((pl_mem R win low cs us hs ok j).mpr ⟨hj, h1⟩)
    have hst : t < s := by
      rcases Nat.lt_trichotomy t s with h | h | h
      · exact h
      · subst h
        rw [hb] at hs2
        omega
      · refine absurd ?_ h2
        rw [← hs2]
        exact List.mem_iff_getElem.mpr ⟨s, by rw [List.length_take]; omega, by rw [List.getElem_take]⟩
    have := hpw t s ht hs1 hst
    rw [hb, hs2] at this
    exact this
  rcases hv with ⟨_, h2⟩ | ⟨c, h1, h2⟩
  · have := h2 b (by omega)
    rw [hbest.ok] at this
    cases this
  · rw [h1, hb, best_one _ _ _ _ _ h2 hbest]
theorem no_worst (ok : Ok R cs us hs) (hR : R ≤ 1073741823) (t : Nat) (ht : (PL win low cs us).length ≤ t) (v : Int) (hv : Inv (isBad win low cs (punish R ((PL win low cs us).take t) us hs).1) cs 16 v) : v = -1 := by
  rcases hv with ⟨h, _⟩ | ⟨c, _, h2⟩
  · exact h
  · obtain ⟨h3, h4⟩ := (bad_st R win low cs us hs ok hR t c).mp h2.ok
    rw [List.take_of_length_le ht] at h4
    exact absurd ((pl_mem R win low cs us hs ok c).mpr ⟨h2.lt, h3⟩) h4
theorem ref_loop (ok : Ok R cs us hs) (hR : R ≤ 1073741823) (T : Nat) (hT1 : T ≤ (PL win low cs us).length) (hT2 : T = 0 ∨ (T : Int) ≤ (zeros us 16 0 : Nat) - least) (hT3 : T = (PL win low cs us).length ∨ ((zeros us 16 0 : Nat) : Int) - least ≤ T) : ∀ (d t k : Nat), t + d = T → zeros (punish R ((PL win low cs us).take t) us hs).1 16 0 + t = zeros us 16 0 →
    hopmeshref12_Close.l0 (d + 1 + (k + 50)) win low high least R cs us hs R cs (punish R ((PL win low cs us).take t) us hs).1 (punish R ((PL win low cs us).take t) us hs).2 =
      hopmeshref12_Close.j2 (k + 50) win high R cs us hs R cs (punish R ((PL win low cs us).take T) us hs).1 (punish R ((PL win low cs us).take T) us hs).2 := by
  intro d
  induction d with
  | zero =>
    intro t k hd hz
    obtain rfl : t = T := by omega
    obtain ⟨l1, l2⟩ := punish_len R ((PL win low cs us).take t) us hs
    have lu := ok.lu
    have lh := ok.lh
    have fv := free_val (k + 30) R cs (punish R ((PL win low cs us).take t) us hs).1 (punish R ((PL win low cs us).take t) us hs).2 (by omega)
    rw [show k + 30 + 20 = k + 50 by omega] at fv
    rw [show 0 + 1 + (k + 50) = (k + 50) + 1 by omega]
    unfold hopmeshref12_Close.l0
    rw [fv, Option.bind_some]
    by_cases h : ((zeros (punish R ((PL win low cs us).take t) us hs).1 16 0 : Nat) : Int) > least
    · rw [if_pos h]
      obtain ⟨v, w1, w2⟩ := worst_val (k + 10) R win low cs (punish R ((PL win low cs us).take t) us hs).1 (punish R ((PL win low cs us).take t) us hs).2 ok.lc (by omega) (fun j hj => (ok.each j hj).1)
      rw [show k + 10 + 40 = k + 50 by omega] at w1
      have hv := no_worst R win low cs us hs ok hR t (by omega) v w2
      rw [w1, Option.bind_some, if_pos (show v < 0 by omega)]
    · rw [if_neg h]
  | succ d ih0 =>
    intro t k hd hz
    have ht : t < (PL win low cs us).length := by omega
    obtain ⟨l1, l2⟩ := punish_len R ((PL win low cs us).take t) us hs
    have lu := ok.lu
    have lh := ok.lh
    have hin := pl_in win low cs us _ (List.getElem_mem ht) ok.lc
    obtain ⟨b, hb⟩ : ∃ b : Nat, (PL win low cs us)[t] = (b : Int) := ⟨(PL win low cs us)[t].toNat, by omega⟩
    have tk : (PL win low cs us).take (t + 1) = (PL win low cs us).take t ++ [(b : Int)] := by rw [List.take_succ_eq_append_getElem ht, hb]
    have fv := free_val (d + 31 + k) R cs (punish R ((PL win low cs us).take t) us hs).1 (punish R ((PL win low cs us).take t) us hs).2 (by omega)
    rw [show d + 31 + k + 20 = d + 1 + (k + 50) by omega] at fv
    obtain ⟨v, w1, w2⟩ := worst_val (d + 11 + k) R win low cs (punish R ((PL win low cs us).take t) us hs).1 (punish R ((PL win low cs us).take t) us hs).2 ok.lc (by omega) (fun j hj => (ok.each j hj).1)
    rw [show d + 11 + k + 40 = d + 1 + (k + 50) by omega] at w1
    have hv := step_worst R win low cs us hs ok hR t ht v w2
    rw [hb] at hv
    subst hv
    have hsn := punish_snoc R b ((PL win low cs us).take t) us hs (by omega)
    have hopen : rd (punish R ((PL win low cs us).take t) us hs).1 (b : Int) = 0 := by
      rcases w2 with ⟨h, _⟩ | ⟨c, h1, h2⟩
      · omega
      · have : c = b := by omega
        subst this
        have := h2.ok
        unfold isBad isOpen at this
        simp only [Bool.and_eq_true, decide_eq_true_eq] at this
        exact this.1.1
    have nh := newHold_in (rd (punish R ((PL win low cs us).take t) us hs).2 (b : Int))
    have hr := ok.r
    have ih := ih0 (t + 1) k (by omega) (by
      rw [tk, hsn]
      have := zeros_eq (punish R ((PL win low cs us).take t) us hs).1 b (wrap64 (wrap64 (R + 1) + newHold (rd (punish R ((PL win low cs us).take t) us hs).2 (b : Int)))) (by omega) (by omega) hopen (by rw [wrap_in (R + 1) (by omega), wrap_in _ (by omega)]; omega)
      show zeros ((punish R ((PL win low cs us).take t) us hs).1.set b _) 16 0 + (t + 1) = _
      omega)
    rw [tk, hsn] at ih
    rw [show d + 1 + 1 + (k + 50) = (d + 1 + (k + 50)) + 1 by omega]
    unfold hopmeshref12_Close.l0
    rw [fv, Option.bind_some, if_pos (by omega), w1, Option.bind_some, if_neg (by omega), if_pos (by omega), if_pos (by omega), Option.bind_some, if_pos (by omega)]
    have e := rd_set (punish R ((PL win low cs us).take t) us hs).2 b (newHold (rd (punish R ((PL win low cs us).take t) us hs).2 (b : Int))) (by omega)
    unfold newHold at e ih
    rw [show ((b : Nat) : Int).toNat = b by omega, e]
    exact ih
theorem ref_l1 (lc : cs.length = 16) (lu : us.length = 16) (hlow : low ≤ high) (u : List Int) (lu' : u.length = 16) (hu : ∀ j : Nat, j < 16 → isPrv win low high cs us j = true → rd u (j : Int) = 0) : ∀ (n i k : Nat) (h : List Int), i + n = 16 → h.length = 16 →
    hopmeshref12_Close.l1 (n + 1 + k) win high (i : Int) R cs us hs R cs u h = hopmeshref12_Close.l2 k 0 (wrap64 (R + 1)) cs u (unhold (pick (isPrv win low high cs us) n i) h)
  | 0, i, k, h, hi, lh => by
    rw [show 0 + 1 + k = k + 1 by omega]
    unfold hopmeshref12_Close.l1
    rw [if_neg (by omega)]
    rfl
  | n + 1, i, k, h, hi, lh => by
    rw [show n + 1 + 1 + k = (n + 1 + k) + 1 by omega]
    unfold hopmeshref12_Close.l1 pick
    rw [if_pos (by omega), if_pos (by omega), if_pos (by omega), wrap_nat i (by omega)]
    have skip : isPrv win low high cs us i = false → hopmeshref12_Close.l1 (n + 1 + k) win high ((i + 1 : Nat) : Int) R cs us hs R cs u h = hopmeshref12_Close.l2 k 0 (wrap64 (R + 1)) cs u (unhold (if isPrv win low high cs us i = true then (i : Int) :: pick (isPrv win low high cs us) n (i + 1) else pick (isPrv win low high cs us) n (i + 1)) h) := fun e => by
      rw [e, if_neg (by decide)]
      exact ref_l1 lc lu hlow u lu' hu n (i + 1) k h (by omega) lh
    by_cases h0 : rd us (i : Int) = 0
    · rw [if_pos h0, if_pos (by omega)]
      by_cases hw : (rd_T34 cs (i : Int)).f0 ≥ win
      · rw [if_pos hw, rrate, Option.bind_some]
        by_cases h1 : rateV (rd_T34 cs (i : Int)) ≥ high
        · have hp : isPrv win low high cs us i = true := by
            unfold isPrv isOpen
            rw [decide_eq_true h0, decide_eq_false (show ¬ (rd_T34 cs (i : Int)).f0 < win by omega), decide_eq_false (show ¬ rateV (rd_T34 cs (i : Int)) < low by omega), decide_eq_true h1]
            rfl
          rw [if_pos h1, if_pos (by omega), if_pos (hu i (by omega) hp), if_pos (by omega), hp, if_pos rfl]
          exact ref_l1 lc lu hlow u lu' hu n (i + 1) k _ (by omega) (by rw [List.length_set]; exact lh)
        · rw [if_neg h1]
          exact skip (by unfold isPrv; rw [decide_eq_false h1]; simp)
      · rw [if_neg hw]
        exact skip (by unfold isPrv isOpen; rw [decide_eq_true (show (rd_T34 cs (i : Int)).f0 < win by omega)]; simp)
    · rw [if_neg h0]
      exact skip (by unfold isPrv isOpen; rw [decide_eq_false h0]; rfl)
end
theorem ref_l2 (R : Int) (cs : List S34) (us hs : List Int) (lc : cs.length = 16) (lu : us.length = 16) : ∀ (n i k : Nat), i + n = 16 →
    hopmeshref12_Close.l2 (n + 1 + k) (i : Int) R (pre (fun _ => z34) cs i) (pre (PureC.due R) us i) hs = some (R, z16, us.map (PureC.due R), hs, 0)
  | 0, i, k, hi => by
    rw [show 0 + 1 + k = k + 1 by omega]
    unfold hopmeshref12_Close.l2
    have e1 : pre (fun _ => z34) cs i = z16 := by
      rw [show i = cs.length by omega, pre_all, List.map_const', lc]
      rfl
    have e2 : pre (PureC.due R) us i = us.map (PureC.due R) := by rw [show i = us.length by omega, pre_all]
    rw [if_neg (by omega), e1, e2]
  | n + 1, i, k, hi => by
    have ih := ref_l2 R cs us hs lc lu n (i + 1) k (by omega)
    have lp := pre_len (PureC.due R) us i (by omega)
    have lq := pre_len (fun _ => z34) cs i (by omega)
    have g : rd (pre (PureC.due R) us i) (i : Int) = us.getD i 0 := pre_get (PureC.due R) 0 us i (by omega)
    have sc := pre_set (fun _ => z34) z34 cs i (by omega)
    rw [show n + 1 + 1 + k = (n + 1 + k) + 1 by omega]
    unfold hopmeshref12_Close.l2
    rw [if_pos (by omega), if_pos (by omega), if_pos (by omega), g, wrap_nat i (by omega), show (i : Int).toNat = i by omega, show (⟨0, 0⟩ : S34) = z34 from rfl, sc]
    by_cases hu : us.getD i 0 ≤ R
    · rw [if_pos hu, if_pos (by omega)]
      have e := pre_set (PureC.due R) 0 us i (by omega)
      have ed : PureC.due R (us.getD i 0) = 0 := by unfold PureC.due; rw [if_pos hu]
      rw [ed] at e
      rw [e]
      exact ih
    · rw [if_neg hu, if_pos (by omega)]
      have ed : PureC.due R (us.getD i 0) = us.getD i 0 := by unfold PureC.due; rw [if_neg hu]
      rw [pre_same (PureC.due R) 0 us i (by omega) ed]
      exact ih
theorem ref_tail (k : Nat) (win low high least R : Int) (cs : List S34) (us hs : List Int) (ok : Ok R cs us hs) (hR : R ≤ 1073741823) (hlow : low ≤ high) (hl : 1 ≤ least ∧ least ≤ 16) :
    hopmeshref12_Close.l0 (k + 200) win low high least R cs us hs R cs us hs = some (closeV win low high least R cs us hs) := by
  have hz := zeros_le us 16 0
  have hbl : (PL win low cs us).length ≤ 16 := by unfold PL; rw [sortI_len]; exact pick_len _ 16 0
  obtain ⟨T, hT, hcut⟩ : ∃ T : Nat, T = (mx 0 (mn ((PL win low cs us).length : Int) (wrap64 ((zeros us 16 0 : Nat) - least)))).toNat ∧ cut win low least cs us = (PL win low cs us).take T := ⟨_, rfl, rfl⟩
  rw [wrap_in _ (by omega)] at hT
  have hT1 : T ≤ (PL win low cs us).length := by rw [hT]; unfold mx mn; split <;> split <;> omega
  have hT2 : T = 0 ∨ (T : Int) ≤ (zeros us 16 0 : Nat) - least := by rw [hT]; unfold mx mn; split <;> split <;> omega
  have hT3 : T = (PL win low cs us).length ∨ ((zeros us 16 0 : Nat) : Int) - least ≤ T := by rw [hT]; unfold mx mn; split <;> split <;> omega
  have main := ref_loop R win low high least cs us hs ok hR T hT1 hT2 hT3 T 0 (k + 149 - T) (by omega) (by rw [List.take_zero]; exact Nat.add_zero _)
  have e0 : punish R [] us hs = (us, hs) := rfl
  rw [show T + 1 + (k + 149 - T + 50) = k + 200 by omega, List.take_zero, e0] at main
  refine main.trans ?_
  rw [← hcut]
  have hin : ∀ x ∈ cut win low least cs us, 0 ≤ x ∧ x < 16 := fun x hx => by rw [hcut] at hx; exact pl_in win low cs us x (List.mem_of_mem_take hx) ok.lc
  obtain ⟨l1, l2⟩ := punish_len R (cut win low least cs us) us hs
  have lu := ok.lu
  have lh := ok.lh
  rw [show k + 149 - T + 50 = (k + 148 - T + 50) + 1 by omega]
  unfold hopmeshref12_Close.j2
  have a1 := ref_l1 R win low high cs us hs ok.lc lu hlow (punish R (cut win low least cs us) us hs).1 (by omega) (fun j hj hp => by
    have hnot : (j : Int) ∉ cut win low least cs us := fun h => by
      rw [hcut] at h
      have := ((pl_mem R win low cs us hs ok j).mp (List.mem_of_mem_take h)).2
      unfold isBad at this
      unfold isPrv at hp
      simp only [Bool.and_eq_true, Bool.not_eq_true', decide_eq_true_eq, decide_eq_false_iff_not] at this hp
      exact hp.2.1 this.2
    rw [punish_out R j _ us hs (fun x hx => (hin x hx).1) hnot]
    unfold isPrv isOpen at hp
    simp only [Bool.and_eq_true, decide_eq_true_eq] at hp
    exact hp.1.1) 16 0 (k + 181 - T) (punish R (cut win low least cs us) us hs).2 rfl (by omega)
  rw [show 16 + 1 + (k + 181 - T) = k + 148 - T + 50 by omega] at a1
  refine a1.trans ?_
  have a2 := ref_l2 (wrap64 (R + 1)) cs (punish R (cut win low least cs us) us hs).1 (unhold (prvs win low high cs us) (punish R (cut win low least cs us) us hs).2) ok.lc (by omega) 16 0 (k + 164 - T) rfl
  rw [show 16 + 1 + (k + 164 - T) = k + 181 - T by omega, pre_zero, pre_zero] at a2
  refine a2.trans ?_
  rw [wrap_in (R + 1) (by have := ok.r; omega)]
  rfl
theorem rclose_val (k : Nat) (win low high least R : Int) (cs : List S34) (us hs : List Int) (l1 : cs.length ≤ 20) (l2 : us.length ≤ 20) (l3 : hs.length ≤ 20) : hopmeshref12_Close.f (k + 201) R cs us hs win low high least = some (closeR win low high least R cs us hs) := by
  have hv := rvalid_dec (k + 141) R cs us hs
  rw [show k + 141 + 60 = k + 201 by omega] at hv
  have stop : hopmeshref12_Close.j0 (k + 201) win low high least true R cs us hs = some (0, [], [], [], 2) := by
    rw [show k + 201 = (k + 200) + 1 by omega]
    unfold hopmeshref12_Close.j0
    rfl
  unfold hopmeshref12_Close.f closeR
  rw [hv, Option.bind_some]
  by_cases ho : Ok R cs us hs
  · rw [if_pos ho, if_pos ho, if_pos rfl]
    by_cases c : 1 ≤ win ∧ win ≤ 1000 ∧ 0 ≤ low ∧ low ≤ high ∧ high ≤ 1000 ∧ 1 ≤ least ∧ least ≤ 16
    · rw [if_pos c, if_neg (by omega), if_neg (by omega), if_neg (by omega), if_neg (by omega), if_neg (by omega), if_neg (by omega), decide_eq_false (by omega), show k + 201 = (k + 200) + 1 by omega]
      unfold hopmeshref12_Close.j0
      simp only [Bool.false_eq_true, if_false]
      by_cases h : R = 1073741824
      · rw [if_pos h, if_pos h]
      · rw [if_neg h, if_neg h, copy_val R cs us hs l1 l2 l3, Option.bind_some]
        exact ref_tail k win low high least R cs us hs ho (by have := ho.r; omega) c.2.2.2.1 c.2.2.2.2.2
    · rw [if_neg c]
      repeat' split
      all_goals first | exact stop | skip
      rw [decide_eq_true (by omega)]
      exact stop
  · rw [if_neg ho, if_neg ho, if_neg (by decide)]
end Go.Proofs.Ytnipgplobipeeaa.PureL
