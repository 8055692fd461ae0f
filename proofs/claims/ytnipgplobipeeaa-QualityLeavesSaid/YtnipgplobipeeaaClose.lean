/-
  What the program's Close answers, in plain lists: the bad channels by their rates, the proved ones, the rounds and holds behind it. No condition beyond a valid learner.
-/
import Derived.Test.YtnipgplobipeeaaBase
import Derived.Test.YtnipgplobipeeaaZf40
import Derived.Test.YtnipgplobipeeaaZf14
namespace Go.Proofs.Ytnipgplobipeeaa.PureC
open Go.RowKit Go.Proofs.Ytnipgplobipeeaa.PQ Go.Proofs.Ytnipgplobipeeaa.PureB Go.Proofs.YtnipgplobipeeaaW.PrintWords Go.Proofs.YtnipgplobipeeaaW.PrintLast Go.Proofs.YtnipgplobipeeaaW.PrintMore

def rateV (c : S34) : Int := if c.f0 = 0 then 0 else wrap64 (Int.tdiv (wrap64 (1000 * c.f1)) c.f0)
theorem rate_some (c : S34) : quality_rate.f c.f0 c.f1 = some (rateV c) := by
  unfold quality_rate.f rateV
  split <;> rfl
/-- The numbers from i on that a test takes. -/
def pick (p : Nat → Bool) : Nat → Nat → List Int
  | 0, _ => []
  | n + 1, i => if p i = true then (i : Int) :: pick p n (i + 1) else pick p n (i + 1)
theorem pick_len (p : Nat → Bool) : ∀ n i, (pick p n i).length ≤ n
  | 0, _ => Nat.le_refl _
  | n + 1, i => by
    unfold pick
    have := pick_len p n (i + 1)
    split
    · simp; omega
    · omega
theorem pick_mem (p : Nat → Bool) (x : Int) : ∀ n i, x ∈ pick p n i ↔ ∃ j : Nat, x = (j : Int) ∧ i ≤ j ∧ j < i + n ∧ p j = true
  | 0, i => by simp [pick]; omega
  | n + 1, i => by
    have ih := pick_mem p x n (i + 1)
    unfold pick
    by_cases h : p i = true
    · rw [if_pos h, List.mem_cons, ih]
      constructor
      · rintro (e | ⟨j, e, a, b, c⟩)
        · exact ⟨i, e, Nat.le_refl _, by omega, h⟩
        · exact ⟨j, e, by omega, by omega, c⟩
      · rintro ⟨j, e, a, b, c⟩
        rcases Nat.lt_or_ge i j with h1 | h1
        · exact .inr ⟨j, e, by omega, by omega, c⟩
        · exact .inl (by omega)
    · rw [if_neg h, ih]
      constructor
      · rintro ⟨j, e, a, b, c⟩; exact ⟨j, e, by omega, by omega, c⟩
      · rintro ⟨j, e, a, b, c⟩
        refine ⟨j, e, ?_, by omega, c⟩
        rcases Nat.lt_or_ge i j with h1 | h1
        · omega
        · rw [show j = i by omega] at c
          exact absurd c h
section
variable (win low high : Int) (cs : List S34) (us : List Int)
def isOpen (i : Nat) : Bool := decide (rd us (i : Int) = 0) && !decide ((rd_T34 cs (i : Int)).f0 < win)
def isBad (i : Nat) : Bool := isOpen win cs us i && decide (rateV (rd_T34 cs (i : Int)) < low)
def isPrv (i : Nat) : Bool := isOpen win cs us i && (!decide (rateV (rd_T34 cs (i : Int)) < low) && decide (rateV (rd_T34 cs (i : Int)) ≥ high))
def bads : List Int := pick (isBad win low cs us) 16 0
def prvs : List Int := pick (isPrv win low high cs us) 16 0
theorem judge_loop (R least : Int) (hs : List Int) (lc : cs.length = 16) (lu : us.length = 16) : ∀ (n i k : Nat) (b q : List Int), i + n = 16 → b.length ≤ i → q.length ≤ i →
    quality_rules_judge.l0 (2 * n + 1 + k) b q cs (cs.length : Int) (i : Int) win low high least R cs us hs =
      if sortOk cs (b ++ pick (isBad win low cs us) n i) = true then some (sortI cs (b ++ pick (isBad win low cs us) n i), q ++ pick (isPrv win low high cs us) n i) else none
  | 0, i, k, b, q, hi, hb, hq => by
    rw [show 2 * 0 + 1 + k = k + 1 by omega]
    unfold quality_rules_judge.l0 pick
    rw [if_neg (by omega), List.append_nil, List.append_nil]
  | n + 1, i, k, b, q, hi, hb, hq => by
    have ih := judge_loop R least hs lc lu n (i + 1) k
    rw [show 2 * (n + 1) + 1 + k = (2 * n + 1 + k) + 1 + 1 by omega]
    unfold quality_rules_judge.l0 pick
    rw [if_pos (show (i : Int) < (cs.length : Int) by omega), if_pos (show (0 : Int) ≤ (i : Int) by omega), if_pos (show (i : Int) < (cs.length : Int) by omega), if_pos (show (i : Int) < (us.length : Int) by omega)]
    have skip : isOpen win cs us i = false → quality_rules_judge.j1 (2 * n + 1 + k + 1) b q (i : Int) cs (cs.length : Int) (i : Int) true win low high least R cs us hs (rd_T34 cs (i : Int)).f0 (rd_T34 cs (i : Int)).f1 =
        if sortOk cs (b ++ (if isBad win low cs us i = true then (i : Int) :: pick (isBad win low cs us) n (i + 1) else pick (isBad win low cs us) n (i + 1))) = true then some (sortI cs (b ++ (if isBad win low cs us i = true then (i : Int) :: pick (isBad win low cs us) n (i + 1) else pick (isBad win low cs us) n (i + 1))), q ++ (if isPrv win low high cs us i = true then (i : Int) :: pick (isPrv win low high cs us) n (i + 1) else pick (isPrv win low high cs us) n (i + 1))) else none := fun h => by
      have e1 : isBad win low cs us i = false := by unfold isBad; rw [h]; rfl
      have e2 : isPrv win low high cs us i = false := by unfold isPrv; rw [h]; rfl
      unfold quality_rules_judge.j1
      rw [if_pos rfl, wrap_nat i (by omega), e1, e2]
      simp only [Bool.false_eq_true, if_false]
      exact ih b q (by omega) (by omega) (by omega)
    by_cases h0 : rd us (i : Int) = 0
    · rw [if_pos h0]
      by_cases hw : (rd_T34 cs (i : Int)).f0 < win
      · rw [decide_eq_true hw]
        exact skip (by unfold isOpen; rw [decide_eq_true hw]; simp)
      · rw [decide_eq_false hw]
        have ho : isOpen win cs us i = true := by unfold isOpen; rw [decide_eq_true h0, decide_eq_false hw]; rfl
        unfold quality_rules_judge.j1
        simp only [Bool.false_eq_true, if_false]
        rw [rate_some, wrap_nat i (by omega)]
        simp only [Option.bind_some]
        by_cases h1 : rateV (rd_T34 cs (i : Int)) < low
        · have e1 : isBad win low cs us i = true := by unfold isBad; rw [ho, decide_eq_true h1]; rfl
          have e2 : isPrv win low high cs us i = false := by unfold isPrv; rw [decide_eq_true h1]; simp
          rw [if_pos h1, if_pos (by omega), e1, e2]
          simp only [if_true, Bool.false_eq_true, if_false]
          have := ih (b ++ [(i : Int)]) q (by omega) (by simp; omega) (by omega)
          rw [List.append_assoc] at this
          exact this
        · have e1 : isBad win low cs us i = false := by unfold isBad; rw [decide_eq_false h1]; simp
          rw [if_neg h1, e1]
          by_cases h2 : rateV (rd_T34 cs (i : Int)) ≥ high
          · have e2 : isPrv win low high cs us i = true := by unfold isPrv; rw [ho, decide_eq_false h1, decide_eq_true h2]; rfl
            rw [if_pos h2, if_pos (by omega), e2]
            simp only [if_true, Bool.false_eq_true, if_false]
            have := ih b (q ++ [(i : Int)]) (by omega) (by omega) (by simp; omega)
            rw [List.append_assoc] at this
            exact this
          · have e2 : isPrv win low high cs us i = false := by unfold isPrv; rw [decide_eq_false h2]; simp
            rw [if_neg h2, e2]
            simp only [Bool.false_eq_true, if_false]
            exact ih b q (by omega) (by omega) (by omega)
    · rw [if_neg h0]
      exact skip (by unfold isOpen; rw [decide_eq_false h0]; rfl)
theorem bads_in : ∀ x ∈ bads win low cs us, 0 ≤ x ∧ x < 16 := fun x hx => by
  obtain ⟨j, rfl, _, h, _⟩ := (pick_mem _ x 16 0).mp hx
  omega
theorem prvs_in : ∀ x ∈ prvs win low high cs us, 0 ≤ x ∧ x < 16 := fun x hx => by
  obtain ⟨j, rfl, _, h, _⟩ := (pick_mem _ x 16 0).mp hx
  omega
theorem sort_ok (l : List Int) (lc : cs.length = 16) (h : l.length ≤ 16) (hr : ∀ x ∈ l, 0 ≤ x ∧ x < 16) : sortOk cs l = true := by
  unfold sortOk
  rw [Bool.and_eq_true, List.all_eq_true]
  refine ⟨decide_eq_true (by omega), fun x hx => ?_⟩
  have := hr x hx
  rw [decide_eq_true this.1, decide_eq_true (by omega)]
  rfl
theorem judge_val (R least : Int) (hs : List Int) (lc : cs.length = 16) (lu : us.length = 16) (k : Nat) :
    quality_rules_judge.f (k + 40) win low high least R cs us hs = some (sortI cs (bads win low cs us), prvs win low high cs us) := by
  unfold quality_rules_judge.f
  rw [show k + 40 = 2 * 16 + 1 + (k + 7) by omega]
  have := judge_loop win low high cs us R least hs lc lu 16 0 (k + 7) [] [] rfl (Nat.le_refl _) (Nat.le_refl _)
  simp only [List.nil_append] at this
  refine this.trans (if_pos ?_)
  exact sort_ok cs _ lc (pick_len _ 16 0) (bads_in win low cs us)
end
theorem sortI_len (cs : List S34) (l : List Int) : (sortI cs l).length = l.length := by
  unfold sortI
  split
  · rfl
  · exact sortM_len _ _ _
theorem sortI_in (cs : List S34) (l : List Int) (lc : cs.length = 16) (hr : ∀ x ∈ l, 0 ≤ x ∧ x < 16) : ∀ x ∈ sortI cs l, 0 ≤ x ∧ x < 16 := by
  unfold sortI
  split
  · exact hr
  · intro x hx
    unfold sortM at hx
    obtain ⟨y, _, rfl⟩ := List.mem_map.mp hx
    have := y.isLt
    unfold ofF
    omega
/-- How many channels are free, from i on. -/
def zeros (us : List Int) : Nat → Nat → Nat
  | 0, _ => 0
  | n + 1, i => (if rd us (i : Int) = 0 then 1 else 0) + zeros us n (i + 1)
theorem zeros_le (us : List Int) : ∀ n i, zeros us n i ≤ n
  | 0, _ => Nat.le_refl _
  | n + 1, i => by
    have := zeros_le us n (i + 1)
    unfold zeros
    split <;> omega
/-- The bad channels that are blacklisted. -/
def cut (win low least : Int) (cs : List S34) (us : List Int) : List Int := (sortI cs (bads win low cs us)).take (mx 0 (mn ((sortI cs (bads win low cs us)).length : Int) (wrap64 ((zeros us 16 0 : Nat) - least)))).toNat
/-- The rounds and holds behind blacklisting these channels. -/
def punish (R : Int) : List Int → List Int → List Int → List Int × List Int
  | [], us, hs => (us, hs)
  | i :: t, us, hs => punish R t (us.set i.toNat (wrap64 ((wrap64 (R + 1)) + (rd (hs.set i.toNat (mn (mx (wrap64 (2 * (rd hs i))) 1) 64)) i)))) (hs.set i.toNat (mn (mx (wrap64 (2 * (rd hs i))) 1) 64))
def unhold : List Int → List Int → List Int
  | [], hs => hs
  | i :: t, hs => unhold t (hs.set i.toNat 0)
theorem punish_len (R : Int) : ∀ (t us hs : List Int), (punish R t us hs).1.length = us.length ∧ (punish R t us hs).2.length = hs.length
  | [], us, hs => ⟨rfl, rfl⟩
  | i :: t, us, hs => by
    unfold punish
    have := punish_len R t (us.set i.toNat (wrap64 ((wrap64 (R + 1)) + (rd (hs.set i.toNat (mn (mx (wrap64 (2 * (rd hs i))) 1) 64)) i)))) (hs.set i.toNat (mn (mx (wrap64 (2 * (rd hs i))) 1) 64))
    rw [List.length_set, List.length_set] at this
    exact this
theorem unhold_len : ∀ (t hs : List Int), (unhold t hs).length = hs.length
  | [], hs => rfl
  | i :: t, hs => by
    unfold unhold
    rw [unhold_len t, List.length_set]
theorem rd_at (l : List Int) (i : Nat) (h : i < l.length) : rd l (i : Int) = l[i] := by
  unfold rd
  rw [List.getD_eq_getElem?_getD, show ((i : Nat) : Int).toNat = i by omega, List.getElem?_eq_getElem h]
  rfl
theorem l1_loop (R : Int) (cs : List S34) (q L : List Int) (hL : ∀ x ∈ L, 0 ≤ x ∧ x < 16) (h16 : L.length ≤ 16) : ∀ (n i k : Nat) (us hs : List Int), i + n = L.length → us.length = 16 → hs.length = 16 →
    quality_Close.l1 (n + 1 + k) q L (L.length : Int) (i : Int) R cs us hs = quality_Close.l2 k q (q.length : Int) 0 R cs (punish R (L.drop i) us hs).1 (punish R (L.drop i) us hs).2
  | 0, i, k, us, hs, hi, lu, lh => by
    rw [show 0 + 1 + k = k + 1 by omega, List.drop_eq_nil_of_le (by omega)]
    unfold quality_Close.l1
    rw [if_neg (by omega)]
    rfl
  | n + 1, i, k, us, hs, hi, lu, lh => by
    have hx := hL L[i] (List.getElem_mem _)
    have hd : L.drop i = L[i] :: L.drop (i + 1) := List.drop_eq_getElem_cons (by omega)
    rw [show n + 1 + 1 + k = (n + 1 + k) + 1 by omega, hd]
    unfold quality_Close.l1
    rw [rd_at L i (by omega), if_pos (by omega), if_pos (by omega), if_pos (by omega), if_pos hx.1, if_pos (by omega), wrap_nat i (by omega)]
    simp only [Option.bind_some]
    rw [if_pos (by omega)]
    exact l1_loop R cs q L hL h16 n (i + 1) k _ _ (by omega) (by rw [List.length_set]; exact lu) (by rw [List.length_set]; exact lh)
theorem l2_loop (R : Int) (cs : List S34) (us q : List Int) (hq : ∀ x ∈ q, 0 ≤ x ∧ x < 16) (h16 : q.length ≤ 16) : ∀ (n i k : Nat) (hs : List Int), i + n = q.length → hs.length = 16 →
    quality_Close.l2 (n + 1 + k) q (q.length : Int) (i : Int) R cs us hs = quality_Close.l3 k (us.length : Int) 0 (wrap64 (R + 1)) cs us (unhold (q.drop i) hs)
  | 0, i, k, hs, hi, lh => by
    rw [show 0 + 1 + k = k + 1 by omega, List.drop_eq_nil_of_le (by omega)]
    unfold quality_Close.l2
    rw [if_neg (by omega)]
    rfl
  | n + 1, i, k, hs, hi, lh => by
    have hx := hq q[i] (List.getElem_mem _)
    have hd : q.drop i = q[i] :: q.drop (i + 1) := List.drop_eq_getElem_cons (by omega)
    rw [show n + 1 + 1 + k = (n + 1 + k) + 1 by omega, hd]
    unfold quality_Close.l2
    rw [rd_at q i (by omega), if_pos (by omega), if_pos (by omega), if_pos (by omega), if_pos hx.1, if_pos (by omega), wrap_nat i (by omega)]
    exact l2_loop R cs us q hq h16 n (i + 1) k _ (by omega) (by rw [List.length_set]; exact lh)
/-- A row of which the first i elements have been turned. -/
def pre {α : Type} (f : α → α) (us : List α) (i : Nat) : List α := (us.take i).map f ++ us.drop i
theorem pre_set {α : Type} (f : α → α) (z : α) : ∀ (us : List α) (i : Nat), i < us.length → (pre f us i).set i (f (us.getD i z)) = pre f us (i + 1)
  | [], i, h => by cases h
  | u :: us, 0, h => by simp [pre]
  | u :: us, i + 1, h => by
    have ih := pre_set f z us i (by simpa using h)
    simp only [pre, List.take_succ_cons, List.map_cons, List.drop_succ_cons, List.cons_append, List.set_cons_succ, List.getD_cons_succ] at ih ⊢
    rw [ih]
theorem pre_same {α : Type} (f : α → α) (z : α) : ∀ (us : List α) (i : Nat), i < us.length → f (us.getD i z) = us.getD i z → pre f us i = pre f us (i + 1)
  | [], i, h, _ => by cases h
  | u :: us, 0, h, e => by simp at e; simp [pre, e]
  | u :: us, i + 1, h, e => by
    have ih := pre_same f z us i (by simpa using h) (by simpa using e)
    simp only [pre, List.take_succ_cons, List.map_cons, List.drop_succ_cons, List.cons_append] at ih ⊢
    rw [ih]
theorem pre_get {α : Type} (f : α → α) (z : α) : ∀ (us : List α) (i : Nat), i < us.length → (pre f us i).getD i z = us.getD i z
  | [], i, h => by cases h
  | u :: us, 0, h => by simp [pre]
  | u :: us, i + 1, h => by
    have ih := pre_get f z us i (by simpa using h)
    simpa only [pre, List.take_succ_cons, List.map_cons, List.drop_succ_cons, List.cons_append, List.getD_cons_succ] using ih
theorem pre_len {α : Type} (f : α → α) (us : List α) (i : Nat) (h : i ≤ us.length) : (pre f us i).length = us.length := by
  simp [pre]
  omega
theorem pre_zero {α : Type} (f : α → α) (us : List α) : pre f us 0 = us := by simp [pre]
theorem pre_all {α : Type} (f : α → α) (us : List α) : pre f us us.length = us.map f := by simp [pre]
def z16 : List S34 := List.replicate 16 z34
/-- What a closing leaves of a round that a channel names. -/
def due (R u : Int) : Int := if u ≤ R then 0 else u
theorem l3_loop (R : Int) (cs : List S34) (us hs : List Int) (lc : cs.length = 16) (lu : us.length = 16) : ∀ (n i k : Nat), i + n = 16 →
    quality_Close.l3 (n + 1 + k) (us.length : Int) (i : Int) R (pre (fun _ => z34) cs i) (pre (due R) us i) hs = some (R, z16, us.map (due R), hs, 0)
  | 0, i, k, hi => by
    rw [show 0 + 1 + k = k + 1 by omega]
    unfold quality_Close.l3
    have e1 : pre (fun _ => z34) cs i = z16 := by
      rw [show i = cs.length by omega, pre_all, List.map_const', lc]
      rfl
    have e2 : pre (due R) us i = us.map (due R) := by rw [show i = us.length by omega, pre_all]
    rw [if_neg (by omega), e1, e2]
  | n + 1, i, k, hi => by
    have ih := l3_loop R cs us hs lc lu n (i + 1) k (by omega)
    have lp := pre_len (due R) us i (by omega)
    have lq := pre_len (fun _ => z34) cs i (by omega)
    have g : rd (pre (due R) us i) (i : Int) = us.getD i 0 := pre_get (due R) 0 us i (by omega)
    have sc := pre_set (fun _ => z34) z34 cs i (by omega)
    rw [show n + 1 + 1 + k = (n + 1 + k) + 1 by omega]
    unfold quality_Close.l3
    rw [if_pos (by omega), if_pos (by omega), if_pos (by omega), g, wrap_nat i (by omega), show (i : Int).toNat = i by omega, show (⟨0, 0⟩ : S34) = z34 from rfl, sc]
    by_cases hu : us.getD i 0 ≤ R
    · rw [if_pos hu, if_pos (by omega)]
      have e := pre_set (due R) 0 us i (by omega)
      have ed : due R (us.getD i 0) = 0 := by unfold due; rw [if_pos hu]
      rw [ed] at e
      rw [e]
      exact ih
    · rw [if_neg hu, if_pos (by omega)]
      have ed : due R (us.getD i 0) = us.getD i 0 := by unfold due; rw [if_neg hu]
      rw [pre_same (due R) 0 us i (by omega) ed]
      exact ih
abbrev Res : Type := Int × List S34 × List Int × List Int × Int
def closeV (win low high least R : Int) (cs : List S34) (us hs : List Int) : Res :=
  (R + 1, z16, (punish R (cut win low least cs us) us hs).1.map (due (R + 1)), unhold (prvs win low high cs us) (punish R (cut win low least cs us) us hs).2, 0)
theorem l0_loop (R win low high least : Int) (cs : List S34) (us hs : List Int) (T : Nat) (hT : T = zeros us 16 0) (hR : 0 ≤ R ∧ R ≤ 1073741823) (lc : cs.length = 16) (lu : us.length = 16) (lh : hs.length = 16) : ∀ (n i k f : Nat), i + n = 16 → f + zeros us n i = T →
    quality_Close.l0 (n + 1 + (k + 100)) least (f : Int) us (us.length : Int) (i : Int) R cs us hs win low high least R cs us hs = some (closeV win low high least R cs us hs)
  | 0, i, k, f, hi, hf => by
    have hz : f = zeros us 16 0 := by unfold zeros at hf; omega
    clear hf hT
    subst hz
    rw [show 0 + 1 + (k + 100) = (k + 100) + 1 by omega]
    unfold quality_Close.l0
    rw [if_neg (by omega), show k + 100 = (k + 60) + 40 by omega, judge_val win low high cs us R least hs lc lu (k + 60)]
    simp only [Option.bind_some]
    have hb : (sortI cs (bads win low cs us)).length ≤ 16 := by rw [sortI_len]; exact pick_len _ 16 0
    have m0 : 0 ≤ mx 0 (mn ((sortI cs (bads win low cs us)).length : Int) (wrap64 ((zeros us 16 0 : Nat) - least))) := by unfold mx; split <;> omega
    have m1 : mx 0 (mn ((sortI cs (bads win low cs us)).length : Int) (wrap64 ((zeros us 16 0 : Nat) - least))) ≤ ((sortI cs (bads win low cs us)).length : Int) := by
      unfold mx mn
      split
      · split <;> omega
      · omega
    rw [if_pos m0, if_pos m1]
    have hin := sortI_in cs (bads win low cs us) lc (bads_in win low cs us)
    have hcl : (cut win low least cs us).length ≤ 16 := by unfold cut; rw [List.length_take]; omega
    have hci : ∀ x ∈ cut win low least cs us, 0 ≤ x ∧ x < 16 := fun x hx => hin x (List.mem_of_mem_take hx)
    have hp := prvs_in win low high cs us
    have hpl : (prvs win low high cs us).length ≤ 16 := pick_len _ 16 0
    have a1 := l1_loop R cs (prvs win low high cs us) (cut win low least cs us) hci hcl (cut win low least cs us).length 0 (k + 99 - (cut win low least cs us).length) us hs (by omega) lu lh
    rw [show (cut win low least cs us).length + 1 + (k + 99 - (cut win low least cs us).length) = k + 60 + 40 by omega] at a1
    refine a1.trans ?_
    rw [List.drop_zero]
    obtain ⟨p1, p2⟩ := punish_len R (cut win low least cs us) us hs
    have a2 := l2_loop R cs (punish R (cut win low least cs us) us hs).1 (prvs win low high cs us) hp hpl (prvs win low high cs us).length 0 (k + 98 - (cut win low least cs us).length - (prvs win low high cs us).length) (punish R (cut win low least cs us) us hs).2 (by omega) (by omega)
    rw [show (prvs win low high cs us).length + 1 + (k + 98 - (cut win low least cs us).length - (prvs win low high cs us).length) = k + 99 - (cut win low least cs us).length by omega] at a2
    refine a2.trans ?_
    rw [List.drop_zero]
    have a3 := l3_loop (wrap64 (R + 1)) cs (punish R (cut win low least cs us) us hs).1 (unhold (prvs win low high cs us) (punish R (cut win low least cs us) us hs).2) lc (by omega) 16 0 (k + 81 - (cut win low least cs us).length - (prvs win low high cs us).length) rfl
    rw [show 16 + 1 + (k + 81 - (cut win low least cs us).length - (prvs win low high cs us).length) = k + 98 - (cut win low least cs us).length - (prvs win low high cs us).length by omega, pre_zero, pre_zero] at a3
    refine a3.trans ?_
    rw [wrap_in (R + 1) (by omega)]
    rfl
  | n + 1, i, k, f, hi, hf => by
    rw [show n + 1 + 1 + (k + 100) = (n + 1 + (k + 100)) + 1 by omega]
    unfold quality_Close.l0
    rw [if_pos (by omega), if_pos (by omega), if_pos (by omega), wrap_nat i (by omega)]
    have hz := zeros_le us 16 0
    rw [← hT] at hz
    unfold zeros at hf
    by_cases h : rd us (i : Int) = 0
    · rw [if_pos h] at hf ⊢
      rw [wrap_nat f (by omega)]
      exact l0_loop R win low high least cs us hs T hT hR lc lu lh n (i + 1) k (f + 1) (by omega) (by omega)
    · rw [if_neg h] at hf ⊢
      exact l0_loop R win low high least cs us hs T hT hR lc lu lh n (i + 1) k f (by omega) (by omega)
theorem right_or (a b c d : Int) : (quality_rules_right.f a b c d = some true ∧ 1 ≤ a ∧ a ≤ 1000 ∧ 0 ≤ b ∧ b ≤ c ∧ c ≤ 1000 ∧ 1 ≤ d ∧ d ≤ 16) ∨ (quality_rules_right.f a b c d = some false ∧ ¬ (1 ≤ a ∧ a ≤ 1000 ∧ 0 ≤ b ∧ b ≤ c ∧ c ≤ 1000 ∧ 1 ≤ d ∧ d ≤ 16)) := by
  unfold quality_rules_right.f
  repeat' split
  all_goals first | (exact .inr ⟨rfl, by omega⟩) | skip
  by_cases hd : d ≤ 16
  · rw [decide_eq_true hd]; exact .inl ⟨rfl, by omega⟩
  · rw [decide_eq_false hd]; exact .inr ⟨rfl, by omega⟩
open Classical in
/-- Close, in one word. -/
noncomputable def closeR (win low high least R : Int) (cs : List S34) (us hs : List Int) : Res :=
  if Ok R cs us hs then (if 1 ≤ win ∧ win ≤ 1000 ∧ 0 ≤ low ∧ low ≤ high ∧ high ≤ 1000 ∧ 1 ≤ least ∧ least ≤ 16 then (if R = 1073741824 then (0, [], [], [], 13) else closeV win low high least R cs us hs) else (0, [], [], [], 2)) else (0, [], [], [], 1)
theorem close_val (k : Nat) (win low high least R : Int) (cs : List S34) (us hs : List Int) : quality_Close.f (k + 200) R cs us hs win low high least = some (closeR win low high least R cs us hs) := by
  have hv := valid_dec (k + 180) R cs us hs
  rw [show k + 180 + 20 = k + 200 by omega] at hv
  unfold quality_Close.f closeR
  rw [hv, Option.bind_some]
  by_cases ho : Ok R cs us hs
  · rw [if_pos ho, if_pos ho, if_pos rfl]
    rcases right_or win low high least with ⟨hr, hc⟩ | ⟨hr, hc⟩
    · rw [hr, Option.bind_some, if_pos rfl, if_pos hc]
      by_cases h : R = 1073741824
      · rw [if_pos h, if_pos h]
      · rw [if_neg h, if_neg h, clone_val R cs us hs ho.lc ho.lu ho.lh, Option.bind_some, show k + 200 = 16 + 1 + ((k + 83) + 100) by omega]
        exact l0_loop R win low high least cs us hs _ rfl (by have := ho.r; omega) ho.lc ho.lu ho.lh 16 0 (k + 83) 0 rfl (by omega)
    · rw [hr, Option.bind_some, if_neg (by decide), if_neg hc]
  · rw [if_neg ho, if_neg ho, if_neg (by decide)]
theorem close_fits (win low high least R : Int) (cs : List S34) (us hs : List Int) : (closeR win low high least R cs us hs).2.1.length ≤ 20 ∧ (closeR win low high least R cs us hs).2.2.1.length ≤ 20 ∧ (closeR win low high least R cs us hs).2.2.2.1.length ≤ 20 := by
  unfold closeR
  by_cases ho : Ok R cs us hs
  · rw [if_pos ho]
    split
    · split
      · exact ⟨Nat.zero_le _, Nat.zero_le _, Nat.zero_le _⟩
      · have hp := punish_len R (cut win low least cs us) us hs
        have l2 := ho.lu
        have l3 := ho.lh
        refine ⟨by show z16.length ≤ 20; decide, ?_, ?_⟩
        · show ((punish R (cut win low least cs us) us hs).1.map (due (R + 1))).length ≤ 20
          rw [List.length_map]
          omega
        · show (unhold (prvs win low high cs us) (punish R (cut win low least cs us) us hs).2).length ≤ 20
          rw [unhold_len]
          omega
    · exact ⟨Nat.zero_le _, Nat.zero_le _, Nat.zero_le _⟩
  · rw [if_neg ho]
    exact ⟨Nat.zero_le _, Nat.zero_le _, Nat.zero_le _⟩
theorem closed_val (k : Nat) (win low high least R : Int) (cs : List S34) (us hs : List Int) (l1 : cs.length ≤ 20) (l2 : us.length ≤ 20) (l3 : hs.length ≤ 20) : hopmeshlaw12_closed.f (k + 200) R cs us hs win low high least = some (closeR win low high least R cs us hs) := by
  unfold hopmeshlaw12_closed.f
  rw [copy_val R cs us hs l1 l2 l3, Option.bind_some, close_val, Option.bind_some]
end Go.Proofs.Ytnipgplobipeeaa.PureC
