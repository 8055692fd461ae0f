/-
  The plain law QualityLeaves: behind closing a round enough channels stay free, and none is blacklisted without cause. No condition.
-/
import Derived.Test.YtnipgplobipeeaaRefClose
import Derived.Test.YtnipgplobipeeaaZf7
namespace Go.Proofs.Ytnipgplobipeeaa.PureV
open Go.Proofs.Ytnipgplobipeeaa.PureB hiding rd_set rd_set_ne
open Go.RowKit Go.Proofs.Ytnipgplobipeeaa.PQ Go.Proofs.Ytnipgplobipeeaa.PureC Go.Proofs.Ytnipgplobipeeaa.PureL Go.Proofs.YtnipgplobipeeaaW.PrintWords Go.Proofs.YtnipgplobipeeaaW.PrintLast Go.Proofs.YtnipgplobipeeaaW.PrintMore

theorem awake100 : hopmeshlaw12_awake.f 100 = some true := by kernel_rfl
theorem awake_more (k : Nat) : hopmeshlaw12_awake.f (k + 100) = some true := at_rounds hopmeshlaw12_awake.mono (by omega) awake100
theorem none_left (k : Nat) : api_Counts_33.f (k + 40) z16 = some false := at_rounds (api_Counts_33.mono z16) (show 40 ≤ k + 40 by omega) (by kernel_rfl)
/-- The blacklisted channels from i on. -/
def bl (us : List Int) : Nat → Nat → List Int
  | 0, _ => []
  | n + 1, i => if rd us (i : Int) = 0 then bl us n (i + 1) else (i : Int) :: bl us n (i + 1)
theorem bl_zeros (us : List Int) : ∀ n i, (bl us n i).length + zeros us n i = n
  | 0, _ => rfl
  | n + 1, i => by
    have := bl_zeros us n (i + 1)
    unfold bl zeros
    split
    · omega
    · simp; omega
theorem bl_mem (us : List Int) (x : Int) : ∀ n i, x ∈ bl us n i ↔ ∃ c : Nat, x = (c : Int) ∧ i ≤ c ∧ c < i + n ∧ rd us (c : Int) ≠ 0
  | 0, i => by simp [bl]; omega
  | n + 1, i => by
    have ih := bl_mem us x n (i + 1)
    unfold bl
    by_cases h : rd us (i : Int) = 0
    · rw [if_pos h, ih]
      constructor
      · rintro ⟨c, e, a, b, d⟩; exact ⟨c, e, by omega, by omega, d⟩
      · rintro ⟨c, e, a, b, d⟩
        refine ⟨c, e, ?_, by omega, d⟩
        rcases Nat.lt_or_ge i c with h1 | h1
        · omega
        · rw [show c = i by omega] at d
          exact absurd h d
    · rw [if_neg h, List.mem_cons, ih]
      constructor
      · rintro (a | ⟨c, e, a, b, d⟩)
        · exact ⟨i, a, Nat.le_refl _, by omega, h⟩
        · exact ⟨c, e, by omega, by omega, d⟩
      · rintro ⟨c, e, a, b, d⟩
        rcases Nat.lt_or_ge i c with h1 | h1
        · exact .inr ⟨c, e, by omega, by omega, d⟩
        · exact .inl (by omega)
theorem black_loop (us : List Int) (lu : us.length = 16) : ∀ (n i k : Nat) (acc : List Int), i + n = 16 → acc.length ≤ i →
    quality_Black.l0 (n + 1 + k) acc us (us.length : Int) (i : Int) = some (acc ++ bl us n i, 0)
  | 0, i, k, acc, hi, _ => by
    rw [show 0 + 1 + k = k + 1 by omega]
    unfold quality_Black.l0
    rw [if_neg (by omega)]
    simp [bl]
  | n + 1, i, k, acc, hi, ha => by
    rw [show n + 1 + 1 + k = (n + 1 + k) + 1 by omega]
    unfold quality_Black.l0 bl
    rw [if_pos (by omega), if_pos (by omega), if_pos (by omega), wrap_nat i (by omega)]
    by_cases h : rd us (i : Int) = 0
    · rw [if_pos h, if_pos h]
      exact black_loop us lu n (i + 1) k acc (by omega) (by omega)
    · rw [if_neg h, if_neg h, if_pos (by omega), black_loop us lu n (i + 1) k (acc ++ [(i : Int)]) (by omega) (by simp; omega)]
      simp
theorem black_ok (k : Nat) (R : Int) (cs : List S34) (us hs : List Int) (ho : Ok R cs us hs) : quality_Black.f (k + 60) R cs us hs = some (bl us 16 0, 0) := by
  have va := valid_ok (k + 40) R cs us hs ho
  rw [show k + 40 + 20 = k + 60 by omega] at va
  unfold quality_Black.f
  rw [va, Option.bind_some, if_pos rfl]
  have := black_loop us ho.lu 16 0 (k + 43) [] rfl (Nat.le_refl _)
  rw [show 16 + 1 + (k + 43) = k + 60 by omega, List.nil_append] at this
  exact this
theorem black_some (k : Nat) (R : Int) (cs : List S34) (us hs : List Int) : ∃ (r : List Int) (e : Int), quality_Black.f (k + 60) R cs us hs = some (r, e) := by
  by_cases ho : Ok R cs us hs
  · exact ⟨_, _, black_ok k R cs us hs ho⟩
  · have va := valid_dec (k + 40) R cs us hs
    rw [show k + 40 + 20 = k + 60 by omega, if_neg ho] at va
    unfold quality_Black.f
    rw [va, Option.bind_some, if_neg (by decide)]
    exact ⟨_, _, rfl⟩
theorem index_loop (l : List Int) (a : Int) (hl : l.length ≤ 100) : ∀ (n i k : Nat), i + n = l.length →
    ∃ r, slices_Index_int_int.l0 (n + 1 + k) l a (l.length : Int) (i : Int) = some r ∧ (0 ≤ r ↔ a ∈ l.drop i)
  | 0, i, k, hi => by
    refine ⟨-1, ?_, ?_⟩
    · rw [show 0 + 1 + k = k + 1 by omega]
      unfold slices_Index_int_int.l0
      rw [if_neg (by omega)]
    · rw [List.drop_eq_nil_of_le (by omega)]
      simp
  | n + 1, i, k, hi => by
    obtain ⟨r, h1, h2⟩ := index_loop l a hl n (i + 1) k (by omega)
    have hd : l.drop i = rd l (i : Int) :: l.drop (i + 1) := by
      rw [rd_at l i (by omega), List.drop_eq_getElem_cons (show i < l.length by omega)]
    rw [show n + 1 + 1 + k = (n + 1 + k) + 1 by omega]
    unfold slices_Index_int_int.l0
    rw [if_pos (by omega), if_pos (by omega), if_pos (by omega), wrap_nat i (by omega), hd]
    by_cases h : a = rd l (i : Int)
    · rw [if_pos h]
      exact ⟨_, rfl, fun _ => by rw [h]; exact List.mem_cons_self, fun _ => by omega⟩
    · rw [if_neg h]
      refine ⟨r, h1, h2.trans ?_⟩
      rw [List.mem_cons]
      exact ⟨.inr, fun hh => hh.resolve_left h⟩
theorem contains_val (k : Nat) (l : List Int) (a : Int) (hl : l.length ≤ 16) : slices_Contains_int_int.f (k + 20) l a = some (decide (a ∈ l)) := by
  unfold slices_Contains_int_int.f slices_Index_int_int.f
  obtain ⟨r, h1, h2⟩ := index_loop l a (by omega) l.length 0 (k + 19 - l.length) (by omega)
  rw [show l.length + 1 + (k + 19 - l.length) = k + 20 by omega] at h1
  have h1' : slices_Index_int_int.l0 (k + 20) l a (l.length : Int) 0 = some r := h1
  rw [h1', Option.bind_some]
  rw [List.drop_zero] at h2
  by_cases h : a ∈ l
  · rw [decide_eq_true h, decide_eq_true (show r ≥ 0 from h2.mpr h)]
  · rw [decide_eq_false h, decide_eq_false (fun hh : r ≥ 0 => h (h2.mp hh))]
/-! ### The rows behind a closing -/
theorem punish_out2 (R : Int) (j : Nat) : ∀ (q us hs : List Int), (∀ x ∈ q, 0 ≤ x) → (j : Int) ∉ q → rd (punish R q us hs).2 (j : Int) = rd hs (j : Int)
  | [], us, hs, _, _ => rfl
  | x :: q, us, hs, h0, hj => by
    have hx := h0 x List.mem_cons_self
    show rd (punish R q _ _).2 (j : Int) = _
    rw [punish_out2 R j q _ _ (fun y hy => h0 y (List.mem_cons_of_mem _ hy)) (fun h => hj (List.mem_cons_of_mem _ h)), rd_set_ne _ _ _ _ (fun e => hj (by rw [← e, show ((x.toNat : Nat) : Int) = x by omega]; exact List.mem_cons_self))]
theorem punish_at (R : Int) (hR : 0 ≤ R ∧ R ≤ 1073741823) (j : Nat) : ∀ (q us hs : List Int), us.length = 16 → hs.length = 16 → (∀ x ∈ q, 0 ≤ x ∧ x < 16) → q.Nodup → (j : Int) ∈ q →
    rd (punish R q us hs).1 (j : Int) = R + 1 + newHold (rd hs (j : Int)) ∧ rd (punish R q us hs).2 (j : Int) = newHold (rd hs (j : Int))
  | x :: q, us, hs, lu, lh, h0, hn, hj => by
    have hx := h0 x List.mem_cons_self
    have hq : ∀ y ∈ q, 0 ≤ y ∧ y < 16 := fun y hy => h0 y (List.mem_cons_of_mem _ hy)
    obtain ⟨hn1, hn2⟩ := List.nodup_cons.mp hn
    obtain ⟨i, rfl⟩ : ∃ i : Nat, x = (i : Int) := ⟨x.toNat, by omega⟩
    rw [punish_cons R i q us hs (by omega)]
    by_cases e : (i : Int) = (j : Int)
    · have e' : i = j := by omega
      subst e'
      have nh := newHold_in (rd hs (i : Int))
      rw [punish_out R i q _ _ (fun y hy => (hq y hy).1) hn1, punish_out2 R i q _ _ (fun y hy => (hq y hy).1) hn1, rd_set _ _ _ (by omega), rd_set _ _ _ (by omega), wrap_in (R + 1) (by omega), wrap_in _ (by omega)]
      exact ⟨rfl, rfl⟩
    · have hj' := (List.mem_cons.mp hj).resolve_left (fun h => e h.symm)
      have ih := punish_at R hR j q (us.set i (wrap64 (wrap64 (R + 1) + newHold (rd hs (i : Int))))) (hs.set i (newHold (rd hs (i : Int)))) (by rw [List.length_set]; exact lu) (by rw [List.length_set]; exact lh) hq hn2 hj'
      rw [rd_set_ne hs i j _ (by omega)] at ih
      exact ih
theorem unhold_at (j : Nat) : ∀ (q hs : List Int), (∀ x ∈ q, 0 ≤ x) → j < hs.length → rd (unhold q hs) (j : Int) = if (j : Int) ∈ q then 0 else rd hs (j : Int)
  | [], hs, _, _ => by rw [if_neg (by simp)]; rfl
  | x :: q, hs, h0, hj => by
    have hx := h0 x List.mem_cons_self
    obtain ⟨i, rfl⟩ : ∃ i : Nat, x = (i : Int) := ⟨x.toNat, by omega⟩
    have ih := unhold_at j q (hs.set i 0) (fun y hy => h0 y (List.mem_cons_of_mem _ hy)) (by rw [List.length_set]; exact hj)
    show rd (unhold q (hs.set ((i : Int)).toNat 0)) (j : Int) = _
    rw [show ((i : Nat) : Int).toNat = i by omega, ih]
    by_cases e : i = j
    · subst e
      rw [rd_set _ _ _ hj, if_pos (List.mem_cons_self)]
      split <;> rfl
    · rw [rd_set_ne _ _ _ _ e]
      by_cases h : (j : Int) ∈ q
      · rw [if_pos h, if_pos (List.mem_cons_of_mem _ h)]
      · rw [if_neg h, if_neg (fun hh => h ((List.mem_cons.mp hh).resolve_left (by omega)))]
theorem due_at (R : Int) (us : List Int) (j : Nat) : rd (us.map (PureC.due R)) (j : Int) = PureC.due R (rd us (j : Int)) ∨ (us.length ≤ j) := by
  rcases Nat.lt_or_ge j us.length with h | h
  · left
    rw [rd_at _ _ (by rw [List.length_map]; exact h), List.getElem_map, rd_at _ _ h]
  · exact .inr h
theorem zeros_more (a b : List Int) (h : ∀ j : Nat, j < 16 → rd a (j : Int) = 0 → rd b (j : Int) = 0) : ∀ n i, i + n ≤ 16 → zeros a n i ≤ zeros b n i
  | 0, _, _ => Nat.le_refl _
  | n + 1, i, hi => by
    have ih := zeros_more a b h n (i + 1) (by omega)
    have := h i (by omega)
    unfold zeros
    by_cases e : rd a (i : Int) = 0
    · rw [if_pos e, if_pos (this e)]; omega
    · rw [if_neg e]; split <;> omega
theorem zeros_set_le (us : List Int) (i : Nat) (v : Int) : ∀ (n s : Nat), zeros us n s ≤ zeros (us.set i v) n s + (if s ≤ i ∧ i < s + n then 1 else 0)
  | 0, s => by unfold zeros; omega
  | n + 1, s => by
    have ih := zeros_set_le us i v n (s + 1)
    unfold zeros
    by_cases e : s = i
    · subst e
      rw [if_pos (show s ≤ s ∧ s < s + (n + 1) by omega)]
      rw [if_neg (by omega)] at ih
      split <;> split <;> omega
    · rw [rd_set_ne us i s v (fun h => e h.symm)]
      by_cases h : s ≤ i ∧ i < s + (n + 1)
      · rw [if_pos h]
        rw [if_pos (by omega)] at ih
        omega
      · rw [if_neg h]
        rw [if_neg (by omega)] at ih
        omega
theorem zeros_punish (R : Int) : ∀ (q us hs : List Int), zeros us 16 0 ≤ zeros (punish R q us hs).1 16 0 + q.length
  | [], us, hs => by show zeros us 16 0 ≤ zeros us 16 0 + 0; omega
  | x :: q, us, hs => by
    have ih := zeros_punish R q (us.set x.toNat (wrap64 ((wrap64 (R + 1)) + (rd (hs.set x.toNat (mn (mx (wrap64 (2 * (rd hs x))) 1) 64)) x)))) (hs.set x.toNat (mn (mx (wrap64 (2 * (rd hs x))) 1) 64))
    have st := zeros_set_le us x.toNat (wrap64 ((wrap64 (R + 1)) + (rd (hs.set x.toNat (mn (mx (wrap64 (2 * (rd hs x))) 1) 64)) x))) 16 0
    show zeros us 16 0 ≤ zeros (punish R q _ _).1 16 0 + (q.length + 1)
    split at st <;> omega
theorem hold_in (h : Int) (hh : quality_hold.f h = some true) : 0 ≤ h ∧ h ≤ 64 := by
  unfold quality_hold.f at hh
  split at hh
  · split at hh
    · omega
    · cases hh
  · cases hh
theorem hold_next_fin : ∀ a : Fin 65, quality_hold.f ((a.val : Nat) : Int) = some true → quality_hold.f (newHold ((a.val : Nat) : Int)) = some true := by decide +kernel
theorem hold_next (h : Int) (hh : quality_hold.f h = some true) : quality_hold.f (newHold h) = some true := by
  have hi := hold_in h hh
  have := hold_next_fin ⟨h.toNat, by omega⟩
  rw [show (((⟨h.toNat, by omega⟩ : Fin 65).val : Nat) : Int) = h by show ((h.toNat : Nat) : Int) = h; omega] at this
  exact this hh
theorem hold_zero : quality_hold.f 0 = some true := by kernel_rfl
section
variable (R win low high least : Int) (cs : List S34) (us hs : List Int)
def U2 : List Int := (punish R (cut win low least cs us) us hs).1.map (PureC.due (R + 1))
def H2 : List Int := unhold (prvs win low high cs us) (punish R (cut win low least cs us) us hs).2
theorem closeV_eq : closeV win low high least R cs us hs = (R + 1, z16, U2 R win low least cs us hs, H2 R win low high least cs us hs, 0) := rfl
theorem u2_len (lu : us.length = 16) : (U2 R win low least cs us hs).length = 16 := by
  unfold U2
  rw [List.length_map, (punish_len R _ us hs).1, lu]
theorem h2_len (lh : hs.length = 16) : (H2 R win low high least cs us hs).length = 16 := by
  unfold H2
  rw [unhold_len, (punish_len R _ us hs).2, lh]
theorem u2_at (lu : us.length = 16) (j : Nat) (hj : j < 16) : rd (U2 R win low least cs us hs) (j : Int) = PureC.due (R + 1) (rd (punish R (cut win low least cs us) us hs).1 (j : Int)) := by
  rcases due_at (R + 1) (punish R (cut win low least cs us) us hs).1 j with h | h
  · exact h
  · rw [(punish_len R _ us hs).1] at h
    omega
theorem prv_mem (j : Nat) : (j : Int) ∈ prvs win low high cs us ↔ j < 16 ∧ isPrv win low high cs us j = true := by
  unfold prvs
  rw [pick_mem]
  constructor
  · rintro ⟨i, e, _, h1, h2⟩
    have : i = j := by omega
    subst this
    exact ⟨by omega, h2⟩
  · rintro ⟨h1, h2⟩
    exact ⟨j, rfl, Nat.zero_le _, by omega, h2⟩
/-- What a closing makes of a channel. -/
theorem chan (ok : Ok R cs us hs) (hR : R ≤ 1073741823) (j : Nat) (hj : j < 16) :
    (isBad win low cs us j = true ∧ rd us (j : Int) = 0 ∧ rd (U2 R win low least cs us hs) (j : Int) = R + 1 + newHold (rd hs (j : Int)) ∧ rd (H2 R win low high least cs us hs) (j : Int) = newHold (rd hs (j : Int))) ∨
    (rd (U2 R win low least cs us hs) (j : Int) = PureC.due (R + 1) (rd us (j : Int)) ∧ (rd (H2 R win low high least cs us hs) (j : Int) = rd hs (j : Int) ∨ (rd us (j : Int) = 0 ∧ rd (H2 R win low high least cs us hs) (j : Int) = 0))) := by
  have hin : ∀ x ∈ cut win low least cs us, 0 ≤ x ∧ x < 16 := fun x hx => pl_in win low cs us x (List.mem_of_mem_take hx) ok.lc
  have hnd : (cut win low least cs us).Nodup := by
    refine List.Nodup.sublist (List.take_sublist _ _) ?_
    refine (pl_spec R win low cs us hs ok).1.nodup_iff.mpr ((pick_inc _ 16 0).imp fun {a b} h => ?_)
    omega
  have hu := u2_at R win low least cs us hs ok.lu j hj
  have hh := unhold_at j (prvs win low high cs us) (punish R (cut win low least cs us) us hs).2 (fun x hx => (prvs_in win low high cs us x hx).1) (by rw [(punish_len R _ us hs).2, ok.lh]; exact hj)
  by_cases h : (j : Int) ∈ cut win low least cs us
  · left
    have hb := ((pl_mem R win low cs us hs ok j).mp (List.mem_of_mem_take h)).2
    obtain ⟨p1, p2⟩ := punish_at R ⟨ok.r.1, hR⟩ j _ us hs ok.lu ok.lh hin hnd h
    have nh := newHold_in (rd hs (j : Int))
    have hb' := hb
    unfold isBad isOpen at hb'
    simp only [Bool.and_eq_true, Bool.not_eq_true', decide_eq_true_eq, decide_eq_false_iff_not] at hb'
    have np : ¬ (j : Int) ∈ prvs win low high cs us := fun hp => by
      have hp' := ((prv_mem win low high cs us j).mp hp).2
      unfold isPrv at hp'
      simp only [Bool.and_eq_true, Bool.not_eq_true', decide_eq_true_eq, decide_eq_false_iff_not] at hp'
      exact hp'.2.1 hb'.2
    refine ⟨hb, hb'.1.1, ?_, ?_⟩
    · rw [hu, p1]
      unfold PureC.due
      rw [if_neg (by omega)]
    · unfold H2
      rw [hh, if_neg np, p2]
  · right
    have p1 := punish_out R j _ us hs (fun x hx => (hin x hx).1) h
    have p2 := punish_out2 R j _ us hs (fun x hx => (hin x hx).1) h
    rw [hu, p1]
    refine ⟨rfl, ?_⟩
    unfold H2
    rw [hh, p2]
    by_cases hp : (j : Int) ∈ prvs win low high cs us
    · right
      have hp' := ((prv_mem win low high cs us j).mp hp).2
      unfold isPrv isOpen at hp'
      simp only [Bool.and_eq_true, decide_eq_true_eq] at hp'
      rw [if_pos hp]
      exact ⟨hp'.1.1, rfl⟩
    · left
      rw [if_neg hp]
theorem z16_at : ∀ j : Nat, rd_T34 z16 (j : Int) = z34 := by
  intro j
  show (List.replicate 16 z34).getD ((j : Nat) : Int).toNat z34 = z34
  rw [List.getD_eq_getElem?_getD, List.getElem?_replicate]
  split <;> rfl
theorem next_ok (ok : Ok R cs us hs) (hR : R ≤ 1073741823) : Ok (R + 1) z16 (U2 R win low least cs us hs) (H2 R win low high least cs us hs) := by
  refine ⟨by have := ok.r; omega, rfl, u2_len R win low least cs us hs ok.lu, h2_len R win low high least cs us hs ok.lh, fun j hj => ?_⟩
  obtain ⟨_, hh, hu⟩ := ok.each j hj
  refine ⟨by rw [z16_at]; rfl, ?_, ?_⟩
  · rcases chan R win low high least cs us hs ok hR j hj with ⟨_, _, _, h4⟩ | ⟨_, h4 | ⟨_, h4⟩⟩
    · rw [h4]; exact hold_next _ hh
    · rw [h4]; exact hh
    · rw [h4]; exact hold_zero
  · rcases chan R win low high least cs us hs ok hR j hj with ⟨_, _, h3, h4⟩ | ⟨h3, h4⟩
    · have nh := newHold_in (rd hs (j : Int))
      rw [h3, h4]
      exact .inr ⟨by omega, by omega, by omega⟩
    · rw [h3]
      unfold PureC.due
      split
      · exact .inl rfl
      · rename_i hd
        rcases hu with hu | hu
        · have := ok.r; omega
        · rcases h4 with h4 | h4
          · rw [h4]; exact .inr ⟨by omega, by omega, hu.2.2⟩
          · have := ok.r; omega
/-- Enough channels stay free. -/
theorem enough (ok : Ok R cs us hs) (hR : R ≤ 1073741823) (hl : 1 ≤ least ∧ least ≤ 16) (h : ((zeros us 16 0 : Nat) : Int) ≥ least) : ((zeros (U2 R win low least cs us hs) 16 0 : Nat) : Int) ≥ least := by
  have z1 := zeros_punish R (cut win low least cs us) us hs
  have z2 := zeros_more (punish R (cut win low least cs us) us hs).1 (U2 R win low least cs us hs) (fun j hj hz => by
    rw [u2_at R win low least cs us hs ok.lu j hj, hz]
    unfold PureC.due
    rw [if_pos (by have := ok.r; omega)]) 16 0 (by omega)
  have z3 := zeros_le us 16 0
  have lc : ((cut win low least cs us).length : Int) ≤ (zeros us 16 0 : Nat) - least := by
    unfold cut
    rw [List.length_take, wrap_in ((zeros us 16 0 : Nat) - least) (by omega)]
    generalize (sortI cs (bads win low cs us)).length = L
    unfold mx mn
    split
    · split <;> omega
    · omega
  omega
theorem loop (ok : Ok R cs us hs) (hR : R ≤ 1073741823) (L : List Int) (h16 : L.length ≤ 16) (hL : ∀ x ∈ L, ∃ c : Nat, x = (c : Int) ∧ c < 16 ∧ rd (U2 R win low least cs us hs) (c : Int) ≠ 0) :
    ∀ (n i k : Nat), i + n = L.length → hopmeshlaw12_QualityLeaves.l0 (2 * n + 1 + (k + 40)) (bl us 16 0) L (L.length : Int) (i : Int) R cs us hs win low high least (R + 1) z16 (U2 R win low least cs us hs) (H2 R win low high least cs us hs) = some true := by
  intro n
  induction n with
  | zero =>
    intro i k hi
    rw [show 2 * 0 + 1 + (k + 40) = (k + 40) + 1 by omega]
    unfold hopmeshlaw12_QualityLeaves.l0
    rw [if_neg (by omega), none_left k, Option.bind_some]
    rfl
  | succ n ih =>
    intro i k hi
    have ih' := ih (i + 1) k (by omega)
    obtain ⟨c, hc, hc16, hcu⟩ := hL L[i] (List.getElem_mem _)
    have hb16 : (bl us 16 0).length ≤ 16 := by have := bl_zeros us 16 0; omega
    have lu2 := u2_len R win low least cs us hs ok.lu
    have lh2 := h2_len R win low high least cs us hs ok.lh
    have lc := ok.lc
    rw [show 2 * (n + 1) + 1 + (k + 40) = (2 * n + 1 + (k + 40)) + 1 + 1 by omega]
    unfold hopmeshlaw12_QualityLeaves.l0
    rw [if_pos (by omega), if_pos (by omega), if_pos (by omega), rd_at L i (by omega), hc, if_neg (by omega), decide_eq_false (show ¬ ((c : Nat) : Int) ≥ 16 by omega)]
    unfold hopmeshlaw12_QualityLeaves.j3
    have cv := contains_val (2 * n + 1 + (k + 20)) (bl us 16 0) (c : Int) hb16
    rw [show 2 * n + 1 + (k + 20) + 20 = 2 * n + 1 + (k + 40) by omega] at cv
    rw [if_neg (by decide), cv, Option.bind_some, wrap_nat i (by omega), ih']
    by_cases hm : (c : Int) ∈ bl us 16 0
    · rw [decide_eq_true hm, if_pos rfl]
    · have hz : rd us (c : Int) = 0 := by
        by_cases hz : rd us (c : Int) = 0
        · exact hz
        · exact absurd ((bl_mem us (c : Int) 16 0).mpr ⟨c, rfl, by omega, by omega, hz⟩) hm
      rw [decide_eq_false hm, if_neg (by decide), if_pos (by omega), if_pos (by omega)]
      rcases chan R win low high least cs us hs ok hR c hc16 with ⟨b1, _, b3, b4⟩ | ⟨b1, _⟩
      · have hr : quality_Rate.f (rd_T34 cs (c : Int)).f0 (rd_T34 cs (c : Int)).f1 = some (rateV (rd_T34 cs (c : Int)), 0) := by
          unfold quality_Rate.f
          rw [(ok.each c hc16).1, Option.bind_some, if_pos rfl, rate_some, Option.bind_some]
        unfold isBad isOpen at b1
        simp only [Bool.and_eq_true, Bool.not_eq_true', decide_eq_true_eq, decide_eq_false_iff_not] at b1
        have nh := newHold_in (rd hs (c : Int))
        have r0 := ok.r
        rw [hr, Option.bind_some, if_pos rfl, if_neg b1.1.2, if_neg (show ¬ (rateV (rd_T34 cs (c : Int)) ≥ low) by omega), if_pos (by omega), if_pos (by omega), if_pos (by rw [b3, b4, wrap_in _ (by omega)])]
      · rw [hz] at b1
        unfold PureC.due at b1
        rw [if_pos (by have := ok.r; omega)] at b1
        exact absurd b1 hcu
end
theorem close_cases (R win low high least : Int) (cs : List S34) (us hs : List Int) : (∃ e : Int, e ≠ 0 ∧ closeR win low high least R cs us hs = (0, [], [], [], e)) ∨
    (Ok R cs us hs ∧ R ≤ 1073741823 ∧ (1 ≤ least ∧ least ≤ 16) ∧ closeR win low high least R cs us hs = (R + 1, z16, U2 R win low least cs us hs, H2 R win low high least cs us hs, 0)) := by
  unfold closeR
  by_cases ho : Ok R cs us hs
  · rw [if_pos ho]
    split
    · rename_i hr
      split
      · exact .inl ⟨13, by decide, rfl⟩
      · rename_i hm
        exact .inr ⟨ho, by have := ho.r; omega, by omega, closeV_eq R win low high least cs us hs⟩
    · exact .inl ⟨2, by decide, rfl⟩
  · rw [if_neg ho]
    exact .inl ⟨1, by decide, rfl⟩
theorem j0_eq (k : Nat) (b a : List Int) (R : Int) (cs : List S34) (us hs : List Int) (win low high least R2 : Int) (c2 : List S34) (u2 h2 : List Int) : hopmeshlaw12_QualityLeaves.j0 (k + 1) b a false R cs us hs win low high least R2 c2 u2 h2 =
    if wrap64 (16 - (b.length : Int)) ≥ least then hopmeshlaw12_QualityLeaves.j1 k b a (decide (wrap64 (16 - (a.length : Int)) < least)) R cs us hs win low high least R2 c2 u2 h2 else hopmeshlaw12_QualityLeaves.j1 k b a false R cs us hs win low high least R2 c2 u2 h2 := rfl
theorem j1_eq (k : Nat) (b a : List Int) (R : Int) (cs : List S34) (us hs : List Int) (win low high least R2 : Int) (c2 : List S34) (u2 h2 : List Int) : hopmeshlaw12_QualityLeaves.j1 (k + 1) b a false R cs us hs win low high least R2 c2 u2 h2 = hopmeshlaw12_QualityLeaves.l0 k b a (a.length : Int) 0 R cs us hs win low high least R2 c2 u2 h2 := rfl
theorem leaves (k : Nat) (R : Int) (cs : List S34) (us hs : List Int) (win low high least : Int) : hopmeshlaw12_QualityLeaves.f (k + 200) R cs us hs win low high least = some true := by
  have aw := awake_more (k + 100)
  rw [show k + 100 + 100 = k + 200 by omega] at aw
  unfold hopmeshlaw12_QualityLeaves.f
  rw [aw, Option.bind_some, if_pos rfl, few_val, Option.bind_some]
  by_cases hf : cs.length ≤ 20 ∧ us.length ≤ 20 ∧ hs.length ≤ 20
  · obtain ⟨l1, l2, l3⟩ := hf
    rw [decide_eq_true ⟨l1, l2, l3⟩, if_pos rfl, closed_val k win low high least R cs us hs l1 l2 l3, Option.bind_some, copy_val R cs us hs l1 l2 l3, Option.bind_some]
    rcases close_cases R win low high least cs us hs with ⟨e, he, hcl⟩ | ⟨ok, hR, hl, hcl⟩
    · obtain ⟨r, e1, b1⟩ := black_some (k + 140) R cs us hs
      obtain ⟨r2, e2, b2⟩ := black_some (k + 140) 0 [] [] []
      rw [show k + 140 + 60 = k + 200 by omega] at b1 b2
      rw [hcl, b1, Option.bind_some, copy_val 0 [] [] [] (Nat.zero_le _) (Nat.zero_le _) (Nat.zero_le _), Option.bind_some, b2, Option.bind_some, if_neg (show ¬ ((0, [], [], [], e) : Int × List S34 × List Int × List Int × Int).2.2.2.2 = 0 from he)]
      show some (wrap64 (wrap64 (wrap64 (((0 : Nat) : Int) + ((0 : Nat) : Int)) + ((0 : Nat) : Int)) + 0) == 0) = some true
      kernel_rfl
    · have ok2 := next_ok R win low high least cs us hs ok hR
      have b1 := black_ok (k + 140) R cs us hs ok
      have b2 := black_ok (k + 140) (R + 1) z16 _ _ ok2
      have va := valid_ok (k + 180) (R + 1) z16 _ _ ok2
      rw [show k + 140 + 60 = k + 200 by omega] at b1 b2
      rw [show k + 180 + 20 = k + 200 by omega] at va
      have lu2 := ok2.lu
      have lh2 := ok2.lh
      have en := enough R win low least cs us hs ok hR hl
      have z1 := bl_zeros us 16 0
      have z2 := bl_zeros (U2 R win low least cs us hs) 16 0
      have hmem : ∀ x ∈ bl (U2 R win low least cs us hs) 16 0, ∃ c : Nat, x = (c : Int) ∧ c < 16 ∧ rd (U2 R win low least cs us hs) (c : Int) ≠ 0 := fun x hx => by
        obtain ⟨c, e, _, h1, h2⟩ := (bl_mem _ x 16 0).mp hx
        exact ⟨c, e, by omega, h2⟩
      have lp := loop R win low high least cs us hs ok hR (bl (U2 R win low least cs us hs) 16 0) (by omega) hmem (bl (U2 R win low least cs us hs) 16 0).length 0 (k + 157 - 2 * (bl (U2 R win low least cs us hs) 16 0).length) (by omega)
      rw [show 2 * (bl (U2 R win low least cs us hs) 16 0).length + 1 + (k + 157 - 2 * (bl (U2 R win low least cs us hs) 16 0).length + 40) = k + 198 by omega] at lp
      generalize U2 R win low least cs us hs = U at *
      generalize H2 R win low high least cs us hs = H at *
      have e4 : ((H.length : Int) != 16) = false := by simp [lh2]
      rw [hcl, b1, Option.bind_some, copy_val (R + 1) z16 U H (by decide) (by omega) (by omega), Option.bind_some, b2, Option.bind_some, if_pos rfl, if_pos rfl, if_pos rfl, Option.bind_some, va, Option.bind_some, if_pos rfl, if_pos (wrap_in (R + 1) (by have := ok.r; omega)).symm, if_pos (show (cs.length : Int) = 16 by have := ok.lc; omega), if_pos (show (U.length : Int) = 16 by omega), e4, show k + 200 = (k + 199) + 1 by omega]
      show hopmeshlaw12_QualityLeaves.j0 ((k + 199) + 1) (bl us 16 0) (bl U 16 0) false R cs us hs win low high least (R + 1) z16 U H = some true
      rw [j0_eq, wrap_in (16 - ((bl us 16 0).length : Int)) (by omega), wrap_in (16 - ((bl U 16 0).length : Int)) (by omega), show k + 199 = (k + 198) + 1 by omega]
      have last : hopmeshlaw12_QualityLeaves.j1 ((k + 198) + 1) (bl us 16 0) (bl U 16 0) false R cs us hs win low high least (R + 1) z16 U H = some true := by
        rw [j1_eq]
        exact lp
      by_cases hz : 16 - ((bl us 16 0).length : Int) ≥ least
      · rw [if_pos hz, decide_eq_false (show ¬ 16 - ((bl U 16 0).length : Int) < least by have := en (by omega); omega)]
        exact last
      · rw [if_neg hz]
        exact last
  · rw [decide_eq_false hf, if_neg (by decide)]
theorem leaves_walk (n : Int) (A1 : Option Addr) (c1 : Nat) (l1 : List S34) (A2 : Option Addr) (c2 : Nat) (l2 : List Int) (A3 : Option Addr) (c3 : Nat) (l3 : List Int) (a b c d : Int) (w : World)
    (r1 : Kd.C k34 w A1 l1.length l1) (g1 : l1.length ≤ c1) (r2 : Kd.C (Kd.int .i64) w A2 l2.length l2) (g2 : l2.length ≤ c2) (r3 : Kd.C (Kd.int .i64) w A3 l3.length l3) (g3 : l3.length ≤ c3) :
    Calls Try.prog 7 #[.agg #[.int .i64 n, .slice A1 l1.length c1, .slice A2 l2.length c2, .slice A3 l3.length c3], .agg #[.int .i64 a, .int .i64 b, .int .i64 c, .int .i64 d]] w fun e w' => e = .returned (.bool true) ∧ Below w.heap.size w w' :=
  hopmeshlaw12_QualityLeaves.calls 300 n A1 c1 l1 A2 c2 l2 A3 c3 l3 a b c d true w r1 g1 r2 g2 r3 g3 (leaves 100 n l1 l2 l3 a b c d)
end Go.Proofs.Ytnipgplobipeeaa.PureV
