/-
  The plain law InstallNothing: what the law's code computes is true, whatever is complete, whatever commands come. Condition: the slots are bytes, as their type says.
-/
import Derived.Test.YtdigplhjfjchnaaZf3
namespace Go.Proofs.Ytdigplhjfjchnaa.PureN
open Go.RowKit Go.Proofs.Ytdigplhjfjchnaa.PQ Go.Proofs.YtdigplhjfjchnaaW.PrintWords Go.Proofs.YtdigplhjfjchnaaW.PrintLast Go.Proofs.YtdigplhjfjchnaaW.PrintMore
def X : ByteArray := rep32 ⟨#[120]⟩
def Y : ByteArray := rep32 ⟨#[121]⟩
def E : ByteArray := ⟨#[]⟩
theorem id_x : hopmeshlaw49_id.f ⟨#[120]⟩ = some X := by kernel_rfl
theorem id_y : hopmeshlaw49_id.f ⟨#[121]⟩ = some Y := by kernel_rfl
theorem identX : install_identifier.f X = some true := by kernel_rfl
theorem identY : install_identifier.f Y = some true := by kernel_rfl
theorem ident0 : install_identifier.f E = some false := by kernel_rfl
theorem len0 : E.toList = [] := by kernel_rfl
theorem fit0 : install_Check_1.f E = some true := by kernel_rfl
theorem wrap_in (n : Int) (h : -9223372036854775808 ≤ n ∧ n ≤ 9223372036854775807) : wrap64 n = n := by unfold wrap64; omega
theorem wrap_nat (i : Nat) (h : i < 1000000) : wrap64 ((i : Int) + 1) = ((i + 1 : Nat) : Int) := by rw [wrap_in _ (by omega)]; omega
theorem wrap_pred (i : Nat) (h : i < 1000000) : wrap64 (((i + 1 : Nat) : Int) - 1) = (i : Int) := by rw [wrap_in _ (by omega)]; omega
theorem same {a b : ByteArray} (h : a.toList = b.toList) : a = b := by
  rw [ByteArray.toList_eq, ByteArray.toList_eq] at h
  exact ByteArray.ext (Array.toList_inj.mp h)
theorem ident_ne {a : ByteArray} (h : install_identifier.f a = some true) : ¬ a.toList = ([] : List UInt8) := fun e => by
  have e1 : a = E := same (e.trans len0.symm)
  rw [e1, ident0] at h
  cases h
theorem ident_fit {a : ByteArray} (h : install_identifier.f a = some true) : install_Check_1.f a = some true := by
  unfold install_Check_1.f
  rw [if_neg (ident_ne h), h]
  rfl
theorem in_put {ks : List ByteArray} {s a : ByteArray} (h : a ∈ ks) : a ∈ mput ks s := by
  unfold mput
  split
  · exact h
  · exact List.mem_append_left _ h
theorem put_in {ks : List ByteArray} {s : ByteArray} : s ∈ mput ks s := by
  unfold mput
  split
  · next h => exact mhas_iff.1 h
  · exact List.mem_append_right _ (by simp)
/-- What a device of the law is, at each of its rounds. -/
structure Good (ks : List ByteArray) (r c : ByteArray) (ar : Bool) (nx : ByteArray) (s m : Int) : Prop where
  fr : install_Check_1.f r = some true
  fc : install_Check_1.f c = some true
  kr : r ∈ ks
  kc : c ∈ ks
  num : 0 ≤ m ∧ m ≤ 1048576
  on : ar = true → nx = c ∧ install_identifier.f nx = some true ∧ 1 ≤ s ∧ s ≤ 1073741824
  off : ar = false → nx = E ∧ s = 0
theorem check_ok {ks : List ByteArray} {r c nx : ByteArray} {ar : Bool} {s m : Int} (h : Good ks r c ar nx s m) (k : Nat) : install_Check.f (k + 2) r c ar nx s m = some 0 := by
  have hr := h.fr
  have hc := h.fc
  have hm := h.num
  cases ar
  · obtain ⟨rfl, rfl⟩ := h.off rfl
    simp only [install_Check.f, ident0, Option.bind_some, Bool.false_eq_true, if_false, install_Check.j0, len0, if_true, install_Check.j1, hr, hc, if_neg (show ¬ m < 0 by omega), if_neg (show ¬ m > 1048576 by omega)]
    rfl
  · obtain ⟨rfl, hi, hs⟩ := h.on rfl
    simp only [install_Check.f, hi, Option.bind_some, if_true, ge_iff_le, hs.1, install_Check.j0, if_neg (ident_ne hi), install_Check.j1, hr, hc, decide_eq_true hs.2, if_neg (show ¬ m < 0 by omega), if_neg (show ¬ m > 1048576 by omega)]
theorem complete_ok {ks : List ByteArray} {r c nx : ByteArray} {ar : Bool} {s m : Int} (h : Good ks r c ar nx s m) (k : Nat) (name : ByteArray) (hn : install_identifier.f name = some true) :
    ∃ ar' nx' s', install_Complete.f (k + 4) r c ar nx s m name = some (r, name, ar', nx', s', m, 0) ∧ Good (mput ks name) r name ar' nx' s' m := by
  have off : Good (mput ks name) r name false E 0 m := ⟨h.fr, ident_fit hn, in_put h.kr, put_in, h.num, fun e => (by cases e), fun _ => ⟨rfl, rfl⟩⟩
  unfold install_Complete.f
  rw [check_ok h (k + 2), Option.bind_some, if_pos rfl, hn, Option.bind_some]
  rw [install_Complete.j0]
  rw [if_neg (by decide)]
  cases ar
  · obtain ⟨rfl, rfl⟩ := h.off rfl
    rw [if_neg (by decide)]
    exact ⟨false, E, 0, rfl, off⟩
  · obtain ⟨rfl, hi, hs⟩ := h.on rfl
    rw [if_pos rfl]
    by_cases e : nx.toList = name.toList
    · rw [if_pos e]
      have e1 := same e
      exact ⟨true, nx, s, rfl, h.fr, ident_fit hn, in_put h.kr, put_in, h.num, fun _ => ⟨e1, hi, hs⟩, fun e => (by cases e)⟩
    · rw [if_neg e]
      exact ⟨false, E, 0, rfl, off⟩
theorem list_loop (l : List Int) (hl : l.length ≤ 40) : ∀ (n i K : Nat), i + n = l.length → n + 1 ≤ K → ∃ b, install_list.l0 K l l (l.length : Int) (i : Int) = some b := by
  intro n
  induction n with
  | zero =>
    intro i K hi hK
    obtain ⟨k, rfl⟩ : ∃ k, K = k + 1 := ⟨K - 1, by omega⟩
    rw [install_list.l0]
    rw [if_neg (by omega)]
    exact ⟨_, rfl⟩
  | succ n ih =>
    intro i K hi hK
    obtain ⟨k, rfl⟩ : ∃ k, K = k + 1 := ⟨K - 1, by omega⟩
    rw [install_list.l0]
    rw [if_pos (show (i : Int) < (l.length : Int) by omega), if_pos (show (0 : Int) ≤ (i : Int) by omega), if_pos (show (i : Int) < (l.length : Int) by omega), wrap_nat i (by omega)]
    have good := ih (i + 1) k (by omega) (by omega)
    by_cases h1 : rd l (i : Int) < 0
    · rw [if_pos h1]; exact ⟨_, rfl⟩
    · rw [if_neg h1]
      by_cases h2 : rd l (i : Int) ≥ 32
      · rw [if_pos h2]; exact ⟨_, rfl⟩
      · rw [if_neg h2]
        by_cases h3 : (i : Int) > 0
        · obtain ⟨m, rfl⟩ : ∃ m, i = m + 1 := ⟨i - 1, by omega⟩
          rw [if_pos h3, wrap_pred m (by omega), if_pos (show (0 : Int) ≤ (m : Int) by omega), if_pos (show (m : Int) < (l.length : Int) by omega)]
          by_cases h4 : rd l (m : Int) ≥ rd l ((m + 1 : Nat) : Int)
          · rw [if_pos h4]; exact ⟨_, rfl⟩
          · rw [if_neg h4]; exact good
        · rw [if_neg h3]; exact good
theorem index_loop (l : List Int) (x : Int) (hl : l.length ≤ 40) : ∀ (d i K : Nat), i + d = l.length → d + 1 ≤ K → ∃ r : Int, slices_Index_int_int.l0 K l x (l.length : Int) (i : Int) = some r := by
  intro d
  induction d with
  | zero =>
    intro i K hi hK
    obtain ⟨k, rfl⟩ : ∃ k, K = k + 1 := ⟨K - 1, by omega⟩
    rw [slices_Index_int_int.l0]
    rw [if_neg (by omega)]
    exact ⟨-1, rfl⟩
  | succ d ih =>
    intro i K hi hK
    obtain ⟨k, rfl⟩ : ∃ k, K = k + 1 := ⟨K - 1, by omega⟩
    rw [slices_Index_int_int.l0]
    rw [if_pos (show (i : Int) < (l.length : Int) by omega), if_pos (show (0 : Int) ≤ (i : Int) by omega), if_pos (show (i : Int) < (l.length : Int) by omega), wrap_nat i (by omega)]
    by_cases c : x = rd l (i : Int)
    · rw [if_pos c]; exact ⟨(i : Int), rfl⟩
    · rw [if_neg c]; exact ih (i + 1) k (by omega) (by omega)
theorem list_total (l : List Int) (hl : l.length ≤ 40) (K : Nat) (hK : 41 ≤ K) : ∃ b, install_list.f K l = some b := list_loop l hl l.length 0 K (by omega) (by omega)
theorem has_total (l : List Int) (x : Int) (hl : l.length ≤ 40) (K : Nat) (hK : 41 ≤ K) : ∃ b, take_contains.f K l x = some b := by
  obtain ⟨r, h⟩ := index_loop l x hl l.length 0 K (by omega) (by omega)
  have h' : slices_Index_int_int.f K l x = some r := h
  unfold take_contains.f
  rw [h', Option.bind_some]
  exact ⟨_, rfl⟩
theorem command_total (n kd sl : Int) (id : ByteArray) (l : List Int) (hl : l.length ≤ 40) (K : Nat) (hK : 42 ≤ K) :
    ∃ b, install_command.f K n kd sl id l = some b ∧ (b = true → 1 ≤ n ∧ n ≤ 1048576 ∧ install_identifier.f id = some true ∧ (kd ≠ 2 → 1 ≤ sl ∧ sl ≤ 1073741824)) := by
  obtain ⟨k, rfl⟩ : ∃ k, K = k + 1 := ⟨K - 1, by omega⟩
  have bad : ∃ b, install_command.j0 (k + 1) true n kd sl id l = some b ∧ (b = true → 1 ≤ n ∧ n ≤ 1048576 ∧ install_identifier.f id = some true ∧ (kd ≠ 2 → 1 ≤ sl ∧ sl ≤ 1073741824)) := by
    rw [install_command.j0]
    rw [if_pos rfl]
    exact ⟨false, rfl, fun e => (by cases e)⟩
  unfold install_command.f
  by_cases h1 : n < 1
  · rw [if_pos h1]; exact bad
  rw [if_neg h1]
  by_cases h2 : n > 1048576
  · rw [if_pos h2]; exact bad
  rw [if_neg h2]
  obtain ⟨b, hb⟩ : ∃ b, install_identifier.f id = some b := ⟨_, rfl⟩
  rw [hb] at bad
  rw [hb, Option.bind_some]
  cases b
  · rw [if_neg (by decide)]; exact bad
  rw [if_pos rfl]
  obtain ⟨t, ht⟩ := list_total l hl (k + 1) (by omega)
  rw [ht, Option.bind_some]
  cases t
  · exact bad
  rw [install_command.j0]
  rw [if_neg (by decide)]
  by_cases h3 : kd = 1
  · rw [if_pos h3]
    by_cases h4 : sl ≥ 1
    · rw [if_pos h4]
      exact ⟨_, rfl, fun e => ⟨by omega, by omega, rfl, fun _ => ⟨h4, of_decide_eq_true e⟩⟩⟩
    · rw [if_neg h4]
      exact ⟨false, rfl, fun e => (by cases e)⟩
  · rw [if_neg h3]
    by_cases h4 : kd = 2
    · rw [if_pos h4]
      exact ⟨_, rfl, fun _ => ⟨by omega, by omega, rfl, fun h => absurd h4 h⟩⟩
    · rw [if_neg h4]
      exact ⟨false, rfl, fun e => (by cases e)⟩
theorem take_ok {ks : List ByteArray} {r c nx : ByteArray} {ar : Bool} {s m : Int} (h : Good ks r c ar nx s m) (k : Nat) (n kd sl : Int) (id : ByteArray) (l : List Int) (hl : l.length ≤ 40) (now : Int) (hn : 0 ≤ now ∧ now ≤ 1073741824) :
    ∃ r' c' ar' nx' s' m' e, install_Take.f (k + 60) r c ar nx s m n kd sl id l 1 now = some (r', c', ar', nx', s', m', e) ∧ (e = 1 ∨ Good ks r' c' ar' nx' s' m') := by
  unfold install_Take.f
  rw [check_ok h (k + 58), Option.bind_some, if_pos rfl]
  obtain ⟨b, hb, hc⟩ := command_total n kd sl id l hl (k + 60) (by omega)
  rw [hb, Option.bind_some]
  rw [install_Take.j0]
  cases b
  · rw [if_pos (show (!false) = true from rfl)]
    exact ⟨_, _, _, _, _, _, _, rfl, .inl rfl⟩
  obtain ⟨n1, n2, hid, hsl⟩ := hc rfl
  rw [if_neg (by decide), if_neg (by decide), if_neg (by decide), if_neg (show ¬ now < 0 by omega)]
  rw [install_Take.j1]
  rw [if_neg (by rw [decide_eq_true_eq]; omega)]
  by_cases h1 : n ≤ m
  · rw [if_pos h1]
    exact ⟨_, _, _, _, _, _, _, rfl, .inr h⟩
  rw [if_neg h1]
  obtain ⟨t, ht⟩ := has_total l 1 hl (k + 58) (by omega)
  rw [ht, Option.bind_some]
  have up : Good ks r c ar nx s n := ⟨h.fr, h.fc, h.kr, h.kc, by omega, h.on, h.off⟩
  cases t
  · rw [if_neg (by decide)]
    exact ⟨_, _, _, _, _, _, _, rfl, .inr up⟩
  rw [if_pos rfl]
  by_cases h2 : kd = 2
  · rw [if_pos h2]
    by_cases h3 : ar = true
    · rw [if_pos h3]
      by_cases h4 : nx.toList = id.toList
      · rw [if_pos h4]
        exact ⟨r, c, false, E, 0, n, 0, rfl, .inr ⟨h.fr, h.fc, h.kr, h.kc, by omega, fun e => (by cases e), fun _ => ⟨rfl, rfl⟩⟩⟩
      · rw [if_neg h4]
        exact ⟨_, _, _, _, _, _, _, rfl, .inr up⟩
    · rw [if_neg h3]
      exact ⟨_, _, _, _, _, _, _, rfl, .inr up⟩
  · rw [if_neg h2]
    by_cases h3 : c.toList = id.toList
    · rw [if_pos h3]
      by_cases h4 : sl ≤ now
      · rw [if_pos h4]
        exact ⟨_, _, _, _, _, _, _, rfl, .inr up⟩
      · rw [if_neg h4]
        exact ⟨r, c, true, id, sl, n, 0, rfl, .inr ⟨h.fr, h.fc, h.kr, h.kc, by omega, fun _ => ⟨(same h3).symm, hid, hsl h2⟩, fun e => (by cases e)⟩⟩
    · rw [if_neg h3]
      exact ⟨_, _, _, _, _, _, _, rfl, .inr up⟩
theorem step_ok {ks : List ByteArray} {r c nx : ByteArray} {ar : Bool} {s m : Int} (h : Good ks r c ar nx s m) (k : Nat) (now : Int) (hn : 0 ≤ now ∧ now ≤ 1073741824) :
    ∃ r' c' ar' nx' s' m' st, install_Step.f (k + 4) r c ar nx s m now = some (r', c', ar', nx', s', m', st, 0) ∧ Good ks r' c' ar' nx' s' m' ∧ (st = true → ar = true) := by
  unfold install_Step.f
  rw [check_ok h (k + 2), Option.bind_some, if_pos rfl, if_neg (show ¬ now < 0 by omega)]
  rw [install_Step.j0]
  rw [if_neg (by rw [decide_eq_true_eq]; omega)]
  cases ar
  · rw [if_neg (by decide)]
    rw [install_Step.j1]
    rw [if_pos rfl]
    exact ⟨_, _, _, _, _, _, _, rfl, h, fun e => e⟩
  obtain ⟨e1, hi, hs⟩ := h.on rfl
  rw [if_pos rfl]
  rw [install_Step.j1]
  by_cases h1 : now < s
  · rw [if_pos (decide_eq_true h1)]
    exact ⟨_, _, _, _, _, _, _, rfl, h, fun e => (by cases e)⟩
  rw [if_neg (by rw [decide_eq_true_eq]; exact h1)]
  by_cases h2 : now = s
  · rw [if_pos h2]
    exact ⟨_, _, _, _, _, _, _, rfl, ⟨ident_fit hi, h.fc, e1 ▸ h.kc, h.kc, h.num, fun e => (by cases e), fun _ => ⟨rfl, rfl⟩⟩, fun _ => rfl⟩
  · rw [if_neg h2]
    exact ⟨_, _, _, _, _, _, _, rfl, ⟨h.fr, h.fc, h.kr, h.kc, h.num, fun e => (by cases e), fun _ => ⟨rfl, rfl⟩⟩, fun _ => rfl⟩
section
variable (l0 : List Bool) (l1 : List S36) (l2 : List Int) (N : Int)
/-- The rest of the loop, from whatever device that is good. -/
def Rest (K : Nat) (now i : Int) (ks : List ByteArray) : Prop := ∀ r c ar nx s m, Good ks r c ar nx s m → hopmeshlaw49_InstallNothing.l0 K l0 l1 l2 now N i ks E false E 0 0 r c ar nx s m = some true
theorem at_j5 {K : Nat} {now i : Int} {ks : List ByteArray} (hK : 10 ≤ K) (hn : 0 ≤ now ∧ now ≤ 1073741824) (ih : Rest l0 l1 l2 N K now (wrap64 (i + 1)) ks) {r c nx : ByteArray} {ar : Bool} {s m : Int} (h : Good ks r c ar nx s m) :
    hopmeshlaw49_InstallNothing.j5 (K + 1) l0 l1 l2 now N i ks E false E 0 0 r c ar nx s m = some true := by
  obtain ⟨r', c', ar', nx', s', m', st, e, g, hst⟩ := step_ok h (K - 4) now hn
  rw [show K - 4 + 4 = K by omega] at e
  have ck := check_ok g (K - 2)
  rw [show K - 2 + 2 = K by omega] at ck
  rw [hopmeshlaw49_InstallNothing.j5]
  rw [e, Option.bind_some]
  dsimp only
  rw [if_pos rfl, if_pos (mhas_iff.2 g.kr)]
  cases st
  · rw [if_neg (by decide), ck, Option.bind_some, if_pos rfl]
    exact ih _ _ _ _ _ _ g
  · rw [if_pos rfl, if_pos (hst rfl), ck, Option.bind_some, if_pos rfl]
    exact ih _ _ _ _ _ _ g
theorem at_j4 {K : Nat} {now : Int} {i : Nat} {ks : List ByteArray} (hK : 70 ≤ K) (hn : 0 ≤ now ∧ now ≤ 1073741824) (ih : Rest l0 l1 l2 N K now (wrap64 ((i : Int) + 1)) ks) (b : Bool) (hb : b = true → (i : Int) < (l1.length : Int) ∧ (rd_T36 l1 (i : Int)).f4.length ≤ 40) {r c nx : ByteArray} {ar : Bool} {s m : Int} (h : Good ks r c ar nx s m) :
    hopmeshlaw49_InstallNothing.j4 (K + 2) l0 l1 l2 now (i : Int) N (i : Int) b ks E false E 0 0 r c ar nx s m = some true := by
  rw [hopmeshlaw49_InstallNothing.j4]
  cases b
  · rw [if_neg (by decide)]
    exact at_j5 l0 l1 l2 N (by omega) hn ih h
  · obtain ⟨h1, h2⟩ := hb rfl
    rw [if_pos rfl, if_pos (by omega), if_pos h1]
    obtain ⟨r', c', ar', nx', s', m', e, ht, g⟩ := take_ok h (K + 1 - 60) (rd_T36 l1 (i : Int)).f0 (rd_T36 l1 (i : Int)).f1 (rd_T36 l1 (i : Int)).f2 (rd_T36 l1 (i : Int)).f3 (rd_T36 l1 (i : Int)).f4 h2 now hn
    rw [show K + 1 - 60 + 60 = K + 1 by omega] at ht
    rw [ht, Option.bind_some]
    dsimp only
    by_cases c1 : e = 1
    · rw [if_pos c1]
      exact at_j5 l0 l1 l2 N (by omega) hn ih h
    · rw [if_neg c1]
      exact at_j5 l0 l1 l2 N (by omega) hn ih (g.resolve_left c1)
theorem at_j3 {K : Nat} {now : Int} {i : Nat} {ks : List ByteArray} (hK : 70 ≤ K) (hn : 0 ≤ now ∧ now ≤ 1073741824) (ih : Rest l0 l1 l2 N K now (wrap64 ((i : Int) + 1)) ks) {r c nx : ByteArray} {ar : Bool} {s m : Int} (h : Good ks r c ar nx s m) :
    hopmeshlaw49_InstallNothing.j3 (K + 3) l0 l1 l2 now (i : Int) N (i : Int) ks E false E 0 0 r c ar nx s m = some true := by
  rw [hopmeshlaw49_InstallNothing.j3]
  by_cases h1 : (i : Int) < (l1.length : Int)
  · rw [if_pos h1, if_pos (by omega)]
    obtain ⟨b, hb, hc⟩ : ∃ b, hopmeshref49_Few.f (rd_T36 l1 (i : Int)).f0 (rd_T36 l1 (i : Int)).f1 (rd_T36 l1 (i : Int)).f2 (rd_T36 l1 (i : Int)).f3 (rd_T36 l1 (i : Int)).f4 = some b ∧ (b = true → (rd_T36 l1 (i : Int)).f4.length ≤ 40) := by
      unfold hopmeshref49_Few.f
      split
      · exact ⟨_, rfl, fun e => by have := of_decide_eq_true e; omega⟩
      · exact ⟨false, rfl, fun e => (by cases e)⟩
    rw [hb, Option.bind_some]
    exact at_j4 l0 l1 l2 N hK hn ih b (fun e => ⟨h1, hc e⟩) h
  · rw [if_neg h1]
    exact at_j4 l0 l1 l2 N hK hn ih false (fun e => by cases e) h
theorem at_j2 {K : Nat} {now : Int} {i : Nat} {ks : List ByteArray} (hK : 70 ≤ K) (hn : 0 ≤ now ∧ now ≤ 1073741824) (ih : ∀ ks, Rest l0 l1 l2 N K now (wrap64 ((i : Int) + 1)) ks) {r c nx : ByteArray} {ar : Bool} {s m : Int} (h : Good ks r c ar nx s m) :
    hopmeshlaw49_InstallNothing.j2 (K + 4) l0 l1 l2 now (i : Int) N (i : Int) ks E false E 0 0 r c ar nx s m = some true := by
  rw [hopmeshlaw49_InstallNothing.j2]
  by_cases h1 : (i : Int) < (l0.length : Int)
  · rw [if_pos h1, id_x, Option.bind_some, if_pos (by omega)]
    by_cases h2 : rdOf false l0 (i : Int) = true
    · rw [if_pos h2, id_y, Option.bind_some]
      obtain ⟨ar', nx', s', e, g⟩ := complete_ok h (K + 3 - 4) Y identY
      rw [show K + 3 - 4 + 4 = K + 3 by omega] at e
      rw [e, Option.bind_some]
      dsimp only
      rw [if_pos rfl]
      exact at_j3 l0 l1 l2 N hK hn (ih _) g
    · rw [if_neg h2]
      obtain ⟨ar', nx', s', e, g⟩ := complete_ok h (K + 3 - 4) X identX
      rw [show K + 3 - 4 + 4 = K + 3 by omega] at e
      rw [e, Option.bind_some]
      dsimp only
      rw [if_pos rfl]
      exact at_j3 l0 l1 l2 N hK hn (ih _) g
  · rw [if_neg h1]
    exact at_j3 l0 l1 l2 N hK hn (ih _) h
end
theorem rd_byte (l : List Int) (h : ∀ x ∈ l, 0 ≤ x ∧ x ≤ 255) (i : Int) : 0 ≤ rd l i ∧ rd l i ≤ 255 := by
  unfold rd
  rw [List.getD_eq_getElem?_getD]
  cases e : l[i.toNat]? with
  | none => exact ⟨by decide, by decide⟩
  | some x => exact h x (List.mem_of_getElem? e)
theorem rounds (l0 : List Bool) (l1 : List S36) (l2 : List Int) (hb : ∀ x ∈ l2, 0 ≤ x ∧ x ≤ 255) (n : Nat) (hn : n ≤ 30) : ∀ (d i K : Nat) (now : Int) (ks : List ByteArray), i + d = n → 5 * d + 100 ≤ K → 0 ≤ now ∧ now ≤ 7 * (i : Int) → Rest l0 l1 l2 (n : Int) K now (i : Int) ks := by
  intro d
  induction d with
  | zero =>
    intro i K now ks hi hK hnow r c ar nx s m h
    obtain ⟨k, rfl⟩ : ∃ k, K = k + 1 := ⟨K - 1, by omega⟩
    rw [hopmeshlaw49_InstallNothing.l0]
    rw [if_neg (by omega)]
  | succ d ih =>
    intro i K now ks hi hK hnow r c ar nx s m h
    obtain ⟨k, rfl⟩ : ∃ k, K = k + 5 := ⟨K - 5, by omega⟩
    have next : ∀ now', 0 ≤ now' ∧ now' ≤ 7 * ((i + 1 : Nat) : Int) → ∀ ks, Rest l0 l1 l2 (n : Int) k now' (wrap64 ((i : Int) + 1)) ks := fun now' h' ks => by
      rw [wrap_nat i (by omega)]
      exact ih (i + 1) k now' ks (by omega) (by omega) h'
    rw [hopmeshlaw49_InstallNothing.l0]
    rw [if_pos (show (i : Int) < (n : Int) by omega)]
    by_cases h1 : (i : Int) < (l2.length : Int)
    · rw [if_pos h1, if_pos (by omega)]
      have b := rd_byte l2 hb (i : Int)
      have t0 : 0 ≤ Int.tmod (rd l2 (i : Int)) 8 := Int.tmod_nonneg _ b.1
      have t1 : Int.tmod (rd l2 (i : Int)) 8 < 8 := Int.tmod_lt_of_pos _ (by decide)
      rw [wrap_in (Int.tmod (rd l2 (i : Int)) 8) (by omega), wrap_in _ (by omega)]
      exact at_j2 l0 l1 l2 (n : Int) (by omega) (by omega) (next _ (by omega)) h
    · rw [if_neg h1]
      exact at_j2 l0 l1 l2 (n : Int) (by omega) (by omega) (next _ (by omega)) h
theorem awake (k : Nat) : hopmeshlaw49_awake.f (k + 62) = some true := by kernel_rfl
theorem nothing (l0 : List Bool) (l1 : List S36) (l2 : List Int) (hb : ∀ x ∈ l2, 0 ≤ x ∧ x ≤ 255) : hopmeshlaw49_InstallNothing.f 300 l0 l1 l2 = some true := by
  have aw : hopmeshlaw49_awake.f 300 = some true := awake 238
  have big : hopmeshlaw49_InstallNothing.j0 300 l0 l1 l2 true = some true := by
    rw [hopmeshlaw49_InstallNothing.j0]
    rw [if_pos rfl, show hopmeshlaw49_awake.f 299 = some true from awake 237, Option.bind_some]
  unfold hopmeshlaw49_InstallNothing.f
  rw [aw, Option.bind_some, if_pos rfl]
  by_cases h0 : (l0.length : Int) > 30
  · rw [if_pos h0]; exact big
  rw [if_neg h0]
  by_cases h1 : (l1.length : Int) > 30
  · rw [if_pos h1]; exact big
  rw [if_neg h1]
  by_cases h2 : (l2.length : Int) > 30
  · rw [decide_eq_true h2]; exact big
  rw [decide_eq_false h2]
  rw [hopmeshlaw49_InstallNothing.j0]
  rw [if_neg (by decide)]
  obtain ⟨n, hn, e⟩ : ∃ n : Nat, n ≤ 30 ∧ mx (l0.length : Int) (l1.length : Int) = (n : Int) := by
    unfold mx
    split
    · exact ⟨l1.length, by omega, rfl⟩
    · exact ⟨l0.length, by omega, rfl⟩
  rw [e]
  exact rounds l0 l1 l2 hb n hn n 0 299 0 [E] (by omega) (by omega) (by omega) E E false E 0 0 ⟨fit0, fit0, by simp, by simp, by omega, fun e => (by cases e), fun _ => ⟨rfl, rfl⟩⟩
end Go.Proofs.Ytdigplhjfjchnaa.PureN
