/- The plain law InstallAgreed, and its walk joined to it. Conditions: the two numbers and the deliveries' fields are bytes, as their types say. -/
import Derived.Test.YtdigplhjfjchnaaZf11
import Derived.Test.YtdigplhjfjchnaaZf12
import Derived.Test.YtdigplhjfjchnaaZf14
import Derived.Test.YtdigplhjfjchnaaZf15
import Derived.Test.YtdigplhjfjchnaaSorts
import Derived.Test.YtdigplhjfjchnaaZf6d
import Derived.Test.YtdigplhjfjchnaaZf6
namespace Go.Proofs.Ytdigplhjfjchnaa.PureD
open Go.RowKit Go.Proofs.Ytdigplhjfjchnaa.PQ Go.Proofs.YtdigplhjfjchnaaW.PrintWords Go.Proofs.YtdigplhjfjchnaaW.PrintLast Go.Proofs.YtdigplhjfjchnaaW.PrintMore
def X : ByteArray := rep32 ⟨#[120]⟩
def E : ByteArray := ⟨#[]⟩
/-- The nodes 0 to n - 1. -/
def nodes (n : Nat) : List Int := (List.range n).map Int.ofNat
/-- What may run on a device. -/
def Fit (r : ByteArray) : Prop := install_Check_1.f r = some true
theorem id_x : hopmeshlaw49_id.f ⟨#[120]⟩ = some X := by kernel_rfl
theorem identX : install_identifier.f X = some true := by kernel_rfl
theorem ident0 : install_identifier.f E = some false := by kernel_rfl
theorem fitX : Fit X := by unfold Fit; kernel_rfl
theorem fit0 : Fit E := by unfold Fit; kernel_rfl
theorem wrap_in (n : Int) (h : -9223372036854775808 ≤ n ∧ n ≤ 9223372036854775807) : wrap64 n = n := by unfold wrap64; omega
theorem wrap_nat (i : Nat) (h : i < 1000000) : wrap64 ((i : Int) + 1) = ((i + 1 : Nat) : Int) := by rw [wrap_in _ (by omega)]; omega
theorem lenX : X.toList.length = 32 := by kernel_rfl
theorem len0 : E.toList = [] := by kernel_rfl
theorem x_ne : ¬ (X.toList = ([] : List UInt8)) := fun h => by have := lenX; rw [h] at this; cases this
theorem x_ne0 : ¬ (X.toList = E.toList) := fun h => by rw [len0] at h; exact x_ne h
theorem x_ne1 : ¬ (E.toList = X.toList) := fun h => x_ne0 h.symm
theorem nodes_list (n : Nat) (h1 : 1 ≤ n) (h : n ≤ 8) (K : Nat) (hK : 12 ≤ K) : install_list.f K (nodes n) = some true :=
  at_rounds (install_list.mono _) hK ((show ∀ n, n < 9 → 1 ≤ n → install_list.f 12 (nodes n) = some true by decide +kernel) n (by omega) h1)
theorem nodes_index (n i : Nat) (hi : i < n) (h : n ≤ 8) (K : Nat) (hK : 12 ≤ K) : slices_Index_int_int.f K (nodes n) (i : Int) = some (i : Int) :=
  at_rounds (slices_Index_int_int.mono _ _) hK ((show ∀ n, n < 9 → ∀ i, i < n → slices_Index_int_int.f 12 (nodes n) (i : Int) = some (i : Int) by decide +kernel) n (by omega) i hi)
theorem nodes_length (n : Nat) : (nodes n).length = n := by unfold nodes; rw [List.length_map, List.length_range]
theorem nodes_succ (n : Nat) : nodes n ++ [(n : Int)] = nodes (n + 1) := by unfold nodes; rw [List.range_succ, List.map_append]; rfl
/-- A device that is not armed checks well. -/
theorem idle (k : Nat) (r : ByteArray) (hr : Fit r) (m : Int) (h : 0 ≤ m ∧ m ≤ 1048576) : install_Check.f (k + 2) r X false E 0 m = some 0 := by
  unfold Fit at hr
  have hx := fitX
  unfold Fit at hx
  simp only [install_Check.f, ident0, Option.bind_some, Bool.false_eq_true, if_false, install_Check.j0, len0, if_true, install_Check.j1, hr, hx, if_neg (show ¬ m < 0 by omega), if_neg (show ¬ m > 1048576 by omega)]
  rfl
/-- A device that is armed with the image for a slot of the range checks well. -/
theorem armed (k : Nat) (r : ByteArray) (hr : Fit r) (s m : Int) (hs : 1 ≤ s ∧ s ≤ 1073741824) (h : 0 ≤ m ∧ m ≤ 1048576) : install_Check.f (k + 2) r X true X s m = some 0 := by
  unfold Fit at hr
  have hx := fitX
  unfold Fit at hx
  simp only [install_Check.f, identX, Option.bind_some, if_true, ge_iff_le, hs.1, install_Check.j0, if_neg x_ne, install_Check.j1, hr, hx, decide_eq_true hs.2, if_neg (show ¬ m < 0 by omega), if_neg (show ¬ m > 1048576 by omega)]
theorem order_ok (n : Nat) (h1 : 1 ≤ n) (h : n ≤ 8) (k : Nat) (hk : 12 ≤ k) (s : Int) (hs : 1 ≤ s ∧ s ≤ 1073741824) : install_command.f (k + 1) 1 1 s X (nodes n) = some true := by
  simp only [install_command.f, if_neg (show ¬ (1 : Int) < 1 by omega), if_neg (show ¬ (1 : Int) > 1048576 by omega), identX, Option.bind_some, if_true, nodes_list n h1 h (k + 1) (by omega), install_command.j0, Bool.not_true, Bool.false_eq_true, if_false, ge_iff_le, hs.1, decide_eq_true hs.2]
theorem meant (n i : Nat) (hi : i < n) (h : n ≤ 8) (K : Nat) (hK : 12 ≤ K) : take_contains.f K (nodes n) (i : Int) = some true := by
  unfold take_contains.f
  rw [nodes_index n i hi h K hK, Option.bind_some, decide_eq_true (show (i : Int) ≥ 0 by omega)]
section
variable (k n i : Nat) (r : ByteArray) (s now : Int)
/-- A device that took no command yet takes the command to start. -/
theorem take_first (hr : Fit r) (h : n ≤ 8) (hi : i < n) (hs : 1 ≤ s ∧ s ≤ 1073741824) (hn : 0 ≤ now ∧ now ≤ 1073741824) : install_Take.f (k + 20) r X false E 0 0 1 1 s X (nodes n) i now = some (if now < s then (r, X, true, X, s, 1, 0) else (r, X, false, E, 0, 1, 15)) := by
  have c1 := idle (k + 18) r hr 0 (by omega)
  have c2 := order_ok n (by omega) h (k + 19) (by omega) s hs
  have c3 := meant n i hi h (k + 18) (by omega)
  have e : install_Take.f (k + 20) r X false E 0 0 1 1 s X (nodes n) i now = if s ≤ now then some (r, X, false, E, 0, 1, 15) else some (r, X, true, X, s, 1, 0) := by
    unfold install_Take.f
    rw [show k + 18 + 2 = k + 20 by omega] at c1
    rw [show k + 19 + 1 = k + 20 by omega] at c2
    rw [c1, Option.bind_some, if_pos rfl, c2, Option.bind_some, show k + 20 = (k + 18 + 1) + 1 by omega]
    simp only [Bool.not_true, install_Take.j0, Bool.false_eq_true, if_false, if_neg (show ¬ (i : Int) < 0 by omega), if_neg (show ¬ (i : Int) ≥ 32 by omega), if_neg (show ¬ now < 0 by omega), decide_eq_false (show ¬ now > 1073741824 by omega), install_Take.j1, if_neg (show ¬ (1 : Int) ≤ 0 by omega), c3, Option.bind_some, if_true, if_neg (show ¬ (1 : Int) = 2 by omega)]
  rw [e]
  by_cases c : now < s
  · rw [if_neg (by omega), if_pos c]
  · rw [if_pos (by omega), if_neg c]
/-- A device that took the command takes it no second time. -/
theorem take_armed (hr : Fit r) (h : n ≤ 8) (hi : i < n) (hs : 1 ≤ s ∧ s ≤ 1073741824) (hn : 0 ≤ now ∧ now ≤ 1073741824) : install_Take.f (k + 20) r X true X s 1 1 1 s X (nodes n) i now = some (r, X, true, X, s, 1, 23) := by
  have c1 := armed (k + 18) r hr s 1 hs (by omega)
  have c2 := order_ok n (by omega) h (k + 19) (by omega) s hs
  unfold install_Take.f
  rw [show k + 18 + 2 = k + 20 by omega] at c1
  rw [show k + 19 + 1 = k + 20 by omega] at c2
  rw [c1, Option.bind_some, if_pos rfl, c2, Option.bind_some, show k + 20 = (k + 18 + 1) + 1 by omega]
  simp only [Bool.not_true, install_Take.j0, Bool.false_eq_true, if_false, if_neg (show ¬ (i : Int) < 0 by omega), if_neg (show ¬ (i : Int) ≥ 32 by omega), if_neg (show ¬ now < 0 by omega), decide_eq_false (show ¬ now > 1073741824 by omega), install_Take.j1, if_pos (show (1 : Int) ≤ 1 by omega)]
theorem take_idle (hr : Fit r) (h : n ≤ 8) (hi : i < n) (hs : 1 ≤ s ∧ s ≤ 1073741824) (hn : 0 ≤ now ∧ now ≤ 1073741824) : install_Take.f (k + 20) r X false E 0 1 1 1 s X (nodes n) i now = some (r, X, false, E, 0, 1, 23) := by
  have c1 := idle (k + 18) r hr 1 (by omega)
  have c2 := order_ok n (by omega) h (k + 19) (by omega) s hs
  unfold install_Take.f
  rw [show k + 18 + 2 = k + 20 by omega] at c1
  rw [show k + 19 + 1 = k + 20 by omega] at c2
  rw [c1, Option.bind_some, if_pos rfl, c2, Option.bind_some, show k + 20 = (k + 18 + 1) + 1 by omega]
  simp only [Bool.not_true, install_Take.j0, Bool.false_eq_true, if_false, if_neg (show ¬ (i : Int) < 0 by omega), if_neg (show ¬ (i : Int) ≥ 32 by omega), if_neg (show ¬ now < 0 by omega), decide_eq_false (show ¬ now > 1073741824 by omega), install_Take.j1, if_pos (show (1 : Int) ≤ 1 by omega)]
/-- An armed device starts in its slot, and not before. -/
theorem step_start (hr : Fit r) (hs : 1 ≤ s ∧ s ≤ 1073741824) : install_Step.f (k + 4) r X true X s 1 s = some (X, X, false, E, 0, 1, true, 0) := by
  have c1 := armed (k + 2) r hr s 1 hs (by omega)
  have e : (s == s) = true := beq_self_eq_true s
  simp only [install_Step.f, c1, Option.bind_some, if_true, if_neg (show ¬ s < 0 by omega), decide_eq_false (show ¬ s > 1073741824 by omega), install_Step.j0, Bool.false_eq_true, if_false, install_Step.j1, decide_eq_false (show ¬ s < s by omega), install_disarm.f, e]
  rfl
theorem step_wait (hr : Fit r) (hs : 1 ≤ s ∧ s ≤ 1073741824) (hn : 0 ≤ now ∧ now < s) : install_Step.f (k + 4) r X true X s 1 now = some (r, X, true, X, s, 1, false, 0) := by
  have c1 := armed (k + 2) r hr s 1 hs (by omega)
  simp only [install_Step.f, c1, Option.bind_some, if_true, if_neg (show ¬ now < 0 by omega), decide_eq_false (show ¬ now > 1073741824 by omega), install_Step.j0, Bool.false_eq_true, if_false, install_Step.j1, decide_eq_true (show now < s by omega)]
theorem step_idle (hr : Fit r) (m : Int) (hm : 0 ≤ m ∧ m ≤ 1048576) (hn : 0 ≤ now ∧ now ≤ 1073741824) : install_Step.f (k + 4) r X false E 0 m now = some (r, X, false, E, 0, m, false, 0) := by
  have c1 := idle (k + 2) r hr m hm
  simp only [install_Step.f, c1, Option.bind_some, if_true, if_neg (show ¬ now < 0 by omega), decide_eq_false (show ¬ now > 1073741824 by omega), install_Step.j0, Bool.false_eq_true, if_false, install_Step.j1]
end
end Go.Proofs.Ytdigplhjfjchnaa.PureD
namespace Go.Proofs.Ytdigplhjfjchnaa.PureA
open Go.RowKit Go.Proofs.Ytdigplhjfjchnaa.PQ Go.Proofs.YtdigplhjfjchnaaW.PrintWords Go.Proofs.YtdigplhjfjchnaaW.PrintLast Go.Proofs.YtdigplhjfjchnaaW.PrintMore Go.Proofs.Ytdigplhjfjchnaa.PureD
open Go.Proofs.Ytdigplhjfjchnaa.PureS (G)
theorem valid_j0 (k : Nat) (x : ByteArray) (l : List Int) (d t : List Bool) (m s : Int) : install_Valid.j0 (k + 1) false x l d t m s = if m = 0 then (if s = 0 then ((slices_Contains_bool_bool.f k t true).bind fun r => (if r = true then some 1 else some 0)) else some 1) else some 0 := rfl
theorem own_same (x : ByteArray) (l : List Int) (d t : List Bool) (m s : Int) (h1 : l.length ≤ 8) (h2 : d.length ≤ 8) (h3 : t.length ≤ 8) : install_own.f x l d t m s = some (x, l, d, t, m, s) := by
  unfold install_own.f slices_Clone_int_int.f install_own_1.f
  rw [if_pos (by omega), Option.bind_some, if_pos (by omega), Option.bind_some, if_pos (by omega), Option.bind_some]
theorem has_no (n : Nat) (h : n ≤ 8) (b : Bool) (K : Nat) (hK : 12 ≤ K) : slices_Contains_bool_bool.f K (List.replicate n b) (!b) = some false :=
  at_rounds (slices_Contains_bool_bool.mono _ _) hK ((show ∀ n, n < 9 → ∀ b, slices_Contains_bool_bool.f 12 (List.replicate n b) (!b) = some false by decide +kernel) n (by omega) b)
/-- 'Index' finds false where false is. -/
theorem find_false (l : List Bool) (hl : l.length ≤ 8) : ∀ (d i K : Nat), i + d = l.length → d + 1 ≤ K → ∃ r, slices_Index_bool_bool.l0 K l false (l.length : Int) (i : Int) = some r ∧ (r < 0 → ∀ j, i ≤ j → j < l.length → l.getD j false = true) := by
  intro d
  induction d with
  | zero =>
    intro i K hi hK
    obtain ⟨k, rfl⟩ : ∃ k, K = k + 1 := ⟨K - 1, by omega⟩
    unfold slices_Index_bool_bool.l0
    rw [if_neg (by omega)]
    exact ⟨_, rfl, fun _ j h1 h2 => by omega⟩
  | succ d ih =>
    intro i K hi hK
    obtain ⟨k, rfl⟩ : ∃ k, K = k + 1 := ⟨K - 1, by omega⟩
    unfold slices_Index_bool_bool.l0
    rw [if_pos (by omega), if_pos (by omega), if_pos (by omega)]
    cases e : rdOf false l (i : Int) with
    | false => exact ⟨(i : Int), by rw [if_pos (by rfl)], fun h => by omega⟩
    | true =>
      rw [if_neg (by decide), wrap_nat i (by omega)]
      obtain ⟨r, hr, hp⟩ := ih (i + 1) k (by omega) (by omega)
      refine ⟨r, hr, fun h j h1 h2 => ?_⟩
      rcases Nat.eq_or_lt_of_le h1 with h3 | h3
      · subst h3; exact e
      · exact hp h j h3 h2
section
variable (n : Nat) (h1 : 1 ≤ n) (h8 : n ≤ 8) (dn td : List Bool) (hd : dn.length = n) (ht : td.length = n)
include h1 h8 hd ht
theorem valid1 (m s : Int) (hm : 1 ≤ m ∧ m ≤ 1048576) (hs : 0 ≤ s ∧ s ≤ 1073741824) (K : Nat) (hK : 20 ≤ K) : install_Valid.f K X (nodes n) dn td m s = some 0 := by
  obtain ⟨k, rfl⟩ : ∃ k, K = k + 1 := ⟨K - 1, by omega⟩
  have hl := nodes_length n
  unfold install_Valid.f
  rw [identX, Option.bind_some, if_pos rfl, nodes_list n h1 h8 (k + 1) (by omega), Option.bind_some, if_pos rfl, if_pos (by omega), if_pos (by omega), if_neg (by omega), if_neg (by omega), if_neg (by omega), decide_eq_false (by omega)]
  rw [valid_j0, if_neg (by omega)]
theorem find1 (m s : Int) (hm : 1 ≤ m ∧ m ≤ 1048576) (hs : 0 ≤ s ∧ s ≤ 1073741824) (K : Nat) (hK : 20 ≤ K) (i : Nat) (hi : i < n) : install_find.f K X (nodes n) dn td m s i = some (X, nodes n, dn, td, m, s, (i : Int), 0) := by
  unfold install_find.f
  rw [valid1 n h1 h8 dn td hd ht m s hm hs K hK, Option.bind_some, if_pos rfl, nodes_index n i hi h8 K (by omega), Option.bind_some, if_neg (by omega), own_same _ _ _ _ _ _ (by rw [nodes_length]; exact h8) (by omega) (by omega), Option.bind_some]
theorem ack (s : Int) (hs : 0 ≤ s ∧ s ≤ 1073741824) (K : Nat) (hK : 20 ≤ K) (i : Nat) (hi : i < n) : install_Acknowledge.f K X (nodes n) dn td 1 s i 1 = some (X, nodes n, dn, td.set i true, 1, s, 0) := by
  unfold install_Acknowledge.f
  rw [find1 n h1 h8 dn td hd ht 1 s (by omega) hs K hK i hi, Option.bind_some, if_pos rfl, if_pos rfl, if_pos (by omega), if_pos (show 0 ≤ (i : Int) by omega), if_pos (show (i : Int) < (td.length : Int) by omega)]
  rfl
theorem agreed1 (s : Int) (hs : 1 ≤ s ∧ s ≤ 1073741824) (K : Nat) (hK : 20 ≤ K) : ∃ b, install_Agreed.f K X (nodes n) dn td 1 s = some b ∧ (b = true → ∀ j, j < n → td.getD j false = true) := by
  obtain ⟨r, hr, hp⟩ := find_false td (by omega) td.length 0 K (by omega) (by omega)
  refine ⟨!(decide (r ≥ 0)), ?_, fun h j hj => hp (by simpa using h) j (by omega) (by omega)⟩
  unfold install_Agreed.f slices_Contains_bool_bool.f slices_Index_bool_bool.f
  rw [valid1 n h1 h8 dn td hd ht 1 s (by omega) (by omega) K hK, Option.bind_some, if_pos rfl, if_neg (by omega)]
  have hr' : slices_Index_bool_bool.l0 K td false (td.length : Int) 0 = some r := hr
  rw [hr', Option.bind_some, Option.bind_some]
end
section
variable (n : Nat) (h1 : 1 ≤ n) (h8 : n ≤ 8) (dn : List Bool) (hd : dn.length = n)
include h1 h8 hd
theorem valid0 (K : Nat) (hK : 20 ≤ K) : install_Valid.f K X (nodes n) dn (List.replicate n false) 0 0 = some 0 := by
  obtain ⟨k, rfl⟩ : ∃ k, K = k + 1 := ⟨K - 1, by omega⟩
  have hl := nodes_length n
  have hr : (List.replicate n false).length = n := List.length_replicate ..
  have hn := has_no n h8 false k (by omega)
  unfold install_Valid.f
  rw [identX, Option.bind_some, if_pos rfl, nodes_list n h1 h8 (k + 1) (by omega), Option.bind_some, if_pos rfl, if_pos (by omega), if_pos (by omega), if_neg (by omega), if_neg (by omega), if_neg (by omega), decide_eq_false (by omega)]
  rw [valid_j0, if_pos rfl, if_pos rfl]
  rw [Bool.not_false] at hn
  rw [hn, Option.bind_some, if_neg (by decide)]
theorem report (K : Nat) (hK : 20 ≤ K) (i : Nat) (hi : i < n) : install_Report.f K X (nodes n) dn (List.replicate n false) 0 0 i X = some (X, nodes n, dn.set i true, List.replicate n false, 0, 0, 0) := by
  unfold install_Report.f install_find.f
  rw [valid0 n h1 h8 dn hd K hK, Option.bind_some, if_pos rfl, nodes_index n i hi h8 K (by omega), Option.bind_some, if_neg (by omega), own_same _ _ _ _ _ _ (by rw [nodes_length]; exact h8) (by omega) (by rw [List.length_replicate]; exact h8), Option.bind_some, Option.bind_some, if_pos rfl, if_pos (show 0 ≤ (i : Int) by omega), if_pos (show (i : Int) < (dn.length : Int) by omega), beq_self_eq_true]
  rfl
theorem agreed0 (K : Nat) (hK : 20 ≤ K) : install_Agreed.f K X (nodes n) dn (List.replicate n false) 0 0 = some false := by
  unfold install_Agreed.f
  rw [valid0 n h1 h8 dn hd K hK, Option.bind_some, if_pos rfl, if_pos rfl]
end
theorem ready0 (n : Nat) (h1 : 1 ≤ n) (h8 : n ≤ 8) (K : Nat) (hK : 20 ≤ K) : install_Ready.f K X (nodes n) (List.replicate n true) (List.replicate n false) 0 0 = some true := by
  have hn := has_no n h8 true K (by omega)
  rw [Bool.not_true] at hn
  unfold install_Ready.f
  rw [valid0 n h1 h8 _ (List.length_replicate ..) K hK, Option.bind_some, if_pos rfl, hn, Option.bind_some]
  rfl
theorem order0 (n : Nat) (h1 : 1 ≤ n) (h8 : n ≤ 8) (s : Int) (hs : 1 ≤ s ∧ s ≤ 1073741824) (K : Nat) (hK : 20 ≤ K) :
    install_Order.f K X (nodes n) (List.replicate n true) (List.replicate n false) 0 0 s = some (X, nodes n, List.replicate n true, List.replicate n false, 1, s, 1, 1, s, X, nodes n, 0) := by
  unfold install_Order.f install_order.f slices_Clone_int_int.f
  rw [valid0 n h1 h8 _ (List.length_replicate ..) K hK, Option.bind_some, if_pos rfl, ready0 n h1 h8 K hK, Option.bind_some, if_pos rfl, if_neg (by omega), if_neg (by omega), if_neg (by omega), own_same _ _ _ _ _ _ (by rw [nodes_length]; exact h8) (by rw [List.length_replicate]; exact h8) (by rw [List.length_replicate]; exact h8), Option.bind_some, if_pos (show (nodes n).length < 17592186044416 by rw [nodes_length]; omega), Option.bind_some, Option.bind_some, wrap_in (0 + 1) (by omega), List.length_replicate]
  rfl
theorem new0 (n : Nat) (h1 : 1 ≤ n) (h8 : n ≤ 8) (K : Nat) (hK : 20 ≤ K) : install_New.f K X (nodes n) = some (X, nodes n, List.replicate n false, List.replicate n false, 0, 0, 0) := by
  unfold install_New.f slices_Clone_int_int.f
  have e : (((nodes n).length : Int)).toNat = n := by rw [nodes_length]; omega
  rw [identX, Option.bind_some, if_pos rfl, nodes_list n h1 h8 K (by omega), Option.bind_some, if_pos rfl, if_pos (show (nodes n).length < 17592186044416 by rw [nodes_length]; omega), Option.bind_some, if_pos (by omega), if_pos (by omega), e]
theorem complete0 (K : Nat) (hK : 20 ≤ K) : install_Complete.f K E E false E 0 0 X = some (E, X, false, E, 0, 0, 0) := at_rounds (install_Complete.mono _ _ _ _ _ _ _) hK (by kernel_rfl)

theorem j5_eq (k : Nat) (s : Int) (xs : List S28) (b : ByteArray) (l : List Int) (d t : List Bool) (m u : Int) : hopmeshlaw49_InstallAgreed.j5 (k + 1) s xs b l d t m u = (install_Agreed.f k b l d t m u).bind fun r => if r = true then hopmeshlaw49_InstallAgreed.l3 k s xs (xs.length : Int) 0 else some true := rfl
theorem j3_eq (k : Nat) (a : Int) (l : List S47) (c : Int) (xs : List S28) (b : ByteArray) (nd : List Int) (d t : List Bool) (m u : Int) : hopmeshlaw49_InstallAgreed.j3 (k + 1) a l c xs false b nd d t m u = (install_Order.f k b nd d t m u (wrap64 a)).bind fun q => if q.2.2.2.2.2.2.2.2.2.2.2 = 0 then ((hopmeshlaw49_order.f k l).bind fun r => hopmeshlaw49_InstallAgreed.l2 k a c xs r (r.length : Int) 0 q.1 q.2.1 q.2.2.1 q.2.2.2.1 q.2.2.2.2.1 q.2.2.2.2.2.1 q.2.2.2.2.2.2.1 q.2.2.2.2.2.2.2.1 q.2.2.2.2.2.2.2.2.1 q.2.2.2.2.2.2.2.2.2.1 q.2.2.2.2.2.2.2.2.2.2.1) else none := rfl
def D0 : S28 := ⟨E, X, false, E, 0, 0⟩
def D1 (s : Int) : S28 := ⟨E, X, true, X, s, 1⟩
theorem rd_nat (xs : List S28) (j : Nat) : rd_T28 xs (j : Int) = xs.getD j z28 := rfl
theorem getD_set {α : Type} (xs : List α) (i j : Nat) (v z : α) (h : i < xs.length) : (xs.set i v).getD j z = if j = i then v else xs.getD j z := by
  rw [List.getD_eq_getElem?_getD, List.getElem?_set, List.getD_eq_getElem?_getD]
  by_cases c : j = i
  · subst c
    rw [if_pos rfl, if_pos h, if_pos rfl]
    rfl
  · rw [if_neg (fun e => c e.symm), if_neg c]
theorem rd_set (xs : List S28) (i : Nat) (v : S28) (h : i < xs.length) : rd_T28 (xs.set (i : Int).toNat v) (i : Int) = v := by
  rw [rd_nat, Int.toNat_natCast, getD_set xs i i v z28 h, if_pos rfl]
theorem all_of_getD (n : Nat) (l : List Bool) (b z : Bool) (h : l.length = n) (hp : ∀ j, j < n → l.getD j z = b) : l = List.replicate n b := by
  refine List.ext_getElem (by rw [h, List.length_replicate]) fun j h1 h2 => ?_
  have := hp j (by omega)
  rw [List.getD_eq_getElem?_getD, List.getElem?_eq_getElem h1] at this
  rw [List.getElem_replicate]
  exact this
section
variable (n : Nat) (h1 : 1 ≤ n) (h8 : n ≤ 8) (s : Int) (hs : 2 ≤ s ∧ s ≤ 255)
include h1 h8 hs
theorem loop3 : ∀ (d i K : Nat) (xs : List S28), i + d = n → d + 30 ≤ K → xs.length = n → (∀ j, j < n → xs.getD j z28 = D1 s) → hopmeshlaw49_InstallAgreed.l3 K s xs (n : Int) (i : Int) = some true := by
  intro d
  induction d with
  | zero =>
    intro i K xs hi hK hl hx
    obtain ⟨k, rfl⟩ : ∃ k, K = k + 1 := ⟨K - 1, by omega⟩
    unfold hopmeshlaw49_InstallAgreed.l3
    rw [if_neg (by omega)]
  | succ d ih =>
    intro i K xs hi hK hl hx
    obtain ⟨k, rfl⟩ : ∃ k, K = k + 4 + 1 := ⟨K - 5, by omega⟩
    have st := step_start k E s fit0 ⟨by omega, by omega⟩
    unfold hopmeshlaw49_InstallAgreed.l3
    rw [if_pos (by omega), if_pos (by omega), if_pos (by omega), rd_nat, hx i (by omega), wrap_in s (by omega)]
    simp only [D1]
    rw [st, Option.bind_some, if_pos rfl, if_pos rfl, id_x, Option.bind_some, if_pos rfl, wrap_nat i (by omega)]
    exact ih (i + 1) (k + 4) xs (by omega) (by omega) hl hx
theorem fin (dn td : List Bool) (xs : List S28) (hd : dn.length = n) (ht : td.length = n) (hl : xs.length = n) (hp : ∀ j, j < n → (xs.getD j z28 = D0 ∧ td.getD j false = false) ∨ xs.getD j z28 = D1 s) (K : Nat) (hK : 50 ≤ K) :
    hopmeshlaw49_InstallAgreed.j5 K s xs X (nodes n) dn td 1 s = some true := by
  obtain ⟨k, rfl⟩ : ∃ k, K = k + 1 := ⟨K - 1, by omega⟩
  obtain ⟨b, hb, hall⟩ := agreed1 n h1 h8 dn td hd ht s (by omega) k (by omega)
  rw [j5_eq, hb, Option.bind_some]
  cases b with
  | false => rw [if_neg (by decide)]
  | true =>
    have := loop3 n h1 h8 s hs n 0 k xs (by omega) (by omega) hl (fun j hj => by
      rcases hp j hj with h | h
      · have h2 := hall rfl j hj
        rw [h.2] at h2
        cases h2
      · exact h)
    rw [if_pos rfl, hl]
    exact this
theorem loop2 (r : List S47) (hr : r.length ≤ 60) (hb : ∀ x ∈ r, (0 ≤ x.f0 ∧ x.f0 ≤ 255) ∧ (0 ≤ x.f1 ∧ x.f1 ≤ 255) ∧ 0 ≤ x.f2 ∧ x.f2 ≤ 255) (dn : List Bool) (hd : dn.length = n) :
    ∀ (d i K : Nat) (xs : List S28) (td : List Bool), i + d = r.length → d + 60 ≤ K → td.length = n → xs.length = n → (∀ j, j < n → (xs.getD j z28 = D0 ∧ td.getD j false = false) ∨ xs.getD j z28 = D1 s) →
      hopmeshlaw49_InstallAgreed.l2 K s (n : Int) xs r (r.length : Int) (i : Int) X (nodes n) dn td 1 s 1 1 s X (nodes n) = some true := by
  intro d
  induction d with
  | zero =>
    intro i K xs td hi hK ht hl hp
    obtain ⟨k, rfl⟩ : ∃ k, K = k + 1 := ⟨K - 1, by omega⟩
    unfold hopmeshlaw49_InstallAgreed.l2
    rw [if_neg (by omega)]
    exact fin n h1 h8 s hs dn td xs hd ht hl hp k (by omega)
  | succ d ih =>
    intro i K xs td hi hK ht hl hp
    obtain ⟨k, rfl⟩ : ∃ k, K = k + 20 + 1 := ⟨K - 21, by omega⟩
    have hin : rd_T47 r (i : Int) ∈ r := by
      unfold rd_T47
      rw [Int.toNat_natCast, List.getD_eq_getElem?_getD, List.getElem?_eq_getElem (by omega)]
      exact List.getElem_mem _
    obtain ⟨b0, b1, b2⟩ := hb _ hin
    unfold hopmeshlaw49_InstallAgreed.l2
    rw [if_pos (by omega), if_pos (by omega), if_pos (by omega), if_neg (by omega)]
    generalize rd_T47 r (i : Int) = x at b0 b1 b2 ⊢
    rw [wrap_in x.f2 (by omega), wrap_in s (by omega), wrap_in x.f0 (by omega), wrap_nat i (by omega)]
    by_cases c1 : x.f2 ≥ s
    · rw [if_pos c1]
      exact fin n h1 h8 s hs dn td xs hd ht hl hp (k + 20) (by omega)
    · rw [if_neg c1]
      have q0 := Int.tmod_nonneg (n : Int) b0.1
      have q1 := Int.tmod_lt_of_pos x.f0 (show 0 < (n : Int) by omega)
      obtain ⟨q, hq⟩ : ∃ q : Nat, Int.tmod x.f0 (n : Int) = q := ⟨(Int.tmod x.f0 (n : Int)).toNat, by omega⟩
      rw [hq] at q0 q1 ⊢
      have hqn : q < n := by omega
      rw [rd_nat, Int.toNat_natCast]
      have hput : ∀ td' : List Bool, (∀ j, j < n → j ≠ q → td'.getD j false = td.getD j false) → ∀ j, j < n → ((xs.set q (D1 s)).getD j z28 = D0 ∧ td'.getD j false = false) ∨ (xs.set q (D1 s)).getD j z28 = D1 s := fun td' h j hj => by
        rw [getD_set xs q j (D1 s) z28 (by omega)]
        by_cases c : j = q
        · rw [if_pos c]; exact .inr rfl
        · rw [if_neg c, h j hj c]; exact hp j hj
      by_cases c2 : Int.tmod x.f1 2 = 0
      · rw [if_pos c2, if_pos q0, if_pos (by omega)]
        have next := ih (i + 1) (k + 20) (xs.set q (D1 s)) td (by omega) (by omega) ht (by rw [List.length_set]; exact hl) (hput td fun _ _ _ => rfl)
        rcases hp q hqn with ⟨h, _⟩ | h
        · have tk := take_first k n q E s x.f2 fit0 h8 hqn ⟨by omega, by omega⟩ ⟨by omega, by omega⟩
          rw [if_pos (show x.f2 < s by omega)] at tk
          rw [h]
          simp only [D0]
          rw [tk, Option.bind_some]
          exact next
        · have tk := take_armed k n q E s x.f2 fit0 h8 hqn ⟨by omega, by omega⟩ ⟨by omega, by omega⟩
          rw [h]
          simp only [D1]
          rw [tk, Option.bind_some]
          exact next
      · rw [if_neg c2, if_pos q0, if_pos (by omega)]
        rcases hp q hqn with ⟨h, h'⟩ | h
        · rw [h]
          exact (if_neg (show ¬ D0.f5 = 1 by decide)).trans (ih (i + 1) (k + 20) xs td (by omega) (by omega) ht hl hp)
        · rw [h]
          simp only [D1]
          rw [if_pos trivial, ack n h1 h8 dn td hd ht s (by omega) (k + 20) (by omega) q hqn, Option.bind_some, if_pos rfl]
          refine ih (i + 1) (k + 20) xs (td.set q true) (by omega) (by omega) (by rw [List.length_set]; exact ht) hl fun j hj => ?_
          by_cases c : j = q
          · subst c; exact .inr h
          · rw [getD_set td q j true false (by omega), if_neg c]
            exact hp j hj
theorem after (l : List S47) (hl60 : l.length ≤ 60) (hb : ∀ x ∈ l, (0 ≤ x.f0 ∧ x.f0 ≤ 255) ∧ (0 ≤ x.f1 ∧ x.f1 ≤ 255) ∧ 0 ≤ x.f2 ∧ x.f2 ≤ 255) (xs : List S28) (hl : xs.length = n) (hx : ∀ j, j < n → xs.getD j z28 = D0) (K : Nat) (hK : 2300000 ≤ K) :
    hopmeshlaw49_InstallAgreed.j3 K s l (n : Int) xs false X (nodes n) (List.replicate n true) (List.replicate n false) 0 0 = some true := by
  obtain ⟨k, rfl⟩ : ∃ k, K = k + 1 := ⟨K - 1, by omega⟩
  obtain ⟨r, hr, hg⟩ := PureS.order_total l (by omega) k (by omega)
  have l2 := loop2 n h1 h8 s hs r (by rw [hg.1]; exact hl60) (fun x hx => hb x (hg.2 x hx)) (List.replicate n true) (List.length_replicate ..) r.length 0 k xs (List.replicate n false) (by omega) (by rw [hg.1]; omega) (List.length_replicate ..) hl (fun j hj => .inl ⟨hx j hj, by rw [List.getD_eq_getElem?_getD, List.getElem?_replicate]; split <;> rfl⟩)
  rw [j3_eq, wrap_in s (by omega), order0 n h1 h8 s (by omega) k (by omega), Option.bind_some, if_pos rfl, hr, Option.bind_some]
  exact l2
theorem loop1 (l : List S47) (hl60 : l.length ≤ 60) (hb : ∀ x ∈ l, (0 ≤ x.f0 ∧ x.f0 ≤ 255) ∧ (0 ≤ x.f1 ∧ x.f1 ≤ 255) ∧ 0 ≤ x.f2 ∧ x.f2 ≤ 255) (xs : List S28) (hl : xs.length = n) (hx : ∀ j, j < n → xs.getD j z28 = D0) :
    ∀ (d i K : Nat) (dn : List Bool), i + d = n → 2300100 + d ≤ K → dn.length = n → (∀ j, j < i → dn.getD j false = true) → hopmeshlaw49_InstallAgreed.l1 K s l (n : Int) xs 0 (n : Int) (i : Int) X (nodes n) dn (List.replicate n false) 0 0 = some true := by
  intro d
  induction d with
  | zero =>
    intro i K dn hi hK hd hj
    obtain ⟨k, rfl⟩ : ∃ k, K = k + 1 := ⟨K - 1, by omega⟩
    have e := all_of_getD n dn true false hd (fun j h => hj j (by omega))
    unfold hopmeshlaw49_InstallAgreed.l1
    rw [if_neg (by omega), if_pos rfl, e, ready0 n h1 h8 k (by omega), Option.bind_some, if_pos rfl, agreed0 n h1 h8 _ (List.length_replicate ..) k (by omega), Option.bind_some]
    exact after n h1 h8 s hs l hl60 hb xs hl hx k (by omega)
  | succ d ih =>
    intro i K dn hi hK hd hj
    obtain ⟨k, rfl⟩ : ∃ k, K = k + 1 := ⟨K - 1, by omega⟩
    unfold hopmeshlaw49_InstallAgreed.l1
    rw [if_pos (by omega), if_pos rfl, if_pos (by omega), if_pos (by omega), rd_nat, hx i (by omega)]
    simp only [D0]
    rw [report n h1 h8 dn hd k (by omega) i (by omega), Option.bind_some, wrap_nat i (by omega)]
    refine ih (i + 1) k (dn.set i true) (by omega) (by omega) (by rw [List.length_set]; exact hd) fun j h => ?_
    rw [getD_set dn i j true false (by omega)]
    by_cases c : j = i
    · rw [if_pos c]
    · rw [if_neg c]; exact hj j (by omega)
theorem loop0 (l : List S47) (hl60 : l.length ≤ 60) (hb : ∀ x ∈ l, (0 ≤ x.f0 ∧ x.f0 ≤ 255) ∧ (0 ≤ x.f1 ∧ x.f1 ≤ 255) ∧ 0 ≤ x.f2 ∧ x.f2 ≤ 255) :
    ∀ (d i K : Nat) (xs : List S28), i + d = n → 2300200 + d ≤ K → xs.length = n → (∀ j, j < i → xs.getD j z28 = D0) → hopmeshlaw49_InstallAgreed.l0 K s l (n : Int) (nodes i) xs (n : Int) (i : Int) = some true := by
  intro d
  induction d with
  | zero =>
    intro i K xs hi hK hl hj
    obtain ⟨k, rfl⟩ : ∃ k, K = k + 1 := ⟨K - 1, by omega⟩
    obtain rfl : i = n := by omega
    unfold hopmeshlaw49_InstallAgreed.l0
    rw [if_neg (by omega), id_x, Option.bind_some, new0 i h1 h8 k (by omega), Option.bind_some]
    exact loop1 i h1 h8 s hs l hl60 hb xs hl hj i 0 k (List.replicate i false) (by omega) (by omega) (List.length_replicate ..) (fun j h => by omega)
  | succ d ih =>
    intro i K xs hi hK hl hj
    obtain ⟨k, rfl⟩ : ∃ k, K = k + 1 := ⟨K - 1, by omega⟩
    have cp := complete0 k (by omega)
    unfold hopmeshlaw49_InstallAgreed.l0
    rw [if_pos (by omega), if_pos (show (nodes i).length < 17592186044416 by rw [nodes_length]; omega), if_pos (by omega), if_pos (by omega), Option.bind_some, id_x, Option.bind_some, rd_set xs i _ (by omega)]
    simp only [E] at cp
    simp only []
    rw [cp, Option.bind_some, wrap_nat i (by omega), nodes_succ]
    refine ih (i + 1) k _ (by omega) (by omega) (by rw [List.length_set, List.length_set]; exact hl) fun j h => ?_
    rw [Int.toNat_natCast, getD_set _ i j _ z28 (by rw [List.length_set]; omega), getD_set _ i j _ z28 (by omega)]
    by_cases c : j = i
    · rw [if_pos c]; rfl
    · rw [if_neg c, if_neg c]; exact hj j (by omega)
end
theorem awake62 : hopmeshlaw49_awake.f 62 = some true := by kernel_rfl
theorem awake_more (K : Nat) (hK : 62 ≤ K) : hopmeshlaw49_awake.f K = some true := at_rounds hopmeshlaw49_awake.mono hK awake62
theorem j0_t (K : Nat) (a b : Int) (l : List S47) : hopmeshlaw49_InstallAgreed.j0 (K + 1) a b l true = (hopmeshlaw49_awake.f K).bind fun t => some t := rfl
theorem j0_f (k : Nat) (a b : Int) (l : List S47) : hopmeshlaw49_InstallAgreed.j0 (k + 1) a b l false = if 0 ≤ (wrap64 (1 + (wrap64 (Int.tmod a 6)))) then (if (wrap64 (1 + (wrap64 (Int.tmod a 6))) : Int).toNat ≤ 3909374676536 then (hopmeshlaw49_InstallAgreed.l0 k b l (wrap64 (1 + (wrap64 (Int.tmod a 6)))) ([] : List Int) (List.replicate (wrap64 (1 + (wrap64 (Int.tmod a 6))) : Int).toNat z28) (wrap64 (1 + (wrap64 (Int.tmod a 6)))) 0) else (none)) else (none) := rfl
theorem agreed (K : Nat) (hK0 : 2400000 ≤ K) (a s : Int) (l : List S47) (ha : 0 ≤ a ∧ a ≤ 255) (hs : 0 ≤ s ∧ s ≤ 255) (hb : ∀ x ∈ l, (0 ≤ x.f0 ∧ x.f0 ≤ 255) ∧ (0 ≤ x.f1 ∧ x.f1 ≤ 255) ∧ 0 ≤ x.f2 ∧ x.f2 ≤ 255) : hopmeshlaw49_InstallAgreed.f K a s l = some true := by
  obtain ⟨K, rfl⟩ : ∃ k, K = k + 1 := ⟨K - 1, by omega⟩
  unfold hopmeshlaw49_InstallAgreed.f
  rw [awake_more (K + 1) (by omega), Option.bind_some, if_pos rfl]
  by_cases h : (l.length : Int) > 60
  · rw [if_pos h, j0_t, awake_more K (by omega), Option.bind_some]
  · rw [if_neg h]
    by_cases h2 : s < 2
    · rw [decide_eq_true h2, j0_t, awake_more K (by omega), Option.bind_some]
    · have t0 := Int.tmod_nonneg (6 : Int) ha.1
      have t1 := Int.tmod_lt_of_pos a (show 0 < (6 : Int) by omega)
      obtain ⟨n, hn⟩ : ∃ n : Nat, 1 + Int.tmod a 6 = n := ⟨(1 + Int.tmod a 6).toNat, by omega⟩
      have e : wrap64 (1 + (wrap64 (Int.tmod a 6))) = (n : Int) := by rw [wrap_in (Int.tmod a 6) (by omega), hn, wrap_in _ (by omega)]
      rw [decide_eq_false h2, j0_f, e, if_pos (by omega), if_pos (by omega), Int.toNat_natCast]
      exact loop0 n (by omega) (by omega) s (by omega) l (by omega) hb n 0 K (List.replicate n z28) (by omega) (by omega) (List.length_replicate ..) (fun j h => by omega)
end Go.Proofs.Ytdigplhjfjchnaa.PureA
namespace Go.Proofs.Ytdigplhjfjchnaa.PureA
open Go.RowKit Go.Proofs.Ytdigplhjfjchnaa.PQ Go.Proofs.YtdigplhjfjchnaaW.PrintWords Go.Proofs.YtdigplhjfjchnaaW.PrintLast Go.Proofs.YtdigplhjfjchnaaW.PrintMore
theorem agreed_walk (a s : Int) (A : Option Addr) (c : Nat) (l : List S47) (w : World) (ha : 0 ≤ a ∧ a ≤ 255) (hs : 0 ≤ s ∧ s ≤ 255) (r : Kd.C k47 w A l.length l) (g : l.length ≤ c) (hb : ∀ x ∈ l, (0 ≤ x.f0 ∧ x.f0 ≤ 255) ∧ (0 ≤ x.f1 ∧ x.f1 ≤ 255) ∧ 0 ≤ x.f2 ∧ x.f2 ≤ 255) :
    Calls Try.prog 6 #[.int .u8 a, .int .u8 s, .slice A l.length c] w fun e w' => e = .returned (.bool true) ∧ Below w.heap.size w w' := by
  obtain ⟨K, hK⟩ : ∃ K, 2400000 ≤ K := ⟨_, Nat.le_refl _⟩
  exact hopmeshlaw49_InstallAgreed.calls K a s A c l true w r g (agreed K hK a s l ha hs hb)
end Go.Proofs.Ytdigplhjfjchnaa.PureA
