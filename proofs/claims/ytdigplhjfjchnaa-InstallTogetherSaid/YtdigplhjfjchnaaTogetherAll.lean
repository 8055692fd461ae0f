/- The plain law InstallTogether, and its walk joined to it. Conditions: the two numbers and the deliveries' fields are bytes, as their types say. -/
import Derived.Test.YtdigplhjfjchnaaZf11
import Derived.Test.YtdigplhjfjchnaaZf12
import Derived.Test.YtdigplhjfjchnaaZf14
import Derived.Test.YtdigplhjfjchnaaZf15
import Derived.Test.YtdigplhjfjchnaaSorts
import Derived.Test.YtdigplhjfjchnaaZf5d
import Derived.Test.YtdigplhjfjchnaaZf5
namespace Go.Proofs.Ytdigplhjfjchnaa.PureD
open Go.RowKit Go.Proofs.Ytdigplhjfjchnaa.PQ Go.Proofs.YtdigplhjfjchnaaW.PrintWords Go.Proofs.YtdigplhjfjchnaaW.PrintLast Go.Proofs.YtdigplhjfjchnaaW.PrintMore
def X : ByteArray := rep32 ⟨#[120]⟩
def E : ByteArray := ⟨#[]⟩
/-- The nodes 0 to n - 1. -/
def nodes (n : Nat) : List Int := (List.range n).map Int.ofNat
/-- What may run on a device. -/
def Fit (r : ByteArray) : Prop := install_Check_1.f r = some true
theorem id_x : hopmeshlaw49_id.f ⟨#[120]⟩ = some X := by kernel_rfl
theorem identX : install_identifier.f X = some true := by kernel_rfl
theorem ident0 : install_identifier.f E = some false := by kernel_rfl
theorem fitX : Fit X := by unfold Fit; kernel_rfl
theorem fit0 : Fit E := by unfold Fit; kernel_rfl
theorem wrap_in (n : Int) (h : -9223372036854775808 ≤ n ∧ n ≤ 9223372036854775807) : wrap64 n = n := by unfold wrap64; omega
theorem wrap_nat (i : Nat) (h : i < 1000000) : wrap64 ((i : Int) + 1) = ((i + 1 : Nat) : Int) := by rw [wrap_in _ (by omega)]; omega
theorem lenX : X.toList.length = 32 := by kernel_rfl
theorem len0 : E.toList = [] := by kernel_rfl
theorem x_ne : ¬ (X.toList = ([] : List UInt8)) := fun h => by have := lenX; rw [h] at this; cases this
theorem x_ne0 : ¬ (X.toList = E.toList) := fun h => by rw [len0] at h; exact x_ne h
theorem x_ne1 : ¬ (E.toList = X.toList) := fun h => x_ne0 h.symm
theorem nodes_list (n : Nat) (h1 : 1 ≤ n) (h : n ≤ 8) (K : Nat) (hK : 12 ≤ K) : install_list.f K (nodes n) = some true :=
  at_rounds (install_list.mono _) hK ((show ∀ n, n < 9 → 1 ≤ n → install_list.f 12 (nodes n) = some true by decide +kernel) n (by omega) h1)
theorem nodes_index (n i : Nat) (hi : i < n) (h : n ≤ 8) (K : Nat) (hK : 12 ≤ K) : slices_Index_int_int.f K (nodes n) (i : Int) = some (i : Int) :=
  at_rounds (slices_Index_int_int.mono _ _) hK ((show ∀ n, n < 9 → ∀ i, i < n → slices_Index_int_int.f 12 (nodes n) (i : Int) = some (i : Int) by decide +kernel) n (by omega) i hi)
theorem nodes_length (n : Nat) : (nodes n).length = n := by unfold nodes; rw [List.length_map, List.length_range]
theorem nodes_succ (n : Nat) : nodes n ++ [(n : Int)] = nodes (n + 1) := by unfold nodes; rw [List.range_succ, List.map_append]; rfl
/-- A device that is not armed checks well. -/
theorem idle (k : Nat) (r : ByteArray) (hr : Fit r) (m : Int) (h : 0 ≤ m ∧ m ≤ 1048576) : install_Check.f (k + 2) r X false E 0 m = some 0 := by
  unfold Fit at hr
  have hx := fitX
  unfold Fit at hx
  simp only [install_Check.f, ident0, Option.bind_some, Bool.false_eq_true, if_false, install_Check.j0, len0, if_true, install_Check.j1, hr, hx, if_neg (show ¬ m < 0 by omega), if_neg (show ¬ m > 1048576 by omega)]
  rfl
/-- A device that is armed with the image for a slot of the range checks well. -/
theorem armed (k : Nat) (r : ByteArray) (hr : Fit r) (s m : Int) (hs : 1 ≤ s ∧ s ≤ 1073741824) (h : 0 ≤ m ∧ m ≤ 1048576) : install_Check.f (k + 2) r X true X s m = some 0 := by
  unfold Fit at hr
  have hx := fitX
  unfold Fit at hx
  simp only [install_Check.f, identX, Option.bind_some, if_true, ge_iff_le, hs.1, install_Check.j0, if_neg x_ne, install_Check.j1, hr, hx, decide_eq_true hs.2, if_neg (show ¬ m < 0 by omega), if_neg (show ¬ m > 1048576 by omega)]
theorem order_ok (n : Nat) (h1 : 1 ≤ n) (h : n ≤ 8) (k : Nat) (hk : 12 ≤ k) (s : Int) (hs : 1 ≤ s ∧ s ≤ 1073741824) : install_command.f (k + 1) 1 1 s X (nodes n) = some true := by
  simp only [install_command.f, if_neg (show ¬ (1 : Int) < 1 by omega), if_neg (show ¬ (1 : Int) > 1048576 by omega), identX, Option.bind_some, if_true, nodes_list n h1 h (k + 1) (by omega), install_command.j0, Bool.not_true, Bool.false_eq_true, if_false, ge_iff_le, hs.1, decide_eq_true hs.2]
theorem meant (n i : Nat) (hi : i < n) (h : n ≤ 8) (K : Nat) (hK : 12 ≤ K) : take_contains.f K (nodes n) (i : Int) = some true := by
  unfold take_contains.f
  rw [nodes_index n i hi h K hK, Option.bind_some, decide_eq_true (show (i : Int) ≥ 0 by omega)]
section
variable (k n i : Nat) (r : ByteArray) (s now : Int)
/-- A device that took no command yet takes the command to start. -/
theorem take_first (hr : Fit r) (h : n ≤ 8) (hi : i < n) (hs : 1 ≤ s ∧ s ≤ 1073741824) (hn : 0 ≤ now ∧ now ≤ 1073741824) : install_Take.f (k + 20) r X false E 0 0 1 1 s X (nodes n) i now = some (if now < s then (r, X, true, X, s, 1, 0) else (r, X, false, E, 0, 1, 15)) := by
  have c1 := idle (k + 18) r hr 0 (by omega)
  have c2 := order_ok n (by omega) h (k + 19) (by omega) s hs
  have c3 := meant n i hi h (k + 18) (by omega)
  have e : install_Take.f (k + 20) r X false E 0 0 1 1 s X (nodes n) i now = if s ≤ now then some (r, X, false, E, 0, 1, 15) else some (r, X, true, X, s, 1, 0) := by
    unfold install_Take.f
    rw [show k + 18 + 2 = k + 20 by omega] at c1
    rw [show k + 19 + 1 = k + 20 by omega] at c2
    rw [c1, Option.bind_some, if_pos rfl, c2, Option.bind_some, show k + 20 = (k + 18 + 1) + 1 by omega]
    simp only [Bool.not_true, install_Take.j0, Bool.false_eq_true, if_false, if_neg (show ¬ (i : Int) < 0 by omega), if_neg (show ¬ (i : Int) ≥ 32 by omega), if_neg (show ¬ now < 0 by omega), decide_eq_false (show ¬ now > 1073741824 by omega), install_Take.j1, if_neg (show ¬ (1 : Int) ≤ 0 by omega), c3, Option.bind_some, if_true, if_neg (show ¬ (1 : Int) = 2 by omega)]
  rw [e]
  by_cases c : now < s
  · rw [if_neg (by omega), if_pos c]
  · rw [if_pos (by omega), if_neg c]
/-- A device that took the command takes it no second time. -/
theorem take_armed (hr : Fit r) (h : n ≤ 8) (hi : i < n) (hs : 1 ≤ s ∧ s ≤ 1073741824) (hn : 0 ≤ now ∧ now ≤ 1073741824) : install_Take.f (k + 20) r X true X s 1 1 1 s X (nodes n) i now = some (r, X, true, X, s, 1, 23) := by
  have c1 := armed (k + 18) r hr s 1 hs (by omega)
  have c2 := order_ok n (by omega) h (k + 19) (by omega) s hs
  unfold install_Take.f
  rw [show k + 18 + 2 = k + 20 by omega] at c1
  rw [show k + 19 + 1 = k + 20 by omega] at c2
  rw [c1, Option.bind_some, if_pos rfl, c2, Option.bind_some, show k + 20 = (k + 18 + 1) + 1 by omega]
  simp only [Bool.not_true, install_Take.j0, Bool.false_eq_true, if_false, if_neg (show ¬ (i : Int) < 0 by omega), if_neg (show ¬ (i : Int) ≥ 32 by omega), if_neg (show ¬ now < 0 by omega), decide_eq_false (show ¬ now > 1073741824 by omega), install_Take.j1, if_pos (show (1 : Int) ≤ 1 by omega)]
theorem take_idle (hr : Fit r) (h : n ≤ 8) (hi : i < n) (hs : 1 ≤ s ∧ s ≤ 1073741824) (hn : 0 ≤ now ∧ now ≤ 1073741824) : install_Take.f (k + 20) r X false E 0 1 1 1 s X (nodes n) i now = some (r, X, false, E, 0, 1, 23) := by
  have c1 := idle (k + 18) r hr 1 (by omega)
  have c2 := order_ok n (by omega) h (k + 19) (by omega) s hs
  unfold install_Take.f
  rw [show k + 18 + 2 = k + 20 by omega] at c1
  rw [show k + 19 + 1 = k + 20 by omega] at c2
  rw [c1, Option.bind_some, if_pos rfl, c2, Option.bind_some, show k + 20 = (k + 18 + 1) + 1 by omega]
  simp only [Bool.not_true, install_Take.j0, Bool.false_eq_true, if_false, if_neg (show ¬ (i : Int) < 0 by omega), if_neg (show ¬ (i : Int) ≥ 32 by omega), if_neg (show ¬ now < 0 by omega), decide_eq_false (show ¬ now > 1073741824 by omega), install_Take.j1, if_pos (show (1 : Int) ≤ 1 by omega)]
/-- An armed device starts in its slot, and not before. -/
theorem step_start (hr : Fit r) (hs : 1 ≤ s ∧ s ≤ 1073741824) : install_Step.f (k + 4) r X true X s 1 s = some (X, X, false, E, 0, 1, true, 0) := by
  have c1 := armed (k + 2) r hr s 1 hs (by omega)
  have e : (s == s) = true := beq_self_eq_true s
  simp only [install_Step.f, c1, Option.bind_some, if_true, if_neg (show ¬ s < 0 by omega), decide_eq_false (show ¬ s > 1073741824 by omega), install_Step.j0, Bool.false_eq_true, if_false, install_Step.j1, decide_eq_false (show ¬ s < s by omega), install_disarm.f, e]
  rfl
theorem step_wait (hr : Fit r) (hs : 1 ≤ s ∧ s ≤ 1073741824) (hn : 0 ≤ now ∧ now < s) : install_Step.f (k + 4) r X true X s 1 now = some (r, X, true, X, s, 1, false, 0) := by
  have c1 := armed (k + 2) r hr s 1 hs (by omega)
  simp only [install_Step.f, c1, Option.bind_some, if_true, if_neg (show ¬ now < 0 by omega), decide_eq_false (show ¬ now > 1073741824 by omega), install_Step.j0, Bool.false_eq_true, if_false, install_Step.j1, decide_eq_true (show now < s by omega)]
theorem step_idle (hr : Fit r) (m : Int) (hm : 0 ≤ m ∧ m ≤ 1048576) (hn : 0 ≤ now ∧ now ≤ 1073741824) : install_Step.f (k + 4) r X false E 0 m now = some (r, X, false, E, 0, m, false, 0) := by
  have c1 := idle (k + 2) r hr m hm
  simp only [install_Step.f, c1, Option.bind_some, if_true, if_neg (show ¬ now < 0 by omega), decide_eq_false (show ¬ now > 1073741824 by omega), install_Step.j0, Bool.false_eq_true, if_false, install_Step.j1]
end
end Go.Proofs.Ytdigplhjfjchnaa.PureD
namespace Go.Proofs.Ytdigplhjfjchnaa.PureT
open Go.RowKit Go.Proofs.Ytdigplhjfjchnaa.PQ Go.Proofs.YtdigplhjfjchnaaW.PrintWords Go.Proofs.YtdigplhjfjchnaaW.PrintLast Go.Proofs.YtdigplhjfjchnaaW.PrintMore Go.Proofs.Ytdigplhjfjchnaa.PureD
def O : ByteArray := rep32 ⟨#[111]⟩
theorem id_o : hopmeshlaw49_id.f ⟨#[111]⟩ = some O := by kernel_rfl
theorem fitO : Fit O := by unfold Fit; kernel_rfl
theorem o_ne : (O.toList == X.toList) = false := by kernel_rfl
/-- A device that took no command, one that took it late, an armed one, one that has started. -/
def F : S28 := ⟨O, X, false, E, 0, 0⟩
def L : S28 := ⟨O, X, false, E, 0, 1⟩
def A (s : Int) : S28 := ⟨O, X, true, X, s, 1⟩
def S : S28 := ⟨X, X, false, E, 0, 1⟩
def Good (s : Int) (p : Bool) (d : S28) (t : Bool) : Prop := (d = F ∧ t = false) ∨ (d = L ∧ t = false) ∨ (t = true ∧ d = if p then S else A s)
def Bytes (l : List S47) : Prop := ∀ x ∈ l, (0 ≤ x.f0 ∧ x.f0 ≤ 255) ∧ (0 ≤ x.f1 ∧ x.f1 ≤ 255) ∧ 0 ≤ x.f2 ∧ x.f2 ≤ 255
theorem rd_nat (xs : List S28) (j : Nat) : rd_T28 xs (j : Int) = xs.getD j z28 := rfl
theorem rdOf_nat (xs : List Bool) (j : Nat) : rdOf false xs (j : Int) = xs.getD j false := rfl
theorem getD_set {α : Type} (xs : List α) (i j : Nat) (v z : α) (h : i < xs.length) : (xs.set i v).getD j z = if j = i then v else xs.getD j z := by
  rw [List.getD_eq_getElem?_getD, List.getElem?_set, List.getD_eq_getElem?_getD]
  by_cases c : j = i
  · subst c
    rw [if_pos rfl, if_pos h, if_pos rfl]
    rfl
  · rw [if_neg (fun e => c e.symm), if_neg c]
theorem complete_o (K : Nat) (hK : 20 ≤ K) : install_Complete.f K O E false E 0 0 X = some (O, X, false, E, 0, 0, 0) := at_rounds (install_Complete.mono _ _ _ _ _ _ _) hK (by kernel_rfl)
set_option linter.unusedSectionVars false
section
variable (n : Nat) (h1 : 1 ≤ n) (h8 : n ≤ 8) (s : Int) (hs : 1 ≤ s ∧ s ≤ 255)
include h1 h8 hs
/-- What a step makes of a device, and whether it starts. -/
theorem step_good (now : Nat) (hnow : now < 260) (d : S28) (t : Bool) (hg : Good s (decide (s < now)) d t) (k : Nat) :
    ∃ d' : S28, install_Step.f (k + 4) d.f0 d.f1 d.f2 d.f3 d.f4 d.f5 (now : Int) = some (d'.f0, d'.f1, d'.f2, d'.f3, d'.f4, d'.f5, (t && ((now : Int) == s)), 0) ∧ Good s (decide (s < (now + 1 : Nat))) d' t := by
  rcases hg with ⟨rfl, rfl⟩ | ⟨rfl, rfl⟩ | ⟨rfl, rfl⟩
  · exact ⟨F, step_idle k O now fitO 0 (by omega) (by omega), .inl ⟨rfl, rfl⟩⟩
  · exact ⟨L, step_idle k O now fitO 1 (by omega) (by omega), .inr (.inl ⟨rfl, rfl⟩)⟩
  · by_cases c : s < (now : Int)
    · rw [decide_eq_true c, if_pos rfl, show ((now : Int) == s) = false from beq_eq_false_iff_ne.mpr (by omega)]
      exact ⟨S, step_idle k X now fitX 1 (by omega) (by omega), .inr (.inr ⟨rfl, by rw [decide_eq_true (by omega)]; rfl⟩)⟩
    · rw [decide_eq_false c, if_neg (by decide)]
      by_cases c2 : (now : Int) = s
      · rw [c2, beq_self_eq_true]
        exact ⟨S, step_start k O s fitO (by omega), .inr (.inr ⟨rfl, by rw [decide_eq_true (by omega)]; rfl⟩)⟩
      · rw [beq_eq_false_iff_ne.mpr c2]
        exact ⟨A s, step_wait k O s now fitO (by omega) (by omega), .inr (.inr ⟨rfl, by rw [decide_eq_false (by omega)]; rfl⟩)⟩
/-- What a delivery makes of a device. -/
theorem take_good (now : Nat) (hnow : now < 260) (d : S28) (t : Bool) (q : Nat) (hq : q < n) (hg : Good s (decide (s < (now + 1 : Nat))) d t) (k : Nat) :
    ∃ (d' : S28) (e : Int), install_Take.f (k + 20) d.f0 d.f1 d.f2 d.f3 d.f4 d.f5 1 1 s X (nodes n) q now = some (d'.f0, d'.f1, d'.f2, d'.f3, d'.f4, d'.f5, e) ∧
      ((e = 0 ∧ (now : Int) < s ∧ d.f5 = 0 ∧ Good s (decide (s < (now + 1 : Nat))) d' true) ∨ (e ≠ 0 ∧ ((now : Int) < s → d.f5 ≠ 0) ∧ Good s (decide (s < (now + 1 : Nat))) d' t)) := by
  rcases hg with ⟨rfl, rfl⟩ | ⟨rfl, rfl⟩ | ⟨rfl, rfl⟩
  · have tk := take_first k n q O s now fitO h8 hq (by omega) (by omega)
    by_cases c : (now : Int) < s
    · rw [if_pos c] at tk
      exact ⟨A s, 0, tk, .inl ⟨rfl, c, rfl, .inr (.inr ⟨rfl, by rw [decide_eq_false (by omega)]; rfl⟩)⟩⟩
    · rw [if_neg c] at tk
      exact ⟨L, 15, tk, .inr ⟨by decide, fun h => absurd h c, .inr (.inl ⟨rfl, rfl⟩)⟩⟩
  · exact ⟨L, 23, take_idle k n q O s now fitO h8 hq (by omega) (by omega), .inr ⟨by decide, fun _ => by decide, .inr (.inl ⟨rfl, rfl⟩)⟩⟩
  · by_cases c : s < (now + 1 : Nat)
    · rw [decide_eq_true c, if_pos rfl]
      exact ⟨S, 23, take_idle k n q X s now fitX h8 hq (by omega) (by omega), .inr ⟨by decide, fun _ => by decide, .inr (.inr ⟨rfl, rfl⟩)⟩⟩
    · rw [decide_eq_false c, if_neg (by decide)]
      exact ⟨A s, 23, take_armed k n q O s now fitO h8 hq (by omega) (by omega), .inr ⟨by decide, fun _ => show (1 : Int) ≠ 0 by decide, .inr (.inr ⟨rfl, rfl⟩)⟩⟩
theorem loop4 (xs : List S28) (td : List Bool) (hx : xs.length = n) (ht : td.length = n) (hg : ∀ j, j < n → Good s true (xs.getD j z28) (td.getD j false)) :
    ∀ (d i K : Nat), i + d = n → d + 1 ≤ K → hopmeshlaw49_InstallTogether.l4 K td xs (xs.length : Int) (i : Int) = some true := by
  intro d
  induction d with
  | zero =>
    intro i K hi hK
    obtain ⟨k, rfl⟩ : ∃ k, K = k + 1 := ⟨K - 1, by omega⟩
    unfold hopmeshlaw49_InstallTogether.l4
    rw [if_neg (by omega)]
  | succ d ih =>
    intro i K hi hK
    obtain ⟨k, rfl⟩ : ∃ k, K = k + 1 := ⟨K - 1, by omega⟩
    have next := ih (i + 1) k (by omega) (by omega)
    unfold hopmeshlaw49_InstallTogether.l4
    rw [if_pos (by omega), if_pos (by omega), if_pos (by omega), id_x, Option.bind_some, if_pos (by omega), rd_nat, rdOf_nat, wrap_nat i (by omega)]
    rcases hg i (by omega) with ⟨e1, e2⟩ | ⟨e1, e2⟩ | ⟨e1, e2⟩
    · rw [e1, e2, show (F.f0.toList == X.toList) = false from o_ne]
      exact next
    · rw [e1, e2, show (L.f0.toList == X.toList) = false from o_ne]
      exact next
    · rw [e2, e1, if_pos rfl, show (S.f0.toList == X.toList) = true from beq_self_eq_true _]
      exact next
/-- What holds at the head of a slot. -/
def Head (now : Nat) (xs : List S28) (td : List Bool) (r : List S47) : Prop := xs.length = n ∧ td.length = n ∧ Bytes r ∧ r.length ≤ 40 ∧ ∀ j, j < n → Good s (decide (s < now)) (xs.getD j z28) (td.getD j false)
theorem loop3 (now : Nat) (hnow : now < 260) (B : Nat) (cont : ∀ (K : Nat) xs td r, B ≤ K → Head n s (now + 1) xs td r → hopmeshlaw49_InstallTogether.l1 K s (n : Int) xs td r ((now + 1 : Nat) : Int) 1 1 s X (nodes n) = some true) :
    ∀ (m K : Nat) (xs : List S28) (td : List Bool) (r : List S47), r.length ≤ m → B + 2 * m + 60 ≤ K → Head n s (now + 1) xs td r → hopmeshlaw49_InstallTogether.l3 K s (n : Int) xs td r (now : Int) (now : Int) 1 1 s X (nodes n) = some true := by
  have jf : ∀ (k : Nat) xs td r, B ≤ k → Head n s (now + 1) xs td r → hopmeshlaw49_InstallTogether.j5 (k + 1) s (n : Int) xs td r (now : Int) (now : Int) false 1 1 s X (nodes n) = some true := fun k xs td r hk hh => by
    have := cont k xs td r hk hh
    rw [← wrap_nat now (by omega)] at this
    exact this
  intro m
  induction m with
  | zero =>
    intro K xs td r hr hK hh
    obtain ⟨k, rfl⟩ : ∃ k, K = k + 1 + 1 := ⟨K - 2, by omega⟩
    unfold hopmeshlaw49_InstallTogether.l3
    rw [if_neg (by omega)]
    exact jf k xs td r (by omega) hh
  | succ m ih =>
    intro K xs td r hr hK hh
    obtain ⟨k, rfl⟩ : ∃ k, K = k + 20 + 1 + 1 := ⟨K - 22, by omega⟩
    obtain ⟨hx, ht, hb, h40, hg⟩ := hh
    unfold hopmeshlaw49_InstallTogether.l3
    by_cases c : (r.length : Int) > 0
    · rw [if_pos c, if_pos c]
      by_cases c2 : (wrap64 (rd_T47 r 0).f2 == (now : Int)) = true
      · have hin : rd_T47 r 0 ∈ r := by
          unfold rd_T47
          rw [List.getD_eq_getElem?_getD, List.getElem?_eq_getElem (by omega)]
          exact List.getElem_mem _
        obtain ⟨b0, _, _⟩ := hb _ hin
        rw [c2]
        unfold hopmeshlaw49_InstallTogether.j5
        rw [if_pos rfl, if_pos c, if_neg (by omega)]
        generalize rd_T47 r 0 = x at b0 ⊢
        rw [wrap_in x.f0 (by omega)]
        have q0 := Int.tmod_nonneg (n : Int) b0.1
        have q1 := Int.tmod_lt_of_pos x.f0 (show 0 < (n : Int) by omega)
        obtain ⟨q, hq⟩ : ∃ q : Nat, Int.tmod x.f0 (n : Int) = q := ⟨(Int.tmod x.f0 (n : Int)).toNat, by omega⟩
        rw [hq] at q0 q1 ⊢
        have hqn : q < n := by omega
        obtain ⟨d', e, tk, hd⟩ := take_good n h1 h8 s hs now hnow _ _ q hqn (hg q hqn) k
        rw [if_pos q0, if_pos (by omega), rd_nat, tk, Option.bind_some, wrap_in s (by omega), Int.toNat_natCast]
        have hbr : Bytes (r.drop 1) := fun y hy => hb y (List.mem_of_mem_drop hy)
        have hlr : (r.drop 1).length ≤ m := by rw [List.length_drop]; omega
        have next : ∀ t, Good s (decide (s < (now + 1 : Nat))) d' t → ∀ td' : List Bool, td'.length = n → (∀ j, j < n → td'.getD j false = if j = q then t else td.getD j false) →
            hopmeshlaw49_InstallTogether.l3 (k + 20) s (n : Int) (xs.set q d') td' (r.drop 1) (now : Int) (now : Int) 1 1 s X (nodes n) = some true := fun t hgd td' htd hj => by
          refine ih (k + 20) _ td' _ hlr (by omega) ⟨by rw [List.length_set]; exact hx, htd, hbr, by rw [List.length_drop]; omega, fun j hj' => ?_⟩
          rw [getD_set xs q j d' z28 (by omega), hj j hj']
          by_cases cj : j = q
          · rw [if_pos cj, if_pos cj]; exact hgd
          · rw [if_neg cj, if_neg cj]; exact hg j hj'
        rcases hd with ⟨rfl, hns, h0, hgd⟩ | ⟨hne, h0, hgd⟩
        · have nx := next true hgd (td.set q true) (by rw [List.length_set]; exact ht) (fun j hj => getD_set td q j true false (by omega))
          rw [if_pos rfl, if_pos (by omega), Option.bind_some, if_pos hns, h0, if_neg (show ¬ (((0 : Int) == 0) != ((0 : Int) == 0)) = true by decide), if_pos (by omega)]
          exact nx
        · have nx := next (td.getD q false) hgd td ht (fun j hj => by by_cases cj : j = q <;> simp [cj])
          rw [if_neg hne]
          by_cases cn : (now : Int) < s
          · rw [if_pos cn, show (e == 0) = false from beq_eq_false_iff_ne.mpr hne, show ((xs.getD q z28).f5 == 0) = false from beq_eq_false_iff_ne.mpr (h0 cn), if_neg (by decide), if_pos (by omega)]
            exact nx
          · rw [if_neg cn, show (e == 0) = false from beq_eq_false_iff_ne.mpr hne, if_neg (by decide), if_pos (by omega)]
            exact nx
      · rw [Bool.eq_false_iff.mpr c2]
        exact jf (k + 20) xs td r (by omega) ⟨hx, ht, hb, h40, hg⟩
    · rw [if_neg c]
      exact jf (k + 20) xs td r (by omega) ⟨hx, ht, hb, h40, hg⟩
theorem loop2 (now : Nat) (hnow : now < 260) (B : Nat) (td : List Bool) (ht : td.length = n) (r : List S47) (cont : ∀ (K : Nat) xs, B ≤ K → xs.length = n → (∀ j, j < n → Good s (decide (s < (now + 1 : Nat))) (xs.getD j z28) (td.getD j false)) → hopmeshlaw49_InstallTogether.l3 K s (n : Int) xs td r (now : Int) (now : Int) 1 1 s X (nodes n) = some true) :
    ∀ (d i K : Nat) (xs : List S28), i + d = n → B + d + 10 ≤ K → xs.length = n → (∀ j, j < i → Good s (decide (s < (now + 1 : Nat))) (xs.getD j z28) (td.getD j false)) → (∀ j, i ≤ j → j < n → Good s (decide (s < now)) (xs.getD j z28) (td.getD j false)) →
      hopmeshlaw49_InstallTogether.l2 K s (n : Int) xs td r (now : Int) (now : Int) (n : Int) (i : Int) 1 1 s X (nodes n) = some true := by
  intro d
  induction d with
  | zero =>
    intro i K xs hi hK hx hp hq
    obtain ⟨k, rfl⟩ : ∃ k, K = k + 1 := ⟨K - 1, by omega⟩
    unfold hopmeshlaw49_InstallTogether.l2
    rw [if_neg (by omega)]
    exact cont k xs (by omega) hx (fun j hj => hp j (by omega))
  | succ d ih =>
    intro i K xs hi hK hx hp hq
    obtain ⟨k, rfl⟩ : ∃ k, K = k + 4 + 1 := ⟨K - 5, by omega⟩
    obtain ⟨d', st, hd⟩ := step_good n h1 h8 s hs now hnow _ _ (hq i (Nat.le_refl _) (by omega)) k
    have next := ih (i + 1) (k + 4) (xs.set i d') (by omega) (by omega) (by rw [List.length_set]; exact hx) (fun j hj => by
        rw [getD_set xs i j d' z28 (by omega)]
        by_cases c : j = i
        · rw [if_pos c, c]; exact hd
        · rw [if_neg c]; exact hp j (by omega)) (fun j hj hjn => by
        rw [getD_set xs i j d' z28 (by omega), if_neg (by omega)]
        exact hq j (by omega) hjn)
    unfold hopmeshlaw49_InstallTogether.l2
    rw [if_pos (by omega), if_pos (by omega), if_pos (by omega), rd_nat, st, Option.bind_some, if_pos rfl, if_pos (by omega), rdOf_nat, wrap_in s (by omega), wrap_nat i (by omega), Int.toNat_natCast]
    cases td.getD i false with
    | true =>
      rw [if_pos rfl, Bool.true_and, if_neg (by simp)]
      exact next
    | false =>
      rw [if_neg (by decide), Bool.false_and, if_neg (show ¬ ((false : Bool) != false) = true by decide)]
      exact next
theorem loop1 : ∀ (d now K : Nat) (xs : List S28) (td : List Bool) (r : List S47), now + d = 260 → 200 * d + 100 ≤ K → Head n s now xs td r → hopmeshlaw49_InstallTogether.l1 K s (n : Int) xs td r (now : Int) 1 1 s X (nodes n) = some true := by
  intro d
  induction d with
  | zero =>
    intro now K xs td r hn hK hh
    obtain ⟨k, rfl⟩ : ∃ k, K = k + 1 := ⟨K - 1, by omega⟩
    obtain ⟨hx, ht, hb, h40, hg⟩ := hh
    unfold hopmeshlaw49_InstallTogether.l1
    rw [if_neg (by omega)]
    exact loop4 n h1 h8 s hs xs td hx ht (fun j hj => by have := hg j hj; rw [decide_eq_true (by omega)] at this; exact this) n 0 k (by omega) (by omega)
  | succ d ih =>
    intro now K xs td r hn hK hh
    obtain ⟨k, rfl⟩ : ∃ k, K = k + 1 := ⟨K - 1, by omega⟩
    obtain ⟨hx, ht, hb, h40, hg⟩ := hh
    have c1 : ∀ (K : Nat) xs td r, 200 * d + 100 ≤ K → Head n s (now + 1) xs td r → hopmeshlaw49_InstallTogether.l1 K s (n : Int) xs td r ((now + 1 : Nat) : Int) 1 1 s X (nodes n) = some true := fun K xs td r hK hh => ih (now + 1) K xs td r (by omega) hK hh
    have c2 := loop2 n h1 h8 s hs now (by omega) (200 * d + 100 + 140) td ht r (fun K xs hK hx' hp => loop3 n h1 h8 s hs now (by omega) (200 * d + 100) c1 40 K xs td r h40 (by omega) ⟨hx', ht, hb, h40, hp⟩) n 0 k xs (by omega) (by omega) hx (fun j hj => by omega) (fun j _ hj => hg j hj)
    unfold hopmeshlaw49_InstallTogether.l1
    rw [if_pos (by omega), hx]
    exact c2
theorem loop0 (l : List S47) (hl40 : l.length ≤ 40) (hb : Bytes l) :
    ∀ (d i K : Nat) (xs : List S28), i + d = n → 2300200 + d ≤ K → xs.length = n → (∀ j, j < i → xs.getD j z28 = F) → hopmeshlaw49_InstallTogether.l0 K s l (n : Int) (nodes i) xs (n : Int) (i : Int) = some true := by
  intro d
  induction d with
  | zero =>
    intro i K xs hi hK hl hj
    obtain ⟨k, rfl⟩ : ∃ k, K = k + 1 := ⟨K - 1, by omega⟩
    obtain rfl : i = n := by omega
    obtain ⟨r, hr, hg⟩ := PureS.order_total l (by omega) k (by omega)
    have go := loop1 i h1 h8 s hs 260 0 k xs (List.replicate i false) r rfl (by omega) ⟨hl, List.length_replicate .., fun x hx => hb x (hg.2 x hx), by rw [hg.1]; exact hl40, fun j h => .inl ⟨hj j h, by rw [List.getD_eq_getElem?_getD, List.getElem?_replicate]; split <;> rfl⟩⟩
    unfold hopmeshlaw49_InstallTogether.l0
    rw [if_neg (by omega), id_x, Option.bind_some, if_pos (by omega), if_pos (by omega), hr, Option.bind_some, wrap_in s (by omega), Int.toNat_natCast]
    exact go
  | succ d ih =>
    intro i K xs hi hK hl hj
    obtain ⟨k, rfl⟩ : ∃ k, K = k + 1 := ⟨K - 1, by omega⟩
    have cp := complete_o k (by omega)
    unfold hopmeshlaw49_InstallTogether.l0
    rw [if_pos (by omega), id_o, Option.bind_some, id_x, Option.bind_some]
    simp only [E] at cp
    rw [cp, Option.bind_some, if_pos rfl, if_pos (show (nodes i).length < 17592186044416 by rw [nodes_length]; omega), if_pos (by omega), if_pos (by omega), wrap_nat i (by omega), nodes_succ, Int.toNat_natCast]
    refine ih (i + 1) k _ (by omega) (by omega) (by rw [List.length_set]; exact hl) fun j h => ?_
    rw [getD_set _ i j _ z28 (by omega)]
    by_cases c : j = i
    · rw [if_pos c]; rfl
    · rw [if_neg c]; exact hj j (by omega)
end
theorem awake62 : hopmeshlaw49_awake.f 62 = some true := by kernel_rfl
theorem awake_more (K : Nat) (hK : 62 ≤ K) : hopmeshlaw49_awake.f K = some true := at_rounds hopmeshlaw49_awake.mono hK awake62
theorem j0_t (K : Nat) (a b : Int) (l : List S47) : hopmeshlaw49_InstallTogether.j0 (K + 1) a b l true = (hopmeshlaw49_awake.f K).bind fun t => some t := rfl
theorem j0_f (k : Nat) (a b : Int) (l : List S47) : hopmeshlaw49_InstallTogether.j0 (k + 1) a b l false = if 0 ≤ (wrap64 (1 + (wrap64 (Int.tmod a 8)))) then (if (wrap64 (1 + (wrap64 (Int.tmod a 8))) : Int).toNat ≤ 3909374676536 then (hopmeshlaw49_InstallTogether.l0 k b l (wrap64 (1 + (wrap64 (Int.tmod a 8)))) ([] : List Int) (List.replicate (wrap64 (1 + (wrap64 (Int.tmod a 8))) : Int).toNat z28) (wrap64 (1 + (wrap64 (Int.tmod a 8)))) 0) else (none)) else (none) := rfl
theorem together (K : Nat) (hK0 : 2400000 ≤ K) (a s : Int) (l : List S47) (ha : 0 ≤ a ∧ a ≤ 255) (hs : 0 ≤ s ∧ s ≤ 255) (hb : Bytes l) : hopmeshlaw49_InstallTogether.f K a s l = some true := by
  obtain ⟨K, rfl⟩ : ∃ k, K = k + 1 := ⟨K - 1, by omega⟩
  unfold hopmeshlaw49_InstallTogether.f
  rw [awake_more (K + 1) (by omega), Option.bind_some, if_pos rfl]
  by_cases h : (l.length : Int) > 40
  · rw [if_pos h, j0_t, awake_more K (by omega), Option.bind_some]
  · rw [if_neg h]
    by_cases h2 : s = 0
    · rw [show (s == 0) = true from beq_iff_eq.mpr h2, j0_t, awake_more K (by omega), Option.bind_some]
    · have t0 := Int.tmod_nonneg (8 : Int) ha.1
      have t1 := Int.tmod_lt_of_pos a (show 0 < (8 : Int) by omega)
      obtain ⟨n, hn⟩ : ∃ n : Nat, 1 + Int.tmod a 8 = n := ⟨(1 + Int.tmod a 8).toNat, by omega⟩
      have e : wrap64 (1 + (wrap64 (Int.tmod a 8))) = (n : Int) := by rw [wrap_in (Int.tmod a 8) (by omega), hn, wrap_in _ (by omega)]
      rw [show (s == 0) = false from beq_eq_false_iff_ne.mpr h2, j0_f, e, if_pos (by omega), if_pos (by omega), Int.toNat_natCast]
      exact loop0 n (by omega) (by omega) s (by omega) l (by omega) hb n 0 K (List.replicate n z28) (by omega) (by omega) (List.length_replicate ..) (fun j h => by omega)
end Go.Proofs.Ytdigplhjfjchnaa.PureT
namespace Go.Proofs.Ytdigplhjfjchnaa.PureT
open Go.RowKit Go.Proofs.Ytdigplhjfjchnaa.PQ Go.Proofs.YtdigplhjfjchnaaW.PrintWords Go.Proofs.YtdigplhjfjchnaaW.PrintLast Go.Proofs.YtdigplhjfjchnaaW.PrintMore
theorem together_walk (a s : Int) (A : Option Addr) (c : Nat) (l : List S47) (w : World) (ha : 0 ≤ a ∧ a ≤ 255) (hs : 0 ≤ s ∧ s ≤ 255) (r : Kd.C k47 w A l.length l) (g : l.length ≤ c) (hb : ∀ x ∈ l, (0 ≤ x.f0 ∧ x.f0 ≤ 255) ∧ (0 ≤ x.f1 ∧ x.f1 ≤ 255) ∧ 0 ≤ x.f2 ∧ x.f2 ≤ 255) :
    Calls Try.prog 5 #[.int .u8 a, .int .u8 s, .slice A l.length c] w fun e w' => e = .returned (.bool true) ∧ Below w.heap.size w w' := by
  obtain ⟨K, hK⟩ : ∃ K, 2400000 ≤ K := ⟨_, Nat.le_refl _⟩
  exact hopmeshlaw49_InstallTogether.calls K a s A c l true w r g (together K hK a s l ha hs hb)
end Go.Proofs.Ytdigplhjfjchnaa.PureT
