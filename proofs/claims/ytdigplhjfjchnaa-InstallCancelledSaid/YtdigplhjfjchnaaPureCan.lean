/-
  The plain law InstallCancelled: what the law's code computes is true at each three numbers of one byte. No condition beyond the parameters' own range.
-/
import Derived.Test.YtdigplhjfjchnaaPQxf4
import Derived.DataShut
namespace Go.Proofs.Ytdigplhjfjchnaa.Pure
open Go.RowKit Go.Proofs.Ytdigplhjfjchnaa.PQ Go.Proofs.YtdigplhjfjchnaaW.PrintWords Go.Proofs.YtdigplhjfjchnaaW.PrintLast

def X : ByteArray := rep32 ⟨#[120]⟩
theorem id_x : hopmeshlaw49_id.f ⟨#[120]⟩ = some X := by kernel_rfl
theorem identX : install_identifier.f X = some true := by kernel_rfl
theorem ident0 : install_identifier.f ⟨#[]⟩ = some false := by kernel_rfl
theorem emptyX : install_Check_1.f X = some true := by kernel_rfl
theorem empty0 : install_Check_1.f ⟨#[]⟩ = some true := by kernel_rfl
theorem list5 : ∀ k, install_list.f (k + 2) [5] = some true := fun k => by kernel_rfl
theorem contains5 : ∀ k, take_contains.f (k + 2) [5] 5 = some true := fun k => by kernel_rfl
theorem checkA (k : Nat) : install_Check.f (k + 2) ⟨#[]⟩ X false ⟨#[]⟩ 0 0 = some 0 := by kernel_rfl
/-- A device that is armed with the image X for a slot of the range checks well. -/
theorem checkB (k : Nat) (s n : Int) (h1 : 1 ≤ s) (h2 : s ≤ 1073741824) (h3 : 0 ≤ n) (h4 : n ≤ 1048576) : install_Check.f (k + 2) ⟨#[]⟩ X true X s n = some 0 := by
  have hx : (X.toList = ([] : List UInt8)) = False := by
    refine eq_false ?_
    have : X.toList.length = 32 := by kernel_rfl
    intro h
    rw [h] at this
    cases this
  simp only [install_Check.f, identX, Option.bind_some, if_true, ge_iff_le, h1, install_Check.j0, hx, if_false, install_Check.j1, emptyX, empty0, decide_eq_true h2, if_neg (show ¬ n < 0 by omega), if_neg (show ¬ n > 1048576 by omega)]
/-- A device that is not armed checks well. -/
theorem checkC (k : Nat) (n : Int) (h3 : 0 ≤ n) (h4 : n ≤ 1048576) : install_Check.f (k + 2) ⟨#[]⟩ X false ⟨#[]⟩ 0 n = some 0 := by
  have hx : ((⟨#[]⟩ : ByteArray).toList = X.toList) = False := by
    refine eq_false ?_
    have : X.toList.length = 32 := by kernel_rfl
    intro h
    have h0 : (⟨#[]⟩ : ByteArray).toList.length = 0 := by kernel_rfl
    rw [← h] at this
    omega
  have hz : ((⟨#[]⟩ : ByteArray).toList = ([] : List UInt8)) = True := eq_true (by kernel_rfl)
  simp only [install_Check.f, ident0, Option.bind_some, install_Check.j0, hz, if_true, install_Check.j1, emptyX, empty0, if_neg (show ¬ n < 0 by omega), if_neg (show ¬ n > 1048576 by omega)]
  rfl
theorem commandA (k : Nat) (n s : Int) (h1 : 1 ≤ n) (h2 : n ≤ 1048576) (h3 : 1 ≤ s) (h4 : s ≤ 1073741824) : install_command.f (k + 2) n 1 s X [5] = some true := by
  simp only [install_command.f, if_neg (show ¬ n < 1 by omega), if_neg (show ¬ n > 1048576 by omega), identX, Option.bind_some, if_true, list5, install_command.j0, Bool.not_true, Bool.false_eq_true, if_false, ge_iff_le, h3, decide_eq_true h4]
theorem commandB (k : Nat) (n : Int) (h1 : 1 ≤ n) (h2 : n ≤ 1048576) : install_command.f (k + 2) n 2 0 X [5] = some true := by
  simp only [install_command.f, if_neg (show ¬ n < 1 by omega), if_neg (show ¬ n > 1048576 by omega), identX, Option.bind_some, if_true, list5, install_command.j0, Bool.not_true, Bool.false_eq_true, if_false]
  rfl
theorem takeA (k : Nat) (n s : Int) (h1 : 1 ≤ n) (h2 : n ≤ 1048576) (h3 : 1 ≤ s) (h4 : s ≤ 1073741824) : install_Take.f (k + 4) ⟨#[]⟩ X false ⟨#[]⟩ 0 0 n 1 s X [5] 5 0 = some (⟨#[]⟩, X, true, X, s, n, 0) := by
  have c : take_contains.f (k + 2) [5] 5 = some true := contains5 k
  simp only [install_Take.f, checkA (k + 2), Option.bind_some, if_true, commandA (k + 2) n s h1 h2 h3 h4, Bool.not_true, install_Take.j0, Bool.false_eq_true, if_false, install_Take.j1, if_neg (show ¬ n ≤ 0 by omega), c, if_neg (show ¬ s ≤ 0 by omega)]
  rfl
theorem takeB (k : Nat) (n m s : Int) (h1 : 1 ≤ n) (h2 : n ≤ 1048576) (h3 : 1 ≤ s) (h4 : s ≤ 1073741824) (h5 : 1 ≤ m) (h6 : m ≤ 1048576) : install_Take.f (k + 4) ⟨#[]⟩ X true X s n m 2 0 X [5] 5 1 = some (if m ≤ n then (⟨#[]⟩, X, true, X, s, n, 23) else (⟨#[]⟩, X, false, ⟨#[]⟩, 0, m, 0)) := by
  have c : take_contains.f (k + 2) [5] 5 = some true := contains5 k
  have e : install_Take.f (k + 4) ⟨#[]⟩ X true X s n m 2 0 X [5] 5 1 = if m ≤ n then some (⟨#[]⟩, X, true, X, s, n, 23) else some (⟨#[]⟩, X, false, ⟨#[]⟩, 0, m, 0) := by
    simp only [install_Take.f, checkB (k + 2) s n h3 h4 (by omega) h2, Option.bind_some, if_true, commandB (k + 2) m h5 h6, Bool.not_true, install_Take.j0, Bool.false_eq_true, if_false, install_Take.j1, c, install_disarm.f]
    rfl
  rw [e]
  split <;> rfl
theorem stepA (k : Nat) (s n : Int) (h1 : 1 ≤ s) (h2 : s ≤ 1073741824) (h3 : 0 ≤ n) (h4 : n ≤ 1048576) : install_Step.f (k + 4) ⟨#[]⟩ X true X s n s = some (X, X, false, ⟨#[]⟩, 0, n, true, 0) := by
  have e : (s == s) = true := beq_self_eq_true s
  simp only [install_Step.f, checkB (k + 2) s n h1 h2 h3 h4, Option.bind_some, if_true, if_neg (show ¬ s < 0 by omega), decide_eq_false (show ¬ s > 1073741824 by omega), install_Step.j0, Bool.false_eq_true, if_false, install_Step.j1, decide_eq_false (show ¬ s < s by omega), install_disarm.f, e]
theorem stepB (k : Nat) (s n : Int) (h1 : 1 ≤ s) (h2 : s ≤ 1073741824) (h3 : 0 ≤ n) (h4 : n ≤ 1048576) : install_Step.f (k + 4) ⟨#[]⟩ X false ⟨#[]⟩ 0 n s = some (⟨#[]⟩, X, false, ⟨#[]⟩, 0, n, false, 0) := by
  simp only [install_Step.f, checkC (k + 2) n h3 h4, Option.bind_some, if_true, if_neg (show ¬ s < 0 by omega), decide_eq_false (show ¬ s > 1073741824 by omega), install_Step.j0, Bool.false_eq_true, if_false, install_Step.j1]

theorem beyond (a : Int) (h : (Lit.int .u8 a).wf = true) : 0 ≤ a ∧ a ≤ 255 := by
  have b := (Lit.wf_int_iff _ _).mp h
  have e1 : IntKind.u8.min = 0 := by kernel_rfl
  have e2 : IntKind.u8.max = 255 := by kernel_rfl
  rw [e1, e2] at b
  exact b
theorem wrap_in (n : Int) (h : -9223372036854775808 ≤ n ∧ n ≤ 9223372036854775807) : wrap64 n = n := by unfold wrap64; omega
theorem wrap1 (a : Int) (h : 0 ≤ a ∧ a ≤ 255) : wrap64 (1 + wrap64 a) = 1 + a := by
  rw [wrap_in a (by omega), wrap_in _ (by omega)]

theorem InstallCancelled : hopmeshlaw49_InstallCancelled.Pure := by
  intro a0 a1 a2 h0 h1 h2
  have b0 := beyond a0 h0
  have b1 := beyond a1 h1
  have b2 := beyond a2 h2
  refine ⟨62, ?_⟩
  have aw62 : hopmeshlaw49_awake.f 62 = some true := by kernel_rfl
  have aw61 : hopmeshlaw49_awake.f 61 = some true := by kernel_rfl
  simp only [hopmeshlaw49_InstallCancelled.f, aw62, Option.bind_some, if_true, hopmeshlaw49_InstallCancelled.j0, aw61]
  by_cases h3 : a2 < 3
  · rw [if_pos (decide_eq_true h3)]
  · rw [if_neg (by simp [h3])]
    have c0 : install_Complete.f 61 ⟨#[]⟩ ⟨#[]⟩ false ⟨#[]⟩ 0 0 X = some (⟨#[]⟩, X, false, ⟨#[]⟩, 0, 0, 0) := by kernel_rfl
    have w2 : wrap64 a2 = a2 := wrap_in a2 (by omega)
    have tA := takeA 57 (1 + a0) a2 (by omega) (by omega) (by omega) (by omega)
    have tB := takeB 57 (1 + a0) (1 + a1) a2 (by omega) (by omega) (by omega) (by omega) (by omega) (by omega)
    have sA := stepA 57 a2 (1 + a0) (by omega) (by omega) (by omega) (by omega)
    have sB := stepB 57 a2 (1 + a1) (by omega) (by omega) (by omega) (by omega)
    simp only [id_x, Option.bind_some, c0, wrap1 a0 b0, wrap1 a1 b1, w2, tA, tB]
    by_cases h4 : a1 > a0
    · simp only [if_neg (show ¬ 1 + a1 ≤ 1 + a0 by omega), sB, Option.bind_some, if_true, hopmeshlaw49_InstallCancelled.j1, if_pos h4]
      rfl
    · simp only [if_pos (show 1 + a1 ≤ 1 + a0 by omega), sA, Option.bind_some, if_true, hopmeshlaw49_InstallCancelled.j1, if_neg h4]
      rfl
end Go.Proofs.Ytdigplhjfjchnaa.Pure
