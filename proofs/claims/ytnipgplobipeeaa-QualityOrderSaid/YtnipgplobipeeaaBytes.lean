/-
  A row of bytes as an argument of a law: opened to what the walks speak of. No condition.
-/
import Derived.Test.YtnipgplobipeeaaLearner
import Derived.DataShut
namespace Go.Proofs.Ytnipgplobipeeaa.Open
open Go.Joins Go.ChangeShapes Go.WideShapes Go.RowKit Go.Deep Go.Proofs.Ytnipgplobipeeaa.PQ Go.Proofs.YtnipgplobipeeaaW.PrintWords
theorem u8_range (n : Int) (h : (Lit.int .u8 n).wf = true) : 0 ≤ n ∧ n < 256 := by
  have h1 := (Go.Lit.wf_int_iff .u8 n).mp h
  simp only [IntKind.min, IntKind.max, IntKind.signed, IntKind.bits, Bool.false_eq_true, if_false] at h1
  omega
section
variable {H : Type} {enc : TypeId × Value → H} {w : World} {base : Nat} {spare : Nat → Bool} {held : Bool}
theorem bytes_open {b0 : Nat} {r : Reach} {v : Value} {d : DataW H} {p : List MemPlace} (hs : ∀ b, spare b = true) (hv : Value.okWide Try.prog w r b0 58 v) (h0 : DataW.Trod enc Try.prog w base spare held 58 v d p) :
    ∃ (A : Option Addr) (c : Nat) (zs : List Int), v = .slice A zs.length c ∧ Kd.C (Kd.int .u8) w A zs.length zs ∧ zs.length ≤ c ∧ ∀ n ∈ zs, 0 ≤ n ∧ n < 256 := by
  obtain ⟨fuel, hf⟩ := h0
  obtain ⟨a0, l0, c0, rfl⟩ := okWide_slice Try.underlying58 hv
  have hone : (Value.slice a0 l0 c0).cells.toList = [Value.slice a0 l0 c0] := rfl
  rw [hone] at hf
  rcases open_ints Try.underlying58 Try.underlying5 (by kernel_rfl) hf with ⟨hcs, _⟩ | ⟨a, l, c, zs, hcs, _, hl, hm, hz, _, hcell, hwz⟩
  · obtain ⟨rfl, rfl, rfl⟩ : a0 = none ∧ l0 = 0 ∧ c0 = 0 := by simpa using hcs
    exact ⟨none, 0, [], rfl, ⟨rfl, by simp, fun h => absurd h (by simp)⟩, Nat.le_refl _, fun n hn => by cases hn⟩
  · obtain ⟨rfl, rfl, rfl⟩ : some a = a0 ∧ l = l0 ∧ c = c0 := by simpa [eq_comm] using hcs
    rw [hs, if_pos rfl] at hz
    have hlen : (zs.take l).length = l := by rw [List.length_take]; omega
    have hm' := maxLen_le
    refine ⟨some a, c, zs.take l, by rw [hlen], ⟨rfl, by omega, fun _ => ⟨a, rfl, fun j p hp => ?_⟩⟩, by omega, fun n hn => u8_range n (hwz n (List.mem_of_mem_take hn))⟩
    refine ⟨[.int .u8 p], rfl, rfl, fun i u hu => ?_⟩
    have hj : j < l := by
      rcases Nat.lt_or_ge j l with hj | hj
      · exact hj
      · rw [List.getElem?_eq_none (by omega)] at hp
        cases hp
    have hi : i = 0 := by
      rcases Nat.eq_zero_or_pos i with hi | hi
      · exact hi
      · rw [List.getElem?_eq_none (show [Value.int .u8 p].length ≤ i from hi)] at hu
        cases hu
    subst hi
    rw [show j * (Kd.int .u8).sz + 0 = j from Nat.mul_one j, hcell j (by omega)]
    rw [List.getElem?_take, if_pos hj] at hp
    simp at hu
    rw [← hu, List.getD_eq_getElem?_getD, hp]
    rfl
end
end Go.Proofs.Ytnipgplobipeeaa.Open
