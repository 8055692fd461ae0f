/-
  A row of Bools as an argument of a law: opened to what the walks speak of. No condition.
-/
import Derived.Test.YtdigplhjfjchnaaOpen
import Derived.DataShut
namespace Go.Proofs.Ytdigplhjfjchnaa.Open
open Go.Joins Go.ChangeShapes Go.WideShapes Go.RowKit Go.Deep Go.Proofs.Ytdigplhjfjchnaa.PQ Go.Proofs.YtdigplhjfjchnaaW.PrintWords
theorem u8_range (n : Int) (h : (Lit.int .u8 n).wf = true) : 0 ≤ n ∧ n ≤ 255 := by
  have h1 := (Go.Lit.wf_int_iff .u8 n).mp h
  simp only [IntKind.min, IntKind.max, IntKind.signed, IntKind.bits, Bool.false_eq_true, if_false] at h1
  omega
section
variable {H : Type} {enc : TypeId × Value → H} {w : World} {base : Nat} {spare : Nat → Bool} {held : Bool}
def boolOf (y : DataW H × List MemPlace) : Bool := match y.1 with | .lit (.bool b) => b | _ => false
set_option maxRecDepth 100000 in
theorem bools_open {b0 : Nat} {r : Reach} {v : Value} {d : DataW H} {p : List MemPlace} (hv : Value.okWide Try.prog w r b0 22 v) (h0 : DataW.Trod enc Try.prog w base spare held 22 v d p) :
    ∃ (A : Option Addr) (c : Nat) (zs : List Bool), v = .slice A zs.length c ∧ Kd.C Kd.bool w A zs.length zs ∧ zs.length ≤ c := by
  obtain ⟨fuel, hf⟩ := h0
  obtain ⟨a0, l0, c0, rfl⟩ := okWide_slice Try.underlying22 hv
  have hone : (Value.slice a0 l0 c0).cells.toList = [Value.slice a0 l0 c0] := rfl
  rw [hone] at hf
  rcases DataW.trod_slice Try.underlying22 hf with ⟨hcs, _⟩ | ⟨a, len, cap, elems, rest, n, _, hcs, hx, hb, hl, hm, hlen, hel, _, _⟩
  · obtain ⟨rfl, rfl, rfl⟩ : a0 = none ∧ l0 = 0 ∧ c0 = 0 := by simpa using hcs
    exact ⟨none, 0, [], rfl, ⟨rfl, by simp, fun h => absurd h (by simp)⟩, Nat.le_refl _⟩
  · obtain ⟨rfl, rfl, rfl⟩ : some a = a0 ∧ len = l0 ∧ cap = c0 := by simpa [eq_comm] using hcs
    have hm' := maxLen_le
    have lz : (elems.map boolOf).length = len := by rw [List.length_map]; exact hlen
    refine ⟨some a, cap, elems.map boolOf, by rw [lz], ⟨rfl, by omega, fun _ => ⟨a, rfl, fun j p hp => ?_⟩⟩, by omega⟩
    rw [List.getElem?_map] at hp
    cases hy : elems[j]? with
    | none => rw [hy] at hp; cases hp
    | some y =>
      rw [hy] at hp
      have hj : j < len := by
        rcases Nat.lt_or_ge j len with hj | hj
        · exact hj
        · rw [List.getElem?_eq_none (by omega)] at hy
          cases hy
      have he := hel j hj
      rw [hy, show Try.prog.cellsOf 4 = 1 by kernel_rfl, Nat.mul_one, Option.bind_eq_some_iff] at he
      obtain ⟨cs, hc, ht⟩ := he
      obtain ⟨b, rfl, rfl⟩ := DataW.trod_bool Try.underlying4 ht
      have hcell := cell_of_cells?_one hc
      obtain rfl : b = p := by simpa [boolOf] using hp
      refine ⟨[.bool b], rfl, rfl, fun i u hu => ?_⟩
      have hi : i = 0 := by
        rcases Nat.eq_zero_or_pos i with hi | hi
        · exact hi
        · rw [List.getElem?_eq_none (show [Value.bool b].length ≤ i from hi)] at hu
          cases hu
      subst hi
      rw [show j * Kd.bool.sz + 0 = j from Nat.mul_one j, hcell]
      simp at hu
      rw [← hu]
end
end Go.Proofs.Ytdigplhjfjchnaa.Open
