/-
  A row of commands (three numbers, a string, a row of numbers each) and a row of bytes as arguments of a law: opened to what the walks speak of. No condition.
-/
import Derived.Test.YtdigplhjfjchnaaBools
namespace Go.Proofs.Ytdigplhjfjchnaa.Open
open Go.Joins Go.ChangeShapes Go.WideShapes Go.RowKit Go.Deep Go.Proofs.Ytdigplhjfjchnaa.PQ Go.Proofs.YtdigplhjfjchnaaW.PrintWords
theorem list5 {α : Type} (l : List α) (h : l.length = 5) : ∃ a b c d e, l = [a, b, c, d, e] := by
  match l, h with
  | [a, b, c, d, e], _ => exact ⟨a, b, c, d, e, rfl⟩
theorem pick_list {α : Type} {n : Nat} {p : Nat → α → Prop} (h : ∀ j, j < n → ∃ x, p j x) : ∃ zs : List α, zs.length = n ∧ ∀ j x, zs[j]? = some x → p j x := by
  refine ⟨List.ofFn fun j : Fin n => Classical.choose (h j.1 j.2), List.length_ofFn, fun j x hx => ?_⟩
  rw [List.getElem?_ofFn] at hx
  split at hx
  · next hj =>
    cases hx
    exact Classical.choose_spec (h j hj)
  · cases hx
section
variable {H : Type} {enc : TypeId × Value → H} {w : World} {base : Nat} {spare : Nat → Bool} {held : Bool}
set_option maxRecDepth 100000 in
theorem command_one {m : Nat} {cs : List Value} {y : DataW H × List MemPlace} (h : DataW.trod enc Try.prog w base spare held m 36 cs = some y) (hs : ∀ b, spare b = true) :
    ∃ (x : S36) (A : Option Addr) (c : Nat), cs = [.int .i64 x.f0, .int .i64 x.f1, .int .i64 x.f2, .string x.f3, .slice A x.f4.length c] ∧ x.f4.length ≤ c ∧ Kd.C (Kd.int .i64) w A x.f4.length x.f4 := by
  obtain ⟨y0, y1, y2, y3, y4, n, _, hl, h0, h1, h2, h3, h4⟩ := trod_struct5 Try.underlying36 h
  obtain ⟨v0, v1, v2, v3, v4, rfl⟩ := list5 cs (hl.trans cells36)
  have c3 : Try.prog.cellsOf 3 = 1 := by kernel_rfl
  have c9 : Try.prog.cellsOf 9 = 1 := by kernel_rfl
  have c34 : Try.prog.cellsOf 34 = 1 := by kernel_rfl
  simp [c3, c9, c34] at h0 h1 h2 h3 h4
  obtain ⟨a, e0, _, _⟩ := DataW.trod_int Try.underlying3 h0
  obtain ⟨b, e1, _, _⟩ := DataW.trod_int Try.underlying3 h1
  obtain ⟨s, e2, _, _⟩ := DataW.trod_int Try.underlying3 h2
  obtain ⟨id, e3, _, _⟩ := Go.DataW.trod_string Try.underlying9 h3
  simp at e0 e1 e2 e3
  subst e0 e1 e2 e3
  obtain ⟨A, c, l, rfl, g, r, _⟩ := ints_open h4 hs
  exact ⟨⟨a, b, s, id, l⟩, A, c, rfl, g, r⟩
set_option maxRecDepth 100000 in
theorem commands_open {b0 : Nat} {r : Reach} {v : Value} {d : DataW H} {p : List MemPlace} (hs : ∀ b, spare b = true) (hv : Value.okWide Try.prog w r b0 23 v) (h0 : DataW.Trod enc Try.prog w base spare held 23 v d p) :
    ∃ (A : Option Addr) (c : Nat) (zs : List S36), v = .slice A zs.length c ∧ Kd.C k36 w A zs.length zs ∧ zs.length ≤ c := by
  obtain ⟨fuel, hf⟩ := h0
  obtain ⟨a0, l0, c0, rfl⟩ := okWide_slice Try.underlying23 hv
  have hone : (Value.slice a0 l0 c0).cells.toList = [Value.slice a0 l0 c0] := rfl
  rw [hone] at hf
  rcases DataW.trod_slice Try.underlying23 hf with ⟨hcs, _⟩ | ⟨a, len, cap, elems, rest, n, _, hcs, hx, hb, hl, hm, hlen, hel, _, _⟩
  · obtain ⟨rfl, rfl, rfl⟩ : a0 = none ∧ l0 = 0 ∧ c0 = 0 := by simpa using hcs
    exact ⟨none, 0, [], rfl, ⟨rfl, by simp, fun h => absurd h (by simp)⟩, Nat.le_refl _⟩
  · obtain ⟨rfl, rfl, rfl⟩ : some a = a0 ∧ len = l0 ∧ cap = c0 := by simpa [eq_comm] using hcs
    have hm' := maxLen_le
    have each : ∀ j, j < len → ∃ x : S36, ∃ cs : List Value, k36.K w x cs ∧ cs.length = 5 ∧ ∀ i u, cs[i]? = some u → w.cell? (a.add (j * k36.sz + i)) = some u := fun j hj => by
      have he := hel j hj
      obtain ⟨y, hy⟩ : ∃ y, elems[j]? = some y := ⟨elems[j]'(by omega), List.getElem?_eq_getElem (by omega)⟩
      rw [hy, cells36, Option.bind_eq_some_iff] at he
      obtain ⟨cs, hc, ht⟩ := he
      obtain ⟨x, A, c, rfl, g, r⟩ := command_one ht hs
      have hcell := (World.cells?_some hc).2.2
      refine ⟨x, _, k36_mk w x g r, rfl, fun i u hu => ?_⟩
      have hi : i < 5 := by
        rcases Nat.lt_or_ge i 5 with hi | hi
        · exact hi
        · rw [List.getElem?_eq_none (show [Value.int .i64 x.f0, .int .i64 x.f1, .int .i64 x.f2, .string x.f3, .slice A x.f4.length c].length ≤ i from hi)] at hu
          cases hu
      have h3 := hcell i hi
      rw [show (a.add (j * 5)).add i = a.add (j * k36.sz + i) from by rw [show k36.sz = 5 from rfl]; exact Go.Deep.add_add _ _ _] at h3
      rw [h3]
      exact hu
    obtain ⟨zs, lz, hz⟩ := pick_list each
    refine ⟨some a, cap, zs, by rw [lz], ⟨rfl, by omega, fun _ => ⟨a, rfl, fun j p hp => ?_⟩⟩, by omega⟩
    obtain ⟨cs, hK, hn, hc⟩ := hz j p hp
    exact ⟨cs, hn, hK, hc⟩
set_option maxRecDepth 100000 in
theorem u8s_open {b0 : Nat} {r : Reach} {v : Value} {d : DataW H} {p : List MemPlace} (hs : ∀ b, spare b = true) (hv : Value.okWide Try.prog w r b0 24 v) (h0 : DataW.Trod enc Try.prog w base spare held 24 v d p) :
    ∃ (A : Option Addr) (c : Nat) (zs : List Int), v = .slice A zs.length c ∧ Kd.C (Kd.int .u8) w A zs.length zs ∧ zs.length ≤ c ∧ ∀ n ∈ zs, 0 ≤ n ∧ n ≤ 255 := by
  obtain ⟨fuel, hf⟩ := h0
  obtain ⟨a0, l0, c0, rfl⟩ := okWide_slice Try.underlying24 hv
  have hone : (Value.slice a0 l0 c0).cells.toList = [Value.slice a0 l0 c0] := rfl
  rw [hone] at hf
  rcases open_ints Try.underlying24 Try.underlying5 (by kernel_rfl) hf with ⟨hcs, _⟩ | ⟨a, l, c, zs, hcs, _, hl, hm, hz, _, hcell, hwz⟩
  · obtain ⟨rfl, rfl, rfl⟩ : a0 = none ∧ l0 = 0 ∧ c0 = 0 := by simpa using hcs
    exact ⟨none, 0, [], rfl, ⟨rfl, by simp, fun h => absurd h (by simp)⟩, Nat.le_refl _, fun n hn => by cases hn⟩
  · obtain ⟨rfl, rfl, rfl⟩ : some a = a0 ∧ l = l0 ∧ c = c0 := by simpa [eq_comm] using hcs
    rw [hs, if_pos rfl] at hz
    have hlen : (zs.take l).length = l := by rw [List.length_take]; omega
    have hm' := maxLen_le
    refine ⟨some a, c, zs.take l, by rw [hlen], ⟨rfl, by omega, fun _ => ⟨a, rfl, fun j p hp => ?_⟩⟩, by omega, fun n hn => u8_range n (hwz n (List.mem_of_mem_take hn))⟩
    refine ⟨[.int .u8 p], rfl, rfl, fun i u hu => ?_⟩
    have hj : j < l := by
      rcases Nat.lt_or_ge j l with hj | hj
      · exact hj
      · rw [List.getElem?_eq_none (by omega)] at hp
        cases hp
    have hi : i = 0 := by
      rcases Nat.eq_zero_or_pos i with hi | hi
      · exact hi
      · rw [List.getElem?_eq_none (show [Value.int .u8 p].length ≤ i from hi)] at hu
        cases hu
    subst hi
    rw [show j * (Kd.int .u8).sz + 0 = j from Nat.mul_one j, hcell j (by omega)]
    rw [List.getElem?_take, if_pos hj] at hp
    simp at hu
    rw [← hu, List.getD_eq_getElem?_getD, hp]
    rfl
end
end Go.Proofs.Ytdigplhjfjchnaa.Open
