/-
  A command (three numbers, a string, a row of numbers) as an argument of a law: opened to what the walks speak of. No condition.
-/
import Derived.Test.YtdigplhjfjchnaaZ0
import Derived.Deep.Slices
import Derived.Deep.Fields
import Derived.ChangeSame
import Derived.ChangeArms
import Derived.ChangeMaps5
import Derived.Lib.SmallJoins
import Derived.ChangeSlices
namespace Go.Proofs.Ytdigplhjfjchnaa.Open
open Go.Joins Go.ChangeShapes Go.WideShapes Go.RowKit Go.Deep Go.Proofs.Ytdigplhjfjchnaa.PQ Go.Proofs.YtdigplhjfjchnaaW.PrintWords
theorem maxLen_le : maxLen ≤ 9223372036854775807 := by decide +kernel
theorem array5 {α : Type} {cs : Array α} (h : cs.size = 5) : ∃ c0 c1 c2 c3 c4, cs = #[c0, c1, c2, c3, c4] := by
  obtain ⟨l⟩ := cs
  match l, h with
  | [c0, c1, c2, c3, c4], _ => exact ⟨c0, c1, c2, c3, c4, rfl⟩
section
variable {H : Type} {enc : TypeId × Value → H} {P : Program} {w : World} {base : Nat} {spare : Nat → Bool} {held : Bool}
theorem trod_struct5 {t : TypeId} {f0 f1 f2 f3 f4 : Field} {fuel : Nat} {cs : List Value} {x : DataW H × List MemPlace} (ht : P.underlying t = some (.struct #[f0, f1, f2, f3, f4])) (h : DataW.trod enc P w base spare held fuel t cs = some x) :
    ∃ y0 y1 y2 y3 y4 n, x = (.agg [y0.1, y1.1, y2.1, y3.1, y4.1], y0.2 ++ (y1.2 ++ (y2.2 ++ (y3.2 ++ y4.2)))) ∧ cs.length = P.cellsOf t ∧ DataW.trod enc P w base spare held n f0.type ((cs.drop f0.offset).take (P.cellsOf f0.type)) = some y0 ∧
      DataW.trod enc P w base spare held n f1.type ((cs.drop f1.offset).take (P.cellsOf f1.type)) = some y1 ∧ DataW.trod enc P w base spare held n f2.type ((cs.drop f2.offset).take (P.cellsOf f2.type)) = some y2 ∧
      DataW.trod enc P w base spare held n f3.type ((cs.drop f3.offset).take (P.cellsOf f3.type)) = some y3 ∧ DataW.trod enc P w base spare held n f4.type ((cs.drop f4.offset).take (P.cellsOf f4.type)) = some y4 := by
  obtain ⟨xs, n, _, rfl, hl, hlen, hf⟩ := DataW.trod_struct ht h
  match xs, hlen with
  | [y0, y1, y2, y3, y4], _ => exact ⟨y0, y1, y2, y3, y4, n, by simp, hl, by simpa using hf 0 f0 rfl, by simpa using hf 1 f1 rfl, by simpa using hf 2 f2 rfl, by simpa using hf 3 f3 rfl, by simpa using hf 4 f4 rfl⟩
theorem open_agg5 {r : Reach} {b0 : Nat} {t : TypeId} {f0 f1 f2 f3 f4 : Field} {v : Value} {d : DataW H} {p : List MemPlace} (hs : P.underlying t = some (.struct #[f0, f1, f2, f3, f4])) (hone : oneCellFields P #[f0, f1, f2, f3, f4] = true) (hC : P.cellsOf t = 5)
    (hv : Value.okWide P w r b0 t v) (h : DataW.Trod enc P w base spare held t v d p) :
    ∃ (v0 v1 v2 v3 v4 : Value) (y0 y1 y2 y3 y4 : DataW H × List MemPlace) (n : Nat), v = .agg #[v0, v1, v2, v3, v4] ∧ d = .agg [y0.1, y1.1, y2.1, y3.1, y4.1] ∧
      DataW.trod enc P w base spare held n f0.type [v0] = some y0 ∧ DataW.trod enc P w base spare held n f1.type [v1] = some y1 ∧ DataW.trod enc P w base spare held n f2.type [v2] = some y2 ∧ DataW.trod enc P w base spare held n f3.type [v3] = some y3 ∧ DataW.trod enc P w base spare held n f4.type [v4] = some y4 := by
  obtain ⟨cs, rfl, hsz⟩ := okWide_struct hs hv
  obtain ⟨c0, c1, c2, c3, c4, rfl⟩ := array5 (hsz.trans hC)
  obtain ⟨fuel, hf⟩ := h
  obtain ⟨y0, y1, y2, y3, y4, n, hx, _, h0, h1, h2, h3, h4⟩ := trod_struct5 hs hf
  obtain ⟨o0, k0⟩ := hone_of hone 0 f0 rfl
  obtain ⟨o1, k1⟩ := hone_of hone 1 f1 rfl
  obtain ⟨o2, k2⟩ := hone_of hone 2 f2 rfl
  obtain ⟨o3, k3⟩ := hone_of hone 3 f3 rfl
  obtain ⟨o4, k4⟩ := hone_of hone 4 f4 rfl
  simp only [Prod.mk.injEq] at hx
  exact ⟨c0, c1, c2, c3, c4, y0, y1, y2, y3, y4, n, rfl, hx.1, by simpa [Value.cells, o0, k0] using h0, by simpa [Value.cells, o1, k1] using h1, by simpa [Value.cells, o2, k2] using h2, by simpa [Value.cells, o3, k3] using h3, by simpa [Value.cells, o4, k4] using h4⟩
end
section
variable {H : Type} {enc : TypeId × Value → H} {w : World} {base : Nat} {spare : Nat → Bool} {held : Bool}
theorem ints_open {fuel : Nat} {v : Value} {x : DataW H × List MemPlace} (h : DataW.trod enc Try.prog w base spare held fuel 34 [v] = some x) (hs : ∀ b, spare b = true) :
    ∃ (A : Option Addr) (c : Nat) (zs : List Int), v = .slice A zs.length c ∧ zs.length ≤ c ∧ Kd.C (Kd.int .i64) w A zs.length zs ∧ ∀ n ∈ zs, (Lit.int .i64 n).wf = true := by
  rcases open_ints Try.underlying34 Try.underlying3 (by kernel_rfl) h with ⟨hcs, _⟩ | ⟨a, l, c, zs, hcs, _, hl, hm, hz, _, hcell, hwz⟩
  · obtain rfl : v = .slice none 0 0 := by simpa using hcs
    exact ⟨none, 0, [], rfl, Nat.le_refl _, ⟨rfl, by simp, fun h => absurd h (by simp)⟩, fun n hn => by cases hn⟩
  · obtain rfl : v = .slice (some a) l c := by simpa using hcs
    rw [hs, if_pos rfl] at hz
    have hlen : (zs.take l).length = l := by rw [List.length_take]; omega
    have hm' := maxLen_le
    refine ⟨some a, c, zs.take l, by rw [hlen], by omega, ⟨rfl, by omega, fun _ => ⟨a, rfl, fun j p hp => ?_⟩⟩, fun n hn => hwz n (List.mem_of_mem_take hn)⟩
    refine ⟨[.int .i64 p], rfl, rfl, fun i u hu => ?_⟩
    have hj : j < l := by
      rcases Nat.lt_or_ge j l with hj | hj
      · exact hj
      · rw [List.getElem?_eq_none (by omega)] at hp
        cases hp
    have hi : i = 0 := by
      rcases Nat.eq_zero_or_pos i with hi | hi
      · exact hi
      · rw [List.getElem?_eq_none (show [Value.int .i64 p].length ≤ i from hi)] at hu
        cases hu
    subst hi
    rw [show j * (Kd.int .i64).sz + 0 = j from Nat.mul_one j, hcell j (by omega)]
    rw [List.getElem?_take, if_pos hj] at hp
    simp at hu
    rw [← hu, List.getD_eq_getElem?_getD, hp]
    rfl
theorem cells36 : Try.prog.cellsOf 36 = 5 := by kernel_rfl
set_option maxRecDepth 100000 in
theorem command_open {b0 : Nat} {r : Reach} {v : Value} {d : DataW H} {p : List MemPlace} (hs : ∀ b, spare b = true) (hv : Value.okWide Try.prog w r b0 36 v) (h : DataW.Trod enc Try.prog w base spare held 36 v d p) :
    ∃ (n k s : Int) (id : ByteArray) (A : Option Addr) (c : Nat) (l : List Int),
      v = .agg #[.int .i64 n, .int .i64 k, .int .i64 s, .string id, .slice A l.length c] ∧ Kd.C (Kd.int .i64) w A l.length l ∧ l.length ≤ c ∧
      (Lit.int .i64 n).wf = true ∧ (Lit.int .i64 k).wf = true ∧ (Lit.int .i64 s).wf = true ∧ ∀ z ∈ l, (Lit.int .i64 z).wf = true := by
  obtain ⟨c0, c1, c2, c3, c4, y0, y1, y2, y3, y4, m, rfl, _, h0, h1, h2, h3, h4⟩ := open_agg5 Try.underlying36 (by kernel_rfl) cells36 hv h
  obtain ⟨n, e0, _, w0⟩ := DataW.trod_int Try.underlying3 h0
  obtain ⟨k, e1, _, w1⟩ := DataW.trod_int Try.underlying3 h1
  obtain ⟨s, e2, _, w2⟩ := DataW.trod_int Try.underlying3 h2
  obtain ⟨id, e3, _, w3⟩ := Go.DataW.trod_string Try.underlying9 h3
  simp at e0 e1 e2 e3
  subst e0 e1 e2 e3
  obtain ⟨A, c, l, rfl, g, r, x⟩ := ints_open h4 hs
  exact ⟨n, k, s, id, A, c, l, rfl, r, g, w0, w1, w2, x⟩
end
end Go.Proofs.Ytdigplhjfjchnaa.Open
