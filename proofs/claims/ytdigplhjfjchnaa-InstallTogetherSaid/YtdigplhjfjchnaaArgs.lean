/- A command, a row of Bools, a row of deliveries as arguments of a law: opened to what the walks speak of. No condition. -/
import Derived.Test.YtdigplhjfjchnaaZ0
import Derived.Deep.Slices
import Derived.Deep.Fields
import Derived.ChangeSame
import Derived.ChangeArms
import Derived.ChangeMaps5
import Derived.Lib.SmallJoins
import Derived.ChangeSlices
import Derived.DataShut
namespace Go.Proofs.Ytdigplhjfjchnaa.Open
open Go.Joins Go.ChangeShapes Go.WideShapes Go.RowKit Go.Deep Go.Proofs.Ytdigplhjfjchnaa.PQ Go.Proofs.YtdigplhjfjchnaaW.PrintWords
theorem maxLen_le : maxLen ≤ 9223372036854775807 := by decide +kernel
theorem array5 {α : Type} {cs : Array α} (h : cs.size = 5) : ∃ c0 c1 c2 c3 c4, cs = #[c0, c1, c2, c3, c4] := by
  obtain ⟨l⟩ := cs
  match l, h with
  | [c0, c1, c2, c3, c4], _ => exact ⟨c0, c1, c2, c3, c4, rfl⟩
section
variable {H : Type} {enc : TypeId × Value → H} {P : Program} {w : World} {base : Nat} {spare : Nat → Bool} {held : Bool}
theorem trod_struct5 {t : TypeId} {f0 f1 f2 f3 f4 : Field} {fuel : Nat} {cs : List Value} {x : DataW H × List MemPlace} (ht : P.underlying t = some (.struct #[f0, f1, f2, f3, f4])) (h : DataW.trod enc P w base spare held fuel t cs = some x) :
    ∃ y0 y1 y2 y3 y4 n, x = (.agg [y0.1, y1.1, y2.1, y3.1, y4.1], y0.2 ++ (y1.2 ++ (y2.2 ++ (y3.2 ++ y4.2)))) ∧ cs.length = P.cellsOf t ∧ DataW.trod enc P w base spare held n f0.type ((cs.drop f0.offset).take (P.cellsOf f0.type)) = some y0 ∧
      DataW.trod enc P w base spare held n f1.type ((cs.drop f1.offset).take (P.cellsOf f1.type)) = some y1 ∧ DataW.trod enc P w base spare held n f2.type ((cs.drop f2.offset).take (P.cellsOf f2.type)) = some y2 ∧
      DataW.trod enc P w base spare held n f3.type ((cs.drop f3.offset).take (P.cellsOf f3.type)) = some y3 ∧ DataW.trod enc P w base spare held n f4.type ((cs.drop f4.offset).take (P.cellsOf f4.type)) = some y4 := by
  obtain ⟨xs, n, _, rfl, hl, hlen, hf⟩ := DataW.trod_struct ht h
  match xs, hlen with
  | [y0, y1, y2, y3, y4], _ => exact ⟨y0, y1, y2, y3, y4, n, by simp, hl, by simpa using hf 0 f0 rfl, by simpa using hf 1 f1 rfl, by simpa using hf 2 f2 rfl, by simpa using hf 3 f3 rfl, by simpa using hf 4 f4 rfl⟩
theorem open_agg5 {r : Reach} {b0 : Nat} {t : TypeId} {f0 f1 f2 f3 f4 : Field} {v : Value} {d : DataW H} {p : List MemPlace} (hs : P.underlying t = some (.struct #[f0, f1, f2, f3, f4])) (hone : oneCellFields P #[f0, f1, f2, f3, f4] = true) (hC : P.cellsOf t = 5)
    (hv : Value.okWide P w r b0 t v) (h : DataW.Trod enc P w base spare held t v d p) :
    ∃ (v0 v1 v2 v3 v4 : Value) (y0 y1 y2 y3 y4 : DataW H × List MemPlace) (n : Nat), v = .agg #[v0, v1, v2, v3, v4] ∧ d = .agg [y0.1, y1.1, y2.1, y3.1, y4.1] ∧
      DataW.trod enc P w base spare held n f0.type [v0] = some y0 ∧ DataW.trod enc P w base spare held n f1.type [v1] = some y1 ∧ DataW.trod enc P w base spare held n f2.type [v2] = some y2 ∧ DataW.trod enc P w base spare held n f3.type [v3] = some y3 ∧ DataW.trod enc P w base spare held n f4.type [v4] = some y4 := by
  obtain ⟨cs, rfl, hsz⟩ := okWide_struct hs hv
  obtain ⟨c0, c1, c2, c3, c4, rfl⟩ := array5 (hsz.trans hC)
  obtain ⟨fuel, hf⟩ := h
  obtain ⟨y0, y1, y2, y3, y4, n, hx, _, h0, h1, h2, h3, h4⟩ := trod_struct5 hs hf
  obtain ⟨o0, k0⟩ := hone_of hone 0 f0 rfl
  obtain ⟨o1, k1⟩ := hone_of hone 1 f1 rfl
  obtain ⟨o2, k2⟩ := hone_of hone 2 f2 rfl
  obtain ⟨o3, k3⟩ := hone_of hone 3 f3 rfl
  obtain ⟨o4, k4⟩ := hone_of hone 4 f4 rfl
  simp only [Prod.mk.injEq] at hx
  exact ⟨c0, c1, c2, c3, c4, y0, y1, y2, y3, y4, n, rfl, hx.1, by simpa [Value.cells, o0, k0] using h0, by simpa [Value.cells, o1, k1] using h1, by simpa [Value.cells, o2, k2] using h2, by simpa [Value.cells, o3, k3] using h3, by simpa [Value.cells, o4, k4] using h4⟩
end
section
variable {H : Type} {enc : TypeId × Value → H} {w : World} {base : Nat} {spare : Nat → Bool} {held : Bool}
theorem ints_open {fuel : Nat} {v : Value} {x : DataW H × List MemPlace} (h : DataW.trod enc Try.prog w base spare held fuel 34 [v] = some x) (hs : ∀ b, spare b = true) :
    ∃ (A : Option Addr) (c : Nat) (zs : List Int), v = .slice A zs.length c ∧ zs.length ≤ c ∧ Kd.C (Kd.int .i64) w A zs.length zs ∧ ∀ n ∈ zs, (Lit.int .i64 n).wf = true := by
  rcases open_ints Try.underlying34 Try.underlying3 (by kernel_rfl) h with ⟨hcs, _⟩ | ⟨a, l, c, zs, hcs, _, hl, hm, hz, _, hcell, hwz⟩
  · obtain rfl : v = .slice none 0 0 := by simpa using hcs
    exact ⟨none, 0, [], rfl, Nat.le_refl _, ⟨rfl, by simp, fun h => absurd h (by simp)⟩, fun n hn => by cases hn⟩
  · obtain rfl : v = .slice (some a) l c := by simpa using hcs
    rw [hs, if_pos rfl] at hz
    have hlen : (zs.take l).length = l := by rw [List.length_take]; omega
    have hm' := maxLen_le
    refine ⟨some a, c, zs.take l, by rw [hlen], by omega, ⟨rfl, by omega, fun _ => ⟨a, rfl, fun j p hp => ?_⟩⟩, fun n hn => hwz n (List.mem_of_mem_take hn)⟩
    refine ⟨[.int .i64 p], rfl, rfl, fun i u hu => ?_⟩
    have hj : j < l := by
      rcases Nat.lt_or_ge j l with hj | hj
      · exact hj
      · rw [List.getElem?_eq_none (by omega)] at hp
        cases hp
    have hi : i = 0 := by
      rcases Nat.eq_zero_or_pos i with hi | hi
      · exact hi
      · rw [List.getElem?_eq_none (show [Value.int .i64 p].length ≤ i from hi)] at hu
        cases hu
    subst hi
    rw [show j * (Kd.int .i64).sz + 0 = j from Nat.mul_one j, hcell j (by omega)]
    rw [List.getElem?_take, if_pos hj] at hp
    simp at hu
    rw [← hu, List.getD_eq_getElem?_getD, hp]
    rfl
theorem cells36 : Try.prog.cellsOf 36 = 5 := by kernel_rfl
set_option maxRecDepth 100000 in
theorem command_open {b0 : Nat} {r : Reach} {v : Value} {d : DataW H} {p : List MemPlace} (hs : ∀ b, spare b = true) (hv : Value.okWide Try.prog w r b0 36 v) (h : DataW.Trod enc Try.prog w base spare held 36 v d p) :
    ∃ (n k s : Int) (id : ByteArray) (A : Option Addr) (c : Nat) (l : List Int),
      v = .agg #[.int .i64 n, .int .i64 k, .int .i64 s, .string id, .slice A l.length c] ∧ Kd.C (Kd.int .i64) w A l.length l ∧ l.length ≤ c ∧
      (Lit.int .i64 n).wf = true ∧ (Lit.int .i64 k).wf = true ∧ (Lit.int .i64 s).wf = true ∧ ∀ z ∈ l, (Lit.int .i64 z).wf = true := by
  obtain ⟨c0, c1, c2, c3, c4, y0, y1, y2, y3, y4, m, rfl, _, h0, h1, h2, h3, h4⟩ := open_agg5 Try.underlying36 (by kernel_rfl) cells36 hv h
  obtain ⟨n, e0, _, w0⟩ := DataW.trod_int Try.underlying3 h0
  obtain ⟨k, e1, _, w1⟩ := DataW.trod_int Try.underlying3 h1
  obtain ⟨s, e2, _, w2⟩ := DataW.trod_int Try.underlying3 h2
  obtain ⟨id, e3, _, w3⟩ := Go.DataW.trod_string Try.underlying9 h3
  simp at e0 e1 e2 e3
  subst e0 e1 e2 e3
  obtain ⟨A, c, l, rfl, g, r, x⟩ := ints_open h4 hs
  exact ⟨n, k, s, id, A, c, l, rfl, r, g, w0, w1, w2, x⟩
end
end Go.Proofs.Ytdigplhjfjchnaa.Open
namespace Go.Proofs.Ytdigplhjfjchnaa.Open
open Go.Joins Go.ChangeShapes Go.WideShapes Go.RowKit Go.Deep Go.Proofs.Ytdigplhjfjchnaa.PQ Go.Proofs.YtdigplhjfjchnaaW.PrintWords
theorem u8_range (n : Int) (h : (Lit.int .u8 n).wf = true) : 0 ≤ n ∧ n ≤ 255 := by
  have h1 := (Go.Lit.wf_int_iff .u8 n).mp h
  simp only [IntKind.min, IntKind.max, IntKind.signed, IntKind.bits, Bool.false_eq_true, if_false] at h1
  omega
section
variable {H : Type} {enc : TypeId × Value → H} {w : World} {base : Nat} {spare : Nat → Bool} {held : Bool}
def boolOf (y : DataW H × List MemPlace) : Bool := match y.1 with | .lit (.bool b) => b | _ => false
set_option maxRecDepth 100000 in
theorem bools_open {b0 : Nat} {r : Reach} {v : Value} {d : DataW H} {p : List MemPlace} (hv : Value.okWide Try.prog w r b0 22 v) (h0 : DataW.Trod enc Try.prog w base spare held 22 v d p) :
    ∃ (A : Option Addr) (c : Nat) (zs : List Bool), v = .slice A zs.length c ∧ Kd.C Kd.bool w A zs.length zs ∧ zs.length ≤ c := by
  obtain ⟨fuel, hf⟩ := h0
  obtain ⟨a0, l0, c0, rfl⟩ := okWide_slice Try.underlying22 hv
  have hone : (Value.slice a0 l0 c0).cells.toList = [Value.slice a0 l0 c0] := rfl
  rw [hone] at hf
  rcases DataW.trod_slice Try.underlying22 hf with ⟨hcs, _⟩ | ⟨a, len, cap, elems, rest, n, _, hcs, hx, hb, hl, hm, hlen, hel, _, _⟩
  · obtain ⟨rfl, rfl, rfl⟩ : a0 = none ∧ l0 = 0 ∧ c0 = 0 := by simpa using hcs
    exact ⟨none, 0, [], rfl, ⟨rfl, by simp, fun h => absurd h (by simp)⟩, Nat.le_refl _⟩
  · obtain ⟨rfl, rfl, rfl⟩ : some a = a0 ∧ len = l0 ∧ cap = c0 := by simpa [eq_comm] using hcs
    have hm' := maxLen_le
    have lz : (elems.map boolOf).length = len := by rw [List.length_map]; exact hlen
    refine ⟨some a, cap, elems.map boolOf, by rw [lz], ⟨rfl, by omega, fun _ => ⟨a, rfl, fun j p hp => ?_⟩⟩, by omega⟩
    rw [List.getElem?_map] at hp
    cases hy : elems[j]? with
    | none => rw [hy] at hp; cases hp
    | some y =>
      rw [hy] at hp
      have hj : j < len := by
        rcases Nat.lt_or_ge j len with hj | hj
        · exact hj
        · rw [List.getElem?_eq_none (by omega)] at hy
          cases hy
      have he := hel j hj
      rw [hy, show Try.prog.cellsOf 4 = 1 by kernel_rfl, Nat.mul_one, Option.bind_eq_some_iff] at he
      obtain ⟨cs, hc, ht⟩ := he
      obtain ⟨b, rfl, rfl⟩ := DataW.trod_bool Try.underlying4 ht
      have hcell := cell_of_cells?_one hc
      obtain rfl : b = p := by simpa [boolOf] using hp
      refine ⟨[.bool b], rfl, rfl, fun i u hu => ?_⟩
      have hi : i = 0 := by
        rcases Nat.eq_zero_or_pos i with hi | hi
        · exact hi
        · rw [List.getElem?_eq_none (show [Value.bool b].length ≤ i from hi)] at hu
          cases hu
      subst hi
      rw [show j * Kd.bool.sz + 0 = j from Nat.mul_one j, hcell]
      simp at hu
      rw [← hu]
end
end Go.Proofs.Ytdigplhjfjchnaa.Open
namespace Go.Proofs.Ytdigplhjfjchnaa.Open
open Go.Joins Go.ChangeShapes Go.WideShapes Go.RowKit Go.Deep Go.Proofs.Ytdigplhjfjchnaa.PQ Go.Proofs.YtdigplhjfjchnaaW.PrintWords
section
variable {H : Type} {enc : TypeId × Value → H} {w : World} {base : Nat} {spare : Nat → Bool} {held : Bool}
def numAt (y : DataW H × List MemPlace) (i : Nat) : Int := match y.1 with | .agg l => (match l[i]? with | some (.lit (.int _ n)) => n | _ => 0) | _ => 0
def delivOf (y : DataW H × List MemPlace) : S47 := ⟨numAt y 0, numAt y 1, numAt y 2⟩
theorem cells47 : Try.prog.cellsOf 47 = 3 := by kernel_rfl
theorem list3 {α : Type} (l : List α) (h : l.length = 3) : ∃ a b c, l = [a, b, c] := by
  match l, h with
  | [a, b, c], _ => exact ⟨a, b, c, rfl⟩
theorem deliv_one {m : Nat} {cs : List Value} {y : DataW H × List MemPlace} (h : DataW.trod enc Try.prog w base spare held m 47 cs = some y) :
    cs = [.int .u8 (delivOf y).f0, .int .u8 (delivOf y).f1, .int .u8 (delivOf y).f2] ∧ (0 ≤ (delivOf y).f0 ∧ (delivOf y).f0 ≤ 255) ∧ (0 ≤ (delivOf y).f1 ∧ (delivOf y).f1 ≤ 255) ∧ 0 ≤ (delivOf y).f2 ∧ (delivOf y).f2 ≤ 255 := by
  obtain ⟨xs, n, _, rfl, hl, hlen, hf⟩ := DataW.trod_struct Try.underlying47 h
  obtain ⟨v0, v1, v2, rfl⟩ := list3 cs (hl.trans cells47)
  obtain ⟨y0, y1, y2, rfl⟩ := list3 xs hlen
  have c5 : Try.prog.cellsOf 5 = 1 := by kernel_rfl
  have h0 := hf 0 _ rfl
  have h1 := hf 1 _ rfl
  have h2 := hf 2 _ rfl
  simp [c5] at h0 h1 h2
  obtain ⟨n0, e0, rfl, w0⟩ := DataW.trod_int Try.underlying5 h0
  obtain ⟨n1, e1, rfl, w1⟩ := DataW.trod_int Try.underlying5 h1
  obtain ⟨n2, e2, rfl, w2⟩ := DataW.trod_int Try.underlying5 h2
  simp at e0 e1 e2
  subst e0 e1 e2
  exact ⟨rfl, u8_range n0 w0, u8_range n1 w1, u8_range n2 w2⟩
set_option maxRecDepth 100000 in
theorem delivs_open {b0 : Nat} {r : Reach} {v : Value} {d : DataW H} {p : List MemPlace} (hv : Value.okWide Try.prog w r b0 43 v) (h0 : DataW.Trod enc Try.prog w base spare held 43 v d p) :
    ∃ (A : Option Addr) (c : Nat) (zs : List S47), v = .slice A zs.length c ∧ Kd.C k47 w A zs.length zs ∧ zs.length ≤ c ∧ ∀ x ∈ zs, (0 ≤ x.f0 ∧ x.f0 ≤ 255) ∧ (0 ≤ x.f1 ∧ x.f1 ≤ 255) ∧ 0 ≤ x.f2 ∧ x.f2 ≤ 255 := by
  obtain ⟨fuel, hf⟩ := h0
  obtain ⟨a0, l0, c0, rfl⟩ := okWide_slice Try.underlying43 hv
  have hone : (Value.slice a0 l0 c0).cells.toList = [Value.slice a0 l0 c0] := rfl
  rw [hone] at hf
  rcases DataW.trod_slice Try.underlying43 hf with ⟨hcs, _⟩ | ⟨a, len, cap, elems, rest, n, _, hcs, hx, hb, hl, hm, hlen, hel, _, _⟩
  · obtain ⟨rfl, rfl, rfl⟩ : a0 = none ∧ l0 = 0 ∧ c0 = 0 := by simpa using hcs
    exact ⟨none, 0, [], rfl, ⟨rfl, by simp, fun h => absurd h (by simp)⟩, Nat.le_refl _, fun x hx => by cases hx⟩
  · obtain ⟨rfl, rfl, rfl⟩ : some a = a0 ∧ len = l0 ∧ cap = c0 := by simpa [eq_comm] using hcs
    have hm' := maxLen_le
    have lz : (elems.map delivOf).length = len := by rw [List.length_map]; exact hlen
    have each : ∀ j y, elems[j]? = some y → ∃ cs, w.cells? base (a.add (j * 3)) 3 = some cs ∧ DataW.trod enc Try.prog w base spare held n 47 cs = some y := fun j y hy => by
      have hj : j < len := by
        rcases Nat.lt_or_ge j len with hj | hj
        · exact hj
        · rw [List.getElem?_eq_none (by omega)] at hy
          cases hy
      have he := hel j hj
      rw [hy, cells47, Option.bind_eq_some_iff] at he
      exact he
    refine ⟨some a, cap, elems.map delivOf, by rw [lz], ⟨rfl, by omega, fun _ => ⟨a, rfl, fun j p hp => ?_⟩⟩, by omega, fun x hx => ?_⟩
    · rw [List.getElem?_map] at hp
      cases hy : elems[j]? with
      | none => rw [hy] at hp; cases hp
      | some y =>
        rw [hy] at hp
        obtain ⟨cs, hc, ht⟩ := each j y hy
        obtain ⟨e, _⟩ := deliv_one ht
        obtain rfl : delivOf y = p := by simpa using hp
        have hcell := (World.cells?_some hc).2.2
        refine ⟨[.int .u8 (delivOf y).f0, .int .u8 (delivOf y).f1, .int .u8 (delivOf y).f2], rfl, k47_mk w _, fun i u hu => ?_⟩
        have hi : i < 3 := by
          rcases Nat.lt_or_ge i 3 with hi | hi
          · exact hi
          · rw [List.getElem?_eq_none (show [Value.int .u8 (delivOf y).f0, .int .u8 (delivOf y).f1, .int .u8 (delivOf y).f2].length ≤ i from hi)] at hu
            cases hu
        have h3 := hcell i hi
        rw [show (a.add (j * 3)).add i = a.add (j * k47.sz + i) from by rw [show k47.sz = 3 from rfl]; exact Go.Deep.add_add _ _ _] at h3
        rw [h3, e]
        exact hu
    · obtain ⟨y, hy, rfl⟩ := List.mem_map.mp hx
      obtain ⟨j, hj, e⟩ := List.getElem_of_mem hy
      obtain ⟨cs, _, ht⟩ := each j y (by rw [List.getElem?_eq_getElem hj, e])
      exact (deliv_one ht).2
end
end Go.Proofs.Ytdigplhjfjchnaa.Open
