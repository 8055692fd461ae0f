/-
  A learner (a number, a row of pairs of counts, two rows of numbers) and the rules (four numbers) as arguments of a law: opened to what the walks speak of. No condition.
-/
import Derived.Test.YtnipgplobipeeaaZ0
import Derived.Deep.Slices
import Derived.Deep.Fields
import Derived.ChangeSame
import Derived.Lib.SmallJoins
import Derived.ChangeSlices
namespace Go.Proofs.Ytnipgplobipeeaa.Open
open Go.Joins Go.ChangeShapes Go.WideShapes Go.RowKit Go.Deep Go.Proofs.Ytnipgplobipeeaa.PQ Go.Proofs.YtnipgplobipeeaaW.PrintWords
section
variable {H : Type} {enc : TypeId × Value → H} {P : Program} {w : World} {base : Nat} {spare : Nat → Bool} {held : Bool}
theorem open_slice_fields {t e : TypeId} {fs : Array Field} {fuel : Nat} {cs : List Value} {x : DataW H × List MemPlace} (ht : P.underlying t = some (.slice e)) (he : P.underlying e = some (.struct fs))
    (hone : oneCellFields P fs = true) (hC : P.cellsOf e = fs.size) (h : DataW.trod enc P w base spare held fuel t cs = some x) :
    (cs = [.slice none 0 0] ∧ x = (.nil, [])) ∨
    ∃ (a : Addr) (len cap m : Nat) (D : Nat → DataW H) (Pl : Nat → List MemPlace), cs = [.slice (some a) len cap] ∧ base ≤ a.block ∧ len ≤ cap ∧ cap ≤ maxLen ∧ m = (if spare a.block then cap else len) ∧
      x = (.slice ((List.range len).map D) ((List.range (m - len)).map fun j => D (len + j)), MemPlace.row a (m * fs.size) ++ (List.range m).flatMap Pl) ∧
      ∀ i, i < m → ∃ (ys : List (DataW H × List MemPlace)) (n : Nat), D i = .agg (ys.map (·.1)) ∧ Pl i = ys.flatMap (·.2) ∧ ys.length = fs.size ∧
        ∀ (j : Nat) (f : Field), fs[j]? = some f → ∃ (v : Value) (y : DataW H × List MemPlace), w.cell? (a.add (i * fs.size + j)) = some v ∧ ys[j]? = some y ∧ DataW.trod enc P w base spare held n f.type [v] = some y := by
  rcases open_slice ht h with h0 | ⟨a, len, cap, m, n, D, Pl, hcs, hb, hl, hm, hmm, hx, hi⟩
  · exact .inl h0
  · refine .inr ⟨a, len, cap, m, D, Pl, hcs, hb, hl, hm, hmm, by rw [hC] at hx; exact hx, fun i him => ?_⟩
    obtain ⟨cs', hc, ht'⟩ := hi i him
    rw [hC] at hc
    obtain ⟨ys, n', hn', hy, hlen, hyl, hf⟩ := DataW.trod_struct he ht'
    obtain ⟨_, hcl, hat⟩ := World.cells?_some hc
    simp only [Prod.mk.injEq] at hy
    refine ⟨ys, n', hy.1, hy.2, hyl, fun j f hj => ?_⟩
    obtain ⟨ho, hk⟩ := hone_of hone j f hj
    have hjl : j < fs.size := (Array.getElem?_eq_some_iff.1 hj).1
    have hcell := hat j hjl
    have hv : cs'[j]? = some (cs'[j]'(by omega)) := List.getElem?_eq_getElem (by omega)
    have h1 := hf j f hj
    rw [ho, hk] at h1
    have hone' : (cs'.drop j).take 1 = [cs'[j]'(by omega)] := by
      rw [List.drop_eq_getElem_cons (by omega)]
      rfl
    rw [hone'] at h1
    have hys : ys[j]? = some (ys[j]'(by omega)) := List.getElem?_eq_getElem (by omega)
    refine ⟨_, _, ?_, hys, h1.trans hys⟩
    rw [← Go.Deep.add_add, hcell, hv]
end
theorem pick {α : Type} {P : Nat → α → Prop} : ∀ n, (∀ i, i < n → ∃ x, P i x) → ∃ xs : List α, xs.length = n ∧ ∀ (i : Nat) (x : α), xs[i]? = some x → P i x
  | 0, _ => ⟨[], rfl, fun i x h => by simp at h⟩
  | n + 1, h => by
    obtain ⟨xs, hl, hx⟩ := pick n (fun i hi => h i (by omega))
    obtain ⟨y, hy⟩ := h n (by omega)
    refine ⟨xs ++ [y], by simp [hl], fun i x hi => ?_⟩
    rcases Nat.lt_or_ge i xs.length with h1 | h1
    · rw [List.getElem?_append_left h1] at hi
      exact hx i x hi
    · rw [List.getElem?_append_right h1] at hi
      have h2 : i - xs.length = 0 := by
        rcases Nat.eq_zero_or_pos (i - xs.length) with h2 | h2
        · exact h2
        · rw [List.getElem?_eq_none (by simp; omega)] at hi
          cases hi
      rw [h2] at hi
      simp at hi
      subst hi
      rw [show i = n by omega]
      exact hy
theorem maxLen_le : maxLen ≤ 9223372036854775807 := by decide +kernel
section
variable {H : Type} {enc : TypeId × Value → H} {w : World} {base : Nat} {spare : Nat → Bool} {held : Bool}
theorem ints_open {fuel : Nat} {v : Value} {x : DataW H × List MemPlace} (h : DataW.trod enc Try.prog w base spare held fuel 23 [v] = some x) (hs : ∀ b, spare b = true) :
    ∃ (A : Option Addr) (c : Nat) (zs : List Int), v = .slice A zs.length c ∧ zs.length ≤ c ∧ Kd.C (Kd.int .i64) w A zs.length zs ∧ ∀ n ∈ zs, (Lit.int .i64 n).wf = true := by
  rcases open_ints Try.underlying23 Try.underlying3 (by kernel_rfl) h with ⟨hcs, _⟩ | ⟨a, l, c, zs, hcs, _, hl, hm, hz, _, hcell, hwz⟩
  · obtain rfl : v = .slice none 0 0 := by simpa using hcs
    exact ⟨none, 0, [], rfl, Nat.le_refl _, ⟨rfl, by simp, fun h => absurd h (by simp)⟩, fun n hn => by cases hn⟩
  · obtain rfl : v = .slice (some a) l c := by simpa using hcs
    rw [hs, if_pos rfl] at hz
    have hlen : (zs.take l).length = l := by rw [List.length_take]; omega
    have hm' := maxLen_le
    refine ⟨some a, c, zs.take l, by rw [hlen], by omega, ⟨rfl, by omega, fun _ => ⟨a, rfl, fun j p hp => ?_⟩⟩, fun n hn => hwz n (List.mem_of_mem_take hn)⟩
    refine ⟨[.int .i64 p], rfl, rfl, fun i u hu => ?_⟩
    have hj : j < l := by
      rcases Nat.lt_or_ge j l with hj | hj
      · exact hj
      · rw [List.getElem?_eq_none (by omega)] at hp
        cases hp
    have hi : i = 0 := by
      rcases Nat.eq_zero_or_pos i with hi | hi
      · exact hi
      · rw [List.getElem?_eq_none (show [Value.int .i64 p].length ≤ i from hi)] at hu
        cases hu
    subst hi
    rw [show j * (Kd.int .i64).sz + 0 = j from Nat.mul_one j, hcell j (by omega)]
    rw [List.getElem?_take, if_pos hj] at hp
    simp at hu
    rw [← hu, List.getD_eq_getElem?_getD, hp]
    rfl
theorem cells34 : Try.prog.cellsOf 34 = 2 := by kernel_rfl
theorem pairs_open {fuel : Nat} {v : Value} {x : DataW H × List MemPlace} (h : DataW.trod enc Try.prog w base spare held fuel 22 [v] = some x) (hs : ∀ b, spare b = true) :
    ∃ (A : Option Addr) (c : Nat) (zs : List S34), v = .slice A zs.length c ∧ zs.length ≤ c ∧ Kd.C k34 w A zs.length zs ∧ ∀ z ∈ zs, (Lit.int .i64 z.f0).wf = true ∧ (Lit.int .i64 z.f1).wf = true := by
  rcases open_slice_fields Try.underlying22 Try.underlying34 (by kernel_rfl) cells34 h with ⟨hcs, _⟩ | ⟨a, l, c, m, D, Pl, hcs, _, hl, hm, hmm, _, hf⟩
  · obtain rfl : v = .slice none 0 0 := by simpa using hcs
    exact ⟨none, 0, [], rfl, Nat.le_refl _, ⟨rfl, by simp, fun h => absurd h (by simp)⟩, fun n hn => by cases hn⟩
  · obtain rfl : v = .slice (some a) l c := by simpa using hcs
    rw [hs, if_pos rfl] at hmm
    have each : ∀ i, i < l → ∃ z : S34, (w.cell? (a.add (i * 2)) = some (.int .i64 z.f0) ∧ w.cell? (a.add (i * 2 + 1)) = some (.int .i64 z.f1)) ∧ (Lit.int .i64 z.f0).wf = true ∧ (Lit.int .i64 z.f1).wf = true := by
      intro i hi
      obtain ⟨ys, n, _, _, hyl, hj⟩ := hf i (by omega)
      obtain ⟨v0, y0, c0, _, t0⟩ := hj 0 _ rfl
      obtain ⟨v1, y1, c1, _, t1⟩ := hj 1 _ rfl
      obtain ⟨f0, e0, _, w0⟩ := DataW.trod_int Try.underlying3 t0
      obtain ⟨f1, e1, _, w1⟩ := DataW.trod_int Try.underlying3 t1
      simp at e0 e1
      subst e0 e1
      exact ⟨⟨f0, f1⟩, ⟨c0, c1⟩, w0, w1⟩
    obtain ⟨zs, hzl, hz⟩ := pick l each
    have hm' := maxLen_le
    refine ⟨some a, c, zs, by rw [hzl], by omega, ⟨rfl, by omega, fun _ => ⟨a, rfl, fun j p hp => ?_⟩⟩, fun z hz' => ?_⟩
    · obtain ⟨⟨c0, c1⟩, _⟩ := hz j p hp
      refine ⟨[.int .i64 p.f0, .int .i64 p.f1], rfl, k34_mk w p, fun i u hu => ?_⟩
      match i, hu with
      | 0, hu =>
        simp at hu
        rw [← hu]
        exact c0
      | 1, hu =>
        simp at hu
        rw [← hu]
        exact c1
      | n + 2, hu => simp at hu
    · obtain ⟨i, hi, rfl⟩ := List.mem_iff_getElem.1 hz'
      exact (hz i _ (List.getElem?_eq_getElem hi)).2
theorem cells25 : Try.prog.cellsOf 25 = 4 := by kernel_rfl
theorem learner_open {b0 : Nat} {r : Reach} {v : Value} {d : DataW H} {p : List MemPlace} (hs : ∀ b, spare b = true) (hv : Value.okWide Try.prog w r b0 25 v) (h : DataW.Trod enc Try.prog w base spare held 25 v d p) :
    ∃ (n : Int) (A1 : Option Addr) (c1 : Nat) (l1 : List S34) (A2 : Option Addr) (c2 : Nat) (l2 : List Int) (A3 : Option Addr) (c3 : Nat) (l3 : List Int),
      v = .agg #[.int .i64 n, .slice A1 l1.length c1, .slice A2 l2.length c2, .slice A3 l3.length c3] ∧ Kd.C k34 w A1 l1.length l1 ∧ l1.length ≤ c1 ∧ Kd.C (Kd.int .i64) w A2 l2.length l2 ∧ l2.length ≤ c2 ∧ Kd.C (Kd.int .i64) w A3 l3.length l3 ∧ l3.length ≤ c3 ∧
      (Lit.int .i64 n).wf = true ∧ (∀ z ∈ l1, (Lit.int .i64 z.f0).wf = true ∧ (Lit.int .i64 z.f1).wf = true) ∧ (∀ z ∈ l2, (Lit.int .i64 z).wf = true) ∧ ∀ z ∈ l3, (Lit.int .i64 z).wf = true := by
  obtain ⟨c0, c1, c2, c3, y0, y1, y2, y3, m, rfl, _, _, h0, h1, h2, h3⟩ := open_agg4 Try.underlying25 (by kernel_rfl) cells25 hv h
  obtain ⟨n, e0, _, w0⟩ := DataW.trod_int Try.underlying3 h0
  simp at e0
  subst e0
  obtain ⟨A1, k1, l1, rfl, g1, r1, x1⟩ := pairs_open h1 hs
  obtain ⟨A2, k2, l2, rfl, g2, r2, x2⟩ := ints_open h2 hs
  obtain ⟨A3, k3, l3, rfl, g3, r3, x3⟩ := ints_open h3 hs
  exact ⟨n, A1, k1, l1, A2, k2, l2, A3, k3, l3, rfl, r1, g1, r2, g2, r3, g3, w0, x1, x2, x3⟩
theorem cells27 : Try.prog.cellsOf 27 = 4 := by kernel_rfl
theorem rules_open {b0 : Nat} {r : Reach} {v : Value} {d : DataW H} {p : List MemPlace} (hv : Value.okWide Try.prog w r b0 27 v) (h : DataW.Trod enc Try.prog w base spare held 27 v d p) :
    ∃ a b c e : Int, v = .agg #[.int .i64 a, .int .i64 b, .int .i64 c, .int .i64 e] := by
  obtain ⟨c0, c1, c2, c3, y0, y1, y2, y3, m, rfl, _, _, h0, h1, h2, h3⟩ := open_agg4 Try.underlying27 (by kernel_rfl) cells27 hv h
  obtain ⟨n0, e0, _, _⟩ := DataW.trod_int Try.underlying3 h0
  obtain ⟨n1, e1, _, _⟩ := DataW.trod_int Try.underlying3 h1
  obtain ⟨n2, e2, _, _⟩ := DataW.trod_int Try.underlying3 h2
  obtain ⟨n3, e3, _, _⟩ := DataW.trod_int Try.underlying3 h3
  simp at e0 e1 e2 e3
  subst e0 e1 e2 e3
  exact ⟨n0, n1, n2, n3, rfl⟩
end
end Go.Proofs.Ytnipgplobipeeaa.Open
