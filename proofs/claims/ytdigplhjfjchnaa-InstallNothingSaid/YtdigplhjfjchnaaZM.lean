/- A map from strings to bools that holds only 'true', as one block of the heap: makeMap, a store, a look-up, as events of a walk. No condition beyond the types' own. -/
import Derived.Test.YtdigplhjfjchnaaZU
import Derived.Maps.OwnOps
import Derived.Carry
namespace Go.Proofs.Ytdigplhjfjchnaa.PQ
open Go Go.RowKit Go.MapKept Go.Proofs.YtdigplhjfjchnaaW.PrintWords Go.Proofs.YtdigplhjfjchnaaW.PrintLast Go.Proofs.YtdigplhjfjchnaaW.PrintMore
def ment (p : ByteArray × Nat) : MapEntry := { key := .string p.1, val := .bool true, born := p.2 }
def mobj (ks : List ByteArray) : Obj := .map (ks.zipIdx.map ment).toArray ks.length
def mhas (ks : List ByteArray) (s : ByteArray) : Bool := ks.any fun x => decide (x.data = s.data)
def mput (ks : List ByteArray) (s : ByteArray) : List ByteArray := if mhas ks s = true then ks else ks ++ [s]
theorem mhas_iff {ks : List ByteArray} {s : ByteArray} : mhas ks s = true ↔ s ∈ ks := by
  unfold mhas
  rw [List.any_eq_true]
  constructor
  · rintro ⟨x, hx, h⟩
    have e : x = s := ByteArray.ext (of_decide_eq_true h)
    exact e ▸ hx
  · exact fun h => ⟨s, h, by simp⟩
theorem mhas_not {ks : List ByteArray} {s : ByteArray} (h : s ∉ ks) : mhas ks s = false := by
  cases e : mhas ks s
  · rfl
  · exact absurd (mhas_iff.1 e) h
theorem ment_mem {ks : List ByteArray} {s : ByteArray} : (∃ e ∈ ks.zipIdx.map ment, e.key = .string s) ↔ s ∈ ks := by
  constructor
  · rintro ⟨e, he, hk⟩
    obtain ⟨⟨x, i⟩, hx, rfl⟩ := List.mem_map.1 he
    have e1 : x = s := Value.string.inj hk
    subst e1
    exact List.fst_mem_of_mem_zipIdx hx
  · intro h
    obtain ⟨i, hi, e⟩ := List.getElem_of_mem h
    exact ⟨ment (s, i), List.mem_map.2 ⟨(s, i), by rw [List.mem_zipIdx_iff_getElem?]; simp [hi, e], rfl⟩, rfl⟩
theorem mfind (ks : List ByteArray) (s : ByteArray) : (Instr.findNow .string (.string s) (ks.zipIdx.map ment) 0 = some none ∧ s ∉ ks) ∨ ((∃ j e, Instr.findNow .string (.string s) (ks.zipIdx.map ment) 0 = some (some (j, .bool true)) ∧ (ks.zipIdx.map ment)[j]? = some e ∧ e.key = .string s ∧ e.val = .bool true) ∧ s ∈ ks) := by
  have hks : ∀ x ∈ ks.zipIdx.map ment, IsKey .string x.key := fun x hx => by
    obtain ⟨y, _, rfl⟩ := List.mem_map.1 hx
    trivial
  have hv : ∀ x ∈ ks.zipIdx.map ment, x.val = .bool true := fun x hx => by
    obtain ⟨y, _, rfl⟩ := List.mem_map.1 hx
    rfl
  rcases findNow_spec (d := .string) (k := .string s) trivial _ 0 hks with ⟨h1, h2⟩ | ⟨j, e, h1, h2, h3⟩
  · exact Or.inl ⟨h1, fun hm => by obtain ⟨e, he, hk⟩ := ment_mem.2 hm; exact h2 e he hk⟩
  · have hm := List.mem_of_getElem? h2
    rw [hv e hm] at h1
    exact Or.inr ⟨⟨j, e, by simpa using h1, h2, h3, hv e hm⟩, ment_mem.1 ⟨e, hm, h3⟩⟩
section
variable {P : Program} {w : World} {g : Nat} {ks : List ByteArray} {s : ByteArray} {t kt et : TypeId}
theorem mlook (ht : P.underlying t = some (.map kt et)) (hk : P.underlying kt = some .string) (hz : (zeroValue et).run P w = .ok (.bool false) w) (hb : w.heap[g]? = some (mobj ks)) :
    (Instr.lookup t (.map (some g)) (.string s) false).run P w = .ok (.bool (mhas ks s)) w := by
  have hb' : w.heap[g]? = some (.map (ks.zipIdx.map ment).toArray ks.length) := hb
  have hc := fun e => run_checkKey (P := P) (w := w) hk (k := .string s) (d := .string) trivial e 9999
  rcases mfind ks s with ⟨h1, h2⟩ | ⟨⟨j, e, h1, _⟩, h2⟩
  · have hf := run_findKey (P := P) (w := w) hk h1
    simp [Instr.lookup, run_underlying ht, Result.andThen, Go.MapKept.run_getObj_map hb', hc, hf, hz, mhas_not h2]
  · have hf := run_findKey (P := P) (w := w) hk h1
    simp [Instr.lookup, run_underlying ht, Result.andThen, Go.MapKept.run_getObj_map hb', hc, hf, mhas_iff.2 h2]
theorem mupd (ht : P.underlying t = some (.map kt et)) (hk : P.underlying kt = some .string) (hb : w.heap[g]? = some (mobj ks)) :
    (Instr.mapUpdate t (.map (some g)) (.string s) (.bool true)).run P w = .ok () { w with heap := w.heap.setIfInBounds g (mobj (mput ks s)) } := by
  have hb' : w.heap[g]? = some (.map (ks.zipIdx.map ment).toArray ks.length) := hb
  have hc := fun e => run_checkKey (P := P) (w := w) hk (k := .string s) (d := .string) trivial e 9999
  have hs := run_keyThatStays (P := P) (w := w) (k := .string s) (d := .string) trivial
  rcases mfind ks s with ⟨h1, h2⟩ | ⟨⟨j, e, h1, hj, hek, hev⟩, h2⟩
  · have hf := run_findKey (P := P) (w := w) hk h1
    have e1 : mobj (mput ks s) = .map ((ks.zipIdx.map ment).toArray.push { key := .string s, val := .bool true, born := ks.length }) (ks.length + 1) := by
      simp [mobj, mput, mhas_not h2, List.zipIdx_append, ment]
    rw [e1]
    simp [Instr.mapUpdate, run_underlying ht, Result.andThen, Go.MapKept.run_getObj_map hb', hc, hf, Go.MapKept.run_setObj_map _ hb']
  · have hf := run_findKey (P := P) (w := w) hk h1
    have e1 : mobj (mput ks s) = .map ((ks.zipIdx.map ment).toArray.modify j fun e => { e with key := .string s, val := .bool true }) ks.length := by
      have : (ks.zipIdx.map ment).toArray.modify j (fun e => { e with key := .string s, val := .bool true }) = (ks.zipIdx.map ment).toArray := by
        apply Array.ext_getElem?
        intro i
        rw [Array.getElem?_modify]
        split
        · next h =>
          subst h
          have hj' : (ks.zipIdx.map ment).toArray[j]? = some e := by simpa using hj
          rw [hj']
          simp [← hek, ← hev]
        · rfl
      rw [this]
      simp [mobj, mput, mhas_iff.2 h2]
    have hj' : (ks.zipIdx.map ment).toArray[j]? = some e := by simpa using hj
    rw [e1]
    simp only [Instr.mapUpdate, run_underlying ht, Sem.run_bind, Result.andThen, Go.MapKept.run_getObj_map hb', hc, hf, hj', Option.map_some, Option.getD_some, hek, hs, Go.MapKept.run_setObj_map _ hb']
end
section
variable {P : Program} {w w1 w2 w0 : World} {ops : Array Oper} {rest : List Oper} {o : Oper} {a : Act} {Q : Exit → Act → World → Prop} {g : Nat} {ob : Obj} {ks : List ByteArray} {s : ByteArray}
theorem obj_far (h : w.heap[g]? = some ob) {p : Addr} (hp : g ≠ p.block) (u : Value) : (w.setCell p u).heap[g]? = some ob := (Below.heap_setCell w p u g hp).trans h
theorem bkm (h : Aside0 (w.heap[g]? = some ob)) (p : w.heap[g]? = some ob → w1.heap[g]? = some ob := by intro h; repeat (first | (with_reducible first | exact h | refine blk_drewN ?_ _ | refine blk_drew ?_ | refine blk_alloc ?_ _ | refine obj_far ?_ (Aside0.out (by assumption)) _) | exact h)) : w1.heap[g]? = some ob := p h.out
theorem bkmA (h : Aside0 (w.heap[g]? = some ob)) (p : w.heap[g]? = some ob → w1.heap[g]? = some ob := by intro h; repeat (first | (with_reducible first | exact h | refine blk_drewN ?_ _ | refine blk_drew ?_ | refine blk_alloc ?_ _ | refine obj_far ?_ (Aside0.out (by assumption)) _) | exact h)) : Aside0 (w1.heap[g]? = some ob) := ⟨p h.out⟩
theorem bkmB (h : Aside0 (w.heap[g]? = some ob)) (hb : Below w1.heap.size w1 w2) (p : w.heap[g]? = some ob → w1.heap[g]? = some ob := by intro h; repeat (first | (with_reducible first | exact h | refine blk_drewN ?_ _ | refine blk_drew ?_ | refine blk_alloc ?_ _ | refine obj_far ?_ (Aside0.out (by assumption)) _) | exact h)) : Aside0 (w2.heap[g]? = some ob) := ⟨blk_below (p h.out) hb⟩
/-- The world w1 is w, but for what lies at g. -/
def Chg (w w1 : World) (g : Nat) (ob : Obj) : Prop := w1 = { w with heap := w.heap.setIfInBounds g ob }
theorem chg_same {o' : Obj} (h : Chg w w1 g ob) (hb : w.heap[g]? = some o') : w1.heap[g]? = some ob := by
  subst h
  exact (Go.MapKept.heap_set hb).1
theorem chg_other (h : Chg w w1 g ob) {i : Nat} (hi : i ≠ g) : w1.heap[i]? = w.heap[i]? := by
  subst h
  simp [Ne.symm hi]
theorem chg_below (h : Chg w w1 g ob) (hb : Below w0.heap.size w0 w) (hg : w0.heap.size ≤ g) : Below w0.heap.size w0 w1 :=
  hb.trans ⟨by subst h; rfl, by subst h; rfl, by subst h; rfl, by subst h; simp, fun i hi => chg_other h (by omega)⟩
theorem gate_ins {t : TypeId} {m x v : Operand} (_h : o.op = .insert t m x v) (h : wpList P ops Q (o :: rest) a w) : wpList P ops Q (o :: rest) a w := h
theorem gate_upd {t : TypeId} {m x v : Operand} (_h : o.op = .mapUpdate t m x v) (h : wpList P ops Q (o :: rest) a w) : wpList P ops Q (o :: rest) a w := h
theorem mk_event (N : Tmp) (t : TypeId) (h : ∀ g, g = w.heap.size → ∀ w1, w1.heap[g]? = some (mobj []) → Below w.heap.size w w1 → wpList P ops Q rest (a.put o.dst (.map (some g))) w1)
    (_hd : o.dst = some N := by rfl) (hg : o.guard = none := by rfl) (hop : o.op = .makeMap t none := by rfl) : wpList P ops Q (o :: rest) a w :=
  Kd.event_run hg (w1 := w.alloc (mobj [])) (by simp [execOp, hop, run_makeMap, Result.andThen]; rfl) (h _ rfl _ (blk_new w (mobj [])) (below_alloc (Below.refl _ _) _))
theorem upd_event (g : Nat) (ks : List ByteArray) (s : ByteArray) (t kt et : TypeId) (m x : Operand) (ht : P.underlying t = some (.map kt et)) (hk : P.underlying kt = some .string) (hb : w.heap[g]? = some (mobj ks))
    (h : ∀ w1, Chg w w1 g (mobj (mput ks s)) → wpList P ops Q rest (a.put o.dst undef) w1)
    (hop : o.op = .mapUpdate t m x (.const (.bool true)) ∨ o.op = .insert t m x (.const (.bool true)) := by first | exact Or.inl rfl | exact Or.inr rfl)
    (hg : o.guard = none := by rfl) (hm : a.eval m = .map (some g) := by rfl) (hx : a.eval x = .string s := by rfl) : wpList P ops Q (o :: rest) a w := by
  have hrun := mupd (s := s) ht hk hb
  refine wpList_plain hg fun K' hK' => ?_
  unfold Oper.wp
  have hv : a.eval (.const (.bool true)) = .bool true := rfl
  rcases hop with hop | hop
  · simp [execOp, hop, hm, hx, hv, hrun, Result.andThen]
    exact hK' _ _ (h _ rfl)
  · simp [execOp, hop, hm, hx, hv, hrun, Result.andThen]
    exact hK' _ _ (h _ rfl)
theorem look_event (g : Nat) (ks : List ByteArray) (s : ByteArray) (b : Bool) (t kt et : TypeId) (m x : Operand) (ht : P.underlying t = some (.map kt et)) (hk : P.underlying kt = some .string) (hz : (zeroValue et).run P w = .ok (.bool false) w) (hb : w.heap[g]? = some (mobj ks)) (he : mhas ks s = b)
    (h : wpList P ops Q rest (a.put o.dst (.bool b)) w)
    (hop : o.op = .lookup t m x false := by rfl)
    (hg : o.guard = none := by rfl) (hm : a.eval m = .map (some g) := by rfl) (hx : a.eval x = .string s := by rfl) : wpList P ops Q (o :: rest) a w := by
  have hrun := mlook (s := s) ht hk hz hb
  rw [he] at hrun
  exact Kd.event_run hg (by simp [execOp, hop, hm, hx, hrun, Result.andThen]) h
end
end Go.Proofs.Ytdigplhjfjchnaa.PQ
