-- Printed by fprint.py and zip.py, programs of this session's, over the kit's print; Lean checks it.
import Derived.Test.YtnipgplobipeeaaZ0
import Derived.Test.YtnipgplobipeeaaZf43
import Derived.Test.YtnipgplobipeeaaZf57
import Derived.Test.YtnipgplobipeeaaZf54
import Derived.Test.YtnipgplobipeeaaZf45
namespace Go.Proofs.Ytnipgplobipeeaa.PQ
open Go.RowKit Go.Proofs.YtnipgplobipeeaaW.PrintWords Go.Proofs.YtnipgplobipeeaaW.PrintLast Go.Proofs.YtnipgplobipeeaaW.PrintMore
attribute [local go_sem] max2_int min2_int max_two min_two max_three min_three max_four min_four   -- for this text's walks alone
set_option linter.unusedVariables false
set_option linter.unusedSimpArgs false
def renS : Go.Shelf.Ren := ⟨fun | 20 => 59 | n => n, fun | 22 => 23 | 24 => 3 | 25 => 72 | n => n, fun n => n⟩
theorem laysS : Go.Proofs.SlLaysF.n20 Try.prog renS := {
 mixed := by kernel_rfl
 f20 := ⟨"slices.insertionSortCmpFunc[int]", by decide, Try.func59.trans (congrArg some (by kernel_rfl))⟩
 t0 := Try.underlying0
 a0 := Try.isAgg0
 z0 := Try.sizeOf0
 v0 := Try.zeroValue0
 t3 := Try.underlying3
 a3 := Try.isAgg3
 z3 := Try.sizeOf3
 v3 := Try.zeroValue3
 t4 := Try.underlying4
 a4 := Try.isAgg4
 z4 := Try.sizeOf4
 v4 := Try.zeroValue4
 t22 := Try.underlying23
 a22 := Try.isAgg23
 z22 := Try.sizeOf23
 v22 := Try.zeroValue23
 a24 := Try.isAgg3
 z24 := Try.sizeOf3
 t25 := Try.underlying72
 a25 := Try.isAgg72
 z25 := Try.sizeOf72
 v25 := Try.zeroValue72 }
def Gr (w w' : World) : Prop := ∃ q os, w' = Go.Sort.grow (w.drewN q) os
theorem Gr.refl (w : World) : Gr w w := ⟨0, #[], by rw [Go.Sort.grow_empty]; rfl⟩
theorem Gr.alloc {w w1 : World} (h : Gr w w1) (o : Obj) : Gr w (w1.alloc o) := by
 obtain ⟨q, os, rfl⟩ := h
 exact ⟨q, os ++ #[o], by rw [Go.Sort.alloc_eq_grow, Go.Sort.grow_grow]⟩
theorem Gr.drewN {w w1 : World} (h : Gr w w1) (n : Nat) : Gr w (w1.drewN n) := by
 obtain ⟨q, os, rfl⟩ := h
 exact ⟨q + n, os, by rw [← World.drewN_drewN]; rfl⟩
theorem Gr.drew {w w1 : World} (h : Gr w w1) : Gr w w1.drew := h.drewN 1
theorem grA {w0 w w1 w2 : World} {o : Obj} (h : Aside0 (Gr w0 w)) (hw : w2 = w1.alloc o) (p : Gr w0 w → Gr w0 w1 := by intro h; repeat (first | exact h | apply Gr.drewN | apply Gr.drew | apply Gr.alloc)) : Aside0 (Gr w0 w2) := ⟨by rw [hw]; exact (p h.out).alloc o⟩
theorem grX {w0 w w1 : World} (h : Aside0 (Gr w0 w)) (p : Gr w0 w → Gr w0 w1 := by intro h; repeat (first | exact h | apply Gr.drewN | apply Gr.drew | apply Gr.alloc)) : Gr w0 w1 := p h.out
section
variable {P : Program} {ops : Array Oper} {rest : List Oper} {o : Oper} {a : Act} {Q : Exit → Act → World → Prop} {w : World}
theorem boxG (N : Tmp) (cs : Array Value) (t : TypeId)
 (h : ∀ g, g = w.heap.size → ∀ w1, w1 = w.alloc (.cells cs t (0, 0)) → w1.heap[g]? = some (.cells cs t (0, 0)) → Below w.heap.size w w1 → wpList P ops Q rest (a.put o.dst (.pointer (some ⟨g, 0, none⟩))) w1)
 (hd : o.dst = some N := by rfl) (hg : o.guard = none := by rfl) (hr : (execOp a.eval o).run P w = .ok (.value (.pointer (some ⟨w.heap.size, 0, none⟩))) (w.alloc (.cells cs t (0, 0))) := by first | (go_simp; done) | (go_simp; rfl)) : wpList P ops Q (o :: rest) a w :=
 Kd.event_run hg hr (h _ rfl _ rfl (blk_new w _) (below_alloc (Below.refl _ _) _))
end
set_option maxHeartbeats 8000000 in
set_option maxRecDepth 100000 in
theorem compare_grow (a0_0 : Int) (a0_1 : Int) (a1_0 : Int) (a1_1 : Int) (r : Int) (w : World) (h : quality_compare.f a0_0 a0_1 a1_0 a1_1 = some r) :
 Calls Try.prog 45 #[.agg #[.int .i64 a0_0, .int .i64 a0_1], .agg #[.int .i64 a1_0, .int .i64 a1_1]] w fun e w' => e = .returned (.int .i64 r) ∧ Gr w w' := by
 have hu34 := Try.underlying34
 have HB := Aside0.mk (Below.refl w.heap.size w)
 have GR := Aside0.mk (Gr.refl w)
 have H : ((cmp_Compare_int.f (wrap64 (a0_1 * (mx a1_0 1))) (wrap64 (a1_1 * (mx a0_0 1)))).bind fun t379 => (some t379)) = some r := h
 clear h
 obtain ⟨ji3, hji3⟩ : ∃ j_ : Int, (mx a1_0 1) = j_ := ⟨_, rfl⟩
 replace H : ((cmp_Compare_int.f (wrap64 (a0_1 * (ji3))) (wrap64 (a1_1 * (mx a0_0 1)))).bind fun t379 => (some t379)) = some r := by first | (rw [hji3] at H; exact H) | (simp only [hji3] at H ⊢; exact H)
 (try (have hji3l : 1 ≤ ji3 := by (rw [← hji3]; unfold mx; (repeat' split) <;> omega)))
 (try (have hji3m : 0 ≤ ji3 := by omega))
 have hji3_ : (if a1_0 < 1 then 1 else a1_0) = ji3 := hji3
 obtain ⟨ji4, hji4⟩ : ∃ j_ : Int, (mx a0_0 1) = j_ := ⟨_, rfl⟩
 replace H : ((cmp_Compare_int.f (wrap64 (a0_1 * (ji3))) (wrap64 (a1_1 * (ji4)))).bind fun t379 => (some t379)) = some r := by first | (rw [hji4] at H; exact H) | (simp only [hji4] at H ⊢; exact H)
 (try (have hji4l : 1 ≤ ji4 := by (rw [← hji4]; unfold mx; (repeat' split) <;> omega)))
 (try (have hji4m : 0 ≤ ji4 := by omega))
 have hji4_ : (if a0_0 < 1 then 1 else a0_0) = ji4 := hji4
 replace H := Option.bind_eq_some_iff.mp H
 obtain ⟨t379, A50, H⟩ := H
 (try dsimp only at H)
 have A5 := Aside0.mk A50
 clear A50
 obtain rfl := Option.some.inj H
 go_enter Try.func45, Try.ntmps45
 go_wp2_with (first | ((with_reducible refine gate_dst (N := 2) rfl ?_); refine boxG 2 #[.int .i64 a0_0, .int .i64 a0_1] 34 ?_; intro gb377 hg w6 hw hbox hb; have BK377 := Aside0.mk (hbox); have GW377 := gw hg HB; have GE377 := gw hg HB; replace HB := hbS HB hb; replace GR := grA GR hw; clear hb hbox hg hw) | ((with_reducible refine gate_dst (N := 3) rfl ?_); refine boxG 3 #[.int .i64 a1_0, .int .i64 a1_1] 34 ?_; intro gb378 hg w7 hw hbox hb; have BK378 := Aside0.mk (hbox); have GW378 := gw hg HB; have GE378 := gw hg HB; replace HB := hbS HB hb; replace GR := grA GR hw; have NB377_378 := nbl hg BK377; have NB378_377 := nbg hg BK377; replace BK377 := bkB BK377 hb; clear hb hbox hg hw; have hnb8 := NB377_378.out; have hnc8 := NB378_377.out; obtain ⟨z0, z1, y0, y1⟩ := bc2 BK377; obtain ⟨z0, z1, y0, y1⟩ := bc2 BK378) | ((with_reducible refine gate_callee (f := 54) rfl ?_); refine goesL_ (some 17) rfl rfl Try.func54 (by kernel_rfl) rfl #[.int .i64 (wrap64 (a0_1 * (ji3))), .int .i64 (wrap64 (a1_1 * (ji4)))] rfl (by (try simp only [List.map_toArray, List.map_cons, List.map_nil]); first | done | (simp only [hji3, hji4]; rfl) | rfl | (simp only [List.length_drop, List.length_take]; rfl)) ?_; (with_reducible refine (cmp_Compare_int.calls (wrap64 (a0_1 * (ji3))) (wrap64 (a1_1 * (ji4))) t379 _ A5.out).mono ?_); rintro e w' ⟨rfl, ⟨nd, rfl⟩⟩; refine ⟨_, rfl, ?_⟩))
 go_ret
 exact ⟨by first | rfl | (simp [errW_none, errW_some] <;> rfl) | (simp only [← hji3, ← hji4]; first | rfl | (simp [errW_none, errW_some] <;> rfl)) | (simp [*, errW_none, errW_some] <;> rfl), grX GR⟩
theorem cell_gr {w : World} {a : Addr} {v : Value} (h : w.cell? a = some v) (n : Nat) (os : Array Obj) : (Go.Sort.grow (w.drewN n) os).cell? a = some v := Go.cell_grown (World.block_lt_of_cell? w _ h) h n os
theorem Gr.of {w w' : World} (h : Gr w w') : ∃ q os, w' = Go.Sort.grow (w.drewN q) os := h
set_option maxHeartbeats 8000000 in
set_option maxRecDepth 100000 in
theorem judge1_grow (gb : Nat) (c : Nat) (cs : List S34) (x y r : Int) (W : World) (hx : 0 ≤ x ∧ x < cs.length) (hy : 0 ≤ y ∧ y < cs.length) (ad : Addr) (hl : W.cell? ⟨gb, 1, none⟩ = some (.slice (some ad) cs.length c)) (hx0 : W.cell? (ad.add (x.toNat * 2)) = some (.int .i64 (rd_T34 cs x).f0)) (hx1 : W.cell? ⟨(ad.add (x.toNat * 2)).block, (ad.add (x.toNat * 2)).off + 1, none⟩ = some (.int .i64 (rd_T34 cs x).f1)) (hy0 : W.cell? (ad.add (y.toNat * 2)) = some (.int .i64 (rd_T34 cs y).f0)) (hy1 : W.cell? ⟨(ad.add (y.toNat * 2)).block, (ad.add (y.toNat * 2)).off + 1, none⟩ = some (.int .i64 (rd_T34 cs y).f1))
 (h : quality_compare.f (rd_T34 cs x).f0 (rd_T34 cs x).f1 (rd_T34 cs y).f0 (rd_T34 cs y).f1 = some r) :
 Calls Try.prog 56 #[.int .i64 x, .int .i64 y, .pointer (some ⟨gb, 0, none⟩)] W fun e w' => e = .returned (.int .i64 r) ∧ Gr W w' := by
 have hu34 := Try.underlying34
 have hu25 := Try.underlying25
 have mixed : Try.prog.follows .mixedOrders = true := by kernel_rfl
 have HC := Aside0.mk h
 clear h
 have q0 := cell_gr hl
 have q1 := cell_gr hx0
 have q2 := cell_gr hx1
 have q3 := cell_gr hy0
 have q4 := cell_gr hy1
 clear hl hx0 hx1 hy0 hy1
 have p1 : (0 ≤ x) = True := eq_true hx.1
 have p2 : (x < (cs.length : Int)) = True := eq_true hx.2
 have p3 : (0 ≤ y) = True := eq_true hy.1
 have p4 : (y < (cs.length : Int)) = True := eq_true hy.2
 clear hx hy
 go_enter Try.func56, Try.ntmps56
 go_wp2_with fail
 go_quiet_grown (exact Go.Calls.grown_of (compare_grow _ _ _ _ _ _ HC.out))
 go_wp2
 go_ret
 exact ⟨rfl, _, _, rfl⟩
def cmpv (a b : S34) : Int := (quality_compare.f a.f0 a.f1 b.f0 b.f1).getD 0
theorem compare_some (a b : S34) : quality_compare.f a.f0 a.f1 b.f0 b.f1 = some (cmpv a b) := by
 have : ∀ x y : Int, ∃ r, cmp_Compare_int.f x y = some r := fun x y => by
  unfold cmp_Compare_int.f cmp_isNaN_int.f
  simp only [Option.bind_some]
  repeat' split
  all_goals exact ⟨_, rfl⟩
 obtain ⟨r, hr⟩ := this (wrap64 (a.f1 * (mx b.f0 1))) (wrap64 (b.f1 * (mx a.f0 1)))
 unfold cmpv quality_compare.f
 rw [hr]
 rfl
def encF (m : Nat) (x : Fin (m + 1)) : Value := .int .i64 ((x.val : Nat) : Int)
def cfF (cs : List S34) (m : Nat) (x y : Fin (m + 1)) : Int := cmpv (rd_T34 cs ((x.val : Nat) : Int)) (rd_T34 cs ((y.val : Nat) : Int))
def toF (m : Nat) (x : Int) : Fin (m + 1) := ⟨min x.toNat m, by omega⟩
def ofF (m : Nat) (x : Fin (m + 1)) : Int := ((x.val : Nat) : Int)
def sortM (cs : List S34) (m : Nat) (ss : List Int) : List Int := (Go.Sort.insertionSort (Go.Proofs.ltOf (cfF cs m)) (ss.map (toF m)).toArray 0 ss.length).toList.map (ofF m)
def sortI (cs : List S34) (ss : List Int) : List Int := if ss.length ≤ 1 then ss else sortM cs (cs.length - 1) ss
def sortOk (cs : List S34) (ss : List Int) : Bool := decide (ss.length < 20) && ss.all fun x => decide (0 ≤ x) && decide (x < (cs.length : Int))
theorem cell_sw {α : Type} [Inhabited α] {enc : α → Value} {W : World} {g m : Nat} {dk : Array α} {os : Array Obj} {a : Addr} {v : Value} (hne : a.block ≠ g) (h : W.cell? a = some v) : (Go.Proofs.sortWorld enc W g 0 m dk os).cell? a = some v := by
 unfold Go.Proofs.sortWorld
 rw [Go.Sort.cell?_grow _ _ _ (by rw [Go.Proofs.size_putRow]; exact World.block_lt_of_cell? W _ h), Go.Sort.cell?_putRow_other _ _ _ _ _ _ (Or.inl hne)]
 exact h
theorem putRow_F (m : Nat) (w : World) (g : Nat) (d : Array (Fin (m + 1))) : Go.Sort.putRow (encF m) w g 0 d = Go.Sort.putRow (Value.int .i64) w g 0 (d.toList.map (ofF m)).toArray := by
 unfold Go.Sort.putRow
 refine Go.Sort.mapBlock_congr _ _ _ _ fun c e fr _ => ?_
 unfold Go.Sort.putCells
 refine Array.ext (by simp) fun i h1 h2 => ?_
 simp only [Array.getElem_mapIdx, List.size_toArray, List.length_map, Array.length_toList]
 split
 ·rename_i h
  have hi : i - 0 < d.size := by omega
  rw [getElem!_pos d _ hi, getElem!_pos _ _ (by simpa using hi)]
  simp [encF, ofF]
 ·rfl
theorem insInner_size {α : Type} [Inhabited α] (lt : α → α → Bool) (a : Nat) : ∀ (j : Nat) (d : Array α), (Go.Sort.insInner lt a j d).size = d.size
 | 0, d => rfl
 | j + 1, d => by
  unfold Go.Sort.insInner
  split
  ·rw [insInner_size lt a j, Go.Sort.size_swp]
  ·rfl
theorem insOuter_size {α : Type} [Inhabited α] (lt : α → α → Bool) (a b : Nat) : ∀ (n i : Nat) (d : Array α), b - i = n → (Go.Sort.insOuter lt a b i d).size = d.size
 | 0, i, d, h => by rw [Go.Proofs.insOuter_stop _ _ _ _ _ (by omega)]
 | n + 1, i, d, h => by rw [Go.Proofs.insOuter_go _ _ _ _ _ (by omega), insOuter_size lt a b n (i + 1) _ (by omega), insInner_size]
theorem sortM_len (cs : List S34) (m : Nat) (ss : List Int) : (sortM cs m ss).length = ss.length := by
 unfold sortM Go.Sort.insertionSort
 rw [List.length_map, Array.length_toList, insOuter_size _ _ _ _ _ _ rfl]
 simp
set_option maxRecDepth 100000 in
theorem ins_row (cs : List S34) (m gb g c1 cap : Nat) (ad : Addr) (ss : List Int) (base : Nat) (ok : Nat → Prop) (W : World) (hm : cs.length = m + 1)
 (hO : Kd.R (Kd.int .i64) 3 W base ok (.slice (some ⟨g, 0, none⟩) ss.length cap) ss) (hin : ∀ x ∈ ss, 0 ≤ x ∧ x < cs.length) (hlen : ss.length < 20)
 (hl : W.cell? ⟨gb, 1, none⟩ = some (.slice (some ad) cs.length c1)) (hgb : gb ≠ g) (hC : Kd.C k34 W (some ad) cs.length cs) (hne : ad.block ≠ g) :
 Calls Try.prog 59 #[.slice (some ⟨g, 0, none⟩) ss.length cap, .int .i64 0, .int .i64 ss.length, .func (.func 56) #[] #[.pointer (some ⟨gb, 0, none⟩)]] W fun e w' => e = .returned (.tuple #[]) ∧ ∃ n os, w' = Go.Sort.grow (Go.Sort.putRow (Value.int .i64) (Go.Sort.ahead W n) g 0 (sortM cs m ss).toArray) os := by
 have hown := Kd.own_of_R hO
 obtain ⟨cur, hb, htk, hcap, hcs⟩ : ∃ cur, W.heap[g]? = some (.cells cur 3 (0, 0)) ∧ cur.toList.take ss.length = ss.map (Value.int .i64) ∧ ss.length ≤ cap ∧ cur.size = cap * 1 := by
  rcases hown.2 with ⟨h0, _⟩ | ⟨g', cap', cur, hv, _, hh, hn, _, hc, ht⟩
  ·cases h0
  ·injection hv with h1 h2 h3
   injection h1 with h1
   injection h1 with h1
   subst h1 h3
   exact ⟨cur, hh, by rw [Nat.mul_one] at ht; exact ht, hn, hc⟩
 have hg : g < W.heap.size := blk_lt hb
 have hold := Go.holds_of_blockI hb htk
 have hval : ∀ j, j < ss.length → encF m ((ss.map (toF m)).toArray)[j]! = .int .i64 (ss.toArray)[j]! := by
  intro j hj
  have h1 := hin (ss[j]) (List.getElem_mem hj)
  rw [getElem!_pos _ j (by simpa using hj), getElem!_pos _ j (by simpa using hj)]
  simp only [List.getElem_toArray, List.getElem_map, encF, toF]
  congr 1
  omega
 have hsz : ((ss.map (toF m)).toArray).size = ss.length := by simp
 have hF : Go.Sort.Holds (encF m) W g 0 (ss.map (toF m)).toArray := fun j hj => by
  rw [hval j (by omega)]
  exact hold j (by simpa using hj)
 have R : Go.Proofs.Row1 (encF m) W g 0 (ss.map (toF m)).toArray := ⟨fun _ => rfl, hF, hg⟩
 have hcell : ∀ x : Fin (m + 1), W.cell? (ad.add ((((x.val : Nat) : Int)).toNat * 2)) = some (.int .i64 (rd_T34 cs ((x.val : Nat) : Int)).f0) ∧ W.cell? ⟨(ad.add ((((x.val : Nat) : Int)).toNat * 2)).block, (ad.add ((((x.val : Nat) : Int)).toNat * 2)).off + 1, none⟩ = some (.int .i64 (rd_T34 cs ((x.val : Nat) : Int)).f1) := fun x => by
  obtain ⟨ad', e, h0, h1⟩ := at_T34 hC ((x.val : Nat) : Int) (by omega) (by have := x.isLt; omega)
  cases e
  exact ⟨h0, h1⟩
 have cmp : Go.Proofs.CmpLays1 Try.prog 56 #[.pointer (some ⟨gb, 0, none⟩)] (encF m) (cfF cs m) g 0 ((ss.map (toF m)).toArray).size W := by
  intro q os dk _ x y
  have a1 := hcell x
  have a2 := hcell y
  have bn : ∀ k, (ad.add k).block ≠ g := fun k => by rw [add_block]; exact hne
  exact judge1_grow gb c1 cs ((x.val : Nat) : Int) ((y.val : Nat) : Int) (cfF cs m x y) _ ⟨by omega, by have := x.isLt; omega⟩ ⟨by omega, by have := y.isLt; omega⟩ ad (cell_sw hgb hl) (cell_sw (bn _) a1.1) (cell_sw (bn _) a1.2) (cell_sw (bn _) a2.1) (cell_sw (bn _) a2.2) (compare_some _ _)
 have main := Go.Proofs.Any.insertionSortCmpFunc_s laysS (encF m) (cfF cs m) 56 #[.pointer (some ⟨gb, 0, none⟩)] g 0 cap 0 ss.length (ss.map (toF m)).toArray (ss.map (toF m)).toArray W W (fun args w => Go.Proofs.enters_of Try.func56 (by kernel_rfl) rfl args w) cmp R rfl (Go.Proofs.SW.start hF) (Nat.zero_le _) (by omega) (by omega)
 rw [hsz] at main
 refine Calls.mono main fun e w' ⟨he, n, os, hw⟩ => ⟨he, n, os, ?_⟩
 rw [hw]
 unfold Go.Proofs.sortWorld
 rw [putRow_F]
 rfl
theorem ins_one.calls (v f : Value) (b : Int) (w : World) (hb : b ≤ 1) :
 Calls Try.prog 59 #[v, .int .i64 0, .int .i64 b, f] w fun e w' => e = .returned (.tuple #[]) ∧ w' = w := by
 have c1 : decide (1 < b) = false := decide_eq_false (by omega)
 clear hb
 go_enter Try.func59, Try.ntmps59
 go_wp2
 go_loopg [8] 0 (fun kq v8 w' => v8 = .int .i64 1 ∧ w' = w)
 case atStart => exact ⟨rfl, rfl⟩
 case round =>
  obtain ⟨rfl, rfl⟩ := hrel
  go_wp2
  go_end0
  exact ⟨rfl, rfl⟩
theorem stable_one.calls (v f : Value) (n : Int) (w : World) (hn : n ≤ 1) :
 Calls Try.prog 58 #[v, .int .i64 n, f] w fun e w' => e = .returned (.tuple #[]) ∧ w' = w := by
 have c1 : decide (20 ≤ n) = false := decide_eq_false (by omega)
 have c2 : decide (20 < n) = false := decide_eq_false (by omega)
 have HN := Aside0.mk hn
 clear hn
 go_enter Try.func58, Try.ntmps58
 go_wp2
 go_loopg [7, 8] 0 (fun kq v7 v8 w' => v7 = .int .i64 0 ∧ v8 = .int .i64 20 ∧ w' = w)
 case atStart => exact ⟨rfl, rfl, rfl⟩
 case round =>
  obtain ⟨rfl, rfl, rfl⟩ := hrel
  go_wp2_with ((with_reducible refine gate_callee (f := 59) rfl ?_); refine goesL_ (some 27) rfl rfl Try.func59 (by kernel_rfl) rfl #[v, .int .i64 0, .int .i64 n, f] rfl (by (try simp only [List.map_toArray, List.map_cons, List.map_nil]); first | done | rfl) ?_; (with_reducible refine (ins_one.calls v f n _ HN.out).mono ?_); rintro e w1 ⟨rfl, rfl⟩; refine ⟨_, rfl, ?_⟩)
  simp only [Act.put, List.setIfInBounds_toArray, List.set_cons_zero, List.set_cons_succ]
  go_loopg [6, 7, 8] 0 (fun kq v6 v7 v8 w' => v6 = .int .i64 20 ∧ w' = w1)
  case atStart => exact ⟨rfl, rfl⟩
  case round =>
   obtain ⟨rfl, rfl⟩ := hrel
   go_wp2
   go_end0
   exact ⟨rfl, rfl⟩
theorem sort_one.calls (A : Option Addr) (n c : Nat) (f : Value) (w : World) (hn : n ≤ 1) :
 Calls Try.prog 55 #[.slice A n c, f] w fun e w' => e = .returned (.tuple #[]) ∧ w' = w := by
 have HN := Aside0.mk (show (n : Int) ≤ 1 by omega)
 clear hn
 go_enter Try.func55, Try.ntmps55
 go_wp2_with ((with_reducible refine gate_callee (f := 58) rfl ?_); refine goesL_ (some 8) rfl rfl Try.func58 (by kernel_rfl) rfl #[.slice A n c, .int .i64 (n : Int), f] rfl (by (try simp only [List.map_toArray, List.map_cons, List.map_nil]); first | done | rfl) ?_; (with_reducible refine (stable_one.calls (.slice A n c) f (n : Int) _ HN.out).mono ?_); rintro e w1 ⟨rfl, rfl⟩; refine ⟨_, rfl, ?_⟩)
 go_end0
 exact ⟨rfl, rfl⟩
set_option maxRecDepth 100000 in
theorem stable_row (cs : List S34) (m gb g c1 cap : Nat) (ad : Addr) (ss : List Int) (base : Nat) (ok : Nat → Prop) (W : World) (hm : cs.length = m + 1)
 (hO : Kd.R (Kd.int .i64) 3 W base ok (.slice (some ⟨g, 0, none⟩) ss.length cap) ss) (hin : ∀ x ∈ ss, 0 ≤ x ∧ x < cs.length) (hlen : ss.length < 20)
 (hl : W.cell? ⟨gb, 1, none⟩ = some (.slice (some ad) cs.length c1)) (hgb : gb ≠ g) (hC : Kd.C k34 W (some ad) cs.length cs) (hne : ad.block ≠ g) :
 Calls Try.prog 58 #[.slice (some ⟨g, 0, none⟩) ss.length cap, .int .i64 ss.length, .func (.func 56) #[] #[.pointer (some ⟨gb, 0, none⟩)]] W fun e w' => e = .returned (.tuple #[]) ∧ ∃ n os, w' = Go.Sort.grow (Go.Sort.putRow (Value.int .i64) (Go.Sort.ahead W n) g 0 (sortM cs m ss).toArray) os := by
 have c1_ : decide (20 ≤ (ss.length : Int)) = false := decide_eq_false (by omega)
 have c2_ : decide (20 < (ss.length : Int)) = false := decide_eq_false (by omega)
 have HI := Aside0.mk (ins_row cs m gb g c1 cap ad ss base ok W hm hO hin hlen hl hgb hC hne)
 clear hO hin hlen hl hgb hC hne hm
 go_enter Try.func58, Try.ntmps58
 go_wp2
 go_loopg [7, 8] 0 (fun kq v7 v8 w' => v7 = .int .i64 0 ∧ v8 = .int .i64 20 ∧ w' = W)
 case atStart => exact ⟨rfl, rfl, rfl⟩
 case round =>
  obtain ⟨rfl, rfl, rfl⟩ := hrel
  go_wp2_with ((with_reducible refine gate_callee (f := 59) rfl ?_); refine goesL_ (some 27) rfl rfl Try.func59 (by kernel_rfl) rfl #[.slice (some ⟨g, 0, none⟩) ss.length cap, .int .i64 0, .int .i64 ss.length, .func (.func 56) #[] #[.pointer (some ⟨gb, 0, none⟩)]] rfl (by (try simp only [List.map_toArray, List.map_cons, List.map_nil]); first | done | rfl) ?_; (with_reducible refine HI.out.mono ?_); rintro e w1 ⟨rfl, hw1⟩; have HW := Aside0.mk hw1; clear hw1; refine ⟨_, rfl, ?_⟩)
  simp only [Act.put, List.setIfInBounds_toArray, List.set_cons_zero, List.set_cons_succ]
  go_loopg [6, 7, 8] 0 (fun kq v6 v7 v8 w' => v6 = .int .i64 20 ∧ w' = w1)
  case atStart => exact ⟨rfl, rfl⟩
  case round =>
   obtain ⟨rfl, rfl⟩ := hrel
   go_wp2
   go_end0
   exact ⟨rfl, HW.out⟩
theorem sort_row (cs : List S34) (m gb g c1 cap : Nat) (ad : Addr) (ss : List Int) (base : Nat) (ok : Nat → Prop) (W : World) (hm : cs.length = m + 1)
 (hO : Kd.R (Kd.int .i64) 3 W base ok (.slice (some ⟨g, 0, none⟩) ss.length cap) ss) (hin : ∀ x ∈ ss, 0 ≤ x ∧ x < cs.length) (hlen : ss.length < 20)
 (hl : W.cell? ⟨gb, 1, none⟩ = some (.slice (some ad) cs.length c1)) (hgb : gb ≠ g) (hC : Kd.C k34 W (some ad) cs.length cs) (hne : ad.block ≠ g) :
 Calls Try.prog 55 #[.slice (some ⟨g, 0, none⟩) ss.length cap, .func (.func 56) #[] #[.pointer (some ⟨gb, 0, none⟩)]] W fun e w' => e = .returned (.tuple #[]) ∧ ∃ n os, w' = Go.Sort.grow (Go.Sort.putRow (Value.int .i64) (Go.Sort.ahead W n) g 0 (sortM cs m ss).toArray) os := by
 have HI := Aside0.mk (stable_row cs m gb g c1 cap ad ss base ok W hm hO hin hlen hl hgb hC hne)
 clear hO hin hlen hl hgb hC hne hm
 go_enter Try.func55, Try.ntmps55
 go_wp2_with ((with_reducible refine gate_callee (f := 58) rfl ?_); refine goesL_ (some 8) rfl rfl Try.func58 (by kernel_rfl) rfl #[.slice (some ⟨g, 0, none⟩) ss.length cap, .int .i64 ss.length, .func (.func 56) #[] #[.pointer (some ⟨gb, 0, none⟩)]] rfl (by (try simp only [List.map_toArray, List.map_cons, List.map_nil]); first | done | rfl) ?_; (with_reducible refine HI.out.mono ?_); rintro e w1 ⟨rfl, hw1⟩; have HW := Aside0.mk hw1; clear hw1; refine ⟨_, rfl, ?_⟩)
 go_end0
 exact ⟨rfl, HW.out⟩
theorem ahead_grown (W : World) (n g : Nat) (d : Array Int) (os : Array Obj) : W.grownBy (Go.Sort.grow (Go.Sort.putRow (Value.int .i64) (Go.Sort.ahead W n) g 0 d) os) (some g) := Go.grownBy_sortedI d
theorem HBg {w0 W w' : World} {g : Nat} (hB : Below w0.heap.size w0 W) (hg : W.grownBy w' (some g)) (h : w0.heap.size ≤ g) : Below w0.heap.size w0 w' := hB.grown hg hB.size (fun k hk => by injection hk with hk; omega)
theorem sort_any.calls (w0 W : World) (cs : List S34) (A1 A : Option Addr) (c1 c gb : Nat) (n0 : Int) (v2 v3 : Value) (ss : List Int) (ok : Nat → Prop)
 (hC0 : Kd.C k34 w0 A1 cs.length cs) (hbox : W.heap[gb]? = some (.cells #[.int .i64 n0, .slice A1 cs.length c1, v2, v3] 25 (0, 0))) (hB : Below w0.heap.size w0 W)
 (hO : Kd.R (Kd.int .i64) 3 W w0.heap.size ok (.slice A ss.length c) ss) (hs : sortOk cs ss = true) :
 Calls Try.prog 55 #[.slice A ss.length c, .func (.func 56) #[] #[.pointer (some ⟨gb, 0, none⟩)]] W fun e w' => e = .returned (.tuple #[]) ∧ Kd.R (Kd.int .i64) 3 w' w0.heap.size ok (.slice A ss.length c) (sortI cs ss) ∧ Below w0.heap.size w0 w' ∧ W.grownBy w' (Value.slice A ss.length c).ownBlock := by
 unfold sortOk at hs
 simp only [Bool.and_eq_true, decide_eq_true_eq, List.all_eq_true] at hs
 obtain ⟨hlen, hin⟩ := hs
 by_cases h1 : ss.length ≤ 1
 ·refine (sort_one.calls A ss.length c _ W h1).mono fun e w' ⟨he, hw⟩ => ?_
  subst hw
  unfold sortI
  rw [if_pos h1]
  exact ⟨he, hO, hB, World.grownBy.refl _ _⟩
 ·obtain ⟨g, cap, hv, hg, hgl, cells, hcell⟩ := Kd.R_form hO (by omega)
  injection hv with e1 e2 e3
  subst e1 e3
  have hin' : ∀ x ∈ ss, 0 ≤ x ∧ x < (cs.length : Int) := hin
  obtain ⟨m, hm⟩ : ∃ m, cs.length = m + 1 := by
   have := hin' (ss[0]'(by omega)) (List.getElem_mem _)
   exact ⟨cs.length - 1, by omega⟩
  obtain ⟨ad, e, h0, _⟩ := at_T34 hC0 0 (by decide) (by omega)
  cases e
  have hlt : ad.block < w0.heap.size := by
   have := World.block_lt_of_cell? w0 _ h0
   rwa [add_block] at this
  have hgb : gb ≠ g := by
   have := Kd.R_ne hO hbox (by decide)
   simpa [Value.ownBlock] using this
  refine (sort_row cs m gb g c1 c ad ss w0.heap.size ok W hm hO hin' hlen ((blk_cell hbox 1).trans rfl) hgb (Kd.C_below hC0 hB) (by omega)).mono fun e w' ⟨he, n, os, hw⟩ => ?_
  have hgr : W.grownBy w' (some g) := by rw [hw]; exact ahead_grown W n g _ os
  refine ⟨he, ?_, HBg hB hgr hg, by simpa [Value.ownBlock] using hgr⟩
  have hown := Kd.own_of_R hO
  have hsI : sortI cs ss = sortM cs m ss := by
   unfold sortI
   rw [if_neg h1, hm, Nat.add_sub_cancel]
  have hl2 : (sortM cs m ss).length = ss.length := sortM_len cs m ss
  rcases hown.2 with ⟨h0, _⟩ | ⟨g', cap', cur, hv, hb', hh, hn, hcm, hc, ht⟩
  ·cases h0
  ·injection hv with k1 k2 k3
   injection k1 with k1
   injection k1 with k1
   subst k1 k3
   have := Go.ownsRow_sortedI (n := n) (os := os) hl2 hb' hh hn hcm hc
   rw [hsI, hw]
   refine Kd.R_of_own ?_ hO.1
   rw [hl2]
   exact this
mutual
def quality_rules_judge.l0 : Nat → List Int → List Int → List (S34) → Int → Int → Int → Int → Int → Int → Int → List (S34) → List Int → List Int → Option (List Int × List Int)
 | 0, _, _, _, _, _, _, _, _, _, _, _, _, _ => none
 | k + 1, x4, x5, x9, x10, x11, x158000, x158001, x158002, x158003, x159000, x159001, x159002, x159003 => if x11 < x10 then (if 0 ≤ x11 then (if x11 < (x9.length : Int) then (if x11 < (x159002.length : Int) then (if (rd x159002 x11) = 0 then (quality_rules_judge.j1 k x4 x5 x11 x9 x10 x11 (decide (((rd_T34 x9 x11).f0) < x158000)) x158000 x158001 x158002 x158003 x159000 x159001 x159002 x159003 ((rd_T34 x9 x11).f0) ((rd_T34 x9 x11).f1)) else (quality_rules_judge.j1 k x4 x5 x11 x9 x10 x11 true x158000 x158001 x158002 x158003 x159000 x159001 x159002 x159003 ((rd_T34 x9 x11).f0) ((rd_T34 x9 x11).f1))) else (none)) else (none)) else (none)) else (if sortOk x159001 x4 = true then (some ((sortI x159001 x4), x5)) else (none))
def quality_rules_judge.j1 : Nat → List Int → List Int → Int → List (S34) → Int → Int → Bool → Int → Int → Int → Int → Int → List (S34) → List Int → List Int → Int → Int → Option (List Int × List Int)
 | 0, _, _, _, _, _, _, _, _, _, _, _, _, _, _, _, _, _ => none
 | k + 1, x4, x5, x6, x9, x10, x11, x16, x158000, x158001, x158002, x158003, x159000, x159001, x159002, x159003, x164000, x164001 => if x16 = true then (quality_rules_judge.l0 k x4 x5 x9 x10 (wrap64 (x11 + 1)) x158000 x158001 x158002 x158003 x159000 x159001 x159002 x159003) else ((quality_rate.f x164000 x164001).bind fun t165 => (if t165 < x158001 then (if x4.length < 17592186044416 then (quality_rules_judge.l0 k (x4 ++ [x6]) x5 x9 x10 (wrap64 (x11 + 1)) x158000 x158001 x158002 x158003 x159000 x159001 x159002 x159003) else (none)) else ((quality_rate.f x164000 x164001).bind fun t169 => (if t169 ≥ x158002 then (if x5.length < 17592186044416 then (quality_rules_judge.l0 k x4 (x5 ++ [x6]) x9 x10 (wrap64 (x11 + 1)) x158000 x158001 x158002 x158003 x159000 x159001 x159002 x159003) else (none)) else (quality_rules_judge.l0 k x4 x5 x9 x10 (wrap64 (x11 + 1)) x158000 x158001 x158002 x158003 x159000 x159001 x159002 x159003)))))
end
def quality_rules_judge.f (k : Nat) (a0_0 : Int) (a0_1 : Int) (a0_2 : Int) (a0_3 : Int) (a1_0 : Int) (l1_1 : List (S34)) (l1_2 : List Int) (l1_3 : List Int) : Option (List Int × List Int) := quality_rules_judge.l0 k ([] : List Int) ([] : List Int) l1_1 (l1_1.length : Int) 0 a0_0 a0_1 a0_2 a0_3 a1_0 l1_1 l1_2 l1_3
theorem quality_rules_judge.mono_l : ∀ k, (∀ y0 y1 y2 y3 y4 y5 y6 y7 y8 y9 y10 y11 y12, LeO (quality_rules_judge.l0 k y0 y1 y2 y3 y4 y5 y6 y7 y8 y9 y10 y11 y12) (quality_rules_judge.l0 (k + 1) y0 y1 y2 y3 y4 y5 y6 y7 y8 y9 y10 y11 y12)) ∧ (∀ y0 y1 y2 y3 y4 y5 y6 y7 y8 y9 y10 y11 y12 y13 y14 y15 y16, LeO (quality_rules_judge.j1 k y0 y1 y2 y3 y4 y5 y6 y7 y8 y9 y10 y11 y12 y13 y14 y15 y16) (quality_rules_judge.j1 (k + 1) y0 y1 y2 y3 y4 y5 y6 y7 y8 y9 y10 y11 y12 y13 y14 y15 y16))
 | 0 => ⟨fun _ _ _ _ _ _ _ _ _ _ _ _ _ r h => by simp [quality_rules_judge.l0] at h, fun _ _ _ _ _ _ _ _ _ _ _ _ _ _ _ _ _ r h => by simp [quality_rules_judge.j1] at h⟩
 | k + 1 => by
  obtain ⟨ih0, ih1⟩ := quality_rules_judge.mono_l k
  refine ⟨?_, ?_⟩
  ·intro y0 y1 y2 y3 y4 y5 y6 y7 y8 y9 y10 y11 y12
   unfold quality_rules_judge.l0
   repeat' first
   | (with_reducible exact ih0 _ _ _ _ _ _ _ _ _ _ _ _ _)
   | (with_reducible exact ih1 _ _ _ _ _ _ _ _ _ _ _ _ _ _ _ _ _)
   | (with_reducible exact LeO.refl _)
   | (with_reducible exact LeO.none _)
   | (with_reducible refine LeO.ite ?_ ?_)
   | (with_reducible refine LeO.bind ?_ (fun _ => ?_))
   | exact ih0 _ _ _ _ _ _ _ _ _ _ _ _ _
   | exact ih1 _ _ _ _ _ _ _ _ _ _ _ _ _ _ _ _ _
   | exact LeO.none _
   | refine LeO.ite ?_ ?_
   | refine LeO.bind ?_ (fun _ => ?_)
  ·intro y0 y1 y2 y3 y4 y5 y6 y7 y8 y9 y10 y11 y12 y13 y14 y15 y16
   unfold quality_rules_judge.j1
   repeat' first
   | (with_reducible exact ih0 _ _ _ _ _ _ _ _ _ _ _ _ _)
   | (with_reducible exact ih1 _ _ _ _ _ _ _ _ _ _ _ _ _ _ _ _ _)
   | (with_reducible exact LeO.refl _)
   | (with_reducible exact LeO.none _)
   | (with_reducible refine LeO.ite ?_ ?_)
   | (with_reducible refine LeO.bind ?_ (fun _ => ?_))
   | exact ih0 _ _ _ _ _ _ _ _ _ _ _ _ _
   | exact ih1 _ _ _ _ _ _ _ _ _ _ _ _ _ _ _ _ _
   | exact LeO.none _
   | refine LeO.ite ?_ ?_
   | refine LeO.bind ?_ (fun _ => ?_)
theorem quality_rules_judge.mono : ∀ a0 a1 a2 a3 a4 a5 a6 a7 k, LeO (quality_rules_judge.f k a0 a1 a2 a3 a4 a5 a6 a7) (quality_rules_judge.f (k + 1) a0 a1 a2 a3 a4 a5 a6 a7) := by
 intro a0 a1 a2 a3 a4 a5 a6 a7 k
 obtain ⟨ih0, ih1⟩ := quality_rules_judge.mono_l k
 unfold quality_rules_judge.f
 repeat' first
  | (with_reducible exact ih0 _ _ _ _ _ _ _ _ _ _ _ _ _)
  | (with_reducible exact ih1 _ _ _ _ _ _ _ _ _ _ _ _ _ _ _ _ _)
  | (with_reducible exact LeO.refl _)
  | (with_reducible exact LeO.none _)
  | (with_reducible refine LeO.ite ?_ ?_)
  | (with_reducible refine LeO.bind ?_ (fun _ => ?_))
  | exact ih0 _ _ _ _ _ _ _ _ _ _ _ _ _
  | exact ih1 _ _ _ _ _ _ _ _ _ _ _ _ _ _ _ _ _
  | exact LeO.none _
  | refine LeO.ite ?_ ?_
  | refine LeO.bind ?_ (fun _ => ?_)
set_option maxHeartbeats 8000000 in
set_option maxRecDepth 100000 in
theorem quality_rules_judge.calls (k : Nat) (a0_0 : Int) (a0_1 : Int) (a0_2 : Int) (a0_3 : Int) (a1_0 : Int) (A1_1 : Option Addr) (c1_1 : Nat) (l1_1 : List (S34)) (A1_2 : Option Addr) (c1_2 : Nat) (l1_2 : List Int) (A1_3 : Option Addr) (c1_3 : Nat) (l1_3 : List Int) (r1 : List Int) (r2 : List Int) (w : World) (hr1_1 : Kd.C k34 w A1_1 l1_1.length l1_1) (hc1_1 : l1_1.length ≤ c1_1) (hr1_2 : Kd.C (Kd.int .i64) w A1_2 l1_2.length l1_2) (hc1_2 : l1_2.length ≤ c1_2) (hr1_3 : Kd.C (Kd.int .i64) w A1_3 l1_3.length l1_3) (hc1_3 : l1_3.length ≤ c1_3) (h : quality_rules_judge.f k a0_0 a0_1 a0_2 a0_3 a1_0 l1_1 l1_2 l1_3 = some (r1, r2)) :
 Calls Try.prog 53 #[.agg #[.int .i64 a0_0, .int .i64 a0_1, .int .i64 a0_2, .int .i64 a0_3], .agg #[.int .i64 a1_0, .slice A1_1 l1_1.length c1_1, .slice A1_2 l1_2.length c1_2, .slice A1_3 l1_3.length c1_3]] w fun e w' => ∃ v0_ v1_ : Value, e = .returned (.tuple #[v0_, v1_]) ∧ Kd.R (Kd.int .i64) 3 w' w.heap.size (fun k_ => some k_ ≠ (v1_ : Value).ownBlock) v0_ r1 ∧ Kd.R (Kd.int .i64) 3 w' w.heap.size (fun k_ => some k_ ≠ (v0_ : Value).ownBlock) v1_ r2 ∧ Below w.heap.size w w' := by
 have hu69 := Try.underlying69
 have hu25 := Try.underlying25
 have hu34 := Try.underlying34
 have HR1_1 := Aside0.mk hr1_1
 have HC1_1 := Aside0.mk hc1_1
 clear hr1_1 hc1_1
 have HR1_2 := Aside0.mk hr1_2
 have HC1_2 := Aside0.mk hc1_2
 clear hr1_2 hc1_2
 have HR1_3 := Aside0.mk hr1_3
 have HC1_3 := Aside0.mk hc1_3
 clear hr1_3 hc1_3
 have HB := Aside0.mk (Below.refl w.heap.size w)
 have H : (quality_rules_judge.l0 k ([] : List Int) ([] : List Int) l1_1 (l1_1.length : Int) 0 a0_0 a0_1 a0_2 a0_3 a1_0 l1_1 l1_2 l1_3) = some (r1, r2) := h
 clear h
 have H' := Aside0.mk H
 clear H
 go_enter Try.func53, Try.ntmps53
 go_wp2_with (first | ((with_reducible refine gate_dst (N := 2) rfl ?_); refine boxE 2 #[.int .i64 a0_0, .int .i64 a0_1, .int .i64 a0_2, .int .i64 a0_3] 69 ?_; intro gb157 hg w3 hbox hb; have BK157 := Aside0.mk (hbox); have GW157 := gw hg HB; have GE157 := gw hg HB; replace HB := hbS HB hb; clear hb hbox hg) | ((with_reducible refine gate_dst (N := 3) rfl ?_); refine boxE 3 #[.int .i64 a1_0, .slice A1_1 l1_1.length c1_1, .slice A1_2 l1_2.length c1_2, .slice A1_3 l1_3.length c1_3] 25 ?_; intro gb158 hg w4 hbox hb; have BK158 := Aside0.mk (hbox); have GW158 := gw hg HB; have GE158 := gw hg HB; replace HB := hbS HB hb; have NB157_158 := nbl hg BK157; have NB158_157 := nbg hg BK157; replace BK157 := bkB BK157 hb; clear hb hbox hg; have hnb5 := NB158_157.out; have hnc5 := NB157_158.out; obtain ⟨z0, z1, z2, z3, y0, y1, y2, y3⟩ := bc4 BK158))
 go_loopg [4, 5, 11] k (fun kq v4 v5 v11 w' => ∃ (x4_1 : List Int) (x5_1 : List Int) (x11_1 : Int), v11 = .int .i64 x11_1 ∧ Aside0 (quality_rules_judge.l0 kq x4_1 x5_1 l1_1 (l1_1.length : Int) x11_1 a0_0 a0_1 a0_2 a0_3 a1_0 l1_1 l1_2 l1_3 = some (r1, r2)) ∧ Aside0 (kq ≤ k) ∧ Aside0 (Kd.R (Kd.int .i64) 3 w' w.heap.size (fun k_ => some k_ ≠ (v5 : Value).ownBlock) v4 x4_1) ∧ Aside0 (Kd.R (Kd.int .i64) 3 w' w.heap.size (fun k_ => some k_ ≠ (v4 : Value).ownBlock) v5 x5_1) ∧ Aside0 (w'.heap[gb157]? = some (.cells #[.int .i64 a0_0, .int .i64 a0_1, .int .i64 a0_2, .int .i64 a0_3] 69 (0, 0))) ∧ Aside0 (w'.heap[gb158]? = some (.cells #[.int .i64 a1_0, (.slice A1_1 l1_1.length c1_1), (.slice A1_2 l1_2.length c1_2), (.slice A1_3 l1_3.length c1_3)] 25 (0, 0))) ∧ Aside0 (Below w.heap.size w w'))
 case atStart => exact ⟨(([] : List Int)), (([] : List Int)), (0), rfs, H', ⟨Nat.le_refl _⟩, ⟨rnil⟩, ⟨rnil⟩, bkA BK157, bkA BK158, hbA HB⟩
 case round =>
  clear H'
  try clear c1
  try clear hcz6_0
  try clear hcz6_1
  try clear hcz6_2
  try clear hcz6_3
  try clear hfz6_0
  try clear hfz6_1
  try clear hfz6_2
  try clear hfz6_3
  obtain ⟨x4_1, x5_1, x11_1, rfl, HA, HK1, HO_4, HO_5, BK157, BK158, HB⟩ := hrel
  cases gk with
  | zero => exact absurd HA.out (by simp [quality_rules_judge.l0])
  | succ k1 =>
   have H := HA.out
   clear HA
   simp only [quality_rules_judge.l0] at H
   by_cases c7 : x11_1 < (l1_1.length : Int)
   ·rw [if_pos c7] at H
    have c7b0 : decide (x11_1 < (l1_1.length : Int)) = true := decide_eq_true c7
    clear c7
    by_cases c8 : 0 ≤ x11_1
    ·rw [if_pos c8] at H
     have c8b0 : decide (0 ≤ x11_1) = true := decide_eq_true c8
     clear c8
     by_cases c9 : x11_1 < (l1_1.length : Int)
     ·rw [if_pos c9] at H
      have c9b0 : decide (x11_1 < (l1_1.length : Int)) = true := decide_eq_true c9
      clear c9
      have HC10 := Aside0.mk H
      clear H
      have p162 : 0 ≤ (x11_1 : Int) := pos_
      have q162 : x11_1 < (l1_1.length : Int) := pos_
      obtain ⟨ad162, e162, hx162_0, hx162_1⟩ := at_T34 HR1_1.out x11_1 p162 q162
      cases e162
      replace hx162_0 := (HB.out.cell (World.block_lt_of_cell? w _ hx162_0)).trans hx162_0
      replace hx162_1 := (HB.out.cell (World.block_lt_of_cell? w _ hx162_1)).trans hx162_1
      replace p162 := eq_true p162
      replace q162 := eq_true q162
      go_upto_region 4 with (first | ((with_reducible refine gate_dst (N := 7) rfl ?_); refine boxE 7 #[.int .i64 0, .int .i64 0] 34 ?_; intro gb163 hg w11 hbox hb; replace HO_4 := rB HO_4 hb; replace HO_5 := rB HO_5 hb; have BK163 := Aside0.mk (hbox); have GW163 := gw hg HB; have GE163 := gw hg HB; replace HB := hbS HB hb; have NB157_163 := nbl hg BK157; have NB163_157 := nbg hg BK157; replace BK157 := bkB BK157 hb; have NB158_163 := nbl hg BK158; have NB163_158 := nbg hg BK158; replace BK158 := bkB BK158 hb; clear hb hbox hg; have hnb12 := NB163_157.out; have hnc12 := NB157_163.out; have hnb13 := NB163_158.out; have hnc13 := NB158_163.out; obtain ⟨z0, z1, y0, y1⟩ := bc2 BK163))
      (try simp only [Act.put, List.setIfInBounds_toArray, List.set_cons_zero, List.set_cons_succ])
      go_cut [16] (fun v16 wc => ∃ (kq : Nat) (x16_9 : Bool), v16 = .bool x16_9 ∧ Aside0 (quality_rules_judge.j1 kq x4_1 x5_1 x11_1 l1_1 (l1_1.length : Int) x11_1 x16_9 a0_0 a0_1 a0_2 a0_3 a1_0 l1_1 l1_2 l1_3 ((rd_T34 l1_1 x11_1).f0) ((rd_T34 l1_1 x11_1).f1) = some (r1, r2)) ∧ Aside0 (kq ≤ k1) ∧ Aside0 (Kd.R (Kd.int .i64) 3 wc w.heap.size (fun k_ => some k_ ≠ (u5 : Value).ownBlock) u4 x4_1) ∧ Aside0 (Kd.R (Kd.int .i64) 3 wc w.heap.size (fun k_ => some k_ ≠ (u4 : Value).ownBlock) u5 x5_1) ∧ Aside0 (wc.heap[gb157]? = some (.cells #[.int .i64 a0_0, .int .i64 a0_1, .int .i64 a0_2, .int .i64 a0_3] 69 (0, 0))) ∧ Aside0 (wc.heap[gb158]? = some (.cells #[.int .i64 a1_0, (.slice (some ad162) l1_1.length c1_1), (.slice A1_2 l1_2.length c1_2), (.slice A1_3 l1_3.length c1_3)] 25 (0, 0))) ∧ Aside0 (wc.heap[gb163]? = some (.cells #[.int .i64 ((rd_T34 l1_1 x11_1).f0), .int .i64 ((rd_T34 l1_1 x11_1).f1)] 34 (0, 0))) ∧ Aside0 (Below w.heap.size w wc))
      case first =>
       have H := HC10.out
       clear HC10
       by_cases c15 : x11_1 < (l1_2.length : Int)
       ·rw [if_pos c15] at H
        have c15b0 : decide (x11_1 < (l1_2.length : Int)) = true := decide_eq_true c15
        clear c15
        (first | rw [c15b0] | (simp only [i64_w, i32_w]; rw [c15b0]) | skip)
        by_cases c16 : (rd l1_2 x11_1) = 0
        ·rw [if_pos c16] at H
         have c16b0 : ((rd l1_2 x11_1) == 0) = true := beq_iff_eq.mpr c16
         have c16b1 : ((rd l1_2 x11_1) != 0) = false := bne_eq_false_iff_eq.mpr c16
         clear c16
         have H' := Aside0.mk H
         clear H
         have hnb17 := NB158_157.out
         have hnc17 := NB157_158.out
         have hnb18 := NB158_163.out
         have hnc18 := NB163_158.out
         obtain ⟨z0, z1, z2, z3, y0, y1, y2, y3⟩ := bc4 BK158
         have p164 : 0 ≤ (x11_1 : Int) := pos_
         have q164 : x11_1 < (l1_2.length : Int) := pos_
         obtain ⟨ad164, e164, hx164_0⟩ := Kd.at_int HR1_2.out x11_1 p164 q164
         cases e164
         have hn164_0 : ad164.block ≠ gb163 := Nat.ne_of_lt (Nat.lt_of_lt_of_le (by have := World.block_lt_of_cell? _ _ hx164_0; first | rwa [add_block] at this | exact this) GW163.out)
         have hn164_1 : ad164.block ≠ gb163 := Nat.ne_of_lt (Nat.lt_of_lt_of_le (by have := World.block_lt_of_cell? _ _ hx164_0; first | rwa [add_block] at this | exact this) GW163.out)
         replace hx164_0 := (HB.out.cell (World.block_lt_of_cell? w _ hx164_0)).trans hx164_0
         replace hx164_0 := (cell_far (p := ⟨gb163, 0, none⟩) (by first | (rw [add_block]; exact hn164_0) | (show (Addr.add _ _).block ≠ _; rw [add_block]; exact hn164_0) | exact hn164_0) (.int .i64 ((rd_T34 l1_1 x11_1).f0))).trans hx164_0
         replace hx164_0 := (cell_far (p := ⟨gb163, 1, none⟩) (by first | (rw [add_block]; exact hn164_1) | (show (Addr.add _ _).block ≠ _; rw [add_block]; exact hn164_1) | exact hn164_1) (.int .i64 ((rd_T34 l1_1 x11_1).f1))).trans hx164_0
         clear hn164_0
         clear hn164_1
         replace p164 := eq_true p164
         replace q164 := eq_true q164
         have hnb20 := NB163_157.out
         have hnc20 := NB157_163.out
         obtain ⟨z0, z1, y0, y1⟩ := bc2 BK163
         obtain ⟨z0, z1, z2, z3, y0, y1, y2, y3⟩ := bc4 BK157
         go_wp2
         go_meet
         case rel => exact ⟨_, (decide (((rd_T34 l1_1 x11_1).f0) < a0_0)), rfs, H', ⟨by have := HK1.out; first | omega | exact Nat.le_refl _⟩, rfA HO_4, rfA HO_5, bkfA BK157, bkfA BK158, bkpA BK163, hbA HB⟩
        ·rw [if_neg c16] at H
         have c16b0 : ((rd l1_2 x11_1) == 0) = false := beq_eq_false_iff_ne.mpr c16
         have c16b1 : ((rd l1_2 x11_1) != 0) = true := bne_iff_ne.mpr c16
         have H' := Aside0.mk H
         clear H
         have hnb23 := NB158_157.out
         have hnc23 := NB157_158.out
         have hnb24 := NB158_163.out
         have hnc24 := NB163_158.out
         obtain ⟨z0, z1, z2, z3, y0, y1, y2, y3⟩ := bc4 BK158
         have p164 : 0 ≤ (x11_1 : Int) := pos_
         have q164 : x11_1 < (l1_2.length : Int) := pos_
         obtain ⟨ad164, e164, hx164_0⟩ := Kd.at_int HR1_2.out x11_1 p164 q164
         cases e164
         have hn164_0 : ad164.block ≠ gb163 := Nat.ne_of_lt (Nat.lt_of_lt_of_le (by have := World.block_lt_of_cell? _ _ hx164_0; first | rwa [add_block] at this | exact this) GW163.out)
         have hn164_1 : ad164.block ≠ gb163 := Nat.ne_of_lt (Nat.lt_of_lt_of_le (by have := World.block_lt_of_cell? _ _ hx164_0; first | rwa [add_block] at this | exact this) GW163.out)
         replace hx164_0 := (HB.out.cell (World.block_lt_of_cell? w _ hx164_0)).trans hx164_0
         replace hx164_0 := (cell_far (p := ⟨gb163, 0, none⟩) (by first | (rw [add_block]; exact hn164_0) | (show (Addr.add _ _).block ≠ _; rw [add_block]; exact hn164_0) | exact hn164_0) (.int .i64 ((rd_T34 l1_1 x11_1).f0))).trans hx164_0
         replace hx164_0 := (cell_far (p := ⟨gb163, 1, none⟩) (by first | (rw [add_block]; exact hn164_1) | (show (Addr.add _ _).block ≠ _; rw [add_block]; exact hn164_1) | exact hn164_1) (.int .i64 ((rd_T34 l1_1 x11_1).f1))).trans hx164_0
         clear hn164_0
         clear hn164_1
         replace p164 := eq_true p164
         replace q164 := eq_true q164
         go_wp2
         go_meet
         case rel => exact ⟨_, (true), rfs, H', ⟨by have := HK1.out; first | omega | exact Nat.le_refl _⟩, rfA HO_4, rfA HO_5, bkfA BK157, bkfA BK158, bkpA BK163, hbA HB⟩
       ·rw [if_neg c15] at H
        exact absurd H (by simp)
      case rest =>
       clear HC10
       try clear c1
       try clear hx1
       try clear c7
       try clear c7b0
       try clear c8
       try clear c8b0
       try clear c9
       try clear c9b0
       try clear hcz14_0
       try clear hcz14_1
       try clear hcz6_0
       try clear hcz6_1
       try clear hcz6_2
       try clear hcz6_3
       try clear hfz14_0
       try clear hfz14_1
       try clear hfz6_0
       try clear hfz6_1
       try clear hfz6_2
       try clear hfz6_3
       try clear hx162_0
       try clear hx162_1
       try clear p162
       try clear q162
       obtain ⟨kq, x16_9, rfl, HA, HJ9, HO_4, HO_5, BK157, BK158, BK163, HB⟩ := hcut
       cases kq with
       | zero => exact absurd HA.out (by simp [quality_rules_judge.j1])
       | succ kj9 =>
        have H := HA.out
        clear HA
        simp only [quality_rules_judge.j1] at H
        by_cases c26 : x16_9 = true
        ·subst c26
         rw [if_pos rfl] at H
         have H' := Aside0.mk H
         clear H
         go_wp2
         go_roundg kj9
         case measure => have := HK1.out; have := HJ9.out; omega
         case rel => exact ⟨(x4_1), (x5_1), (wrap64 (x11_1 + 1)), rfs, H', ⟨by have := HK1.out; have := HJ9.out; omega⟩, roA HO_4, roA HO_5, bkA BK157, bkA BK158, hbA HB⟩
        ·replace c26 := Bool.eq_false_iff.mpr c26
         subst c26
         rw [if_neg (show ¬ (false = true) by decide)] at H
         replace H := Option.bind_eq_some_iff.mp H
         obtain ⟨t165, A270, H⟩ := H
         (try dsimp only at H)
         have A27 := Aside0.mk A270
         clear A270
         by_cases c28 : t165 < a0_1
         ·rw [if_pos c28] at H
          have c28b0 : decide (t165 < a0_1) = true := decide_eq_true c28
          clear c28
          by_cases c29 : x4_1.length < 17592186044416
          ·rw [if_pos c29] at H
           have LMc29 := Aside0.mk c29
           clear c29
           obtain ⟨y166, hy166⟩ : ∃ y_ : List Int, y_ = (x4_1 ++ [x11_1]) := ⟨_, rfl⟩
           replace H : (quality_rules_judge.l0 kj9 y166 x5_1 l1_1 (l1_1.length : Int) (wrap64 (x11_1 + 1)) a0_0 a0_1 a0_2 a0_3 a1_0 l1_1 l1_2 l1_3) = some (r1, r2) := by first | (rw [hy166]; with_reducible exact H) | (have H2_ := (Option.bind_some _ _).symm.trans H; rw [hy166]; with_reducible exact H2_) | (have H2_ := (Option.bind_some _ _).symm.trans H; with_reducible exact H2_) | with_reducible exact H | (rw [hy166]; exact H) | exact H
           have Ny166 := Aside0.mk hy166
           clear hy166
           have H' := Aside0.mk H
           clear H
           try go_wp2
           replace HO_4 := Aside0.mk (Kd.R_drew HO_4.out)
           replace HO_5 := Aside0.mk (Kd.R_drew HO_5.out)
           replace BK157 := Aside0.mk (blk_drew BK157.out)
           replace BK158 := Aside0.mk (blk_drew BK158.out)
           replace BK163 := Aside0.mk (blk_drew BK163.out)
           replace HB := Aside0.mk (below_drew1 HB.out)
           refine start_ (n := 6) (S := fun w' => w'.cell? ⟨gb163, 0, none⟩ = some (.int .i64 ((rd_T34 l1_1 x11_1).f0)) ∧ w'.cell? ⟨gb163, 1, none⟩ = some (.int .i64 ((rd_T34 l1_1 x11_1).f1)) ∧ w'.cell? ⟨gb157, 0, none⟩ = some (.int .i64 a0_0) ∧ w'.cell? ⟨gb157, 1, none⟩ = some (.int .i64 a0_1) ∧ w'.cell? ⟨gb157, 2, none⟩ = some (.int .i64 a0_2) ∧ w'.cell? ⟨gb157, 3, none⟩ = some (.int .i64 a0_3)) (ds := []) #[false, false, false, false, false, false] (by kernel_rfl) rfl rfl ⟨(blk_cell BK163.out 0).trans rfl, (blk_cell BK163.out 1).trans rfl, (blk_cell BK157.out 0).trans rfl, (blk_cell BK157.out 1).trans rfl, (blk_cell BK157.out 2).trans rfl, (blk_cell BK157.out 3).trans rfl⟩ (fun hHeld => ?_)
           generalize wc.drew = w30 at HO_4 HO_5 BK157 BK158 BK163 HB hHeld ⊢
           refine pure_ (i := 2) (N := some 33) (v := ?_) (a' := ?_) #[false, false, true, false, false, false] rfl rfl (by kernel_rfl) (fun _ _ _ h => h) (Or.inl ⟨by rfl, ?_⟩) ?_ ?_
           rotate_left
           ·intro w'
            go_simp
            with_reducible rfl
           rotate_left
           ·simp only [Act.put, List.setIfInBounds_toArray, List.set_cons_zero, List.set_cons_succ, i64_w, i32_w]
            rfl
           refine take_ (i := 0) (N := some 31) (v := ?_) (a' := ?_) #[true, false, true, false, false, false] rfl rfl (by kernel_rfl) (fun _ _ _ h => h) (Or.inl ⟨by rfl, ?_⟩) hHeld ?_ ?_
           rotate_left
           ·rintro w' ⟨s0, s1, s2, s3, s4, s5⟩
            go_simp
            with_reducible rfl
           rotate_left
           ·simp only [Act.put, List.setIfInBounds_toArray, List.set_cons_zero, List.set_cons_succ, i64_w, i32_w]
            rfl
           refine take_ (i := 3) (N := some 34) (v := ?_) (a' := ?_) #[true, false, true, true, false, false] rfl rfl (by kernel_rfl) (fun _ _ _ h => h) (Or.inl ⟨by rfl, ?_⟩) hHeld ?_ ?_
           rotate_left
           ·rintro w' ⟨s0, s1, s2, s3, s4, s5⟩
            go_simp
            with_reducible rfl
           rotate_left
           ·simp only [Act.put, List.setIfInBounds_toArray, List.set_cons_zero, List.set_cons_succ, i64_w, i32_w]
            rfl
           refine one_ (i := 1) (N := some 32) #[true, true, true, true, false, false] rfl rfl (by kernel_rfl) (by decide) (fun K hK => ?_)
           refine goes_ Try.func43 (by kernel_rfl) rfl #[.agg #[.int .i64 ((rd_T34 l1_1 x11_1).f0), .int .i64 ((rd_T34 l1_1 x11_1).f1)]] (by rfl) rfl rfl sma ?_
           with_reducible refine (quality_rate.calls ((rd_T34 l1_1 x11_1).f0) ((rd_T34 l1_1 x11_1).f1) t165 _ A27.out).mono ?_
           rintro e w31 ⟨rfl, hb⟩
           refine ⟨_, rfl, ?_⟩
           replace HO_4 := rB HO_4 hb
           replace HO_5 := rB HO_5 hb
           replace BK157 := bkB BK157 hb
           replace BK158 := bkB BK158 hb
           replace BK163 := bkB BK163 hb
           replace HB := hbS HB hb
           (try clear hb)
           (try clear hk)
           refine hK.out _ _ ⟨(blk_cell BK163.out 0).trans rfl, (blk_cell BK163.out 1).trans rfl, (blk_cell BK157.out 0).trans rfl, (blk_cell BK157.out 1).trans rfl, (blk_cell BK157.out 2).trans rfl, (blk_cell BK157.out 3).trans rfl⟩ (fun hHeld => ?_)
           clear hK K
           refine nrm (some 32) ?_
           refine pure_ (i := 4) (N := some 35) (v := ?_) (a' := ?_) #[true, true, true, true, true, false] rfl rfl (by kernel_rfl) (fun _ _ _ h => h) (Or.inl ⟨by rfl, ?_⟩) ?_ ?_
           rotate_left
           ·intro w'
            go_simp
            with_reducible rfl
           rotate_left
           ·simp only [Act.put, List.setIfInBounds_toArray, List.set_cons_zero, List.set_cons_succ, i64_w, i32_w]
            rfl
           refine pure_ (i := 5) (N := some 30) (v := ?_) (a' := ?_) #[true, true, true, true, true, true] rfl rfl (by kernel_rfl) (fun _ _ _ h => h) (Or.inl ⟨by rfl, ?_⟩) ?_ ?_
           rotate_left
           ·intro w'
            go_simp
            with_reducible rfl
           rotate_left
           ·simp only [Act.put, List.setIfInBounds_toArray, List.set_cons_zero, List.set_cons_succ, i64_w, i32_w]
            rfl
           refine done_ (by kernel_rfl) ?_
           try go_wp2_with (first | ((with_reducible refine gate_builtin (b := .append) (xs := #[.tmp 36, .tmp 38]) rfl ?_); at_builtin; refine Kd.R_append (Kd.int .i64) (w0 := w) w.heap.size rfl (.tmp 36) (.tmp 38) 23 3 (.int .i64 0) 8 rfl Try.underlying23 info3 rfl (by decide) (by omega) u4 x4_1 x11_1 [.int .i64 x11_1] (fun k_ => some k_ ≠ (u5 : Value).ownBlock) (fun _ => False) rfl rfl ?aP (fun _ hk => hk.elim) ?aF ?aO ?aB ?aS ?aL ?_; (case aP => exact rfl); (case aB => exact (hbx HB)); (case aF => exact (fun k_ hk => Kd.fresh' (Kd.R_lt (ro HO_5)) k_ hk)); (case aO => exact (ro HO_4)); (case aS => exact (below_size (hbx HB))); (case aL => have := LMc29.out; omega); intro v167 w32 ho hb hg hat; rw [← Ny166.out] at ho; replace HO_5 := Aside0.mk (Kd.R_after (ok := (fun _ => True)) (by (with_reducible repeat (first | apply Kd.R_alloc | apply Kd.R_drewN | apply Kd.R_drew)); exact Kd.R_mono HO_5.out (fun _ hk => ⟨trivial, hk⟩)) hg hat); replace BK157 := Aside0.mk (blk_grown (bk BK157) hg (Kd.R_ne HO_4.out BK157.out (by decide))); replace BK158 := Aside0.mk (blk_grown (bk BK158) hg (Kd.R_ne HO_4.out BK158.out (by decide))); replace BK163 := Aside0.mk (blk_grown (bk BK163) hg (Kd.R_ne HO_4.out BK163.out (by decide))); replace HB := Aside0.mk (hb); have HO168 := Aside0.mk (ho); clear HO_4; clear ho hb hg hat))
           go_roundg kj9
           case measure => have := HK1.out; have := HJ9.out; omega
           case rel => exact ⟨(y166), (x5_1), (wrap64 (x11_1 + 1)), rfs, H', ⟨by have := HK1.out; have := HJ9.out; omega⟩, roA HO168, ⟨by (with_reducible repeat (first | apply Kd.R_alloc | apply Kd.R_drewN | apply Kd.R_drew)); exact Kd.R_mono HO_5.out (fun _ hk => hk.2)⟩, bkA BK157, bkA BK158, hbA HB⟩
          ·rw [if_neg c29] at H
           exact absurd H (by simp)
         ·rw [if_neg c28] at H
          have c28b0 : decide (t165 < a0_1) = false := decide_eq_false c28
          clear c28
          replace H := Option.bind_eq_some_iff.mp H
          obtain ⟨t169, A330, H⟩ := H
          (try dsimp only at H)
          have A33 := Aside0.mk A330
          clear A330
          by_cases c34 : t169 ≥ a0_2
          ·rw [if_pos c34] at H
           have c34b0 : decide (a0_2 ≤ t169) = true := decide_eq_true c34
           clear c34
           by_cases c35 : x5_1.length < 17592186044416
           ·rw [if_pos c35] at H
            have LMc35 := Aside0.mk c35
            clear c35
            obtain ⟨y170, hy170⟩ : ∃ y_ : List Int, y_ = (x5_1 ++ [x11_1]) := ⟨_, rfl⟩
            replace H : (quality_rules_judge.l0 kj9 x4_1 y170 l1_1 (l1_1.length : Int) (wrap64 (x11_1 + 1)) a0_0 a0_1 a0_2 a0_3 a1_0 l1_1 l1_2 l1_3) = some (r1, r2) := by first | (rw [hy170]; with_reducible exact H) | (have H2_ := (Option.bind_some _ _).symm.trans H; rw [hy170]; with_reducible exact H2_) | (have H2_ := (Option.bind_some _ _).symm.trans H; with_reducible exact H2_) | with_reducible exact H | (rw [hy170]; exact H) | exact H
            have Ny170 := Aside0.mk hy170
            clear hy170
            have H' := Aside0.mk H
            clear H
            try go_wp2
            replace HO_4 := Aside0.mk (Kd.R_drew HO_4.out)
            replace HO_5 := Aside0.mk (Kd.R_drew HO_5.out)
            replace BK157 := Aside0.mk (blk_drew BK157.out)
            replace BK158 := Aside0.mk (blk_drew BK158.out)
            replace BK163 := Aside0.mk (blk_drew BK163.out)
            replace HB := Aside0.mk (below_drew1 HB.out)
            refine start_ (n := 6) (S := fun w' => w'.cell? ⟨gb163, 0, none⟩ = some (.int .i64 ((rd_T34 l1_1 x11_1).f0)) ∧ w'.cell? ⟨gb163, 1, none⟩ = some (.int .i64 ((rd_T34 l1_1 x11_1).f1)) ∧ w'.cell? ⟨gb157, 0, none⟩ = some (.int .i64 a0_0) ∧ w'.cell? ⟨gb157, 1, none⟩ = some (.int .i64 a0_1) ∧ w'.cell? ⟨gb157, 2, none⟩ = some (.int .i64 a0_2) ∧ w'.cell? ⟨gb157, 3, none⟩ = some (.int .i64 a0_3)) (ds := []) #[false, false, false, false, false, false] (by kernel_rfl) rfl rfl ⟨(blk_cell BK163.out 0).trans rfl, (blk_cell BK163.out 1).trans rfl, (blk_cell BK157.out 0).trans rfl, (blk_cell BK157.out 1).trans rfl, (blk_cell BK157.out 2).trans rfl, (blk_cell BK157.out 3).trans rfl⟩ (fun hHeld => ?_)
            generalize wc.drew = w36 at HO_4 HO_5 BK157 BK158 BK163 HB hHeld ⊢
            refine pure_ (i := 2) (N := some 33) (v := ?_) (a' := ?_) #[false, false, true, false, false, false] rfl rfl (by kernel_rfl) (fun _ _ _ h => h) (Or.inl ⟨by rfl, ?_⟩) ?_ ?_
            rotate_left
            ·intro w'
             go_simp
             with_reducible rfl
            rotate_left
            ·simp only [Act.put, List.setIfInBounds_toArray, List.set_cons_zero, List.set_cons_succ, i64_w, i32_w]
             rfl
            refine take_ (i := 0) (N := some 31) (v := ?_) (a' := ?_) #[true, false, true, false, false, false] rfl rfl (by kernel_rfl) (fun _ _ _ h => h) (Or.inl ⟨by rfl, ?_⟩) hHeld ?_ ?_
            rotate_left
            ·rintro w' ⟨s0, s1, s2, s3, s4, s5⟩
             go_simp
             with_reducible rfl
            rotate_left
            ·simp only [Act.put, List.setIfInBounds_toArray, List.set_cons_zero, List.set_cons_succ, i64_w, i32_w]
             rfl
            refine take_ (i := 3) (N := some 34) (v := ?_) (a' := ?_) #[true, false, true, true, false, false] rfl rfl (by kernel_rfl) (fun _ _ _ h => h) (Or.inl ⟨by rfl, ?_⟩) hHeld ?_ ?_
            rotate_left
            ·rintro w' ⟨s0, s1, s2, s3, s4, s5⟩
             go_simp
             with_reducible rfl
            rotate_left
            ·simp only [Act.put, List.setIfInBounds_toArray, List.set_cons_zero, List.set_cons_succ, i64_w, i32_w]
             rfl
            refine one_ (i := 1) (N := some 32) #[true, true, true, true, false, false] rfl rfl (by kernel_rfl) (by decide) (fun K hK => ?_)
            refine goes_ Try.func43 (by kernel_rfl) rfl #[.agg #[.int .i64 ((rd_T34 l1_1 x11_1).f0), .int .i64 ((rd_T34 l1_1 x11_1).f1)]] (by rfl) rfl rfl sma ?_
            with_reducible refine (quality_rate.calls ((rd_T34 l1_1 x11_1).f0) ((rd_T34 l1_1 x11_1).f1) t165 _ A27.out).mono ?_
            rintro e w37 ⟨rfl, hb⟩
            refine ⟨_, rfl, ?_⟩
            replace HO_4 := rB HO_4 hb
            replace HO_5 := rB HO_5 hb
            replace BK157 := bkB BK157 hb
            replace BK158 := bkB BK158 hb
            replace BK163 := bkB BK163 hb
            replace HB := hbS HB hb
            (try clear hb)
            (try clear hk)
            refine hK.out _ _ ⟨(blk_cell BK163.out 0).trans rfl, (blk_cell BK163.out 1).trans rfl, (blk_cell BK157.out 0).trans rfl, (blk_cell BK157.out 1).trans rfl, (blk_cell BK157.out 2).trans rfl, (blk_cell BK157.out 3).trans rfl⟩ (fun hHeld => ?_)
            clear hK K
            refine nrm (some 32) ?_
            refine pure_ (i := 4) (N := some 35) (v := ?_) (a' := ?_) #[true, true, true, true, true, false] rfl rfl (by kernel_rfl) (fun _ _ _ h => h) (Or.inl ⟨by rfl, ?_⟩) ?_ ?_
            rotate_left
            ·intro w'
             go_simp
             with_reducible rfl
            rotate_left
            ·simp only [Act.put, List.setIfInBounds_toArray, List.set_cons_zero, List.set_cons_succ, i64_w, i32_w]
             rfl
            refine pure_ (i := 5) (N := some 30) (v := ?_) (a' := ?_) #[true, true, true, true, true, true] rfl rfl (by kernel_rfl) (fun _ _ _ h => h) (Or.inl ⟨by rfl, ?_⟩) ?_ ?_
            rotate_left
            ·intro w'
             go_simp
             with_reducible rfl
            rotate_left
            ·simp only [Act.put, List.setIfInBounds_toArray, List.set_cons_zero, List.set_cons_succ, i64_w, i32_w]
             rfl
            refine done_ (by kernel_rfl) ?_
            try go_wp2
            replace HO_4 := Aside0.mk (Kd.R_drew HO_4.out)
            replace HO_5 := Aside0.mk (Kd.R_drew HO_5.out)
            replace BK157 := Aside0.mk (blk_drew BK157.out)
            replace BK158 := Aside0.mk (blk_drew BK158.out)
            replace BK163 := Aside0.mk (blk_drew BK163.out)
            replace HB := Aside0.mk (below_drew1 HB.out)
            refine start_ (n := 6) (S := fun w' => w'.cell? ⟨gb163, 0, none⟩ = some (.int .i64 ((rd_T34 l1_1 x11_1).f0)) ∧ w'.cell? ⟨gb163, 1, none⟩ = some (.int .i64 ((rd_T34 l1_1 x11_1).f1)) ∧ w'.cell? ⟨gb157, 0, none⟩ = some (.int .i64 a0_0) ∧ w'.cell? ⟨gb157, 1, none⟩ = some (.int .i64 a0_1) ∧ w'.cell? ⟨gb157, 2, none⟩ = some (.int .i64 a0_2) ∧ w'.cell? ⟨gb157, 3, none⟩ = some (.int .i64 a0_3)) (ds := []) #[false, false, false, false, false, false] (by kernel_rfl) rfl rfl ⟨(blk_cell BK163.out 0).trans rfl, (blk_cell BK163.out 1).trans rfl, (blk_cell BK157.out 0).trans rfl, (blk_cell BK157.out 1).trans rfl, (blk_cell BK157.out 2).trans rfl, (blk_cell BK157.out 3).trans rfl⟩ (fun hHeld => ?_)
            generalize w37.drew = w38 at HO_4 HO_5 BK157 BK158 BK163 HB hHeld ⊢
            refine pure_ (i := 2) (N := some 43) (v := ?_) (a' := ?_) #[false, false, true, false, false, false] rfl rfl (by kernel_rfl) (fun _ _ _ h => h) (Or.inl ⟨by rfl, ?_⟩) ?_ ?_
            rotate_left
            ·intro w'
             go_simp
             with_reducible rfl
            rotate_left
            ·simp only [Act.put, List.setIfInBounds_toArray, List.set_cons_zero, List.set_cons_succ, i64_w, i32_w]
             rfl
            refine take_ (i := 0) (N := some 41) (v := ?_) (a' := ?_) #[true, false, true, false, false, false] rfl rfl (by kernel_rfl) (fun _ _ _ h => h) (Or.inl ⟨by rfl, ?_⟩) hHeld ?_ ?_
            rotate_left
            ·rintro w' ⟨s0, s1, s2, s3, s4, s5⟩
             go_simp
             with_reducible rfl
            rotate_left
            ·simp only [Act.put, List.setIfInBounds_toArray, List.set_cons_zero, List.set_cons_succ, i64_w, i32_w]
             rfl
            refine take_ (i := 3) (N := some 44) (v := ?_) (a' := ?_) #[true, false, true, true, false, false] rfl rfl (by kernel_rfl) (fun _ _ _ h => h) (Or.inl ⟨by rfl, ?_⟩) hHeld ?_ ?_
            rotate_left
            ·rintro w' ⟨s0, s1, s2, s3, s4, s5⟩
             go_simp
             with_reducible rfl
            rotate_left
            ·simp only [Act.put, List.setIfInBounds_toArray, List.set_cons_zero, List.set_cons_succ, i64_w, i32_w]
             rfl
            refine one_ (i := 1) (N := some 42) #[true, true, true, true, false, false] rfl rfl (by kernel_rfl) (by decide) (fun K hK => ?_)
            refine goes_ Try.func43 (by kernel_rfl) rfl #[.agg #[.int .i64 ((rd_T34 l1_1 x11_1).f0), .int .i64 ((rd_T34 l1_1 x11_1).f1)]] (by rfl) rfl rfl sma ?_
            with_reducible refine (quality_rate.calls ((rd_T34 l1_1 x11_1).f0) ((rd_T34 l1_1 x11_1).f1) t169 _ A33.out).mono ?_
            rintro e w39 ⟨rfl, hb⟩
            refine ⟨_, rfl, ?_⟩
            replace HO_4 := rB HO_4 hb
            replace HO_5 := rB HO_5 hb
            replace BK157 := bkB BK157 hb
            replace BK158 := bkB BK158 hb
            replace BK163 := bkB BK163 hb
            replace HB := hbS HB hb
            (try clear hb)
            (try clear hk)
            refine hK.out _ _ ⟨(blk_cell BK163.out 0).trans rfl, (blk_cell BK163.out 1).trans rfl, (blk_cell BK157.out 0).trans rfl, (blk_cell BK157.out 1).trans rfl, (blk_cell BK157.out 2).trans rfl, (blk_cell BK157.out 3).trans rfl⟩ (fun hHeld => ?_)
            clear hK K
            refine nrm (some 42) ?_
            refine pure_ (i := 4) (N := some 45) (v := ?_) (a' := ?_) #[true, true, true, true, true, false] rfl rfl (by kernel_rfl) (fun _ _ _ h => h) (Or.inl ⟨by rfl, ?_⟩) ?_ ?_
            rotate_left
            ·intro w'
             go_simp
             with_reducible rfl
            rotate_left
            ·simp only [Act.put, List.setIfInBounds_toArray, List.set_cons_zero, List.set_cons_succ, i64_w, i32_w]
             rfl
            refine pure_ (i := 5) (N := some 40) (v := ?_) (a' := ?_) #[true, true, true, true, true, true] rfl rfl (by kernel_rfl) (fun _ _ _ h => h) (Or.inl ⟨by rfl, ?_⟩) ?_ ?_
            rotate_left
            ·intro w'
             go_simp
             with_reducible rfl
            rotate_left
            ·simp only [Act.put, List.setIfInBounds_toArray, List.set_cons_zero, List.set_cons_succ, i64_w, i32_w]
             rfl
            refine done_ (by kernel_rfl) ?_
            try go_wp2_with (first | ((with_reducible refine gate_builtin (b := .append) (xs := #[.tmp 46, .tmp 48]) rfl ?_); at_builtin; refine Kd.R_append (Kd.int .i64) (w0 := w) w.heap.size rfl (.tmp 46) (.tmp 48) 23 3 (.int .i64 0) 8 rfl Try.underlying23 info3 rfl (by decide) (by omega) u5 x5_1 x11_1 [.int .i64 x11_1] (fun k_ => some k_ ≠ (u4 : Value).ownBlock) (fun _ => False) rfl rfl ?aP (fun _ hk => hk.elim) ?aF ?aO ?aB ?aS ?aL ?_; (case aP => exact rfl); (case aB => exact (hbx HB)); (case aF => exact (fun k_ hk => Kd.fresh' (Kd.R_lt (ro HO_4)) k_ hk)); (case aO => exact (ro HO_5)); (case aS => exact (below_size (hbx HB))); (case aL => have := LMc35.out; omega); intro v171 w40 ho hb hg hat; rw [← Ny170.out] at ho; replace HO_4 := Aside0.mk (Kd.R_after (ok := (fun _ => True)) (by (with_reducible repeat (first | apply Kd.R_alloc | apply Kd.R_drewN | apply Kd.R_drew)); exact Kd.R_mono HO_4.out (fun _ hk => ⟨trivial, hk⟩)) hg hat); replace BK157 := Aside0.mk (blk_grown (bk BK157) hg (Kd.R_ne HO_5.out BK157.out (by decide))); replace BK158 := Aside0.mk (blk_grown (bk BK158) hg (Kd.R_ne HO_5.out BK158.out (by decide))); replace BK163 := Aside0.mk (blk_grown (bk BK163) hg (Kd.R_ne HO_5.out BK163.out (by decide))); replace HB := Aside0.mk (hb); have HO172 := Aside0.mk (ho); clear HO_5; clear ho hb hg hat))
            go_roundg kj9
            case measure => have := HK1.out; have := HJ9.out; omega
            case rel => exact ⟨(x4_1), (y170), (wrap64 (x11_1 + 1)), rfs, H', ⟨by have := HK1.out; have := HJ9.out; omega⟩, ⟨by (with_reducible repeat (first | apply Kd.R_alloc | apply Kd.R_drewN | apply Kd.R_drew)); exact Kd.R_mono HO_4.out (fun _ hk => hk.2)⟩, roA HO172, bkA BK157, bkA BK158, hbA HB⟩
           ·rw [if_neg c35] at H
            exact absurd H (by simp)
          ·rw [if_neg c34] at H
           have c34b0 : decide (a0_2 ≤ t169) = false := decide_eq_false c34
           clear c34
           have H' := Aside0.mk H
           clear H
           try go_wp2
           replace HO_4 := Aside0.mk (Kd.R_drew HO_4.out)
           replace HO_5 := Aside0.mk (Kd.R_drew HO_5.out)
           replace BK157 := Aside0.mk (blk_drew BK157.out)
           replace BK158 := Aside0.mk (blk_drew BK158.out)
           replace BK163 := Aside0.mk (blk_drew BK163.out)
           replace HB := Aside0.mk (below_drew1 HB.out)
           refine start_ (n := 6) (S := fun w' => w'.cell? ⟨gb163, 0, none⟩ = some (.int .i64 ((rd_T34 l1_1 x11_1).f0)) ∧ w'.cell? ⟨gb163, 1, none⟩ = some (.int .i64 ((rd_T34 l1_1 x11_1).f1)) ∧ w'.cell? ⟨gb157, 0, none⟩ = some (.int .i64 a0_0) ∧ w'.cell? ⟨gb157, 1, none⟩ = some (.int .i64 a0_1) ∧ w'.cell? ⟨gb157, 2, none⟩ = some (.int .i64 a0_2) ∧ w'.cell? ⟨gb157, 3, none⟩ = some (.int .i64 a0_3)) (ds := []) #[false, false, false, false, false, false] (by kernel_rfl) rfl rfl ⟨(blk_cell BK163.out 0).trans rfl, (blk_cell BK163.out 1).trans rfl, (blk_cell BK157.out 0).trans rfl, (blk_cell BK157.out 1).trans rfl, (blk_cell BK157.out 2).trans rfl, (blk_cell BK157.out 3).trans rfl⟩ (fun hHeld => ?_)
           generalize wc.drew = w41 at HO_4 HO_5 BK157 BK158 BK163 HB hHeld ⊢
           refine pure_ (i := 2) (N := some 33) (v := ?_) (a' := ?_) #[false, false, true, false, false, false] rfl rfl (by kernel_rfl) (fun _ _ _ h => h) (Or.inl ⟨by rfl, ?_⟩) ?_ ?_
           rotate_left
           ·intro w'
            go_simp
            with_reducible rfl
           rotate_left
           ·simp only [Act.put, List.setIfInBounds_toArray, List.set_cons_zero, List.set_cons_succ, i64_w, i32_w]
            rfl
           refine take_ (i := 0) (N := some 31) (v := ?_) (a' := ?_) #[true, false, true, false, false, false] rfl rfl (by kernel_rfl) (fun _ _ _ h => h) (Or.inl ⟨by rfl, ?_⟩) hHeld ?_ ?_
           rotate_left
           ·rintro w' ⟨s0, s1, s2, s3, s4, s5⟩
            go_simp
            with_reducible rfl
           rotate_left
           ·simp only [Act.put, List.setIfInBounds_toArray, List.set_cons_zero, List.set_cons_succ, i64_w, i32_w]
            rfl
           refine take_ (i := 3) (N := some 34) (v := ?_) (a' := ?_) #[true, false, true, true, false, false] rfl rfl (by kernel_rfl) (fun _ _ _ h => h) (Or.inl ⟨by rfl, ?_⟩) hHeld ?_ ?_
           rotate_left
           ·rintro w' ⟨s0, s1, s2, s3, s4, s5⟩
            go_simp
            with_reducible rfl
           rotate_left
           ·simp only [Act.put, List.setIfInBounds_toArray, List.set_cons_zero, List.set_cons_succ, i64_w, i32_w]
            rfl
           refine one_ (i := 1) (N := some 32) #[true, true, true, true, false, false] rfl rfl (by kernel_rfl) (by decide) (fun K hK => ?_)
           refine goes_ Try.func43 (by kernel_rfl) rfl #[.agg #[.int .i64 ((rd_T34 l1_1 x11_1).f0), .int .i64 ((rd_T34 l1_1 x11_1).f1)]] (by rfl) rfl rfl sma ?_
           with_reducible refine (quality_rate.calls ((rd_T34 l1_1 x11_1).f0) ((rd_T34 l1_1 x11_1).f1) t165 _ A27.out).mono ?_
           rintro e w42 ⟨rfl, hb⟩
           refine ⟨_, rfl, ?_⟩
           replace HO_4 := rB HO_4 hb
           replace HO_5 := rB HO_5 hb
           replace BK157 := bkB BK157 hb
           replace BK158 := bkB BK158 hb
           replace BK163 := bkB BK163 hb
           replace HB := hbS HB hb
           (try clear hb)
           (try clear hk)
           refine hK.out _ _ ⟨(blk_cell BK163.out 0).trans rfl, (blk_cell BK163.out 1).trans rfl, (blk_cell BK157.out 0).trans rfl, (blk_cell BK157.out 1).trans rfl, (blk_cell BK157.out 2).trans rfl, (blk_cell BK157.out 3).trans rfl⟩ (fun hHeld => ?_)
           clear hK K
           refine nrm (some 32) ?_
           refine pure_ (i := 4) (N := some 35) (v := ?_) (a' := ?_) #[true, true, true, true, true, false] rfl rfl (by kernel_rfl) (fun _ _ _ h => h) (Or.inl ⟨by rfl, ?_⟩) ?_ ?_
           rotate_left
           ·intro w'
            go_simp
            with_reducible rfl
           rotate_left
           ·simp only [Act.put, List.setIfInBounds_toArray, List.set_cons_zero, List.set_cons_succ, i64_w, i32_w]
            rfl
           refine pure_ (i := 5) (N := some 30) (v := ?_) (a' := ?_) #[true, true, true, true, true, true] rfl rfl (by kernel_rfl) (fun _ _ _ h => h) (Or.inl ⟨by rfl, ?_⟩) ?_ ?_
           rotate_left
           ·intro w'
            go_simp
            with_reducible rfl
           rotate_left
           ·simp only [Act.put, List.setIfInBounds_toArray, List.set_cons_zero, List.set_cons_succ, i64_w, i32_w]
            rfl
           refine done_ (by kernel_rfl) ?_
           try go_wp2
           replace HO_4 := Aside0.mk (Kd.R_drew HO_4.out)
           replace HO_5 := Aside0.mk (Kd.R_drew HO_5.out)
           replace BK157 := Aside0.mk (blk_drew BK157.out)
           replace BK158 := Aside0.mk (blk_drew BK158.out)
           replace BK163 := Aside0.mk (blk_drew BK163.out)
           replace HB := Aside0.mk (below_drew1 HB.out)
           refine start_ (n := 6) (S := fun w' => w'.cell? ⟨gb163, 0, none⟩ = some (.int .i64 ((rd_T34 l1_1 x11_1).f0)) ∧ w'.cell? ⟨gb163, 1, none⟩ = some (.int .i64 ((rd_T34 l1_1 x11_1).f1)) ∧ w'.cell? ⟨gb157, 0, none⟩ = some (.int .i64 a0_0) ∧ w'.cell? ⟨gb157, 1, none⟩ = some (.int .i64 a0_1) ∧ w'.cell? ⟨gb157, 2, none⟩ = some (.int .i64 a0_2) ∧ w'.cell? ⟨gb157, 3, none⟩ = some (.int .i64 a0_3)) (ds := []) #[false, false, false, false, false, false] (by kernel_rfl) rfl rfl ⟨(blk_cell BK163.out 0).trans rfl, (blk_cell BK163.out 1).trans rfl, (blk_cell BK157.out 0).trans rfl, (blk_cell BK157.out 1).trans rfl, (blk_cell BK157.out 2).trans rfl, (blk_cell BK157.out 3).trans rfl⟩ (fun hHeld => ?_)
           generalize w42.drew = w43 at HO_4 HO_5 BK157 BK158 BK163 HB hHeld ⊢
           refine pure_ (i := 2) (N := some 43) (v := ?_) (a' := ?_) #[false, false, true, false, false, false] rfl rfl (by kernel_rfl) (fun _ _ _ h => h) (Or.inl ⟨by rfl, ?_⟩) ?_ ?_
           rotate_left
           ·intro w'
            go_simp
            with_reducible rfl
           rotate_left
           ·simp only [Act.put, List.setIfInBounds_toArray, List.set_cons_zero, List.set_cons_succ, i64_w, i32_w]
            rfl
           refine take_ (i := 0) (N := some 41) (v := ?_) (a' := ?_) #[true, false, true, false, false, false] rfl rfl (by kernel_rfl) (fun _ _ _ h => h) (Or.inl ⟨by rfl, ?_⟩) hHeld ?_ ?_
           rotate_left
           ·rintro w' ⟨s0, s1, s2, s3, s4, s5⟩
            go_simp
            with_reducible rfl
           rotate_left
           ·simp only [Act.put, List.setIfInBounds_toArray, List.set_cons_zero, List.set_cons_succ, i64_w, i32_w]
            rfl
           refine take_ (i := 3) (N := some 44) (v := ?_) (a' := ?_) #[true, false, true, true, false, false] rfl rfl (by kernel_rfl) (fun _ _ _ h => h) (Or.inl ⟨by rfl, ?_⟩) hHeld ?_ ?_
           rotate_left
           ·rintro w' ⟨s0, s1, s2, s3, s4, s5⟩
            go_simp
            with_reducible rfl
           rotate_left
           ·simp only [Act.put, List.setIfInBounds_toArray, List.set_cons_zero, List.set_cons_succ, i64_w, i32_w]
            rfl
           refine one_ (i := 1) (N := some 42) #[true, true, true, true, false, false] rfl rfl (by kernel_rfl) (by decide) (fun K hK => ?_)
           refine goes_ Try.func43 (by kernel_rfl) rfl #[.agg #[.int .i64 ((rd_T34 l1_1 x11_1).f0), .int .i64 ((rd_T34 l1_1 x11_1).f1)]] (by rfl) rfl rfl sma ?_
           with_reducible refine (quality_rate.calls ((rd_T34 l1_1 x11_1).f0) ((rd_T34 l1_1 x11_1).f1) t169 _ A33.out).mono ?_
           rintro e w44 ⟨rfl, hb⟩
           refine ⟨_, rfl, ?_⟩
           replace HO_4 := rB HO_4 hb
           replace HO_5 := rB HO_5 hb
           replace BK157 := bkB BK157 hb
           replace BK158 := bkB BK158 hb
           replace BK163 := bkB BK163 hb
           replace HB := hbS HB hb
           (try clear hb)
           (try clear hk)
           refine hK.out _ _ ⟨(blk_cell BK163.out 0).trans rfl, (blk_cell BK163.out 1).trans rfl, (blk_cell BK157.out 0).trans rfl, (blk_cell BK157.out 1).trans rfl, (blk_cell BK157.out 2).trans rfl, (blk_cell BK157.out 3).trans rfl⟩ (fun hHeld => ?_)
           clear hK K
           refine nrm (some 42) ?_
           refine pure_ (i := 4) (N := some 45) (v := ?_) (a' := ?_) #[true, true, true, true, true, false] rfl rfl (by kernel_rfl) (fun _ _ _ h => h) (Or.inl ⟨by rfl, ?_⟩) ?_ ?_
           rotate_left
           ·intro w'
            go_simp
            with_reducible rfl
           rotate_left
           ·simp only [Act.put, List.setIfInBounds_toArray, List.set_cons_zero, List.set_cons_succ, i64_w, i32_w]
            rfl
           refine pure_ (i := 5) (N := some 40) (v := ?_) (a' := ?_) #[true, true, true, true, true, true] rfl rfl (by kernel_rfl) (fun _ _ _ h => h) (Or.inl ⟨by rfl, ?_⟩) ?_ ?_
           rotate_left
           ·intro w'
            go_simp
            with_reducible rfl
           rotate_left
           ·simp only [Act.put, List.setIfInBounds_toArray, List.set_cons_zero, List.set_cons_succ, i64_w, i32_w]
            rfl
           refine done_ (by kernel_rfl) ?_
           try go_wp2
           go_roundg kj9
           case measure => have := HK1.out; have := HJ9.out; omega
           case rel => exact ⟨(x4_1), (x5_1), (wrap64 (x11_1 + 1)), rfs, H', ⟨by have := HK1.out; have := HJ9.out; omega⟩, roA HO_4, roA HO_5, bkA BK157, bkA BK158, hbA HB⟩
     ·rw [if_neg c9] at H
      exact absurd H (by simp)
    ·rw [if_neg c8] at H
     exact absurd H (by simp)
   ·rw [if_neg c7] at H
    have c7b0 : decide (x11_1 < (l1_1.length : Int)) = false := decide_eq_false c7
    clear c7
    by_cases c45 : sortOk l1_1 x4_1 = true
    ·rw [if_pos c45] at H
     have c45b0 := eq_true c45
     have c45b1 : decide (sortOk l1_1 x4_1 = true) = true := decide_eq_true c45
     clear c45
     obtain ⟨y159, hy159⟩ : ∃ y_ : List Int, y_ = (sortI l1_1 x4_1) := ⟨_, rfl⟩
     replace H : (some (y159, x5_1)) = some (r1, r2) := by first | (rw [hy159]; with_reducible exact H) | (have H2_ := (Option.bind_some _ _).symm.trans H; rw [hy159]; with_reducible exact H2_) | (have H2_ := (Option.bind_some _ _).symm.trans H; with_reducible exact H2_) | with_reducible exact H | (rw [hy159]; exact H) | exact H
     have Ny159 := Aside0.mk hy159
     clear hy159
     simp only [Option.some.injEq, Prod.mk.injEq] at H
     obtain ⟨rfl, rfl⟩ := H
     obtain ⟨Ao47, co47, eo47⟩ := Kd.R_slice HO_4.out
     subst eo47
     have hl48 := Aside0.mk (show sortOk l1_1 x4_1 = true from by first | assumption | exact of_decide_eq_true (by assumption) | exact of_eq_true (by assumption))
     go_wp2_with (first | ((with_reducible refine gate_callee (f := 55) rfl ?_); refine goesL_ (some 53) rfl rfl Try.func55 (by kernel_rfl) rfl #[.slice Ao47 x4_1.length co47, .func (.func 56) #[] #[.pointer (some ⟨gb158, 0, none⟩)]] rfl (by (try simp only [List.map_toArray, List.map_cons, List.map_nil]); first | done | rfl) ?_; refine (sort_any.calls w _ l1_1 _ _ _ _ _ _ _ _ x4_1 _ HR1_1.out BK158.out (hbx HB) (ro HO_4) hl48.out).mono ?_; rintro e_ w46 ⟨rfl, ho, hb, hg⟩; refine ⟨_, rfl, ?_⟩; rw [← Ny159.out] at ho; replace HO_5 := Aside0.mk (Kd.R_grown2 HO_5.out rfl hg (fun k_ e_ he_ => by have h_ := (HO_5.out.1 k_ he_.symm); first | exact h_ e_.symm | exact h_.1 e_.symm | exact h_.2 e_.symm | exact h_.1.1 e_.symm | exact h_.1.2 e_.symm | exact h_.2.1 e_.symm | exact h_.2.2 e_.symm)); replace BK157 := Aside0.mk (blk_grown (bk BK157) hg (Kd.R_ne HO_4.out BK157.out (by decide))); replace BK158 := Aside0.mk (blk_grown (bk BK158) hg (Kd.R_ne HO_4.out BK158.out (by decide))); replace HO_4 := Aside0.mk (ho); replace HB := Aside0.mk (hb); clear ho hb hg))
     go_ret2
     exact ⟨_, _, rerr, ro HO_4, ro HO_5, hbx HB⟩
    ·rw [if_neg c45] at H
     exact absurd H (by simp)
end Go.Proofs.Ytnipgplobipeeaa.PQ
