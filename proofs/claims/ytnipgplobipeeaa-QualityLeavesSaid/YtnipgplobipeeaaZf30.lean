-- Printed by fprint.py and zip.py, programs of this session's, over the kit's print; Lean checks it.
import Derived.Test.YtnipgplobipeeaaZ0
import Derived.Test.YtnipgplobipeeaaZe1
namespace Go.Proofs.Ytnipgplobipeeaa.PQ
open Go.RowKit Go.Proofs.YtnipgplobipeeaaW.PrintWords Go.Proofs.YtnipgplobipeeaaW.PrintLast Go.Proofs.YtnipgplobipeeaaW.PrintMore
attribute [local go_sem] max2_int min2_int max_two min_two max_three min_three max_four min_four   -- for this text's walks alone
set_option linter.unusedVariables false
set_option linter.unusedSimpArgs false
attribute [local go_sem high] eqA34
mutual
def hopmeshref12_Same.j0 : Nat → Bool → Int → List (S34) → List Int → List Int → Int → List (S34) → List Int → List Int → Option (Bool)
 | 0, _, _, _, _, _, _, _, _, _ => none
 | k + 1, x39, x511000, x511001, x511002, x511003, x512000, x512001, x512002, x512003 => if x39 = true then (some false) else (hopmeshref12_Same.l0 k 0 x511000 x511001 x511002 x511003 x512000 x512001 x512002 x512003)
def hopmeshref12_Same.l0 : Nat → Int → Int → List (S34) → List Int → List Int → Int → List (S34) → List Int → List Int → Option (Bool)
 | 0, _, _, _, _, _, _, _, _, _ => none
 | k + 1, x5, x511000, x511001, x511002, x511003, x512000, x512001, x512002, x512003 => if x5 < (x511001.length : Int) then (if 0 ≤ x5 then (if x5 < (x512001.length : Int) then (if (!(((rd_T34 x511001 x5).f0) == ((rd_T34 x512001 x5).f0)) || (!(((rd_T34 x511001 x5).f1) == ((rd_T34 x512001 x5).f1)))) = true then (some false) else (hopmeshref12_Same.l0 k (wrap64 (x5 + 1)) x511000 x511001 x511002 x511003 x512000 x512001 x512002 x512003)) else (none)) else (none)) else (hopmeshref12_Same.l1 k 0 x511000 x511001 x511002 x511003 x512000 x512001 x512002 x512003)
def hopmeshref12_Same.l1 : Nat → Int → Int → List (S34) → List Int → List Int → Int → List (S34) → List Int → List Int → Option (Bool)
 | 0, _, _, _, _, _, _, _, _, _ => none
 | k + 1, x6, x511000, x511001, x511002, x511003, x512000, x512001, x512002, x512003 => if x6 < (x511002.length : Int) then (if 0 ≤ x6 then (if x6 < (x512002.length : Int) then (if (rd x511002 x6) = (rd x512002 x6) then (hopmeshref12_Same.l1 k (wrap64 (x6 + 1)) x511000 x511001 x511002 x511003 x512000 x512001 x512002 x512003) else (some false)) else (none)) else (none)) else (hopmeshref12_Same.l2 k 0 x511000 x511001 x511002 x511003 x512000 x512001 x512002 x512003)
def hopmeshref12_Same.l2 : Nat → Int → Int → List (S34) → List Int → List Int → Int → List (S34) → List Int → List Int → Option (Bool)
 | 0, _, _, _, _, _, _, _, _, _ => none
 | k + 1, x7, x511000, x511001, x511002, x511003, x512000, x512001, x512002, x512003 => if x7 < (x511003.length : Int) then (if 0 ≤ x7 then (if x7 < (x512003.length : Int) then (if (rd x511003 x7) = (rd x512003 x7) then (hopmeshref12_Same.l2 k (wrap64 (x7 + 1)) x511000 x511001 x511002 x511003 x512000 x512001 x512002 x512003) else (some false)) else (none)) else (none)) else (some true)
end
def hopmeshref12_Same.f (k : Nat) (a0_0 : Int) (l0_1 : List (S34)) (l0_2 : List Int) (l0_3 : List Int) (a1_0 : Int) (l1_1 : List (S34)) (l1_2 : List Int) (l1_3 : List Int) : Option (Bool) := if a0_0 = a1_0 then (if (l0_1.length : Int) = (l1_1.length : Int) then (if (l0_2.length : Int) = (l1_2.length : Int) then (hopmeshref12_Same.j0 k ((l0_3.length : Int) != (l1_3.length : Int)) a0_0 l0_1 l0_2 l0_3 a1_0 l1_1 l1_2 l1_3) else (hopmeshref12_Same.j0 k true a0_0 l0_1 l0_2 l0_3 a1_0 l1_1 l1_2 l1_3)) else (hopmeshref12_Same.j0 k true a0_0 l0_1 l0_2 l0_3 a1_0 l1_1 l1_2 l1_3)) else (hopmeshref12_Same.j0 k true a0_0 l0_1 l0_2 l0_3 a1_0 l1_1 l1_2 l1_3)
theorem hopmeshref12_Same.mono_l : ∀ k, (∀ y0 y1 y2 y3 y4 y5 y6 y7 y8, LeO (hopmeshref12_Same.j0 k y0 y1 y2 y3 y4 y5 y6 y7 y8) (hopmeshref12_Same.j0 (k + 1) y0 y1 y2 y3 y4 y5 y6 y7 y8)) ∧ (∀ y0 y1 y2 y3 y4 y5 y6 y7 y8, LeO (hopmeshref12_Same.l0 k y0 y1 y2 y3 y4 y5 y6 y7 y8) (hopmeshref12_Same.l0 (k + 1) y0 y1 y2 y3 y4 y5 y6 y7 y8)) ∧ (∀ y0 y1 y2 y3 y4 y5 y6 y7 y8, LeO (hopmeshref12_Same.l1 k y0 y1 y2 y3 y4 y5 y6 y7 y8) (hopmeshref12_Same.l1 (k + 1) y0 y1 y2 y3 y4 y5 y6 y7 y8)) ∧ (∀ y0 y1 y2 y3 y4 y5 y6 y7 y8, LeO (hopmeshref12_Same.l2 k y0 y1 y2 y3 y4 y5 y6 y7 y8) (hopmeshref12_Same.l2 (k + 1) y0 y1 y2 y3 y4 y5 y6 y7 y8))
 | 0 => ⟨fun _ _ _ _ _ _ _ _ _ r h => by simp [hopmeshref12_Same.j0] at h, fun _ _ _ _ _ _ _ _ _ r h => by simp [hopmeshref12_Same.l0] at h, fun _ _ _ _ _ _ _ _ _ r h => by simp [hopmeshref12_Same.l1] at h, fun _ _ _ _ _ _ _ _ _ r h => by simp [hopmeshref12_Same.l2] at h⟩
 | k + 1 => by
  obtain ⟨ih0, ih1, ih2, ih3⟩ := hopmeshref12_Same.mono_l k
  refine ⟨?_, ?_, ?_, ?_⟩
  ·intro y0 y1 y2 y3 y4 y5 y6 y7 y8
   unfold hopmeshref12_Same.j0
   repeat' first
   | (with_reducible exact ih0 _ _ _ _ _ _ _ _ _)
   | (with_reducible exact ih1 _ _ _ _ _ _ _ _ _)
   | (with_reducible exact ih2 _ _ _ _ _ _ _ _ _)
   | (with_reducible exact ih3 _ _ _ _ _ _ _ _ _)
   | (with_reducible exact LeO.refl _)
   | (with_reducible exact LeO.none _)
   | (with_reducible refine LeO.ite ?_ ?_)
   | (with_reducible refine LeO.bind ?_ (fun _ => ?_))
   | exact ih0 _ _ _ _ _ _ _ _ _
   | exact ih1 _ _ _ _ _ _ _ _ _
   | exact ih2 _ _ _ _ _ _ _ _ _
   | exact ih3 _ _ _ _ _ _ _ _ _
   | exact LeO.none _
   | refine LeO.ite ?_ ?_
   | refine LeO.bind ?_ (fun _ => ?_)
  ·intro y0 y1 y2 y3 y4 y5 y6 y7 y8
   unfold hopmeshref12_Same.l0
   repeat' first
   | (with_reducible exact ih0 _ _ _ _ _ _ _ _ _)
   | (with_reducible exact ih1 _ _ _ _ _ _ _ _ _)
   | (with_reducible exact ih2 _ _ _ _ _ _ _ _ _)
   | (with_reducible exact ih3 _ _ _ _ _ _ _ _ _)
   | (with_reducible exact LeO.refl _)
   | (with_reducible exact LeO.none _)
   | (with_reducible refine LeO.ite ?_ ?_)
   | (with_reducible refine LeO.bind ?_ (fun _ => ?_))
   | exact ih0 _ _ _ _ _ _ _ _ _
   | exact ih1 _ _ _ _ _ _ _ _ _
   | exact ih2 _ _ _ _ _ _ _ _ _
   | exact ih3 _ _ _ _ _ _ _ _ _
   | exact LeO.none _
   | refine LeO.ite ?_ ?_
   | refine LeO.bind ?_ (fun _ => ?_)
  ·intro y0 y1 y2 y3 y4 y5 y6 y7 y8
   unfold hopmeshref12_Same.l1
   repeat' first
   | (with_reducible exact ih0 _ _ _ _ _ _ _ _ _)
   | (with_reducible exact ih1 _ _ _ _ _ _ _ _ _)
   | (with_reducible exact ih2 _ _ _ _ _ _ _ _ _)
   | (with_reducible exact ih3 _ _ _ _ _ _ _ _ _)
   | (with_reducible exact LeO.refl _)
   | (with_reducible exact LeO.none _)
   | (with_reducible refine LeO.ite ?_ ?_)
   | (with_reducible refine LeO.bind ?_ (fun _ => ?_))
   | exact ih0 _ _ _ _ _ _ _ _ _
   | exact ih1 _ _ _ _ _ _ _ _ _
   | exact ih2 _ _ _ _ _ _ _ _ _
   | exact ih3 _ _ _ _ _ _ _ _ _
   | exact LeO.none _
   | refine LeO.ite ?_ ?_
   | refine LeO.bind ?_ (fun _ => ?_)
  ·intro y0 y1 y2 y3 y4 y5 y6 y7 y8
   unfold hopmeshref12_Same.l2
   repeat' first
   | (with_reducible exact ih0 _ _ _ _ _ _ _ _ _)
   | (with_reducible exact ih1 _ _ _ _ _ _ _ _ _)
   | (with_reducible exact ih2 _ _ _ _ _ _ _ _ _)
   | (with_reducible exact ih3 _ _ _ _ _ _ _ _ _)
   | (with_reducible exact LeO.refl _)
   | (with_reducible exact LeO.none _)
   | (with_reducible refine LeO.ite ?_ ?_)
   | (with_reducible refine LeO.bind ?_ (fun _ => ?_))
   | exact ih0 _ _ _ _ _ _ _ _ _
   | exact ih1 _ _ _ _ _ _ _ _ _
   | exact ih2 _ _ _ _ _ _ _ _ _
   | exact ih3 _ _ _ _ _ _ _ _ _
   | exact LeO.none _
   | refine LeO.ite ?_ ?_
   | refine LeO.bind ?_ (fun _ => ?_)
theorem hopmeshref12_Same.mono : ∀ a0 a1 a2 a3 a4 a5 a6 a7 k, LeO (hopmeshref12_Same.f k a0 a1 a2 a3 a4 a5 a6 a7) (hopmeshref12_Same.f (k + 1) a0 a1 a2 a3 a4 a5 a6 a7) := by
 intro a0 a1 a2 a3 a4 a5 a6 a7 k
 obtain ⟨ih0, ih1, ih2, ih3⟩ := hopmeshref12_Same.mono_l k
 unfold hopmeshref12_Same.f
 repeat' first
  | (with_reducible exact ih0 _ _ _ _ _ _ _ _ _)
  | (with_reducible exact ih1 _ _ _ _ _ _ _ _ _)
  | (with_reducible exact ih2 _ _ _ _ _ _ _ _ _)
  | (with_reducible exact ih3 _ _ _ _ _ _ _ _ _)
  | (with_reducible exact LeO.refl _)
  | (with_reducible exact LeO.none _)
  | (with_reducible refine LeO.ite ?_ ?_)
  | (with_reducible refine LeO.bind ?_ (fun _ => ?_))
  | exact ih0 _ _ _ _ _ _ _ _ _
  | exact ih1 _ _ _ _ _ _ _ _ _
  | exact ih2 _ _ _ _ _ _ _ _ _
  | exact ih3 _ _ _ _ _ _ _ _ _
  | exact LeO.none _
  | refine LeO.ite ?_ ?_
  | refine LeO.bind ?_ (fun _ => ?_)
set_option maxHeartbeats 8000000 in
set_option maxRecDepth 100000 in
theorem hopmeshref12_Same.calls (k : Nat) (a0_0 : Int) (A0_1 : Option Addr) (c0_1 : Nat) (l0_1 : List (S34)) (A0_2 : Option Addr) (c0_2 : Nat) (l0_2 : List Int) (A0_3 : Option Addr) (c0_3 : Nat) (l0_3 : List Int) (a1_0 : Int) (A1_1 : Option Addr) (c1_1 : Nat) (l1_1 : List (S34)) (A1_2 : Option Addr) (c1_2 : Nat) (l1_2 : List Int) (A1_3 : Option Addr) (c1_3 : Nat) (l1_3 : List Int) (r : Bool) (w : World) (hr0_1 : Kd.C k34 w A0_1 l0_1.length l0_1) (hc0_1 : l0_1.length ≤ c0_1) (hr0_2 : Kd.C (Kd.int .i64) w A0_2 l0_2.length l0_2) (hc0_2 : l0_2.length ≤ c0_2) (hr0_3 : Kd.C (Kd.int .i64) w A0_3 l0_3.length l0_3) (hc0_3 : l0_3.length ≤ c0_3) (hr1_1 : Kd.C k34 w A1_1 l1_1.length l1_1) (hc1_1 : l1_1.length ≤ c1_1) (hr1_2 : Kd.C (Kd.int .i64) w A1_2 l1_2.length l1_2) (hc1_2 : l1_2.length ≤ c1_2) (hr1_3 : Kd.C (Kd.int .i64) w A1_3 l1_3.length l1_3) (hc1_3 : l1_3.length ≤ c1_3) (h : hopmeshref12_Same.f k a0_0 l0_1 l0_2 l0_3 a1_0 l1_1 l1_2 l1_3 = some r) :
 Calls Try.prog 30 #[.agg #[.int .i64 a0_0, .slice A0_1 l0_1.length c0_1, .slice A0_2 l0_2.length c0_2, .slice A0_3 l0_3.length c0_3], .agg #[.int .i64 a1_0, .slice A1_1 l1_1.length c1_1, .slice A1_2 l1_2.length c1_2, .slice A1_3 l1_3.length c1_3]] w fun e w' => e = .returned (.bool r) ∧ Below w.heap.size w w' := by
 have hu25 := Try.underlying25
 have hu34 := Try.underlying34
 have HR0_1 := Aside0.mk hr0_1
 have HC0_1 := Aside0.mk hc0_1
 clear hr0_1 hc0_1
 have HR0_2 := Aside0.mk hr0_2
 have HC0_2 := Aside0.mk hc0_2
 clear hr0_2 hc0_2
 have HR0_3 := Aside0.mk hr0_3
 have HC0_3 := Aside0.mk hc0_3
 clear hr0_3 hc0_3
 have HR1_1 := Aside0.mk hr1_1
 have HC1_1 := Aside0.mk hc1_1
 clear hr1_1 hc1_1
 have HR1_2 := Aside0.mk hr1_2
 have HC1_2 := Aside0.mk hc1_2
 clear hr1_2 hc1_2
 have HR1_3 := Aside0.mk hr1_3
 have HC1_3 := Aside0.mk hc1_3
 clear hr1_3 hc1_3
 have HB := Aside0.mk (Below.refl w.heap.size w)
 have H : (if a0_0 = a1_0 then (if (l0_1.length : Int) = (l1_1.length : Int) then (if (l0_2.length : Int) = (l1_2.length : Int) then (hopmeshref12_Same.j0 k ((l0_3.length : Int) != (l1_3.length : Int)) a0_0 l0_1 l0_2 l0_3 a1_0 l1_1 l1_2 l1_3) else (hopmeshref12_Same.j0 k true a0_0 l0_1 l0_2 l0_3 a1_0 l1_1 l1_2 l1_3)) else (hopmeshref12_Same.j0 k true a0_0 l0_1 l0_2 l0_3 a1_0 l1_1 l1_2 l1_3)) else (hopmeshref12_Same.j0 k true a0_0 l0_1 l0_2 l0_3 a1_0 l1_1 l1_2 l1_3)) = some r := h
 clear h
 have HC3 := Aside0.mk H
 clear H
 go_enter Try.func30, Try.ntmps30
 go_upto_region 1 with (first | ((with_reducible refine gate_dst (N := 2) rfl ?_); (try (refine gate_guard (by rfl) ?_; dsimp only)); refine boxE 2 #[.int .i64 a0_0, .slice A0_1 l0_1.length c0_1, .slice A0_2 l0_2.length c0_2, .slice A0_3 l0_3.length c0_3] 25 ?_; intro gb510 hg w4 hbox hb; have BK510 := Aside0.mk (hbox); have GW510 := gw hg HB; have GE510 := gw hg HB; replace HB := hbS HB hb; clear hb hbox hg) | ((with_reducible refine gate_dst (N := 3) rfl ?_); (try (refine gate_guard (by rfl) ?_; dsimp only)); refine boxE 3 #[.int .i64 a1_0, .slice A1_1 l1_1.length c1_1, .slice A1_2 l1_2.length c1_2, .slice A1_3 l1_3.length c1_3] 25 ?_; intro gb511 hg w5 hbox hb; have BK511 := Aside0.mk (hbox); have GW511 := gw hg HB; have GE511 := gw hg HB; replace HB := hbS HB hb; have NB510_511 := nbl hg BK510; have NB511_510 := nbg hg BK510; replace BK510 := bkB BK510 hb; clear hb hbox hg))
 repeat (go_quiet (first | ((with_reducible refine gate_dst (N := 2) rfl ?_); (try (refine gate_guard (by rfl) ?_; dsimp only)); refine boxE 2 #[.int .i64 a0_0, .slice A0_1 l0_1.length c0_1, .slice A0_2 l0_2.length c0_2, .slice A0_3 l0_3.length c0_3] 25 ?_; intro gb510 hg w4 hbox hb; have BK510 := Aside0.mk (hbox); have GW510 := gw hg HB; have GE510 := gw hg HB; replace HB := hbS HB hb; clear hb hbox hg) | ((with_reducible refine gate_dst (N := 3) rfl ?_); (try (refine gate_guard (by rfl) ?_; dsimp only)); refine boxE 3 #[.int .i64 a1_0, .slice A1_1 l1_1.length c1_1, .slice A1_2 l1_2.length c1_2, .slice A1_3 l1_3.length c1_3] 25 ?_; intro gb511 hg w5 hbox hb; have BK511 := Aside0.mk (hbox); have GW511 := gw hg HB; have GE511 := gw hg HB; replace HB := hbS HB hb; have NB510_511 := nbl hg BK510; have NB511_510 := nbg hg BK510; replace BK510 := bkB BK510 hb; clear hb hbox hg)); go_upto_region 1 with (first | ((with_reducible refine gate_dst (N := 2) rfl ?_); (try (refine gate_guard (by rfl) ?_; dsimp only)); refine boxE 2 #[.int .i64 a0_0, .slice A0_1 l0_1.length c0_1, .slice A0_2 l0_2.length c0_2, .slice A0_3 l0_3.length c0_3] 25 ?_; intro gb510 hg w4 hbox hb; have BK510 := Aside0.mk (hbox); have GW510 := gw hg HB; have GE510 := gw hg HB; replace HB := hbS HB hb; clear hb hbox hg) | ((with_reducible refine gate_dst (N := 3) rfl ?_); (try (refine gate_guard (by rfl) ?_; dsimp only)); refine boxE 3 #[.int .i64 a1_0, .slice A1_1 l1_1.length c1_1, .slice A1_2 l1_2.length c1_2, .slice A1_3 l1_3.length c1_3] 25 ?_; intro gb511 hg w5 hbox hb; have BK511 := Aside0.mk (hbox); have GW511 := gw hg HB; have GE511 := gw hg HB; replace HB := hbS HB hb; have NB510_511 := nbl hg BK510; have NB511_510 := nbg hg BK510; replace BK510 := bkB BK510 hb; clear hb hbox hg)))
 (try simp only [Act.put, List.setIfInBounds_toArray, List.set_cons_zero, List.set_cons_succ])
 go_cut [39] (fun v39 wc => ∃ (kq : Nat) (x39_2 : Bool), v39 = .bool x39_2 ∧ Aside0 (hopmeshref12_Same.j0 kq x39_2 a0_0 l0_1 l0_2 l0_3 a1_0 l1_1 l1_2 l1_3 = some r) ∧ Aside0 (kq ≤ k) ∧ Aside0 (wc.heap[gb510]? = some (.cells #[.int .i64 a0_0, (.slice A0_1 l0_1.length c0_1), (.slice A0_2 l0_2.length c0_2), (.slice A0_3 l0_3.length c0_3)] 25 (0, 0))) ∧ Aside0 (wc.heap[gb511]? = some (.cells #[.int .i64 a1_0, (.slice A1_1 l1_1.length c1_1), (.slice A1_2 l1_2.length c1_2), (.slice A1_3 l1_3.length c1_3)] 25 (0, 0))) ∧ Aside0 (Below w.heap.size w wc))
 case first =>
  have H := HC3.out
  clear HC3
  by_cases c6 : a0_0 = a1_0
  ·rw [if_pos c6] at H
   have c6b0 : (a0_0 == a1_0) = true := beq_iff_eq.mpr c6
   have c6b1 : (a0_0 != a1_0) = false := bne_eq_false_iff_eq.mpr c6
   clear c6
   (first | rw [c6b0] | (simp only [i64_w, i32_w]; rw [c6b0]) | skip)
   by_cases c7 : (l0_1.length : Int) = (l1_1.length : Int)
   ·rw [if_pos c7] at H
    have c7b0 : ((l0_1.length : Int) == (l1_1.length : Int)) = true := beq_iff_eq.mpr c7
    have c7b1 : ((l0_1.length : Int) != (l1_1.length : Int)) = false := bne_eq_false_iff_eq.mpr c7
    have c7b2 : (l0_1.length == l1_1.length) = true := by first | simpa using c7 | (simp at c7 ⊢; omega)
    clear c7
    by_cases c8 : (l0_2.length : Int) = (l1_2.length : Int)
    ·rw [if_pos c8] at H
     have c8b0 : ((l0_2.length : Int) == (l1_2.length : Int)) = true := beq_iff_eq.mpr c8
     have c8b1 : ((l0_2.length : Int) != (l1_2.length : Int)) = false := bne_eq_false_iff_eq.mpr c8
     have c8b2 : (l0_2.length == l1_2.length) = true := by first | simpa using c8 | (simp at c8 ⊢; omega)
     clear c8
     have H' := Aside0.mk H
     clear H
     have hnb9 := NB510_511.out
     have hnc9 := NB511_510.out
     obtain ⟨z0, z1, z2, z3, y0, y1, y2, y3⟩ := bc4 BK510
     obtain ⟨z0, z1, z2, z3, y0, y1, y2, y3⟩ := bc4 BK511
     go_wp2
     repeat (go_quiet (fail); try go_wp2)
     go_meet
     case rel => exact ⟨_, (((l0_3.length : Int) != (l1_3.length : Int))), rfs, H', kle, bkA BK510, bkA BK511, hbA HB⟩
    ·rw [if_neg c8] at H
     have c8b0 : ((l0_2.length : Int) == (l1_2.length : Int)) = false := beq_eq_false_iff_ne.mpr c8
     have c8b1 : ((l0_2.length : Int) != (l1_2.length : Int)) = true := bne_iff_ne.mpr c8
     have c8b2 : (l0_2.length == l1_2.length) = false := by first | simpa using c8 | (simp at c8 ⊢; omega)
     have H' := Aside0.mk H
     clear H
     have hnb12 := NB510_511.out
     have hnc12 := NB511_510.out
     obtain ⟨z0, z1, z2, z3, y0, y1, y2, y3⟩ := bc4 BK510
     obtain ⟨z0, z1, z2, z3, y0, y1, y2, y3⟩ := bc4 BK511
     go_wp2
     repeat (go_quiet (fail); try go_wp2)
     go_meet
     case rel => exact ⟨_, (true), rfs, H', kle, bkA BK510, bkA BK511, hbA HB⟩
   ·rw [if_neg c7] at H
    have c7b0 : ((l0_1.length : Int) == (l1_1.length : Int)) = false := beq_eq_false_iff_ne.mpr c7
    have c7b1 : ((l0_1.length : Int) != (l1_1.length : Int)) = true := bne_iff_ne.mpr c7
    have c7b2 : (l0_1.length == l1_1.length) = false := by first | simpa using c7 | (simp at c7 ⊢; omega)
    have H' := Aside0.mk H
    clear H
    have hnb15 := NB510_511.out
    have hnc15 := NB511_510.out
    obtain ⟨z0, z1, z2, z3, y0, y1, y2, y3⟩ := bc4 BK510
    obtain ⟨z0, z1, z2, z3, y0, y1, y2, y3⟩ := bc4 BK511
    go_wp2
    repeat (go_quiet (fail); try go_wp2)
    go_meet
    case rel => exact ⟨_, (true), rfs, H', kle, bkA BK510, bkA BK511, hbA HB⟩
  ·rw [if_neg c6] at H
   have c6b0 : (a0_0 == a1_0) = false := beq_eq_false_iff_ne.mpr c6
   have c6b1 : (a0_0 != a1_0) = true := bne_iff_ne.mpr c6
   (first | rw [c6b0] | (simp only [i64_w, i32_w]; rw [c6b0]) | skip)
   have H' := Aside0.mk H
   clear H
   have hnb18 := NB510_511.out
   have hnc18 := NB511_510.out
   obtain ⟨z0, z1, z2, z3, y0, y1, y2, y3⟩ := bc4 BK510
   obtain ⟨z0, z1, z2, z3, y0, y1, y2, y3⟩ := bc4 BK511
   go_wp2
   repeat (go_quiet (fail); try go_wp2)
   go_meet
   case rel => exact ⟨_, (true), rfs, H', kle, bkA BK510, bkA BK511, hbA HB⟩
 case rest =>
  clear HC3
  obtain ⟨kq, x39_2, rfl, HA, HJ2, BK510, BK511, HB⟩ := hcut
  cases kq with
  | zero => exact absurd HA.out (by simp [hopmeshref12_Same.j0])
  | succ kj2 =>
   have H := HA.out
   clear HA
   simp only [hopmeshref12_Same.j0] at H
   by_cases c21 : x39_2 = true
   ·subst c21
    rw [if_pos rfl] at H
    obtain rfl := Option.some.inj H
    go_wp2
    repeat (go_quiet (fail); try go_wp2)
    go_ret
    exact ⟨rerr, hbx HB⟩
   ·replace c21 := Bool.eq_false_iff.mpr c21
    subst c21
    rw [if_neg (show ¬ (false = true) by decide)] at H
    have H' := Aside0.mk H
    clear H
    go_wp2
    repeat (go_quiet (fail); try go_wp2)
    go_loopg [5] kj2 (fun kq v5 w' => ∃ (x5_2 : Int), v5 = .int .i64 x5_2 ∧ Aside0 (hopmeshref12_Same.l0 kq x5_2 a0_0 l0_1 l0_2 l0_3 a1_0 l1_1 l1_2 l1_3 = some r) ∧ Aside0 (kq ≤ kj2) ∧ Aside0 (w'.heap[gb510]? = some (.cells #[.int .i64 a0_0, (.slice A0_1 l0_1.length c0_1), (.slice A0_2 l0_2.length c0_2), (.slice A0_3 l0_3.length c0_3)] 25 (0, 0))) ∧ Aside0 (w'.heap[gb511]? = some (.cells #[.int .i64 a1_0, (.slice A1_1 l1_1.length c1_1), (.slice A1_2 l1_2.length c1_2), (.slice A1_3 l1_3.length c1_3)] 25 (0, 0))) ∧ Aside0 (Below w.heap.size w w'))
    case atStart => exact ⟨(0), rfs, H', ⟨Nat.le_refl _⟩, bkA BK510, bkA BK511, hbA HB⟩
    case round =>
     clear H'
     try clear c21
     obtain ⟨x5_2, rfl, HA, HK2, BK510, BK511, HB⟩ := hrel
     cases gk with
     | zero => exact absurd HA.out (by simp [hopmeshref12_Same.l0])
     | succ k2 =>
      have H := HA.out
      clear HA
      simp only [hopmeshref12_Same.l0] at H
      by_cases c22 : x5_2 < (l0_1.length : Int)
      ·rw [if_pos c22] at H
       have c22b0 : decide (x5_2 < (l0_1.length : Int)) = true := decide_eq_true c22
       clear c22
       by_cases c23 : 0 ≤ x5_2
       ·rw [if_pos c23] at H
        have c23b0 : decide (0 ≤ x5_2) = true := decide_eq_true c23
        clear c23
        by_cases c24 : x5_2 < (l1_1.length : Int)
        ·rw [if_pos c24] at H
         have c24b0 : decide (x5_2 < (l1_1.length : Int)) = true := decide_eq_true c24
         clear c24
         by_cases c25 : (!(((rd_T34 l0_1 x5_2).f0) == ((rd_T34 l1_1 x5_2).f0)) || (!(((rd_T34 l0_1 x5_2).f1) == ((rd_T34 l1_1 x5_2).f1)))) = true
         ·rw [if_pos c25] at H
          have c25b0 : (!(((rd_T34 l0_1 x5_2).f0) == ((rd_T34 l1_1 x5_2).f0)) || (!(((rd_T34 l0_1 x5_2).f1) == ((rd_T34 l1_1 x5_2).f1)))) = true := c25
          clear c25
          obtain rfl := Option.some.inj H
          have hnb26 := NB510_511.out
          have hnc26 := NB511_510.out
          obtain ⟨z0, z1, z2, z3, y0, y1, y2, y3⟩ := bc4 BK510
          have p512 : 0 ≤ (x5_2 : Int) := pos_
          have q512 : x5_2 < (l0_1.length : Int) := pos_
          obtain ⟨ad512, e512, hx512_0, hx512_1⟩ := at_T34 HR0_1.out x5_2 p512 q512
          cases e512
          replace hx512_0 := (HB.out.cell (World.block_lt_of_cell? w _ hx512_0)).trans hx512_0
          replace hx512_1 := (HB.out.cell (World.block_lt_of_cell? w _ hx512_1)).trans hx512_1
          replace p512 := eq_true p512
          replace q512 := eq_true q512
          obtain ⟨z0, z1, z2, z3, y0, y1, y2, y3⟩ := bc4 BK511
          have p513 : 0 ≤ (x5_2 : Int) := pos_
          have q513 : x5_2 < (l1_1.length : Int) := pos_
          obtain ⟨ad513, e513, hx513_0, hx513_1⟩ := at_T34 HR1_1.out x5_2 p513 q513
          cases e513
          replace hx513_0 := (HB.out.cell (World.block_lt_of_cell? w _ hx513_0)).trans hx513_0
          replace hx513_1 := (HB.out.cell (World.block_lt_of_cell? w _ hx513_1)).trans hx513_1
          replace p513 := eq_true p513
          replace q513 := eq_true q513
          go_wp2
          repeat (go_quiet (fail); try go_wp2)
          go_ret
          exact ⟨rerr, hbx HB⟩
         ·rw [if_neg c25] at H
          have c25b0 : (!(((rd_T34 l0_1 x5_2).f0) == ((rd_T34 l1_1 x5_2).f0)) || (!(((rd_T34 l0_1 x5_2).f1) == ((rd_T34 l1_1 x5_2).f1)))) = false := by simpa using c25
          clear c25
          have H' := Aside0.mk H
          clear H
          have hnb29 := NB510_511.out
          have hnc29 := NB511_510.out
          obtain ⟨z0, z1, z2, z3, y0, y1, y2, y3⟩ := bc4 BK510
          have p512 : 0 ≤ (x5_2 : Int) := pos_
          have q512 : x5_2 < (l0_1.length : Int) := pos_
          obtain ⟨ad512, e512, hx512_0, hx512_1⟩ := at_T34 HR0_1.out x5_2 p512 q512
          cases e512
          replace hx512_0 := (HB.out.cell (World.block_lt_of_cell? w _ hx512_0)).trans hx512_0
          replace hx512_1 := (HB.out.cell (World.block_lt_of_cell? w _ hx512_1)).trans hx512_1
          replace p512 := eq_true p512
          replace q512 := eq_true q512
          obtain ⟨z0, z1, z2, z3, y0, y1, y2, y3⟩ := bc4 BK511
          have p513 : 0 ≤ (x5_2 : Int) := pos_
          have q513 : x5_2 < (l1_1.length : Int) := pos_
          obtain ⟨ad513, e513, hx513_0, hx513_1⟩ := at_T34 HR1_1.out x5_2 p513 q513
          cases e513
          replace hx513_0 := (HB.out.cell (World.block_lt_of_cell? w _ hx513_0)).trans hx513_0
          replace hx513_1 := (HB.out.cell (World.block_lt_of_cell? w _ hx513_1)).trans hx513_1
          replace p513 := eq_true p513
          replace q513 := eq_true q513
          go_wp2
          repeat (go_quiet (fail); try go_wp2)
          go_roundg k2
          case measure => have := HJ2.out; have := HK2.out; omega
          case rel => exact ⟨(wrap64 (x5_2 + 1)), rfs, H', ⟨by have := HJ2.out; have := HK2.out; omega⟩, bkA BK510, bkA BK511, hbA HB⟩
        ·rw [if_neg c24] at H
         exact absurd H (by simp)
       ·rw [if_neg c23] at H
        exact absurd H (by simp)
      ·rw [if_neg c22] at H
       have c22b0 : decide (x5_2 < (l0_1.length : Int)) = false := decide_eq_false c22
       clear c22
       have H' := Aside0.mk H
       clear H
       have hnb32 := NB510_511.out
       have hnc32 := NB511_510.out
       obtain ⟨z0, z1, z2, z3, y0, y1, y2, y3⟩ := bc4 BK510
       go_wp2
       repeat (go_quiet (fail); try go_wp2)
       go_loopg [6] k2 (fun kq v6 w' => ∃ (x6_3 : Int), v6 = .int .i64 x6_3 ∧ Aside0 (hopmeshref12_Same.l1 kq x6_3 a0_0 l0_1 l0_2 l0_3 a1_0 l1_1 l1_2 l1_3 = some r) ∧ Aside0 (kq ≤ k2) ∧ Aside0 (w'.heap[gb510]? = some (.cells #[.int .i64 a0_0, (.slice A0_1 l0_1.length c0_1), (.slice A0_2 l0_2.length c0_2), (.slice A0_3 l0_3.length c0_3)] 25 (0, 0))) ∧ Aside0 (w'.heap[gb511]? = some (.cells #[.int .i64 a1_0, (.slice A1_1 l1_1.length c1_1), (.slice A1_2 l1_2.length c1_2), (.slice A1_3 l1_3.length c1_3)] 25 (0, 0))) ∧ Aside0 (Below w.heap.size w w'))
       case atStart => exact ⟨(0), rfs, H', ⟨Nat.le_refl _⟩, bkA BK510, bkA BK511, hbA HB⟩
       case round =>
        clear H'
        try clear c21
        try clear c22
        try clear c22b0
        try clear hcz33_0
        try clear hcz33_1
        try clear hcz33_2
        try clear hcz33_3
        try clear hfz33_0
        try clear hfz33_1
        try clear hfz33_2
        try clear hfz33_3
        obtain ⟨x6_3, rfl, HA, HK3, BK510, BK511, HB⟩ := hrel
        cases gk with
        | zero => exact absurd HA.out (by simp [hopmeshref12_Same.l1])
        | succ k3 =>
         have H := HA.out
         clear HA
         simp only [hopmeshref12_Same.l1] at H
         by_cases c34 : x6_3 < (l0_2.length : Int)
         ·rw [if_pos c34] at H
          have c34b0 : decide (x6_3 < (l0_2.length : Int)) = true := decide_eq_true c34
          clear c34
          by_cases c35 : 0 ≤ x6_3
          ·rw [if_pos c35] at H
           have c35b0 : decide (0 ≤ x6_3) = true := decide_eq_true c35
           clear c35
           by_cases c36 : x6_3 < (l1_2.length : Int)
           ·rw [if_pos c36] at H
            have c36b0 : decide (x6_3 < (l1_2.length : Int)) = true := decide_eq_true c36
            clear c36
            by_cases c37 : (rd l0_2 x6_3) = (rd l1_2 x6_3)
            ·rw [if_pos c37] at H
             have c37b0 : ((rd l0_2 x6_3) == (rd l1_2 x6_3)) = true := beq_iff_eq.mpr c37
             have c37b1 : ((rd l0_2 x6_3) != (rd l1_2 x6_3)) = false := bne_eq_false_iff_eq.mpr c37
             clear c37
             have H' := Aside0.mk H
             clear H
             have hnb38 := NB510_511.out
             have hnc38 := NB511_510.out
             obtain ⟨z0, z1, z2, z3, y0, y1, y2, y3⟩ := bc4 BK510
             have p514 : 0 ≤ (x6_3 : Int) := pos_
             have q514 : x6_3 < (l0_2.length : Int) := pos_
             obtain ⟨ad514, e514, hx514_0⟩ := Kd.at_int HR0_2.out x6_3 p514 q514
             cases e514
             replace hx514_0 := (HB.out.cell (World.block_lt_of_cell? w _ hx514_0)).trans hx514_0
             replace p514 := eq_true p514
             replace q514 := eq_true q514
             obtain ⟨z0, z1, z2, z3, y0, y1, y2, y3⟩ := bc4 BK511
             have p515 : 0 ≤ (x6_3 : Int) := pos_
             have q515 : x6_3 < (l1_2.length : Int) := pos_
             obtain ⟨ad515, e515, hx515_0⟩ := Kd.at_int HR1_2.out x6_3 p515 q515
             cases e515
             replace hx515_0 := (HB.out.cell (World.block_lt_of_cell? w _ hx515_0)).trans hx515_0
             replace p515 := eq_true p515
             replace q515 := eq_true q515
             go_wp2
             repeat (go_quiet (fail); try go_wp2)
             go_roundg k3
             case measure => have := HJ2.out; have := HK2.out; have := HK3.out; omega
             case rel => exact ⟨(wrap64 (x6_3 + 1)), rfs, H', ⟨by have := HJ2.out; have := HK2.out; have := HK3.out; omega⟩, bkA BK510, bkA BK511, hbA HB⟩
            ·rw [if_neg c37] at H
             have c37b0 : ((rd l0_2 x6_3) == (rd l1_2 x6_3)) = false := beq_eq_false_iff_ne.mpr c37
             have c37b1 : ((rd l0_2 x6_3) != (rd l1_2 x6_3)) = true := bne_iff_ne.mpr c37
             obtain rfl := Option.some.inj H
             have hnb41 := NB510_511.out
             have hnc41 := NB511_510.out
             obtain ⟨z0, z1, z2, z3, y0, y1, y2, y3⟩ := bc4 BK510
             have p514 : 0 ≤ (x6_3 : Int) := pos_
             have q514 : x6_3 < (l0_2.length : Int) := pos_
             obtain ⟨ad514, e514, hx514_0⟩ := Kd.at_int HR0_2.out x6_3 p514 q514
             cases e514
             replace hx514_0 := (HB.out.cell (World.block_lt_of_cell? w _ hx514_0)).trans hx514_0
             replace p514 := eq_true p514
             replace q514 := eq_true q514
             obtain ⟨z0, z1, z2, z3, y0, y1, y2, y3⟩ := bc4 BK511
             have p515 : 0 ≤ (x6_3 : Int) := pos_
             have q515 : x6_3 < (l1_2.length : Int) := pos_
             obtain ⟨ad515, e515, hx515_0⟩ := Kd.at_int HR1_2.out x6_3 p515 q515
             cases e515
             replace hx515_0 := (HB.out.cell (World.block_lt_of_cell? w _ hx515_0)).trans hx515_0
             replace p515 := eq_true p515
             replace q515 := eq_true q515
             go_wp2
             repeat (go_quiet (fail); try go_wp2)
             go_ret
             exact ⟨rerr, hbx HB⟩
           ·rw [if_neg c36] at H
            exact absurd H (by simp)
          ·rw [if_neg c35] at H
           exact absurd H (by simp)
         ·rw [if_neg c34] at H
          have c34b0 : decide (x6_3 < (l0_2.length : Int)) = false := decide_eq_false c34
          clear c34
          have H' := Aside0.mk H
          clear H
          have hnb44 := NB510_511.out
          have hnc44 := NB511_510.out
          obtain ⟨z0, z1, z2, z3, y0, y1, y2, y3⟩ := bc4 BK510
          go_wp2
          repeat (go_quiet (fail); try go_wp2)
          go_loopg [7] k3 (fun kq v7 w' => ∃ (x7_4 : Int), v7 = .int .i64 x7_4 ∧ Aside0 (hopmeshref12_Same.l2 kq x7_4 a0_0 l0_1 l0_2 l0_3 a1_0 l1_1 l1_2 l1_3 = some r) ∧ Aside0 (kq ≤ k3) ∧ Aside0 (w'.heap[gb510]? = some (.cells #[.int .i64 a0_0, (.slice A0_1 l0_1.length c0_1), (.slice A0_2 l0_2.length c0_2), (.slice A0_3 l0_3.length c0_3)] 25 (0, 0))) ∧ Aside0 (w'.heap[gb511]? = some (.cells #[.int .i64 a1_0, (.slice A1_1 l1_1.length c1_1), (.slice A1_2 l1_2.length c1_2), (.slice A1_3 l1_3.length c1_3)] 25 (0, 0))) ∧ Aside0 (Below w.heap.size w w'))
          case atStart => exact ⟨(0), rfs, H', ⟨Nat.le_refl _⟩, bkA BK510, bkA BK511, hbA HB⟩
          case round =>
           clear H'
           try clear c21
           try clear c22
           try clear c22b0
           try clear c34
           try clear c34b0
           try clear hcz33_0
           try clear hcz33_1
           try clear hcz33_2
           try clear hcz33_3
           try clear hcz45_0
           try clear hcz45_1
           try clear hcz45_2
           try clear hcz45_3
           try clear hfz33_0
           try clear hfz33_1
           try clear hfz33_2
           try clear hfz33_3
           try clear hfz45_0
           try clear hfz45_1
           try clear hfz45_2
           try clear hfz45_3
           obtain ⟨x7_4, rfl, HA, HK4, BK510, BK511, HB⟩ := hrel
           cases gk with
           | zero => exact absurd HA.out (by simp [hopmeshref12_Same.l2])
           | succ k4 =>
            have H := HA.out
            clear HA
            simp only [hopmeshref12_Same.l2] at H
            by_cases c46 : x7_4 < (l0_3.length : Int)
            ·rw [if_pos c46] at H
             have c46b0 : decide (x7_4 < (l0_3.length : Int)) = true := decide_eq_true c46
             clear c46
             by_cases c47 : 0 ≤ x7_4
             ·rw [if_pos c47] at H
              have c47b0 : decide (0 ≤ x7_4) = true := decide_eq_true c47
              clear c47
              by_cases c48 : x7_4 < (l1_3.length : Int)
              ·rw [if_pos c48] at H
               have c48b0 : decide (x7_4 < (l1_3.length : Int)) = true := decide_eq_true c48
               clear c48
               by_cases c49 : (rd l0_3 x7_4) = (rd l1_3 x7_4)
               ·rw [if_pos c49] at H
                have c49b0 : ((rd l0_3 x7_4) == (rd l1_3 x7_4)) = true := beq_iff_eq.mpr c49
                have c49b1 : ((rd l0_3 x7_4) != (rd l1_3 x7_4)) = false := bne_eq_false_iff_eq.mpr c49
                clear c49
                have H' := Aside0.mk H
                clear H
                have hnb50 := NB510_511.out
                have hnc50 := NB511_510.out
                obtain ⟨z0, z1, z2, z3, y0, y1, y2, y3⟩ := bc4 BK510
                have p516 : 0 ≤ (x7_4 : Int) := pos_
                have q516 : x7_4 < (l0_3.length : Int) := pos_
                obtain ⟨ad516, e516, hx516_0⟩ := Kd.at_int HR0_3.out x7_4 p516 q516
                cases e516
                replace hx516_0 := (HB.out.cell (World.block_lt_of_cell? w _ hx516_0)).trans hx516_0
                replace p516 := eq_true p516
                replace q516 := eq_true q516
                obtain ⟨z0, z1, z2, z3, y0, y1, y2, y3⟩ := bc4 BK511
                have p517 : 0 ≤ (x7_4 : Int) := pos_
                have q517 : x7_4 < (l1_3.length : Int) := pos_
                obtain ⟨ad517, e517, hx517_0⟩ := Kd.at_int HR1_3.out x7_4 p517 q517
                cases e517
                replace hx517_0 := (HB.out.cell (World.block_lt_of_cell? w _ hx517_0)).trans hx517_0
                replace p517 := eq_true p517
                replace q517 := eq_true q517
                go_wp2
                repeat (go_quiet (fail); try go_wp2)
                go_roundg k4
                case measure => have := HJ2.out; have := HK2.out; have := HK3.out; have := HK4.out; omega
                case rel => exact ⟨(wrap64 (x7_4 + 1)), rfs, H', ⟨by have := HJ2.out; have := HK2.out; have := HK3.out; have := HK4.out; omega⟩, bkA BK510, bkA BK511, hbA HB⟩
               ·rw [if_neg c49] at H
                have c49b0 : ((rd l0_3 x7_4) == (rd l1_3 x7_4)) = false := beq_eq_false_iff_ne.mpr c49
                have c49b1 : ((rd l0_3 x7_4) != (rd l1_3 x7_4)) = true := bne_iff_ne.mpr c49
                obtain rfl := Option.some.inj H
                have hnb53 := NB510_511.out
                have hnc53 := NB511_510.out
                obtain ⟨z0, z1, z2, z3, y0, y1, y2, y3⟩ := bc4 BK510
                have p516 : 0 ≤ (x7_4 : Int) := pos_
                have q516 : x7_4 < (l0_3.length : Int) := pos_
                obtain ⟨ad516, e516, hx516_0⟩ := Kd.at_int HR0_3.out x7_4 p516 q516
                cases e516
                replace hx516_0 := (HB.out.cell (World.block_lt_of_cell? w _ hx516_0)).trans hx516_0
                replace p516 := eq_true p516
                replace q516 := eq_true q516
                obtain ⟨z0, z1, z2, z3, y0, y1, y2, y3⟩ := bc4 BK511
                have p517 : 0 ≤ (x7_4 : Int) := pos_
                have q517 : x7_4 < (l1_3.length : Int) := pos_
                obtain ⟨ad517, e517, hx517_0⟩ := Kd.at_int HR1_3.out x7_4 p517 q517
                cases e517
                replace hx517_0 := (HB.out.cell (World.block_lt_of_cell? w _ hx517_0)).trans hx517_0
                replace p517 := eq_true p517
                replace q517 := eq_true q517
                go_wp2
                repeat (go_quiet (fail); try go_wp2)
                go_ret
                exact ⟨rerr, hbx HB⟩
              ·rw [if_neg c48] at H
               exact absurd H (by simp)
             ·rw [if_neg c47] at H
              exact absurd H (by simp)
            ·rw [if_neg c46] at H
             have c46b0 : decide (x7_4 < (l0_3.length : Int)) = false := decide_eq_false c46
             clear c46
             obtain rfl := Option.some.inj H
             have hnb56 := NB510_511.out
             have hnc56 := NB511_510.out
             obtain ⟨z0, z1, z2, z3, y0, y1, y2, y3⟩ := bc4 BK510
             go_wp2
             repeat (go_quiet (fail); try go_wp2)
             go_ret
             exact ⟨rerr, hbx HB⟩
end Go.Proofs.Ytnipgplobipeeaa.PQ
