-- Printed by fprint.py and zip.py, programs of this session's, over the kit's print; Lean checks it.
import Derived.Test.YtnipgplobipeeaaZ0
namespace Go.Proofs.Ytnipgplobipeeaa.PQ
open Go.RowKit Go.Proofs.YtnipgplobipeeaaW.PrintWords Go.Proofs.YtnipgplobipeeaaW.PrintLast Go.Proofs.YtnipgplobipeeaaW.PrintMore
attribute [local go_sem] max2_int min2_int max_two min_two max_three min_three max_four min_four   -- for this text's walks alone
set_option linter.unusedVariables false
set_option linter.unusedSimpArgs false
def hopmeshref12_free.l0 : Nat → Int → Int → Int → List (S34) → List Int → List Int → Option (Int)
 | 0, _, _, _, _, _, _ => none
 | k + 1, x3, x4, x695000, x695001, x695002, x695003 => if x4 < 16 then (if 0 ≤ x4 then (if x4 < (x695002.length : Int) then (if (rd x695002 x4) = 0 then (hopmeshref12_free.l0 k (wrap64 (x3 + 1)) (wrap64 (x4 + 1)) x695000 x695001 x695002 x695003) else (hopmeshref12_free.l0 k x3 (wrap64 (x4 + 1)) x695000 x695001 x695002 x695003)) else (none)) else (none)) else (some x3)
def hopmeshref12_free.f (k : Nat) (a0_0 : Int) (l0_1 : List (S34)) (l0_2 : List Int) (l0_3 : List Int) : Option (Int) := hopmeshref12_free.l0 k 0 0 a0_0 l0_1 l0_2 l0_3
theorem hopmeshref12_free.mono_l : ∀ k, (∀ y0 y1 y2 y3 y4 y5, LeO (hopmeshref12_free.l0 k y0 y1 y2 y3 y4 y5) (hopmeshref12_free.l0 (k + 1) y0 y1 y2 y3 y4 y5))
 | 0 => fun _ _ _ _ _ _ r h => by simp [hopmeshref12_free.l0] at h
 | k + 1 => by
  have ih0 := hopmeshref12_free.mono_l k
  ·intro y0 y1 y2 y3 y4 y5
   unfold hopmeshref12_free.l0
   repeat' first
   | (with_reducible exact ih0 _ _ _ _ _ _)
   | (with_reducible exact LeO.refl _)
   | (with_reducible exact LeO.none _)
   | (with_reducible refine LeO.ite ?_ ?_)
   | (with_reducible refine LeO.bind ?_ (fun _ => ?_))
   | exact ih0 _ _ _ _ _ _
   | exact LeO.none _
   | refine LeO.ite ?_ ?_
   | refine LeO.bind ?_ (fun _ => ?_)
theorem hopmeshref12_free.mono : ∀ a0 a1 a2 a3 k, LeO (hopmeshref12_free.f k a0 a1 a2 a3) (hopmeshref12_free.f (k + 1) a0 a1 a2 a3) := by
 intro a0 a1 a2 a3 k
 have ih0 := hopmeshref12_free.mono_l k
 unfold hopmeshref12_free.f
 repeat' first
  | (with_reducible exact ih0 _ _ _ _ _ _)
  | (with_reducible exact LeO.refl _)
  | (with_reducible exact LeO.none _)
  | (with_reducible refine LeO.ite ?_ ?_)
  | (with_reducible refine LeO.bind ?_ (fun _ => ?_))
  | exact ih0 _ _ _ _ _ _
  | exact LeO.none _
  | refine LeO.ite ?_ ?_
  | refine LeO.bind ?_ (fun _ => ?_)
set_option maxHeartbeats 8000000 in
set_option maxRecDepth 100000 in
theorem hopmeshref12_free.calls (k : Nat) (a0_0 : Int) (A0_1 : Option Addr) (c0_1 : Nat) (l0_1 : List (S34)) (A0_2 : Option Addr) (c0_2 : Nat) (l0_2 : List Int) (A0_3 : Option Addr) (c0_3 : Nat) (l0_3 : List Int) (r : Int) (w : World) (hr0_1 : Kd.C k34 w A0_1 l0_1.length l0_1) (hc0_1 : l0_1.length ≤ c0_1) (hr0_2 : Kd.C (Kd.int .i64) w A0_2 l0_2.length l0_2) (hc0_2 : l0_2.length ≤ c0_2) (hr0_3 : Kd.C (Kd.int .i64) w A0_3 l0_3.length l0_3) (hc0_3 : l0_3.length ≤ c0_3) (h : hopmeshref12_free.f k a0_0 l0_1 l0_2 l0_3 = some r) :
 Calls Try.prog 49 #[.agg #[.int .i64 a0_0, .slice A0_1 l0_1.length c0_1, .slice A0_2 l0_2.length c0_2, .slice A0_3 l0_3.length c0_3]] w fun e w' => e = .returned (.int .i64 r) ∧ Below w.heap.size w w' := by
 have hu25 := Try.underlying25
 have HR0_1 := Aside0.mk hr0_1
 have HC0_1 := Aside0.mk hc0_1
 clear hr0_1 hc0_1
 have HR0_2 := Aside0.mk hr0_2
 have HC0_2 := Aside0.mk hc0_2
 clear hr0_2 hc0_2
 have HR0_3 := Aside0.mk hr0_3
 have HC0_3 := Aside0.mk hc0_3
 clear hr0_3 hc0_3
 have HB := Aside0.mk (Below.refl w.heap.size w)
 have H : (hopmeshref12_free.l0 k 0 0 a0_0 l0_1 l0_2 l0_3) = some r := h
 clear h
 have H' := Aside0.mk H
 clear H
 go_enter Try.func49, Try.ntmps49
 go_wp2_with (first | ((with_reducible refine gate_dst (N := 1) rfl ?_); refine boxE 1 #[.int .i64 a0_0, .slice A0_1 l0_1.length c0_1, .slice A0_2 l0_2.length c0_2, .slice A0_3 l0_3.length c0_3] 25 ?_; intro gb694 hg w2 hbox hb; have BK694 := Aside0.mk (hbox); have GW694 := gw hg HB; have GE694 := gw hg HB; replace HB := hbS HB hb; clear hb hbox hg))
 go_loopg [3, 4] k (fun kq v3 v4 w' => ∃ (x3_1 : Int) (x4_1 : Int), v3 = .int .i64 x3_1 ∧ v4 = .int .i64 x4_1 ∧ Aside0 (hopmeshref12_free.l0 kq x3_1 x4_1 a0_0 l0_1 l0_2 l0_3 = some r) ∧ Aside0 (kq ≤ k) ∧ Aside0 (w'.heap[gb694]? = some (.cells #[.int .i64 a0_0, (.slice A0_1 l0_1.length c0_1), (.slice A0_2 l0_2.length c0_2), (.slice A0_3 l0_3.length c0_3)] 25 (0, 0))) ∧ Aside0 (Below w.heap.size w w'))
 case atStart => exact ⟨(0), (0), rfs, rfs, H', ⟨Nat.le_refl _⟩, bkA BK694, hbA HB⟩
 case round =>
  clear H'
  obtain ⟨x3_1, x4_1, rfl, rfl, HA, HK1, BK694, HB⟩ := hrel
  cases gk with
  | zero => exact absurd HA.out (by simp [hopmeshref12_free.l0])
  | succ k1 =>
   have H := HA.out
   clear HA
   simp only [hopmeshref12_free.l0] at H
   by_cases c3 : x4_1 < 16
   ·rw [if_pos c3] at H
    have c3b0 : decide (x4_1 < 16) = true := decide_eq_true c3
    clear c3
    by_cases c4 : 0 ≤ x4_1
    ·rw [if_pos c4] at H
     have c4b0 : decide (0 ≤ x4_1) = true := decide_eq_true c4
     clear c4
     by_cases c5 : x4_1 < (l0_2.length : Int)
     ·rw [if_pos c5] at H
      have c5b0 : decide (x4_1 < (l0_2.length : Int)) = true := decide_eq_true c5
      clear c5
      by_cases c6 : (rd l0_2 x4_1) = 0
      ·rw [if_pos c6] at H
       have c6b0 : ((rd l0_2 x4_1) == 0) = true := beq_iff_eq.mpr c6
       have c6b1 : ((rd l0_2 x4_1) != 0) = false := bne_eq_false_iff_eq.mpr c6
       clear c6
       have H' := Aside0.mk H
       clear H
       obtain ⟨z0, z1, z2, z3, y0, y1, y2, y3⟩ := bc4 BK694
       have p695 : 0 ≤ (x4_1 : Int) := pos_
       have q695 : x4_1 < (l0_2.length : Int) := pos_
       obtain ⟨ad695, e695, hx695_0⟩ := Kd.at_int HR0_2.out x4_1 p695 q695
       cases e695
       replace hx695_0 := (HB.out.cell (World.block_lt_of_cell? w _ hx695_0)).trans hx695_0
       replace p695 := eq_true p695
       replace q695 := eq_true q695
       go_wp2
       go_roundg k1
       case measure => have := HK1.out; omega
       case rel => exact ⟨(wrap64 (x3_1 + 1)), (wrap64 (x4_1 + 1)), rfs, rfs, H', ⟨by have := HK1.out; omega⟩, bkA BK694, hbA HB⟩
      ·rw [if_neg c6] at H
       have c6b0 : ((rd l0_2 x4_1) == 0) = false := beq_eq_false_iff_ne.mpr c6
       have c6b1 : ((rd l0_2 x4_1) != 0) = true := bne_iff_ne.mpr c6
       have H' := Aside0.mk H
       clear H
       obtain ⟨z0, z1, z2, z3, y0, y1, y2, y3⟩ := bc4 BK694
       have p695 : 0 ≤ (x4_1 : Int) := pos_
       have q695 : x4_1 < (l0_2.length : Int) := pos_
       obtain ⟨ad695, e695, hx695_0⟩ := Kd.at_int HR0_2.out x4_1 p695 q695
       cases e695
       replace hx695_0 := (HB.out.cell (World.block_lt_of_cell? w _ hx695_0)).trans hx695_0
       replace p695 := eq_true p695
       replace q695 := eq_true q695
       go_wp2
       go_roundg k1
       case measure => have := HK1.out; omega
       case rel => exact ⟨(x3_1), (wrap64 (x4_1 + 1)), rfs, rfs, H', ⟨by have := HK1.out; omega⟩, bkA BK694, hbA HB⟩
     ·rw [if_neg c5] at H
      exact absurd H (by simp)
    ·rw [if_neg c4] at H
     exact absurd H (by simp)
   ·rw [if_neg c3] at H
    have c3b0 : decide (x4_1 < 16) = false := decide_eq_false c3
    clear c3
    obtain rfl := Option.some.inj H
    go_wp2
    go_ret
    exact ⟨rerr, hbx HB⟩
end Go.Proofs.Ytnipgplobipeeaa.PQ
