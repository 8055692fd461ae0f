-- Printed by fprint.py and zip.py, programs of this session's, over the kit's print; Lean checks it.
import Derived.Test.YtnipgplobipeeaaZ0
import Derived.Test.YtnipgplobipeeaaZf44
import Derived.Test.YtnipgplobipeeaaZf46
namespace Go.Proofs.Ytnipgplobipeeaa.PQ
open Go.RowKit Go.Proofs.YtnipgplobipeeaaW.PrintWords Go.Proofs.YtnipgplobipeeaaW.PrintLast Go.Proofs.YtnipgplobipeeaaW.PrintMore
attribute [local go_sem] max2_int min2_int max_two min_two max_three min_three max_four min_four   -- for this text's walks alone
set_option linter.unusedVariables false
set_option linter.unusedSimpArgs false
mutual
def hopmeshref12_worst.l0 : Nat → Int → Int → Int → Int → Int → List (S34) → List Int → List Int → Option (Int)
 | 0, _, _, _, _, _, _, _, _ => none
 | k + 1, x1, x2, x7, x8, x697000, x697001, x697002, x697003 => if x8 < 16 then (if 0 ≤ x8 then (if x8 < (x697002.length : Int) then (if (rd x697002 x8) = 0 then (if x8 < (x697001.length : Int) then (if ((rd_T34 x697001 x8).f0) < x1 then (hopmeshref12_worst.j1 k x1 x2 x7 x8 true x697000 x697001 x697002 x697003) else ((hopmeshref12_rate.f ((rd_T34 x697001 x8).f0) ((rd_T34 x697001 x8).f1)).bind fun t700 => (hopmeshref12_worst.j1 k x1 x2 x7 x8 (decide (t700 ≥ x2)) x697000 x697001 x697002 x697003))) else (none)) else (hopmeshref12_worst.j1 k x1 x2 x7 x8 true x697000 x697001 x697002 x697003)) else (none)) else (none)) else (some x7)
def hopmeshref12_worst.j1 : Nat → Int → Int → Int → Int → Bool → Int → List (S34) → List Int → List Int → Option (Int)
 | 0, _, _, _, _, _, _, _, _, _ => none
 | k + 1, x1, x2, x7, x8, x38, x697000, x697001, x697002, x697003 => if x38 = true then (hopmeshref12_worst.l0 k x1 x2 x7 (wrap64 (x8 + 1)) x697000 x697001 x697002 x697003) else (if x7 < 0 then (hopmeshref12_worst.l0 k x1 x2 x8 (wrap64 (x8 + 1)) x697000 x697001 x697002 x697003) else (if 0 ≤ x8 then (if x8 < (x697001.length : Int) then (if 0 ≤ x7 then (if x7 < (x697001.length : Int) then ((hopmeshref12_less.f ((rd_T34 x697001 x8).f0) ((rd_T34 x697001 x8).f1) ((rd_T34 x697001 x7).f0) ((rd_T34 x697001 x7).f1)).bind fun t703 => (if t703 = true then (hopmeshref12_worst.l0 k x1 x2 x8 (wrap64 (x8 + 1)) x697000 x697001 x697002 x697003) else (hopmeshref12_worst.l0 k x1 x2 x7 (wrap64 (x8 + 1)) x697000 x697001 x697002 x697003))) else (none)) else (none)) else (none)) else (none)))
end
def hopmeshref12_worst.f (k : Nat) (a0_0 : Int) (l0_1 : List (S34)) (l0_2 : List Int) (l0_3 : List Int) (a1 : Int) (a2 : Int) : Option (Int) := hopmeshref12_worst.l0 k a1 a2 (-1) 0 a0_0 l0_1 l0_2 l0_3
theorem hopmeshref12_worst.mono_l : ∀ k, (∀ y0 y1 y2 y3 y4 y5 y6 y7, LeO (hopmeshref12_worst.l0 k y0 y1 y2 y3 y4 y5 y6 y7) (hopmeshref12_worst.l0 (k + 1) y0 y1 y2 y3 y4 y5 y6 y7)) ∧ (∀ y0 y1 y2 y3 y4 y5 y6 y7 y8, LeO (hopmeshref12_worst.j1 k y0 y1 y2 y3 y4 y5 y6 y7 y8) (hopmeshref12_worst.j1 (k + 1) y0 y1 y2 y3 y4 y5 y6 y7 y8))
 | 0 => ⟨fun _ _ _ _ _ _ _ _ r h => by simp [hopmeshref12_worst.l0] at h, fun _ _ _ _ _ _ _ _ _ r h => by simp [hopmeshref12_worst.j1] at h⟩
 | k + 1 => by
  obtain ⟨ih0, ih1⟩ := hopmeshref12_worst.mono_l k
  refine ⟨?_, ?_⟩
  ·intro y0 y1 y2 y3 y4 y5 y6 y7
   unfold hopmeshref12_worst.l0
   repeat' first
   | (with_reducible exact ih0 _ _ _ _ _ _ _ _)
   | (with_reducible exact ih1 _ _ _ _ _ _ _ _ _)
   | (with_reducible exact LeO.refl _)
   | (with_reducible exact LeO.none _)
   | (with_reducible refine LeO.ite ?_ ?_)
   | (with_reducible refine LeO.bind ?_ (fun _ => ?_))
   | exact ih0 _ _ _ _ _ _ _ _
   | exact ih1 _ _ _ _ _ _ _ _ _
   | exact LeO.none _
   | refine LeO.ite ?_ ?_
   | refine LeO.bind ?_ (fun _ => ?_)
  ·intro y0 y1 y2 y3 y4 y5 y6 y7 y8
   unfold hopmeshref12_worst.j1
   repeat' first
   | (with_reducible exact ih0 _ _ _ _ _ _ _ _)
   | (with_reducible exact ih1 _ _ _ _ _ _ _ _ _)
   | (with_reducible exact LeO.refl _)
   | (with_reducible exact LeO.none _)
   | (with_reducible refine LeO.ite ?_ ?_)
   | (with_reducible refine LeO.bind ?_ (fun _ => ?_))
   | exact ih0 _ _ _ _ _ _ _ _
   | exact ih1 _ _ _ _ _ _ _ _ _
   | exact LeO.none _
   | refine LeO.ite ?_ ?_
   | refine LeO.bind ?_ (fun _ => ?_)
theorem hopmeshref12_worst.mono : ∀ a0 a1 a2 a3 a4 a5 k, LeO (hopmeshref12_worst.f k a0 a1 a2 a3 a4 a5) (hopmeshref12_worst.f (k + 1) a0 a1 a2 a3 a4 a5) := by
 intro a0 a1 a2 a3 a4 a5 k
 obtain ⟨ih0, ih1⟩ := hopmeshref12_worst.mono_l k
 unfold hopmeshref12_worst.f
 repeat' first
  | (with_reducible exact ih0 _ _ _ _ _ _ _ _)
  | (with_reducible exact ih1 _ _ _ _ _ _ _ _ _)
  | (with_reducible exact LeO.refl _)
  | (with_reducible exact LeO.none _)
  | (with_reducible refine LeO.ite ?_ ?_)
  | (with_reducible refine LeO.bind ?_ (fun _ => ?_))
  | exact ih0 _ _ _ _ _ _ _ _
  | exact ih1 _ _ _ _ _ _ _ _ _
  | exact LeO.none _
  | refine LeO.ite ?_ ?_
  | refine LeO.bind ?_ (fun _ => ?_)
def hopmeshref12_worst.T6 : Bool × List (List Nat × List Nat) := (true, [([], []), ([0], [0]), ([1], [1]), ([2], [2]), ([3, 2], [2, 3]), ([2], [2]), ([4, 5, 2], [2, 4, 5]), ([6, 2], [2, 6]), ([2], [2]), ([8, 2], [2, 8]), ([2], [2]), ([9, 10, 2], [2, 9, 10]), ([11, 2], [2, 11]), ([7, 12, 2, 2], [2, 7, 12]), ([2, 13], [2, 13])])
def hopmeshref12_worst.B6 : List Nat := [0, 1, 3, 7, 15, 7, 63, 127, 7, 263, 7, 1799, 3847, 8191, 16383]
theorem hopmeshref12_worst.tab6 : rtab .any (opsOf Try.f50 6) = hopmeshref12_worst.T6 := by kernel_rfl
theorem hopmeshref12_worst.bits6 : waitsOk hopmeshref12_worst.T6.2 hopmeshref12_worst.B6 = true := by kernel_rfl
set_option maxHeartbeats 8000000 in
set_option maxRecDepth 100000 in
theorem hopmeshref12_worst.calls (k : Nat) (a0_0 : Int) (A0_1 : Option Addr) (c0_1 : Nat) (l0_1 : List (S34)) (A0_2 : Option Addr) (c0_2 : Nat) (l0_2 : List Int) (A0_3 : Option Addr) (c0_3 : Nat) (l0_3 : List Int) (a1 : Int) (a2 : Int) (r : Int) (w : World) (hr0_1 : Kd.C k34 w A0_1 l0_1.length l0_1) (hc0_1 : l0_1.length ≤ c0_1) (hr0_2 : Kd.C (Kd.int .i64) w A0_2 l0_2.length l0_2) (hc0_2 : l0_2.length ≤ c0_2) (hr0_3 : Kd.C (Kd.int .i64) w A0_3 l0_3.length l0_3) (hc0_3 : l0_3.length ≤ c0_3) (h : hopmeshref12_worst.f k a0_0 l0_1 l0_2 l0_3 a1 a2 = some r) :
 Calls Try.prog 50 #[.agg #[.int .i64 a0_0, .slice A0_1 l0_1.length c0_1, .slice A0_2 l0_2.length c0_2, .slice A0_3 l0_3.length c0_3], .int .i64 a1, .int .i64 a2] w fun e w' => e = .returned (.int .i64 r) ∧ Below w.heap.size w w' := by
 have hu25 := Try.underlying25
 have hu34 := Try.underlying34
 have HR0_1 := Aside0.mk hr0_1
 have HC0_1 := Aside0.mk hc0_1
 clear hr0_1 hc0_1
 have HR0_2 := Aside0.mk hr0_2
 have HC0_2 := Aside0.mk hc0_2
 clear hr0_2 hc0_2
 have HR0_3 := Aside0.mk hr0_3
 have HC0_3 := Aside0.mk hc0_3
 clear hr0_3 hc0_3
 have HB := Aside0.mk (Below.refl w.heap.size w)
 have H : (hopmeshref12_worst.l0 k a1 a2 (-1) 0 a0_0 l0_1 l0_2 l0_3) = some r := h
 clear h
 have H' := Aside0.mk H
 clear H
 go_enter Try.func50, Try.ntmps50
 go_wp2_with (first | ((with_reducible refine gate_dst (N := 3) rfl ?_); refine boxE 3 #[.int .i64 a0_0, .slice A0_1 l0_1.length c0_1, .slice A0_2 l0_2.length c0_2, .slice A0_3 l0_3.length c0_3] 25 ?_; intro gb696 hg w4 hbox hb; have BK696 := Aside0.mk (hbox); have GW696 := gw hg HB; have GE696 := gw hg HB; replace HB := hbS HB hb; clear hb hbox hg))
 go_loopg [7, 8] k (fun kq v7 v8 w' => ∃ (x7_1 : Int) (x8_1 : Int), v7 = .int .i64 x7_1 ∧ v8 = .int .i64 x8_1 ∧ Aside0 (hopmeshref12_worst.l0 kq a1 a2 x7_1 x8_1 a0_0 l0_1 l0_2 l0_3 = some r) ∧ Aside0 (kq ≤ k) ∧ Aside0 (w'.heap[gb696]? = some (.cells #[.int .i64 a0_0, (.slice A0_1 l0_1.length c0_1), (.slice A0_2 l0_2.length c0_2), (.slice A0_3 l0_3.length c0_3)] 25 (0, 0))) ∧ Aside0 (Below w.heap.size w w'))
 case atStart => exact ⟨((-1)), (0), rfs, rfs, H', ⟨Nat.le_refl _⟩, bkA BK696, hbA HB⟩
 case round =>
  clear H'
  obtain ⟨x7_1, x8_1, rfl, rfl, HA, HK1, BK696, HB⟩ := hrel
  cases gk with
  | zero => exact absurd HA.out (by simp [hopmeshref12_worst.l0])
  | succ k1 =>
   have H := HA.out
   clear HA
   simp only [hopmeshref12_worst.l0] at H
   by_cases c5 : x8_1 < 16
   ·rw [if_pos c5] at H
    have c5b0 : decide (x8_1 < 16) = true := decide_eq_true c5
    clear c5
    have HC6 := Aside0.mk H
    clear H
    go_upto_region 5 with (fail)
    go_cut [38] (fun v38 wc => ∃ (kq : Nat) (x38_5 : Bool), v38 = .bool x38_5 ∧ Aside0 (hopmeshref12_worst.j1 kq a1 a2 x7_1 x8_1 x38_5 a0_0 l0_1 l0_2 l0_3 = some r) ∧ Aside0 (kq ≤ k1) ∧ Aside0 (wc.heap[gb696]? = some (.cells #[.int .i64 a0_0, (.slice A0_1 l0_1.length c0_1), (.slice A0_2 l0_2.length c0_2), (.slice A0_3 l0_3.length c0_3)] 25 (0, 0))) ∧ Aside0 (Below w.heap.size w wc))
    case first =>
     have H := HC6.out
     clear HC6
     by_cases c7 : 0 ≤ x8_1
     ·rw [if_pos c7] at H
      have c7b0 : decide (0 ≤ x8_1) = true := decide_eq_true c7
      clear c7
      (first | rw [c7b0] | (simp only [i64_w, i32_w]; rw [c7b0]) | skip)
      by_cases c8 : x8_1 < (l0_2.length : Int)
      ·rw [if_pos c8] at H
       have c8b0 : decide (x8_1 < (l0_2.length : Int)) = true := decide_eq_true c8
       clear c8
       by_cases c9 : (rd l0_2 x8_1) = 0
       ·rw [if_pos c9] at H
        have c9b0 : ((rd l0_2 x8_1) == 0) = true := beq_iff_eq.mpr c9
        have c9b1 : ((rd l0_2 x8_1) != 0) = false := bne_eq_false_iff_eq.mpr c9
        clear c9
        by_cases c10 : x8_1 < (l0_1.length : Int)
        ·rw [if_pos c10] at H
         have c10b0 : decide (x8_1 < (l0_1.length : Int)) = true := decide_eq_true c10
         clear c10
         by_cases c11 : ((rd_T34 l0_1 x8_1).f0) < a1
         ·rw [if_pos c11] at H
          have c11b0 : decide (((rd_T34 l0_1 x8_1).f0) < a1) = true := decide_eq_true c11
          clear c11
          have H' := Aside0.mk H
          clear H
          obtain ⟨z0, z1, z2, z3, y0, y1, y2, y3⟩ := bc4 BK696
          have p697 : 0 ≤ (x8_1 : Int) := pos_
          have q697 : x8_1 < (l0_2.length : Int) := pos_
          obtain ⟨ad697, e697, hx697_0⟩ := Kd.at_int HR0_2.out x8_1 p697 q697
          cases e697
          replace hx697_0 := (HB.out.cell (World.block_lt_of_cell? w _ hx697_0)).trans hx697_0
          replace p697 := eq_true p697
          replace q697 := eq_true q697
          have p698 : 0 ≤ (x8_1 : Int) := pos_
          have q698 : x8_1 < (l0_1.length : Int) := pos_
          obtain ⟨ad698, e698, hx698_0, hx698_1⟩ := at_T34 HR0_1.out x8_1 p698 q698
          cases e698
          replace hx698_0 := (HB.out.cell (World.block_lt_of_cell? w _ hx698_0)).trans hx698_0
          replace hx698_1 := (HB.out.cell (World.block_lt_of_cell? w _ hx698_1)).trans hx698_1
          replace p698 := eq_true p698
          replace q698 := eq_true q698
          go_wp2
          go_meet
          case rel => exact ⟨_, (true), rfs, H', ⟨by have := HK1.out; first | omega | exact Nat.le_refl _⟩, bkA BK696, hbA HB⟩
         ·rw [if_neg c11] at H
          have c11b0 : decide (((rd_T34 l0_1 x8_1).f0) < a1) = false := decide_eq_false c11
          clear c11
          replace H := Option.bind_eq_some_iff.mp H
          obtain ⟨t700, A130, H⟩ := H
          (try dsimp only at H)
          have A13 := Aside0.mk A130
          clear A130
          have H' := Aside0.mk H
          clear H
          obtain ⟨z0, z1, z2, z3, y0, y1, y2, y3⟩ := bc4 BK696
          have p697 : 0 ≤ (x8_1 : Int) := pos_
          have q697 : x8_1 < (l0_2.length : Int) := pos_
          obtain ⟨ad697, e697, hx697_0⟩ := Kd.at_int HR0_2.out x8_1 p697 q697
          cases e697
          replace hx697_0 := (HB.out.cell (World.block_lt_of_cell? w _ hx697_0)).trans hx697_0
          replace p697 := eq_true p697
          replace q697 := eq_true q697
          have p698 : 0 ≤ (x8_1 : Int) := pos_
          have q698 : x8_1 < (l0_1.length : Int) := pos_
          obtain ⟨ad698, e698, hx698_0, hx698_1⟩ := at_T34 HR0_1.out x8_1 p698 q698
          cases e698
          replace hx698_0 := (HB.out.cell (World.block_lt_of_cell? w _ hx698_0)).trans hx698_0
          replace hx698_1 := (HB.out.cell (World.block_lt_of_cell? w _ hx698_1)).trans hx698_1
          replace p698 := eq_true p698
          replace q698 := eq_true q698
          have p699 : 0 ≤ (x8_1 : Int) := pos_
          have q699 : x8_1 < (l0_1.length : Int) := pos_
          obtain ⟨ad699, e699, hx699_0, hx699_1⟩ := at_T34 HR0_1.out x8_1 p699 q699
          obtain rfl : ad698 = ad699 := (by injection e699)
          replace hx699_0 := (HB.out.cell (World.block_lt_of_cell? w _ hx699_0)).trans hx699_0
          replace hx699_1 := (HB.out.cell (World.block_lt_of_cell? w _ hx699_1)).trans hx699_1
          replace p699 := eq_true p699
          replace q699 := eq_true q699
          go_wp2_with (first | (go_at_call 44; (with_reducible refine (hopmeshref12_rate.calls ((rd_T34 l0_1 x8_1).f0) ((rd_T34 l0_1 x8_1).f1) t700 _ A13.out).mono ?_); rintro e w15 ⟨rfl, hb⟩; replace BK696 := bkB BK696 hb; replace HB := hbS HB hb; (try clear hb); (try clear hb2); (try clear hk); (try clear hi)))
          go_meet
          case rel => exact ⟨_, (decide (t700 ≥ a2)), rfs, H', ⟨by have := HK1.out; first | omega | exact Nat.le_refl _⟩, bkA BK696, hbA HB⟩
        ·rw [if_neg c10] at H
         exact absurd H (by simp)
       ·rw [if_neg c9] at H
        have c9b0 : ((rd l0_2 x8_1) == 0) = false := beq_eq_false_iff_ne.mpr c9
        have c9b1 : ((rd l0_2 x8_1) != 0) = true := bne_iff_ne.mpr c9
        have H' := Aside0.mk H
        clear H
        obtain ⟨z0, z1, z2, z3, y0, y1, y2, y3⟩ := bc4 BK696
        have p697 : 0 ≤ (x8_1 : Int) := pos_
        have q697 : x8_1 < (l0_2.length : Int) := pos_
        obtain ⟨ad697, e697, hx697_0⟩ := Kd.at_int HR0_2.out x8_1 p697 q697
        cases e697
        replace hx697_0 := (HB.out.cell (World.block_lt_of_cell? w _ hx697_0)).trans hx697_0
        replace p697 := eq_true p697
        replace q697 := eq_true q697
        go_wp2
        go_meet
        case rel => exact ⟨_, (true), rfs, H', ⟨by have := HK1.out; first | omega | exact Nat.le_refl _⟩, bkA BK696, hbA HB⟩
      ·rw [if_neg c8] at H
       exact absurd H (by simp)
     ·rw [if_neg c7] at H
      exact absurd H (by simp)
    case rest =>
     clear HC6
     try clear c5
     try clear c5b0
     obtain ⟨kq, x38_5, rfl, HA, HJ5, BK696, HB⟩ := hcut
     cases kq with
     | zero => exact absurd HA.out (by simp [hopmeshref12_worst.j1])
     | succ kj5 =>
      have H := HA.out
      clear HA
      simp only [hopmeshref12_worst.j1] at H
      by_cases c17 : x38_5 = true
      ·subst c17
       rw [if_pos rfl] at H
       have H' := Aside0.mk H
       clear H
       go_wp2
       go_roundg kj5
       case measure => have := HK1.out; have := HJ5.out; omega
       case rel => exact ⟨(x7_1), (wrap64 (x8_1 + 1)), rfs, rfs, H', ⟨by have := HK1.out; have := HJ5.out; omega⟩, bkA BK696, hbA HB⟩
      ·replace c17 := Bool.eq_false_iff.mpr c17
       subst c17
       rw [if_neg (show ¬ (false = true) by decide)] at H
       by_cases c18 : x7_1 < 0
       ·rw [if_pos c18] at H
        have c18b0 : decide (x7_1 < 0) = true := decide_eq_true c18
        clear c18
        have H' := Aside0.mk H
        clear H
        try go_wp2
        replace BK696 := Aside0.mk (blk_drew BK696.out)
        replace HB := Aside0.mk (below_drew1 HB.out)
        refine start_ (n := 15) (S := fun w' => True) (ds := []) #[false, false, false, false, false, false, false, false, false, false, false, false, false, false, false] (by kernel_rfl) rfl rfl trivial (fun hHeld => ?_); refine with_tabW hopmeshref12_worst.tab6 hopmeshref12_worst.bits6 (fun HT_ HW_ => ?_)
        generalize wc.drew = w19 at BK696 HB hHeld ⊢
        refine pur 0 (some 39) #[true, false, false, false, false, false, false, false, false, false, false, false, false, false, false] HT_ ?_
        refine pur 1 (some 40) #[true, true, false, false, false, false, false, false, false, false, false, false, false, false, false] HT_ ?_
        refine pur 2 (some 41) #[true, true, true, false, false, false, false, false, false, false, false, false, false, false, false] HT_ ?_
        refine pure_ (i := 3) (N := some 42) (v := undef) (a' := ?_) #[true, true, true, true, false, false, false, false, false, false, false, false, false, false, false] rfl rfl (any_of HT_.out (by kernel_rfl)) (fun _ _ _ h => h) (Or.inr ⟨by rfl, rfl⟩) ?_ ?_
        rotate_left
        ·simp only [Act.put, List.setIfInBounds_toArray, List.set_cons_zero, List.set_cons_succ, i64_w, i32_w]
         rfl
        refine pure_ (i := 4) (N := some 43) (v := undef) (a' := ?_) #[true, true, true, true, true, false, false, false, false, false, false, false, false, false, false] rfl rfl (any_of HT_.out (by kernel_rfl)) (fun _ _ _ h => h) (Or.inr ⟨by rfl, rfl⟩) ?_ ?_
        rotate_left
        ·simp only [Act.put, List.setIfInBounds_toArray, List.set_cons_zero, List.set_cons_succ, i64_w, i32_w]
         rfl
        refine pure_ (i := 5) (N := some 44) (v := undef) (a' := ?_) #[true, true, true, true, true, true, false, false, false, false, false, false, false, false, false] rfl rfl (any_of HT_.out (by kernel_rfl)) (fun _ _ _ h => h) (Or.inr ⟨by rfl, rfl⟩) ?_ ?_
        rotate_left
        ·simp only [Act.put, List.setIfInBounds_toArray, List.set_cons_zero, List.set_cons_succ, i64_w, i32_w]
         rfl
        refine pure_ (i := 6) (N := some 45) (v := undef) (a' := ?_) #[true, true, true, true, true, true, true, false, false, false, false, false, false, false, false] rfl rfl (any_of HT_.out (by kernel_rfl)) (fun _ _ _ h => h) (Or.inr ⟨by rfl, rfl⟩) ?_ ?_
        rotate_left
        ·simp only [Act.put, List.setIfInBounds_toArray, List.set_cons_zero, List.set_cons_succ, i64_w, i32_w]
         rfl
        refine pure_ (i := 7) (N := some 46) (v := undef) (a' := ?_) #[true, true, true, true, true, true, true, true, false, false, false, false, false, false, false] rfl rfl (any_of HT_.out (by kernel_rfl)) (fun _ _ _ h => h) (Or.inr ⟨by rfl, rfl⟩) ?_ ?_
        rotate_left
        ·simp only [Act.put, List.setIfInBounds_toArray, List.set_cons_zero, List.set_cons_succ, i64_w, i32_w]
         rfl
        refine pure_ (i := 8) (N := some 47) (v := undef) (a' := ?_) #[true, true, true, true, true, true, true, true, true, false, false, false, false, false, false] rfl rfl (any_of HT_.out (by kernel_rfl)) (fun _ _ _ h => h) (Or.inr ⟨by rfl, rfl⟩) ?_ ?_
        rotate_left
        ·simp only [Act.put, List.setIfInBounds_toArray, List.set_cons_zero, List.set_cons_succ, i64_w, i32_w]
         rfl
        refine pure_ (i := 9) (N := some 48) (v := undef) (a' := ?_) #[true, true, true, true, true, true, true, true, true, true, false, false, false, false, false] rfl rfl (any_of HT_.out (by kernel_rfl)) (fun _ _ _ h => h) (Or.inr ⟨by rfl, rfl⟩) ?_ ?_
        rotate_left
        ·simp only [Act.put, List.setIfInBounds_toArray, List.set_cons_zero, List.set_cons_succ, i64_w, i32_w]
         rfl
        refine pure_ (i := 10) (N := some 49) (v := undef) (a' := ?_) #[true, true, true, true, true, true, true, true, true, true, true, false, false, false, false] rfl rfl (any_of HT_.out (by kernel_rfl)) (fun _ _ _ h => h) (Or.inr ⟨by rfl, rfl⟩) ?_ ?_
        rotate_left
        ·simp only [Act.put, List.setIfInBounds_toArray, List.set_cons_zero, List.set_cons_succ, i64_w, i32_w]
         rfl
        refine pure_ (i := 11) (N := some 50) (v := undef) (a' := ?_) #[true, true, true, true, true, true, true, true, true, true, true, true, false, false, false] rfl rfl (any_of HT_.out (by kernel_rfl)) (fun _ _ _ h => h) (Or.inr ⟨by rfl, rfl⟩) ?_ ?_
        rotate_left
        ·simp only [Act.put, List.setIfInBounds_toArray, List.set_cons_zero, List.set_cons_succ, i64_w, i32_w]
         rfl
        refine pure_ (i := 12) (N := some 51) (v := undef) (a' := ?_) #[true, true, true, true, true, true, true, true, true, true, true, true, true, false, false] rfl rfl (any_of HT_.out (by kernel_rfl)) (fun _ _ _ h => h) (Or.inr ⟨by rfl, rfl⟩) ?_ ?_
        rotate_left
        ·simp only [Act.put, List.setIfInBounds_toArray, List.set_cons_zero, List.set_cons_succ, i64_w, i32_w]
         rfl
        refine pure_ (i := 13) (N := some 52) (v := undef) (a' := ?_) #[true, true, true, true, true, true, true, true, true, true, true, true, true, true, false] rfl rfl (any_of HT_.out (by kernel_rfl)) (fun _ _ _ h => h) (Or.inr ⟨by rfl, rfl⟩) ?_ ?_
        rotate_left
        ·simp only [Act.put, List.setIfInBounds_toArray, List.set_cons_zero, List.set_cons_succ, i64_w, i32_w]
         rfl
        refine pur 14 (some 53) #[true, true, true, true, true, true, true, true, true, true, true, true, true, true, true] HT_ ?_
        refine done_ (done_of HT_.out (by kernel_rfl)) ?_
        try go_wp2
        go_roundg kj5
        case measure => have := HK1.out; have := HJ5.out; omega
        case rel => exact ⟨(x8_1), (wrap64 (x8_1 + 1)), rfs, rfs, H', ⟨by have := HK1.out; have := HJ5.out; omega⟩, bkA BK696, hbA HB⟩
       ·rw [if_neg c18] at H
        have c18b0 : decide (x7_1 < 0) = false := decide_eq_false c18
        clear c18
        by_cases c20 : 0 ≤ x8_1
        ·rw [if_pos c20] at H
         have c20b0 : decide (0 ≤ x8_1) = true := decide_eq_true c20
         clear c20
         by_cases c21 : x8_1 < (l0_1.length : Int)
         ·rw [if_pos c21] at H
          have c21b0 : decide (x8_1 < (l0_1.length : Int)) = true := decide_eq_true c21
          clear c21
          by_cases c22 : 0 ≤ x7_1
          ·rw [if_pos c22] at H
           have c22b0 : decide (0 ≤ x7_1) = true := decide_eq_true c22
           clear c22
           by_cases c23 : x7_1 < (l0_1.length : Int)
           ·rw [if_pos c23] at H
            have c23b0 : decide (x7_1 < (l0_1.length : Int)) = true := decide_eq_true c23
            clear c23
            replace H := Option.bind_eq_some_iff.mp H
            obtain ⟨t703, A240, H⟩ := H
            (try dsimp only at H)
            have A24 := Aside0.mk A240
            clear A240
            by_cases c25 : t703 = true
            ·subst c25
             rw [if_pos rfl] at H
             have H' := Aside0.mk H
             clear H
             try go_wp2
             replace BK696 := Aside0.mk (blk_drew BK696.out)
             replace HB := Aside0.mk (below_drew1 HB.out)
             have p701 : 0 ≤ (x8_1 : Int) := pos_
             have q701 : x8_1 < (l0_1.length : Int) := pos_
             obtain ⟨ad701, e701, hx701_0, hx701_1⟩ := at_T34 HR0_1.out x8_1 p701 q701
             have hw701_1 := hx701_1
             have hw701_0 := hx701_0
             cases e701
             replace hx701_0 := (HB.out.cell (World.block_lt_of_cell? w _ hx701_0)).trans hx701_0
             replace hx701_1 := (HB.out.cell (World.block_lt_of_cell? w _ hx701_1)).trans hx701_1
             replace p701 := eq_true p701
             replace q701 := eq_true q701
             have p702 : 0 ≤ (x7_1 : Int) := pos_
             have q702 : x7_1 < (l0_1.length : Int) := pos_
             obtain ⟨ad702, e702, hx702_0, hx702_1⟩ := at_T34 HR0_1.out x7_1 p702 q702
             have hw702_1 := hx702_1
             have hw702_0 := hx702_0
             obtain rfl : ad701 = ad702 := (by injection e702)
             replace hx702_0 := (HB.out.cell (World.block_lt_of_cell? w _ hx702_0)).trans hx702_0
             replace hx702_1 := (HB.out.cell (World.block_lt_of_cell? w _ hx702_1)).trans hx702_1
             replace p702 := eq_true p702
             replace q702 := eq_true q702
             refine start_ (n := 15) (S := fun w' => w'.cell? ⟨gb696, 0, none⟩ = some (.int .i64 a0_0) ∧ w'.cell? ⟨gb696, 1, none⟩ = some (.slice (some ad701) l0_1.length c0_1) ∧ w'.cell? ⟨gb696, 2, none⟩ = some (.slice A0_2 l0_2.length c0_2) ∧ w'.cell? ⟨gb696, 3, none⟩ = some (.slice A0_3 l0_3.length c0_3) ∧ w'.cell? (ad701.add ((x8_1).toNat * 2)) = some (.int .i64 ((rd_T34 l0_1 x8_1).f0)) ∧ w'.cell? ⟨(ad701.add ((x8_1).toNat * 2)).block, (ad701.add ((x8_1).toNat * 2)).off + 1, none⟩ = some (.int .i64 ((rd_T34 l0_1 x8_1).f1)) ∧ w'.cell? (ad701.add ((x7_1).toNat * 2)) = some (.int .i64 ((rd_T34 l0_1 x7_1).f0)) ∧ w'.cell? ⟨(ad701.add ((x7_1).toNat * 2)).block, (ad701.add ((x7_1).toNat * 2)).off + 1, none⟩ = some (.int .i64 ((rd_T34 l0_1 x7_1).f1))) (ds := []) #[false, false, false, false, false, false, false, false, false, false, false, false, false, false, false] (by kernel_rfl) rfl rfl ⟨(blk_cell BK696.out 0).trans rfl, (blk_cell BK696.out 1).trans rfl, (blk_cell BK696.out 2).trans rfl, (blk_cell BK696.out 3).trans rfl, ((HB.out.cell (World.block_lt_of_cell? w _ hw701_0)).trans hw701_0), ((HB.out.cell (World.block_lt_of_cell? w _ hw701_1)).trans hw701_1), ((HB.out.cell (World.block_lt_of_cell? w _ hw702_0)).trans hw702_0), ((HB.out.cell (World.block_lt_of_cell? w _ hw702_1)).trans hw702_1)⟩ (fun hHeld => ?_); refine with_tabW hopmeshref12_worst.tab6 hopmeshref12_worst.bits6 (fun HT_ HW_ => ?_)
             generalize wc.drew = w26 at BK696 HB hx701_0 hx701_1 hx702_0 hx702_1 hHeld ⊢
             refine pur 0 (some 39) #[true, false, false, false, false, false, false, false, false, false, false, false, false, false, false] HT_ ?_
             refine pur 1 (some 40) #[true, true, false, false, false, false, false, false, false, false, false, false, false, false, false] HT_ ?_
             refine pur 2 (some 41) #[true, true, true, false, false, false, false, false, false, false, false, false, false, false, false] HT_ ?_
             refine pur 3 (some 42) #[true, true, true, true, false, false, false, false, false, false, false, false, false, false, false] HT_ ?_
             refine pur 5 (some 44) #[true, true, true, true, false, true, false, false, false, false, false, false, false, false, false] HT_ ?_
             refine pur 8 (some 47) #[true, true, true, true, false, true, false, false, true, false, false, false, false, false, false] HT_ ?_
             refine pur 10 (some 49) #[true, true, true, true, false, true, false, false, true, false, true, false, false, false, false] HT_ ?_
             refine tak 4 (some 43) #[true, true, true, true, true, true, false, false, true, false, true, false, false, false, false] HT_ HW_ hHeld rfl (Or.inl ⟨by rfl, by rintro w' ⟨s0, s1, s2, s3, s4, s5, s6, s7⟩; go_simp; with_reducible rfl⟩) ?_
             refine pur 6 (some 45) #[true, true, true, true, true, true, true, false, true, false, true, false, false, false, false] HT_ ?_
             refine tak 7 (some 46) #[true, true, true, true, true, true, true, true, true, false, true, false, false, false, false] HT_ HW_ hHeld rfl (Or.inl ⟨by rfl, by rintro w' ⟨s0, s1, s2, s3, s4, s5, s6, s7⟩; go_simp; with_reducible rfl⟩) ?_
             refine tak 9 (some 48) #[true, true, true, true, true, true, true, true, true, true, true, false, false, false, false] HT_ HW_ hHeld rfl (Or.inl ⟨by rfl, by rintro w' ⟨s0, s1, s2, s3, s4, s5, s6, s7⟩; go_simp; with_reducible rfl⟩) ?_
             refine pur 11 (some 50) #[true, true, true, true, true, true, true, true, true, true, true, true, false, false, false] HT_ ?_
             refine tak 12 (some 51) #[true, true, true, true, true, true, true, true, true, true, true, true, true, false, false] HT_ HW_ hHeld rfl (Or.inl ⟨by rfl, by rintro w' ⟨s0, s1, s2, s3, s4, s5, s6, s7⟩; go_simp; with_reducible rfl⟩) ?_
             refine one_ (i := 13) (N := some 52) #[true, true, true, true, true, true, true, true, true, true, true, true, true, true, false] rfl rfl (one_of HT_.out (by kernel_rfl)) (by decide) (fun K hK => ?_)
             refine goes_ Try.func46 (by kernel_rfl) rfl #[.agg #[.int .i64 ((rd_T34 l0_1 x8_1).f0), .int .i64 ((rd_T34 l0_1 x8_1).f1)], .agg #[.int .i64 ((rd_T34 l0_1 x7_1).f0), .int .i64 ((rd_T34 l0_1 x7_1).f1)]] (by rfl) rfl rfl sma ?_
             with_reducible refine (hopmeshref12_less.calls ((rd_T34 l0_1 x8_1).f0) ((rd_T34 l0_1 x8_1).f1) ((rd_T34 l0_1 x7_1).f0) ((rd_T34 l0_1 x7_1).f1) true _ A24.out).mono ?_
             rintro e w27 ⟨rfl, hb⟩
             refine ⟨_, rfl, ?_⟩
             replace BK696 := bkB BK696 hb
             replace HB := hbS HB hb
             (try clear hb)
             refine hK.out _ _ ⟨(blk_cell BK696.out 0).trans rfl, (blk_cell BK696.out 1).trans rfl, (blk_cell BK696.out 2).trans rfl, (blk_cell BK696.out 3).trans rfl, ((HB.out.cell (World.block_lt_of_cell? w _ hw701_0)).trans hw701_0), ((HB.out.cell (World.block_lt_of_cell? w _ hw701_1)).trans hw701_1), ((HB.out.cell (World.block_lt_of_cell? w _ hw702_0)).trans hw702_0), ((HB.out.cell (World.block_lt_of_cell? w _ hw702_1)).trans hw702_1)⟩ (fun hHeld => ?_)
             clear hK K
             refine nrm (some 52) ?_
             refine pur 14 (some 53) #[true, true, true, true, true, true, true, true, true, true, true, true, true, true, true] HT_ ?_
             refine done_ (done_of HT_.out (by kernel_rfl)) ?_
             try go_wp2
             go_roundg kj5
             case measure => have := HK1.out; have := HJ5.out; omega
             case rel => exact ⟨(x8_1), (wrap64 (x8_1 + 1)), rfs, rfs, H', ⟨by have := HK1.out; have := HJ5.out; omega⟩, bkA BK696, hbA HB⟩
            ·replace c25 := Bool.eq_false_iff.mpr c25
             subst c25
             rw [if_neg (show ¬ (false = true) by decide)] at H
             have H' := Aside0.mk H
             clear H
             try go_wp2
             replace BK696 := Aside0.mk (blk_drew BK696.out)
             replace HB := Aside0.mk (below_drew1 HB.out)
             have p701 : 0 ≤ (x8_1 : Int) := pos_
             have q701 : x8_1 < (l0_1.length : Int) := pos_
             obtain ⟨ad701, e701, hx701_0, hx701_1⟩ := at_T34 HR0_1.out x8_1 p701 q701
             have hw701_1 := hx701_1
             have hw701_0 := hx701_0
             cases e701
             replace hx701_0 := (HB.out.cell (World.block_lt_of_cell? w _ hx701_0)).trans hx701_0
             replace hx701_1 := (HB.out.cell (World.block_lt_of_cell? w _ hx701_1)).trans hx701_1
             replace p701 := eq_true p701
             replace q701 := eq_true q701
             have p702 : 0 ≤ (x7_1 : Int) := pos_
             have q702 : x7_1 < (l0_1.length : Int) := pos_
             obtain ⟨ad702, e702, hx702_0, hx702_1⟩ := at_T34 HR0_1.out x7_1 p702 q702
             have hw702_1 := hx702_1
             have hw702_0 := hx702_0
             obtain rfl : ad701 = ad702 := (by injection e702)
             replace hx702_0 := (HB.out.cell (World.block_lt_of_cell? w _ hx702_0)).trans hx702_0
             replace hx702_1 := (HB.out.cell (World.block_lt_of_cell? w _ hx702_1)).trans hx702_1
             replace p702 := eq_true p702
             replace q702 := eq_true q702
             refine start_ (n := 15) (S := fun w' => w'.cell? ⟨gb696, 0, none⟩ = some (.int .i64 a0_0) ∧ w'.cell? ⟨gb696, 1, none⟩ = some (.slice (some ad701) l0_1.length c0_1) ∧ w'.cell? ⟨gb696, 2, none⟩ = some (.slice A0_2 l0_2.length c0_2) ∧ w'.cell? ⟨gb696, 3, none⟩ = some (.slice A0_3 l0_3.length c0_3) ∧ w'.cell? (ad701.add ((x8_1).toNat * 2)) = some (.int .i64 ((rd_T34 l0_1 x8_1).f0)) ∧ w'.cell? ⟨(ad701.add ((x8_1).toNat * 2)).block, (ad701.add ((x8_1).toNat * 2)).off + 1, none⟩ = some (.int .i64 ((rd_T34 l0_1 x8_1).f1)) ∧ w'.cell? (ad701.add ((x7_1).toNat * 2)) = some (.int .i64 ((rd_T34 l0_1 x7_1).f0)) ∧ w'.cell? ⟨(ad701.add ((x7_1).toNat * 2)).block, (ad701.add ((x7_1).toNat * 2)).off + 1, none⟩ = some (.int .i64 ((rd_T34 l0_1 x7_1).f1))) (ds := []) #[false, false, false, false, false, false, false, false, false, false, false, false, false, false, false] (by kernel_rfl) rfl rfl ⟨(blk_cell BK696.out 0).trans rfl, (blk_cell BK696.out 1).trans rfl, (blk_cell BK696.out 2).trans rfl, (blk_cell BK696.out 3).trans rfl, ((HB.out.cell (World.block_lt_of_cell? w _ hw701_0)).trans hw701_0), ((HB.out.cell (World.block_lt_of_cell? w _ hw701_1)).trans hw701_1), ((HB.out.cell (World.block_lt_of_cell? w _ hw702_0)).trans hw702_0), ((HB.out.cell (World.block_lt_of_cell? w _ hw702_1)).trans hw702_1)⟩ (fun hHeld => ?_); refine with_tabW hopmeshref12_worst.tab6 hopmeshref12_worst.bits6 (fun HT_ HW_ => ?_)
             generalize wc.drew = w28 at BK696 HB hx701_0 hx701_1 hx702_0 hx702_1 hHeld ⊢
             refine pur 0 (some 39) #[true, false, false, false, false, false, false, false, false, false, false, false, false, false, false] HT_ ?_
             refine pur 1 (some 40) #[true, true, false, false, false, false, false, false, false, false, false, false, false, false, false] HT_ ?_
             refine pur 2 (some 41) #[true, true, true, false, false, false, false, false, false, false, false, false, false, false, false] HT_ ?_
             refine pur 3 (some 42) #[true, true, true, true, false, false, false, false, false, false, false, false, false, false, false] HT_ ?_
             refine pur 5 (some 44) #[true, true, true, true, false, true, false, false, false, false, false, false, false, false, false] HT_ ?_
             refine pur 8 (some 47) #[true, true, true, true, false, true, false, false, true, false, false, false, false, false, false] HT_ ?_
             refine pur 10 (some 49) #[true, true, true, true, false, true, false, false, true, false, true, false, false, false, false] HT_ ?_
             refine tak 4 (some 43) #[true, true, true, true, true, true, false, false, true, false, true, false, false, false, false] HT_ HW_ hHeld rfl (Or.inl ⟨by rfl, by rintro w' ⟨s0, s1, s2, s3, s4, s5, s6, s7⟩; go_simp; with_reducible rfl⟩) ?_
             refine pur 6 (some 45) #[true, true, true, true, true, true, true, false, true, false, true, false, false, false, false] HT_ ?_
             refine tak 7 (some 46) #[true, true, true, true, true, true, true, true, true, false, true, false, false, false, false] HT_ HW_ hHeld rfl (Or.inl ⟨by rfl, by rintro w' ⟨s0, s1, s2, s3, s4, s5, s6, s7⟩; go_simp; with_reducible rfl⟩) ?_
             refine tak 9 (some 48) #[true, true, true, true, true, true, true, true, true, true, true, false, false, false, false] HT_ HW_ hHeld rfl (Or.inl ⟨by rfl, by rintro w' ⟨s0, s1, s2, s3, s4, s5, s6, s7⟩; go_simp; with_reducible rfl⟩) ?_
             refine pur 11 (some 50) #[true, true, true, true, true, true, true, true, true, true, true, true, false, false, false] HT_ ?_
             refine tak 12 (some 51) #[true, true, true, true, true, true, true, true, true, true, true, true, true, false, false] HT_ HW_ hHeld rfl (Or.inl ⟨by rfl, by rintro w' ⟨s0, s1, s2, s3, s4, s5, s6, s7⟩; go_simp; with_reducible rfl⟩) ?_
             refine one_ (i := 13) (N := some 52) #[true, true, true, true, true, true, true, true, true, true, true, true, true, true, false] rfl rfl (one_of HT_.out (by kernel_rfl)) (by decide) (fun K hK => ?_)
             refine goes_ Try.func46 (by kernel_rfl) rfl #[.agg #[.int .i64 ((rd_T34 l0_1 x8_1).f0), .int .i64 ((rd_T34 l0_1 x8_1).f1)], .agg #[.int .i64 ((rd_T34 l0_1 x7_1).f0), .int .i64 ((rd_T34 l0_1 x7_1).f1)]] (by rfl) rfl rfl sma ?_
             with_reducible refine (hopmeshref12_less.calls ((rd_T34 l0_1 x8_1).f0) ((rd_T34 l0_1 x8_1).f1) ((rd_T34 l0_1 x7_1).f0) ((rd_T34 l0_1 x7_1).f1) false _ A24.out).mono ?_
             rintro e w29 ⟨rfl, hb⟩
             refine ⟨_, rfl, ?_⟩
             replace BK696 := bkB BK696 hb
             replace HB := hbS HB hb
             (try clear hb)
             refine hK.out _ _ ⟨(blk_cell BK696.out 0).trans rfl, (blk_cell BK696.out 1).trans rfl, (blk_cell BK696.out 2).trans rfl, (blk_cell BK696.out 3).trans rfl, ((HB.out.cell (World.block_lt_of_cell? w _ hw701_0)).trans hw701_0), ((HB.out.cell (World.block_lt_of_cell? w _ hw701_1)).trans hw701_1), ((HB.out.cell (World.block_lt_of_cell? w _ hw702_0)).trans hw702_0), ((HB.out.cell (World.block_lt_of_cell? w _ hw702_1)).trans hw702_1)⟩ (fun hHeld => ?_)
             clear hK K
             refine nrm (some 52) ?_
             refine pur 14 (some 53) #[true, true, true, true, true, true, true, true, true, true, true, true, true, true, true] HT_ ?_
             refine done_ (done_of HT_.out (by kernel_rfl)) ?_
             try go_wp2
             go_roundg kj5
             case measure => have := HK1.out; have := HJ5.out; omega
             case rel => exact ⟨(x7_1), (wrap64 (x8_1 + 1)), rfs, rfs, H', ⟨by have := HK1.out; have := HJ5.out; omega⟩, bkA BK696, hbA HB⟩
           ·rw [if_neg c23] at H
            exact absurd H (by simp)
          ·rw [if_neg c22] at H
           exact absurd H (by simp)
         ·rw [if_neg c21] at H
          exact absurd H (by simp)
        ·rw [if_neg c20] at H
         exact absurd H (by simp)
   ·rw [if_neg c5] at H
    have c5b0 : decide (x8_1 < 16) = false := decide_eq_false c5
    clear c5
    obtain rfl := Option.some.inj H
    go_wp2
    go_ret
    exact ⟨rerr, hbx HB⟩
end Go.Proofs.Ytnipgplobipeeaa.PQ
