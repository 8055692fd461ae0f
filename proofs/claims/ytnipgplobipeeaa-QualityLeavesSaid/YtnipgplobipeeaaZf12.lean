-- Printed by fprint.py and zip.py, programs of this session's, over the kit's print; Lean checks it.
import Derived.Test.YtnipgplobipeeaaZ0
import Derived.Test.YtnipgplobipeeaaZf24
import Derived.Test.YtnipgplobipeeaaZf41
namespace Go.Proofs.Ytnipgplobipeeaa.PQ
open Go.RowKit Go.Proofs.YtnipgplobipeeaaW.PrintWords Go.Proofs.YtnipgplobipeeaaW.PrintLast Go.Proofs.YtnipgplobipeeaaW.PrintMore
attribute [local go_sem] max2_int min2_int max_two min_two max_three min_three max_four min_four   -- for this text's walks alone
set_option linter.unusedVariables false
set_option linter.unusedSimpArgs false
mutual
def quality_Valid.j0 : Nat → Bool → Int → List (S34) → List Int → List Int → Option (Int)
 | 0, _, _, _, _, _ => none
 | k + 1, x31, x103000, x103001, x103002, x103003 => if x31 = true then (some 1) else (quality_Valid.l0 k x103001 (x103001.length : Int) 0 x103000 x103001 x103002 x103003)
def quality_Valid.l0 : Nat → List (S34) → Int → Int → Int → List (S34) → List Int → List Int → Option (Int)
 | 0, _, _, _, _, _, _, _ => none
 | k + 1, x33, x34, x35, x103000, x103001, x103002, x103003 => if x35 < x34 then (if 0 ≤ x35 then (if x35 < (x33.length : Int) then (if x35 < (x103002.length : Int) then ((quality_Check.f ((rd_T34 x33 x35).f0) ((rd_T34 x33 x35).f1)).bind fun t106 => (if t106 = 0 then (if x35 < (x103003.length : Int) then ((quality_hold.f (rd x103003 x35)).bind fun t108 => (if t108 = true then (if (rd x103002 x35) = 0 then (quality_Valid.l0 k x33 x34 (wrap64 (x35 + 1)) x103000 x103001 x103002 x103003) else (if (rd x103002 x35) ≤ x103000 then (some 1) else (if (rd x103002 x35) > (wrap64 (x103000 + 64)) then (some 1) else (if (rd x103003 x35) = 0 then (some 1) else (quality_Valid.l0 k x33 x34 (wrap64 (x35 + 1)) x103000 x103001 x103002 x103003))))) else (some 1))) else (none)) else (some 1))) else (none)) else (none)) else (none)) else (some 0)
end
def quality_Valid.f (k : Nat) (a0_0 : Int) (l0_1 : List (S34)) (l0_2 : List Int) (l0_3 : List Int) : Option (Int) := if a0_0 < 0 then (quality_Valid.j0 k true a0_0 l0_1 l0_2 l0_3) else (if a0_0 > 1073741824 then (quality_Valid.j0 k true a0_0 l0_1 l0_2 l0_3) else (if (l0_1.length : Int) = 16 then (if (l0_2.length : Int) = 16 then (quality_Valid.j0 k ((l0_3.length : Int) != 16) a0_0 l0_1 l0_2 l0_3) else (quality_Valid.j0 k true a0_0 l0_1 l0_2 l0_3)) else (quality_Valid.j0 k true a0_0 l0_1 l0_2 l0_3)))
theorem quality_Valid.mono_l : ∀ k, (∀ y0 y1 y2 y3 y4, LeO (quality_Valid.j0 k y0 y1 y2 y3 y4) (quality_Valid.j0 (k + 1) y0 y1 y2 y3 y4)) ∧ (∀ y0 y1 y2 y3 y4 y5 y6, LeO (quality_Valid.l0 k y0 y1 y2 y3 y4 y5 y6) (quality_Valid.l0 (k + 1) y0 y1 y2 y3 y4 y5 y6))
 | 0 => ⟨fun _ _ _ _ _ r h => by simp [quality_Valid.j0] at h, fun _ _ _ _ _ _ _ r h => by simp [quality_Valid.l0] at h⟩
 | k + 1 => by
  obtain ⟨ih0, ih1⟩ := quality_Valid.mono_l k
  refine ⟨?_, ?_⟩
  ·intro y0 y1 y2 y3 y4
   unfold quality_Valid.j0
   repeat' first
   | (with_reducible exact ih0 _ _ _ _ _)
   | (with_reducible exact ih1 _ _ _ _ _ _ _)
   | (with_reducible exact LeO.refl _)
   | (with_reducible exact LeO.none _)
   | (with_reducible refine LeO.ite ?_ ?_)
   | (with_reducible refine LeO.bind ?_ (fun _ => ?_))
   | exact ih0 _ _ _ _ _
   | exact ih1 _ _ _ _ _ _ _
   | exact LeO.none _
   | refine LeO.ite ?_ ?_
   | refine LeO.bind ?_ (fun _ => ?_)
  ·intro y0 y1 y2 y3 y4 y5 y6
   unfold quality_Valid.l0
   repeat' first
   | (with_reducible exact ih0 _ _ _ _ _)
   | (with_reducible exact ih1 _ _ _ _ _ _ _)
   | (with_reducible exact LeO.refl _)
   | (with_reducible exact LeO.none _)
   | (with_reducible refine LeO.ite ?_ ?_)
   | (with_reducible refine LeO.bind ?_ (fun _ => ?_))
   | exact ih0 _ _ _ _ _
   | exact ih1 _ _ _ _ _ _ _
   | exact LeO.none _
   | refine LeO.ite ?_ ?_
   | refine LeO.bind ?_ (fun _ => ?_)
theorem quality_Valid.mono : ∀ a0 a1 a2 a3 k, LeO (quality_Valid.f k a0 a1 a2 a3) (quality_Valid.f (k + 1) a0 a1 a2 a3) := by
 intro a0 a1 a2 a3 k
 obtain ⟨ih0, ih1⟩ := quality_Valid.mono_l k
 unfold quality_Valid.f
 repeat' first
  | (with_reducible exact ih0 _ _ _ _ _)
  | (with_reducible exact ih1 _ _ _ _ _ _ _)
  | (with_reducible exact LeO.refl _)
  | (with_reducible exact LeO.none _)
  | (with_reducible refine LeO.ite ?_ ?_)
  | (with_reducible refine LeO.bind ?_ (fun _ => ?_))
  | exact ih0 _ _ _ _ _
  | exact ih1 _ _ _ _ _ _ _
  | exact LeO.none _
  | refine LeO.ite ?_ ?_
  | refine LeO.bind ?_ (fun _ => ?_)
set_option maxHeartbeats 8000000 in
set_option maxRecDepth 100000 in
theorem quality_Valid.calls (k : Nat) (a0_0 : Int) (A0_1 : Option Addr) (c0_1 : Nat) (l0_1 : List (S34)) (A0_2 : Option Addr) (c0_2 : Nat) (l0_2 : List Int) (A0_3 : Option Addr) (c0_3 : Nat) (l0_3 : List Int) (r : Int) (w : World) (hr0_1 : Kd.C k34 w A0_1 l0_1.length l0_1) (hc0_1 : l0_1.length ≤ c0_1) (hr0_2 : Kd.C (Kd.int .i64) w A0_2 l0_2.length l0_2) (hc0_2 : l0_2.length ≤ c0_2) (hr0_3 : Kd.C (Kd.int .i64) w A0_3 l0_3.length l0_3) (hc0_3 : l0_3.length ≤ c0_3) (h : quality_Valid.f k a0_0 l0_1 l0_2 l0_3 = some r) :
 Calls Try.prog 12 #[.agg #[.int .i64 a0_0, .slice A0_1 l0_1.length c0_1, .slice A0_2 l0_2.length c0_2, .slice A0_3 l0_3.length c0_3]] w fun e w' => e = .returned (.int .i64 r) ∧ Below w.heap.size w w' := by
 have hu25 := Try.underlying25
 have hu34 := Try.underlying34
 have HR0_1 := Aside0.mk hr0_1
 have HC0_1 := Aside0.mk hc0_1
 clear hr0_1 hc0_1
 have HR0_2 := Aside0.mk hr0_2
 have HC0_2 := Aside0.mk hc0_2
 clear hr0_2 hc0_2
 have HR0_3 := Aside0.mk hr0_3
 have HC0_3 := Aside0.mk hc0_3
 clear hr0_3 hc0_3
 have HB := Aside0.mk (Below.refl w.heap.size w)
 have H : (if a0_0 < 0 then (quality_Valid.j0 k true a0_0 l0_1 l0_2 l0_3) else (if a0_0 > 1073741824 then (quality_Valid.j0 k true a0_0 l0_1 l0_2 l0_3) else (if (l0_1.length : Int) = 16 then (if (l0_2.length : Int) = 16 then (quality_Valid.j0 k ((l0_3.length : Int) != 16) a0_0 l0_1 l0_2 l0_3) else (quality_Valid.j0 k true a0_0 l0_1 l0_2 l0_3)) else (quality_Valid.j0 k true a0_0 l0_1 l0_2 l0_3)))) = some r := h
 clear h
 have HC2 := Aside0.mk H
 clear H
 go_enter Try.func12, Try.ntmps12
 go_upto_region 1 with (first | ((with_reducible refine gate_dst (N := 1) rfl ?_); (try (refine gate_guard (by rfl) ?_; dsimp only)); refine boxE 1 #[.int .i64 a0_0, .slice A0_1 l0_1.length c0_1, .slice A0_2 l0_2.length c0_2, .slice A0_3 l0_3.length c0_3] 25 ?_; intro gb102 hg w3 hbox hb; have BK102 := Aside0.mk (hbox); have GW102 := gw hg HB; have GE102 := gw hg HB; replace HB := hbS HB hb; clear hb hbox hg))
 (try simp only [Act.put, List.setIfInBounds_toArray, List.set_cons_zero, List.set_cons_succ])
 go_cut [31] (fun v31 wc => ∃ (kq : Nat) (x31_1 : Bool), v31 = .bool x31_1 ∧ Aside0 (quality_Valid.j0 kq x31_1 a0_0 l0_1 l0_2 l0_3 = some r) ∧ Aside0 (kq ≤ k) ∧ Aside0 (wc.heap[gb102]? = some (.cells #[.int .i64 a0_0, (.slice A0_1 l0_1.length c0_1), (.slice A0_2 l0_2.length c0_2), (.slice A0_3 l0_3.length c0_3)] 25 (0, 0))) ∧ Aside0 (Below w.heap.size w wc))
 case first =>
  have H := HC2.out
  clear HC2
  by_cases c4 : a0_0 < 0
  ·rw [if_pos c4] at H
   have c4b0 : decide (a0_0 < 0) = true := decide_eq_true c4
   clear c4
   (first | rw [c4b0] | (simp only [i64_w, i32_w]; rw [c4b0]) | skip)
   have H' := Aside0.mk H
   clear H
   obtain ⟨z0, z1, z2, z3, y0, y1, y2, y3⟩ := bc4 BK102
   go_wp2
   go_meet
   case rel => exact ⟨_, (true), rfs, H', kle, bkA BK102, hbA HB⟩
  ·rw [if_neg c4] at H
   have c4b0 : decide (a0_0 < 0) = false := decide_eq_false c4
   clear c4
   (first | rw [c4b0] | (simp only [i64_w, i32_w]; rw [c4b0]) | skip)
   by_cases c6 : a0_0 > 1073741824
   ·rw [if_pos c6] at H
    have c6b0 : decide (1073741824 < a0_0) = true := decide_eq_true c6
    clear c6
    have H' := Aside0.mk H
    clear H
    obtain ⟨z0, z1, z2, z3, y0, y1, y2, y3⟩ := bc4 BK102
    go_wp2
    go_meet
    case rel => exact ⟨_, (true), rfs, H', kle, bkA BK102, hbA HB⟩
   ·rw [if_neg c6] at H
    have c6b0 : decide (1073741824 < a0_0) = false := decide_eq_false c6
    clear c6
    by_cases c8 : (l0_1.length : Int) = 16
    ·rw [if_pos c8] at H
     have c8b0 : ((l0_1.length : Int) == 16) = true := beq_iff_eq.mpr c8
     have c8b1 : ((l0_1.length : Int) != 16) = false := bne_eq_false_iff_eq.mpr c8
     clear c8
     by_cases c9 : (l0_2.length : Int) = 16
     ·rw [if_pos c9] at H
      have c9b0 : ((l0_2.length : Int) == 16) = true := beq_iff_eq.mpr c9
      have c9b1 : ((l0_2.length : Int) != 16) = false := bne_eq_false_iff_eq.mpr c9
      clear c9
      have H' := Aside0.mk H
      clear H
      obtain ⟨z0, z1, z2, z3, y0, y1, y2, y3⟩ := bc4 BK102
      go_wp2
      go_meet
      case rel => exact ⟨_, (((l0_3.length : Int) != 16)), rfs, H', kle, bkA BK102, hbA HB⟩
     ·rw [if_neg c9] at H
      have c9b0 : ((l0_2.length : Int) == 16) = false := beq_eq_false_iff_ne.mpr c9
      have c9b1 : ((l0_2.length : Int) != 16) = true := bne_iff_ne.mpr c9
      have H' := Aside0.mk H
      clear H
      obtain ⟨z0, z1, z2, z3, y0, y1, y2, y3⟩ := bc4 BK102
      go_wp2
      go_meet
      case rel => exact ⟨_, (true), rfs, H', kle, bkA BK102, hbA HB⟩
    ·rw [if_neg c8] at H
     have c8b0 : ((l0_1.length : Int) == 16) = false := beq_eq_false_iff_ne.mpr c8
     have c8b1 : ((l0_1.length : Int) != 16) = true := bne_iff_ne.mpr c8
     have H' := Aside0.mk H
     clear H
     obtain ⟨z0, z1, z2, z3, y0, y1, y2, y3⟩ := bc4 BK102
     go_wp2
     go_meet
     case rel => exact ⟨_, (true), rfs, H', kle, bkA BK102, hbA HB⟩
 case rest =>
  clear HC2
  obtain ⟨kq, x31_1, rfl, HA, HJ1, BK102, HB⟩ := hcut
  cases kq with
  | zero => exact absurd HA.out (by simp [quality_Valid.j0])
  | succ kj1 =>
   have H := HA.out
   clear HA
   simp only [quality_Valid.j0] at H
   by_cases c13 : x31_1 = true
   ·subst c13
    rw [if_pos rfl] at H
    obtain rfl := Option.some.inj H
    go_wp2
    go_ret
    exact ⟨rerr, hbx HB⟩
   ·replace c13 := Bool.eq_false_iff.mpr c13
    subst c13
    rw [if_neg (show ¬ (false = true) by decide)] at H
    have H' := Aside0.mk H
    clear H
    obtain ⟨z0, z1, z2, z3, y0, y1, y2, y3⟩ := bc4 BK102
    go_wp2
    go_loopg [35] kj1 (fun kq v35 w' => ∃ (x35_2 : Int), v35 = .int .i64 x35_2 ∧ Aside0 (quality_Valid.l0 kq l0_1 (l0_1.length : Int) x35_2 a0_0 l0_1 l0_2 l0_3 = some r) ∧ Aside0 (kq ≤ kj1) ∧ Aside0 (w'.heap[gb102]? = some (.cells #[.int .i64 a0_0, (.slice A0_1 l0_1.length c0_1), (.slice A0_2 l0_2.length c0_2), (.slice A0_3 l0_3.length c0_3)] 25 (0, 0))) ∧ Aside0 (Below w.heap.size w w'))
    case atStart => exact ⟨(0), rfs, H', ⟨Nat.le_refl _⟩, bkA BK102, hbA HB⟩
    case round =>
     clear H'
     try clear c13
     try clear hcz14_0
     try clear hcz14_1
     try clear hcz14_2
     try clear hcz14_3
     try clear hfz14_0
     try clear hfz14_1
     try clear hfz14_2
     try clear hfz14_3
     obtain ⟨x35_2, rfl, HA, HK2, BK102, HB⟩ := hrel
     cases gk with
     | zero => exact absurd HA.out (by simp [quality_Valid.l0])
     | succ k2 =>
      have H := HA.out
      clear HA
      simp only [quality_Valid.l0] at H
      by_cases c15 : x35_2 < (l0_1.length : Int)
      ·rw [if_pos c15] at H
       have c15b0 : decide (x35_2 < (l0_1.length : Int)) = true := decide_eq_true c15
       clear c15
       by_cases c16 : 0 ≤ x35_2
       ·rw [if_pos c16] at H
        have c16b0 : decide (0 ≤ x35_2) = true := decide_eq_true c16
        clear c16
        by_cases c17 : x35_2 < (l0_1.length : Int)
        ·rw [if_pos c17] at H
         have c17b0 : decide (x35_2 < (l0_1.length : Int)) = true := decide_eq_true c17
         clear c17
         by_cases c18 : x35_2 < (l0_2.length : Int)
         ·rw [if_pos c18] at H
          have c18b0 : decide (x35_2 < (l0_2.length : Int)) = true := decide_eq_true c18
          clear c18
          replace H := Option.bind_eq_some_iff.mp H
          obtain ⟨t106, A190, H⟩ := H
          (try dsimp only at H)
          have A19 := Aside0.mk A190
          clear A190
          by_cases c20 : t106 = 0
          ·rw [if_pos c20] at H
           have c20b0 : (t106 == 0) = true := beq_iff_eq.mpr c20
           have c20b1 : (t106 != 0) = false := bne_eq_false_iff_eq.mpr c20
           clear c20
           by_cases c21 : x35_2 < (l0_3.length : Int)
           ·rw [if_pos c21] at H
            have c21b0 : decide (x35_2 < (l0_3.length : Int)) = true := decide_eq_true c21
            clear c21
            replace H := Option.bind_eq_some_iff.mp H
            obtain ⟨t108, A220, H⟩ := H
            (try dsimp only at H)
            have A22 := Aside0.mk A220
            clear A220
            by_cases c23 : t108 = true
            ·subst c23
             rw [if_pos rfl] at H
             by_cases c24 : (rd l0_2 x35_2) = 0
             ·rw [if_pos c24] at H
              have c24b0 : ((rd l0_2 x35_2) == 0) = true := beq_iff_eq.mpr c24
              have c24b1 : ((rd l0_2 x35_2) != 0) = false := bne_eq_false_iff_eq.mpr c24
              clear c24
              have H' := Aside0.mk H
              clear H
              have p103 : 0 ≤ (x35_2 : Int) := pos_
              have q103 : x35_2 < (l0_1.length : Int) := pos_
              obtain ⟨ad103, e103, hx103_0, hx103_1⟩ := at_T34 HR0_1.out x35_2 p103 q103
              cases e103
              replace hx103_0 := (HB.out.cell (World.block_lt_of_cell? w _ hx103_0)).trans hx103_0
              replace hx103_1 := (HB.out.cell (World.block_lt_of_cell? w _ hx103_1)).trans hx103_1
              replace p103 := eq_true p103
              replace q103 := eq_true q103
              go_wp2_with (first | ((with_reducible refine gate_dst (N := 4) rfl ?_); (try (refine gate_guard (by rfl) ?_; dsimp only)); refine boxE 4 #[.int .i64 0, .int .i64 0] 34 ?_; intro gb104 hg w25 hbox hb; have BK104 := Aside0.mk (hbox); have GW104 := gw hg HB; have GE104 := gw hg HB; replace HB := hbS HB hb; have NB102_104 := nbl hg BK102; have NB104_102 := nbg hg BK102; replace BK102 := bkB BK102 hb; clear hb hbox hg; have hnb26 := NB104_102.out; have hnc26 := NB102_104.out; obtain ⟨z0, z1, y0, y1⟩ := bc2 BK104; obtain ⟨z0, z1, z2, z3, y0, y1, y2, y3⟩ := bc4 BK102; have p105 : 0 ≤ (x35_2 : Int) := pos_; have q105 : x35_2 < (l0_2.length : Int) := pos_; obtain ⟨ad105, e105, hx105_0⟩ := Kd.at_int HR0_2.out x35_2 p105 q105; cases e105; have hn105_0 : ad105.block ≠ gb104 := Nat.ne_of_lt (Nat.lt_of_lt_of_le (by have := World.block_lt_of_cell? _ _ hx105_0; first | rwa [add_block] at this | exact this) GW104.out); have hn105_1 : ad105.block ≠ gb104 := Nat.ne_of_lt (Nat.lt_of_lt_of_le (by have := World.block_lt_of_cell? _ _ hx105_0; first | rwa [add_block] at this | exact this) GW104.out); replace hx105_0 := (HB.out.cell (World.block_lt_of_cell? w _ hx105_0)).trans hx105_0; replace hx105_0 := (cell_far (p := ⟨gb104, 0, none⟩) (by first | (rw [add_block]; exact hn105_0) | (show (Addr.add _ _).block ≠ _; rw [add_block]; exact hn105_0) | exact hn105_0) (.int .i64 ((rd_T34 l0_1 x35_2).f0))).trans hx105_0; replace hx105_0 := (cell_far (p := ⟨gb104, 1, none⟩) (by first | (rw [add_block]; exact hn105_1) | (show (Addr.add _ _).block ≠ _; rw [add_block]; exact hn105_1) | exact hn105_1) (.int .i64 ((rd_T34 l0_1 x35_2).f1))).trans hx105_0; clear hn105_0; clear hn105_1; replace p105 := eq_true p105; replace q105 := eq_true q105) | ((with_reducible refine gate_callee (f := 24) rfl ?_); refine goesL_ (some 46) rfl rfl Try.func24 (by kernel_rfl) rfl #[.agg #[.int .i64 ((rd_T34 l0_1 x35_2).f0), .int .i64 ((rd_T34 l0_1 x35_2).f1)]] rfl sma ?_; (with_reducible refine (quality_Check.calls ((rd_T34 l0_1 x35_2).f0) ((rd_T34 l0_1 x35_2).f1) t106 _ A19.out).mono ?_); rintro e w29 ⟨rfl, hb⟩; refine ⟨_, rfl, ?_⟩; replace BK102 := bkfB BK102 hb; replace BK104 := Aside0.mk (blk_below (o := .cells #[.int .i64 ((rd_T34 l0_1 x35_2).f0), .int .i64 ((rd_T34 l0_1 x35_2).f1)] 34 (0, 0)) (bkp BK104) hb); replace HB := hbS HB hb; (try clear hb); (try clear hb2); (try clear hk); (try clear hi); obtain ⟨z0, z1, z2, z3, y0, y1, y2, y3⟩ := bc4 BK102; have p107 : 0 ≤ (x35_2 : Int) := pos_; have q107 : x35_2 < (l0_3.length : Int) := pos_; obtain ⟨ad107, e107, hx107_0⟩ := Kd.at_int HR0_3.out x35_2 p107 q107; cases e107; replace hx107_0 := (HB.out.cell (World.block_lt_of_cell? w _ hx107_0)).trans hx107_0; replace p107 := eq_true p107; replace q107 := eq_true q107) | (go_at_call 41; (with_reducible refine (quality_hold.calls (rd l0_3 x35_2) true _ A22.out).mono ?_); rintro e w' ⟨rfl, ⟨nd, rfl⟩⟩))
              go_roundg k2
              case measure => have := HJ1.out; have := HK2.out; omega
              case rel => exact ⟨(wrap64 (x35_2 + 1)), rfs, H', ⟨by have := HJ1.out; have := HK2.out; omega⟩, bkA BK102, hbA HB⟩
             ·rw [if_neg c24] at H
              have c24b0 : ((rd l0_2 x35_2) == 0) = false := beq_eq_false_iff_ne.mpr c24
              have c24b1 : ((rd l0_2 x35_2) != 0) = true := bne_iff_ne.mpr c24
              by_cases c31 : (rd l0_2 x35_2) ≤ a0_0
              ·rw [if_pos c31] at H
               have c31b0 : decide ((rd l0_2 x35_2) ≤ a0_0) = true := decide_eq_true c31
               clear c31
               obtain rfl := Option.some.inj H
               have p103 : 0 ≤ (x35_2 : Int) := pos_
               have q103 : x35_2 < (l0_1.length : Int) := pos_
               obtain ⟨ad103, e103, hx103_0, hx103_1⟩ := at_T34 HR0_1.out x35_2 p103 q103
               cases e103
               replace hx103_0 := (HB.out.cell (World.block_lt_of_cell? w _ hx103_0)).trans hx103_0
               replace hx103_1 := (HB.out.cell (World.block_lt_of_cell? w _ hx103_1)).trans hx103_1
               replace p103 := eq_true p103
               replace q103 := eq_true q103
               go_wp2_with (first | ((with_reducible refine gate_dst (N := 4) rfl ?_); (try (refine gate_guard (by rfl) ?_; dsimp only)); refine boxE 4 #[.int .i64 0, .int .i64 0] 34 ?_; intro gb104 hg w32 hbox hb; have BK104 := Aside0.mk (hbox); have GW104 := gw hg HB; have GE104 := gw hg HB; replace HB := hbS HB hb; have NB102_104 := nbl hg BK102; have NB104_102 := nbg hg BK102; replace BK102 := bkB BK102 hb; clear hb hbox hg; have hnb33 := NB104_102.out; have hnc33 := NB102_104.out; obtain ⟨z0, z1, y0, y1⟩ := bc2 BK104; obtain ⟨z0, z1, z2, z3, y0, y1, y2, y3⟩ := bc4 BK102; have p105 : 0 ≤ (x35_2 : Int) := pos_; have q105 : x35_2 < (l0_2.length : Int) := pos_; obtain ⟨ad105, e105, hx105_0⟩ := Kd.at_int HR0_2.out x35_2 p105 q105; cases e105; have hn105_0 : ad105.block ≠ gb104 := Nat.ne_of_lt (Nat.lt_of_lt_of_le (by have := World.block_lt_of_cell? _ _ hx105_0; first | rwa [add_block] at this | exact this) GW104.out); have hn105_1 : ad105.block ≠ gb104 := Nat.ne_of_lt (Nat.lt_of_lt_of_le (by have := World.block_lt_of_cell? _ _ hx105_0; first | rwa [add_block] at this | exact this) GW104.out); replace hx105_0 := (HB.out.cell (World.block_lt_of_cell? w _ hx105_0)).trans hx105_0; replace hx105_0 := (cell_far (p := ⟨gb104, 0, none⟩) (by first | (rw [add_block]; exact hn105_0) | (show (Addr.add _ _).block ≠ _; rw [add_block]; exact hn105_0) | exact hn105_0) (.int .i64 ((rd_T34 l0_1 x35_2).f0))).trans hx105_0; replace hx105_0 := (cell_far (p := ⟨gb104, 1, none⟩) (by first | (rw [add_block]; exact hn105_1) | (show (Addr.add _ _).block ≠ _; rw [add_block]; exact hn105_1) | exact hn105_1) (.int .i64 ((rd_T34 l0_1 x35_2).f1))).trans hx105_0; clear hn105_0; clear hn105_1; replace p105 := eq_true p105; replace q105 := eq_true q105) | ((with_reducible refine gate_callee (f := 24) rfl ?_); refine goesL_ (some 46) rfl rfl Try.func24 (by kernel_rfl) rfl #[.agg #[.int .i64 ((rd_T34 l0_1 x35_2).f0), .int .i64 ((rd_T34 l0_1 x35_2).f1)]] rfl sma ?_; (with_reducible refine (quality_Check.calls ((rd_T34 l0_1 x35_2).f0) ((rd_T34 l0_1 x35_2).f1) t106 _ A19.out).mono ?_); rintro e w36 ⟨rfl, hb⟩; refine ⟨_, rfl, ?_⟩; replace BK102 := bkfB BK102 hb; replace BK104 := Aside0.mk (blk_below (o := .cells #[.int .i64 ((rd_T34 l0_1 x35_2).f0), .int .i64 ((rd_T34 l0_1 x35_2).f1)] 34 (0, 0)) (bkp BK104) hb); replace HB := hbS HB hb; (try clear hb); (try clear hb2); (try clear hk); (try clear hi); obtain ⟨z0, z1, z2, z3, y0, y1, y2, y3⟩ := bc4 BK102; have p107 : 0 ≤ (x35_2 : Int) := pos_; have q107 : x35_2 < (l0_3.length : Int) := pos_; obtain ⟨ad107, e107, hx107_0⟩ := Kd.at_int HR0_3.out x35_2 p107 q107; cases e107; replace hx107_0 := (HB.out.cell (World.block_lt_of_cell? w _ hx107_0)).trans hx107_0; replace p107 := eq_true p107; replace q107 := eq_true q107) | (go_at_call 41; (with_reducible refine (quality_hold.calls (rd l0_3 x35_2) true _ A22.out).mono ?_); rintro e w' ⟨rfl, ⟨nd, rfl⟩⟩))
               go_ret
               exact ⟨rerr, hbx HB⟩
              ·rw [if_neg c31] at H
               have c31b0 : decide ((rd l0_2 x35_2) ≤ a0_0) = false := decide_eq_false c31
               clear c31
               by_cases c38 : (rd l0_2 x35_2) > (wrap64 (a0_0 + 64))
               ·rw [if_pos c38] at H
                have c38b0 : decide ((wrap64 (a0_0 + 64)) < (rd l0_2 x35_2)) = true := decide_eq_true c38
                clear c38
                obtain rfl := Option.some.inj H
                have p103 : 0 ≤ (x35_2 : Int) := pos_
                have q103 : x35_2 < (l0_1.length : Int) := pos_
                obtain ⟨ad103, e103, hx103_0, hx103_1⟩ := at_T34 HR0_1.out x35_2 p103 q103
                cases e103
                replace hx103_0 := (HB.out.cell (World.block_lt_of_cell? w _ hx103_0)).trans hx103_0
                replace hx103_1 := (HB.out.cell (World.block_lt_of_cell? w _ hx103_1)).trans hx103_1
                replace p103 := eq_true p103
                replace q103 := eq_true q103
                go_wp2_with (first | ((with_reducible refine gate_dst (N := 4) rfl ?_); (try (refine gate_guard (by rfl) ?_; dsimp only)); refine boxE 4 #[.int .i64 0, .int .i64 0] 34 ?_; intro gb104 hg w39 hbox hb; have BK104 := Aside0.mk (hbox); have GW104 := gw hg HB; have GE104 := gw hg HB; replace HB := hbS HB hb; have NB102_104 := nbl hg BK102; have NB104_102 := nbg hg BK102; replace BK102 := bkB BK102 hb; clear hb hbox hg; have hnb40 := NB104_102.out; have hnc40 := NB102_104.out; obtain ⟨z0, z1, y0, y1⟩ := bc2 BK104; obtain ⟨z0, z1, z2, z3, y0, y1, y2, y3⟩ := bc4 BK102; have p105 : 0 ≤ (x35_2 : Int) := pos_; have q105 : x35_2 < (l0_2.length : Int) := pos_; obtain ⟨ad105, e105, hx105_0⟩ := Kd.at_int HR0_2.out x35_2 p105 q105; cases e105; have hn105_0 : ad105.block ≠ gb104 := Nat.ne_of_lt (Nat.lt_of_lt_of_le (by have := World.block_lt_of_cell? _ _ hx105_0; first | rwa [add_block] at this | exact this) GW104.out); have hn105_1 : ad105.block ≠ gb104 := Nat.ne_of_lt (Nat.lt_of_lt_of_le (by have := World.block_lt_of_cell? _ _ hx105_0; first | rwa [add_block] at this | exact this) GW104.out); replace hx105_0 := (HB.out.cell (World.block_lt_of_cell? w _ hx105_0)).trans hx105_0; replace hx105_0 := (cell_far (p := ⟨gb104, 0, none⟩) (by first | (rw [add_block]; exact hn105_0) | (show (Addr.add _ _).block ≠ _; rw [add_block]; exact hn105_0) | exact hn105_0) (.int .i64 ((rd_T34 l0_1 x35_2).f0))).trans hx105_0; replace hx105_0 := (cell_far (p := ⟨gb104, 1, none⟩) (by first | (rw [add_block]; exact hn105_1) | (show (Addr.add _ _).block ≠ _; rw [add_block]; exact hn105_1) | exact hn105_1) (.int .i64 ((rd_T34 l0_1 x35_2).f1))).trans hx105_0; clear hn105_0; clear hn105_1; replace p105 := eq_true p105; replace q105 := eq_true q105) | ((with_reducible refine gate_callee (f := 24) rfl ?_); refine goesL_ (some 46) rfl rfl Try.func24 (by kernel_rfl) rfl #[.agg #[.int .i64 ((rd_T34 l0_1 x35_2).f0), .int .i64 ((rd_T34 l0_1 x35_2).f1)]] rfl sma ?_; (with_reducible refine (quality_Check.calls ((rd_T34 l0_1 x35_2).f0) ((rd_T34 l0_1 x35_2).f1) t106 _ A19.out).mono ?_); rintro e w43 ⟨rfl, hb⟩; refine ⟨_, rfl, ?_⟩; replace BK102 := bkfB BK102 hb; replace BK104 := Aside0.mk (blk_below (o := .cells #[.int .i64 ((rd_T34 l0_1 x35_2).f0), .int .i64 ((rd_T34 l0_1 x35_2).f1)] 34 (0, 0)) (bkp BK104) hb); replace HB := hbS HB hb; (try clear hb); (try clear hb2); (try clear hk); (try clear hi); obtain ⟨z0, z1, z2, z3, y0, y1, y2, y3⟩ := bc4 BK102; have p107 : 0 ≤ (x35_2 : Int) := pos_; have q107 : x35_2 < (l0_3.length : Int) := pos_; obtain ⟨ad107, e107, hx107_0⟩ := Kd.at_int HR0_3.out x35_2 p107 q107; cases e107; replace hx107_0 := (HB.out.cell (World.block_lt_of_cell? w _ hx107_0)).trans hx107_0; replace p107 := eq_true p107; replace q107 := eq_true q107) | (go_at_call 41; (with_reducible refine (quality_hold.calls (rd l0_3 x35_2) true _ A22.out).mono ?_); rintro e w' ⟨rfl, ⟨nd, rfl⟩⟩))
                go_ret
                exact ⟨rerr, hbx HB⟩
               ·rw [if_neg c38] at H
                have c38b0 : decide ((wrap64 (a0_0 + 64)) < (rd l0_2 x35_2)) = false := decide_eq_false c38
                clear c38
                by_cases c45 : (rd l0_3 x35_2) = 0
                ·rw [if_pos c45] at H
                 have c45b0 : ((rd l0_3 x35_2) == 0) = true := beq_iff_eq.mpr c45
                 have c45b1 : ((rd l0_3 x35_2) != 0) = false := bne_eq_false_iff_eq.mpr c45
                 clear c45
                 obtain rfl := Option.some.inj H
                 have p103 : 0 ≤ (x35_2 : Int) := pos_
                 have q103 : x35_2 < (l0_1.length : Int) := pos_
                 obtain ⟨ad103, e103, hx103_0, hx103_1⟩ := at_T34 HR0_1.out x35_2 p103 q103
                 cases e103
                 replace hx103_0 := (HB.out.cell (World.block_lt_of_cell? w _ hx103_0)).trans hx103_0
                 replace hx103_1 := (HB.out.cell (World.block_lt_of_cell? w _ hx103_1)).trans hx103_1
                 replace p103 := eq_true p103
                 replace q103 := eq_true q103
                 go_wp2_with (first | ((with_reducible refine gate_dst (N := 4) rfl ?_); (try (refine gate_guard (by rfl) ?_; dsimp only)); refine boxE 4 #[.int .i64 0, .int .i64 0] 34 ?_; intro gb104 hg w46 hbox hb; have BK104 := Aside0.mk (hbox); have GW104 := gw hg HB; have GE104 := gw hg HB; replace HB := hbS HB hb; have NB102_104 := nbl hg BK102; have NB104_102 := nbg hg BK102; replace BK102 := bkB BK102 hb; clear hb hbox hg; have hnb47 := NB104_102.out; have hnc47 := NB102_104.out; obtain ⟨z0, z1, y0, y1⟩ := bc2 BK104; obtain ⟨z0, z1, z2, z3, y0, y1, y2, y3⟩ := bc4 BK102; have p105 : 0 ≤ (x35_2 : Int) := pos_; have q105 : x35_2 < (l0_2.length : Int) := pos_; obtain ⟨ad105, e105, hx105_0⟩ := Kd.at_int HR0_2.out x35_2 p105 q105; cases e105; have hn105_0 : ad105.block ≠ gb104 := Nat.ne_of_lt (Nat.lt_of_lt_of_le (by have := World.block_lt_of_cell? _ _ hx105_0; first | rwa [add_block] at this | exact this) GW104.out); have hn105_1 : ad105.block ≠ gb104 := Nat.ne_of_lt (Nat.lt_of_lt_of_le (by have := World.block_lt_of_cell? _ _ hx105_0; first | rwa [add_block] at this | exact this) GW104.out); replace hx105_0 := (HB.out.cell (World.block_lt_of_cell? w _ hx105_0)).trans hx105_0; replace hx105_0 := (cell_far (p := ⟨gb104, 0, none⟩) (by first | (rw [add_block]; exact hn105_0) | (show (Addr.add _ _).block ≠ _; rw [add_block]; exact hn105_0) | exact hn105_0) (.int .i64 ((rd_T34 l0_1 x35_2).f0))).trans hx105_0; replace hx105_0 := (cell_far (p := ⟨gb104, 1, none⟩) (by first | (rw [add_block]; exact hn105_1) | (show (Addr.add _ _).block ≠ _; rw [add_block]; exact hn105_1) | exact hn105_1) (.int .i64 ((rd_T34 l0_1 x35_2).f1))).trans hx105_0; clear hn105_0; clear hn105_1; replace p105 := eq_true p105; replace q105 := eq_true q105) | ((with_reducible refine gate_callee (f := 24) rfl ?_); refine goesL_ (some 46) rfl rfl Try.func24 (by kernel_rfl) rfl #[.agg #[.int .i64 ((rd_T34 l0_1 x35_2).f0), .int .i64 ((rd_T34 l0_1 x35_2).f1)]] rfl sma ?_; (with_reducible refine (quality_Check.calls ((rd_T34 l0_1 x35_2).f0) ((rd_T34 l0_1 x35_2).f1) t106 _ A19.out).mono ?_); rintro e w50 ⟨rfl, hb⟩; refine ⟨_, rfl, ?_⟩; replace BK102 := bkfB BK102 hb; replace BK104 := Aside0.mk (blk_below (o := .cells #[.int .i64 ((rd_T34 l0_1 x35_2).f0), .int .i64 ((rd_T34 l0_1 x35_2).f1)] 34 (0, 0)) (bkp BK104) hb); replace HB := hbS HB hb; (try clear hb); (try clear hb2); (try clear hk); (try clear hi); obtain ⟨z0, z1, z2, z3, y0, y1, y2, y3⟩ := bc4 BK102; have p107 : 0 ≤ (x35_2 : Int) := pos_; have q107 : x35_2 < (l0_3.length : Int) := pos_; obtain ⟨ad107, e107, hx107_0⟩ := Kd.at_int HR0_3.out x35_2 p107 q107; cases e107; replace hx107_0 := (HB.out.cell (World.block_lt_of_cell? w _ hx107_0)).trans hx107_0; replace p107 := eq_true p107; replace q107 := eq_true q107) | (go_at_call 41; (with_reducible refine (quality_hold.calls (rd l0_3 x35_2) true _ A22.out).mono ?_); rintro e w' ⟨rfl, ⟨nd, rfl⟩⟩; have p109 : 0 ≤ (x35_2 : Int) := pos_; have q109 : x35_2 < (l0_3.length : Int) := pos_; obtain ⟨ad109, e109, hx109_0⟩ := Kd.at_int HR0_3.out x35_2 p109 q109; obtain rfl : ad107 = ad109 := (by injection e109); replace hx109_0 := (HB.out.cell (World.block_lt_of_cell? w _ hx109_0)).trans hx109_0; replace p109 := eq_true p109; replace q109 := eq_true q109))
                 go_ret
                 exact ⟨rerr, hbx HB⟩
                ·rw [if_neg c45] at H
                 have c45b0 : ((rd l0_3 x35_2) == 0) = false := beq_eq_false_iff_ne.mpr c45
                 have c45b1 : ((rd l0_3 x35_2) != 0) = true := bne_iff_ne.mpr c45
                 have H' := Aside0.mk H
                 clear H
                 have p103 : 0 ≤ (x35_2 : Int) := pos_
                 have q103 : x35_2 < (l0_1.length : Int) := pos_
                 obtain ⟨ad103, e103, hx103_0, hx103_1⟩ := at_T34 HR0_1.out x35_2 p103 q103
                 cases e103
                 replace hx103_0 := (HB.out.cell (World.block_lt_of_cell? w _ hx103_0)).trans hx103_0
                 replace hx103_1 := (HB.out.cell (World.block_lt_of_cell? w _ hx103_1)).trans hx103_1
                 replace p103 := eq_true p103
                 replace q103 := eq_true q103
                 go_wp2_with (first | ((with_reducible refine gate_dst (N := 4) rfl ?_); (try (refine gate_guard (by rfl) ?_; dsimp only)); refine boxE 4 #[.int .i64 0, .int .i64 0] 34 ?_; intro gb104 hg w52 hbox hb; have BK104 := Aside0.mk (hbox); have GW104 := gw hg HB; have GE104 := gw hg HB; replace HB := hbS HB hb; have NB102_104 := nbl hg BK102; have NB104_102 := nbg hg BK102; replace BK102 := bkB BK102 hb; clear hb hbox hg; have hnb53 := NB104_102.out; have hnc53 := NB102_104.out; obtain ⟨z0, z1, y0, y1⟩ := bc2 BK104; obtain ⟨z0, z1, z2, z3, y0, y1, y2, y3⟩ := bc4 BK102; have p105 : 0 ≤ (x35_2 : Int) := pos_; have q105 : x35_2 < (l0_2.length : Int) := pos_; obtain ⟨ad105, e105, hx105_0⟩ := Kd.at_int HR0_2.out x35_2 p105 q105; cases e105; have hn105_0 : ad105.block ≠ gb104 := Nat.ne_of_lt (Nat.lt_of_lt_of_le (by have := World.block_lt_of_cell? _ _ hx105_0; first | rwa [add_block] at this | exact this) GW104.out); have hn105_1 : ad105.block ≠ gb104 := Nat.ne_of_lt (Nat.lt_of_lt_of_le (by have := World.block_lt_of_cell? _ _ hx105_0; first | rwa [add_block] at this | exact this) GW104.out); replace hx105_0 := (HB.out.cell (World.block_lt_of_cell? w _ hx105_0)).trans hx105_0; replace hx105_0 := (cell_far (p := ⟨gb104, 0, none⟩) (by first | (rw [add_block]; exact hn105_0) | (show (Addr.add _ _).block ≠ _; rw [add_block]; exact hn105_0) | exact hn105_0) (.int .i64 ((rd_T34 l0_1 x35_2).f0))).trans hx105_0; replace hx105_0 := (cell_far (p := ⟨gb104, 1, none⟩) (by first | (rw [add_block]; exact hn105_1) | (show (Addr.add _ _).block ≠ _; rw [add_block]; exact hn105_1) | exact hn105_1) (.int .i64 ((rd_T34 l0_1 x35_2).f1))).trans hx105_0; clear hn105_0; clear hn105_1; replace p105 := eq_true p105; replace q105 := eq_true q105) | ((with_reducible refine gate_callee (f := 24) rfl ?_); refine goesL_ (some 46) rfl rfl Try.func24 (by kernel_rfl) rfl #[.agg #[.int .i64 ((rd_T34 l0_1 x35_2).f0), .int .i64 ((rd_T34 l0_1 x35_2).f1)]] rfl sma ?_; (with_reducible refine (quality_Check.calls ((rd_T34 l0_1 x35_2).f0) ((rd_T34 l0_1 x35_2).f1) t106 _ A19.out).mono ?_); rintro e w56 ⟨rfl, hb⟩; refine ⟨_, rfl, ?_⟩; replace BK102 := bkfB BK102 hb; replace BK104 := Aside0.mk (blk_below (o := .cells #[.int .i64 ((rd_T34 l0_1 x35_2).f0), .int .i64 ((rd_T34 l0_1 x35_2).f1)] 34 (0, 0)) (bkp BK104) hb); replace HB := hbS HB hb; (try clear hb); (try clear hb2); (try clear hk); (try clear hi); obtain ⟨z0, z1, z2, z3, y0, y1, y2, y3⟩ := bc4 BK102; have p107 : 0 ≤ (x35_2 : Int) := pos_; have q107 : x35_2 < (l0_3.length : Int) := pos_; obtain ⟨ad107, e107, hx107_0⟩ := Kd.at_int HR0_3.out x35_2 p107 q107; cases e107; replace hx107_0 := (HB.out.cell (World.block_lt_of_cell? w _ hx107_0)).trans hx107_0; replace p107 := eq_true p107; replace q107 := eq_true q107) | (go_at_call 41; (with_reducible refine (quality_hold.calls (rd l0_3 x35_2) true _ A22.out).mono ?_); rintro e w' ⟨rfl, ⟨nd, rfl⟩⟩; have p109 : 0 ≤ (x35_2 : Int) := pos_; have q109 : x35_2 < (l0_3.length : Int) := pos_; obtain ⟨ad109, e109, hx109_0⟩ := Kd.at_int HR0_3.out x35_2 p109 q109; obtain rfl : ad107 = ad109 := (by injection e109); replace hx109_0 := (HB.out.cell (World.block_lt_of_cell? w _ hx109_0)).trans hx109_0; replace p109 := eq_true p109; replace q109 := eq_true q109))
                 go_roundg k2
                 case measure => have := HJ1.out; have := HK2.out; omega
                 case rel => exact ⟨(wrap64 (x35_2 + 1)), rfs, H', ⟨by have := HJ1.out; have := HK2.out; omega⟩, bkA BK102, hbA HB⟩
            ·replace c23 := Bool.eq_false_iff.mpr c23
             subst c23
             rw [if_neg (show ¬ (false = true) by decide)] at H
             obtain rfl := Option.some.inj H
             have p103 : 0 ≤ (x35_2 : Int) := pos_
             have q103 : x35_2 < (l0_1.length : Int) := pos_
             obtain ⟨ad103, e103, hx103_0, hx103_1⟩ := at_T34 HR0_1.out x35_2 p103 q103
             cases e103
             replace hx103_0 := (HB.out.cell (World.block_lt_of_cell? w _ hx103_0)).trans hx103_0
             replace hx103_1 := (HB.out.cell (World.block_lt_of_cell? w _ hx103_1)).trans hx103_1
             replace p103 := eq_true p103
             replace q103 := eq_true q103
             go_wp2_with (first | ((with_reducible refine gate_dst (N := 4) rfl ?_); (try (refine gate_guard (by rfl) ?_; dsimp only)); refine boxE 4 #[.int .i64 0, .int .i64 0] 34 ?_; intro gb104 hg w58 hbox hb; have BK104 := Aside0.mk (hbox); have GW104 := gw hg HB; have GE104 := gw hg HB; replace HB := hbS HB hb; have NB102_104 := nbl hg BK102; have NB104_102 := nbg hg BK102; replace BK102 := bkB BK102 hb; clear hb hbox hg; have hnb59 := NB104_102.out; have hnc59 := NB102_104.out; obtain ⟨z0, z1, y0, y1⟩ := bc2 BK104; obtain ⟨z0, z1, z2, z3, y0, y1, y2, y3⟩ := bc4 BK102; have p105 : 0 ≤ (x35_2 : Int) := pos_; have q105 : x35_2 < (l0_2.length : Int) := pos_; obtain ⟨ad105, e105, hx105_0⟩ := Kd.at_int HR0_2.out x35_2 p105 q105; cases e105; have hn105_0 : ad105.block ≠ gb104 := Nat.ne_of_lt (Nat.lt_of_lt_of_le (by have := World.block_lt_of_cell? _ _ hx105_0; first | rwa [add_block] at this | exact this) GW104.out); have hn105_1 : ad105.block ≠ gb104 := Nat.ne_of_lt (Nat.lt_of_lt_of_le (by have := World.block_lt_of_cell? _ _ hx105_0; first | rwa [add_block] at this | exact this) GW104.out); replace hx105_0 := (HB.out.cell (World.block_lt_of_cell? w _ hx105_0)).trans hx105_0; replace hx105_0 := (cell_far (p := ⟨gb104, 0, none⟩) (by first | (rw [add_block]; exact hn105_0) | (show (Addr.add _ _).block ≠ _; rw [add_block]; exact hn105_0) | exact hn105_0) (.int .i64 ((rd_T34 l0_1 x35_2).f0))).trans hx105_0; replace hx105_0 := (cell_far (p := ⟨gb104, 1, none⟩) (by first | (rw [add_block]; exact hn105_1) | (show (Addr.add _ _).block ≠ _; rw [add_block]; exact hn105_1) | exact hn105_1) (.int .i64 ((rd_T34 l0_1 x35_2).f1))).trans hx105_0; clear hn105_0; clear hn105_1; replace p105 := eq_true p105; replace q105 := eq_true q105) | ((with_reducible refine gate_callee (f := 24) rfl ?_); refine goesL_ (some 46) rfl rfl Try.func24 (by kernel_rfl) rfl #[.agg #[.int .i64 ((rd_T34 l0_1 x35_2).f0), .int .i64 ((rd_T34 l0_1 x35_2).f1)]] rfl sma ?_; (with_reducible refine (quality_Check.calls ((rd_T34 l0_1 x35_2).f0) ((rd_T34 l0_1 x35_2).f1) t106 _ A19.out).mono ?_); rintro e w62 ⟨rfl, hb⟩; refine ⟨_, rfl, ?_⟩; replace BK102 := bkfB BK102 hb; replace BK104 := Aside0.mk (blk_below (o := .cells #[.int .i64 ((rd_T34 l0_1 x35_2).f0), .int .i64 ((rd_T34 l0_1 x35_2).f1)] 34 (0, 0)) (bkp BK104) hb); replace HB := hbS HB hb; (try clear hb); (try clear hb2); (try clear hk); (try clear hi); obtain ⟨z0, z1, z2, z3, y0, y1, y2, y3⟩ := bc4 BK102; have p107 : 0 ≤ (x35_2 : Int) := pos_; have q107 : x35_2 < (l0_3.length : Int) := pos_; obtain ⟨ad107, e107, hx107_0⟩ := Kd.at_int HR0_3.out x35_2 p107 q107; cases e107; replace hx107_0 := (HB.out.cell (World.block_lt_of_cell? w _ hx107_0)).trans hx107_0; replace p107 := eq_true p107; replace q107 := eq_true q107) | (go_at_call 41; (with_reducible refine (quality_hold.calls (rd l0_3 x35_2) false _ A22.out).mono ?_); rintro e w' ⟨rfl, ⟨nd, rfl⟩⟩))
             go_ret
             exact ⟨rerr, hbx HB⟩
           ·rw [if_neg c21] at H
            exact absurd H (by simp)
          ·rw [if_neg c20] at H
           have c20b0 : (t106 == 0) = false := beq_eq_false_iff_ne.mpr c20
           have c20b1 : (t106 != 0) = true := bne_iff_ne.mpr c20
           obtain rfl := Option.some.inj H
           have p103 : 0 ≤ (x35_2 : Int) := pos_
           have q103 : x35_2 < (l0_1.length : Int) := pos_
           obtain ⟨ad103, e103, hx103_0, hx103_1⟩ := at_T34 HR0_1.out x35_2 p103 q103
           cases e103
           replace hx103_0 := (HB.out.cell (World.block_lt_of_cell? w _ hx103_0)).trans hx103_0
           replace hx103_1 := (HB.out.cell (World.block_lt_of_cell? w _ hx103_1)).trans hx103_1
           replace p103 := eq_true p103
           replace q103 := eq_true q103
           go_wp2_with (first | ((with_reducible refine gate_dst (N := 4) rfl ?_); (try (refine gate_guard (by rfl) ?_; dsimp only)); refine boxE 4 #[.int .i64 0, .int .i64 0] 34 ?_; intro gb104 hg w64 hbox hb; have BK104 := Aside0.mk (hbox); have GW104 := gw hg HB; have GE104 := gw hg HB; replace HB := hbS HB hb; have NB102_104 := nbl hg BK102; have NB104_102 := nbg hg BK102; replace BK102 := bkB BK102 hb; clear hb hbox hg; have hnb65 := NB104_102.out; have hnc65 := NB102_104.out; obtain ⟨z0, z1, y0, y1⟩ := bc2 BK104; obtain ⟨z0, z1, z2, z3, y0, y1, y2, y3⟩ := bc4 BK102; have p105 : 0 ≤ (x35_2 : Int) := pos_; have q105 : x35_2 < (l0_2.length : Int) := pos_; obtain ⟨ad105, e105, hx105_0⟩ := Kd.at_int HR0_2.out x35_2 p105 q105; cases e105; have hn105_0 : ad105.block ≠ gb104 := Nat.ne_of_lt (Nat.lt_of_lt_of_le (by have := World.block_lt_of_cell? _ _ hx105_0; first | rwa [add_block] at this | exact this) GW104.out); have hn105_1 : ad105.block ≠ gb104 := Nat.ne_of_lt (Nat.lt_of_lt_of_le (by have := World.block_lt_of_cell? _ _ hx105_0; first | rwa [add_block] at this | exact this) GW104.out); replace hx105_0 := (HB.out.cell (World.block_lt_of_cell? w _ hx105_0)).trans hx105_0; replace hx105_0 := (cell_far (p := ⟨gb104, 0, none⟩) (by first | (rw [add_block]; exact hn105_0) | (show (Addr.add _ _).block ≠ _; rw [add_block]; exact hn105_0) | exact hn105_0) (.int .i64 ((rd_T34 l0_1 x35_2).f0))).trans hx105_0; replace hx105_0 := (cell_far (p := ⟨gb104, 1, none⟩) (by first | (rw [add_block]; exact hn105_1) | (show (Addr.add _ _).block ≠ _; rw [add_block]; exact hn105_1) | exact hn105_1) (.int .i64 ((rd_T34 l0_1 x35_2).f1))).trans hx105_0; clear hn105_0; clear hn105_1; replace p105 := eq_true p105; replace q105 := eq_true q105) | ((with_reducible refine gate_callee (f := 24) rfl ?_); refine goesL_ (some 46) rfl rfl Try.func24 (by kernel_rfl) rfl #[.agg #[.int .i64 ((rd_T34 l0_1 x35_2).f0), .int .i64 ((rd_T34 l0_1 x35_2).f1)]] rfl sma ?_; (with_reducible refine (quality_Check.calls ((rd_T34 l0_1 x35_2).f0) ((rd_T34 l0_1 x35_2).f1) t106 _ A19.out).mono ?_); rintro e w68 ⟨rfl, hb⟩; refine ⟨_, rfl, ?_⟩; replace BK102 := bkfB BK102 hb; replace BK104 := Aside0.mk (blk_below (o := .cells #[.int .i64 ((rd_T34 l0_1 x35_2).f0), .int .i64 ((rd_T34 l0_1 x35_2).f1)] 34 (0, 0)) (bkp BK104) hb); replace HB := hbS HB hb; (try clear hb); (try clear hb2); (try clear hk); (try clear hi)))
           go_ret
           exact ⟨rerr, hbx HB⟩
         ·rw [if_neg c18] at H
          exact absurd H (by simp)
        ·rw [if_neg c17] at H
         exact absurd H (by simp)
       ·rw [if_neg c16] at H
        exact absurd H (by simp)
      ·rw [if_neg c15] at H
       have c15b0 : decide (x35_2 < (l0_1.length : Int)) = false := decide_eq_false c15
       clear c15
       obtain rfl := Option.some.inj H
       go_wp2
       go_ret
       exact ⟨rerr, hbx HB⟩
end Go.Proofs.Ytnipgplobipeeaa.PQ
