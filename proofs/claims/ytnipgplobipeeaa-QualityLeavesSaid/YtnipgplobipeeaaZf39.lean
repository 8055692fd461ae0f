-- Printed by fprint.py and zip.py, programs of this session's, over the kit's print; Lean checks it.
import Derived.Test.YtnipgplobipeeaaZ0
import Derived.Test.YtnipgplobipeeaaZf25
import Derived.Test.YtnipgplobipeeaaZf51
namespace Go.Proofs.Ytnipgplobipeeaa.PQ
open Go.RowKit Go.Proofs.YtnipgplobipeeaaW.PrintWords Go.Proofs.YtnipgplobipeeaaW.PrintLast Go.Proofs.YtnipgplobipeeaaW.PrintMore
attribute [local go_sem] max2_int min2_int max_two min_two max_three min_three max_four min_four   -- for this text's walks alone
set_option linter.unusedVariables false
set_option linter.unusedSimpArgs false
mutual
def hopmeshref12_Valid.j0 : Nat → Bool → Int → List (S34) → List Int → List Int → Option (Int)
 | 0, _, _, _, _, _ => none
 | k + 1, x29, x475000, x475001, x475002, x475003 => if x29 = true then (some 1) else (hopmeshref12_Valid.l0 k 0 x475000 x475001 x475002 x475003)
def hopmeshref12_Valid.l0 : Nat → Int → Int → List (S34) → List Int → List Int → Option (Int)
 | 0, _, _, _, _, _ => none
 | k + 1, x3, x475000, x475001, x475002, x475003 => if x3 < 16 then (if 0 ≤ x3 then (if x3 < (x475001.length : Int) then ((hopmeshref12_Check.f ((rd_T34 x475001 x3).f0) ((rd_T34 x475001 x3).f1)).bind fun t476 => (if t476 = 0 then (if x3 < (x475003.length : Int) then ((hopmeshref12_hold.f k (rd x475003 x3)).bind fun t478 => (hopmeshref12_Valid.j2 k x3 (!t478) x475000 x475001 x475002 x475003)) else (none)) else (hopmeshref12_Valid.j2 k x3 true x475000 x475001 x475002 x475003))) else (none)) else (none)) else (some 0)
def hopmeshref12_Valid.j2 : Nat → Int → Bool → Int → List (S34) → List Int → List Int → Option (Int)
 | 0, _, _, _, _, _, _ => none
 | k + 1, x3, x49, x475000, x475001, x475002, x475003 => if x49 = true then (some 1) else (if 0 ≤ x3 then (if x3 < (x475002.length : Int) then (if (rd x475002 x3) = 0 then (hopmeshref12_Valid.l0 k (wrap64 (x3 + 1)) x475000 x475001 x475002 x475003) else (if (rd x475002 x3) ≤ x475000 then (some 1) else (if (rd x475002 x3) > (wrap64 (x475000 + 64)) then (some 1) else (if x3 < (x475003.length : Int) then (if (rd x475003 x3) = 0 then (some 1) else (hopmeshref12_Valid.l0 k (wrap64 (x3 + 1)) x475000 x475001 x475002 x475003)) else (none))))) else (none)) else (none))
end
def hopmeshref12_Valid.f (k : Nat) (a0_0 : Int) (l0_1 : List (S34)) (l0_2 : List Int) (l0_3 : List Int) : Option (Int) := if a0_0 < 0 then (hopmeshref12_Valid.j0 k true a0_0 l0_1 l0_2 l0_3) else (if a0_0 > 1073741824 then (hopmeshref12_Valid.j0 k true a0_0 l0_1 l0_2 l0_3) else (if (l0_1.length : Int) = 16 then (if (l0_2.length : Int) = 16 then (hopmeshref12_Valid.j0 k ((l0_3.length : Int) != 16) a0_0 l0_1 l0_2 l0_3) else (hopmeshref12_Valid.j0 k true a0_0 l0_1 l0_2 l0_3)) else (hopmeshref12_Valid.j0 k true a0_0 l0_1 l0_2 l0_3)))
theorem hopmeshref12_Valid.mono_l : ∀ k, (∀ y0 y1 y2 y3 y4, LeO (hopmeshref12_Valid.j0 k y0 y1 y2 y3 y4) (hopmeshref12_Valid.j0 (k + 1) y0 y1 y2 y3 y4)) ∧ (∀ y0 y1 y2 y3 y4, LeO (hopmeshref12_Valid.l0 k y0 y1 y2 y3 y4) (hopmeshref12_Valid.l0 (k + 1) y0 y1 y2 y3 y4)) ∧ (∀ y0 y1 y2 y3 y4 y5, LeO (hopmeshref12_Valid.j2 k y0 y1 y2 y3 y4 y5) (hopmeshref12_Valid.j2 (k + 1) y0 y1 y2 y3 y4 y5))
 | 0 => ⟨fun _ _ _ _ _ r h => by simp [hopmeshref12_Valid.j0] at h, fun _ _ _ _ _ r h => by simp [hopmeshref12_Valid.l0] at h, fun _ _ _ _ _ _ r h => by simp [hopmeshref12_Valid.j2] at h⟩
 | k + 1 => by
  obtain ⟨ih0, ih1, ih2⟩ := hopmeshref12_Valid.mono_l k
  refine ⟨?_, ?_, ?_⟩
  ·intro y0 y1 y2 y3 y4
   unfold hopmeshref12_Valid.j0
   repeat' first
   | (with_reducible exact ih0 _ _ _ _ _)
   | (with_reducible exact ih1 _ _ _ _ _)
   | (with_reducible exact ih2 _ _ _ _ _ _)
   | (with_reducible exact hopmeshref12_hold.mono _ _)
   | (with_reducible exact LeO.refl _)
   | (with_reducible exact LeO.none _)
   | (with_reducible refine LeO.ite ?_ ?_)
   | (with_reducible refine LeO.bind ?_ (fun _ => ?_))
   | exact ih0 _ _ _ _ _
   | exact ih1 _ _ _ _ _
   | exact ih2 _ _ _ _ _ _
   | exact hopmeshref12_hold.mono _ _
   | exact LeO.none _
   | refine LeO.ite ?_ ?_
   | refine LeO.bind ?_ (fun _ => ?_)
  ·intro y0 y1 y2 y3 y4
   unfold hopmeshref12_Valid.l0
   repeat' first
   | (with_reducible exact ih0 _ _ _ _ _)
   | (with_reducible exact ih1 _ _ _ _ _)
   | (with_reducible exact ih2 _ _ _ _ _ _)
   | (with_reducible exact hopmeshref12_hold.mono _ _)
   | (with_reducible exact LeO.refl _)
   | (with_reducible exact LeO.none _)
   | (with_reducible refine LeO.ite ?_ ?_)
   | (with_reducible refine LeO.bind ?_ (fun _ => ?_))
   | exact ih0 _ _ _ _ _
   | exact ih1 _ _ _ _ _
   | exact ih2 _ _ _ _ _ _
   | exact hopmeshref12_hold.mono _ _
   | exact LeO.none _
   | refine LeO.ite ?_ ?_
   | refine LeO.bind ?_ (fun _ => ?_)
  ·intro y0 y1 y2 y3 y4 y5
   unfold hopmeshref12_Valid.j2
   repeat' first
   | (with_reducible exact ih0 _ _ _ _ _)
   | (with_reducible exact ih1 _ _ _ _ _)
   | (with_reducible exact ih2 _ _ _ _ _ _)
   | (with_reducible exact hopmeshref12_hold.mono _ _)
   | (with_reducible exact LeO.refl _)
   | (with_reducible exact LeO.none _)
   | (with_reducible refine LeO.ite ?_ ?_)
   | (with_reducible refine LeO.bind ?_ (fun _ => ?_))
   | exact ih0 _ _ _ _ _
   | exact ih1 _ _ _ _ _
   | exact ih2 _ _ _ _ _ _
   | exact hopmeshref12_hold.mono _ _
   | exact LeO.none _
   | refine LeO.ite ?_ ?_
   | refine LeO.bind ?_ (fun _ => ?_)
theorem hopmeshref12_Valid.mono : ∀ a0 a1 a2 a3 k, LeO (hopmeshref12_Valid.f k a0 a1 a2 a3) (hopmeshref12_Valid.f (k + 1) a0 a1 a2 a3) := by
 intro a0 a1 a2 a3 k
 obtain ⟨ih0, ih1, ih2⟩ := hopmeshref12_Valid.mono_l k
 unfold hopmeshref12_Valid.f
 repeat' first
  | (with_reducible exact ih0 _ _ _ _ _)
  | (with_reducible exact ih1 _ _ _ _ _)
  | (with_reducible exact ih2 _ _ _ _ _ _)
  | (with_reducible exact hopmeshref12_hold.mono _ _)
  | (with_reducible exact LeO.refl _)
  | (with_reducible exact LeO.none _)
  | (with_reducible refine LeO.ite ?_ ?_)
  | (with_reducible refine LeO.bind ?_ (fun _ => ?_))
  | exact ih0 _ _ _ _ _
  | exact ih1 _ _ _ _ _
  | exact ih2 _ _ _ _ _ _
  | exact hopmeshref12_hold.mono _ _
  | exact LeO.none _
  | refine LeO.ite ?_ ?_
  | refine LeO.bind ?_ (fun _ => ?_)
set_option maxHeartbeats 8000000 in
set_option maxRecDepth 100000 in
theorem hopmeshref12_Valid.calls (k : Nat) (a0_0 : Int) (A0_1 : Option Addr) (c0_1 : Nat) (l0_1 : List (S34)) (A0_2 : Option Addr) (c0_2 : Nat) (l0_2 : List Int) (A0_3 : Option Addr) (c0_3 : Nat) (l0_3 : List Int) (r : Int) (w : World) (hr0_1 : Kd.C k34 w A0_1 l0_1.length l0_1) (hc0_1 : l0_1.length ≤ c0_1) (hr0_2 : Kd.C (Kd.int .i64) w A0_2 l0_2.length l0_2) (hc0_2 : l0_2.length ≤ c0_2) (hr0_3 : Kd.C (Kd.int .i64) w A0_3 l0_3.length l0_3) (hc0_3 : l0_3.length ≤ c0_3) (h : hopmeshref12_Valid.f k a0_0 l0_1 l0_2 l0_3 = some r) :
 Calls Try.prog 39 #[.agg #[.int .i64 a0_0, .slice A0_1 l0_1.length c0_1, .slice A0_2 l0_2.length c0_2, .slice A0_3 l0_3.length c0_3]] w fun e w' => e = .returned (.int .i64 r) ∧ Below w.heap.size w w' := by
 have hu25 := Try.underlying25
 have hu34 := Try.underlying34
 have HR0_1 := Aside0.mk hr0_1
 have HC0_1 := Aside0.mk hc0_1
 clear hr0_1 hc0_1
 have HR0_2 := Aside0.mk hr0_2
 have HC0_2 := Aside0.mk hc0_2
 clear hr0_2 hc0_2
 have HR0_3 := Aside0.mk hr0_3
 have HC0_3 := Aside0.mk hc0_3
 clear hr0_3 hc0_3
 have HB := Aside0.mk (Below.refl w.heap.size w)
 have H : (if a0_0 < 0 then (hopmeshref12_Valid.j0 k true a0_0 l0_1 l0_2 l0_3) else (if a0_0 > 1073741824 then (hopmeshref12_Valid.j0 k true a0_0 l0_1 l0_2 l0_3) else (if (l0_1.length : Int) = 16 then (if (l0_2.length : Int) = 16 then (hopmeshref12_Valid.j0 k ((l0_3.length : Int) != 16) a0_0 l0_1 l0_2 l0_3) else (hopmeshref12_Valid.j0 k true a0_0 l0_1 l0_2 l0_3)) else (hopmeshref12_Valid.j0 k true a0_0 l0_1 l0_2 l0_3)))) = some r := h
 clear h
 have HC2 := Aside0.mk H
 clear H
 go_enter Try.func39, Try.ntmps39
 go_upto_region 1 with (first | ((with_reducible refine gate_dst (N := 1) rfl ?_); (try (refine gate_guard (by rfl) ?_; dsimp only)); refine boxE 1 #[.int .i64 a0_0, .slice A0_1 l0_1.length c0_1, .slice A0_2 l0_2.length c0_2, .slice A0_3 l0_3.length c0_3] 25 ?_; intro gb474 hg w3 hbox hb; have BK474 := Aside0.mk (hbox); have GW474 := gw hg HB; have GE474 := gw hg HB; replace HB := hbS HB hb; clear hb hbox hg))
 repeat (go_quiet (first | ((with_reducible refine gate_dst (N := 1) rfl ?_); (try (refine gate_guard (by rfl) ?_; dsimp only)); refine boxE 1 #[.int .i64 a0_0, .slice A0_1 l0_1.length c0_1, .slice A0_2 l0_2.length c0_2, .slice A0_3 l0_3.length c0_3] 25 ?_; intro gb474 hg w3 hbox hb; have BK474 := Aside0.mk (hbox); have GW474 := gw hg HB; have GE474 := gw hg HB; replace HB := hbS HB hb; clear hb hbox hg)); go_upto_region 1 with (first | ((with_reducible refine gate_dst (N := 1) rfl ?_); (try (refine gate_guard (by rfl) ?_; dsimp only)); refine boxE 1 #[.int .i64 a0_0, .slice A0_1 l0_1.length c0_1, .slice A0_2 l0_2.length c0_2, .slice A0_3 l0_3.length c0_3] 25 ?_; intro gb474 hg w3 hbox hb; have BK474 := Aside0.mk (hbox); have GW474 := gw hg HB; have GE474 := gw hg HB; replace HB := hbS HB hb; clear hb hbox hg)))
 (try simp only [Act.put, List.setIfInBounds_toArray, List.set_cons_zero, List.set_cons_succ])
 go_cut [29] (fun v29 wc => ∃ (kq : Nat) (x29_1 : Bool), v29 = .bool x29_1 ∧ Aside0 (hopmeshref12_Valid.j0 kq x29_1 a0_0 l0_1 l0_2 l0_3 = some r) ∧ Aside0 (kq ≤ k) ∧ Aside0 (wc.heap[gb474]? = some (.cells #[.int .i64 a0_0, (.slice A0_1 l0_1.length c0_1), (.slice A0_2 l0_2.length c0_2), (.slice A0_3 l0_3.length c0_3)] 25 (0, 0))) ∧ Aside0 (Below w.heap.size w wc))
 case first =>
  have H := HC2.out
  clear HC2
  by_cases c4 : a0_0 < 0
  ·rw [if_pos c4] at H
   have c4b0 : decide (a0_0 < 0) = true := decide_eq_true c4
   clear c4
   (first | rw [c4b0] | (simp only [i64_w, i32_w]; rw [c4b0]) | skip)
   have H' := Aside0.mk H
   clear H
   obtain ⟨z0, z1, z2, z3, y0, y1, y2, y3⟩ := bc4 BK474
   go_wp2
   repeat (go_quiet (fail); try go_wp2)
   go_meet
   case rel => exact ⟨_, (true), rfs, H', kle, bkA BK474, hbA HB⟩
  ·rw [if_neg c4] at H
   have c4b0 : decide (a0_0 < 0) = false := decide_eq_false c4
   clear c4
   (first | rw [c4b0] | (simp only [i64_w, i32_w]; rw [c4b0]) | skip)
   by_cases c6 : a0_0 > 1073741824
   ·rw [if_pos c6] at H
    have c6b0 : decide (1073741824 < a0_0) = true := decide_eq_true c6
    clear c6
    have H' := Aside0.mk H
    clear H
    obtain ⟨z0, z1, z2, z3, y0, y1, y2, y3⟩ := bc4 BK474
    go_wp2
    repeat (go_quiet (fail); try go_wp2)
    go_meet
    case rel => exact ⟨_, (true), rfs, H', kle, bkA BK474, hbA HB⟩
   ·rw [if_neg c6] at H
    have c6b0 : decide (1073741824 < a0_0) = false := decide_eq_false c6
    clear c6
    by_cases c8 : (l0_1.length : Int) = 16
    ·rw [if_pos c8] at H
     have c8b0 : ((l0_1.length : Int) == 16) = true := beq_iff_eq.mpr c8
     have c8b1 : ((l0_1.length : Int) != 16) = false := bne_eq_false_iff_eq.mpr c8
     clear c8
     by_cases c9 : (l0_2.length : Int) = 16
     ·rw [if_pos c9] at H
      have c9b0 : ((l0_2.length : Int) == 16) = true := beq_iff_eq.mpr c9
      have c9b1 : ((l0_2.length : Int) != 16) = false := bne_eq_false_iff_eq.mpr c9
      clear c9
      have H' := Aside0.mk H
      clear H
      obtain ⟨z0, z1, z2, z3, y0, y1, y2, y3⟩ := bc4 BK474
      go_wp2
      repeat (go_quiet (fail); try go_wp2)
      go_meet
      case rel => exact ⟨_, (((l0_3.length : Int) != 16)), rfs, H', kle, bkA BK474, hbA HB⟩
     ·rw [if_neg c9] at H
      have c9b0 : ((l0_2.length : Int) == 16) = false := beq_eq_false_iff_ne.mpr c9
      have c9b1 : ((l0_2.length : Int) != 16) = true := bne_iff_ne.mpr c9
      have H' := Aside0.mk H
      clear H
      obtain ⟨z0, z1, z2, z3, y0, y1, y2, y3⟩ := bc4 BK474
      go_wp2
      repeat (go_quiet (fail); try go_wp2)
      go_meet
      case rel => exact ⟨_, (true), rfs, H', kle, bkA BK474, hbA HB⟩
    ·rw [if_neg c8] at H
     have c8b0 : ((l0_1.length : Int) == 16) = false := beq_eq_false_iff_ne.mpr c8
     have c8b1 : ((l0_1.length : Int) != 16) = true := bne_iff_ne.mpr c8
     have H' := Aside0.mk H
     clear H
     obtain ⟨z0, z1, z2, z3, y0, y1, y2, y3⟩ := bc4 BK474
     go_wp2
     repeat (go_quiet (fail); try go_wp2)
     go_meet
     case rel => exact ⟨_, (true), rfs, H', kle, bkA BK474, hbA HB⟩
 case rest =>
  clear HC2
  obtain ⟨kq, x29_1, rfl, HA, HJ1, BK474, HB⟩ := hcut
  cases kq with
  | zero => exact absurd HA.out (by simp [hopmeshref12_Valid.j0])
  | succ kj1 =>
   have H := HA.out
   clear HA
   simp only [hopmeshref12_Valid.j0] at H
   by_cases c13 : x29_1 = true
   ·subst c13
    rw [if_pos rfl] at H
    obtain rfl := Option.some.inj H
    go_wp2
    repeat (go_quiet (fail); try go_wp2)
    go_ret
    exact ⟨rerr, hbx HB⟩
   ·replace c13 := Bool.eq_false_iff.mpr c13
    subst c13
    rw [if_neg (show ¬ (false = true) by decide)] at H
    have H' := Aside0.mk H
    clear H
    go_wp2
    repeat (go_quiet (fail); try go_wp2)
    go_loopg [3] kj1 (fun kq v3 w' => ∃ (x3_2 : Int), v3 = .int .i64 x3_2 ∧ Aside0 (hopmeshref12_Valid.l0 kq x3_2 a0_0 l0_1 l0_2 l0_3 = some r) ∧ Aside0 (kq ≤ kj1) ∧ Aside0 (w'.heap[gb474]? = some (.cells #[.int .i64 a0_0, (.slice A0_1 l0_1.length c0_1), (.slice A0_2 l0_2.length c0_2), (.slice A0_3 l0_3.length c0_3)] 25 (0, 0))) ∧ Aside0 (Below w.heap.size w w'))
    case atStart => exact ⟨(0), rfs, H', ⟨Nat.le_refl _⟩, bkA BK474, hbA HB⟩
    case round =>
     clear H'
     try clear c13
     obtain ⟨x3_2, rfl, HA, HK2, BK474, HB⟩ := hrel
     cases gk with
     | zero => exact absurd HA.out (by simp [hopmeshref12_Valid.l0])
     | succ k2 =>
      have H := HA.out
      clear HA
      simp only [hopmeshref12_Valid.l0] at H
      by_cases c14 : x3_2 < 16
      ·rw [if_pos c14] at H
       have c14b0 : decide (x3_2 < 16) = true := decide_eq_true c14
       clear c14
       have HC15 := Aside0.mk H
       clear H
       go_upto_region 6 with (fail)
       repeat (go_quiet (fail); go_upto_region 6 with (fail))
       go_cut [49] (fun v49 wc => ∃ (kq : Nat) (x49_14 : Bool), v49 = .bool x49_14 ∧ Aside0 (hopmeshref12_Valid.j2 kq x3_2 x49_14 a0_0 l0_1 l0_2 l0_3 = some r) ∧ Aside0 (kq ≤ k2) ∧ Aside0 (wc.heap[gb474]? = some (.cells #[.int .i64 a0_0, (.slice A0_1 l0_1.length c0_1), (.slice A0_2 l0_2.length c0_2), (.slice A0_3 l0_3.length c0_3)] 25 (0, 0))) ∧ Aside0 (Below w.heap.size w wc))
       case first =>
        have H := HC15.out
        clear HC15
        by_cases c16 : 0 ≤ x3_2
        ·rw [if_pos c16] at H
         have c16b0 : decide (0 ≤ x3_2) = true := decide_eq_true c16
         clear c16
         (first | rw [c16b0] | (simp only [i64_w, i32_w]; rw [c16b0]) | skip)
         by_cases c17 : x3_2 < (l0_1.length : Int)
         ·rw [if_pos c17] at H
          have c17b0 : decide (x3_2 < (l0_1.length : Int)) = true := decide_eq_true c17
          clear c17
          replace H := Option.bind_eq_some_iff.mp H
          obtain ⟨t476, A180, H⟩ := H
          (try dsimp only at H)
          have A18 := Aside0.mk A180
          clear A180
          by_cases c19 : t476 = 0
          ·rw [if_pos c19] at H
           have c19b0 : (t476 == 0) = true := beq_iff_eq.mpr c19
           have c19b1 : (t476 != 0) = false := bne_eq_false_iff_eq.mpr c19
           clear c19
           by_cases c20 : x3_2 < (l0_3.length : Int)
           ·rw [if_pos c20] at H
            have c20b0 : decide (x3_2 < (l0_3.length : Int)) = true := decide_eq_true c20
            clear c20
            replace H := Option.bind_eq_some_iff.mp H
            obtain ⟨t478, A210, H⟩ := H
            (try dsimp only at H)
            have A21 := Aside0.mk A210
            clear A210
            have H' := Aside0.mk H
            clear H
            obtain ⟨z0, z1, z2, z3, y0, y1, y2, y3⟩ := bc4 BK474
            have p475 : 0 ≤ (x3_2 : Int) := pos_
            have q475 : x3_2 < (l0_1.length : Int) := pos_
            obtain ⟨ad475, e475, hx475_0, hx475_1⟩ := at_T34 HR0_1.out x3_2 p475 q475
            cases e475
            replace hx475_0 := (HB.out.cell (World.block_lt_of_cell? w _ hx475_0)).trans hx475_0
            replace hx475_1 := (HB.out.cell (World.block_lt_of_cell? w _ hx475_1)).trans hx475_1
            replace p475 := eq_true p475
            replace q475 := eq_true q475
            go_wp2_with (first | (go_at_call 25; (with_reducible refine (hopmeshref12_Check.calls ((rd_T34 l0_1 x3_2).f0) ((rd_T34 l0_1 x3_2).f1) t476 _ A18.out).mono ?_); rintro e w23 ⟨rfl, hb⟩; replace BK474 := bkB BK474 hb; replace HB := hbS HB hb; (try clear hb); (try clear hb2); (try clear hk); (try clear hi); obtain ⟨z0, z1, z2, z3, y0, y1, y2, y3⟩ := bc4 BK474; have p477 : 0 ≤ (x3_2 : Int) := pos_; have q477 : x3_2 < (l0_3.length : Int) := pos_; obtain ⟨ad477, e477, hx477_0⟩ := Kd.at_int HR0_3.out x3_2 p477 q477; cases e477; replace hx477_0 := (HB.out.cell (World.block_lt_of_cell? w _ hx477_0)).trans hx477_0; replace p477 := eq_true p477; replace q477 := eq_true q477) | (go_at_call 51; (with_reducible refine (hopmeshref12_hold.calls k2 (rd l0_3 x3_2) t478 _ A21.out).mono ?_); rintro e w' ⟨rfl, ⟨nd, rfl⟩⟩; (try first | exact ⟨rfl, _, World.drewN_drewN _ _ _⟩ | exact ⟨rfl, _, Eq.trans (World.drewN_drewN _ _ _) (congrArg (World.drewN _) (Nat.add_assoc _ _ _))⟩)))
            repeat (go_quiet (first | (go_at_call 25; (with_reducible refine (hopmeshref12_Check.calls ((rd_T34 l0_1 x3_2).f0) ((rd_T34 l0_1 x3_2).f1) t476 _ A18.out).mono ?_); rintro e w23 ⟨rfl, hb⟩; replace BK474 := bkB BK474 hb; replace HB := hbS HB hb; (try clear hb); (try clear hb2); (try clear hk); (try clear hi); obtain ⟨z0, z1, z2, z3, y0, y1, y2, y3⟩ := bc4 BK474; have p477 : 0 ≤ (x3_2 : Int) := pos_; have q477 : x3_2 < (l0_3.length : Int) := pos_; obtain ⟨ad477, e477, hx477_0⟩ := Kd.at_int HR0_3.out x3_2 p477 q477; cases e477; replace hx477_0 := (HB.out.cell (World.block_lt_of_cell? w _ hx477_0)).trans hx477_0; replace p477 := eq_true p477; replace q477 := eq_true q477) | (go_at_call 51; (with_reducible refine (hopmeshref12_hold.calls k2 (rd l0_3 x3_2) t478 _ A21.out).mono ?_); rintro e w' ⟨rfl, ⟨nd, rfl⟩⟩; (try first | exact ⟨rfl, _, World.drewN_drewN _ _ _⟩ | exact ⟨rfl, _, Eq.trans (World.drewN_drewN _ _ _) (congrArg (World.drewN _) (Nat.add_assoc _ _ _))⟩))); try go_wp2_with (first | (go_at_call 25; (with_reducible refine (hopmeshref12_Check.calls ((rd_T34 l0_1 x3_2).f0) ((rd_T34 l0_1 x3_2).f1) t476 _ A18.out).mono ?_); rintro e w23 ⟨rfl, hb⟩; replace BK474 := bkB BK474 hb; replace HB := hbS HB hb; (try clear hb); (try clear hb2); (try clear hk); (try clear hi); obtain ⟨z0, z1, z2, z3, y0, y1, y2, y3⟩ := bc4 BK474; have p477 : 0 ≤ (x3_2 : Int) := pos_; have q477 : x3_2 < (l0_3.length : Int) := pos_; obtain ⟨ad477, e477, hx477_0⟩ := Kd.at_int HR0_3.out x3_2 p477 q477; cases e477; replace hx477_0 := (HB.out.cell (World.block_lt_of_cell? w _ hx477_0)).trans hx477_0; replace p477 := eq_true p477; replace q477 := eq_true q477) | (go_at_call 51; (with_reducible refine (hopmeshref12_hold.calls k2 (rd l0_3 x3_2) t478 _ A21.out).mono ?_); rintro e w' ⟨rfl, ⟨nd, rfl⟩⟩; (try first | exact ⟨rfl, _, World.drewN_drewN _ _ _⟩ | exact ⟨rfl, _, Eq.trans (World.drewN_drewN _ _ _) (congrArg (World.drewN _) (Nat.add_assoc _ _ _))⟩))))
            go_meet
            case rel => exact ⟨_, (!t478), rfs, H', ⟨by have := HJ1.out; have := HK2.out; first | omega | exact Nat.le_refl _⟩, bkA BK474, hbA HB⟩
           ·rw [if_neg c20] at H
            exact absurd H (by simp)
          ·rw [if_neg c19] at H
           have c19b0 : (t476 == 0) = false := beq_eq_false_iff_ne.mpr c19
           have c19b1 : (t476 != 0) = true := bne_iff_ne.mpr c19
           have H' := Aside0.mk H
           clear H
           obtain ⟨z0, z1, z2, z3, y0, y1, y2, y3⟩ := bc4 BK474
           have p475 : 0 ≤ (x3_2 : Int) := pos_
           have q475 : x3_2 < (l0_1.length : Int) := pos_
           obtain ⟨ad475, e475, hx475_0, hx475_1⟩ := at_T34 HR0_1.out x3_2 p475 q475
           cases e475
           replace hx475_0 := (HB.out.cell (World.block_lt_of_cell? w _ hx475_0)).trans hx475_0
           replace hx475_1 := (HB.out.cell (World.block_lt_of_cell? w _ hx475_1)).trans hx475_1
           replace p475 := eq_true p475
           replace q475 := eq_true q475
           go_wp2_with (first | (go_at_call 25; (with_reducible refine (hopmeshref12_Check.calls ((rd_T34 l0_1 x3_2).f0) ((rd_T34 l0_1 x3_2).f1) t476 _ A18.out).mono ?_); rintro e w26 ⟨rfl, hb⟩; replace BK474 := bkB BK474 hb; replace HB := hbS HB hb; (try clear hb); (try clear hb2); (try clear hk); (try clear hi)))
           repeat (go_quiet (first | (go_at_call 25; (with_reducible refine (hopmeshref12_Check.calls ((rd_T34 l0_1 x3_2).f0) ((rd_T34 l0_1 x3_2).f1) t476 _ A18.out).mono ?_); rintro e w26 ⟨rfl, hb⟩; replace BK474 := bkB BK474 hb; replace HB := hbS HB hb; (try clear hb); (try clear hb2); (try clear hk); (try clear hi))); try go_wp2_with (first | (go_at_call 25; (with_reducible refine (hopmeshref12_Check.calls ((rd_T34 l0_1 x3_2).f0) ((rd_T34 l0_1 x3_2).f1) t476 _ A18.out).mono ?_); rintro e w26 ⟨rfl, hb⟩; replace BK474 := bkB BK474 hb; replace HB := hbS HB hb; (try clear hb); (try clear hb2); (try clear hk); (try clear hi))))
           go_meet
           case rel => exact ⟨_, (true), rfs, H', ⟨by have := HJ1.out; have := HK2.out; first | omega | exact Nat.le_refl _⟩, bkA BK474, hbA HB⟩
         ·rw [if_neg c17] at H
          exact absurd H (by simp)
        ·rw [if_neg c16] at H
         exact absurd H (by simp)
       case rest =>
        clear HC15
        try clear c13
        try clear c14
        try clear c14b0
        obtain ⟨kq, x49_14, rfl, HA, HJ14, BK474, HB⟩ := hcut
        cases kq with
        | zero => exact absurd HA.out (by simp [hopmeshref12_Valid.j2])
        | succ kj14 =>
         have H := HA.out
         clear HA
         simp only [hopmeshref12_Valid.j2] at H
         by_cases c27 : x49_14 = true
         ·subst c27
          rw [if_pos rfl] at H
          obtain rfl := Option.some.inj H
          go_wp2
          repeat (go_quiet (fail); try go_wp2)
          go_ret
          exact ⟨rerr, hbx HB⟩
         ·replace c27 := Bool.eq_false_iff.mpr c27
          subst c27
          rw [if_neg (show ¬ (false = true) by decide)] at H
          by_cases c28 : 0 ≤ x3_2
          ·rw [if_pos c28] at H
           have c28b0 : decide (0 ≤ x3_2) = true := decide_eq_true c28
           clear c28
           by_cases c29 : x3_2 < (l0_2.length : Int)
           ·rw [if_pos c29] at H
            have c29b0 : decide (x3_2 < (l0_2.length : Int)) = true := decide_eq_true c29
            clear c29
            by_cases c30 : (rd l0_2 x3_2) = 0
            ·rw [if_pos c30] at H
             have c30b0 : ((rd l0_2 x3_2) == 0) = true := beq_iff_eq.mpr c30
             have c30b1 : ((rd l0_2 x3_2) != 0) = false := bne_eq_false_iff_eq.mpr c30
             clear c30
             have H' := Aside0.mk H
             clear H
             obtain ⟨z0, z1, z2, z3, y0, y1, y2, y3⟩ := bc4 BK474
             have p479 : 0 ≤ (x3_2 : Int) := pos_
             have q479 : x3_2 < (l0_2.length : Int) := pos_
             obtain ⟨ad479, e479, hx479_0⟩ := Kd.at_int HR0_2.out x3_2 p479 q479
             cases e479
             replace hx479_0 := (HB.out.cell (World.block_lt_of_cell? w _ hx479_0)).trans hx479_0
             replace p479 := eq_true p479
             replace q479 := eq_true q479
             go_wp2
             repeat (go_quiet (fail); try go_wp2)
             go_roundg kj14
             case measure => have := HJ1.out; have := HK2.out; have := HJ14.out; omega
             case rel => exact ⟨(wrap64 (x3_2 + 1)), rfs, H', ⟨by have := HJ1.out; have := HK2.out; have := HJ14.out; omega⟩, bkA BK474, hbA HB⟩
            ·rw [if_neg c30] at H
             have c30b0 : ((rd l0_2 x3_2) == 0) = false := beq_eq_false_iff_ne.mpr c30
             have c30b1 : ((rd l0_2 x3_2) != 0) = true := bne_iff_ne.mpr c30
             by_cases c32 : (rd l0_2 x3_2) ≤ a0_0
             ·rw [if_pos c32] at H
              have c32b0 : decide ((rd l0_2 x3_2) ≤ a0_0) = true := decide_eq_true c32
              clear c32
              obtain rfl := Option.some.inj H
              obtain ⟨z0, z1, z2, z3, y0, y1, y2, y3⟩ := bc4 BK474
              have p479 : 0 ≤ (x3_2 : Int) := pos_
              have q479 : x3_2 < (l0_2.length : Int) := pos_
              obtain ⟨ad479, e479, hx479_0⟩ := Kd.at_int HR0_2.out x3_2 p479 q479
              cases e479
              replace hx479_0 := (HB.out.cell (World.block_lt_of_cell? w _ hx479_0)).trans hx479_0
              replace p479 := eq_true p479
              replace q479 := eq_true q479
              have p480 : 0 ≤ (x3_2 : Int) := pos_
              have q480 : x3_2 < (l0_2.length : Int) := pos_
              obtain ⟨ad480, e480, hx480_0⟩ := Kd.at_int HR0_2.out x3_2 p480 q480
              obtain rfl : ad479 = ad480 := (by injection e480)
              replace hx480_0 := (HB.out.cell (World.block_lt_of_cell? w _ hx480_0)).trans hx480_0
              replace p480 := eq_true p480
              replace q480 := eq_true q480
              go_wp2
              repeat (go_quiet (fail); try go_wp2)
              go_ret
              exact ⟨rerr, hbx HB⟩
             ·rw [if_neg c32] at H
              have c32b0 : decide ((rd l0_2 x3_2) ≤ a0_0) = false := decide_eq_false c32
              clear c32
              by_cases c34 : (rd l0_2 x3_2) > (wrap64 (a0_0 + 64))
              ·rw [if_pos c34] at H
               have c34b0 : decide ((wrap64 (a0_0 + 64)) < (rd l0_2 x3_2)) = true := decide_eq_true c34
               clear c34
               obtain rfl := Option.some.inj H
               obtain ⟨z0, z1, z2, z3, y0, y1, y2, y3⟩ := bc4 BK474
               have p479 : 0 ≤ (x3_2 : Int) := pos_
               have q479 : x3_2 < (l0_2.length : Int) := pos_
               obtain ⟨ad479, e479, hx479_0⟩ := Kd.at_int HR0_2.out x3_2 p479 q479
               cases e479
               replace hx479_0 := (HB.out.cell (World.block_lt_of_cell? w _ hx479_0)).trans hx479_0
               replace p479 := eq_true p479
               replace q479 := eq_true q479
               have p480 : 0 ≤ (x3_2 : Int) := pos_
               have q480 : x3_2 < (l0_2.length : Int) := pos_
               obtain ⟨ad480, e480, hx480_0⟩ := Kd.at_int HR0_2.out x3_2 p480 q480
               obtain rfl : ad479 = ad480 := (by injection e480)
               replace hx480_0 := (HB.out.cell (World.block_lt_of_cell? w _ hx480_0)).trans hx480_0
               replace p480 := eq_true p480
               replace q480 := eq_true q480
               have p481 : 0 ≤ (x3_2 : Int) := pos_
               have q481 : x3_2 < (l0_2.length : Int) := pos_
               obtain ⟨ad481, e481, hx481_0⟩ := Kd.at_int HR0_2.out x3_2 p481 q481
               obtain rfl : ad479 = ad481 := (by injection e481)
               replace hx481_0 := (HB.out.cell (World.block_lt_of_cell? w _ hx481_0)).trans hx481_0
               replace p481 := eq_true p481
               replace q481 := eq_true q481
               go_wp2
               repeat (go_quiet (fail); try go_wp2)
               go_ret
               exact ⟨rerr, hbx HB⟩
              ·rw [if_neg c34] at H
               have c34b0 : decide ((wrap64 (a0_0 + 64)) < (rd l0_2 x3_2)) = false := decide_eq_false c34
               clear c34
               by_cases c36 : x3_2 < (l0_3.length : Int)
               ·rw [if_pos c36] at H
                have c36b0 : decide (x3_2 < (l0_3.length : Int)) = true := decide_eq_true c36
                clear c36
                by_cases c37 : (rd l0_3 x3_2) = 0
                ·rw [if_pos c37] at H
                 have c37b0 : ((rd l0_3 x3_2) == 0) = true := beq_iff_eq.mpr c37
                 have c37b1 : ((rd l0_3 x3_2) != 0) = false := bne_eq_false_iff_eq.mpr c37
                 clear c37
                 obtain rfl := Option.some.inj H
                 obtain ⟨z0, z1, z2, z3, y0, y1, y2, y3⟩ := bc4 BK474
                 have p479 : 0 ≤ (x3_2 : Int) := pos_
                 have q479 : x3_2 < (l0_2.length : Int) := pos_
                 obtain ⟨ad479, e479, hx479_0⟩ := Kd.at_int HR0_2.out x3_2 p479 q479
                 cases e479
                 replace hx479_0 := (HB.out.cell (World.block_lt_of_cell? w _ hx479_0)).trans hx479_0
                 replace p479 := eq_true p479
                 replace q479 := eq_true q479
                 have p480 : 0 ≤ (x3_2 : Int) := pos_
                 have q480 : x3_2 < (l0_2.length : Int) := pos_
                 obtain ⟨ad480, e480, hx480_0⟩ := Kd.at_int HR0_2.out x3_2 p480 q480
                 obtain rfl : ad479 = ad480 := (by injection e480)
                 replace hx480_0 := (HB.out.cell (World.block_lt_of_cell? w _ hx480_0)).trans hx480_0
                 replace p480 := eq_true p480
                 replace q480 := eq_true q480
                 have p481 : 0 ≤ (x3_2 : Int) := pos_
                 have q481 : x3_2 < (l0_2.length : Int) := pos_
                 obtain ⟨ad481, e481, hx481_0⟩ := Kd.at_int HR0_2.out x3_2 p481 q481
                 obtain rfl : ad479 = ad481 := (by injection e481)
                 replace hx481_0 := (HB.out.cell (World.block_lt_of_cell? w _ hx481_0)).trans hx481_0
                 replace p481 := eq_true p481
                 replace q481 := eq_true q481
                 have p482 : 0 ≤ (x3_2 : Int) := pos_
                 have q482 : x3_2 < (l0_3.length : Int) := pos_
                 obtain ⟨ad482, e482, hx482_0⟩ := Kd.at_int HR0_3.out x3_2 p482 q482
                 cases e482
                 replace hx482_0 := (HB.out.cell (World.block_lt_of_cell? w _ hx482_0)).trans hx482_0
                 replace p482 := eq_true p482
                 replace q482 := eq_true q482
                 go_wp2
                 repeat (go_quiet (fail); try go_wp2)
                 go_ret
                 exact ⟨rerr, hbx HB⟩
                ·rw [if_neg c37] at H
                 have c37b0 : ((rd l0_3 x3_2) == 0) = false := beq_eq_false_iff_ne.mpr c37
                 have c37b1 : ((rd l0_3 x3_2) != 0) = true := bne_iff_ne.mpr c37
                 have H' := Aside0.mk H
                 clear H
                 obtain ⟨z0, z1, z2, z3, y0, y1, y2, y3⟩ := bc4 BK474
                 have p479 : 0 ≤ (x3_2 : Int) := pos_
                 have q479 : x3_2 < (l0_2.length : Int) := pos_
                 obtain ⟨ad479, e479, hx479_0⟩ := Kd.at_int HR0_2.out x3_2 p479 q479
                 cases e479
                 replace hx479_0 := (HB.out.cell (World.block_lt_of_cell? w _ hx479_0)).trans hx479_0
                 replace p479 := eq_true p479
                 replace q479 := eq_true q479
                 have p480 : 0 ≤ (x3_2 : Int) := pos_
                 have q480 : x3_2 < (l0_2.length : Int) := pos_
                 obtain ⟨ad480, e480, hx480_0⟩ := Kd.at_int HR0_2.out x3_2 p480 q480
                 obtain rfl : ad479 = ad480 := (by injection e480)
                 replace hx480_0 := (HB.out.cell (World.block_lt_of_cell? w _ hx480_0)).trans hx480_0
                 replace p480 := eq_true p480
                 replace q480 := eq_true q480
                 have p481 : 0 ≤ (x3_2 : Int) := pos_
                 have q481 : x3_2 < (l0_2.length : Int) := pos_
                 obtain ⟨ad481, e481, hx481_0⟩ := Kd.at_int HR0_2.out x3_2 p481 q481
                 obtain rfl : ad479 = ad481 := (by injection e481)
                 replace hx481_0 := (HB.out.cell (World.block_lt_of_cell? w _ hx481_0)).trans hx481_0
                 replace p481 := eq_true p481
                 replace q481 := eq_true q481
                 have p482 : 0 ≤ (x3_2 : Int) := pos_
                 have q482 : x3_2 < (l0_3.length : Int) := pos_
                 obtain ⟨ad482, e482, hx482_0⟩ := Kd.at_int HR0_3.out x3_2 p482 q482
                 cases e482
                 replace hx482_0 := (HB.out.cell (World.block_lt_of_cell? w _ hx482_0)).trans hx482_0
                 replace p482 := eq_true p482
                 replace q482 := eq_true q482
                 go_wp2
                 repeat (go_quiet (fail); try go_wp2)
                 go_roundg kj14
                 case measure => have := HJ1.out; have := HK2.out; have := HJ14.out; omega
                 case rel => exact ⟨(wrap64 (x3_2 + 1)), rfs, H', ⟨by have := HJ1.out; have := HK2.out; have := HJ14.out; omega⟩, bkA BK474, hbA HB⟩
               ·rw [if_neg c36] at H
                exact absurd H (by simp)
           ·rw [if_neg c29] at H
            exact absurd H (by simp)
          ·rw [if_neg c28] at H
           exact absurd H (by simp)
      ·rw [if_neg c14] at H
       have c14b0 : decide (x3_2 < 16) = false := decide_eq_false c14
       clear c14
       obtain rfl := Option.some.inj H
       go_wp2
       repeat (go_quiet (fail); try go_wp2)
       go_ret
       exact ⟨rerr, hbx HB⟩
end Go.Proofs.Ytnipgplobipeeaa.PQ
