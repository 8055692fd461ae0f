-- Printed by fprint.py and zip.py, programs of this session's, over the kit's print; Lean checks it.
import Derived.Test.YtdigplhjfjchnaaZ0
import Derived.Test.YtdigplhjfjchnaaZf42
import Derived.Test.YtdigplhjfjchnaaZf51
import Derived.Test.YtdigplhjfjchnaaZf54
namespace Go.Proofs.Ytdigplhjfjchnaa.PQ
open Go.RowKit Go.Proofs.YtdigplhjfjchnaaW.PrintWords Go.Proofs.YtdigplhjfjchnaaW.PrintLast Go.Proofs.YtdigplhjfjchnaaW.PrintMore
attribute [local go_sem] max2_int min2_int max_two min_two max_three min_three max_four min_four   -- for this text's walks alone
set_option linter.unusedVariables false
set_option linter.unusedSimpArgs false
def install_Valid.j0 : Nat → Bool → ByteArray → List Int → List Bool → List Bool → Int → Int → Option (Int)
 | 0, _, _, _, _, _, _, _ => none
 | k + 1, x50, x167000, x167001, x167002, x167003, x167004, x167005 => if x50 = true then (some 1) else (if x167004 = 0 then (if x167005 = 0 then ((slices_Contains_bool_bool.f k x167003 true).bind fun t169 => (if t169 = true then (some 1) else (some 0))) else (some 1)) else (some 0))
def install_Valid.f (k : Nat) (a0_0 : ByteArray) (l0_1 : List Int) (l0_2 : List Bool) (l0_3 : List Bool) (a0_4 : Int) (a0_5 : Int) : Option (Int) := (install_identifier.f a0_0).bind fun t167 => (if t167 = true then ((install_list.f k l0_1).bind fun t168 => (if t168 = true then (if (l0_2.length : Int) = (l0_1.length : Int) then (if (l0_3.length : Int) = (l0_1.length : Int) then (if a0_4 < 0 then (install_Valid.j0 k true a0_0 l0_1 l0_2 l0_3 a0_4 a0_5) else (if a0_4 > 1048576 then (install_Valid.j0 k true a0_0 l0_1 l0_2 l0_3 a0_4 a0_5) else (if a0_5 < 0 then (install_Valid.j0 k true a0_0 l0_1 l0_2 l0_3 a0_4 a0_5) else (install_Valid.j0 k (decide (a0_5 > 1073741824)) a0_0 l0_1 l0_2 l0_3 a0_4 a0_5)))) else (install_Valid.j0 k true a0_0 l0_1 l0_2 l0_3 a0_4 a0_5)) else (install_Valid.j0 k true a0_0 l0_1 l0_2 l0_3 a0_4 a0_5)) else (install_Valid.j0 k true a0_0 l0_1 l0_2 l0_3 a0_4 a0_5))) else (install_Valid.j0 k true a0_0 l0_1 l0_2 l0_3 a0_4 a0_5))
theorem install_Valid.mono_l : ∀ k, (∀ y0 y1 y2 y3 y4 y5 y6, LeO (install_Valid.j0 k y0 y1 y2 y3 y4 y5 y6) (install_Valid.j0 (k + 1) y0 y1 y2 y3 y4 y5 y6))
 | 0 => fun _ _ _ _ _ _ _ r h => by simp [install_Valid.j0] at h
 | k + 1 => by
  have ih0 := install_Valid.mono_l k
  ·intro y0 y1 y2 y3 y4 y5 y6
   unfold install_Valid.j0
   repeat' first
   | (with_reducible exact ih0 _ _ _ _ _ _ _)
   | (with_reducible exact install_list.mono _ _)
   | (with_reducible exact slices_Contains_bool_bool.mono _ _ _)
   | (with_reducible exact LeO.refl _)
   | (with_reducible exact LeO.none _)
   | (with_reducible refine LeO.ite ?_ ?_)
   | (with_reducible refine LeO.bind ?_ (fun _ => ?_))
   | exact ih0 _ _ _ _ _ _ _
   | exact install_list.mono _ _
   | exact slices_Contains_bool_bool.mono _ _ _
   | exact LeO.none _
   | refine LeO.ite ?_ ?_
   | refine LeO.bind ?_ (fun _ => ?_)
theorem install_Valid.mono : ∀ a0 a1 a2 a3 a4 a5 k, LeO (install_Valid.f k a0 a1 a2 a3 a4 a5) (install_Valid.f (k + 1) a0 a1 a2 a3 a4 a5) := by
 intro a0 a1 a2 a3 a4 a5 k
 have ih0 := install_Valid.mono_l k
 unfold install_Valid.f
 repeat' first
  | (with_reducible exact ih0 _ _ _ _ _ _ _)
  | (with_reducible exact install_list.mono _ _)
  | (with_reducible exact slices_Contains_bool_bool.mono _ _ _)
  | (with_reducible exact LeO.refl _)
  | (with_reducible exact LeO.none _)
  | (with_reducible refine LeO.ite ?_ ?_)
  | (with_reducible refine LeO.bind ?_ (fun _ => ?_))
  | exact ih0 _ _ _ _ _ _ _
  | exact install_list.mono _ _
  | exact slices_Contains_bool_bool.mono _ _ _
  | exact LeO.none _
  | refine LeO.ite ?_ ?_
  | refine LeO.bind ?_ (fun _ => ?_)
set_option maxHeartbeats 8000000 in
set_option maxRecDepth 100000 in
theorem install_Valid.calls (k : Nat) (a0_0 : ByteArray) (A0_1 : Option Addr) (c0_1 : Nat) (l0_1 : List Int) (A0_2 : Option Addr) (c0_2 : Nat) (l0_2 : List Bool) (A0_3 : Option Addr) (c0_3 : Nat) (l0_3 : List Bool) (a0_4 : Int) (a0_5 : Int) (r : Int) (w : World) (hr0_1 : Kd.C (Kd.int .i64) w A0_1 l0_1.length l0_1) (hc0_1 : l0_1.length ≤ c0_1) (hr0_2 : Kd.C Kd.bool w A0_2 l0_2.length l0_2) (hc0_2 : l0_2.length ≤ c0_2) (hr0_3 : Kd.C Kd.bool w A0_3 l0_3.length l0_3) (hc0_3 : l0_3.length ≤ c0_3) (h : install_Valid.f k a0_0 l0_1 l0_2 l0_3 a0_4 a0_5 = some r) :
 Calls Try.prog 32 #[.agg #[.string a0_0, .slice A0_1 l0_1.length c0_1, .slice A0_2 l0_2.length c0_2, .slice A0_3 l0_3.length c0_3, .int .i64 a0_4, .int .i64 a0_5]] w fun e w' => e = .returned (.int .i64 r) ∧ Below w.heap.size w w' := by
 have hu50 := Try.underlying50
 have HR0_1 := Aside0.mk hr0_1
 have HC0_1 := Aside0.mk hc0_1
 clear hr0_1 hc0_1
 have HR0_2 := Aside0.mk hr0_2
 have HC0_2 := Aside0.mk hc0_2
 clear hr0_2 hc0_2
 have HR0_3 := Aside0.mk hr0_3
 have HC0_3 := Aside0.mk hc0_3
 clear hr0_3 hc0_3
 have HB := Aside0.mk (Below.refl w.heap.size w)
 have H : ((install_identifier.f a0_0).bind fun t167 => (if t167 = true then ((install_list.f k l0_1).bind fun t168 => (if t168 = true then (if (l0_2.length : Int) = (l0_1.length : Int) then (if (l0_3.length : Int) = (l0_1.length : Int) then (if a0_4 < 0 then (install_Valid.j0 k true a0_0 l0_1 l0_2 l0_3 a0_4 a0_5) else (if a0_4 > 1048576 then (install_Valid.j0 k true a0_0 l0_1 l0_2 l0_3 a0_4 a0_5) else (if a0_5 < 0 then (install_Valid.j0 k true a0_0 l0_1 l0_2 l0_3 a0_4 a0_5) else (install_Valid.j0 k (decide (a0_5 > 1073741824)) a0_0 l0_1 l0_2 l0_3 a0_4 a0_5)))) else (install_Valid.j0 k true a0_0 l0_1 l0_2 l0_3 a0_4 a0_5)) else (install_Valid.j0 k true a0_0 l0_1 l0_2 l0_3 a0_4 a0_5)) else (install_Valid.j0 k true a0_0 l0_1 l0_2 l0_3 a0_4 a0_5))) else (install_Valid.j0 k true a0_0 l0_1 l0_2 l0_3 a0_4 a0_5))) = some r := h
 clear h
 have HC2 := Aside0.mk H
 clear H
 go_enter Try.func32, Try.ntmps32
 go_upto_region 2 with (first | ((with_reducible refine gate_dst (N := 1) rfl ?_); (try (refine gate_guard (by rfl) ?_; dsimp only)); refine boxE 1 #[.string a0_0, .slice A0_1 l0_1.length c0_1, .slice A0_2 l0_2.length c0_2, .slice A0_3 l0_3.length c0_3, .int .i64 a0_4, .int .i64 a0_5] 50 ?_; intro gb166 hg w3 hbox hb; have BK166 := Aside0.mk (hbox); have GW166 := gw hg HB; have GE166 := gw hg HB; replace HB := hbS HB hb; clear hb hbox hg; obtain ⟨z0, z1, z2, z3, z4, z5, y0, y1, y2, y3, y4, y5⟩ := bc6 BK166))
 (try simp only [Act.put, List.setIfInBounds_toArray, List.set_cons_zero, List.set_cons_succ])
 go_cut [50] (fun v50 wc => ∃ (kq : Nat) (x50_1 : Bool), v50 = .bool x50_1 ∧ Aside0 (install_Valid.j0 kq x50_1 a0_0 l0_1 l0_2 l0_3 a0_4 a0_5 = some r) ∧ Aside0 (kq ≤ k) ∧ Aside0 (wc.heap[gb166]? = some (.cells #[.string a0_0, (.slice A0_1 l0_1.length c0_1), (.slice A0_2 l0_2.length c0_2), (.slice A0_3 l0_3.length c0_3), .int .i64 a0_4, .int .i64 a0_5] 50 (0, 0))) ∧ Aside0 (Below w.heap.size w wc))
 case first =>
  have H := HC2.out
  clear HC2
  replace H := Option.bind_eq_some_iff.mp H
  obtain ⟨t167, A50, H⟩ := H
  (try dsimp only at H)
  have A5 := Aside0.mk A50
  clear A50
  by_cases c6 : t167 = true
  ·subst c6
   rw [if_pos rfl] at H
   replace H := Option.bind_eq_some_iff.mp H
   obtain ⟨t168, A70, H⟩ := H
   (try dsimp only at H)
   have A7 := Aside0.mk A70
   clear A70
   by_cases c8 : t168 = true
   ·subst c8
    rw [if_pos rfl] at H
    by_cases c9 : (l0_2.length : Int) = (l0_1.length : Int)
    ·rw [if_pos c9] at H
     have c9b0 : ((l0_2.length : Int) == (l0_1.length : Int)) = true := beq_iff_eq.mpr c9
     have c9b1 : ((l0_2.length : Int) != (l0_1.length : Int)) = false := bne_eq_false_iff_eq.mpr c9
     have c9b2 : (l0_2.length == l0_1.length) = true := by first | simpa using c9 | (simp at c9 ⊢; omega)
     clear c9
     (first | rw [c9b0] | (simp only [i64_w, i32_w]; rw [c9b0]) | skip)
     by_cases c10 : (l0_3.length : Int) = (l0_1.length : Int)
     ·rw [if_pos c10] at H
      have c10b0 : ((l0_3.length : Int) == (l0_1.length : Int)) = true := beq_iff_eq.mpr c10
      have c10b1 : ((l0_3.length : Int) != (l0_1.length : Int)) = false := bne_eq_false_iff_eq.mpr c10
      have c10b2 : (l0_3.length == l0_1.length) = true := by first | simpa using c10 | (simp at c10 ⊢; omega)
      clear c10
      by_cases c11 : a0_4 < 0
      ·rw [if_pos c11] at H
       have c11b0 : decide (a0_4 < 0) = true := decide_eq_true c11
       clear c11
       have H' := Aside0.mk H
       clear H
       obtain ⟨z0, z1, z2, z3, z4, z5, y0, y1, y2, y3, y4, y5⟩ := bc6 BK166
       go_wp2_with (first | ((with_reducible refine gate_callee (f := 42) rfl ?_); refine goesL_ (some 9) rfl rfl Try.func42 (by kernel_rfl) rfl #[.string a0_0] rfl sma ?_; (with_reducible refine (install_identifier.calls a0_0 true _ A5.out).mono ?_); rintro e w' ⟨rfl, ⟨nd, rfl⟩⟩; refine ⟨_, rfl, ?_⟩) | (go_at_call 51; (with_reducible refine (install_list.calls k _ _ l0_1 true _ ?side1 HC0_1.out A7.out).mono ?_); (case side1 => repeat (first | exact (Kd.C_below HR0_1.out (hbx HB)) | (with_reducible refine Kd.C_alloc ?_ _) | (with_reducible refine Kd.C_drewN ?_ _) | (with_reducible refine Kd.C_drew ?_))); rintro e w' ⟨rfl, ⟨nd, rfl⟩⟩))
       go_meet
       case rel => exact ⟨_, (true), rfs, H', kle, bkA BK166, hbA HB⟩
      ·rw [if_neg c11] at H
       have c11b0 : decide (a0_4 < 0) = false := decide_eq_false c11
       clear c11
       by_cases c13 : a0_4 > 1048576
       ·rw [if_pos c13] at H
        have c13b0 : decide (1048576 < a0_4) = true := decide_eq_true c13
        clear c13
        have H' := Aside0.mk H
        clear H
        obtain ⟨z0, z1, z2, z3, z4, z5, y0, y1, y2, y3, y4, y5⟩ := bc6 BK166
        go_wp2_with (first | ((with_reducible refine gate_callee (f := 42) rfl ?_); refine goesL_ (some 9) rfl rfl Try.func42 (by kernel_rfl) rfl #[.string a0_0] rfl sma ?_; (with_reducible refine (install_identifier.calls a0_0 true _ A5.out).mono ?_); rintro e w' ⟨rfl, ⟨nd, rfl⟩⟩; refine ⟨_, rfl, ?_⟩) | (go_at_call 51; (with_reducible refine (install_list.calls k _ _ l0_1 true _ ?side1 HC0_1.out A7.out).mono ?_); (case side1 => repeat (first | exact (Kd.C_below HR0_1.out (hbx HB)) | (with_reducible refine Kd.C_alloc ?_ _) | (with_reducible refine Kd.C_drewN ?_ _) | (with_reducible refine Kd.C_drew ?_))); rintro e w' ⟨rfl, ⟨nd, rfl⟩⟩))
        go_meet
        case rel => exact ⟨_, (true), rfs, H', kle, bkA BK166, hbA HB⟩
       ·rw [if_neg c13] at H
        have c13b0 : decide (1048576 < a0_4) = false := decide_eq_false c13
        clear c13
        by_cases c15 : a0_5 < 0
        ·rw [if_pos c15] at H
         have c15b0 : decide (a0_5 < 0) = true := decide_eq_true c15
         clear c15
         have H' := Aside0.mk H
         clear H
         obtain ⟨z0, z1, z2, z3, z4, z5, y0, y1, y2, y3, y4, y5⟩ := bc6 BK166
         go_wp2_with (first | ((with_reducible refine gate_callee (f := 42) rfl ?_); refine goesL_ (some 9) rfl rfl Try.func42 (by kernel_rfl) rfl #[.string a0_0] rfl sma ?_; (with_reducible refine (install_identifier.calls a0_0 true _ A5.out).mono ?_); rintro e w' ⟨rfl, ⟨nd, rfl⟩⟩; refine ⟨_, rfl, ?_⟩) | (go_at_call 51; (with_reducible refine (install_list.calls k _ _ l0_1 true _ ?side1 HC0_1.out A7.out).mono ?_); (case side1 => repeat (first | exact (Kd.C_below HR0_1.out (hbx HB)) | (with_reducible refine Kd.C_alloc ?_ _) | (with_reducible refine Kd.C_drewN ?_ _) | (with_reducible refine Kd.C_drew ?_))); rintro e w' ⟨rfl, ⟨nd, rfl⟩⟩))
         go_meet
         case rel => exact ⟨_, (true), rfs, H', kle, bkA BK166, hbA HB⟩
        ·rw [if_neg c15] at H
         have c15b0 : decide (a0_5 < 0) = false := decide_eq_false c15
         clear c15
         have H' := Aside0.mk H
         clear H
         obtain ⟨z0, z1, z2, z3, z4, z5, y0, y1, y2, y3, y4, y5⟩ := bc6 BK166
         go_wp2_with (first | ((with_reducible refine gate_callee (f := 42) rfl ?_); refine goesL_ (some 9) rfl rfl Try.func42 (by kernel_rfl) rfl #[.string a0_0] rfl sma ?_; (with_reducible refine (install_identifier.calls a0_0 true _ A5.out).mono ?_); rintro e w' ⟨rfl, ⟨nd, rfl⟩⟩; refine ⟨_, rfl, ?_⟩) | (go_at_call 51; (with_reducible refine (install_list.calls k _ _ l0_1 true _ ?side1 HC0_1.out A7.out).mono ?_); (case side1 => repeat (first | exact (Kd.C_below HR0_1.out (hbx HB)) | (with_reducible refine Kd.C_alloc ?_ _) | (with_reducible refine Kd.C_drewN ?_ _) | (with_reducible refine Kd.C_drew ?_))); rintro e w' ⟨rfl, ⟨nd, rfl⟩⟩))
         go_meet
         case rel => exact ⟨_, (decide (a0_5 > 1073741824)), rfs, H', kle, bkA BK166, hbA HB⟩
     ·rw [if_neg c10] at H
      have c10b0 : ((l0_3.length : Int) == (l0_1.length : Int)) = false := beq_eq_false_iff_ne.mpr c10
      have c10b1 : ((l0_3.length : Int) != (l0_1.length : Int)) = true := bne_iff_ne.mpr c10
      have c10b2 : (l0_3.length == l0_1.length) = false := by first | simpa using c10 | (simp at c10 ⊢; omega)
      have H' := Aside0.mk H
      clear H
      obtain ⟨z0, z1, z2, z3, z4, z5, y0, y1, y2, y3, y4, y5⟩ := bc6 BK166
      go_wp2_with (first | ((with_reducible refine gate_callee (f := 42) rfl ?_); refine goesL_ (some 9) rfl rfl Try.func42 (by kernel_rfl) rfl #[.string a0_0] rfl sma ?_; (with_reducible refine (install_identifier.calls a0_0 true _ A5.out).mono ?_); rintro e w' ⟨rfl, ⟨nd, rfl⟩⟩; refine ⟨_, rfl, ?_⟩) | (go_at_call 51; (with_reducible refine (install_list.calls k _ _ l0_1 true _ ?side1 HC0_1.out A7.out).mono ?_); (case side1 => repeat (first | exact (Kd.C_below HR0_1.out (hbx HB)) | (with_reducible refine Kd.C_alloc ?_ _) | (with_reducible refine Kd.C_drewN ?_ _) | (with_reducible refine Kd.C_drew ?_))); rintro e w' ⟨rfl, ⟨nd, rfl⟩⟩))
      go_meet
      case rel => exact ⟨_, (true), rfs, H', kle, bkA BK166, hbA HB⟩
    ·rw [if_neg c9] at H
     have c9b0 : ((l0_2.length : Int) == (l0_1.length : Int)) = false := beq_eq_false_iff_ne.mpr c9
     have c9b1 : ((l0_2.length : Int) != (l0_1.length : Int)) = true := bne_iff_ne.mpr c9
     have c9b2 : (l0_2.length == l0_1.length) = false := by first | simpa using c9 | (simp at c9 ⊢; omega)
     (first | rw [c9b0] | (simp only [i64_w, i32_w]; rw [c9b0]) | skip)
     have H' := Aside0.mk H
     clear H
     obtain ⟨z0, z1, z2, z3, z4, z5, y0, y1, y2, y3, y4, y5⟩ := bc6 BK166
     go_wp2_with (first | ((with_reducible refine gate_callee (f := 42) rfl ?_); refine goesL_ (some 9) rfl rfl Try.func42 (by kernel_rfl) rfl #[.string a0_0] rfl sma ?_; (with_reducible refine (install_identifier.calls a0_0 true _ A5.out).mono ?_); rintro e w' ⟨rfl, ⟨nd, rfl⟩⟩; refine ⟨_, rfl, ?_⟩) | (go_at_call 51; (with_reducible refine (install_list.calls k _ _ l0_1 true _ ?side1 HC0_1.out A7.out).mono ?_); (case side1 => repeat (first | exact (Kd.C_below HR0_1.out (hbx HB)) | (with_reducible refine Kd.C_alloc ?_ _) | (with_reducible refine Kd.C_drewN ?_ _) | (with_reducible refine Kd.C_drew ?_))); rintro e w' ⟨rfl, ⟨nd, rfl⟩⟩))
     go_meet
     case rel => exact ⟨_, (true), rfs, H', kle, bkA BK166, hbA HB⟩
   ·replace c8 := Bool.eq_false_iff.mpr c8
    subst c8
    rw [if_neg (show ¬ (false = true) by decide)] at H
    have H' := Aside0.mk H
    clear H
    obtain ⟨z0, z1, z2, z3, z4, z5, y0, y1, y2, y3, y4, y5⟩ := bc6 BK166
    go_wp2_with (first | ((with_reducible refine gate_callee (f := 42) rfl ?_); refine goesL_ (some 9) rfl rfl Try.func42 (by kernel_rfl) rfl #[.string a0_0] rfl sma ?_; (with_reducible refine (install_identifier.calls a0_0 true _ A5.out).mono ?_); rintro e w' ⟨rfl, ⟨nd, rfl⟩⟩; refine ⟨_, rfl, ?_⟩) | (go_at_call 51; (with_reducible refine (install_list.calls k _ _ l0_1 false _ ?side1 HC0_1.out A7.out).mono ?_); (case side1 => repeat (first | exact (Kd.C_below HR0_1.out (hbx HB)) | (with_reducible refine Kd.C_alloc ?_ _) | (with_reducible refine Kd.C_drewN ?_ _) | (with_reducible refine Kd.C_drew ?_))); rintro e w' ⟨rfl, ⟨nd, rfl⟩⟩))
    go_meet
    case rel => exact ⟨_, (true), rfs, H', kle, bkA BK166, hbA HB⟩
  ·replace c6 := Bool.eq_false_iff.mpr c6
   subst c6
   rw [if_neg (show ¬ (false = true) by decide)] at H
   have H' := Aside0.mk H
   clear H
   obtain ⟨z0, z1, z2, z3, z4, z5, y0, y1, y2, y3, y4, y5⟩ := bc6 BK166
   go_wp2_with (first | ((with_reducible refine gate_callee (f := 42) rfl ?_); refine goesL_ (some 9) rfl rfl Try.func42 (by kernel_rfl) rfl #[.string a0_0] rfl sma ?_; (with_reducible refine (install_identifier.calls a0_0 false _ A5.out).mono ?_); rintro e w' ⟨rfl, ⟨nd, rfl⟩⟩; refine ⟨_, rfl, ?_⟩))
   go_meet
   case rel => exact ⟨_, (true), rfs, H', kle, bkA BK166, hbA HB⟩
 case rest =>
  clear HC2
  try clear hcz4_0
  try clear hcz4_1
  try clear hcz4_2
  try clear hcz4_3
  try clear hcz4_4
  try clear hcz4_5
  try clear hfz4_0
  try clear hfz4_1
  try clear hfz4_2
  try clear hfz4_3
  try clear hfz4_4
  try clear hfz4_5
  obtain ⟨kq, x50_1, rfl, HA, HJ1, BK166, HB⟩ := hcut
  cases kq with
  | zero => exact absurd HA.out (by simp [install_Valid.j0])
  | succ kj1 =>
   have H := HA.out
   clear HA
   simp only [install_Valid.j0] at H
   by_cases c22 : x50_1 = true
   ·subst c22
    rw [if_pos rfl] at H
    obtain rfl := Option.some.inj H
    go_wp2
    go_ret
    exact ⟨rerr, hbx HB⟩
   ·replace c22 := Bool.eq_false_iff.mpr c22
    subst c22
    rw [if_neg (show ¬ (false = true) by decide)] at H
    by_cases c23 : a0_4 = 0
    ·rw [if_pos c23] at H
     have c23b0 : (a0_4 == 0) = true := beq_iff_eq.mpr c23
     have c23b1 : (a0_4 != 0) = false := bne_eq_false_iff_eq.mpr c23
     clear c23
     by_cases c24 : a0_5 = 0
     ·rw [if_pos c24] at H
      have c24b0 : (a0_5 == 0) = true := beq_iff_eq.mpr c24
      have c24b1 : (a0_5 != 0) = false := bne_eq_false_iff_eq.mpr c24
      clear c24
      replace H := Option.bind_eq_some_iff.mp H
      obtain ⟨t169, A250, H⟩ := H
      (try dsimp only at H)
      have A25 := Aside0.mk A250
      clear A250
      by_cases c26 : t169 = true
      ·subst c26
       rw [if_pos rfl] at H
       obtain rfl := Option.some.inj H
       obtain ⟨z0, z1, z2, z3, z4, z5, y0, y1, y2, y3, y4, y5⟩ := bc6 BK166
       go_wp2_with (first | (go_at_call 54; (with_reducible refine (slices_Contains_bool_bool.calls kj1 _ _ l0_3 true true _ (cb HR0_3 HB) HC0_3.out A25.out).mono ?_); rintro e w' ⟨rfl, ⟨nd, rfl⟩⟩))
       go_ret
       exact ⟨rerr, hbx HB⟩
      ·replace c26 := Bool.eq_false_iff.mpr c26
       subst c26
       rw [if_neg (show ¬ (false = true) by decide)] at H
       obtain rfl := Option.some.inj H
       obtain ⟨z0, z1, z2, z3, z4, z5, y0, y1, y2, y3, y4, y5⟩ := bc6 BK166
       go_wp2_with (first | (go_at_call 54; (with_reducible refine (slices_Contains_bool_bool.calls kj1 _ _ l0_3 true false _ (cb HR0_3 HB) HC0_3.out A25.out).mono ?_); rintro e w' ⟨rfl, ⟨nd, rfl⟩⟩))
       go_ret
       exact ⟨rerr, hbx HB⟩
     ·rw [if_neg c24] at H
      have c24b0 : (a0_5 == 0) = false := beq_eq_false_iff_ne.mpr c24
      have c24b1 : (a0_5 != 0) = true := bne_iff_ne.mpr c24
      obtain rfl := Option.some.inj H
      obtain ⟨z0, z1, z2, z3, z4, z5, y0, y1, y2, y3, y4, y5⟩ := bc6 BK166
      go_wp2
      go_ret
      exact ⟨rerr, hbx HB⟩
    ·rw [if_neg c23] at H
     have c23b0 : (a0_4 == 0) = false := beq_eq_false_iff_ne.mpr c23
     have c23b1 : (a0_4 != 0) = true := bne_iff_ne.mpr c23
     obtain rfl := Option.some.inj H
     obtain ⟨z0, z1, z2, z3, z4, z5, y0, y1, y2, y3, y4, y5⟩ := bc6 BK166
     go_wp2
     go_ret
     exact ⟨rerr, hbx HB⟩
end Go.Proofs.Ytdigplhjfjchnaa.PQ
