-- Printed by fprint.py and zip.py, programs of this session's, over the kit's print; Lean checks it.
import Derived.Test.YtdigplhjfjchnaaZ0
import Derived.Test.YtdigplhjfjchnaaZf62
import Derived.Test.YtdigplhjfjchnaaZf63
namespace Go.Proofs.Ytdigplhjfjchnaa.PQ
open Go.RowKit Go.Proofs.YtdigplhjfjchnaaW.PrintWords Go.Proofs.YtdigplhjfjchnaaW.PrintLast Go.Proofs.YtdigplhjfjchnaaW.PrintMore
attribute [local go_sem] max2_int min2_int max_two min_two max_three min_three max_four min_four   -- for this text's walks alone
set_option linter.unusedVariables false
set_option linter.unusedSimpArgs false
def hopmeshref49_Command.f (k : Nat) (a0_0 : Int) (a0_1 : Int) (a0_2 : Int) (a0_3 : ByteArray) (l0_4 : List Int) : Option (Bool) := if a0_1 = 1 then (if a0_2 ≥ 1 then (if a0_2 ≤ 1073741824 then (if a0_0 ≥ 1 then (if a0_0 ≤ 1048576 then ((hopmeshref49_Identifier.f a0_3).bind fun t596 => (if t596 = true then ((hopmeshref49_nodes.f k l0_4).bind fun t597 => (some t597)) else (some false))) else (some false)) else (some false)) else (if a0_1 = 2 then (if a0_2 = 0 then (if a0_0 ≥ 1 then (if a0_0 ≤ 1048576 then ((hopmeshref49_Identifier.f a0_3).bind fun t598 => (if t598 = true then ((hopmeshref49_nodes.f k l0_4).bind fun t599 => (some t599)) else (some false))) else (some false)) else (some false)) else (some false)) else (some false))) else (if a0_1 = 2 then (if a0_2 = 0 then (if a0_0 ≥ 1 then (if a0_0 ≤ 1048576 then ((hopmeshref49_Identifier.f a0_3).bind fun t600 => (if t600 = true then ((hopmeshref49_nodes.f k l0_4).bind fun t601 => (some t601)) else (some false))) else (some false)) else (some false)) else (some false)) else (some false))) else (if a0_1 = 2 then (if a0_2 = 0 then (if a0_0 ≥ 1 then (if a0_0 ≤ 1048576 then ((hopmeshref49_Identifier.f a0_3).bind fun t602 => (if t602 = true then ((hopmeshref49_nodes.f k l0_4).bind fun t603 => (some t603)) else (some false))) else (some false)) else (some false)) else (some false)) else (some false))
theorem hopmeshref49_Command.mono : ∀ a0 a1 a2 a3 a4 k, LeO (hopmeshref49_Command.f k a0 a1 a2 a3 a4) (hopmeshref49_Command.f (k + 1) a0 a1 a2 a3 a4) := by
 intro a0 a1 a2 a3 a4 k
 unfold hopmeshref49_Command.f
 repeat' first
  | (with_reducible exact hopmeshref49_nodes.mono _ _)
  | (with_reducible exact LeO.refl _)
  | (with_reducible exact LeO.none _)
  | (with_reducible refine LeO.ite ?_ ?_)
  | (with_reducible refine LeO.bind ?_ (fun _ => ?_))
  | exact hopmeshref49_nodes.mono _ _
  | exact LeO.none _
  | refine LeO.ite ?_ ?_
  | refine LeO.bind ?_ (fun _ => ?_)
set_option maxHeartbeats 8000000 in
set_option maxRecDepth 100000 in
theorem hopmeshref49_Command.calls (k : Nat) (a0_0 : Int) (a0_1 : Int) (a0_2 : Int) (a0_3 : ByteArray) (A0_4 : Option Addr) (c0_4 : Nat) (l0_4 : List Int) (r : Bool) (w : World) (hr0_4 : Kd.C (Kd.int .i64) w A0_4 l0_4.length l0_4) (hc0_4 : l0_4.length ≤ c0_4) (h : hopmeshref49_Command.f k a0_0 a0_1 a0_2 a0_3 l0_4 = some r) :
 Calls Try.prog 57 #[.agg #[.int .i64 a0_0, .int .i64 a0_1, .int .i64 a0_2, .string a0_3, .slice A0_4 l0_4.length c0_4]] w fun e w' => e = .returned (.bool r) ∧ Below w.heap.size w w' := by
 have hu36 := Try.underlying36
 have HR0_4 := Aside0.mk hr0_4
 have HC0_4 := Aside0.mk hc0_4
 clear hr0_4 hc0_4
 have HB := Aside0.mk (Below.refl w.heap.size w)
 have H : (if a0_1 = 1 then (if a0_2 ≥ 1 then (if a0_2 ≤ 1073741824 then (if a0_0 ≥ 1 then (if a0_0 ≤ 1048576 then ((hopmeshref49_Identifier.f a0_3).bind fun t596 => (if t596 = true then ((hopmeshref49_nodes.f k l0_4).bind fun t597 => (some t597)) else (some false))) else (some false)) else (some false)) else (if a0_1 = 2 then (if a0_2 = 0 then (if a0_0 ≥ 1 then (if a0_0 ≤ 1048576 then ((hopmeshref49_Identifier.f a0_3).bind fun t598 => (if t598 = true then ((hopmeshref49_nodes.f k l0_4).bind fun t599 => (some t599)) else (some false))) else (some false)) else (some false)) else (some false)) else (some false))) else (if a0_1 = 2 then (if a0_2 = 0 then (if a0_0 ≥ 1 then (if a0_0 ≤ 1048576 then ((hopmeshref49_Identifier.f a0_3).bind fun t600 => (if t600 = true then ((hopmeshref49_nodes.f k l0_4).bind fun t601 => (some t601)) else (some false))) else (some false)) else (some false)) else (some false)) else (some false))) else (if a0_1 = 2 then (if a0_2 = 0 then (if a0_0 ≥ 1 then (if a0_0 ≤ 1048576 then ((hopmeshref49_Identifier.f a0_3).bind fun t602 => (if t602 = true then ((hopmeshref49_nodes.f k l0_4).bind fun t603 => (some t603)) else (some false))) else (some false)) else (some false)) else (some false)) else (some false))) = some r := h
 clear h
 by_cases c2 : a0_1 = 1
 ·rw [if_pos c2] at H
  have c2b0 : (a0_1 == 1) = true := beq_iff_eq.mpr c2
  have c2b1 : (a0_1 != 1) = false := bne_eq_false_iff_eq.mpr c2
  clear c2
  by_cases c3 : a0_2 ≥ 1
  ·rw [if_pos c3] at H
   have c3b0 : decide (1 ≤ a0_2) = true := decide_eq_true c3
   clear c3
   by_cases c4 : a0_2 ≤ 1073741824
   ·rw [if_pos c4] at H
    have c4b0 : decide (a0_2 ≤ 1073741824) = true := decide_eq_true c4
    clear c4
    by_cases c5 : a0_0 ≥ 1
    ·rw [if_pos c5] at H
     have c5b0 : decide (1 ≤ a0_0) = true := decide_eq_true c5
     clear c5
     by_cases c6 : a0_0 ≤ 1048576
     ·rw [if_pos c6] at H
      have c6b0 : decide (a0_0 ≤ 1048576) = true := decide_eq_true c6
      clear c6
      replace H := Option.bind_eq_some_iff.mp H
      obtain ⟨t596, A70, H⟩ := H
      (try dsimp only at H)
      have A7 := Aside0.mk A70
      clear A70
      by_cases c8 : t596 = true
      ·subst c8
       rw [if_pos rfl] at H
       replace H := Option.bind_eq_some_iff.mp H
       obtain ⟨t597, A90, H⟩ := H
       (try dsimp only at H)
       have A9 := Aside0.mk A90
       clear A90
       obtain rfl := Option.some.inj H
       go_enter Try.func57, Try.ntmps57
       go_wp2_with (first | ((with_reducible refine gate_dst (N := 1) rfl ?_); refine boxE 1 #[.int .i64 a0_0, .int .i64 a0_1, .int .i64 a0_2, .string a0_3, .slice A0_4 l0_4.length c0_4] 36 ?_; intro gb595 hg w10 hbox hb; have BK595 := Aside0.mk (hbox); have GW595 := gw hg HB; have GE595 := gw hg HB; replace HB := hbS HB hb; clear hb hbox hg; obtain ⟨z0, z1, z2, z3, z4, y0, y1, y2, y3, y4⟩ := bc5 BK595) | (go_at_call 62; (with_reducible refine (hopmeshref49_Identifier.calls a0_3 true _ A7.out).mono ?_); rintro e w' ⟨rfl, ⟨nd, rfl⟩⟩) | (go_at_call 63; (with_reducible refine (hopmeshref49_nodes.calls k _ _ l0_4 t597 _ ?side1 HC0_4.out A9.out).mono ?_); (case side1 => repeat (first | exact (Kd.C_below HR0_4.out (hbx HB)) | (with_reducible refine Kd.C_alloc ?_ _) | (with_reducible refine Kd.C_drewN ?_ _) | (with_reducible refine Kd.C_drew ?_))); rintro e w' ⟨rfl, ⟨nd, rfl⟩⟩))
       go_ret
       exact ⟨rerr, hbx HB⟩
      ·replace c8 := Bool.eq_false_iff.mpr c8
       subst c8
       rw [if_neg (show ¬ (false = true) by decide)] at H
       obtain rfl := Option.some.inj H
       go_enter Try.func57, Try.ntmps57
       go_wp2_with (first | ((with_reducible refine gate_dst (N := 1) rfl ?_); refine boxE 1 #[.int .i64 a0_0, .int .i64 a0_1, .int .i64 a0_2, .string a0_3, .slice A0_4 l0_4.length c0_4] 36 ?_; intro gb595 hg w12 hbox hb; have BK595 := Aside0.mk (hbox); have GW595 := gw hg HB; have GE595 := gw hg HB; replace HB := hbS HB hb; clear hb hbox hg; obtain ⟨z0, z1, z2, z3, z4, y0, y1, y2, y3, y4⟩ := bc5 BK595) | (go_at_call 62; (with_reducible refine (hopmeshref49_Identifier.calls a0_3 false _ A7.out).mono ?_); rintro e w' ⟨rfl, ⟨nd, rfl⟩⟩))
       go_ret
       exact ⟨rerr, hbx HB⟩
     ·rw [if_neg c6] at H
      have c6b0 : decide (a0_0 ≤ 1048576) = false := decide_eq_false c6
      clear c6
      obtain rfl := Option.some.inj H
      go_enter Try.func57, Try.ntmps57
      go_wp2_with (first | ((with_reducible refine gate_dst (N := 1) rfl ?_); refine boxE 1 #[.int .i64 a0_0, .int .i64 a0_1, .int .i64 a0_2, .string a0_3, .slice A0_4 l0_4.length c0_4] 36 ?_; intro gb595 hg w14 hbox hb; have BK595 := Aside0.mk (hbox); have GW595 := gw hg HB; have GE595 := gw hg HB; replace HB := hbS HB hb; clear hb hbox hg; obtain ⟨z0, z1, z2, z3, z4, y0, y1, y2, y3, y4⟩ := bc5 BK595))
      go_ret
      exact ⟨rerr, hbx HB⟩
    ·rw [if_neg c5] at H
     have c5b0 : decide (1 ≤ a0_0) = false := decide_eq_false c5
     clear c5
     obtain rfl := Option.some.inj H
     go_enter Try.func57, Try.ntmps57
     go_wp2_with (first | ((with_reducible refine gate_dst (N := 1) rfl ?_); refine boxE 1 #[.int .i64 a0_0, .int .i64 a0_1, .int .i64 a0_2, .string a0_3, .slice A0_4 l0_4.length c0_4] 36 ?_; intro gb595 hg w16 hbox hb; have BK595 := Aside0.mk (hbox); have GW595 := gw hg HB; have GE595 := gw hg HB; replace HB := hbS HB hb; clear hb hbox hg; obtain ⟨z0, z1, z2, z3, z4, y0, y1, y2, y3, y4⟩ := bc5 BK595))
     go_ret
     exact ⟨rerr, hbx HB⟩
   ·rw [if_neg c4] at H
    have c4b0 : decide (a0_2 ≤ 1073741824) = false := decide_eq_false c4
    clear c4
    by_cases c18 : a0_1 = 2
    ·rw [if_pos c18] at H
     have c18b0 : (a0_1 == 2) = true := beq_iff_eq.mpr c18
     have c18b1 : (a0_1 != 2) = false := bne_eq_false_iff_eq.mpr c18
     clear c18
     by_cases c19 : a0_2 = 0
     ·rw [if_pos c19] at H
      have c19b0 : (a0_2 == 0) = true := beq_iff_eq.mpr c19
      have c19b1 : (a0_2 != 0) = false := bne_eq_false_iff_eq.mpr c19
      clear c19
      by_cases c20 : a0_0 ≥ 1
      ·rw [if_pos c20] at H
       have c20b0 : decide (1 ≤ a0_0) = true := decide_eq_true c20
       clear c20
       by_cases c21 : a0_0 ≤ 1048576
       ·rw [if_pos c21] at H
        have c21b0 : decide (a0_0 ≤ 1048576) = true := decide_eq_true c21
        clear c21
        replace H := Option.bind_eq_some_iff.mp H
        obtain ⟨t598, A220, H⟩ := H
        (try dsimp only at H)
        have A22 := Aside0.mk A220
        clear A220
        by_cases c23 : t598 = true
        ·subst c23
         rw [if_pos rfl] at H
         replace H := Option.bind_eq_some_iff.mp H
         obtain ⟨t599, A240, H⟩ := H
         (try dsimp only at H)
         have A24 := Aside0.mk A240
         clear A240
         obtain rfl := Option.some.inj H
         go_enter Try.func57, Try.ntmps57
         go_wp2_with (first | ((with_reducible refine gate_dst (N := 1) rfl ?_); refine boxE 1 #[.int .i64 a0_0, .int .i64 a0_1, .int .i64 a0_2, .string a0_3, .slice A0_4 l0_4.length c0_4] 36 ?_; intro gb595 hg w25 hbox hb; have BK595 := Aside0.mk (hbox); have GW595 := gw hg HB; have GE595 := gw hg HB; replace HB := hbS HB hb; clear hb hbox hg; obtain ⟨z0, z1, z2, z3, z4, y0, y1, y2, y3, y4⟩ := bc5 BK595) | (go_at_call 62; (with_reducible refine (hopmeshref49_Identifier.calls a0_3 true _ A22.out).mono ?_); rintro e w' ⟨rfl, ⟨nd, rfl⟩⟩) | (go_at_call 63; (with_reducible refine (hopmeshref49_nodes.calls k _ _ l0_4 t599 _ ?side1 HC0_4.out A24.out).mono ?_); (case side1 => repeat (first | exact (Kd.C_below HR0_4.out (hbx HB)) | (with_reducible refine Kd.C_alloc ?_ _) | (with_reducible refine Kd.C_drewN ?_ _) | (with_reducible refine Kd.C_drew ?_))); rintro e w' ⟨rfl, ⟨nd, rfl⟩⟩))
         go_ret
         exact ⟨rerr, hbx HB⟩
        ·replace c23 := Bool.eq_false_iff.mpr c23
         subst c23
         rw [if_neg (show ¬ (false = true) by decide)] at H
         obtain rfl := Option.some.inj H
         go_enter Try.func57, Try.ntmps57
         go_wp2_with (first | ((with_reducible refine gate_dst (N := 1) rfl ?_); refine boxE 1 #[.int .i64 a0_0, .int .i64 a0_1, .int .i64 a0_2, .string a0_3, .slice A0_4 l0_4.length c0_4] 36 ?_; intro gb595 hg w27 hbox hb; have BK595 := Aside0.mk (hbox); have GW595 := gw hg HB; have GE595 := gw hg HB; replace HB := hbS HB hb; clear hb hbox hg; obtain ⟨z0, z1, z2, z3, z4, y0, y1, y2, y3, y4⟩ := bc5 BK595) | (go_at_call 62; (with_reducible refine (hopmeshref49_Identifier.calls a0_3 false _ A22.out).mono ?_); rintro e w' ⟨rfl, ⟨nd, rfl⟩⟩))
         go_ret
         exact ⟨rerr, hbx HB⟩
       ·rw [if_neg c21] at H
        have c21b0 : decide (a0_0 ≤ 1048576) = false := decide_eq_false c21
        clear c21
        obtain rfl := Option.some.inj H
        go_enter Try.func57, Try.ntmps57
        go_wp2_with (first | ((with_reducible refine gate_dst (N := 1) rfl ?_); refine boxE 1 #[.int .i64 a0_0, .int .i64 a0_1, .int .i64 a0_2, .string a0_3, .slice A0_4 l0_4.length c0_4] 36 ?_; intro gb595 hg w29 hbox hb; have BK595 := Aside0.mk (hbox); have GW595 := gw hg HB; have GE595 := gw hg HB; replace HB := hbS HB hb; clear hb hbox hg; obtain ⟨z0, z1, z2, z3, z4, y0, y1, y2, y3, y4⟩ := bc5 BK595))
        go_ret
        exact ⟨rerr, hbx HB⟩
      ·rw [if_neg c20] at H
       have c20b0 : decide (1 ≤ a0_0) = false := decide_eq_false c20
       clear c20
       obtain rfl := Option.some.inj H
       go_enter Try.func57, Try.ntmps57
       go_wp2_with (first | ((with_reducible refine gate_dst (N := 1) rfl ?_); refine boxE 1 #[.int .i64 a0_0, .int .i64 a0_1, .int .i64 a0_2, .string a0_3, .slice A0_4 l0_4.length c0_4] 36 ?_; intro gb595 hg w31 hbox hb; have BK595 := Aside0.mk (hbox); have GW595 := gw hg HB; have GE595 := gw hg HB; replace HB := hbS HB hb; clear hb hbox hg; obtain ⟨z0, z1, z2, z3, z4, y0, y1, y2, y3, y4⟩ := bc5 BK595))
       go_ret
       exact ⟨rerr, hbx HB⟩
     ·rw [if_neg c19] at H
      have c19b0 : (a0_2 == 0) = false := beq_eq_false_iff_ne.mpr c19
      have c19b1 : (a0_2 != 0) = true := bne_iff_ne.mpr c19
      obtain rfl := Option.some.inj H
      go_enter Try.func57, Try.ntmps57
      go_wp2_with (first | ((with_reducible refine gate_dst (N := 1) rfl ?_); refine boxE 1 #[.int .i64 a0_0, .int .i64 a0_1, .int .i64 a0_2, .string a0_3, .slice A0_4 l0_4.length c0_4] 36 ?_; intro gb595 hg w33 hbox hb; have BK595 := Aside0.mk (hbox); have GW595 := gw hg HB; have GE595 := gw hg HB; replace HB := hbS HB hb; clear hb hbox hg; obtain ⟨z0, z1, z2, z3, z4, y0, y1, y2, y3, y4⟩ := bc5 BK595))
      go_ret
      exact ⟨rerr, hbx HB⟩
    ·rw [if_neg c18] at H
     have c18b0 : (a0_1 == 2) = false := beq_eq_false_iff_ne.mpr c18
     have c18b1 : (a0_1 != 2) = true := bne_iff_ne.mpr c18
     obtain rfl := Option.some.inj H
     go_enter Try.func57, Try.ntmps57
     go_wp2_with (first | ((with_reducible refine gate_dst (N := 1) rfl ?_); refine boxE 1 #[.int .i64 a0_0, .int .i64 a0_1, .int .i64 a0_2, .string a0_3, .slice A0_4 l0_4.length c0_4] 36 ?_; intro gb595 hg w35 hbox hb; have BK595 := Aside0.mk (hbox); have GW595 := gw hg HB; have GE595 := gw hg HB; replace HB := hbS HB hb; clear hb hbox hg; obtain ⟨z0, z1, z2, z3, z4, y0, y1, y2, y3, y4⟩ := bc5 BK595))
     go_ret
     exact ⟨rerr, hbx HB⟩
  ·rw [if_neg c3] at H
   have c3b0 : decide (1 ≤ a0_2) = false := decide_eq_false c3
   clear c3
   by_cases c37 : a0_1 = 2
   ·rw [if_pos c37] at H
    have c37b0 : (a0_1 == 2) = true := beq_iff_eq.mpr c37
    have c37b1 : (a0_1 != 2) = false := bne_eq_false_iff_eq.mpr c37
    clear c37
    by_cases c38 : a0_2 = 0
    ·rw [if_pos c38] at H
     have c38b0 : (a0_2 == 0) = true := beq_iff_eq.mpr c38
     have c38b1 : (a0_2 != 0) = false := bne_eq_false_iff_eq.mpr c38
     clear c38
     by_cases c39 : a0_0 ≥ 1
     ·rw [if_pos c39] at H
      have c39b0 : decide (1 ≤ a0_0) = true := decide_eq_true c39
      clear c39
      by_cases c40 : a0_0 ≤ 1048576
      ·rw [if_pos c40] at H
       have c40b0 : decide (a0_0 ≤ 1048576) = true := decide_eq_true c40
       clear c40
       replace H := Option.bind_eq_some_iff.mp H
       obtain ⟨t600, A410, H⟩ := H
       (try dsimp only at H)
       have A41 := Aside0.mk A410
       clear A410
       by_cases c42 : t600 = true
       ·subst c42
        rw [if_pos rfl] at H
        replace H := Option.bind_eq_some_iff.mp H
        obtain ⟨t601, A430, H⟩ := H
        (try dsimp only at H)
        have A43 := Aside0.mk A430
        clear A430
        obtain rfl := Option.some.inj H
        go_enter Try.func57, Try.ntmps57
        go_wp2_with (first | ((with_reducible refine gate_dst (N := 1) rfl ?_); refine boxE 1 #[.int .i64 a0_0, .int .i64 a0_1, .int .i64 a0_2, .string a0_3, .slice A0_4 l0_4.length c0_4] 36 ?_; intro gb595 hg w44 hbox hb; have BK595 := Aside0.mk (hbox); have GW595 := gw hg HB; have GE595 := gw hg HB; replace HB := hbS HB hb; clear hb hbox hg; obtain ⟨z0, z1, z2, z3, z4, y0, y1, y2, y3, y4⟩ := bc5 BK595) | (go_at_call 62; (with_reducible refine (hopmeshref49_Identifier.calls a0_3 true _ A41.out).mono ?_); rintro e w' ⟨rfl, ⟨nd, rfl⟩⟩) | (go_at_call 63; (with_reducible refine (hopmeshref49_nodes.calls k _ _ l0_4 t601 _ ?side1 HC0_4.out A43.out).mono ?_); (case side1 => repeat (first | exact (Kd.C_below HR0_4.out (hbx HB)) | (with_reducible refine Kd.C_alloc ?_ _) | (with_reducible refine Kd.C_drewN ?_ _) | (with_reducible refine Kd.C_drew ?_))); rintro e w' ⟨rfl, ⟨nd, rfl⟩⟩))
        go_ret
        exact ⟨rerr, hbx HB⟩
       ·replace c42 := Bool.eq_false_iff.mpr c42
        subst c42
        rw [if_neg (show ¬ (false = true) by decide)] at H
        obtain rfl := Option.some.inj H
        go_enter Try.func57, Try.ntmps57
        go_wp2_with (first | ((with_reducible refine gate_dst (N := 1) rfl ?_); refine boxE 1 #[.int .i64 a0_0, .int .i64 a0_1, .int .i64 a0_2, .string a0_3, .slice A0_4 l0_4.length c0_4] 36 ?_; intro gb595 hg w46 hbox hb; have BK595 := Aside0.mk (hbox); have GW595 := gw hg HB; have GE595 := gw hg HB; replace HB := hbS HB hb; clear hb hbox hg; obtain ⟨z0, z1, z2, z3, z4, y0, y1, y2, y3, y4⟩ := bc5 BK595) | (go_at_call 62; (with_reducible refine (hopmeshref49_Identifier.calls a0_3 false _ A41.out).mono ?_); rintro e w' ⟨rfl, ⟨nd, rfl⟩⟩))
        go_ret
        exact ⟨rerr, hbx HB⟩
      ·rw [if_neg c40] at H
       have c40b0 : decide (a0_0 ≤ 1048576) = false := decide_eq_false c40
       clear c40
       obtain rfl := Option.some.inj H
       go_enter Try.func57, Try.ntmps57
       go_wp2_with (first | ((with_reducible refine gate_dst (N := 1) rfl ?_); refine boxE 1 #[.int .i64 a0_0, .int .i64 a0_1, .int .i64 a0_2, .string a0_3, .slice A0_4 l0_4.length c0_4] 36 ?_; intro gb595 hg w48 hbox hb; have BK595 := Aside0.mk (hbox); have GW595 := gw hg HB; have GE595 := gw hg HB; replace HB := hbS HB hb; clear hb hbox hg; obtain ⟨z0, z1, z2, z3, z4, y0, y1, y2, y3, y4⟩ := bc5 BK595))
       go_ret
       exact ⟨rerr, hbx HB⟩
     ·rw [if_neg c39] at H
      have c39b0 : decide (1 ≤ a0_0) = false := decide_eq_false c39
      clear c39
      obtain rfl := Option.some.inj H
      go_enter Try.func57, Try.ntmps57
      go_wp2_with (first | ((with_reducible refine gate_dst (N := 1) rfl ?_); refine boxE 1 #[.int .i64 a0_0, .int .i64 a0_1, .int .i64 a0_2, .string a0_3, .slice A0_4 l0_4.length c0_4] 36 ?_; intro gb595 hg w50 hbox hb; have BK595 := Aside0.mk (hbox); have GW595 := gw hg HB; have GE595 := gw hg HB; replace HB := hbS HB hb; clear hb hbox hg; obtain ⟨z0, z1, z2, z3, z4, y0, y1, y2, y3, y4⟩ := bc5 BK595))
      go_ret
      exact ⟨rerr, hbx HB⟩
    ·rw [if_neg c38] at H
     have c38b0 : (a0_2 == 0) = false := beq_eq_false_iff_ne.mpr c38
     have c38b1 : (a0_2 != 0) = true := bne_iff_ne.mpr c38
     obtain rfl := Option.some.inj H
     go_enter Try.func57, Try.ntmps57
     go_wp2_with (first | ((with_reducible refine gate_dst (N := 1) rfl ?_); refine boxE 1 #[.int .i64 a0_0, .int .i64 a0_1, .int .i64 a0_2, .string a0_3, .slice A0_4 l0_4.length c0_4] 36 ?_; intro gb595 hg w52 hbox hb; have BK595 := Aside0.mk (hbox); have GW595 := gw hg HB; have GE595 := gw hg HB; replace HB := hbS HB hb; clear hb hbox hg; obtain ⟨z0, z1, z2, z3, z4, y0, y1, y2, y3, y4⟩ := bc5 BK595))
     go_ret
     exact ⟨rerr, hbx HB⟩
   ·rw [if_neg c37] at H
    have c37b0 : (a0_1 == 2) = false := beq_eq_false_iff_ne.mpr c37
    have c37b1 : (a0_1 != 2) = true := bne_iff_ne.mpr c37
    obtain rfl := Option.some.inj H
    go_enter Try.func57, Try.ntmps57
    go_wp2_with (first | ((with_reducible refine gate_dst (N := 1) rfl ?_); refine boxE 1 #[.int .i64 a0_0, .int .i64 a0_1, .int .i64 a0_2, .string a0_3, .slice A0_4 l0_4.length c0_4] 36 ?_; intro gb595 hg w54 hbox hb; have BK595 := Aside0.mk (hbox); have GW595 := gw hg HB; have GE595 := gw hg HB; replace HB := hbS HB hb; clear hb hbox hg; obtain ⟨z0, z1, z2, z3, z4, y0, y1, y2, y3, y4⟩ := bc5 BK595))
    go_ret
    exact ⟨rerr, hbx HB⟩
 ·rw [if_neg c2] at H
  have c2b0 : (a0_1 == 1) = false := beq_eq_false_iff_ne.mpr c2
  have c2b1 : (a0_1 != 1) = true := bne_iff_ne.mpr c2
  by_cases c56 : a0_1 = 2
  ·rw [if_pos c56] at H
   have c56b0 : (a0_1 == 2) = true := beq_iff_eq.mpr c56
   have c56b1 : (a0_1 != 2) = false := bne_eq_false_iff_eq.mpr c56
   clear c56
   by_cases c57 : a0_2 = 0
   ·rw [if_pos c57] at H
    have c57b0 : (a0_2 == 0) = true := beq_iff_eq.mpr c57
    have c57b1 : (a0_2 != 0) = false := bne_eq_false_iff_eq.mpr c57
    clear c57
    by_cases c58 : a0_0 ≥ 1
    ·rw [if_pos c58] at H
     have c58b0 : decide (1 ≤ a0_0) = true := decide_eq_true c58
     clear c58
     by_cases c59 : a0_0 ≤ 1048576
     ·rw [if_pos c59] at H
      have c59b0 : decide (a0_0 ≤ 1048576) = true := decide_eq_true c59
      clear c59
      replace H := Option.bind_eq_some_iff.mp H
      obtain ⟨t602, A600, H⟩ := H
      (try dsimp only at H)
      have A60 := Aside0.mk A600
      clear A600
      by_cases c61 : t602 = true
      ·subst c61
       rw [if_pos rfl] at H
       replace H := Option.bind_eq_some_iff.mp H
       obtain ⟨t603, A620, H⟩ := H
       (try dsimp only at H)
       have A62 := Aside0.mk A620
       clear A620
       obtain rfl := Option.some.inj H
       go_enter Try.func57, Try.ntmps57
       go_wp2_with (first | ((with_reducible refine gate_dst (N := 1) rfl ?_); refine boxE 1 #[.int .i64 a0_0, .int .i64 a0_1, .int .i64 a0_2, .string a0_3, .slice A0_4 l0_4.length c0_4] 36 ?_; intro gb595 hg w63 hbox hb; have BK595 := Aside0.mk (hbox); have GW595 := gw hg HB; have GE595 := gw hg HB; replace HB := hbS HB hb; clear hb hbox hg; obtain ⟨z0, z1, z2, z3, z4, y0, y1, y2, y3, y4⟩ := bc5 BK595) | (go_at_call 62; (with_reducible refine (hopmeshref49_Identifier.calls a0_3 true _ A60.out).mono ?_); rintro e w' ⟨rfl, ⟨nd, rfl⟩⟩) | (go_at_call 63; (with_reducible refine (hopmeshref49_nodes.calls k _ _ l0_4 t603 _ ?side1 HC0_4.out A62.out).mono ?_); (case side1 => repeat (first | exact (Kd.C_below HR0_4.out (hbx HB)) | (with_reducible refine Kd.C_alloc ?_ _) | (with_reducible refine Kd.C_drewN ?_ _) | (with_reducible refine Kd.C_drew ?_))); rintro e w' ⟨rfl, ⟨nd, rfl⟩⟩))
       go_ret
       exact ⟨rerr, hbx HB⟩
      ·replace c61 := Bool.eq_false_iff.mpr c61
       subst c61
       rw [if_neg (show ¬ (false = true) by decide)] at H
       obtain rfl := Option.some.inj H
       go_enter Try.func57, Try.ntmps57
       go_wp2_with (first | ((with_reducible refine gate_dst (N := 1) rfl ?_); refine boxE 1 #[.int .i64 a0_0, .int .i64 a0_1, .int .i64 a0_2, .string a0_3, .slice A0_4 l0_4.length c0_4] 36 ?_; intro gb595 hg w65 hbox hb; have BK595 := Aside0.mk (hbox); have GW595 := gw hg HB; have GE595 := gw hg HB; replace HB := hbS HB hb; clear hb hbox hg; obtain ⟨z0, z1, z2, z3, z4, y0, y1, y2, y3, y4⟩ := bc5 BK595) | (go_at_call 62; (with_reducible refine (hopmeshref49_Identifier.calls a0_3 false _ A60.out).mono ?_); rintro e w' ⟨rfl, ⟨nd, rfl⟩⟩))
       go_ret
       exact ⟨rerr, hbx HB⟩
     ·rw [if_neg c59] at H
      have c59b0 : decide (a0_0 ≤ 1048576) = false := decide_eq_false c59
      clear c59
      obtain rfl := Option.some.inj H
      go_enter Try.func57, Try.ntmps57
      go_wp2_with (first | ((with_reducible refine gate_dst (N := 1) rfl ?_); refine boxE 1 #[.int .i64 a0_0, .int .i64 a0_1, .int .i64 a0_2, .string a0_3, .slice A0_4 l0_4.length c0_4] 36 ?_; intro gb595 hg w67 hbox hb; have BK595 := Aside0.mk (hbox); have GW595 := gw hg HB; have GE595 := gw hg HB; replace HB := hbS HB hb; clear hb hbox hg; obtain ⟨z0, z1, z2, z3, z4, y0, y1, y2, y3, y4⟩ := bc5 BK595))
      go_ret
      exact ⟨rerr, hbx HB⟩
    ·rw [if_neg c58] at H
     have c58b0 : decide (1 ≤ a0_0) = false := decide_eq_false c58
     clear c58
     obtain rfl := Option.some.inj H
     go_enter Try.func57, Try.ntmps57
     go_wp2_with (first | ((with_reducible refine gate_dst (N := 1) rfl ?_); refine boxE 1 #[.int .i64 a0_0, .int .i64 a0_1, .int .i64 a0_2, .string a0_3, .slice A0_4 l0_4.length c0_4] 36 ?_; intro gb595 hg w69 hbox hb; have BK595 := Aside0.mk (hbox); have GW595 := gw hg HB; have GE595 := gw hg HB; replace HB := hbS HB hb; clear hb hbox hg; obtain ⟨z0, z1, z2, z3, z4, y0, y1, y2, y3, y4⟩ := bc5 BK595))
     go_ret
     exact ⟨rerr, hbx HB⟩
   ·rw [if_neg c57] at H
    have c57b0 : (a0_2 == 0) = false := beq_eq_false_iff_ne.mpr c57
    have c57b1 : (a0_2 != 0) = true := bne_iff_ne.mpr c57
    obtain rfl := Option.some.inj H
    go_enter Try.func57, Try.ntmps57
    go_wp2_with (first | ((with_reducible refine gate_dst (N := 1) rfl ?_); refine boxE 1 #[.int .i64 a0_0, .int .i64 a0_1, .int .i64 a0_2, .string a0_3, .slice A0_4 l0_4.length c0_4] 36 ?_; intro gb595 hg w71 hbox hb; have BK595 := Aside0.mk (hbox); have GW595 := gw hg HB; have GE595 := gw hg HB; replace HB := hbS HB hb; clear hb hbox hg; obtain ⟨z0, z1, z2, z3, z4, y0, y1, y2, y3, y4⟩ := bc5 BK595))
    go_ret
    exact ⟨rerr, hbx HB⟩
  ·rw [if_neg c56] at H
   have c56b0 : (a0_1 == 2) = false := beq_eq_false_iff_ne.mpr c56
   have c56b1 : (a0_1 != 2) = true := bne_iff_ne.mpr c56
   obtain rfl := Option.some.inj H
   go_enter Try.func57, Try.ntmps57
   go_wp2_with (first | ((with_reducible refine gate_dst (N := 1) rfl ?_); refine boxE 1 #[.int .i64 a0_0, .int .i64 a0_1, .int .i64 a0_2, .string a0_3, .slice A0_4 l0_4.length c0_4] 36 ?_; intro gb595 hg w73 hbox hb; have BK595 := Aside0.mk (hbox); have GW595 := gw hg HB; have GE595 := gw hg HB; replace HB := hbS HB hb; clear hb hbox hg; obtain ⟨z0, z1, z2, z3, z4, y0, y1, y2, y3, y4⟩ := bc5 BK595))
   go_ret
   exact ⟨rerr, hbx HB⟩
end Go.Proofs.Ytdigplhjfjchnaa.PQ
