-- Printed by fprint.py and zip.py, programs of this session's, over the kit's print; Lean checks it.
import Derived.Test.YtdigplhjfjchnaaZ0
import Derived.Test.YtdigplhjfjchnaaZf42
import Derived.Test.YtdigplhjfjchnaaZf51
namespace Go.Proofs.Ytdigplhjfjchnaa.PQ
open Go.RowKit Go.Proofs.YtdigplhjfjchnaaW.PrintWords Go.Proofs.YtdigplhjfjchnaaW.PrintLast Go.Proofs.YtdigplhjfjchnaaW.PrintMore
attribute [local go_sem] max2_int min2_int max_two min_two max_three min_three max_four min_four   -- for this text's walks alone
set_option linter.unusedVariables false
set_option linter.unusedSimpArgs false
def install_command.j0 : Nat → Bool → Int → Int → Int → ByteArray → List Int → Option (Bool)
 | 0, _, _, _, _, _, _ => none
 | k + 1, x22, x121000, x121001, x121002, x121003, x121004 => if x22 = true then (some false) else (if x121001 = 1 then (if x121002 ≥ 1 then (some (decide (x121002 ≤ 1073741824))) else (some false)) else (if x121001 = 2 then (some (x121002 == 0)) else (some false)))
def install_command.f (k : Nat) (a0_0 : Int) (a0_1 : Int) (a0_2 : Int) (a0_3 : ByteArray) (l0_4 : List Int) : Option (Bool) := if a0_0 < 1 then (install_command.j0 k true a0_0 a0_1 a0_2 a0_3 l0_4) else (if a0_0 > 1048576 then (install_command.j0 k true a0_0 a0_1 a0_2 a0_3 l0_4) else ((install_identifier.f a0_3).bind fun t121 => (if t121 = true then ((install_list.f k l0_4).bind fun t122 => (install_command.j0 k (!t122) a0_0 a0_1 a0_2 a0_3 l0_4)) else (install_command.j0 k true a0_0 a0_1 a0_2 a0_3 l0_4))))
theorem install_command.mono_l : ∀ k, (∀ y0 y1 y2 y3 y4 y5, LeO (install_command.j0 k y0 y1 y2 y3 y4 y5) (install_command.j0 (k + 1) y0 y1 y2 y3 y4 y5))
 | 0 => fun _ _ _ _ _ _ r h => by simp [install_command.j0] at h
 | k + 1 => by
  have ih0 := install_command.mono_l k
  ·intro y0 y1 y2 y3 y4 y5
   unfold install_command.j0
   repeat' first
   | (with_reducible exact ih0 _ _ _ _ _ _)
   | (with_reducible exact install_list.mono _ _)
   | (with_reducible exact LeO.refl _)
   | (with_reducible exact LeO.none _)
   | (with_reducible refine LeO.ite ?_ ?_)
   | (with_reducible refine LeO.bind ?_ (fun _ => ?_))
   | exact ih0 _ _ _ _ _ _
   | exact install_list.mono _ _
   | exact LeO.none _
   | refine LeO.ite ?_ ?_
   | refine LeO.bind ?_ (fun _ => ?_)
theorem install_command.mono : ∀ a0 a1 a2 a3 a4 k, LeO (install_command.f k a0 a1 a2 a3 a4) (install_command.f (k + 1) a0 a1 a2 a3 a4) := by
 intro a0 a1 a2 a3 a4 k
 have ih0 := install_command.mono_l k
 unfold install_command.f
 repeat' first
  | (with_reducible exact ih0 _ _ _ _ _ _)
  | (with_reducible exact install_list.mono _ _)
  | (with_reducible exact LeO.refl _)
  | (with_reducible exact LeO.none _)
  | (with_reducible refine LeO.ite ?_ ?_)
  | (with_reducible refine LeO.bind ?_ (fun _ => ?_))
  | exact ih0 _ _ _ _ _ _
  | exact install_list.mono _ _
  | exact LeO.none _
  | refine LeO.ite ?_ ?_
  | refine LeO.bind ?_ (fun _ => ?_)
set_option maxHeartbeats 8000000 in
set_option maxRecDepth 100000 in
theorem install_command.calls (k : Nat) (a0_0 : Int) (a0_1 : Int) (a0_2 : Int) (a0_3 : ByteArray) (A0_4 : Option Addr) (c0_4 : Nat) (l0_4 : List Int) (r : Bool) (w : World) (hr0_4 : Kd.C (Kd.int .i64) w A0_4 l0_4.length l0_4) (hc0_4 : l0_4.length ≤ c0_4) (h : install_command.f k a0_0 a0_1 a0_2 a0_3 l0_4 = some r) :
 Calls Try.prog 44 #[.agg #[.int .i64 a0_0, .int .i64 a0_1, .int .i64 a0_2, .string a0_3, .slice A0_4 l0_4.length c0_4]] w fun e w' => e = .returned (.bool r) ∧ Below w.heap.size w w' := by
 have hu36 := Try.underlying36
 have HR0_4 := Aside0.mk hr0_4
 have HC0_4 := Aside0.mk hc0_4
 clear hr0_4 hc0_4
 have HB := Aside0.mk (Below.refl w.heap.size w)
 have H : (if a0_0 < 1 then (install_command.j0 k true a0_0 a0_1 a0_2 a0_3 l0_4) else (if a0_0 > 1048576 then (install_command.j0 k true a0_0 a0_1 a0_2 a0_3 l0_4) else ((install_identifier.f a0_3).bind fun t121 => (if t121 = true then ((install_list.f k l0_4).bind fun t122 => (install_command.j0 k (!t122) a0_0 a0_1 a0_2 a0_3 l0_4)) else (install_command.j0 k true a0_0 a0_1 a0_2 a0_3 l0_4))))) = some r := h
 clear h
 have HC2 := Aside0.mk H
 clear H
 go_enter Try.func44, Try.ntmps44
 go_upto_region 1 with (first | ((with_reducible refine gate_dst (N := 1) rfl ?_); refine boxE 1 #[.int .i64 a0_0, .int .i64 a0_1, .int .i64 a0_2, .string a0_3, .slice A0_4 l0_4.length c0_4] 36 ?_; intro gb120 hg w3 hbox hb; have BK120 := Aside0.mk (hbox); have GW120 := gw hg HB; have GE120 := gw hg HB; replace HB := hbS HB hb; clear hb hbox hg))
 (try simp only [Act.put, List.setIfInBounds_toArray, List.set_cons_zero, List.set_cons_succ])
 go_cut [22] (fun v22 wc => ∃ (kq : Nat) (x22_1 : Bool), v22 = .bool x22_1 ∧ Aside0 (install_command.j0 kq x22_1 a0_0 a0_1 a0_2 a0_3 l0_4 = some r) ∧ Aside0 (kq ≤ k) ∧ Aside0 (wc.heap[gb120]? = some (.cells #[.int .i64 a0_0, .int .i64 a0_1, .int .i64 a0_2, .string a0_3, (.slice A0_4 l0_4.length c0_4)] 36 (0, 0))) ∧ Aside0 (Below w.heap.size w wc))
 case first =>
  have H := HC2.out
  clear HC2
  by_cases c4 : a0_0 < 1
  ·rw [if_pos c4] at H
   have c4b0 : decide (a0_0 < 1) = true := decide_eq_true c4
   clear c4
   (first | rw [c4b0] | (simp only [i64_w, i32_w]; rw [c4b0]) | skip)
   have H' := Aside0.mk H
   clear H
   obtain ⟨z0, z1, z2, z3, z4, y0, y1, y2, y3, y4⟩ := bc5 BK120
   go_wp2
   go_meet
   case rel => exact ⟨_, (true), rfs, H', kle, bkA BK120, hbA HB⟩
  ·rw [if_neg c4] at H
   have c4b0 : decide (a0_0 < 1) = false := decide_eq_false c4
   clear c4
   (first | rw [c4b0] | (simp only [i64_w, i32_w]; rw [c4b0]) | skip)
   by_cases c6 : a0_0 > 1048576
   ·rw [if_pos c6] at H
    have c6b0 : decide (1048576 < a0_0) = true := decide_eq_true c6
    clear c6
    have H' := Aside0.mk H
    clear H
    obtain ⟨z0, z1, z2, z3, z4, y0, y1, y2, y3, y4⟩ := bc5 BK120
    go_wp2
    go_meet
    case rel => exact ⟨_, (true), rfs, H', kle, bkA BK120, hbA HB⟩
   ·rw [if_neg c6] at H
    have c6b0 : decide (1048576 < a0_0) = false := decide_eq_false c6
    clear c6
    replace H := Option.bind_eq_some_iff.mp H
    obtain ⟨t121, A80, H⟩ := H
    (try dsimp only at H)
    have A8 := Aside0.mk A80
    clear A80
    by_cases c9 : t121 = true
    ·subst c9
     rw [if_pos rfl] at H
     replace H := Option.bind_eq_some_iff.mp H
     obtain ⟨t122, A100, H⟩ := H
     (try dsimp only at H)
     have A10 := Aside0.mk A100
     clear A100
     have H' := Aside0.mk H
     clear H
     obtain ⟨z0, z1, z2, z3, z4, y0, y1, y2, y3, y4⟩ := bc5 BK120
     go_wp2_with (first | (go_at_call 42; (with_reducible refine (install_identifier.calls a0_3 true _ A8.out).mono ?_); rintro e w' ⟨rfl, ⟨nd, rfl⟩⟩) | (go_at_call 51; (with_reducible refine (install_list.calls k _ _ l0_4 t122 _ ?side1 HC0_4.out A10.out).mono ?_); (case side1 => repeat (first | exact (Kd.C_below HR0_4.out (hbx HB)) | (with_reducible refine Kd.C_alloc ?_ _) | (with_reducible refine Kd.C_drewN ?_ _) | (with_reducible refine Kd.C_drew ?_))); rintro e w' ⟨rfl, ⟨nd, rfl⟩⟩))
     go_meet
     case rel => exact ⟨_, (!t122), rfs, H', kle, bkA BK120, hbA HB⟩
    ·replace c9 := Bool.eq_false_iff.mpr c9
     subst c9
     rw [if_neg (show ¬ (false = true) by decide)] at H
     have H' := Aside0.mk H
     clear H
     obtain ⟨z0, z1, z2, z3, z4, y0, y1, y2, y3, y4⟩ := bc5 BK120
     go_wp2_with (first | (go_at_call 42; (with_reducible refine (install_identifier.calls a0_3 false _ A8.out).mono ?_); rintro e w' ⟨rfl, ⟨nd, rfl⟩⟩))
     go_meet
     case rel => exact ⟨_, (true), rfs, H', kle, bkA BK120, hbA HB⟩
 case rest =>
  clear HC2
  obtain ⟨kq, x22_1, rfl, HA, HJ1, BK120, HB⟩ := hcut
  cases kq with
  | zero => exact absurd HA.out (by simp [install_command.j0])
  | succ kj1 =>
   have H := HA.out
   clear HA
   simp only [install_command.j0] at H
   by_cases c13 : x22_1 = true
   ·subst c13
    rw [if_pos rfl] at H
    obtain rfl := Option.some.inj H
    go_wp2
    go_ret
    exact ⟨rerr, hbx HB⟩
   ·replace c13 := Bool.eq_false_iff.mpr c13
    subst c13
    rw [if_neg (show ¬ (false = true) by decide)] at H
    by_cases c14 : a0_1 = 1
    ·rw [if_pos c14] at H
     have c14b0 : (a0_1 == 1) = true := beq_iff_eq.mpr c14
     have c14b1 : (a0_1 != 1) = false := bne_eq_false_iff_eq.mpr c14
     clear c14
     by_cases c15 : a0_2 ≥ 1
     ·rw [if_pos c15] at H
      have c15b0 : decide (1 ≤ a0_2) = true := decide_eq_true c15
      clear c15
      obtain rfl := Option.some.inj H
      obtain ⟨z0, z1, z2, z3, z4, y0, y1, y2, y3, y4⟩ := bc5 BK120
      go_wp2
      go_ret
      exact ⟨rerr, hbx HB⟩
     ·rw [if_neg c15] at H
      have c15b0 : decide (1 ≤ a0_2) = false := decide_eq_false c15
      clear c15
      obtain rfl := Option.some.inj H
      obtain ⟨z0, z1, z2, z3, z4, y0, y1, y2, y3, y4⟩ := bc5 BK120
      go_wp2
      go_ret
      exact ⟨rerr, hbx HB⟩
    ·rw [if_neg c14] at H
     have c14b0 : (a0_1 == 1) = false := beq_eq_false_iff_ne.mpr c14
     have c14b1 : (a0_1 != 1) = true := bne_iff_ne.mpr c14
     by_cases c18 : a0_1 = 2
     ·rw [if_pos c18] at H
      have c18b0 : (a0_1 == 2) = true := beq_iff_eq.mpr c18
      have c18b1 : (a0_1 != 2) = false := bne_eq_false_iff_eq.mpr c18
      clear c18
      obtain rfl := Option.some.inj H
      obtain ⟨z0, z1, z2, z3, z4, y0, y1, y2, y3, y4⟩ := bc5 BK120
      go_wp2
      go_ret
      exact ⟨rerr, hbx HB⟩
     ·rw [if_neg c18] at H
      have c18b0 : (a0_1 == 2) = false := beq_eq_false_iff_ne.mpr c18
      have c18b1 : (a0_1 != 2) = true := bne_iff_ne.mpr c18
      obtain rfl := Option.some.inj H
      obtain ⟨z0, z1, z2, z3, z4, y0, y1, y2, y3, y4⟩ := bc5 BK120
      go_wp2
      go_ret
      exact ⟨rerr, hbx HB⟩
end Go.Proofs.Ytdigplhjfjchnaa.PQ
