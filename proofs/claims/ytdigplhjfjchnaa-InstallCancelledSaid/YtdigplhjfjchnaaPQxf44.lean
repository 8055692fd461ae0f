-- Written by fprint.py, a program of this session's, over the kit's print, with hand-proved functions among them. Lean checks it.
import Derived.Test.YtdigplhjfjchnaaPQx0
import Derived.Test.YtdigplhjfjchnaaPQxf42
import Derived.Test.YtdigplhjfjchnaaPQxf51
namespace Go.Proofs.Ytdigplhjfjchnaa.PQ
open Go.RowKit Go.Proofs.YtdigplhjfjchnaaW.PrintWords Go.Proofs.YtdigplhjfjchnaaW.PrintLast Go.Proofs.YtdigplhjfjchnaaW.PrintMore
attribute [local go_sem] max2_int min2_int max_two min_two max_three min_three max_four min_four   -- for this text's walks alone
set_option linter.unusedVariables false
set_option linter.unusedSimpArgs false

/-! ### install_command: function 44 -/
def install_command.j0 : Nat → Bool → Int → Int → Int → ByteArray → List Int → Option (Bool)
  | 0, _, _, _, _, _, _ => none
  | k + 1, x22, x121000, x121001, x121002, x121003, x121004 => if x22 = true then (some false) else (if x121001 = 1 then (if x121002 ≥ 1 then (some (decide (x121002 ≤ 1073741824))) else (some false)) else (if x121001 = 2 then (some (x121002 == 0)) else (some false)))
def install_command.f (k : Nat) (a0_0 : Int) (a0_1 : Int) (a0_2 : Int) (a0_3 : ByteArray) (l0_4 : List Int) : Option (Bool) := if a0_0 < 1 then (install_command.j0 k true a0_0 a0_1 a0_2 a0_3 l0_4) else (if a0_0 > 1048576 then (install_command.j0 k true a0_0 a0_1 a0_2 a0_3 l0_4) else ((install_identifier.f a0_3).bind fun t121 => (if t121 = true then ((install_list.f k l0_4).bind fun t122 => (install_command.j0 k (!t122) a0_0 a0_1 a0_2 a0_3 l0_4)) else (install_command.j0 k true a0_0 a0_1 a0_2 a0_3 l0_4))))
theorem install_command.mono_l : ∀ k, (∀ y0 y1 y2 y3 y4 y5, LeO (install_command.j0 k y0 y1 y2 y3 y4 y5) (install_command.j0 (k + 1) y0 y1 y2 y3 y4 y5))
  | 0 => fun _ _ _ _ _ _ r h => by simp [install_command.j0] at h
  | k + 1 => by
    have ih0 := install_command.mono_l k
    · intro y0 y1 y2 y3 y4 y5
      unfold install_command.j0
      repeat' first
      | (with_reducible exact ih0 _ _ _ _ _ _)
      | (with_reducible exact install_list.mono _ _)
      | (with_reducible exact LeO.refl _)
      | (with_reducible exact LeO.none _)
      | (with_reducible refine LeO.ite ?_ ?_)
      | (with_reducible refine LeO.bind ?_ (fun _ => ?_))
      | exact ih0 _ _ _ _ _ _
      | exact install_list.mono _ _
      | exact LeO.none _
      | refine LeO.ite ?_ ?_
      | refine LeO.bind ?_ (fun _ => ?_)
theorem install_command.mono : ∀ a0 a1 a2 a3 a4 k, LeO (install_command.f k a0 a1 a2 a3 a4) (install_command.f (k + 1) a0 a1 a2 a3 a4) := by
  intro a0 a1 a2 a3 a4 k
  have ih0 := install_command.mono_l k
  unfold install_command.f
  repeat' first
      | (with_reducible exact ih0 _ _ _ _ _ _)
      | (with_reducible exact install_list.mono _ _)
      | (with_reducible exact LeO.refl _)
      | (with_reducible exact LeO.none _)
      | (with_reducible refine LeO.ite ?_ ?_)
      | (with_reducible refine LeO.bind ?_ (fun _ => ?_))
      | exact ih0 _ _ _ _ _ _
      | exact install_list.mono _ _
      | exact LeO.none _
      | refine LeO.ite ?_ ?_
      | refine LeO.bind ?_ (fun _ => ?_)
set_option maxHeartbeats 8000000 in
set_option maxRecDepth 100000 in
theorem install_command.calls (k : Nat) (a0_0 : Int) (a0_1 : Int) (a0_2 : Int) (a0_3 : ByteArray) (A0_4 : Option Addr) (c0_4 : Nat) (l0_4 : List Int) (r : Bool) (w : World) (hr0_4 : Kd.C (Kd.int .i64) w A0_4 l0_4.length l0_4) (hc0_4 : l0_4.length ≤ c0_4) (h : install_command.f k a0_0 a0_1 a0_2 a0_3 l0_4 = some r) :
    Calls Try.prog 44 #[.agg #[.int .i64 a0_0, .int .i64 a0_1, .int .i64 a0_2, .string a0_3, .slice A0_4 l0_4.length c0_4]] w fun e w' => e = .returned (.bool r) ∧ Below w.heap.size w w' := by
  have hu36 := Try.underlying36
  have HR0_4 := Aside0.mk hr0_4
  have HC0_4 := Aside0.mk hc0_4
  clear hr0_4 hc0_4
  have HB := Aside0.mk (Below.refl w.heap.size w)
  have H : (if a0_0 < 1 then (install_command.j0 k true a0_0 a0_1 a0_2 a0_3 l0_4) else (if a0_0 > 1048576 then (install_command.j0 k true a0_0 a0_1 a0_2 a0_3 l0_4) else ((install_identifier.f a0_3).bind fun t121 => (if t121 = true then ((install_list.f k l0_4).bind fun t122 => (install_command.j0 k (!t122) a0_0 a0_1 a0_2 a0_3 l0_4)) else (install_command.j0 k true a0_0 a0_1 a0_2 a0_3 l0_4))))) = some r := h
  clear h
  have HC2 := Aside0.mk H
  clear H
  go_enter Try.func44, Try.ntmps44
  go_upto_region 1 with (first | ((with_reducible refine gate_dst (N := 1) rfl ?_); refine box_event ?hg (N := 1) ?hd (cs := #[.int .i64 a0_0, .int .i64 a0_1, .int .i64 a0_2, .string a0_3, .slice A0_4 l0_4.length c0_4]) (t := 36) ?hr ?_; (case hd => rfl); (case hg => rfl); (case hr => first | (go_simp; done) | (go_simp; rfl)); intro gb120 hg w3 hbox hb; have n0_ := Aside0.mk (below_step (by repeat (first | (with_reducible first | exact HB.out | apply below_alloc | apply pw_below_drewN | apply below_drew1) | exact HB.out)) hb); have n1_ := Aside0.mk (hbox); have n2_ := Aside0.mk ((by rw [hg]; exact (below_size (by repeat (first | (with_reducible first | exact HB.out | apply below_alloc | apply pw_below_drewN | apply below_drew1) | exact HB.out))) : w.heap.size ≤ gb120)); have n3_ := Aside0.mk ((by rw [hg]; exact (below_size (by repeat (first | (with_reducible first | exact HB.out | apply below_alloc | apply pw_below_drewN | apply below_drew1) | exact HB.out))) : w.heap.size ≤ gb120)); clear HB; have HB := n0_; have BK120 := n1_; have GW120 := n2_; have GE120 := n3_; clear n0_ n1_ n2_ n3_; clear hb hbox hg))
  (try simp only [Act.put, List.setIfInBounds_toArray, List.set_cons_zero, List.set_cons_succ])
  go_cut [22] (fun v22 wc => ∃ (kq : Nat) (x22_1 : Bool), v22 = .bool x22_1 ∧ Aside0 (install_command.j0 kq x22_1 a0_0 a0_1 a0_2 a0_3 l0_4 = some r) ∧ Aside0 (kq ≤ k) ∧ Aside0 (wc.heap[gb120]? = some (.cells #[.int .i64 a0_0, .int .i64 a0_1, .int .i64 a0_2, .string a0_3, (.slice A0_4 l0_4.length c0_4)] 36 (0, 0))) ∧ Aside0 (Below w.heap.size w wc))
  case first =>
    have H := HC2.out
    clear HC2
    by_cases c4 : a0_0 < 1
    · rw [if_pos c4] at H
      have c4b0 : decide (a0_0 < 1) = true := decide_eq_true c4
      clear c4
      (first | rw [c4b0] | (simp only [i64_w, i32_w]; rw [c4b0]) | skip)
      have H' := Aside0.mk H
      clear H
      have hcz5_0 : w3.cell? ⟨gb120, 0, none⟩ = some (.int .i64 a0_0) := (blk_cell BK120.out 0).trans rfl
      have hcz5_1 : w3.cell? ⟨gb120, 1, none⟩ = some (.int .i64 a0_1) := (blk_cell BK120.out 1).trans rfl
      have hcz5_2 : w3.cell? ⟨gb120, 2, none⟩ = some (.int .i64 a0_2) := (blk_cell BK120.out 2).trans rfl
      have hcz5_3 : w3.cell? ⟨gb120, 3, none⟩ = some (.string a0_3) := (blk_cell BK120.out 3).trans rfl
      have hcz5_4 : w3.cell? ⟨gb120, 4, none⟩ = some (.slice A0_4 l0_4.length c0_4) := (blk_cell BK120.out 4).trans rfl
      have hfz5_0 := blk_frozen BK120.out 0
      have hfz5_1 := blk_frozen BK120.out 1
      have hfz5_2 := blk_frozen BK120.out 2
      have hfz5_3 := blk_frozen BK120.out 3
      have hfz5_4 := blk_frozen BK120.out 4
      go_wp2
      go_meet
      case rel => exact ⟨_, (true), (by first | rfl | (simp; done) | (simp [*]; done)), H', ⟨by first | omega | exact Nat.le_refl _⟩, ⟨by (with_reducible repeat (first | refine blk_drewN ?_ _ | refine blk_drew ?_ | refine blk_alloc ?_ _)); exact BK120.out⟩, ⟨by repeat (first | (with_reducible first | exact HB.out | apply below_alloc | apply pw_below_drewN | apply below_drew1 | refine below_set ?_ GE120.out) | exact HB.out)⟩⟩
    · rw [if_neg c4] at H
      have c4b0 : decide (a0_0 < 1) = false := decide_eq_false c4
      clear c4
      (first | rw [c4b0] | (simp only [i64_w, i32_w]; rw [c4b0]) | skip)
      by_cases c6 : a0_0 > 1048576
      · rw [if_pos c6] at H
        have c6b0 : decide (1048576 < a0_0) = true := decide_eq_true c6
        clear c6
        have H' := Aside0.mk H
        clear H
        have hcz7_0 : w3.cell? ⟨gb120, 0, none⟩ = some (.int .i64 a0_0) := (blk_cell BK120.out 0).trans rfl
        have hcz7_1 : w3.cell? ⟨gb120, 1, none⟩ = some (.int .i64 a0_1) := (blk_cell BK120.out 1).trans rfl
        have hcz7_2 : w3.cell? ⟨gb120, 2, none⟩ = some (.int .i64 a0_2) := (blk_cell BK120.out 2).trans rfl
        have hcz7_3 : w3.cell? ⟨gb120, 3, none⟩ = some (.string a0_3) := (blk_cell BK120.out 3).trans rfl
        have hcz7_4 : w3.cell? ⟨gb120, 4, none⟩ = some (.slice A0_4 l0_4.length c0_4) := (blk_cell BK120.out 4).trans rfl
        have hfz7_0 := blk_frozen BK120.out 0
        have hfz7_1 := blk_frozen BK120.out 1
        have hfz7_2 := blk_frozen BK120.out 2
        have hfz7_3 := blk_frozen BK120.out 3
        have hfz7_4 := blk_frozen BK120.out 4
        go_wp2
        go_meet
        case rel => exact ⟨_, (true), (by first | rfl | (simp; done) | (simp [*]; done)), H', ⟨by first | omega | exact Nat.le_refl _⟩, ⟨by (with_reducible repeat (first | refine blk_drewN ?_ _ | refine blk_drew ?_ | refine blk_alloc ?_ _)); exact BK120.out⟩, ⟨by repeat (first | (with_reducible first | exact HB.out | apply below_alloc | apply pw_below_drewN | apply below_drew1 | refine below_set ?_ GE120.out) | exact HB.out)⟩⟩
      · rw [if_neg c6] at H
        have c6b0 : decide (1048576 < a0_0) = false := decide_eq_false c6
        clear c6
        replace H := Option.bind_eq_some_iff.mp H
        obtain ⟨t121, A80, H⟩ := H
        replace H : (if t121 = true then ((install_list.f k l0_4).bind fun t122 => (install_command.j0 k (!t122) a0_0 a0_1 a0_2 a0_3 l0_4)) else (install_command.j0 k true a0_0 a0_1 a0_2 a0_3 l0_4)) = some r := H
        have A8 := Aside0.mk A80
        clear A80
        by_cases c9 : t121 = true
        · subst c9
          have H1 : ((install_list.f k l0_4).bind fun t122 => (install_command.j0 k (!t122) a0_0 a0_1 a0_2 a0_3 l0_4)) = some r := by rw [if_pos rfl] at H; exact H
          clear H
          have H := H1
          clear H1
          replace H := Option.bind_eq_some_iff.mp H
          obtain ⟨t122, A100, H⟩ := H
          replace H : (install_command.j0 k (!t122) a0_0 a0_1 a0_2 a0_3 l0_4) = some r := H
          have A10 := Aside0.mk A100
          clear A100
          have H' := Aside0.mk H
          clear H
          have hcz11_0 : w3.cell? ⟨gb120, 0, none⟩ = some (.int .i64 a0_0) := (blk_cell BK120.out 0).trans rfl
          have hcz11_1 : w3.cell? ⟨gb120, 1, none⟩ = some (.int .i64 a0_1) := (blk_cell BK120.out 1).trans rfl
          have hcz11_2 : w3.cell? ⟨gb120, 2, none⟩ = some (.int .i64 a0_2) := (blk_cell BK120.out 2).trans rfl
          have hcz11_3 : w3.cell? ⟨gb120, 3, none⟩ = some (.string a0_3) := (blk_cell BK120.out 3).trans rfl
          have hcz11_4 : w3.cell? ⟨gb120, 4, none⟩ = some (.slice A0_4 l0_4.length c0_4) := (blk_cell BK120.out 4).trans rfl
          have hfz11_0 := blk_frozen BK120.out 0
          have hfz11_1 := blk_frozen BK120.out 1
          have hfz11_2 := blk_frozen BK120.out 2
          have hfz11_3 := blk_frozen BK120.out 3
          have hfz11_4 := blk_frozen BK120.out 4
          go_wp2_with (first | (go_at_call 42; (with_reducible refine (install_identifier.calls a0_3 true _ A8.out).mono ?_); rintro e w' ⟨rfl, ⟨nd, rfl⟩⟩) | (go_at_call 51; (with_reducible refine (install_list.calls k _ _ l0_4 t122 _ ?side1 ?side2 A10.out).mono ?_); (case side1 => repeat (first | exact (Kd.C_below HR0_4.out (by repeat (first | (with_reducible first | exact HB.out | apply below_alloc | apply pw_below_drewN | apply below_drew1 | refine below_set ?_ GE120.out) | exact HB.out))) | (with_reducible refine Kd.C_alloc ?_ _) | (with_reducible refine Kd.C_drewN ?_ _) | (with_reducible refine Kd.C_drew ?_))); (case side2 => exact HC0_4.out); rintro e w' ⟨rfl, ⟨nd, rfl⟩⟩))
          go_meet
          case rel => exact ⟨_, (!t122), (by first | rfl | (simp; done) | (simp [*]; done)), H', ⟨by first | omega | exact Nat.le_refl _⟩, ⟨by (with_reducible repeat (first | refine blk_drewN ?_ _ | refine blk_drew ?_ | refine blk_alloc ?_ _)); exact BK120.out⟩, ⟨by repeat (first | (with_reducible first | exact HB.out | apply below_alloc | apply pw_below_drewN | apply below_drew1 | refine below_set ?_ GE120.out) | exact HB.out)⟩⟩
        · replace c9 := Bool.eq_false_iff.mpr c9
          subst c9
          have H1 : (install_command.j0 k true a0_0 a0_1 a0_2 a0_3 l0_4) = some r := by rw [if_neg (show ¬ (false = true) by decide)] at H; exact H
          clear H
          have H := H1
          clear H1
          have H' := Aside0.mk H
          clear H
          have hcz12_0 : w3.cell? ⟨gb120, 0, none⟩ = some (.int .i64 a0_0) := (blk_cell BK120.out 0).trans rfl
          have hcz12_1 : w3.cell? ⟨gb120, 1, none⟩ = some (.int .i64 a0_1) := (blk_cell BK120.out 1).trans rfl
          have hcz12_2 : w3.cell? ⟨gb120, 2, none⟩ = some (.int .i64 a0_2) := (blk_cell BK120.out 2).trans rfl
          have hcz12_3 : w3.cell? ⟨gb120, 3, none⟩ = some (.string a0_3) := (blk_cell BK120.out 3).trans rfl
          have hcz12_4 : w3.cell? ⟨gb120, 4, none⟩ = some (.slice A0_4 l0_4.length c0_4) := (blk_cell BK120.out 4).trans rfl
          have hfz12_0 := blk_frozen BK120.out 0
          have hfz12_1 := blk_frozen BK120.out 1
          have hfz12_2 := blk_frozen BK120.out 2
          have hfz12_3 := blk_frozen BK120.out 3
          have hfz12_4 := blk_frozen BK120.out 4
          go_wp2_with (first | (go_at_call 42; (with_reducible refine (install_identifier.calls a0_3 false _ A8.out).mono ?_); rintro e w' ⟨rfl, ⟨nd, rfl⟩⟩))
          go_meet
          case rel => exact ⟨_, (true), (by first | rfl | (simp; done) | (simp [*]; done)), H', ⟨by first | omega | exact Nat.le_refl _⟩, ⟨by (with_reducible repeat (first | refine blk_drewN ?_ _ | refine blk_drew ?_ | refine blk_alloc ?_ _)); exact BK120.out⟩, ⟨by repeat (first | (with_reducible first | exact HB.out | apply below_alloc | apply pw_below_drewN | apply below_drew1 | refine below_set ?_ GE120.out) | exact HB.out)⟩⟩
  case rest =>
    clear HC2
    try clear p2
    try clear c4
    try clear c4b0
    try clear c6
    try clear c6b0
    try clear c9
    try clear hcz11_0
    try clear hcz11_1
    try clear hcz11_2
    try clear hcz11_3
    try clear hcz11_4
    try clear hcz12_0
    try clear hcz12_1
    try clear hcz12_2
    try clear hcz12_3
    try clear hcz12_4
    try clear hcz5_0
    try clear hcz5_1
    try clear hcz5_2
    try clear hcz5_3
    try clear hcz5_4
    try clear hcz7_0
    try clear hcz7_1
    try clear hcz7_2
    try clear hcz7_3
    try clear hcz7_4
    try clear hfz11_0
    try clear hfz11_1
    try clear hfz11_2
    try clear hfz11_3
    try clear hfz11_4
    try clear hfz12_0
    try clear hfz12_1
    try clear hfz12_2
    try clear hfz12_3
    try clear hfz12_4
    try clear hfz5_0
    try clear hfz5_1
    try clear hfz5_2
    try clear hfz5_3
    try clear hfz5_4
    try clear hfz7_0
    try clear hfz7_1
    try clear hfz7_2
    try clear hfz7_3
    try clear hfz7_4
    obtain ⟨kq, x22_1, rfl, HA, HJ1, BK120, HB⟩ := hcut
    cases kq with
    | zero => exact absurd HA.out (by simp [install_command.j0])
    | succ kj1 =>
      have H := HA.out
      clear HA
      simp only [install_command.j0] at H
      by_cases c13 : x22_1 = true
      · subst c13
        have H1 : (some false) = some r := by rw [if_pos rfl] at H; exact H
        clear H
        have H := H1
        clear H1
        obtain rfl := Option.some.inj H
        go_wp2
        go_ret
        exact ⟨by first | rfl | (simp [errW_none, errW_some] <;> rfl) | (simp [*, errW_none, errW_some] <;> rfl), by repeat (first | (with_reducible first | exact HB.out | apply below_alloc | apply pw_below_drewN | apply below_drew1 | refine below_set ?_ GE120.out) | exact HB.out)⟩
      · replace c13 := Bool.eq_false_iff.mpr c13
        subst c13
        have H1 : (if a0_1 = 1 then (if a0_2 ≥ 1 then (some (decide (a0_2 ≤ 1073741824))) else (some false)) else (if a0_1 = 2 then (some (a0_2 == 0)) else (some false))) = some r := by rw [if_neg (show ¬ (false = true) by decide)] at H; exact H
        clear H
        have H := H1
        clear H1
        by_cases c14 : a0_1 = 1
        · rw [if_pos c14] at H
          have c14b0 : (a0_1 == 1) = true := beq_iff_eq.mpr c14
          have c14b1 : (a0_1 != 1) = false := bne_eq_false_iff_eq.mpr c14
          clear c14
          by_cases c15 : a0_2 ≥ 1
          · rw [if_pos c15] at H
            have c15b0 : decide (1 ≤ a0_2) = true := decide_eq_true c15
            clear c15
            obtain rfl := Option.some.inj H
            have hcz16_0 : wc.cell? ⟨gb120, 0, none⟩ = some (.int .i64 a0_0) := (blk_cell BK120.out 0).trans rfl
            have hcz16_1 : wc.cell? ⟨gb120, 1, none⟩ = some (.int .i64 a0_1) := (blk_cell BK120.out 1).trans rfl
            have hcz16_2 : wc.cell? ⟨gb120, 2, none⟩ = some (.int .i64 a0_2) := (blk_cell BK120.out 2).trans rfl
            have hcz16_3 : wc.cell? ⟨gb120, 3, none⟩ = some (.string a0_3) := (blk_cell BK120.out 3).trans rfl
            have hcz16_4 : wc.cell? ⟨gb120, 4, none⟩ = some (.slice A0_4 l0_4.length c0_4) := (blk_cell BK120.out 4).trans rfl
            have hfz16_0 := blk_frozen BK120.out 0
            have hfz16_1 := blk_frozen BK120.out 1
            have hfz16_2 := blk_frozen BK120.out 2
            have hfz16_3 := blk_frozen BK120.out 3
            have hfz16_4 := blk_frozen BK120.out 4
            go_wp2
            go_ret
            exact ⟨by first | rfl | (simp [errW_none, errW_some] <;> rfl) | (simp [*, errW_none, errW_some] <;> rfl), by repeat (first | (with_reducible first | exact HB.out | apply below_alloc | apply pw_below_drewN | apply below_drew1 | refine below_set ?_ GE120.out) | exact HB.out)⟩
          · rw [if_neg c15] at H
            have c15b0 : decide (1 ≤ a0_2) = false := decide_eq_false c15
            clear c15
            obtain rfl := Option.some.inj H
            have hcz17_0 : wc.cell? ⟨gb120, 0, none⟩ = some (.int .i64 a0_0) := (blk_cell BK120.out 0).trans rfl
            have hcz17_1 : wc.cell? ⟨gb120, 1, none⟩ = some (.int .i64 a0_1) := (blk_cell BK120.out 1).trans rfl
            have hcz17_2 : wc.cell? ⟨gb120, 2, none⟩ = some (.int .i64 a0_2) := (blk_cell BK120.out 2).trans rfl
            have hcz17_3 : wc.cell? ⟨gb120, 3, none⟩ = some (.string a0_3) := (blk_cell BK120.out 3).trans rfl
            have hcz17_4 : wc.cell? ⟨gb120, 4, none⟩ = some (.slice A0_4 l0_4.length c0_4) := (blk_cell BK120.out 4).trans rfl
            have hfz17_0 := blk_frozen BK120.out 0
            have hfz17_1 := blk_frozen BK120.out 1
            have hfz17_2 := blk_frozen BK120.out 2
            have hfz17_3 := blk_frozen BK120.out 3
            have hfz17_4 := blk_frozen BK120.out 4
            go_wp2
            go_ret
            exact ⟨by first | rfl | (simp [errW_none, errW_some] <;> rfl) | (simp [*, errW_none, errW_some] <;> rfl), by repeat (first | (with_reducible first | exact HB.out | apply below_alloc | apply pw_below_drewN | apply below_drew1 | refine below_set ?_ GE120.out) | exact HB.out)⟩
        · rw [if_neg c14] at H
          have c14b0 : (a0_1 == 1) = false := beq_eq_false_iff_ne.mpr c14
          have c14b1 : (a0_1 != 1) = true := bne_iff_ne.mpr c14
          by_cases c18 : a0_1 = 2
          · rw [if_pos c18] at H
            have c18b0 : (a0_1 == 2) = true := beq_iff_eq.mpr c18
            have c18b1 : (a0_1 != 2) = false := bne_eq_false_iff_eq.mpr c18
            clear c18
            obtain rfl := Option.some.inj H
            have hcz19_0 : wc.cell? ⟨gb120, 0, none⟩ = some (.int .i64 a0_0) := (blk_cell BK120.out 0).trans rfl
            have hcz19_1 : wc.cell? ⟨gb120, 1, none⟩ = some (.int .i64 a0_1) := (blk_cell BK120.out 1).trans rfl
            have hcz19_2 : wc.cell? ⟨gb120, 2, none⟩ = some (.int .i64 a0_2) := (blk_cell BK120.out 2).trans rfl
            have hcz19_3 : wc.cell? ⟨gb120, 3, none⟩ = some (.string a0_3) := (blk_cell BK120.out 3).trans rfl
            have hcz19_4 : wc.cell? ⟨gb120, 4, none⟩ = some (.slice A0_4 l0_4.length c0_4) := (blk_cell BK120.out 4).trans rfl
            have hfz19_0 := blk_frozen BK120.out 0
            have hfz19_1 := blk_frozen BK120.out 1
            have hfz19_2 := blk_frozen BK120.out 2
            have hfz19_3 := blk_frozen BK120.out 3
            have hfz19_4 := blk_frozen BK120.out 4
            go_wp2
            go_ret
            exact ⟨by first | rfl | (simp [errW_none, errW_some] <;> rfl) | (simp [*, errW_none, errW_some] <;> rfl), by repeat (first | (with_reducible first | exact HB.out | apply below_alloc | apply pw_below_drewN | apply below_drew1 | refine below_set ?_ GE120.out) | exact HB.out)⟩
          · rw [if_neg c18] at H
            have c18b0 : (a0_1 == 2) = false := beq_eq_false_iff_ne.mpr c18
            have c18b1 : (a0_1 != 2) = true := bne_iff_ne.mpr c18
            obtain rfl := Option.some.inj H
            have hcz20_0 : wc.cell? ⟨gb120, 0, none⟩ = some (.int .i64 a0_0) := (blk_cell BK120.out 0).trans rfl
            have hcz20_1 : wc.cell? ⟨gb120, 1, none⟩ = some (.int .i64 a0_1) := (blk_cell BK120.out 1).trans rfl
            have hcz20_2 : wc.cell? ⟨gb120, 2, none⟩ = some (.int .i64 a0_2) := (blk_cell BK120.out 2).trans rfl
            have hcz20_3 : wc.cell? ⟨gb120, 3, none⟩ = some (.string a0_3) := (blk_cell BK120.out 3).trans rfl
            have hcz20_4 : wc.cell? ⟨gb120, 4, none⟩ = some (.slice A0_4 l0_4.length c0_4) := (blk_cell BK120.out 4).trans rfl
            have hfz20_0 := blk_frozen BK120.out 0
            have hfz20_1 := blk_frozen BK120.out 1
            have hfz20_2 := blk_frozen BK120.out 2
            have hfz20_3 := blk_frozen BK120.out 3
            have hfz20_4 := blk_frozen BK120.out 4
            go_wp2
            go_ret
            exact ⟨by first | rfl | (simp [errW_none, errW_some] <;> rfl) | (simp [*, errW_none, errW_some] <;> rfl), by repeat (first | (with_reducible first | exact HB.out | apply below_alloc | apply pw_below_drewN | apply below_drew1 | refine below_set ?_ GE120.out) | exact HB.out)⟩

end Go.Proofs.Ytdigplhjfjchnaa.PQ
