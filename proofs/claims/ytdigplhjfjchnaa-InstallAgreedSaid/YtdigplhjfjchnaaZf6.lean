-- Printed by fprint.py and zip.py, programs of this session's, over the kit's print; Lean checks it.
import Derived.Test.YtdigplhjfjchnaaZ0
import Derived.Test.YtdigplhjfjchnaaZf11
import Derived.Test.YtdigplhjfjchnaaZf12
import Derived.Test.YtdigplhjfjchnaaZf14
import Derived.Test.YtdigplhjfjchnaaZf15
import Derived.Test.YtdigplhjfjchnaaZf18
import Derived.Test.YtdigplhjfjchnaaZf20
import Derived.Test.YtdigplhjfjchnaaZf10
import Derived.Test.YtdigplhjfjchnaaZf17
import Derived.Test.YtdigplhjfjchnaaZf19
import Derived.Test.YtdigplhjfjchnaaZf21
import Derived.Test.YtdigplhjfjchnaaZf22
import Derived.Test.YtdigplhjfjchnaaZf23
import Derived.Test.YtdigplhjfjchnaaZf6d
import Derived.Test.YtdigplhjfjchnaaZC
import Derived.Test.YtdigplhjfjchnaaZf6p12
namespace Go.Proofs.Ytdigplhjfjchnaa.PQ
open Go.RowKit Go.Proofs.YtdigplhjfjchnaaW.PrintWords Go.Proofs.YtdigplhjfjchnaaW.PrintLast Go.Proofs.YtdigplhjfjchnaaW.PrintMore
attribute [local go_sem] max2_int min2_int max_two min_two max_three min_three max_four min_four   -- for this text's walks alone
set_option linter.unusedVariables false
set_option linter.unusedSimpArgs false
def hopmeshlaw49_InstallAgreed.T10 : Bool × List (List Nat × List Nat) := (true, [([], []), ([], []), ([], []), ([], []), ([2, 3], [2, 3]), ([4], [4]), ([], []), ([5, 6, 6], [5, 6]), ([7], [7]), ([8], [8]), ([8], [8]), ([0, 1, 0, 1, 2, 3, 4, 5, 6, 7, 8, 9], [0, 1]), ([11, 9, 7, 0, 1, 2, 3, 4, 5, 6, 7, 8, 9], [9, 11])])
def hopmeshlaw49_InstallAgreed.B10 : List Nat := [0, 0, 0, 0, 12, 28, 0, 124, 252, 508, 508, 1023, 3071]
theorem hopmeshlaw49_InstallAgreed.tab10 : rtab .any (opsOf Try.f6 10) = hopmeshlaw49_InstallAgreed.T10 := by kernel_rfl
theorem hopmeshlaw49_InstallAgreed.bits10 : waitsOk hopmeshlaw49_InstallAgreed.T10.2 hopmeshlaw49_InstallAgreed.B10 = true := by kernel_rfl
set_option maxHeartbeats 8000000 in
set_option maxRecDepth 100000 in
theorem hopmeshlaw49_InstallAgreed.calls (k : Nat) (a0 : Int) (a1 : Int) (A2 : Option Addr) (c2 : Nat) (l2 : List (S47)) (r : Bool) (w : World) (hr2 : Kd.C k47 w A2 l2.length l2) (hc2 : l2.length ≤ c2) (h : hopmeshlaw49_InstallAgreed.f k a0 a1 l2 = some r) :
 Calls Try.prog 6 #[.int .u8 a0, .int .u8 a1, .slice A2 l2.length c2] w fun e w' => e = .returned (.bool r) ∧ Below w.heap.size w w' := by
 have hu28 := Try.underlying28
 have hu50 := Try.underlying50
 have hu36 := Try.underlying36
 have hu47 := Try.underlying47
 have HR2 := Aside0.mk hr2
 have HC2 := Aside0.mk hc2
 clear hr2 hc2
 have HB := Aside0.mk (Below.refl w.heap.size w)
 have H : ((hopmeshlaw49_awake.f k).bind fun t525 => (if t525 = true then (if (l2.length : Int) > 60 then (hopmeshlaw49_InstallAgreed.j0 k a0 a1 l2 true) else (hopmeshlaw49_InstallAgreed.j0 k a0 a1 l2 (decide (a1 < 2)))) else (hopmeshlaw49_InstallAgreed.j0 k a0 a1 l2 true))) = some r := h
 clear h
 have HC4 := Aside0.mk H
 clear H
 go_enter Try.func6, Try.ntmps6
 go_upto_region 1 with (fail)
 go_cut [32] (fun v32 wc => ∃ (kq : Nat) (x32_3 : Bool), v32 = .bool x32_3 ∧ Aside0 (hopmeshlaw49_InstallAgreed.j0 kq a0 a1 l2 x32_3 = some r) ∧ Aside0 (kq ≤ k) ∧ Aside0 (Below w.heap.size w wc))
 case first =>
  have H := HC4.out
  clear HC4
  replace H := Option.bind_eq_some_iff.mp H
  obtain ⟨t525, A50, H⟩ := H
  (try dsimp only at H)
  have A5 := Aside0.mk A50
  clear A50
  by_cases c6 : t525 = true
  ·subst c6
   rw [if_pos rfl] at H
   by_cases c7 : (l2.length : Int) > 60
   ·rw [if_pos c7] at H
    have c7b0 : decide (60 < (l2.length : Int)) = true := decide_eq_true c7
    have c7b1 : decide (60 < l2.length) = true := decide_eq_true (by omega)
    clear c7
    (first | rw [c7b0] | (simp only [i64_w, i32_w]; rw [c7b0]) | skip)
    have H' := Aside0.mk H
    clear H
    go_wp2_with (first | ((with_reducible refine gate_callee (f := 10) rfl ?_); refine goesL_ (some 22) rfl rfl Try.func10 (by kernel_rfl) rfl #[] rfl sma ?_; (with_reducible refine (hopmeshlaw49_awake.calls k  true _ A5.out).mono ?_); rintro e w8 ⟨rfl, hb⟩; refine ⟨_, rfl, ?_⟩; replace HB := hbS HB hb; (try clear hb); (try clear hb2); (try clear hk); (try clear hi)))
    go_meet
    case rel => exact ⟨_, (true), rfs, H', kle, hbA HB⟩
   ·rw [if_neg c7] at H
    have c7b0 : decide (60 < (l2.length : Int)) = false := decide_eq_false c7
    have c7b1 : decide (60 < l2.length) = false := decide_eq_false (by omega)
    clear c7
    (first | rw [c7b0] | (simp only [i64_w, i32_w]; rw [c7b0]) | skip)
    have H' := Aside0.mk H
    clear H
    go_wp2_with (first | ((with_reducible refine gate_callee (f := 10) rfl ?_); refine goesL_ (some 22) rfl rfl Try.func10 (by kernel_rfl) rfl #[] rfl sma ?_; (with_reducible refine (hopmeshlaw49_awake.calls k  true _ A5.out).mono ?_); rintro e w9 ⟨rfl, hb⟩; refine ⟨_, rfl, ?_⟩; replace HB := hbS HB hb; (try clear hb); (try clear hb2); (try clear hk); (try clear hi)))
    go_meet
    case rel => exact ⟨_, (decide (a1 < 2)), rfs, H', kle, hbA HB⟩
  ·replace c6 := Bool.eq_false_iff.mpr c6
   subst c6
   rw [if_neg (show ¬ (false = true) by decide)] at H
   have H' := Aside0.mk H
   clear H
   go_wp2_with (first | ((with_reducible refine gate_callee (f := 10) rfl ?_); refine goesL_ (some 22) rfl rfl Try.func10 (by kernel_rfl) rfl #[] rfl sma ?_; (with_reducible refine (hopmeshlaw49_awake.calls k  false _ A5.out).mono ?_); rintro e w10 ⟨rfl, hb⟩; refine ⟨_, rfl, ?_⟩; replace HB := hbS HB hb; (try clear hb); (try clear hb2); (try clear hk); (try clear hi)))
   go_meet
   case rel => exact ⟨_, (true), rfs, H', kle, hbA HB⟩
 case rest =>
  clear HC4
  try clear c2
  obtain ⟨kq, x32_3, rfl, HA, HJ3, HB⟩ := hcut
  cases kq with
  | zero => exact absurd HA.out (by simp [hopmeshlaw49_InstallAgreed.j0])
  | succ kj3 =>
   have H := HA.out
   clear HA
   simp only [hopmeshlaw49_InstallAgreed.j0] at H
   by_cases c11 : x32_3 = true
   ·subst c11
    rw [if_pos rfl] at H
    replace H := Option.bind_eq_some_iff.mp H
    obtain ⟨t526, A120, H⟩ := H
    (try dsimp only at H)
    have A12 := Aside0.mk A120
    clear A120
    obtain rfl := Option.some.inj H
    go_wp2_with (first | ((with_reducible refine gate_callee (f := 10) rfl ?_); refine goesL_ (some 33) rfl rfl Try.func10 (by kernel_rfl) rfl #[] rfl sma ?_; (with_reducible refine (hopmeshlaw49_awake.calls kj3  t526 _ A12.out).mono ?_); rintro e w13 ⟨rfl, hb⟩; refine ⟨_, rfl, ?_⟩; replace HB := hbS HB hb; (try clear hb); (try clear hb2); (try clear hk); (try clear hi)))
    go_ret
    exact ⟨rerr, hbx HB⟩
   ·replace c11 := Bool.eq_false_iff.mpr c11
    subst c11
    rw [if_neg (show ¬ (false = true) by decide)] at H
    obtain ⟨ji14, hji14⟩ : ∃ j_ : Int, (wrap64 (1 + (wrap64 (Int.tmod a0 6)))) = j_ := ⟨_, rfl⟩
    replace H : (if 0 ≤ (ji14) then (if (ji14 : Int).toNat ≤ 3909374676536 then (hopmeshlaw49_InstallAgreed.l0 kj3 a1 l2 ji14 ([] : List Int) (List.replicate (ji14 : Int).toNat z28) ji14 0) else (none)) else (none)) = some r := by first | (rw [hji14] at H; exact H) | (simp only [hji14] at H ⊢; exact H)
    have hji14w : (IntKind.i64.wrap (1 + (wrap64 (Int.tmod a0 6)))) = ji14 := (i64_w _).trans hji14
    by_cases c15 : 0 ≤ (ji14)
    ·rw [if_pos c15] at H
     have c15b0 := eq_true c15
     have c15b1 : decide (0 ≤ (ji14)) = true := decide_eq_true c15
     clear c15
     by_cases c16 : (ji14 : Int).toNat ≤ 3909374676536
     ·rw [if_pos c16] at H
      have c16b0 := eq_true c16
      have c16b1 : decide ((ji14 : Int).toNat ≤ 3909374676536) = true := decide_eq_true c16
      clear c16
      obtain ⟨y527, hy527⟩ : ∃ y_ : List (S28), y_ = (List.replicate (ji14 : Int).toNat z28) := ⟨_, rfl⟩
      replace H : (hopmeshlaw49_InstallAgreed.l0 kj3 a1 l2 ji14 ([] : List Int) y527 ji14 0) = some r := by first | (rw [hy527]; with_reducible exact H) | (have H2_ := (Option.bind_some _ _).symm.trans H; rw [hy527]; with_reducible exact H2_) | (have H2_ := (Option.bind_some _ _).symm.trans H; with_reducible exact H2_) | with_reducible exact H | (rw [hy527]; exact H) | exact H
      have Ny527 := Aside0.mk hy527
      clear hy527
      have H' := Aside0.mk H
      clear H
      go_wp2_with (first | ((with_reducible refine gate_dst (N := 39) rfl ?_); (try (refine gate_guard (by rfl) ?_; dsimp only)); refine Kd.R_make k28 _ 28 rfl (N := 39) rfl 44 _ _ rfl ji14 rfl rfl Try.underlying44 (.agg #[(.string ⟨#[]⟩), (.string ⟨#[]⟩), (.bool false), (.string ⟨#[]⟩), (.int .i64 0), (.int .i64 0)]) 72 info28 rfl (by decide) (by omega) z28 (ok := fun _ => True) (okp := fun _ => True) (k28_mkM _ _ _ z28 ) (fun _ hk => hk) trivial (pos_) (Nat.le_trans (Nat.mul_le_mul_right _ (pos_ : ji14.toNat ≤ 3909374676536)) (by omega)) (Below.refl _ _) (Nat.le_refl _) ?_; intro v528 w17 ho18 hb hg_ hnew_; clear hg_ hnew_; (first | rw [← Ny527.out] at ho18 | (simp only [Int.reduceToNat] at ho18; rw [← Ny527.out] at ho18)); have HO529 := Aside0.mk (Kd.R_lower ho18 (below_size (hbx HB))); replace HB := hbS HB hb; clear hb ho18))
      go_loopg [8, 41] kj3 (fun kq v8 v41 w' => ∃ (x8_2 : List Int) (x9_2 : List (S28)) (x41_2 : Int), v41 = .int .i64 x41_2 ∧ Aside0 (hopmeshlaw49_InstallAgreed.l0 kq a1 l2 ji14 x8_2 x9_2 ji14 x41_2 = some r) ∧ Aside0 (kq ≤ kj3) ∧ Aside0 (Kd.R (Kd.int .i64) 3 w' w.heap.size (fun _ => True) v8 x8_2) ∧ Aside0 (Kd.R k28 28 w' w.heap.size (fun _ => True) v528 x9_2) ∧ Aside0 (Below w.heap.size w w'))
      case atStart => exact ⟨(([] : List Int)), (y527), (0), rfs, H', ⟨Nat.le_refl _⟩, ⟨rnil⟩, roA HO529, hbA HB⟩
      case round =>
       clear H'
       try clear c2
       try clear c11
       try clear c15
       try clear c15b0
       try clear c15b1
       try clear c16
       try clear c16b0
       try clear c16b1
       obtain ⟨x8_2, x9_2, x41_2, rfl, HA, HK2, HO_8, HO_9, HB⟩ := hrel
       cases gk with
       | zero => exact absurd HA.out (by simp [hopmeshlaw49_InstallAgreed.l0])
       | succ k2 =>
        have H := HA.out
        clear HA
        simp only [hopmeshlaw49_InstallAgreed.l0] at H
        by_cases c19 : x41_2 < ji14
        ·rw [if_pos c19] at H
         have c19b0 : decide (x41_2 < ji14) = true := decide_eq_true c19
         clear c19
         by_cases c20 : x8_2.length < 17592186044416
         ·rw [if_pos c20] at H
          have LMc20 := Aside0.mk c20
          clear c20
          obtain ⟨y530, hy530⟩ : ∃ y_ : List Int, y_ = (x8_2 ++ [x41_2]) := ⟨_, rfl⟩
          replace H : (if 0 ≤ x41_2 then (if x41_2 < (x9_2.length : Int) then ((some (x9_2.set (x41_2 : Int).toNat (⟨(⟨#[]⟩ : ByteArray), (⟨#[]⟩ : ByteArray), false, (⟨#[]⟩ : ByteArray), 0, 0⟩ : S28) : List (S28))).bind fun y533 => ((hopmeshlaw49_id.f (⟨#[120]⟩ : ByteArray)).bind fun t535 => ((install_Complete.f k2 ((rd_T28 y533 x41_2).f0) ((rd_T28 y533 x41_2).f1) ((rd_T28 y533 x41_2).f2) ((rd_T28 y533 x41_2).f3) ((rd_T28 y533 x41_2).f4) ((rd_T28 y533 x41_2).f5) t535).bind fun bt536 => (hopmeshlaw49_InstallAgreed.l0 k2 a1 l2 ji14 y530 (y533.set (x41_2 : Int).toNat (⟨bt536.1, bt536.2.1, bt536.2.2.1, bt536.2.2.2.1, bt536.2.2.2.2.1, bt536.2.2.2.2.2.1⟩ : S28)) ji14 (wrap64 (x41_2 + 1)))))) else (none)) else (none)) = some r := by first | (rw [hy530]; with_reducible exact H) | (have H2_ := (Option.bind_some _ _).symm.trans H; rw [hy530]; with_reducible exact H2_) | (have H2_ := (Option.bind_some _ _).symm.trans H; with_reducible exact H2_) | with_reducible exact H | (rw [hy530]; exact H) | exact H
          have Ny530 := Aside0.mk hy530
          clear hy530
          by_cases c21 : 0 ≤ x41_2
          ·rw [if_pos c21] at H
           have c21b0 : decide (0 ≤ x41_2) = true := decide_eq_true c21
           clear c21
           by_cases c22 : x41_2 < (x9_2.length : Int)
           ·rw [if_pos c22] at H
            have c22b0 : decide (x41_2 < (x9_2.length : Int)) = true := decide_eq_true c22
            clear c22
            obtain ⟨y533, hy533⟩ : ∃ y_ : List (S28), y_ = (x9_2.set (x41_2 : Int).toNat (⟨(⟨#[]⟩ : ByteArray), (⟨#[]⟩ : ByteArray), false, (⟨#[]⟩ : ByteArray), 0, 0⟩ : S28)) := ⟨_, rfl⟩
            replace H : ((hopmeshlaw49_id.f (⟨#[120]⟩ : ByteArray)).bind fun t535 => ((install_Complete.f k2 ((rd_T28 y533 x41_2).f0) ((rd_T28 y533 x41_2).f1) ((rd_T28 y533 x41_2).f2) ((rd_T28 y533 x41_2).f3) ((rd_T28 y533 x41_2).f4) ((rd_T28 y533 x41_2).f5) t535).bind fun bt536 => (hopmeshlaw49_InstallAgreed.l0 k2 a1 l2 ji14 y530 (y533.set (x41_2 : Int).toNat (⟨bt536.1, bt536.2.1, bt536.2.2.1, bt536.2.2.2.1, bt536.2.2.2.2.1, bt536.2.2.2.2.2.1⟩ : S28)) ji14 (wrap64 (x41_2 + 1))))) = some r := by first | (rw [hy533]; with_reducible exact H) | (have H2_ := (Option.bind_some _ _).symm.trans H; rw [hy533]; with_reducible exact H2_) | (have H2_ := (Option.bind_some _ _).symm.trans H; with_reducible exact H2_) | with_reducible exact H | (rw [hy533]; exact H) | exact H
            have Ny533 := Aside0.mk hy533
            clear hy533
            replace H := Option.bind_eq_some_iff.mp H
            obtain ⟨t535, A240, H⟩ := H
            (try dsimp only at H)
            have A24 := Aside0.mk A240
            clear A240
            replace H := Option.bind_eq_some_iff.mp H
            obtain ⟨⟨t536, t537, t538, t539, t540, t541, t542⟩, A250, H⟩ := H
            (try dsimp only at H)
            have A25 := Aside0.mk A250
            clear A250
            obtain ⟨y543, hy543⟩ : ∃ y_ : List (S28), y_ = (y533.set (x41_2 : Int).toNat (⟨t536, t537, t538, t539, t540, t541⟩ : S28)) := ⟨_, rfl⟩
            replace H : (hopmeshlaw49_InstallAgreed.l0 k2 a1 l2 ji14 y530 y543 ji14 (wrap64 (x41_2 + 1))) = some r := by first | (rw [hy543]; with_reducible exact H) | (have H2_ := (Option.bind_some _ _).symm.trans H; rw [hy543]; with_reducible exact H2_) | (have H2_ := (Option.bind_some _ _).symm.trans H; with_reducible exact H2_) | with_reducible exact H | (rw [hy543]; exact H) | exact H
            have Ny543 := Aside0.mk hy543
            clear hy543
            have H' := Aside0.mk H
            clear H
            try go_wp2_with (first | ((with_reducible refine gate_builtin (b := .append) (xs := #[.tmp 47, .tmp 49]) rfl ?_); (try (refine gate_guard (by rfl) ?_; dsimp only)); at_builtin; refine Kd.R_append (Kd.int .i64) (w0 := w) w.heap.size rfl (.tmp 47) (.tmp 49) 34 3 (.int .i64 0) 8 rfl Try.underlying34 info3 rfl (by decide) (by omega) u8 x8_2 x41_2 [.int .i64 x41_2] (fun _ => True) (fun _ => False) rfl rfl ?aP (fun _ hk => hk.elim) ?aF ?aO ?aB ?aS ?aL ?_; (case aP => exact rfl); (case aB => exact (hbx HB)); (case aF => exact (fun _ _ => trivial)); (case aO => exact (ro HO_8)); (case aS => exact (below_size (hbx HB))); (case aL => have := LMc20.out; omega); intro v531 w27 ho hb hg hat; rw [← Ny530.out] at ho; replace HO_9 := Aside0.mk (Kd.R_over' (ro HO_9) (Kd.R_typed (ro HO_8)) (by decide) hg); replace HB := Aside0.mk (hb); have HO532 := Aside0.mk (ho); clear HO_8; clear ho hb hg hat; have p23 : 0 ≤ (x41_2 : Int) := pos_; have q23 : (x41_2 : Int) < ((x9_2.length : Int) : Int) := pos_; obtain ⟨go23, co23, eo23, gb23, gl23, cl23, HG23⟩ := Kd.R_form HO_9.out (by omega); (first | cases eo23 | (injection eo23 with ea_ en_ ec_; (first | subst ea_ | (injection ea_ with ea_; subst ea_)); subst ec_; clear en_)); have GB23 := Aside0.mk gb23; have GG23 := Aside0.mk HG23; clear gb23 gl23 HG23; obtain ⟨ce23, hcl23, hM23, hcc23, hfr23⟩ := Kd.R_elem HO_9.out z28 (x41_2 : Int) p23 q23; obtain rfl := k28_openM hM23; have hx23_0 : w27.cell? ⟨go23, (x41_2 : Int).toNat * 6, none⟩ = some (.string ((rd_T28 x9_2 x41_2).f0)) := hcc23 0 _ rfl; have hx23_1 : w27.cell? ⟨go23, (x41_2 : Int).toNat * 6 + 1, none⟩ = some (.string ((rd_T28 x9_2 x41_2).f1)) := hcc23 1 _ rfl; have hx23_2 : w27.cell? ⟨go23, (x41_2 : Int).toNat * 6 + 2, none⟩ = some (.bool ((rd_T28 x9_2 x41_2).f2)) := hcc23 2 _ rfl; have hx23_3 : w27.cell? ⟨go23, (x41_2 : Int).toNat * 6 + 3, none⟩ = some (.string ((rd_T28 x9_2 x41_2).f3)) := hcc23 3 _ rfl; have hx23_4 : w27.cell? ⟨go23, (x41_2 : Int).toNat * 6 + 4, none⟩ = some (.int .i64 ((rd_T28 x9_2 x41_2).f4)) := hcc23 4 _ rfl; have hx23_5 : w27.cell? ⟨go23, (x41_2 : Int).toNat * 6 + 5, none⟩ = some (.int .i64 ((rd_T28 x9_2 x41_2).f5)) := hcc23 5 _ rfl; have hf23_0 : w27.frozen? ⟨go23, (x41_2 : Int).toNat * 6, none⟩ = false := hfr23 0; have hf23_1 : w27.frozen? ⟨go23, (x41_2 : Int).toNat * 6 + 1, none⟩ = false := hfr23 1; have hf23_2 : w27.frozen? ⟨go23, (x41_2 : Int).toNat * 6 + 2, none⟩ = false := hfr23 2; have hf23_3 : w27.frozen? ⟨go23, (x41_2 : Int).toNat * 6 + 3, none⟩ = false := hfr23 3; have hf23_4 : w27.frozen? ⟨go23, (x41_2 : Int).toNat * 6 + 4, none⟩ = false := hfr23 4; have hf23_5 : w27.frozen? ⟨go23, (x41_2 : Int).toNat * 6 + 5, none⟩ = false := hfr23 5; clear hcl23 hcc23 hfr23 hM23; replace p23 := eq_true p23; replace q23 := eq_true q23; have HX28 := Aside0.mk (show Kd.R k28 28 w27 w.heap.size (fun _ => True) (.slice (some ⟨go23, 0, none⟩) x9_2.length co23) x9_2 from (ro HO_9)); obtain ⟨ce28, hcl28, hM28, hcc28, hfr28⟩ := Kd.R_elem HX28.out z28 (x41_2 : Int) (pos_) (by have h_ : (x41_2 : Int) < ((x9_2.length : Int) : Int) := pos_; first | exact h_ | (have e_ := (Kd.R_reads' HO_9.out).1; omega) | simpa using h_); obtain rfl := k28_openM hM28; have HP28 := Kd.R_seg HX28.out (x41_2 : Int) (pos_) (by have h_ : (x41_2 : Int) < ((x9_2.length : Int) : Int) := pos_; first | exact h_ | (have e_ := (Kd.R_reads' HO_9.out).1; omega) | simpa using h_) (seg := [.string (⟨#[]⟩ : ByteArray), .string (⟨#[]⟩ : ByteArray), .bool false, .string (⟨#[]⟩ : ByteArray), .int .i64 0, .int .i64 0]) (j := 0) hcl28 hcc28 (show 6 ≤ 6 from by decide) (x' := (⟨(⟨#[]⟩ : ByteArray), (⟨#[]⟩ : ByteArray), false, (⟨#[]⟩ : ByteArray), 0, 0⟩ : S28)) (k28_mkM _ _ _ (⟨(⟨#[]⟩ : ByteArray), (⟨#[]⟩ : ByteArray), false, (⟨#[]⟩ : ByteArray), 0, 0⟩ : S28) ) (fun _ hk => hk); have hx28_0 := hcc28 0 _ rfl; (try simp only [show (k28).sz = 6 from rfl, Nat.mul_one, Nat.add_zero] at hx28_0); have hf28_0 := hfr28 0; (try simp only [show (k28).sz = 6 from rfl, Nat.mul_one, Nat.add_zero] at hf28_0); have hx28_1 := hcc28 1 _ rfl; (try simp only [show (k28).sz = 6 from rfl, Nat.mul_one, Nat.add_zero] at hx28_1); have hf28_1 := hfr28 1; (try simp only [show (k28).sz = 6 from rfl, Nat.mul_one, Nat.add_zero] at hf28_1); have hx28_2 := hcc28 2 _ rfl; (try simp only [show (k28).sz = 6 from rfl, Nat.mul_one, Nat.add_zero] at hx28_2); have hf28_2 := hfr28 2; (try simp only [show (k28).sz = 6 from rfl, Nat.mul_one, Nat.add_zero] at hf28_2); have hx28_3 := hcc28 3 _ rfl; (try simp only [show (k28).sz = 6 from rfl, Nat.mul_one, Nat.add_zero] at hx28_3); have hf28_3 := hfr28 3; (try simp only [show (k28).sz = 6 from rfl, Nat.mul_one, Nat.add_zero] at hf28_3); have hx28_4 := hcc28 4 _ rfl; (try simp only [show (k28).sz = 6 from rfl, Nat.mul_one, Nat.add_zero] at hx28_4); have hf28_4 := hfr28 4; (try simp only [show (k28).sz = 6 from rfl, Nat.mul_one, Nat.add_zero] at hf28_4); have hx28_5 := hcc28 5 _ rfl; (try simp only [show (k28).sz = 6 from rfl, Nat.mul_one, Nat.add_zero] at hx28_5); have hf28_5 := hfr28 5; (try simp only [show (k28).sz = 6 from rfl, Nat.mul_one, Nat.add_zero] at hf28_5); clear hcl28 hcc28 hfr28 hM28) | ((with_reducible refine gate_store (t := 28) (p := 51) rfl ?_); refine store_event (t := 28) (p := 51) (v := ?vo_w29) (w1 := ((((((w27.setCell ⟨go23, (x41_2 : Int).toNat * 6, none⟩ (.string (⟨#[]⟩ : ByteArray))).setCell ⟨go23, (x41_2 : Int).toNat * 6 + 1, none⟩ (.string (⟨#[]⟩ : ByteArray))).setCell ⟨go23, (x41_2 : Int).toNat * 6 + 2, none⟩ (.bool false)).setCell ⟨go23, (x41_2 : Int).toNat * 6 + 3, none⟩ (.string (⟨#[]⟩ : ByteArray))).setCell ⟨go23, (x41_2 : Int).toNat * 6 + 4, none⟩ (.int .i64 0)).setCell ⟨go23, (x41_2 : Int).toNat * 6 + 5, none⟩ (.int .i64 0))) ?hg ?ho ?hn ?hr ?_; (case ho => rfl); (case hg => rfl); (case hn => rfl); (case hr => first | (go_simp; done) | (go_simp; rfl)); intro w29 hw; have hg : w27.grownBy w29 (some go23) := (by rw [hw]; exact HP28.2); have hp_ : Kd.R k28 28 w29 w.heap.size (fun _ => True) (.slice (some ⟨go23, 0, none⟩) x9_2.length co23) y533 := (by rw [hw, Ny533.out]; exact HP28.1); clear HP28; replace HO532 := Aside0.mk (Kd.R_over' (v := (.slice (some ⟨go23, 0, none⟩) x9_2.length co23)) (ro HO532) (Kd.R_typed HO_9.out) (by decide) hg); replace HO_9 := Aside0.mk (hp_); replace HB := Aside0.mk ((by rw [hw]; exact below_set (below_set (below_set (below_set (below_set (below_set (HB.out) GB23.out) GB23.out) GB23.out) GB23.out) GB23.out) GB23.out : Below w.heap.size w w29)); clear hg hw hp_))
            replace HO_9 := Aside0.mk (Kd.R_drew HO_9.out)
            replace HO532 := Aside0.mk (Kd.R_drew HO532.out)
            replace HB := Aside0.mk (below_drew1 HB.out)
            have p534 : 0 ≤ (x41_2 : Int) := pos_
            have q534 : x41_2 < (y533.length : Int) := (by have h_ : (x41_2 : Int) < ((x9_2.length : Int) : Int) := pos_; first | (have e_ := (Kd.R_reads' HO_9.out).1; omega) | simpa only [Ny533.out, List.length_set] using h_)
            have ql534 : ((x41_2 : Int) < ((x9_2.length : Int) : Int)) = True := eq_true (pos_)
            obtain ⟨ad534, e534, hx534_0, hx534_1, hx534_2, hx534_3, hx534_4, hx534_5⟩ := at_T28 (Kd.R_reads' HO_9.out).2.2 x41_2 p534 q534
            obtain rfl : (⟨go23, 0, none⟩ : Addr) = ad534 := (by injection e534)
            (first | simp only [add_plain] at hx534_0 | simp only [add_at] at hx534_0 | simp only [Addr.add, Nat.zero_add] at hx534_0 | skip)
            (first | simp only [add_plain] at hx534_1 | simp only [add_at] at hx534_1 | simp only [Addr.add, Nat.zero_add] at hx534_1 | skip)
            (first | simp only [add_plain] at hx534_2 | simp only [add_at] at hx534_2 | simp only [Addr.add, Nat.zero_add] at hx534_2 | skip)
            (first | simp only [add_plain] at hx534_3 | simp only [add_at] at hx534_3 | simp only [Addr.add, Nat.zero_add] at hx534_3 | skip)
            (first | simp only [add_plain] at hx534_4 | simp only [add_at] at hx534_4 | simp only [Addr.add, Nat.zero_add] at hx534_4 | skip)
            (first | simp only [add_plain] at hx534_5 | simp only [add_at] at hx534_5 | simp only [Addr.add, Nat.zero_add] at hx534_5 | skip)
            replace p534 := eq_true p534
            replace q534 := eq_true q534
            refine start_ (n := 13) (S := fun w' => w'.cell? ⟨go23, (x41_2).toNat * 6, none⟩ = some (.string ((rd_T28 y533 x41_2).f0)) ∧ w'.cell? ⟨go23, (x41_2).toNat * 6 + 1, none⟩ = some (.string ((rd_T28 y533 x41_2).f1)) ∧ w'.cell? ⟨go23, (x41_2).toNat * 6 + 2, none⟩ = some (.bool ((rd_T28 y533 x41_2).f2)) ∧ w'.cell? ⟨go23, (x41_2).toNat * 6 + 3, none⟩ = some (.string ((rd_T28 y533 x41_2).f3)) ∧ w'.cell? ⟨go23, (x41_2).toNat * 6 + 4, none⟩ = some (.int .i64 ((rd_T28 y533 x41_2).f4)) ∧ w'.cell? ⟨go23, (x41_2).toNat * 6 + 5, none⟩ = some (.int .i64 ((rd_T28 y533 x41_2).f5))) (ds := [12]) #[false, false, false, false, false, false, false, false, false, false, false, false, false] (by kernel_rfl) rfl rfl ⟨hx534_0, hx534_1, hx534_2, hx534_3, hx534_4, hx534_5⟩ (fun hHeld => ?_); refine with_tabW hopmeshlaw49_InstallAgreed.tab10 hopmeshlaw49_InstallAgreed.bits10 (fun HT_ HW_ => ?_)
            generalize w29.drew = w30 at HO_9 HO532 HB hx534_0 hx534_1 hx534_2 hx534_3 hx534_4 hx534_5 hHeld ⊢
            refine pur 0 (some 53) #[true, false, false, false, false, false, false, false, false, false, false, false, false] HT_ ?_
            refine pur 1 (some 54) #[true, true, false, false, false, false, false, false, false, false, false, false, false] HT_ ?_
            refine pur 2 (some 55) #[true, true, true, false, false, false, false, false, false, false, false, false, false] HT_ ?_
            refine pur 3 (some 56) #[true, true, true, true, false, false, false, false, false, false, false, false, false] HT_ ?_
            refine pur 4 (some 57) #[true, true, true, true, true, false, false, false, false, false, false, false, false] HT_ ?_
            refine tak 5 (some 58) #[true, true, true, true, true, true, false, false, false, false, false, false, false] HT_ HW_ hHeld rfl (Or.inl ⟨by rfl, by rintro w' ⟨s0, s1, s2, s3, s4, s5⟩; go_simp; with_reducible rfl⟩) ?_
            refine one_ (i := 6) (N := some 59) #[true, true, true, true, true, true, true, false, false, false, false, false, false] rfl rfl (one_of HT_.out (by kernel_rfl)) (by decide) (fun K hK => ?_)
            refine goes_ Try.func11 (by kernel_rfl) rfl #[.string (⟨#[120]⟩ : ByteArray)] (by rfl) rfl rfl sma ?_
            with_reducible refine (hopmeshlaw49_id.calls (⟨#[120]⟩ : ByteArray) t535 _ A24.out).mono ?_
            rintro e w31 ⟨rfl, hb⟩
            have HS0_ := (hb.cell (World.block_lt_of_cell? _ _ (hHeld.1))).trans (hHeld.1)
            have HS1_ := (hb.cell (World.block_lt_of_cell? _ _ (hHeld.2.1))).trans (hHeld.2.1)
            have HS2_ := (hb.cell (World.block_lt_of_cell? _ _ (hHeld.2.2.1))).trans (hHeld.2.2.1)
            have HS3_ := (hb.cell (World.block_lt_of_cell? _ _ (hHeld.2.2.2.1))).trans (hHeld.2.2.2.1)
            have HS4_ := (hb.cell (World.block_lt_of_cell? _ _ (hHeld.2.2.2.2.1))).trans (hHeld.2.2.2.2.1)
            have HS5_ := (hb.cell (World.block_lt_of_cell? _ _ (hHeld.2.2.2.2.2))).trans (hHeld.2.2.2.2.2)
            refine ⟨_, rfl, ?_⟩
            replace HO_9 := rB HO_9 hb
            replace HO532 := rB HO532 hb
            replace HB := hbS HB hb
            (try clear hb)
            (try clear hk)
            refine hK.out _ _ ⟨HS0_, HS1_, HS2_, HS3_, HS4_, HS5_⟩ (fun hHeld => ?_)
            clear hK K
            refine nrm (some 59) ?_
            refine one_ (i := 7) (N := some 60) #[true, true, true, true, true, true, true, true, false, false, false, false, false] rfl rfl (one_of HT_.out (by kernel_rfl)) (by decide) (fun K hK => ?_)
            refine goes_ Try.func12 (by kernel_rfl) rfl #[.agg #[.string ((rd_T28 y533 x41_2).f0), .string ((rd_T28 y533 x41_2).f1), .bool ((rd_T28 y533 x41_2).f2), .string ((rd_T28 y533 x41_2).f3), .int .i64 ((rd_T28 y533 x41_2).f4), .int .i64 ((rd_T28 y533 x41_2).f5)], .string t535] (by rfl) rfl rfl sma ?_
            with_reducible refine (install_Complete.calls k2 ((rd_T28 y533 x41_2).f0) ((rd_T28 y533 x41_2).f1) ((rd_T28 y533 x41_2).f2) ((rd_T28 y533 x41_2).f3) ((rd_T28 y533 x41_2).f4) ((rd_T28 y533 x41_2).f5) t535 t536 t537 t538 t539 t540 t541 t542 _ A25.out).mono ?_
            rintro e w32 ⟨rfl, hb⟩
            have HS0_ := (hb.cell (World.block_lt_of_cell? _ _ (hHeld.1))).trans (hHeld.1)
            have HS1_ := (hb.cell (World.block_lt_of_cell? _ _ (hHeld.2.1))).trans (hHeld.2.1)
            have HS2_ := (hb.cell (World.block_lt_of_cell? _ _ (hHeld.2.2.1))).trans (hHeld.2.2.1)
            have HS3_ := (hb.cell (World.block_lt_of_cell? _ _ (hHeld.2.2.2.1))).trans (hHeld.2.2.2.1)
            have HS4_ := (hb.cell (World.block_lt_of_cell? _ _ (hHeld.2.2.2.2.1))).trans (hHeld.2.2.2.2.1)
            have HS5_ := (hb.cell (World.block_lt_of_cell? _ _ (hHeld.2.2.2.2.2))).trans (hHeld.2.2.2.2.2)
            refine ⟨_, rfl, ?_⟩
            replace HO_9 := rB HO_9 hb
            replace HO532 := rB HO532 hb
            replace HB := hbS HB hb
            (try clear hb)
            (try clear hk)
            have p26 : 0 ≤ (x41_2 : Int) := pos_
            have q26 : (x41_2 : Int) < ((x9_2.length : Int) : Int) := pos_
            obtain ⟨go_, co_, eo_, gb_, gl_, cl_, HG_⟩ := Kd.R_form HO_9.out (by have e_ := (Kd.R_reads' HO_9.out).1; omega)
            obtain rfl : go23 = go_ := Option.some.inj (show some go23 = some go_ from congrArg Value.ownBlock eo_)
            replace GG23 := Aside0.mk HG_
            clear eo_ gb_ gl_ HG_
            obtain ⟨ce26, hcl26, hM26, hcc26, hfr26⟩ := Kd.R_elem HO_9.out z28 (x41_2 : Int) p26 q26
            obtain rfl := k28_openM hM26
            have hx26_0 : World.cell? _ ⟨go23, (x41_2 : Int).toNat * 6, none⟩ = some (.string ((rd_T28 y533 x41_2).f0)) := hcc26 0 _ rfl
            have hx26_1 : World.cell? _ ⟨go23, (x41_2 : Int).toNat * 6 + 1, none⟩ = some (.string ((rd_T28 y533 x41_2).f1)) := hcc26 1 _ rfl
            have hx26_2 : World.cell? _ ⟨go23, (x41_2 : Int).toNat * 6 + 2, none⟩ = some (.bool ((rd_T28 y533 x41_2).f2)) := hcc26 2 _ rfl
            have hx26_3 : World.cell? _ ⟨go23, (x41_2 : Int).toNat * 6 + 3, none⟩ = some (.string ((rd_T28 y533 x41_2).f3)) := hcc26 3 _ rfl
            have hx26_4 : World.cell? _ ⟨go23, (x41_2 : Int).toNat * 6 + 4, none⟩ = some (.int .i64 ((rd_T28 y533 x41_2).f4)) := hcc26 4 _ rfl
            have hx26_5 : World.cell? _ ⟨go23, (x41_2 : Int).toNat * 6 + 5, none⟩ = some (.int .i64 ((rd_T28 y533 x41_2).f5)) := hcc26 5 _ rfl
            have hf26_0 : World.frozen? _ ⟨go23, (x41_2 : Int).toNat * 6, none⟩ = false := hfr26 0
            have hf26_1 : World.frozen? _ ⟨go23, (x41_2 : Int).toNat * 6 + 1, none⟩ = false := hfr26 1
            have hf26_2 : World.frozen? _ ⟨go23, (x41_2 : Int).toNat * 6 + 2, none⟩ = false := hfr26 2
            have hf26_3 : World.frozen? _ ⟨go23, (x41_2 : Int).toNat * 6 + 3, none⟩ = false := hfr26 3
            have hf26_4 : World.frozen? _ ⟨go23, (x41_2 : Int).toNat * 6 + 4, none⟩ = false := hfr26 4
            have hf26_5 : World.frozen? _ ⟨go23, (x41_2 : Int).toNat * 6 + 5, none⟩ = false := hfr26 5
            clear hcl26 hcc26 hfr26 hM26
            replace p26 := eq_true p26
            replace q26 := eq_true q26
            obtain ⟨ce33, hcl33, hM33, hcc33, hfr33⟩ := Kd.R_elem HO_9.out z28 (x41_2 : Int) (pos_) (by have h_ : (x41_2 : Int) < ((x9_2.length : Int) : Int) := pos_; first | exact h_ | (have e_ := (Kd.R_reads' HO_9.out).1; omega) | simpa using h_)
            obtain rfl := k28_openM hM33
            have HP33 := (Kd.R_seg HO_9.out (x41_2 : Int) (pos_) (by have h_ : (x41_2 : Int) < ((x9_2.length : Int) : Int) := pos_; first | exact h_ | (have e_ := (Kd.R_reads' HO_9.out).1; omega) | simpa using h_) (seg := [.string t536, .string t537, .bool t538, .string t539, .int .i64 t540, .int .i64 t541]) (j := 0) hcl33 hcc33 (show 6 ≤ 6 from by decide) (x' := (⟨t536, t537, t538, t539, t540, t541⟩ : S28)) (k28_mkM _ _ _ (⟨t536, t537, t538, t539, t540, t541⟩ : S28) ) (fun _ hk => hk)).1
            rw [← Ny543.out] at HP33
            have HQ33 := Aside0.mk HP33
            clear hcl33 hcc33 hfr33 hM33 HP33
            refine hK.out _ _ ⟨HS0_, HS1_, HS2_, HS3_, HS4_, HS5_⟩ (fun hHeld => ?_)
            clear hK K
            refine nrm (some 60) ?_
            refine pur 8 (some 52) #[true, true, true, true, true, true, true, true, true, false, false, false, false] HT_ ?_
            refine pur 9 (some 61) #[true, true, true, true, true, true, true, true, true, true, false, false, false] HT_ ?_
            refine pur 10 (some 62) #[true, true, true, true, true, true, true, true, true, true, true, false, false] HT_ ?_
            refine pur 11 (some 63) #[true, true, true, true, true, true, true, true, true, true, true, true, false] HT_ ?_
            refine last_ (i := 12) (N := none) #[true, true, true, true, true, true, true, true, true, true, true, true, true] rfl rfl (one_of HT_.out (by kernel_rfl)) (by decide) (fun K hK => ?_)
            refine skip_ (w1 := ?_) (by rfl) rfl ?_ ?_
            rotate_left
            ·go_simp
             rfl
            refine hK.out _ _ ?_
            clear hK K
            refine done_ (done_of HT_.out (by kernel_rfl)) ?_
            try go_wp2
            go_roundg k2
            case measure => have := HJ3.out; have := HK2.out; omega
            case rel => exact ⟨(y530), (y543), (wrap64 (x41_2 + 1)), rfs, H', ⟨by have := HJ3.out; have := HK2.out; omega⟩, ⟨by (with_reducible repeat (first | apply Kd.R_alloc | apply Kd.R_drewN | apply Kd.R_drew)); exact Kd.R_mono (Kd.R_far (p := ⟨go23, (x41_2 : Int).toNat * 6 + 5, none⟩) (Kd.R_far (p := ⟨go23, (x41_2 : Int).toNat * 6 + 4, none⟩) (Kd.R_far (p := ⟨go23, (x41_2 : Int).toNat * 6 + 3, none⟩) (Kd.R_far (p := ⟨go23, (x41_2 : Int).toNat * 6 + 2, none⟩) (Kd.R_far (p := ⟨go23, (x41_2 : Int).toNat * 6 + 1, none⟩) (Kd.R_far (p := ⟨go23, (x41_2 : Int).toNat * 6, none⟩) (Kd.R_types HO532.out GG23.out (by decide)) (fun _ hk => hk.2) (.string t536)) (fun _ hk => hk.2) (.string t537)) (fun _ hk => hk.2) (.bool t538)) (fun _ hk => hk.2) (.string t539)) (fun _ hk => hk.2) (.int .i64 t540)) (fun _ hk => hk.2) (.int .i64 t541)) (fun _ hk => trivial)⟩, ⟨by (with_reducible repeat (first | apply Kd.R_alloc | apply Kd.R_drewN | apply Kd.R_drew)); exact HQ33.out⟩, ⟨by repeat (first | (with_reducible first | exact HB.out | apply below_alloc | apply pw_below_drewN | apply below_drew1 | refine below_set ?_ GB23.out | refine below_set ?_ GB23.out | refine below_set ?_ GB23.out | refine below_set ?_ GB23.out | refine below_set ?_ GB23.out | refine below_set ?_ GB23.out) | exact HB.out)⟩⟩
           ·rw [if_neg c22] at H
            exact absurd H (by simp)
          ·rw [if_neg c21] at H
           exact absurd H (by simp)
         ·rw [if_neg c20] at H
          exact absurd H (by simp)
        ·rw [if_neg c19] at H
         have c19b0 : decide (x41_2 < ji14) = false := decide_eq_false c19
         clear c19
         replace H := Option.bind_eq_some_iff.mp H
         obtain ⟨t544, A340, H⟩ := H
         (try dsimp only at H)
         have A34 := Aside0.mk A340
         clear A340
         replace H := Option.bind_eq_some_iff.mp H
         obtain ⟨⟨t545, t546, t549, t552, t555, t556, t557⟩, A350, H⟩ := H
         (try dsimp only at H)
         have A35 := Aside0.mk A350
         clear A350
         have H' := Aside0.mk H
         clear H
         go_upto_region 12 with (fail)
         exact hopmeshlaw49_InstallAgreed.part12 _ _ _ _ _ _ _ _ _ _ _ _ _ _ _ _ _ _ _ _ _ _ _ _ _ _ _ _ _ _ _ _ _ _ _ _ _ _ _ _ _ _ _ _ _ _ _ _ _ _ _ _ _ _ _ _ _ _ _ _ _ _ _ _ _ _ _ _ _ _ _ _ _ _ _ _ _ _ _ _ _ _ _ _ _ _ _ _ _ _ _ _ _ _ _ _ _ _ _ _ _ _ _ _ _ _ _ _ _ _ _ _ _ _ _ _ _ _ _ _ _ _ _ _ _ _ _ _ _ _ _ _ _ _ _ _ _ _ _ _ _ _ _ _ _ _ _ _ _ _ _ _ _ _ _ _ _ _ _ _ _ _ _ _ _ _ _ _ _ _ _ _ _ _ _ _ _ _ _ _ _ _ _ _ _ _ _ _ _ _ _ _ _ _ _ _ _ _ _ _ _ _ _ _ _ _ _ _ _ _ HR2 HC2 HJ3 hji14 hji14w HO_8 HO_9 HB HK2 c19b0 A34 A35 H' _ _ _ ‹_› (by kernel_rfl)
     ·rw [if_neg c16] at H
      exact absurd H (by simp)
    ·rw [if_neg c15] at H
     exact absurd H (by simp)
end Go.Proofs.Ytdigplhjfjchnaa.PQ
