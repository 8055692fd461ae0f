-- Printed by fprint.py and zip.py, programs of this session's, over the kit's print; Lean checks it.
import Derived.Test.YtdigplhjfjchnaaZ0
import Derived.Test.YtdigplhjfjchnaaZf11
import Derived.Test.YtdigplhjfjchnaaZf12
import Derived.Test.YtdigplhjfjchnaaZf14
import Derived.Test.YtdigplhjfjchnaaZf15
import Derived.Test.YtdigplhjfjchnaaZf10
import Derived.Test.YtdigplhjfjchnaaZf17
import Derived.Test.YtdigplhjfjchnaaZT
import Derived.Test.YtdigplhjfjchnaaZf5d
import Derived.Test.YtdigplhjfjchnaaZC2
import Derived.Test.YtdigplhjfjchnaaZf5p14
namespace Go.Proofs.Ytdigplhjfjchnaa.PQ
open Go.RowKit Go.Proofs.YtdigplhjfjchnaaW.PrintWords Go.Proofs.YtdigplhjfjchnaaW.PrintLast Go.Proofs.YtdigplhjfjchnaaW.PrintMore
attribute [local go_sem] max2_int min2_int max_two min_two max_three min_three max_four min_four   -- for this text's walks alone
set_option linter.unusedVariables false
set_option linter.unusedSimpArgs false
def hopmeshlaw49_InstallTogether.T12 : Bool × List (List Nat × List Nat) := (true, [([], []), ([], []), ([], []), ([], []), ([], []), ([4], [4]), ([3, 5], [3, 5]), ([0, 1, 0, 1, 2, 6], [0, 1]), ([7, 2, 6, 0, 1, 2, 6], [2, 7]), ([6, 8, 0, 1, 2, 3, 4, 5, 6, 7, 8], [3, 6])])
def hopmeshlaw49_InstallTogether.B12 : List Nat := [0, 0, 0, 0, 0, 16, 56, 127, 255, 511]
theorem hopmeshlaw49_InstallTogether.tab12 : rtab .any (opsOf Try.f5 12) = hopmeshlaw49_InstallTogether.T12 := by kernel_rfl
theorem hopmeshlaw49_InstallTogether.bits12 : waitsOk hopmeshlaw49_InstallTogether.T12.2 hopmeshlaw49_InstallTogether.B12 = true := by kernel_rfl
set_option maxHeartbeats 8000000 in
set_option maxRecDepth 100000 in
theorem hopmeshlaw49_InstallTogether.calls (k : Nat) (a0 : Int) (a1 : Int) (A2 : Option Addr) (c2 : Nat) (l2 : List (S47)) (r : Bool) (w : World) (hr2 : Kd.C k47 w A2 l2.length l2) (hc2 : l2.length ≤ c2) (h : hopmeshlaw49_InstallTogether.f k a0 a1 l2 = some r) :
 Calls Try.prog 5 #[.int .u8 a0, .int .u8 a1, .slice A2 l2.length c2] w fun e w' => e = .returned (.bool r) ∧ Below w.heap.size w w' := by
 have hu28 := Try.underlying28
 have hu36 := Try.underlying36
 have HR2 := Aside0.mk hr2
 have HC2 := Aside0.mk hc2
 clear hr2 hc2
 have HB := Aside0.mk (Below.refl w.heap.size w)
 have H : ((hopmeshlaw49_awake.f k).bind fun t338 => (if t338 = true then (if (l2.length : Int) > 40 then (hopmeshlaw49_InstallTogether.j0 k a0 a1 l2 true) else (hopmeshlaw49_InstallTogether.j0 k a0 a1 l2 (a1 == 0))) else (hopmeshlaw49_InstallTogether.j0 k a0 a1 l2 true))) = some r := h
 clear h
 have HC4 := Aside0.mk H
 clear H
 go_enter Try.func5, Try.ntmps5
 go_upto_region 1 with (fail)
 go_cut [36] (fun v36 wc => ∃ (kq : Nat) (x36_3 : Bool), v36 = .bool x36_3 ∧ Aside0 (hopmeshlaw49_InstallTogether.j0 kq a0 a1 l2 x36_3 = some r) ∧ Aside0 (kq ≤ k) ∧ Aside0 (Below w.heap.size w wc))
 case first =>
  have H := HC4.out
  clear HC4
  replace H := Option.bind_eq_some_iff.mp H
  obtain ⟨t338, A50, H⟩ := H
  (try dsimp only at H)
  have A5 := Aside0.mk A50
  clear A50
  by_cases c6 : t338 = true
  ·subst c6
   rw [if_pos rfl] at H
   by_cases c7 : (l2.length : Int) > 40
   ·rw [if_pos c7] at H
    have c7b0 : decide (40 < (l2.length : Int)) = true := decide_eq_true c7
    have c7b1 : decide (40 < l2.length) = true := decide_eq_true (by omega)
    clear c7
    (first | rw [c7b0] | (simp only [i64_w, i32_w]; rw [c7b0]) | skip)
    have H' := Aside0.mk H
    clear H
    go_wp2_with (first | ((with_reducible refine gate_callee (f := 10) rfl ?_); refine goesL_ (some 26) rfl rfl Try.func10 (by kernel_rfl) rfl #[] rfl sma ?_; (with_reducible refine (hopmeshlaw49_awake.calls k  true _ A5.out).mono ?_); rintro e w8 ⟨rfl, hb⟩; refine ⟨_, rfl, ?_⟩; replace HB := hbS HB hb; (try clear hb); (try clear hb2); (try clear hk); (try clear hi)))
    go_meet
    case rel => exact ⟨_, (true), rfs, H', kle, hbA HB⟩
   ·rw [if_neg c7] at H
    have c7b0 : decide (40 < (l2.length : Int)) = false := decide_eq_false c7
    have c7b1 : decide (40 < l2.length) = false := decide_eq_false (by omega)
    clear c7
    (first | rw [c7b0] | (simp only [i64_w, i32_w]; rw [c7b0]) | skip)
    have H' := Aside0.mk H
    clear H
    go_wp2_with (first | ((with_reducible refine gate_callee (f := 10) rfl ?_); refine goesL_ (some 26) rfl rfl Try.func10 (by kernel_rfl) rfl #[] rfl sma ?_; (with_reducible refine (hopmeshlaw49_awake.calls k  true _ A5.out).mono ?_); rintro e w9 ⟨rfl, hb⟩; refine ⟨_, rfl, ?_⟩; replace HB := hbS HB hb; (try clear hb); (try clear hb2); (try clear hk); (try clear hi)))
    go_meet
    case rel => exact ⟨_, ((a1 == 0)), rfs, H', kle, hbA HB⟩
  ·replace c6 := Bool.eq_false_iff.mpr c6
   subst c6
   rw [if_neg (show ¬ (false = true) by decide)] at H
   have H' := Aside0.mk H
   clear H
   go_wp2_with (first | ((with_reducible refine gate_callee (f := 10) rfl ?_); refine goesL_ (some 26) rfl rfl Try.func10 (by kernel_rfl) rfl #[] rfl sma ?_; (with_reducible refine (hopmeshlaw49_awake.calls k  false _ A5.out).mono ?_); rintro e w10 ⟨rfl, hb⟩; refine ⟨_, rfl, ?_⟩; replace HB := hbS HB hb; (try clear hb); (try clear hb2); (try clear hk); (try clear hi)))
   go_meet
   case rel => exact ⟨_, (true), rfs, H', kle, hbA HB⟩
 case rest =>
  clear HC4
  try clear c2
  obtain ⟨kq, x36_3, rfl, HA, HJ3, HB⟩ := hcut
  cases kq with
  | zero => exact absurd HA.out (by simp [hopmeshlaw49_InstallTogether.j0])
  | succ kj3 =>
   have H := HA.out
   clear HA
   simp only [hopmeshlaw49_InstallTogether.j0] at H
   by_cases c11 : x36_3 = true
   ·subst c11
    rw [if_pos rfl] at H
    replace H := Option.bind_eq_some_iff.mp H
    obtain ⟨t339, A120, H⟩ := H
    (try dsimp only at H)
    have A12 := Aside0.mk A120
    clear A120
    obtain rfl := Option.some.inj H
    go_wp2_with (first | ((with_reducible refine gate_callee (f := 10) rfl ?_); refine goesL_ (some 37) rfl rfl Try.func10 (by kernel_rfl) rfl #[] rfl sma ?_; (with_reducible refine (hopmeshlaw49_awake.calls kj3  t339 _ A12.out).mono ?_); rintro e w13 ⟨rfl, hb⟩; refine ⟨_, rfl, ?_⟩; replace HB := hbS HB hb; (try clear hb); (try clear hb2); (try clear hk); (try clear hi)))
    go_ret
    exact ⟨rerr, hbx HB⟩
   ·replace c11 := Bool.eq_false_iff.mpr c11
    subst c11
    rw [if_neg (show ¬ (false = true) by decide)] at H
    obtain ⟨ji14, hji14⟩ : ∃ j_ : Int, (wrap64 (1 + (wrap64 (Int.tmod a0 8)))) = j_ := ⟨_, rfl⟩
    replace H : (if 0 ≤ (ji14) then (if (ji14 : Int).toNat ≤ 3909374676536 then (hopmeshlaw49_InstallTogether.l0 kj3 a1 l2 ji14 ([] : List Int) (List.replicate (ji14 : Int).toNat z28) ji14 0) else (none)) else (none)) = some r := by first | (rw [hji14] at H; exact H) | (simp only [hji14] at H ⊢; exact H)
    have hji14w : (IntKind.i64.wrap (1 + (wrap64 (Int.tmod a0 8)))) = ji14 := (i64_w _).trans hji14
    by_cases c15 : 0 ≤ (ji14)
    ·rw [if_pos c15] at H
     have c15b0 := eq_true c15
     have c15b1 : decide (0 ≤ (ji14)) = true := decide_eq_true c15
     clear c15
     by_cases c16 : (ji14 : Int).toNat ≤ 3909374676536
     ·rw [if_pos c16] at H
      have c16b0 := eq_true c16
      have c16b1 : decide ((ji14 : Int).toNat ≤ 3909374676536) = true := decide_eq_true c16
      clear c16
      obtain ⟨y340, hy340⟩ : ∃ y_ : List (S28), y_ = (List.replicate (ji14 : Int).toNat z28) := ⟨_, rfl⟩
      replace H : (hopmeshlaw49_InstallTogether.l0 kj3 a1 l2 ji14 ([] : List Int) y340 ji14 0) = some r := by first | (rw [hy340]; with_reducible exact H) | (have H2_ := (Option.bind_some _ _).symm.trans H; rw [hy340]; with_reducible exact H2_) | (have H2_ := (Option.bind_some _ _).symm.trans H; with_reducible exact H2_) | with_reducible exact H | (rw [hy340]; exact H) | exact H
      have Ny340 := Aside0.mk hy340
      clear hy340
      have H' := Aside0.mk H
      clear H
      go_wp2_with (first | ((with_reducible refine gate_dst (N := 43) rfl ?_); (try (refine gate_guard (by rfl) ?_; dsimp only)); refine Kd.R_make k28 _ 28 rfl (N := 43) rfl 44 _ _ rfl ji14 rfl rfl Try.underlying44 (.agg #[(.string ⟨#[]⟩), (.string ⟨#[]⟩), (.bool false), (.string ⟨#[]⟩), (.int .i64 0), (.int .i64 0)]) 72 info28 rfl (by decide) (by omega) z28 (ok := fun _ => True) (okp := fun _ => True) (k28_mkM _ _ _ z28 ) (fun _ hk => hk) trivial (pos_) (Nat.le_trans (Nat.mul_le_mul_right _ (pos_ : ji14.toNat ≤ 3909374676536)) (by omega)) (Below.refl _ _) (Nat.le_refl _) ?_; intro v341 w17 ho18 hb hg_ hnew_; clear hg_ hnew_; (first | rw [← Ny340.out] at ho18 | (simp only [Int.reduceToNat] at ho18; rw [← Ny340.out] at ho18)); have HO342 := Aside0.mk (Kd.R_lower ho18 (below_size (hbx HB))); replace HB := hbS HB hb; clear hb ho18))
      go_loopg [8, 45] kj3 (fun kq v8 v45 w' => ∃ (x8_2 : List Int) (x9_2 : List (S28)) (x45_2 : Int), v45 = .int .i64 x45_2 ∧ Aside0 (hopmeshlaw49_InstallTogether.l0 kq a1 l2 ji14 x8_2 x9_2 ji14 x45_2 = some r) ∧ Aside0 (kq ≤ kj3) ∧ Aside0 (Kd.R (Kd.int .i64) 3 w' w.heap.size (fun _ => True) v8 x8_2) ∧ Aside0 (Kd.R k28 28 w' w.heap.size (fun _ => True) v341 x9_2) ∧ Aside0 (Below w.heap.size w w'))
      case atStart => exact ⟨(([] : List Int)), (y340), (0), rfs, H', ⟨Nat.le_refl _⟩, ⟨rnil⟩, roA HO342, hbA HB⟩
      case round =>
       clear H'
       try clear c2
       try clear c11
       try clear c15
       try clear c15b0
       try clear c15b1
       try clear c16
       try clear c16b0
       try clear c16b1
       obtain ⟨x8_2, x9_2, x45_2, rfl, HA, HK2, HO_8, HO_9, HB⟩ := hrel
       cases gk with
       | zero => exact absurd HA.out (by simp [hopmeshlaw49_InstallTogether.l0])
       | succ k2 =>
        have H := HA.out
        clear HA
        simp only [hopmeshlaw49_InstallTogether.l0] at H
        by_cases c19 : x45_2 < ji14
        ·rw [if_pos c19] at H
         have c19b0 : decide (x45_2 < ji14) = true := decide_eq_true c19
         clear c19
         replace H := Option.bind_eq_some_iff.mp H
         obtain ⟨t343, A200, H⟩ := H
         (try dsimp only at H)
         have A20 := Aside0.mk A200
         clear A200
         replace H := Option.bind_eq_some_iff.mp H
         obtain ⟨t344, A210, H⟩ := H
         (try dsimp only at H)
         have A21 := Aside0.mk A210
         clear A210
         replace H := Option.bind_eq_some_iff.mp H
         obtain ⟨⟨t345, t346, t347, t348, t349, t350, t351⟩, A220, H⟩ := H
         (try dsimp only at H)
         have A22 := Aside0.mk A220
         clear A220
         by_cases c23 : t351 = 0
         ·rw [if_pos c23] at H
          have c23b0 : (t351 == 0) = true := beq_iff_eq.mpr c23
          have c23b1 : (t351 != 0) = false := bne_eq_false_iff_eq.mpr c23
          clear c23
          by_cases c24 : x8_2.length < 17592186044416
          ·rw [if_pos c24] at H
           have LMc24 := Aside0.mk c24
           clear c24
           obtain ⟨y353, hy353⟩ : ∃ y_ : List Int, y_ = (x8_2 ++ [x45_2]) := ⟨_, rfl⟩
           replace H : (if 0 ≤ x45_2 then (if x45_2 < (x9_2.length : Int) then (hopmeshlaw49_InstallTogether.l0 k2 a1 l2 ji14 y353 (x9_2.set (x45_2 : Int).toNat (⟨t345, t346, t347, t348, t349, t350⟩ : S28)) ji14 (wrap64 (x45_2 + 1))) else (none)) else (none)) = some r := by first | (rw [hy353]; with_reducible exact H) | (have H2_ := (Option.bind_some _ _).symm.trans H; rw [hy353]; with_reducible exact H2_) | (have H2_ := (Option.bind_some _ _).symm.trans H; with_reducible exact H2_) | with_reducible exact H | (rw [hy353]; exact H) | exact H
           have Ny353 := Aside0.mk hy353
           clear hy353
           by_cases c25 : 0 ≤ x45_2
           ·rw [if_pos c25] at H
            have c25b0 : decide (0 ≤ x45_2) = true := decide_eq_true c25
            clear c25
            by_cases c26 : x45_2 < (x9_2.length : Int)
            ·rw [if_pos c26] at H
             have c26b0 : decide (x45_2 < (x9_2.length : Int)) = true := decide_eq_true c26
             clear c26
             obtain ⟨y356, hy356⟩ : ∃ y_ : List (S28), y_ = (x9_2.set (x45_2 : Int).toNat (⟨t345, t346, t347, t348, t349, t350⟩ : S28)) := ⟨_, rfl⟩
             replace H : (hopmeshlaw49_InstallTogether.l0 k2 a1 l2 ji14 y353 y356 ji14 (wrap64 (x45_2 + 1))) = some r := by first | (rw [hy356]; with_reducible exact H) | (have H2_ := (Option.bind_some _ _).symm.trans H; rw [hy356]; with_reducible exact H2_) | (have H2_ := (Option.bind_some _ _).symm.trans H; with_reducible exact H2_) | with_reducible exact H | (rw [hy356]; exact H) | exact H
             have Ny356 := Aside0.mk hy356
             clear hy356
             have H' := Aside0.mk H
             clear H
             try go_wp2_with (first | ((with_reducible refine gate_callee (f := 11) rfl ?_); refine goesL_ (some 49) rfl rfl Try.func11 (by kernel_rfl) rfl #[.string (⟨#[111]⟩ : ByteArray)] rfl sma ?_; (with_reducible refine (hopmeshlaw49_id.calls (⟨#[111]⟩ : ByteArray) t343 _ A20.out).mono ?_); rintro e w28 ⟨rfl, hb⟩; refine ⟨_, rfl, ?_⟩; replace HO_8 := rB HO_8 hb; replace HO_9 := rB HO_9 hb; replace HB := hbS HB hb; (try clear hb); (try clear hb2); (try clear hk); (try clear hi)) | ((with_reducible refine gate_callee (f := 11) rfl ?_); refine goesL_ (some 51) rfl rfl Try.func11 (by kernel_rfl) rfl #[.string (⟨#[120]⟩ : ByteArray)] rfl sma ?_; (with_reducible refine (hopmeshlaw49_id.calls (⟨#[120]⟩ : ByteArray) t344 _ A21.out).mono ?_); rintro e w29 ⟨rfl, hb⟩; refine ⟨_, rfl, ?_⟩; replace HO_8 := rB HO_8 hb; replace HO_9 := rB HO_9 hb; replace HB := hbS HB hb; (try clear hb); (try clear hb2); (try clear hk); (try clear hi)) | ((with_reducible refine gate_callee (f := 12) rfl ?_); refine goesL_ (some 52) rfl rfl Try.func12 (by kernel_rfl) rfl #[.agg #[.string t343, .string (⟨#[]⟩ : ByteArray), .bool false, .string (⟨#[]⟩ : ByteArray), .int .i64 0, .int .i64 0], .string t344] rfl sma ?_; (with_reducible refine (install_Complete.calls k2 t343 (⟨#[]⟩ : ByteArray) false (⟨#[]⟩ : ByteArray) 0 0 t344 t345 t346 t347 t348 t349 t350 t351 _ A22.out).mono ?_); rintro e w30 ⟨rfl, hb⟩; refine ⟨_, rfl, ?_⟩; replace HO_8 := rB HO_8 hb; replace HO_9 := rB HO_9 hb; replace HB := hbS HB hb; (try clear hb); (try clear hb2); (try clear hk); (try clear hi)) | ((with_reducible refine gate_dst (N := 11) rfl ?_); (try (refine gate_guard (by rfl) ?_; dsimp only)); refine boxE 11 #[.string (⟨#[]⟩ : ByteArray), .string (⟨#[]⟩ : ByteArray), .bool false, .string (⟨#[]⟩ : ByteArray), .int .i64 0, .int .i64 0] 28 ?_; intro gb352 hg w31 hbox hb; replace HO_8 := rB HO_8 hb; replace HO_9 := Aside0.mk (Kd.R_below (Kd.R_elderB (ro HO_9) gb352 (Nat.le_of_eq hg.symm)) hb); have BK352 := Aside0.mk (hbox); have GW352 := gw hg HB; have GE352 := gw hg HB; replace HB := hbS HB hb; clear hb hbox hg; obtain ⟨z0, z1, z2, z3, z4, z5, y0, y1, y2, y3, y4, y5⟩ := bc6 BK352))
             have n0_ : Aside0 (Kd.R (Kd.int .i64) 3 ((((((w31.setCell ⟨gb352, 0, none⟩ (.string t345)).setCell ⟨gb352, 1, none⟩ (.string t346)).setCell ⟨gb352, 2, none⟩ (.bool t347)).setCell ⟨gb352, 3, none⟩ (.string t348)).setCell ⟨gb352, 4, none⟩ (.int .i64 t349)).setCell ⟨gb352, 5, none⟩ (.int .i64 t350)) w.heap.size (fun _ => True) u8 x8_2) := ⟨Kd.R_mono (rty (rfo HO_8) BK352) (fun _ hk => trivial)⟩
             have n1_ : Aside0 (Kd.R k28 28 ((((((w31.setCell ⟨gb352, 0, none⟩ (.string t345)).setCell ⟨gb352, 1, none⟩ (.string t346)).setCell ⟨gb352, 2, none⟩ (.bool t347)).setCell ⟨gb352, 3, none⟩ (.string t348)).setCell ⟨gb352, 4, none⟩ (.int .i64 t349)).setCell ⟨gb352, 5, none⟩ (.int .i64 t350)) w.heap.size (fun k_ => k_ ≠ gb352) v341 x9_2) := ⟨by (with_reducible repeat (first | apply Kd.R_alloc | apply Kd.R_drewN | apply Kd.R_drew)); exact Kd.R_mono (Kd.R_far (p := ⟨gb352, 5, none⟩) (Kd.R_far (p := ⟨gb352, 4, none⟩) (Kd.R_far (p := ⟨gb352, 3, none⟩) (Kd.R_far (p := ⟨gb352, 2, none⟩) (Kd.R_far (p := ⟨gb352, 1, none⟩) (Kd.R_far (p := ⟨gb352, 0, none⟩) (Kd.R_mono HO_9.out (fun k_ hk => (⟨hk, hk.2⟩ : _ ∧ k_ ≠ gb352))) (fun _ hk => hk.2) (.string t345)) (fun _ hk => hk.2) (.string t346)) (fun _ hk => hk.2) (.bool t347)) (fun _ hk => hk.2) (.string t348)) (fun _ hk => hk.2) (.int .i64 t349)) (fun _ hk => hk.2) (.int .i64 t350)) (fun _ hk => hk.1.2)⟩
             have n2_ : Aside0 (((((((w31.setCell ⟨gb352, 0, none⟩ (.string t345)).setCell ⟨gb352, 1, none⟩ (.string t346)).setCell ⟨gb352, 2, none⟩ (.bool t347)).setCell ⟨gb352, 3, none⟩ (.string t348)).setCell ⟨gb352, 4, none⟩ (.int .i64 t349)).setCell ⟨gb352, 5, none⟩ (.int .i64 t350)).heap[gb352]? = some (.cells #[.string t345, .string t346, .bool t347, .string t348, .int .i64 t349, .int .i64 t350] 28 (0, 0))) := bkpA BK352
             have n3_ : Aside0 (Below w.heap.size w ((((((w31.setCell ⟨gb352, 0, none⟩ (.string t345)).setCell ⟨gb352, 1, none⟩ (.string t346)).setCell ⟨gb352, 2, none⟩ (.bool t347)).setCell ⟨gb352, 3, none⟩ (.string t348)).setCell ⟨gb352, 4, none⟩ (.int .i64 t349)).setCell ⟨gb352, 5, none⟩ (.int .i64 t350))) := hbA HB
             (try clear HO_8)
             (try clear HO_9)
             (try clear BK352)
             (try clear HB)
             generalize ((((((w31.setCell ⟨gb352, 0, none⟩ (.string t345)).setCell ⟨gb352, 1, none⟩ (.string t346)).setCell ⟨gb352, 2, none⟩ (.bool t347)).setCell ⟨gb352, 3, none⟩ (.string t348)).setCell ⟨gb352, 4, none⟩ (.int .i64 t349)).setCell ⟨gb352, 5, none⟩ (.int .i64 t350)) = w33 at n0_ n1_ n2_ n3_ ⊢
             have HO_8 := n0_
             have HO_9 := n1_
             have BK352 := n2_
             have HB := n3_
             clear n0_ n1_ n2_ n3_
             replace HO_8 := Aside0.mk (Kd.R_drew HO_8.out)
             replace HO_9 := Aside0.mk (Kd.R_drew HO_9.out)
             replace BK352 := Aside0.mk (blk_drew BK352.out)
             replace HB := Aside0.mk (below_drew1 HB.out)
             refine start_ (n := 10) (S := fun w' => w'.cell? ⟨gb352, 0, none⟩ = some (.string t345) ∧ w'.cell? ⟨gb352, 1, none⟩ = some (.string t346) ∧ w'.cell? ⟨gb352, 2, none⟩ = some (.bool t347) ∧ w'.cell? ⟨gb352, 3, none⟩ = some (.string t348) ∧ w'.cell? ⟨gb352, 4, none⟩ = some (.int .i64 t349) ∧ w'.cell? ⟨gb352, 5, none⟩ = some (.int .i64 t350)) (ds := [8]) #[false, false, false, false, false, false, false, false, false, false] (by kernel_rfl) rfl rfl ⟨(blk_cell BK352.out 0).trans rfl, (blk_cell BK352.out 1).trans rfl, (blk_cell BK352.out 2).trans rfl, (blk_cell BK352.out 3).trans rfl, (blk_cell BK352.out 4).trans rfl, (blk_cell BK352.out 5).trans rfl⟩ (fun hHeld => ?_); refine with_tabW hopmeshlaw49_InstallTogether.tab12 hopmeshlaw49_InstallTogether.bits12 (fun HT_ HW_ => ?_)
             generalize w33.drew = w34 at HO_8 HO_9 BK352 HB hHeld ⊢
             refine pur 0 (some 57) #[true, false, false, false, false, false, false, false, false, false] HT_ ?_
             refine pur 1 (some 58) #[true, true, false, false, false, false, false, false, false, false] HT_ ?_
             refine pur 3 (some 60) #[true, true, false, true, false, false, false, false, false, false] HT_ ?_
             refine pur 4 (some 61) #[true, true, false, true, true, false, false, false, false, false] HT_ ?_
             refine tak 2 (some 59) #[true, true, true, true, true, false, false, false, false, false] HT_ HW_ hHeld rfl (Or.inl ⟨by rfl, by rintro w' ⟨s0, s1, s2, s3, s4, s5⟩; go_simp; with_reducible rfl⟩) ?_
             refine one_ (i := 5) (N := some 62) #[true, true, true, true, true, true, false, false, false, false] rfl rfl (one_of HT_.out (by kernel_rfl)) (by decide) (fun K hK => ?_)
             refine value_ (w1 := ?_) (v := ?_) (by rfl) rfl ?_ ?_
             rotate_left 2
             ·go_simp
              constructor
              ·rfl
              ·rfl
             refine hK.out _ _ ⟨(blk_cell (blk_alloc BK352.out _) 0).trans rfl, (blk_cell (blk_alloc BK352.out _) 1).trans rfl, (blk_cell (blk_alloc BK352.out _) 2).trans rfl, (blk_cell (blk_alloc BK352.out _) 3).trans rfl, (blk_cell (blk_alloc BK352.out _) 4).trans rfl, (blk_cell (blk_alloc BK352.out _) 5).trans rfl⟩ (fun hHeld => ?_)
             clear hK K
             refine nrm (some 62) ?_
             refine one_ (i := 6) (N := some 63) #[true, true, true, true, true, true, true, false, false, false] rfl rfl (one_of HT_.out (by kernel_rfl)) (by decide) (fun K hK => ?_)
             refine Kd.R_append_step (Kd.int .i64) (w0 := w) w.heap.size (by rfl) (.tmp 60) (.tmp 62) 34 3 (.int .i64 0) 8 rfl Try.underlying34 info3 rfl (by decide) (by omega) u8 x8_2 x45_2 [.int .i64 x45_2] (fun _ => True) (fun _ => False) rfl rfl ?aP (fun _ hk => hk.elim) ?aF ?aO ?aB ?aS ?aL ?_
             (case aP => exact rfl)
             (case aB => exact (hbx HB))
             (case aF => exact (fun _ _ => trivial))
             (case aO => exact (ro HO_8))
             (case aS => exact (below_size (hbx HB)))
             (case aL => have := LMc24.out; omega)
             intro v354 w35 ho hb hg hat
             rw [← Ny353.out] at ho
             replace HO_9 := Aside0.mk (Kd.R_over' (ro HO_9) (Kd.R_typed (ro HO_8)) (by decide) hg)
             replace BK352 := Aside0.mk (blk_grown (bk BK352) hg (Kd.R_ne HO_8.out BK352.out (by decide)))
             replace HB := Aside0.mk (hb)
             have HO355 := Aside0.mk (ho)
             clear HO_8
             clear ho hb hg hat
             have p27 : 0 ≤ (x45_2 : Int) := pos_
             have q27 : (x45_2 : Int) < ((x9_2.length : Int) : Int) := pos_
             obtain ⟨go27, co27, eo27, gb27, gl27, cl27, HG27⟩ := Kd.R_form HO_9.out (by omega)
             (first | cases eo27 | (injection eo27 with ea_ en_ ec_; (first | subst ea_ | (injection ea_ with ea_; subst ea_)); subst ec_; clear en_))
             have GB27 := Aside0.mk gb27
             have GG27 := Aside0.mk HG27
             clear gb27 gl27 HG27
             obtain ⟨ce27, hcl27, hM27, hcc27, hfr27⟩ := Kd.R_elem HO_9.out z28 (x45_2 : Int) p27 q27
             obtain rfl := k28_openM hM27
             have hx27_0 : World.cell? _ ⟨go27, (x45_2 : Int).toNat * 6, none⟩ = some (.string ((rd_T28 x9_2 x45_2).f0)) := hcc27 0 _ rfl
             have hx27_1 : World.cell? _ ⟨go27, (x45_2 : Int).toNat * 6 + 1, none⟩ = some (.string ((rd_T28 x9_2 x45_2).f1)) := hcc27 1 _ rfl
             have hx27_2 : World.cell? _ ⟨go27, (x45_2 : Int).toNat * 6 + 2, none⟩ = some (.bool ((rd_T28 x9_2 x45_2).f2)) := hcc27 2 _ rfl
             have hx27_3 : World.cell? _ ⟨go27, (x45_2 : Int).toNat * 6 + 3, none⟩ = some (.string ((rd_T28 x9_2 x45_2).f3)) := hcc27 3 _ rfl
             have hx27_4 : World.cell? _ ⟨go27, (x45_2 : Int).toNat * 6 + 4, none⟩ = some (.int .i64 ((rd_T28 x9_2 x45_2).f4)) := hcc27 4 _ rfl
             have hx27_5 : World.cell? _ ⟨go27, (x45_2 : Int).toNat * 6 + 5, none⟩ = some (.int .i64 ((rd_T28 x9_2 x45_2).f5)) := hcc27 5 _ rfl
             have hf27_0 : World.frozen? _ ⟨go27, (x45_2 : Int).toNat * 6, none⟩ = false := hfr27 0
             have hf27_1 : World.frozen? _ ⟨go27, (x45_2 : Int).toNat * 6 + 1, none⟩ = false := hfr27 1
             have hf27_2 : World.frozen? _ ⟨go27, (x45_2 : Int).toNat * 6 + 2, none⟩ = false := hfr27 2
             have hf27_3 : World.frozen? _ ⟨go27, (x45_2 : Int).toNat * 6 + 3, none⟩ = false := hfr27 3
             have hf27_4 : World.frozen? _ ⟨go27, (x45_2 : Int).toNat * 6 + 4, none⟩ = false := hfr27 4
             have hf27_5 : World.frozen? _ ⟨go27, (x45_2 : Int).toNat * 6 + 5, none⟩ = false := hfr27 5
             clear hcl27 hcc27 hfr27 hM27
             replace p27 := eq_true p27
             replace q27 := eq_true q27
             obtain ⟨ce36, hcl36, hM36, hcc36, hfr36⟩ := Kd.R_elem HO_9.out z28 (x45_2 : Int) (pos_) (by have h_ : (x45_2 : Int) < ((x9_2.length : Int) : Int) := pos_; first | exact h_ | (have e_ := (Kd.R_reads' HO_9.out).1; omega) | simpa using h_)
             obtain rfl := k28_openM hM36
             have HP36 := (Kd.R_seg HO_9.out (x45_2 : Int) (pos_) (by have h_ : (x45_2 : Int) < ((x9_2.length : Int) : Int) := pos_; first | exact h_ | (have e_ := (Kd.R_reads' HO_9.out).1; omega) | simpa using h_) (seg := [.string t345, .string t346, .bool t347, .string t348, .int .i64 t349, .int .i64 t350]) (j := 0) hcl36 hcc36 (show 6 ≤ 6 from by decide) (x' := (⟨t345, t346, t347, t348, t349, t350⟩ : S28)) (k28_mkM _ _ _ (⟨t345, t346, t347, t348, t349, t350⟩ : S28) ) (fun _ hk => hk)).1
             rw [← Ny356.out] at HP36
             have HQ36 := Aside0.mk HP36
             clear hcl36 hcc36 hfr36 hM36 HP36
             refine hK.out _ _ ⟨(blk_cell BK352.out 0).trans rfl, (blk_cell BK352.out 1).trans rfl, (blk_cell BK352.out 2).trans rfl, (blk_cell BK352.out 3).trans rfl, (blk_cell BK352.out 4).trans rfl, (blk_cell BK352.out 5).trans rfl⟩ (fun hHeld => ?_)
             clear hK K
             refine nrm (some 63) ?_
             refine pur 7 (some 64) #[true, true, true, true, true, true, true, true, false, false] HT_ ?_
             refine last_ (i := 8) (N := none) #[true, true, true, true, true, true, true, true, true, false] rfl rfl (one_of HT_.out (by kernel_rfl)) (by decide) (fun K hK => ?_)
             refine skip_ (w1 := ?_) (by rfl) rfl ?_ ?_
             rotate_left
             ·go_simp
              rfl
             refine hK.out _ _ ?_
             clear hK K
             refine pur 9 (some 8) #[true, true, true, true, true, true, true, true, true, true] HT_ ?_
             refine done_ (done_of HT_.out (by kernel_rfl)) ?_
             try go_wp2
             go_roundg k2
             case measure => have := HJ3.out; have := HK2.out; omega
             case rel => exact ⟨(y353), (y356), (wrap64 (x45_2 + 1)), rfs, H', ⟨by have := HJ3.out; have := HK2.out; omega⟩, ⟨by (with_reducible repeat (first | apply Kd.R_alloc | apply Kd.R_drewN | apply Kd.R_drew)); exact Kd.R_mono (Kd.R_far (p := ⟨go27, (x45_2 : Int).toNat * 6 + 5, none⟩) (Kd.R_far (p := ⟨go27, (x45_2 : Int).toNat * 6 + 4, none⟩) (Kd.R_far (p := ⟨go27, (x45_2 : Int).toNat * 6 + 3, none⟩) (Kd.R_far (p := ⟨go27, (x45_2 : Int).toNat * 6 + 2, none⟩) (Kd.R_far (p := ⟨go27, (x45_2 : Int).toNat * 6 + 1, none⟩) (Kd.R_far (p := ⟨go27, (x45_2 : Int).toNat * 6, none⟩) (Kd.R_types HO355.out GG27.out (by decide)) (fun _ hk => hk.2) (.string t345)) (fun _ hk => hk.2) (.string t346)) (fun _ hk => hk.2) (.bool t347)) (fun _ hk => hk.2) (.string t348)) (fun _ hk => hk.2) (.int .i64 t349)) (fun _ hk => hk.2) (.int .i64 t350)) (fun _ hk => trivial)⟩, ⟨by (with_reducible repeat (first | apply Kd.R_alloc | apply Kd.R_drewN | apply Kd.R_drew)); exact Kd.R_mono HQ36.out (fun _ hk => trivial)⟩, ⟨by repeat (first | (with_reducible first | exact HB.out | apply below_alloc | apply pw_below_drewN | apply below_drew1 | refine below_set ?_ GB27.out | refine below_set ?_ GB27.out | refine below_set ?_ GB27.out | refine below_set ?_ GB27.out | refine below_set ?_ GB27.out | refine below_set ?_ GB27.out | refine below_set ?_ GE352.out) | exact HB.out)⟩⟩
            ·rw [if_neg c26] at H
             exact absurd H (by simp)
           ·rw [if_neg c25] at H
            exact absurd H (by simp)
          ·rw [if_neg c24] at H
           exact absurd H (by simp)
         ·rw [if_neg c23] at H
          exact absurd H (by simp)
        ·rw [if_neg c19] at H
         have c19b0 : decide (x45_2 < ji14) = false := decide_eq_false c19
         clear c19
         replace H := Option.bind_eq_some_iff.mp H
         obtain ⟨t357, A370, H⟩ := H
         (try dsimp only at H)
         have A37 := Aside0.mk A370
         clear A370
         by_cases c38 : 0 ≤ ji14
         ·rw [if_pos c38] at H
          have c38b0 := eq_true c38
          have c38b1 : decide (0 ≤ ji14) = true := decide_eq_true c38
          clear c38
          by_cases c39 : (ji14 : Int).toNat ≤ 281474976710656
          ·rw [if_pos c39] at H
           have c39b0 := eq_true c39
           have c39b1 : decide ((ji14 : Int).toNat ≤ 281474976710656) = true := decide_eq_true c39
           clear c39
           obtain ⟨y359, hy359⟩ : ∃ y_ : List Bool, y_ = (List.replicate (ji14 : Int).toNat false) := ⟨_, rfl⟩
           replace H : ((hopmeshlaw49_order.f k2 l2).bind fun t362 => (hopmeshlaw49_InstallTogether.l1 k2 a1 ji14 x9_2 y359 t362 0 1 1 (wrap64 (a1)) t357 x8_2)) = some r := by first | (rw [hy359]; with_reducible exact H) | (have H2_ := (Option.bind_some _ _).symm.trans H; rw [hy359]; with_reducible exact H2_) | (have H2_ := (Option.bind_some _ _).symm.trans H; with_reducible exact H2_) | with_reducible exact H | (rw [hy359]; exact H) | exact H
           have Ny359 := Aside0.mk hy359
           clear hy359
           replace H := Option.bind_eq_some_iff.mp H
           obtain ⟨t362, A400, H⟩ := H
           (try dsimp only at H)
           have A40 := Aside0.mk A400
           clear A400
           have H' := Aside0.mk H
           clear H
           go_upto_region 14 with (fail)
           exact hopmeshlaw49_InstallTogether.part14 _ _ _ _ _ _ _ _ _ _ _ _ _ _ _ _ _ _ _ _ _ _ _ _ _ _ _ _ _ _ _ _ _ _ _ _ _ _ _ _ _ _ _ _ _ _ _ _ _ _ _ _ _ _ _ _ _ _ _ _ _ _ _ _ _ _ _ _ _ _ _ _ _ _ _ _ _ _ _ _ _ _ _ _ _ _ _ _ _ _ _ _ _ _ _ _ _ _ _ _ _ _ _ _ _ _ _ _ _ _ _ _ _ _ _ _ _ _ _ _ _ _ _ _ _ _ _ _ _ _ _ _ _ _ _ _ _ _ _ _ _ _ _ _ _ _ _ _ _ _ _ _ _ _ _ _ _ _ _ _ _ _ _ _ _ _ _ _ _ _ _ _ _ _ HR2 HC2 HJ3 hji14 hji14w HO_8 HO_9 HB HK2 c19b0 A37 c38b0 c38b1 c39b0 c39b1 Ny359 A40 H' _ _ _ ‹_› (by kernel_rfl) (by kernel_rfl)
          ·rw [if_neg c39] at H
           exact absurd H (by simp)
         ·rw [if_neg c38] at H
          exact absurd H (by simp)
     ·rw [if_neg c16] at H
      exact absurd H (by simp)
    ·rw [if_neg c15] at H
     exact absurd H (by simp)
end Go.Proofs.Ytdigplhjfjchnaa.PQ
