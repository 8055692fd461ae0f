-- Printed by fprint.py and zip.py, programs of this session's, over the kit's print; Lean checks it.
import Derived.Test.YtnipgplobipeeaaZ0
import Derived.Test.YtnipgplobipeeaaZf15
import Derived.Test.YtnipgplobipeeaaZf17
import Derived.Test.YtnipgplobipeeaaZf20
import Derived.Test.YtnipgplobipeeaaZf22
import Derived.Test.YtnipgplobipeeaaZf31
import Derived.Test.YtnipgplobipeeaaZf40
namespace Go.Proofs.Ytnipgplobipeeaa.PQ
open Go.RowKit Go.Proofs.YtnipgplobipeeaaW.PrintWords Go.Proofs.YtnipgplobipeeaaW.PrintLast Go.Proofs.YtnipgplobipeeaaW.PrintMore
attribute [local go_sem] max2_int min2_int max_two min_two max_three min_three max_four min_four   -- for this text's walks alone
set_option linter.unusedVariables false
set_option linter.unusedSimpArgs false
def hopmeshlaw12_awake.j0 : Nat → Bool → Int → List (S34) → List Int → List Int → Option (Bool)
 | 0, _, _, _, _, _ => none
 | k + 1, x52, x222000, x222001, x222002, x222003 => if x52 = true then (none) else (if 5 < (x222001.length : Int) then ((quality_Close.f k x222000 (x222001.set (5 : Int).toNat (⟨4, 1⟩ : S34)) x222002 x222003 4 500 900 2).bind fun bt223 => ((quality_Black.f k bt223.1 bt223.2.1 bt223.2.2.1 bt223.2.2.2.1).bind fun bt235 => (if bt223.2.2.2.2 = 0 then (if bt235.2 = 0 then (if bt223.1 = 1 then (if (bt223.2.2.1.length : Int) = 16 then (if (bt223.2.2.2.1.length : Int) = 16 then (if 5 < (bt223.2.2.1.length : Int) then (if (rd bt223.2.2.1 5) = 2 then (if 5 < (bt223.2.2.2.1.length : Int) then (if (rd bt223.2.2.2.1 5) = 1 then ((slices_Equal_int_int.f k bt235.1 (([5] : List Int))).bind fun t244 => (some t244)) else (none)) else (none)) else (none)) else (none)) else (none)) else (none)) else (none)) else (none)) else (none)))) else (none))
def hopmeshlaw12_awake.f (k : Nat)  : Option (Bool) := (quality_Rate.f 4 3).bind fun bt207 => ((quality_Cost.f 4 3).bind fun bt209 => ((quality_New.f).bind fun bt211 => (if (bt211.2.1.length : Int) = 16 then (if (bt211.2.2.1.length : Int) = 16 then (if (bt211.2.2.2.length : Int) = 16 then (if bt207.2 = 0 then (if bt209.2 = 0 then (if bt207.1 = 750 then (hopmeshlaw12_awake.j0 k (bt209.1 != 170) bt211.1 bt211.2.1 bt211.2.2.1 bt211.2.2.2) else (hopmeshlaw12_awake.j0 k true bt211.1 bt211.2.1 bt211.2.2.1 bt211.2.2.2)) else (hopmeshlaw12_awake.j0 k true bt211.1 bt211.2.1 bt211.2.2.1 bt211.2.2.2)) else (hopmeshlaw12_awake.j0 k true bt211.1 bt211.2.1 bt211.2.2.1 bt211.2.2.2)) else (hopmeshlaw12_awake.j0 k true bt211.1 bt211.2.1 bt211.2.2.1 bt211.2.2.2)) else (hopmeshlaw12_awake.j0 k true bt211.1 bt211.2.1 bt211.2.2.1 bt211.2.2.2)) else (hopmeshlaw12_awake.j0 k true bt211.1 bt211.2.1 bt211.2.2.1 bt211.2.2.2))))
theorem hopmeshlaw12_awake.mono_l : ∀ k, (∀ y0 y1 y2 y3 y4, LeO (hopmeshlaw12_awake.j0 k y0 y1 y2 y3 y4) (hopmeshlaw12_awake.j0 (k + 1) y0 y1 y2 y3 y4))
 | 0 => fun _ _ _ _ _ r h => by simp [hopmeshlaw12_awake.j0] at h
 | k + 1 => by
  have ih0 := hopmeshlaw12_awake.mono_l k
  ·intro y0 y1 y2 y3 y4
   unfold hopmeshlaw12_awake.j0
   repeat' first
   | (with_reducible exact ih0 _ _ _ _ _)
   | (with_reducible exact quality_Black.mono _ _ _ _ _)
   | (with_reducible exact quality_Close.mono _ _ _ _ _ _ _ _ _)
   | (with_reducible exact slices_Equal_int_int.mono _ _ _)
   | (with_reducible exact LeO.refl _)
   | (with_reducible exact LeO.none _)
   | (with_reducible refine LeO.ite ?_ ?_)
   | (with_reducible refine LeO.bind ?_ (fun _ => ?_))
   | exact ih0 _ _ _ _ _
   | exact quality_Black.mono _ _ _ _ _
   | exact quality_Close.mono _ _ _ _ _ _ _ _ _
   | exact slices_Equal_int_int.mono _ _ _
   | exact LeO.none _
   | refine LeO.ite ?_ ?_
   | refine LeO.bind ?_ (fun _ => ?_)
theorem hopmeshlaw12_awake.mono : ∀ k, LeO (hopmeshlaw12_awake.f k ) (hopmeshlaw12_awake.f (k + 1) ) := by
 intro  k
 have ih0 := hopmeshlaw12_awake.mono_l k
 unfold hopmeshlaw12_awake.f
 repeat' first
  | (with_reducible exact ih0 _ _ _ _ _)
  | (with_reducible exact quality_Black.mono _ _ _ _ _)
  | (with_reducible exact quality_Close.mono _ _ _ _ _ _ _ _ _)
  | (with_reducible exact slices_Equal_int_int.mono _ _ _)
  | (with_reducible exact LeO.refl _)
  | (with_reducible exact LeO.none _)
  | (with_reducible refine LeO.ite ?_ ?_)
  | (with_reducible refine LeO.bind ?_ (fun _ => ?_))
  | exact ih0 _ _ _ _ _
  | exact quality_Black.mono _ _ _ _ _
  | exact quality_Close.mono _ _ _ _ _ _ _ _ _
  | exact slices_Equal_int_int.mono _ _ _
  | exact LeO.none _
  | refine LeO.ite ?_ ?_
  | refine LeO.bind ?_ (fun _ => ?_)
set_option maxHeartbeats 8000000 in
set_option maxRecDepth 100000 in
theorem hopmeshlaw12_awake.calls (k : Nat)  (r : Bool) (w : World) (h : hopmeshlaw12_awake.f k  = some r) :
 Calls Try.prog 10 #[] w fun e w' => e = .returned (.bool r) ∧ Below w.heap.size w w' := by
 have hu34 := Try.underlying34
 have hu25 := Try.underlying25
 have HB := Aside0.mk (Below.refl w.heap.size w)
 have H : ((quality_Rate.f 4 3).bind fun bt207 => ((quality_Cost.f 4 3).bind fun bt209 => ((quality_New.f).bind fun bt211 => (if (bt211.2.1.length : Int) = 16 then (if (bt211.2.2.1.length : Int) = 16 then (if (bt211.2.2.2.length : Int) = 16 then (if bt207.2 = 0 then (if bt209.2 = 0 then (if bt207.1 = 750 then (hopmeshlaw12_awake.j0 k (bt209.1 != 170) bt211.1 bt211.2.1 bt211.2.2.1 bt211.2.2.2) else (hopmeshlaw12_awake.j0 k true bt211.1 bt211.2.1 bt211.2.2.1 bt211.2.2.2)) else (hopmeshlaw12_awake.j0 k true bt211.1 bt211.2.1 bt211.2.2.1 bt211.2.2.2)) else (hopmeshlaw12_awake.j0 k true bt211.1 bt211.2.1 bt211.2.2.1 bt211.2.2.2)) else (hopmeshlaw12_awake.j0 k true bt211.1 bt211.2.1 bt211.2.2.1 bt211.2.2.2)) else (hopmeshlaw12_awake.j0 k true bt211.1 bt211.2.1 bt211.2.2.1 bt211.2.2.2)) else (hopmeshlaw12_awake.j0 k true bt211.1 bt211.2.1 bt211.2.2.1 bt211.2.2.2))))) = some r := h
 clear h
 replace H := Option.bind_eq_some_iff.mp H
 obtain ⟨⟨t207, t208⟩, A10, H⟩ := H
 (try dsimp only at H)
 have A1 := Aside0.mk A10
 clear A10
 replace H := Option.bind_eq_some_iff.mp H
 obtain ⟨⟨t209, t210⟩, A20, H⟩ := H
 (try dsimp only at H)
 have A2 := Aside0.mk A20
 clear A20
 replace H := Option.bind_eq_some_iff.mp H
 obtain ⟨⟨t211, t212, t215, t218⟩, A30, H⟩ := H
 (try dsimp only at H)
 have A3 := Aside0.mk A30
 clear A30
 have HC4 := Aside0.mk H
 clear H
 go_enter Try.func10, Try.ntmps10
 go_upto_region 4 with (first | ((with_reducible refine gate_callee (f := 20) rfl ?_); refine goesL_ (some 12) rfl rfl Try.func20 (by kernel_rfl) rfl #[.agg #[.int .i64 4, .int .i64 3]] rfl sma ?_; (with_reducible refine (quality_Rate.calls 4 3 t207 t208 _ A1.out).mono ?_); rintro e w5 ⟨rfl, hb⟩; refine ⟨_, rfl, ?_⟩; replace HB := hbS HB hb; (try clear hb); (try clear hb2); (try clear hk); (try clear hi)) | ((with_reducible refine gate_callee (f := 22) rfl ?_); refine goesL_ (some 17) rfl rfl Try.func22 (by kernel_rfl) rfl #[.agg #[.int .i64 4, .int .i64 3]] rfl sma ?_; (with_reducible refine (quality_Cost.calls 4 3 t209 t210 _ A2.out).mono ?_); rintro e w6 ⟨rfl, hb⟩; refine ⟨_, rfl, ?_⟩; replace HB := hbS HB hb; (try clear hb); (try clear hb2); (try clear hk); (try clear hi)) | ((with_reducible refine gate_callee (f := 31) rfl ?_); refine goesL_ (some 20) rfl rfl Try.func31 (by kernel_rfl) rfl #[] rfl sma ?_; (with_reducible refine (quality_New.calls  t211 t212 t215 t218 _ A3.out).mono ?_); rintro e w7 ⟨v213, v216, v219, rfl, ho0, ho1, ho2, hb⟩; refine ⟨_, rfl, ?_⟩; have HO214 := Aside0.mk (Kd.R_lower ho0 (below_size (hbx HB))); have HO217 := Aside0.mk (Kd.R_lower ho1 (below_size (hbx HB))); have HO220 := Aside0.mk (Kd.R_lower ho2 (below_size (hbx HB))); replace HB := hbS HB hb; (try clear hb); (try clear hb2); (try clear hk); (try clear hi); (try clear ho0); (try clear ho1); (try clear ho2)) | ((with_reducible refine gate_dst (N := 5) rfl ?_); (try (refine gate_guard (by rfl) ?_; dsimp only)); refine boxE 5 #[.int .i64 0, .slice none 0 0, .slice none 0 0, .slice none 0 0] 25 ?_; intro gb221 hg w8 hbox hb; replace HO214 := rB HO214 hb; replace HO217 := rB HO217 hb; replace HO220 := rB HO220 hb; have BK221 := Aside0.mk (hbox); have GW221 := gw hg HB; have GE221 := gw hg HB; replace HB := hbS HB hb; clear hb hbox hg; obtain ⟨z0, z1, z2, z3, y0, y1, y2, y3⟩ := bc4 BK221; obtain ⟨Ao10, co10, eo10⟩ := Kd.R_slice HO214.out; subst eo10; obtain ⟨Ao11, co11, eo11⟩ := Kd.R_slice HO217.out; subst eo11; obtain ⟨Ao12, co12, eo12⟩ := Kd.R_slice HO220.out; subst eo12))
 (try simp only [Act.put, List.setIfInBounds_toArray, List.set_cons_zero, List.set_cons_succ])
 go_cut [52] (fun v52 wc => ∃ (kq : Nat) (x52_3 : Bool), v52 = .bool x52_3 ∧ Aside0 (hopmeshlaw12_awake.j0 kq x52_3 t211 t212 t215 t218 = some r) ∧ Aside0 (kq ≤ k) ∧ Aside0 (Kd.R k34 34 wc w.heap.size (fun _ => True) (.slice Ao10 t212.length co10) t212) ∧ Aside0 (Kd.R (Kd.int .i64) 3 wc w.heap.size (fun k_ => some k_ ≠ ((.slice Ao12 t218.length co12) : Value).ownBlock) (.slice Ao11 t215.length co11) t215) ∧ Aside0 (Kd.R (Kd.int .i64) 3 wc w.heap.size (fun k_ => some k_ ≠ ((.slice Ao11 t215.length co11) : Value).ownBlock) (.slice Ao12 t218.length co12) t218) ∧ Aside0 (wc.heap[gb221]? = some (.cells #[.int .i64 t211, (.slice Ao10 t212.length co10), (.slice Ao11 t215.length co11), (.slice Ao12 t218.length co12)] 25 (0, 0))) ∧ Aside0 (Below w.heap.size w wc))
 case first =>
  have H := HC4.out
  clear HC4
  by_cases c13 : (t212.length : Int) = 16
  ·rw [if_pos c13] at H
   have c13b0 : ((t212.length : Int) == 16) = true := beq_iff_eq.mpr c13
   have c13b1 : ((t212.length : Int) != 16) = false := bne_eq_false_iff_eq.mpr c13
   clear c13
   (first | rw [c13b0] | (simp only [i64_w, i32_w]; rw [c13b0]) | skip)
   by_cases c14 : (t215.length : Int) = 16
   ·rw [if_pos c14] at H
    have c14b0 : ((t215.length : Int) == 16) = true := beq_iff_eq.mpr c14
    have c14b1 : ((t215.length : Int) != 16) = false := bne_eq_false_iff_eq.mpr c14
    clear c14
    by_cases c15 : (t218.length : Int) = 16
    ·rw [if_pos c15] at H
     have c15b0 : ((t218.length : Int) == 16) = true := beq_iff_eq.mpr c15
     have c15b1 : ((t218.length : Int) != 16) = false := bne_eq_false_iff_eq.mpr c15
     clear c15
     by_cases c16 : t208 = 0
     ·rw [if_pos c16] at H
      have c16b0 : (t208 == 0) = true := beq_iff_eq.mpr c16
      have c16b1 : (t208 != 0) = false := bne_eq_false_iff_eq.mpr c16
      clear c16
      by_cases c17 : t210 = 0
      ·rw [if_pos c17] at H
       have c17b0 : (t210 == 0) = true := beq_iff_eq.mpr c17
       have c17b1 : (t210 != 0) = false := bne_eq_false_iff_eq.mpr c17
       clear c17
       by_cases c18 : t207 = 750
       ·rw [if_pos c18] at H
        have c18b0 : (t207 == 750) = true := beq_iff_eq.mpr c18
        have c18b1 : (t207 != 750) = false := bne_eq_false_iff_eq.mpr c18
        clear c18
        have H' := Aside0.mk H
        clear H
        obtain ⟨z0, z1, z2, z3, y0, y1, y2, y3⟩ := bc4 BK221
        go_wp2
        go_meet
        case rel => exact ⟨_, ((t209 != 170)), rfs, H', kle, ⟨Kd.R_mono (rty (rfo HO214) BK221) (fun _ hk => trivial)⟩, rfA HO217, rfA HO220, bkpA BK221, hbA HB⟩
       ·rw [if_neg c18] at H
        have c18b0 : (t207 == 750) = false := beq_eq_false_iff_ne.mpr c18
        have c18b1 : (t207 != 750) = true := bne_iff_ne.mpr c18
        have H' := Aside0.mk H
        clear H
        obtain ⟨z0, z1, z2, z3, y0, y1, y2, y3⟩ := bc4 BK221
        go_wp2
        go_meet
        case rel => exact ⟨_, (true), rfs, H', kle, ⟨Kd.R_mono (rty (rfo HO214) BK221) (fun _ hk => trivial)⟩, rfA HO217, rfA HO220, bkpA BK221, hbA HB⟩
      ·rw [if_neg c17] at H
       have c17b0 : (t210 == 0) = false := beq_eq_false_iff_ne.mpr c17
       have c17b1 : (t210 != 0) = true := bne_iff_ne.mpr c17
       have H' := Aside0.mk H
       clear H
       obtain ⟨z0, z1, z2, z3, y0, y1, y2, y3⟩ := bc4 BK221
       go_wp2
       go_meet
       case rel => exact ⟨_, (true), rfs, H', kle, ⟨Kd.R_mono (rty (rfo HO214) BK221) (fun _ hk => trivial)⟩, rfA HO217, rfA HO220, bkpA BK221, hbA HB⟩
     ·rw [if_neg c16] at H
      have c16b0 : (t208 == 0) = false := beq_eq_false_iff_ne.mpr c16
      have c16b1 : (t208 != 0) = true := bne_iff_ne.mpr c16
      have H' := Aside0.mk H
      clear H
      obtain ⟨z0, z1, z2, z3, y0, y1, y2, y3⟩ := bc4 BK221
      go_wp2
      go_meet
      case rel => exact ⟨_, (true), rfs, H', kle, ⟨Kd.R_mono (rty (rfo HO214) BK221) (fun _ hk => trivial)⟩, rfA HO217, rfA HO220, bkpA BK221, hbA HB⟩
    ·rw [if_neg c15] at H
     have c15b0 : ((t218.length : Int) == 16) = false := beq_eq_false_iff_ne.mpr c15
     have c15b1 : ((t218.length : Int) != 16) = true := bne_iff_ne.mpr c15
     have H' := Aside0.mk H
     clear H
     obtain ⟨z0, z1, z2, z3, y0, y1, y2, y3⟩ := bc4 BK221
     go_wp2
     go_meet
     case rel => exact ⟨_, (true), rfs, H', kle, ⟨Kd.R_mono (rty (rfo HO214) BK221) (fun _ hk => trivial)⟩, rfA HO217, rfA HO220, bkpA BK221, hbA HB⟩
   ·rw [if_neg c14] at H
    have c14b0 : ((t215.length : Int) == 16) = false := beq_eq_false_iff_ne.mpr c14
    have c14b1 : ((t215.length : Int) != 16) = true := bne_iff_ne.mpr c14
    have H' := Aside0.mk H
    clear H
    obtain ⟨z0, z1, z2, z3, y0, y1, y2, y3⟩ := bc4 BK221
    go_wp2
    go_meet
    case rel => exact ⟨_, (true), rfs, H', kle, ⟨Kd.R_mono (rty (rfo HO214) BK221) (fun _ hk => trivial)⟩, rfA HO217, rfA HO220, bkpA BK221, hbA HB⟩
  ·rw [if_neg c13] at H
   have c13b0 : ((t212.length : Int) == 16) = false := beq_eq_false_iff_ne.mpr c13
   have c13b1 : ((t212.length : Int) != 16) = true := bne_iff_ne.mpr c13
   (first | rw [c13b0] | (simp only [i64_w, i32_w]; rw [c13b0]) | skip)
   have H' := Aside0.mk H
   clear H
   obtain ⟨z0, z1, z2, z3, y0, y1, y2, y3⟩ := bc4 BK221
   go_wp2
   go_meet
   case rel => exact ⟨_, (true), rfs, H', kle, ⟨Kd.R_mono (rty (rfo HO214) BK221) (fun _ hk => trivial)⟩, rfA HO217, rfA HO220, bkpA BK221, hbA HB⟩
 case rest =>
  clear HC4
  try clear hcz9_0
  try clear hcz9_1
  try clear hcz9_2
  try clear hcz9_3
  try clear hfz9_0
  try clear hfz9_1
  try clear hfz9_2
  try clear hfz9_3
  obtain ⟨kq, x52_3, rfl, HA, HJ3, HO_222001, HO_222002, HO_222003, BK221, HB⟩ := hcut
  cases kq with
  | zero => exact absurd HA.out (by simp [hopmeshlaw12_awake.j0])
  | succ kj3 =>
   have H := HA.out
   clear HA
   simp only [hopmeshlaw12_awake.j0] at H
   by_cases c26 : x52_3 = true
   ·subst c26
    rw [if_pos rfl] at H
    exact absurd H (by simp)
   ·replace c26 := Bool.eq_false_iff.mpr c26
    subst c26
    rw [if_neg (show ¬ (false = true) by decide)] at H
    by_cases c27 : 5 < (t212.length : Int)
    ·rw [if_pos c27] at H
     have c27b0 : decide (5 < (t212.length : Int)) = true := decide_eq_true c27
     have c27b1 : decide (5 < t212.length) = true := decide_eq_true (by omega)
     clear c27
     obtain ⟨y222, hy222⟩ : ∃ y_ : List (S34), y_ = (t212.set (5 : Int).toNat (⟨4, 1⟩ : S34)) := ⟨_, rfl⟩
     replace H : ((quality_Close.f kj3 t211 y222 t215 t218 4 500 900 2).bind fun bt223 => ((quality_Black.f kj3 bt223.1 bt223.2.1 bt223.2.2.1 bt223.2.2.2.1).bind fun bt235 => (if bt223.2.2.2.2 = 0 then (if bt235.2 = 0 then (if bt223.1 = 1 then (if (bt223.2.2.1.length : Int) = 16 then (if (bt223.2.2.2.1.length : Int) = 16 then (if 5 < (bt223.2.2.1.length : Int) then (if (rd bt223.2.2.1 5) = 2 then (if 5 < (bt223.2.2.2.1.length : Int) then (if (rd bt223.2.2.2.1 5) = 1 then ((slices_Equal_int_int.f kj3 bt235.1 (([5] : List Int))).bind fun t244 => (some t244)) else (none)) else (none)) else (none)) else (none)) else (none)) else (none)) else (none)) else (none)) else (none)))) = some r := by first | (rw [hy222]; with_reducible exact H) | (have H2_ := (Option.bind_some _ _).symm.trans H; rw [hy222]; with_reducible exact H2_) | (have H2_ := (Option.bind_some _ _).symm.trans H; with_reducible exact H2_) | with_reducible exact H | (rw [hy222]; exact H) | exact H
     have Ny222 := Aside0.mk hy222
     clear hy222
     replace H := Option.bind_eq_some_iff.mp H
     obtain ⟨⟨t223, t224, t227, t230, t233⟩, A290, H⟩ := H
     (try dsimp only at H)
     have A29 := Aside0.mk A290
     clear A290
     replace H := Option.bind_eq_some_iff.mp H
     obtain ⟨⟨t235, t238⟩, A300, H⟩ := H
     (try dsimp only at H)
     have A30 := Aside0.mk A300
     clear A300
     by_cases c31 : t233 = 0
     ·rw [if_pos c31] at H
      have c31b0 : (t233 == 0) = true := beq_iff_eq.mpr c31
      have c31b1 : (t233 != 0) = false := bne_eq_false_iff_eq.mpr c31
      clear c31
      by_cases c32 : t238 = 0
      ·rw [if_pos c32] at H
       have c32b0 : (t238 == 0) = true := beq_iff_eq.mpr c32
       have c32b1 : (t238 != 0) = false := bne_eq_false_iff_eq.mpr c32
       clear c32
       by_cases c33 : t223 = 1
       ·rw [if_pos c33] at H
        have c33b0 : (t223 == 1) = true := beq_iff_eq.mpr c33
        have c33b1 : (t223 != 1) = false := bne_eq_false_iff_eq.mpr c33
        clear c33
        by_cases c34 : (t227.length : Int) = 16
        ·rw [if_pos c34] at H
         have c34b0 : ((t227.length : Int) == 16) = true := beq_iff_eq.mpr c34
         have c34b1 : ((t227.length : Int) != 16) = false := bne_eq_false_iff_eq.mpr c34
         clear c34
         by_cases c35 : (t230.length : Int) = 16
         ·rw [if_pos c35] at H
          have c35b0 : ((t230.length : Int) == 16) = true := beq_iff_eq.mpr c35
          have c35b1 : ((t230.length : Int) != 16) = false := bne_eq_false_iff_eq.mpr c35
          clear c35
          by_cases c36 : 5 < (t227.length : Int)
          ·rw [if_pos c36] at H
           have c36b0 : decide (5 < (t227.length : Int)) = true := decide_eq_true c36
           have c36b1 : decide (5 < t227.length) = true := decide_eq_true (by omega)
           clear c36
           by_cases c37 : (rd t227 5) = 2
           ·rw [if_pos c37] at H
            have c37b0 : ((rd t227 5) == 2) = true := beq_iff_eq.mpr c37
            have c37b1 : ((rd t227 5) != 2) = false := bne_eq_false_iff_eq.mpr c37
            clear c37
            by_cases c38 : 5 < (t230.length : Int)
            ·rw [if_pos c38] at H
             have c38b0 : decide (5 < (t230.length : Int)) = true := decide_eq_true c38
             have c38b1 : decide (5 < t230.length) = true := decide_eq_true (by omega)
             clear c38
             by_cases c39 : (rd t230 5) = 1
             ·rw [if_pos c39] at H
              have c39b0 : ((rd t230 5) == 1) = true := beq_iff_eq.mpr c39
              have c39b1 : ((rd t230 5) != 1) = false := bne_eq_false_iff_eq.mpr c39
              clear c39
              obtain ⟨y241, hy241⟩ : ∃ y_ : List Int, y_ = (([5] : List Int)) := ⟨_, rfl⟩
              replace H : ((slices_Equal_int_int.f kj3 t235 y241).bind fun t244 => (some t244)) = some r := by first | (rw [hy241]; with_reducible exact H) | (have H2_ := (Option.bind_some _ _).symm.trans H; rw [hy241]; with_reducible exact H2_) | (have H2_ := (Option.bind_some _ _).symm.trans H; with_reducible exact H2_) | with_reducible exact H | (rw [hy241]; exact H) | exact H
              have Ny241 := Aside0.mk hy241
              clear hy241
              replace H := Option.bind_eq_some_iff.mp H
              obtain ⟨t244, A400, H⟩ := H
              (try dsimp only at H)
              have A40 := Aside0.mk A400
              clear A400
              obtain rfl := Option.some.inj H
              obtain ⟨z0, z1, z2, z3, y0, y1, y2, y3⟩ := bc4 BK221
              have p28 : 0 ≤ (5 : Int) := (by omega)
              have q28 : (5 : Int) < ((t212.length : Int) : Int) := pos_
              have qi28 : (5 < t212.length) = True := eq_true (by omega)
              obtain ⟨go28, co28, eo28, gb28, gl28, cl28, HG28⟩ := Kd.R_form HO_222001.out (by omega)
              (first | cases eo28 | (injection eo28 with ea_ en_ ec_; (first | subst ea_ | (injection ea_ with ea_; subst ea_)); subst ec_; clear en_))
              have GB28 := Aside0.mk gb28
              have GG28 := Aside0.mk HG28
              clear gb28 gl28 HG28
              obtain ⟨ce28, hcl28, hM28, hcc28, hfr28⟩ := Kd.R_elem HO_222001.out z34 (5 : Int) p28 q28
              obtain rfl := k34_openM hM28
              have hx28_0 : wc.cell? ⟨go28, (5 : Int).toNat * 2, none⟩ = some (.int .i64 ((rd_T34 t212 5).f0)) := hcc28 0 _ rfl
              have hx28_1 : wc.cell? ⟨go28, (5 : Int).toNat * 2 + 1, none⟩ = some (.int .i64 ((rd_T34 t212 5).f1)) := hcc28 1 _ rfl
              have hf28_0 : wc.frozen? ⟨go28, (5 : Int).toNat * 2, none⟩ = false := hfr28 0
              have hf28_1 : wc.frozen? ⟨go28, (5 : Int).toNat * 2 + 1, none⟩ = false := hfr28 1
              clear hcl28 hcc28 hfr28 hM28
              (try rw [show ((5 : Int)).toNat = 5 from rfl] at hx28_0)
              (try simp only [Nat.reduceMul, Nat.zero_mul, Nat.zero_add, Nat.reduceAdd] at hx28_0)
              (try rw [show ((5 : Int)).toNat = 5 from rfl] at hf28_0)
              (try simp only [Nat.reduceMul, Nat.zero_mul, Nat.zero_add, Nat.reduceAdd] at hf28_0)
              (try rw [show ((5 : Int)).toNat = 5 from rfl] at hx28_1)
              (try simp only [Nat.reduceMul, Nat.zero_mul, Nat.zero_add, Nat.reduceAdd] at hx28_1)
              (try rw [show ((5 : Int)).toNat = 5 from rfl] at hf28_1)
              (try simp only [Nat.reduceMul, Nat.zero_mul, Nat.zero_add, Nat.reduceAdd] at hf28_1)
              replace p28 := eq_true p28
              replace q28 := eq_true q28
              have HX42 := Aside0.mk (show Kd.R k34 34 wc w.heap.size (fun _ => True) (.slice (some ⟨go28, 0, none⟩) t212.length co10) t212 from (ro HO_222001))
              obtain ⟨ce42, hcl42, hM42, hcc42, hfr42⟩ := Kd.R_elem HX42.out z34 (5 : Int) (by omega) (by have h_ : (5 : Int) < ((t212.length : Int) : Int) := pos_; first | exact h_ | (have e_ := (Kd.R_reads' HO_222001.out).1; omega) | simpa using h_)
              obtain rfl := k34_openM hM42
              have HP42 := Kd.R_seg HX42.out (5 : Int) (by omega) (by have h_ : (5 : Int) < ((t212.length : Int) : Int) := pos_; first | exact h_ | (have e_ := (Kd.R_reads' HO_222001.out).1; omega) | simpa using h_) (seg := [.int .i64 4, .int .i64 1]) (j := 0) hcl42 hcc42 (show 2 ≤ 2 from by decide) (x' := (⟨4, 1⟩ : S34)) (k34_mkM _ _ _ (⟨4, 1⟩ : S34) ) (fun _ hk => hk)
              have hx42_0 := hcc42 0 _ rfl
              (try simp only [show (k34).sz = 2 from rfl, Nat.mul_one, Nat.add_zero] at hx42_0)
              (try rw [show ((5 : Int)).toNat = 5 from rfl] at hx42_0)
              (try simp only [Nat.reduceMul, Nat.zero_mul, Nat.zero_add, Nat.reduceAdd] at hx42_0)
              have hf42_0 := hfr42 0
              (try simp only [show (k34).sz = 2 from rfl, Nat.mul_one, Nat.add_zero] at hf42_0)
              (try rw [show ((5 : Int)).toNat = 5 from rfl] at hf42_0)
              (try simp only [Nat.reduceMul, Nat.zero_mul, Nat.zero_add, Nat.reduceAdd] at hf42_0)
              have hx42_1 := hcc42 1 _ rfl
              (try simp only [show (k34).sz = 2 from rfl, Nat.mul_one, Nat.add_zero] at hx42_1)
              (try rw [show ((5 : Int)).toNat = 5 from rfl] at hx42_1)
              (try simp only [Nat.reduceMul, Nat.zero_mul, Nat.zero_add, Nat.reduceAdd] at hx42_1)
              have hf42_1 := hfr42 1
              (try simp only [show (k34).sz = 2 from rfl, Nat.mul_one, Nat.add_zero] at hf42_1)
              (try rw [show ((5 : Int)).toNat = 5 from rfl] at hf42_1)
              (try simp only [Nat.reduceMul, Nat.zero_mul, Nat.zero_add, Nat.reduceAdd] at hf42_1)
              clear hcl42 hcc42 hfr42 hM42
              go_wp2_with (first | ((with_reducible refine gate_store (t := 34) (p := 56) rfl ?_); refine store_event (t := 34) (p := 56) (v := ?vo_w43) (w1 := ((wc.setCell ⟨go28, 10, none⟩ (.int .i64 4)).setCell ⟨go28, 11, none⟩ (.int .i64 1))) ?hg ?ho ?hn ?hr ?_; (case ho => rfl); (case hg => rfl); (case hn => rfl); (case hr => first | (go_simp; done) | (go_simp; rfl)); intro w43 hw; have hg : wc.grownBy w43 (some go28) := (by rw [hw]; exact HP42.2); have hp_ : Kd.R k34 34 w43 w.heap.size (fun _ => True) (.slice (some ⟨go28, 0, none⟩) t212.length co10) y222 := (by rw [hw, Ny222.out]; exact HP42.1); clear HP42; replace HO_222002 := Aside0.mk (Kd.R_over' (v := (.slice (some ⟨go28, 0, none⟩) t212.length co10)) (ro HO_222002) (Kd.R_typed HO_222001.out) (by decide) hg); replace HO_222003 := Aside0.mk (Kd.R_over' (v := (.slice (some ⟨go28, 0, none⟩) t212.length co10)) (ro HO_222003) (Kd.R_typed HO_222001.out) (by decide) hg); replace BK221 := Aside0.mk (blk_grown (bk BK221) hg (Kd.R_ne HO_222001.out BK221.out (by decide))); replace HO_222001 := Aside0.mk (hp_); replace HB := Aside0.mk ((by rw [hw]; exact below_set (below_set (HB.out) GB28.out) GB28.out : Below w.heap.size w w43)); clear hg hw hp_; obtain ⟨z0, z1, z2, z3, y0, y1, y2, y3⟩ := bc4 BK221) | ((with_reducible refine gate_callee (f := 40) rfl ?_); refine goesL_ (some 59) rfl rfl Try.func40 (by kernel_rfl) rfl #[.agg #[.int .i64 t211, .slice (some ⟨go28, 0, none⟩) y222.length co10, .slice Ao11 t215.length co11, .slice Ao12 t218.length co12], .int .i64 4, .int .i64 500, .int .i64 900, .int .i64 2] rfl (by (try simp only [List.map_toArray, List.map_cons, List.map_nil]); first | done | (rw [show y222.length = t212.length from (Kd.R_reads' HO_222001.out).1.symm] <;> rfl) | rfl | (simp only [List.length_drop, List.length_take]; rfl)) ?_; (with_reducible refine (quality_Close.calls kj3 t211 _ _ y222 _ _ t215 _ _ t218 4 500 900 2 t223 t224 t227 t230 t233 _ ?side1 ?side2 ?side3 ?side4 ?side5 ?side6 A29.out).mono ?_); (case side1 => repeat (first | exact (Kd.R_reads' HO_222001.out).2.2 | (with_reducible refine Kd.C_alloc ?_ _) | (with_reducible refine Kd.C_drewN ?_ _) | (with_reducible refine Kd.C_drew ?_))); (case side2 => rw [show y222.length = t212.length from (Kd.R_reads' HO_222001.out).1.symm]; exact (Kd.R_reads' HO_222001.out).2.1); (case side3 => repeat (first | exact (Kd.R_reads' HO_222002.out).2.2 | (with_reducible refine Kd.C_alloc ?_ _) | (with_reducible refine Kd.C_drewN ?_ _) | (with_reducible refine Kd.C_drew ?_))); (case side4 => exact (Kd.R_reads' HO_222002.out).2.1); (case side5 => repeat (first | exact (Kd.R_reads' HO_222003.out).2.2 | (with_reducible refine Kd.C_alloc ?_ _) | (with_reducible refine Kd.C_drewN ?_ _) | (with_reducible refine Kd.C_drew ?_))); (case side6 => exact (Kd.R_reads' HO_222003.out).2.1); rintro e w45 ⟨v225, v228, v231, rfl, ho0, ho1, ho2, hb⟩; refine ⟨_, rfl, ?_⟩; have HO226 := Aside0.mk (Kd.R_lower (Kd.R_new' ho0 (Kd.R_lt (ro HO_222001))) (below_size (hbx HB))); replace HO_222001 := Aside0.mk (Kd.R_elder' (ro HO_222001) (Kd.R_base ho0) hb); have HO229 := Aside0.mk (Kd.R_lower (Kd.R_new' (Kd.R_new' ho1 (Kd.R_lt (ro HO_222002))) (Kd.R_lt (ro HO_222003))) (below_size (hbx HB))); have HO232 := Aside0.mk (Kd.R_lower (Kd.R_new' (Kd.R_new' ho2 (Kd.R_lt (ro HO_222002))) (Kd.R_lt (ro HO_222003))) (below_size (hbx HB))); replace HO_222002 := Aside0.mk (Kd.R_mono (Kd.R_told (Kd.R_told (Kd.R_old (ro HO_222002) hb) (Kd.R_base ho1)) (Kd.R_base ho2)) (fun _ h_ => h_.1)); replace HO_222003 := Aside0.mk (Kd.R_mono (Kd.R_told (Kd.R_told (Kd.R_old (ro HO_222003) hb) (Kd.R_base ho1)) (Kd.R_base ho2)) (fun _ h_ => h_.1)); replace BK221 := bkB BK221 hb; replace HB := hbS HB hb; (try clear hb); (try clear hb2); (try clear hk); (try clear hi); (try clear ho0); (try clear ho1); (try clear ho2)) | ((with_reducible refine gate_dst (N := 6) rfl ?_); (try (refine gate_guard (by rfl) ?_; dsimp only)); refine boxE 6 #[.int .i64 0, .slice none 0 0, .slice none 0 0, .slice none 0 0] 25 ?_; intro gb234 hg w46 hbox hb; replace HO_222001 := rB HO_222001 hb; replace HO_222002 := rB HO_222002 hb; replace HO_222003 := rB HO_222003 hb; replace HO226 := rB HO226 hb; replace HO229 := rB HO229 hb; replace HO232 := rB HO232 hb; have BK234 := Aside0.mk (hbox); have GW234 := gw hg HB; have GE234 := gw hg HB; replace HB := hbS HB hb; have NB221_234 := nbl hg BK221; have NB234_221 := nbg hg BK221; replace BK221 := bkB BK221 hb; clear hb hbox hg; have hnb47 := NB234_221.out; have hnc47 := NB221_234.out; obtain ⟨z0, z1, z2, z3, y0, y1, y2, y3⟩ := bc4 BK234; obtain ⟨Ao49, co49, eo49⟩ := Kd.R_slice HO226.out; subst eo49; obtain ⟨Ao50, co50, eo50⟩ := Kd.R_slice HO229.out; subst eo50; obtain ⟨Ao51, co51, eo51⟩ := Kd.R_slice HO232.out; subst eo51) | ((with_reducible refine gate_callee (f := 15) rfl ?_); refine goesL_ (some 64) rfl rfl Try.func15 (by kernel_rfl) rfl #[.agg #[.int .i64 t223, .slice Ao49 t224.length co49, .slice Ao50 t227.length co50, .slice Ao51 t230.length co51]] rfl sma ?_; (with_reducible refine (quality_Black.calls kj3 t223 _ _ t224 _ _ t227 _ _ t230 t235 t238 _ ?side1 ?side2 ?side3 ?side4 ?side5 ?side6 A30.out).mono ?_); (case side1 => refine (Kd.R_reads' (e := 34) (base := w.heap.size) (ok := fun k_ => (True ∧ some k_ ≠ (.slice (some ⟨go28, 0, none⟩) t212.length co10 : Value).ownBlock)) (n := t224.length) (c := co49) ?_).2.2; exact (rx (Kd.R_mono (Kd.R_far (p := ⟨gb234, 3, none⟩) (Kd.R_far (p := ⟨gb234, 2, none⟩) (Kd.R_far (p := ⟨gb234, 1, none⟩) (Kd.R_far (p := ⟨gb234, 0, none⟩) (Kd.R_types HO226.out BK234.out (by decide)) (fun _ hk => hk.2) (.int .i64 t223)) (fun _ hk => hk.2) (.slice Ao49 t224.length co49)) (fun _ hk => hk.2) (.slice Ao50 t227.length co50)) (fun _ hk => hk.2) (.slice Ao51 t230.length co51)) (fun _ h_ => h_.1)))); (case side2 => exact (Kd.R_reads' HO226.out).2.1); (case side3 => refine (Kd.R_reads' (e := 3) (base := w.heap.size) (ok := fun k_ => ((some k_ ≠ (.slice Ao51 t230.length co51 : Value).ownBlock ∧ some k_ ≠ (.slice Ao11 t215.length co11 : Value).ownBlock) ∧ some k_ ≠ (.slice Ao12 t218.length co12 : Value).ownBlock)) (n := t227.length) (c := co50) ?_).2.2; exact (rx (Kd.R_mono (Kd.R_far (p := ⟨gb234, 3, none⟩) (Kd.R_far (p := ⟨gb234, 2, none⟩) (Kd.R_far (p := ⟨gb234, 1, none⟩) (Kd.R_far (p := ⟨gb234, 0, none⟩) (Kd.R_types HO229.out BK234.out (by decide)) (fun _ hk => hk.2) (.int .i64 t223)) (fun _ hk => hk.2) (.slice Ao49 t224.length co49)) (fun _ hk => hk.2) (.slice Ao50 t227.length co50)) (fun _ hk => hk.2) (.slice Ao51 t230.length co51)) (fun _ h_ => h_.1)))); (case side4 => exact (Kd.R_reads' HO229.out).2.1); (case side5 => refine (Kd.R_reads' (e := 3) (base := w.heap.size) (ok := fun k_ => ((some k_ ≠ (.slice Ao50 t227.length co50 : Value).ownBlock ∧ some k_ ≠ (.slice Ao11 t215.length co11 : Value).ownBlock) ∧ some k_ ≠ (.slice Ao12 t218.length co12 : Value).ownBlock)) (n := t230.length) (c := co51) ?_).2.2; exact (rx (Kd.R_mono (Kd.R_far (p := ⟨gb234, 3, none⟩) (Kd.R_far (p := ⟨gb234, 2, none⟩) (Kd.R_far (p := ⟨gb234, 1, none⟩) (Kd.R_far (p := ⟨gb234, 0, none⟩) (Kd.R_types HO232.out BK234.out (by decide)) (fun _ hk => hk.2) (.int .i64 t223)) (fun _ hk => hk.2) (.slice Ao49 t224.length co49)) (fun _ hk => hk.2) (.slice Ao50 t227.length co50)) (fun _ hk => hk.2) (.slice Ao51 t230.length co51)) (fun _ h_ => h_.1)))); (case side6 => exact (Kd.R_reads' HO232.out).2.1); rintro e w52 ⟨v236, rfl, ho0, hb⟩; refine ⟨_, rfl, ?_⟩; replace HO_222001 := Aside0.mk (Kd.R_below (rx (Kd.R_mono (Kd.R_far (p := ⟨gb234, 3, none⟩) (Kd.R_far (p := ⟨gb234, 2, none⟩) (Kd.R_far (p := ⟨gb234, 1, none⟩) (Kd.R_far (p := ⟨gb234, 0, none⟩) (Kd.R_types HO_222001.out BK234.out (by decide)) (fun _ hk => hk.2) (.int .i64 t223)) (fun _ hk => hk.2) (.slice Ao49 t224.length co49)) (fun _ hk => hk.2) (.slice Ao50 t227.length co50)) (fun _ hk => hk.2) (.slice Ao51 t230.length co51)) (fun _ h_ => h_.1))) hb); replace HO226 := Aside0.mk (Kd.R_below (rx (Kd.R_mono (Kd.R_far (p := ⟨gb234, 3, none⟩) (Kd.R_far (p := ⟨gb234, 2, none⟩) (Kd.R_far (p := ⟨gb234, 1, none⟩) (Kd.R_far (p := ⟨gb234, 0, none⟩) (Kd.R_types HO226.out BK234.out (by decide)) (fun _ hk => hk.2) (.int .i64 t223)) (fun _ hk => hk.2) (.slice Ao49 t224.length co49)) (fun _ hk => hk.2) (.slice Ao50 t227.length co50)) (fun _ hk => hk.2) (.slice Ao51 t230.length co51)) (fun _ h_ => h_.1))) hb); have HO237 := Aside0.mk (Kd.R_lower (Kd.R_new' (Kd.R_new' (Kd.R_new' (Kd.R_new' ho0 (Kd.R_lt (rx (Kd.R_mono (Kd.R_far (p := ⟨gb234, 3, none⟩) (Kd.R_far (p := ⟨gb234, 2, none⟩) (Kd.R_far (p := ⟨gb234, 1, none⟩) (Kd.R_far (p := ⟨gb234, 0, none⟩) (Kd.R_types HO_222002.out BK234.out (by decide)) (fun _ hk => hk.2) (.int .i64 t223)) (fun _ hk => hk.2) (.slice Ao49 t224.length co49)) (fun _ hk => hk.2) (.slice Ao50 t227.length co50)) (fun _ hk => hk.2) (.slice Ao51 t230.length co51)) (fun _ h_ => h_.1))))) (Kd.R_lt (rx (Kd.R_mono (Kd.R_far (p := ⟨gb234, 3, none⟩) (Kd.R_far (p := ⟨gb234, 2, none⟩) (Kd.R_far (p := ⟨gb234, 1, none⟩) (Kd.R_far (p := ⟨gb234, 0, none⟩) (Kd.R_types HO_222003.out BK234.out (by decide)) (fun _ hk => hk.2) (.int .i64 t223)) (fun _ hk => hk.2) (.slice Ao49 t224.length co49)) (fun _ hk => hk.2) (.slice Ao50 t227.length co50)) (fun _ hk => hk.2) (.slice Ao51 t230.length co51)) (fun _ h_ => h_.1))))) (Kd.R_lt (rx (Kd.R_mono (Kd.R_far (p := ⟨gb234, 3, none⟩) (Kd.R_far (p := ⟨gb234, 2, none⟩) (Kd.R_far (p := ⟨gb234, 1, none⟩) (Kd.R_far (p := ⟨gb234, 0, none⟩) (Kd.R_types HO229.out BK234.out (by decide)) (fun _ hk => hk.2) (.int .i64 t223)) (fun _ hk => hk.2) (.slice Ao49 t224.length co49)) (fun _ hk => hk.2) (.slice Ao50 t227.length co50)) (fun _ hk => hk.2) (.slice Ao51 t230.length co51)) (fun _ h_ => h_.1))))) (Kd.R_lt (rx (Kd.R_mono (Kd.R_far (p := ⟨gb234, 3, none⟩) (Kd.R_far (p := ⟨gb234, 2, none⟩) (Kd.R_far (p := ⟨gb234, 1, none⟩) (Kd.R_far (p := ⟨gb234, 0, none⟩) (Kd.R_types HO232.out BK234.out (by decide)) (fun _ hk => hk.2) (.int .i64 t223)) (fun _ hk => hk.2) (.slice Ao49 t224.length co49)) (fun _ hk => hk.2) (.slice Ao50 t227.length co50)) (fun _ hk => hk.2) (.slice Ao51 t230.length co51)) (fun _ h_ => h_.1))))) (below_size (hbx HB))); replace HO_222002 := Aside0.mk (Kd.R_elder' (rx (Kd.R_mono (Kd.R_far (p := ⟨gb234, 3, none⟩) (Kd.R_far (p := ⟨gb234, 2, none⟩) (Kd.R_far (p := ⟨gb234, 1, none⟩) (Kd.R_far (p := ⟨gb234, 0, none⟩) (Kd.R_types HO_222002.out BK234.out (by decide)) (fun _ hk => hk.2) (.int .i64 t223)) (fun _ hk => hk.2) (.slice Ao49 t224.length co49)) (fun _ hk => hk.2) (.slice Ao50 t227.length co50)) (fun _ hk => hk.2) (.slice Ao51 t230.length co51)) (fun _ h_ => h_.1))) (Kd.R_base ho0) hb); replace HO_222003 := Aside0.mk (Kd.R_elder' (rx (Kd.R_mono (Kd.R_far (p := ⟨gb234, 3, none⟩) (Kd.R_far (p := ⟨gb234, 2, none⟩) (Kd.R_far (p := ⟨gb234, 1, none⟩) (Kd.R_far (p := ⟨gb234, 0, none⟩) (Kd.R_types HO_222003.out BK234.out (by decide)) (fun _ hk => hk.2) (.int .i64 t223)) (fun _ hk => hk.2) (.slice Ao49 t224.length co49)) (fun _ hk => hk.2) (.slice Ao50 t227.length co50)) (fun _ hk => hk.2) (.slice Ao51 t230.length co51)) (fun _ h_ => h_.1))) (Kd.R_base ho0) hb); replace HO229 := Aside0.mk (Kd.R_elder' (rx (Kd.R_mono (Kd.R_far (p := ⟨gb234, 3, none⟩) (Kd.R_far (p := ⟨gb234, 2, none⟩) (Kd.R_far (p := ⟨gb234, 1, none⟩) (Kd.R_far (p := ⟨gb234, 0, none⟩) (Kd.R_types HO229.out BK234.out (by decide)) (fun _ hk => hk.2) (.int .i64 t223)) (fun _ hk => hk.2) (.slice Ao49 t224.length co49)) (fun _ hk => hk.2) (.slice Ao50 t227.length co50)) (fun _ hk => hk.2) (.slice Ao51 t230.length co51)) (fun _ h_ => h_.1))) (Kd.R_base ho0) hb); replace HO232 := Aside0.mk (Kd.R_elder' (rx (Kd.R_mono (Kd.R_far (p := ⟨gb234, 3, none⟩) (Kd.R_far (p := ⟨gb234, 2, none⟩) (Kd.R_far (p := ⟨gb234, 1, none⟩) (Kd.R_far (p := ⟨gb234, 0, none⟩) (Kd.R_types HO232.out BK234.out (by decide)) (fun _ hk => hk.2) (.int .i64 t223)) (fun _ hk => hk.2) (.slice Ao49 t224.length co49)) (fun _ hk => hk.2) (.slice Ao50 t227.length co50)) (fun _ hk => hk.2) (.slice Ao51 t230.length co51)) (fun _ h_ => h_.1))) (Kd.R_base ho0) hb); replace BK221 := bkfB BK221 hb; replace BK234 := Aside0.mk (blk_below (o := .cells #[.int .i64 t223, .slice Ao49 t224.length co49, .slice Ao50 t227.length co50, .slice Ao51 t230.length co51] 25 (0, 0)) (bkp BK234) hb); replace HB := hbS HB hb; (try clear hb); (try clear hb2); (try clear hk); (try clear hi); (try clear ho0); obtain ⟨z0, z1, z2, z3, y0, y1, y2, y3⟩ := bc4 BK234; have p239 : 0 ≤ (5 : Int) := (by omega); have q239 : 5 < (t227.length : Int) := pos_; obtain ⟨ad239, e239, hx239_0⟩ := Kd.at_int (Kd.R_reads' HO229.out).2.2 5 p239 q239; cases e239; (try simp only [show (5 : Int).toNat = 5 from rfl, Nat.reduceMul, Nat.reduceEqDiff, Go.Addr.add, ↓reduceIte] at hx239_0); have qi239 : (5 < t227.length) = True := eq_true (by omega); (try rw [show ((5 : Int)).toNat = 5 from rfl] at hx239_0); replace p239 := eq_true p239; replace q239 := eq_true q239; have p240 : 0 ≤ (5 : Int) := (by omega); have q240 : 5 < (t230.length : Int) := pos_; obtain ⟨ad240, e240, hx240_0⟩ := Kd.at_int (Kd.R_reads' HO232.out).2.2 5 p240 q240; cases e240; (try simp only [show (5 : Int).toNat = 5 from rfl, Nat.reduceMul, Nat.reduceEqDiff, Go.Addr.add, ↓reduceIte] at hx240_0); have qi240 : (5 < t230.length) = True := eq_true (by omega); (try rw [show ((5 : Int)).toNat = 5 from rfl] at hx240_0); replace p240 := eq_true p240; replace q240 := eq_true q240) | ((with_reducible refine gate_dst (N := 106) rfl ?_); (try (refine gate_guard (by rfl) ?_; dsimp only)); refine Kd.R_lit (Kd.int .i64) _ 3 ?hg (N := 106) ?hd (xs := ([5] : List Int)) (inner := [.int .i64 5]) (ok := fun _ => True) (okp := fun _ => True) ?hr ?hp (fun _ hk => hk) trivial (Below.refl _ _) (Nat.le_refl _) (by simp) ?_; (case hd => rfl); (case hg => rfl); (case hr => first | (go_simp; done) | (go_simp; rfl)); (case hp => exact (Reps.one (show Kd.M (Kd.int .i64) _ _ _ 5 [.int .i64 5] from rfl) (Reps.none _ _))); intro v242 w54 ho55 hb hg_ hnew_; clear hg_ hnew_; (first | rw [← Ny241.out] at ho55 | (simp only [Int.reduceToNat] at ho55; rw [← Ny241.out] at ho55)); replace HO_222001 := rB HO_222001 hb; replace HO226 := rB HO226 hb; have HO243 := Aside0.mk (Kd.R_lower (Kd.R_new' (Kd.R_new' (Kd.R_new' (Kd.R_new' (Kd.R_new' ho55 (Kd.R_lt (ro HO_222002))) (Kd.R_lt (ro HO_222003))) (Kd.R_lt (ro HO229))) (Kd.R_lt (ro HO232))) (Kd.R_lt (ro HO237))) (below_size (hbx HB))); replace HO_222002 := Aside0.mk (Kd.R_elder' (ro HO_222002) (Kd.R_base ho55) hb); replace HO_222003 := Aside0.mk (Kd.R_elder' (ro HO_222003) (Kd.R_base ho55) hb); replace HO229 := Aside0.mk (Kd.R_elder' (ro HO229) (Kd.R_base ho55) hb); replace HO232 := Aside0.mk (Kd.R_elder' (ro HO232) (Kd.R_base ho55) hb); replace HO237 := Aside0.mk (Kd.R_elder' (ro HO237) (Kd.R_base ho55) hb); replace BK221 := bkB BK221 hb; replace BK234 := bkB BK234 hb; replace HB := hbS HB hb; clear hb ho55; obtain ⟨Ao56, co56, eo56⟩ := Kd.R_slice HO237.out; subst eo56; obtain ⟨Ao57, co57, eo57⟩ := Kd.R_slice HO243.out; subst eo57) | (go_at_call 17; (with_reducible refine (slices_Equal_int_int.calls kj3 _ _ t235 _ _ y241 t244 _ ?side1 ?side2 ?side3 ?side4 A40.out).mono ?_); (case side1 => repeat (first | exact (Kd.R_reads' HO237.out).2.2 | (with_reducible refine Kd.C_alloc ?_ _) | (with_reducible refine Kd.C_drewN ?_ _) | (with_reducible refine Kd.C_drew ?_))); (case side2 => exact (Kd.R_reads' HO237.out).2.1); (case side3 => repeat (first | exact (Kd.R_reads' HO243.out).2.2 | (with_reducible refine Kd.C_alloc ?_ _) | (with_reducible refine Kd.C_drewN ?_ _) | (with_reducible refine Kd.C_drew ?_))); (case side4 => exact (Kd.R_reads' HO243.out).2.1); rintro e w' ⟨rfl, ⟨nd, rfl⟩⟩))
              go_ret
              exact ⟨rerr, hbx HB⟩
             ·rw [if_neg c39] at H
              exact absurd H (by simp)
            ·rw [if_neg c38] at H
             exact absurd H (by simp)
           ·rw [if_neg c37] at H
            exact absurd H (by simp)
          ·rw [if_neg c36] at H
           exact absurd H (by simp)
         ·rw [if_neg c35] at H
          exact absurd H (by simp)
        ·rw [if_neg c34] at H
         exact absurd H (by simp)
       ·rw [if_neg c33] at H
        exact absurd H (by simp)
      ·rw [if_neg c32] at H
       exact absurd H (by simp)
     ·rw [if_neg c31] at H
      exact absurd H (by simp)
    ·rw [if_neg c27] at H
     exact absurd H (by simp)
end Go.Proofs.Ytnipgplobipeeaa.PQ
