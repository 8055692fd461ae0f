-- Printed by fprint.py and zip.py, programs of this session's, over the kit's print; Lean checks it.
import Derived.Test.YtnipgplobipeeaaZ0
import Derived.Test.YtnipgplobipeeaaZf15
import Derived.Test.YtnipgplobipeeaaZf17
import Derived.Test.YtnipgplobipeeaaZf20
import Derived.Test.YtnipgplobipeeaaZf22
import Derived.Test.YtnipgplobipeeaaZf31
import Derived.Test.YtnipgplobipeeaaZf40
namespace Go.Proofs.Ytnipgplobipeeaa.PQ
open Go.RowKit Go.Proofs.YtnipgplobipeeaaW.PrintWords Go.Proofs.YtnipgplobipeeaaW.PrintLast Go.Proofs.YtnipgplobipeeaaW.PrintMore
attribute [local go_sem] max2_int min2_int max_two min_two max_three min_three max_four min_four   -- for this text's walks alone
set_option linter.unusedVariables false
set_option linter.unusedSimpArgs false
def hopmeshlaw12_awake.j0 : Nat → Bool → Int → List (S34) → List Int → List Int → Option (Bool)
 | 0, _, _, _, _, _ => none
 | k + 1, x52, x225000, x225001, x225002, x225003 => if x52 = true then (none) else (if 5 < (x225001.length : Int) then ((quality_Close.f k x225000 (x225001.set (5 : Int).toNat (⟨4, 1⟩ : S34)) x225002 x225003 4 500 900 2).bind fun bt226 => ((quality_Black.f k bt226.1 bt226.2.1 bt226.2.2.1 bt226.2.2.2.1).bind fun bt238 => (if bt226.2.2.2.2 = 0 then (if bt238.2 = 0 then (if bt226.1 = 1 then (if (bt226.2.2.1.length : Int) = 16 then (if (bt226.2.2.2.1.length : Int) = 16 then (if 5 < (bt226.2.2.1.length : Int) then (if (rd bt226.2.2.1 5) = 2 then (if 5 < (bt226.2.2.2.1.length : Int) then (if (rd bt226.2.2.2.1 5) = 1 then ((slices_Equal_int_int.f k bt238.1 (([5] : List Int))).bind fun t247 => (some t247)) else (none)) else (none)) else (none)) else (none)) else (none)) else (none)) else (none)) else (none)) else (none)))) else (none))
def hopmeshlaw12_awake.f (k : Nat)  : Option (Bool) := (quality_Rate.f 4 3).bind fun bt210 => ((quality_Cost.f 4 3).bind fun bt212 => ((quality_New.f).bind fun bt214 => (if (bt214.2.1.length : Int) = 16 then (if (bt214.2.2.1.length : Int) = 16 then (if (bt214.2.2.2.length : Int) = 16 then (if bt210.2 = 0 then (if bt212.2 = 0 then (if bt210.1 = 750 then (hopmeshlaw12_awake.j0 k (bt212.1 != 170) bt214.1 bt214.2.1 bt214.2.2.1 bt214.2.2.2) else (hopmeshlaw12_awake.j0 k true bt214.1 bt214.2.1 bt214.2.2.1 bt214.2.2.2)) else (hopmeshlaw12_awake.j0 k true bt214.1 bt214.2.1 bt214.2.2.1 bt214.2.2.2)) else (hopmeshlaw12_awake.j0 k true bt214.1 bt214.2.1 bt214.2.2.1 bt214.2.2.2)) else (hopmeshlaw12_awake.j0 k true bt214.1 bt214.2.1 bt214.2.2.1 bt214.2.2.2)) else (hopmeshlaw12_awake.j0 k true bt214.1 bt214.2.1 bt214.2.2.1 bt214.2.2.2)) else (hopmeshlaw12_awake.j0 k true bt214.1 bt214.2.1 bt214.2.2.1 bt214.2.2.2))))
theorem hopmeshlaw12_awake.mono_l : ∀ k, (∀ y0 y1 y2 y3 y4, LeO (hopmeshlaw12_awake.j0 k y0 y1 y2 y3 y4) (hopmeshlaw12_awake.j0 (k + 1) y0 y1 y2 y3 y4))
 | 0 => fun _ _ _ _ _ r h => by simp [hopmeshlaw12_awake.j0] at h
 | k + 1 => by
  have ih0 := hopmeshlaw12_awake.mono_l k
  ·intro y0 y1 y2 y3 y4
   unfold hopmeshlaw12_awake.j0
   repeat' first
   | (with_reducible exact ih0 _ _ _ _ _)
   | (with_reducible exact quality_Black.mono _ _ _ _ _)
   | (with_reducible exact quality_Close.mono _ _ _ _ _ _ _ _ _)
   | (with_reducible exact slices_Equal_int_int.mono _ _ _)
   | (with_reducible exact LeO.refl _)
   | (with_reducible exact LeO.none _)
   | (with_reducible refine LeO.ite ?_ ?_)
   | (with_reducible refine LeO.bind ?_ (fun _ => ?_))
   | exact ih0 _ _ _ _ _
   | exact quality_Black.mono _ _ _ _ _
   | exact quality_Close.mono _ _ _ _ _ _ _ _ _
   | exact slices_Equal_int_int.mono _ _ _
   | exact LeO.none _
   | refine LeO.ite ?_ ?_
   | refine LeO.bind ?_ (fun _ => ?_)
theorem hopmeshlaw12_awake.mono : ∀ k, LeO (hopmeshlaw12_awake.f k ) (hopmeshlaw12_awake.f (k + 1) ) := by
 intro  k
 have ih0 := hopmeshlaw12_awake.mono_l k
 unfold hopmeshlaw12_awake.f
 repeat' first
  | (with_reducible exact ih0 _ _ _ _ _)
  | (with_reducible exact quality_Black.mono _ _ _ _ _)
  | (with_reducible exact quality_Close.mono _ _ _ _ _ _ _ _ _)
  | (with_reducible exact slices_Equal_int_int.mono _ _ _)
  | (with_reducible exact LeO.refl _)
  | (with_reducible exact LeO.none _)
  | (with_reducible refine LeO.ite ?_ ?_)
  | (with_reducible refine LeO.bind ?_ (fun _ => ?_))
  | exact ih0 _ _ _ _ _
  | exact quality_Black.mono _ _ _ _ _
  | exact quality_Close.mono _ _ _ _ _ _ _ _ _
  | exact slices_Equal_int_int.mono _ _ _
  | exact LeO.none _
  | refine LeO.ite ?_ ?_
  | refine LeO.bind ?_ (fun _ => ?_)
set_option maxHeartbeats 8000000 in
set_option maxRecDepth 100000 in
theorem hopmeshlaw12_awake.calls (k : Nat)  (r : Bool) (w : World) (h : hopmeshlaw12_awake.f k  = some r) :
 Calls Try.prog 10 #[] w fun e w' => e = .returned (.bool r) ∧ Below w.heap.size w w' := by
 have hu34 := Try.underlying34
 have hu25 := Try.underlying25
 have HB := Aside0.mk (Below.refl w.heap.size w)
 have H : ((quality_Rate.f 4 3).bind fun bt210 => ((quality_Cost.f 4 3).bind fun bt212 => ((quality_New.f).bind fun bt214 => (if (bt214.2.1.length : Int) = 16 then (if (bt214.2.2.1.length : Int) = 16 then (if (bt214.2.2.2.length : Int) = 16 then (if bt210.2 = 0 then (if bt212.2 = 0 then (if bt210.1 = 750 then (hopmeshlaw12_awake.j0 k (bt212.1 != 170) bt214.1 bt214.2.1 bt214.2.2.1 bt214.2.2.2) else (hopmeshlaw12_awake.j0 k true bt214.1 bt214.2.1 bt214.2.2.1 bt214.2.2.2)) else (hopmeshlaw12_awake.j0 k true bt214.1 bt214.2.1 bt214.2.2.1 bt214.2.2.2)) else (hopmeshlaw12_awake.j0 k true bt214.1 bt214.2.1 bt214.2.2.1 bt214.2.2.2)) else (hopmeshlaw12_awake.j0 k true bt214.1 bt214.2.1 bt214.2.2.1 bt214.2.2.2)) else (hopmeshlaw12_awake.j0 k true bt214.1 bt214.2.1 bt214.2.2.1 bt214.2.2.2)) else (hopmeshlaw12_awake.j0 k true bt214.1 bt214.2.1 bt214.2.2.1 bt214.2.2.2))))) = some r := h
 clear h
 replace H := Option.bind_eq_some_iff.mp H
 obtain ⟨⟨t210, t211⟩, A10, H⟩ := H
 (try dsimp only at H)
 have A1 := Aside0.mk A10
 clear A10
 replace H := Option.bind_eq_some_iff.mp H
 obtain ⟨⟨t212, t213⟩, A20, H⟩ := H
 (try dsimp only at H)
 have A2 := Aside0.mk A20
 clear A20
 replace H := Option.bind_eq_some_iff.mp H
 obtain ⟨⟨t214, t215, t218, t221⟩, A30, H⟩ := H
 (try dsimp only at H)
 have A3 := Aside0.mk A30
 clear A30
 have HC4 := Aside0.mk H
 clear H
 go_enter Try.func10, Try.ntmps10
 go_upto_region 4 with (first | ((with_reducible refine gate_callee (f := 20) rfl ?_); refine goesL_ (some 12) rfl rfl Try.func20 (by kernel_rfl) rfl #[.agg #[.int .i64 4, .int .i64 3]] rfl sma ?_; (with_reducible refine (quality_Rate.calls 4 3 t210 t211 _ A1.out).mono ?_); rintro e w5 ⟨rfl, hb⟩; refine ⟨_, rfl, ?_⟩; replace HB := hbS HB hb; (try clear hb); (try clear hb2); (try clear hk); (try clear hi)) | ((with_reducible refine gate_callee (f := 22) rfl ?_); refine goesL_ (some 17) rfl rfl Try.func22 (by kernel_rfl) rfl #[.agg #[.int .i64 4, .int .i64 3]] rfl sma ?_; (with_reducible refine (quality_Cost.calls 4 3 t212 t213 _ A2.out).mono ?_); rintro e w6 ⟨rfl, hb⟩; refine ⟨_, rfl, ?_⟩; replace HB := hbS HB hb; (try clear hb); (try clear hb2); (try clear hk); (try clear hi)) | ((with_reducible refine gate_callee (f := 31) rfl ?_); refine goesL_ (some 20) rfl rfl Try.func31 (by kernel_rfl) rfl #[] rfl sma ?_; (with_reducible refine (quality_New.calls  t214 t215 t218 t221 _ A3.out).mono ?_); rintro e w7 ⟨v216, v219, v222, rfl, ho0, ho1, ho2, hb⟩; refine ⟨_, rfl, ?_⟩; have HO217 := Aside0.mk (Kd.R_lower ho0 (below_size (hbx HB))); have HO220 := Aside0.mk (Kd.R_lower ho1 (below_size (hbx HB))); have HO223 := Aside0.mk (Kd.R_lower ho2 (below_size (hbx HB))); replace HB := hbS HB hb; (try clear hb); (try clear hb2); (try clear hk); (try clear hi); (try clear ho0); (try clear ho1); (try clear ho2)) | ((with_reducible refine gate_dst (N := 5) rfl ?_); (try (refine gate_guard (by rfl) ?_; dsimp only)); refine boxE 5 #[.int .i64 0, .slice none 0 0, .slice none 0 0, .slice none 0 0] 25 ?_; intro gb224 hg w8 hbox hb; replace HO217 := rB HO217 hb; replace HO220 := rB HO220 hb; replace HO223 := rB HO223 hb; have BK224 := Aside0.mk (hbox); have GW224 := gw hg HB; have GE224 := gw hg HB; replace HB := hbS HB hb; clear hb hbox hg; obtain ⟨z0, z1, z2, z3, y0, y1, y2, y3⟩ := bc4 BK224; obtain ⟨Ao10, co10, eo10⟩ := Kd.R_slice HO217.out; subst eo10; obtain ⟨Ao11, co11, eo11⟩ := Kd.R_slice HO220.out; subst eo11; obtain ⟨Ao12, co12, eo12⟩ := Kd.R_slice HO223.out; subst eo12))
 (try simp only [Act.put, List.setIfInBounds_toArray, List.set_cons_zero, List.set_cons_succ])
 go_cut [52] (fun v52 wc => ∃ (kq : Nat) (x52_3 : Bool), v52 = .bool x52_3 ∧ Aside0 (hopmeshlaw12_awake.j0 kq x52_3 t214 t215 t218 t221 = some r) ∧ Aside0 (kq ≤ k) ∧ Aside0 (Kd.R k34 34 wc w.heap.size (fun _ => True) (.slice Ao10 t215.length co10) t215) ∧ Aside0 (Kd.R (Kd.int .i64) 3 wc w.heap.size (fun k_ => some k_ ≠ ((.slice Ao12 t221.length co12) : Value).ownBlock) (.slice Ao11 t218.length co11) t218) ∧ Aside0 (Kd.R (Kd.int .i64) 3 wc w.heap.size (fun k_ => some k_ ≠ ((.slice Ao11 t218.length co11) : Value).ownBlock) (.slice Ao12 t221.length co12) t221) ∧ Aside0 (wc.heap[gb224]? = some (.cells #[.int .i64 t214, (.slice Ao10 t215.length co10), (.slice Ao11 t218.length co11), (.slice Ao12 t221.length co12)] 25 (0, 0))) ∧ Aside0 (Below w.heap.size w wc))
 case first =>
  have H := HC4.out
  clear HC4
  by_cases c13 : (t215.length : Int) = 16
  ·rw [if_pos c13] at H
   have c13b0 : ((t215.length : Int) == 16) = true := beq_iff_eq.mpr c13
   have c13b1 : ((t215.length : Int) != 16) = false := bne_eq_false_iff_eq.mpr c13
   clear c13
   (first | rw [c13b0] | (simp only [i64_w, i32_w]; rw [c13b0]) | skip)
   by_cases c14 : (t218.length : Int) = 16
   ·rw [if_pos c14] at H
    have c14b0 : ((t218.length : Int) == 16) = true := beq_iff_eq.mpr c14
    have c14b1 : ((t218.length : Int) != 16) = false := bne_eq_false_iff_eq.mpr c14
    clear c14
    by_cases c15 : (t221.length : Int) = 16
    ·rw [if_pos c15] at H
     have c15b0 : ((t221.length : Int) == 16) = true := beq_iff_eq.mpr c15
     have c15b1 : ((t221.length : Int) != 16) = false := bne_eq_false_iff_eq.mpr c15
     clear c15
     by_cases c16 : t211 = 0
     ·rw [if_pos c16] at H
      have c16b0 : (t211 == 0) = true := beq_iff_eq.mpr c16
      have c16b1 : (t211 != 0) = false := bne_eq_false_iff_eq.mpr c16
      clear c16
      by_cases c17 : t213 = 0
      ·rw [if_pos c17] at H
       have c17b0 : (t213 == 0) = true := beq_iff_eq.mpr c17
       have c17b1 : (t213 != 0) = false := bne_eq_false_iff_eq.mpr c17
       clear c17
       by_cases c18 : t210 = 750
       ·rw [if_pos c18] at H
        have c18b0 : (t210 == 750) = true := beq_iff_eq.mpr c18
        have c18b1 : (t210 != 750) = false := bne_eq_false_iff_eq.mpr c18
        clear c18
        have H' := Aside0.mk H
        clear H
        obtain ⟨z0, z1, z2, z3, y0, y1, y2, y3⟩ := bc4 BK224
        go_wp2
        go_meet
        case rel => exact ⟨_, ((t212 != 170)), rfs, H', kle, ⟨Kd.R_mono (rty (rfo HO217) BK224) (fun _ hk => trivial)⟩, rfA HO220, rfA HO223, bkpA BK224, hbA HB⟩
       ·rw [if_neg c18] at H
        have c18b0 : (t210 == 750) = false := beq_eq_false_iff_ne.mpr c18
        have c18b1 : (t210 != 750) = true := bne_iff_ne.mpr c18
        have H' := Aside0.mk H
        clear H
        obtain ⟨z0, z1, z2, z3, y0, y1, y2, y3⟩ := bc4 BK224
        go_wp2
        go_meet
        case rel => exact ⟨_, (true), rfs, H', kle, ⟨Kd.R_mono (rty (rfo HO217) BK224) (fun _ hk => trivial)⟩, rfA HO220, rfA HO223, bkpA BK224, hbA HB⟩
      ·rw [if_neg c17] at H
       have c17b0 : (t213 == 0) = false := beq_eq_false_iff_ne.mpr c17
       have c17b1 : (t213 != 0) = true := bne_iff_ne.mpr c17
       have H' := Aside0.mk H
       clear H
       obtain ⟨z0, z1, z2, z3, y0, y1, y2, y3⟩ := bc4 BK224
       go_wp2
       go_meet
       case rel => exact ⟨_, (true), rfs, H', kle, ⟨Kd.R_mono (rty (rfo HO217) BK224) (fun _ hk => trivial)⟩, rfA HO220, rfA HO223, bkpA BK224, hbA HB⟩
     ·rw [if_neg c16] at H
      have c16b0 : (t211 == 0) = false := beq_eq_false_iff_ne.mpr c16
      have c16b1 : (t211 != 0) = true := bne_iff_ne.mpr c16
      have H' := Aside0.mk H
      clear H
      obtain ⟨z0, z1, z2, z3, y0, y1, y2, y3⟩ := bc4 BK224
      go_wp2
      go_meet
      case rel => exact ⟨_, (true), rfs, H', kle, ⟨Kd.R_mono (rty (rfo HO217) BK224) (fun _ hk => trivial)⟩, rfA HO220, rfA HO223, bkpA BK224, hbA HB⟩
    ·rw [if_neg c15] at H
     have c15b0 : ((t221.length : Int) == 16) = false := beq_eq_false_iff_ne.mpr c15
     have c15b1 : ((t221.length : Int) != 16) = true := bne_iff_ne.mpr c15
     have H' := Aside0.mk H
     clear H
     obtain ⟨z0, z1, z2, z3, y0, y1, y2, y3⟩ := bc4 BK224
     go_wp2
     go_meet
     case rel => exact ⟨_, (true), rfs, H', kle, ⟨Kd.R_mono (rty (rfo HO217) BK224) (fun _ hk => trivial)⟩, rfA HO220, rfA HO223, bkpA BK224, hbA HB⟩
   ·rw [if_neg c14] at H
    have c14b0 : ((t218.length : Int) == 16) = false := beq_eq_false_iff_ne.mpr c14
    have c14b1 : ((t218.length : Int) != 16) = true := bne_iff_ne.mpr c14
    have H' := Aside0.mk H
    clear H
    obtain ⟨z0, z1, z2, z3, y0, y1, y2, y3⟩ := bc4 BK224
    go_wp2
    go_meet
    case rel => exact ⟨_, (true), rfs, H', kle, ⟨Kd.R_mono (rty (rfo HO217) BK224) (fun _ hk => trivial)⟩, rfA HO220, rfA HO223, bkpA BK224, hbA HB⟩
  ·rw [if_neg c13] at H
   have c13b0 : ((t215.length : Int) == 16) = false := beq_eq_false_iff_ne.mpr c13
   have c13b1 : ((t215.length : Int) != 16) = true := bne_iff_ne.mpr c13
   (first | rw [c13b0] | (simp only [i64_w, i32_w]; rw [c13b0]) | skip)
   have H' := Aside0.mk H
   clear H
   obtain ⟨z0, z1, z2, z3, y0, y1, y2, y3⟩ := bc4 BK224
   go_wp2
   go_meet
   case rel => exact ⟨_, (true), rfs, H', kle, ⟨Kd.R_mono (rty (rfo HO217) BK224) (fun _ hk => trivial)⟩, rfA HO220, rfA HO223, bkpA BK224, hbA HB⟩
 case rest =>
  clear HC4
  try clear hcz9_0
  try clear hcz9_1
  try clear hcz9_2
  try clear hcz9_3
  try clear hfz9_0
  try clear hfz9_1
  try clear hfz9_2
  try clear hfz9_3
  obtain ⟨kq, x52_3, rfl, HA, HJ3, HO_225001, HO_225002, HO_225003, BK224, HB⟩ := hcut
  cases kq with
  | zero => exact absurd HA.out (by simp [hopmeshlaw12_awake.j0])
  | succ kj3 =>
   have H := HA.out
   clear HA
   simp only [hopmeshlaw12_awake.j0] at H
   by_cases c26 : x52_3 = true
   ·subst c26
    rw [if_pos rfl] at H
    exact absurd H (by simp)
   ·replace c26 := Bool.eq_false_iff.mpr c26
    subst c26
    rw [if_neg (show ¬ (false = true) by decide)] at H
    by_cases c27 : 5 < (t215.length : Int)
    ·rw [if_pos c27] at H
     have c27b0 : decide (5 < (t215.length : Int)) = true := decide_eq_true c27
     have c27b1 : decide (5 < t215.length) = true := decide_eq_true (by omega)
     clear c27
     obtain ⟨y225, hy225⟩ : ∃ y_ : List (S34), y_ = (t215.set (5 : Int).toNat (⟨4, 1⟩ : S34)) := ⟨_, rfl⟩
     replace H : ((quality_Close.f kj3 t214 y225 t218 t221 4 500 900 2).bind fun bt226 => ((quality_Black.f kj3 bt226.1 bt226.2.1 bt226.2.2.1 bt226.2.2.2.1).bind fun bt238 => (if bt226.2.2.2.2 = 0 then (if bt238.2 = 0 then (if bt226.1 = 1 then (if (bt226.2.2.1.length : Int) = 16 then (if (bt226.2.2.2.1.length : Int) = 16 then (if 5 < (bt226.2.2.1.length : Int) then (if (rd bt226.2.2.1 5) = 2 then (if 5 < (bt226.2.2.2.1.length : Int) then (if (rd bt226.2.2.2.1 5) = 1 then ((slices_Equal_int_int.f kj3 bt238.1 (([5] : List Int))).bind fun t247 => (some t247)) else (none)) else (none)) else (none)) else (none)) else (none)) else (none)) else (none)) else (none)) else (none)))) = some r := by first | (rw [hy225]; with_reducible exact H) | (have H2_ := (Option.bind_some _ _).symm.trans H; rw [hy225]; with_reducible exact H2_) | (have H2_ := (Option.bind_some _ _).symm.trans H; with_reducible exact H2_) | with_reducible exact H | (rw [hy225]; exact H) | exact H
     have Ny225 := Aside0.mk hy225
     clear hy225
     replace H := Option.bind_eq_some_iff.mp H
     obtain ⟨⟨t226, t227, t230, t233, t236⟩, A290, H⟩ := H
     (try dsimp only at H)
     have A29 := Aside0.mk A290
     clear A290
     replace H := Option.bind_eq_some_iff.mp H
     obtain ⟨⟨t238, t241⟩, A300, H⟩ := H
     (try dsimp only at H)
     have A30 := Aside0.mk A300
     clear A300
     by_cases c31 : t236 = 0
     ·rw [if_pos c31] at H
      have c31b0 : (t236 == 0) = true := beq_iff_eq.mpr c31
      have c31b1 : (t236 != 0) = false := bne_eq_false_iff_eq.mpr c31
      clear c31
      by_cases c32 : t241 = 0
      ·rw [if_pos c32] at H
       have c32b0 : (t241 == 0) = true := beq_iff_eq.mpr c32
       have c32b1 : (t241 != 0) = false := bne_eq_false_iff_eq.mpr c32
       clear c32
       by_cases c33 : t226 = 1
       ·rw [if_pos c33] at H
        have c33b0 : (t226 == 1) = true := beq_iff_eq.mpr c33
        have c33b1 : (t226 != 1) = false := bne_eq_false_iff_eq.mpr c33
        clear c33
        by_cases c34 : (t230.length : Int) = 16
        ·rw [if_pos c34] at H
         have c34b0 : ((t230.length : Int) == 16) = true := beq_iff_eq.mpr c34
         have c34b1 : ((t230.length : Int) != 16) = false := bne_eq_false_iff_eq.mpr c34
         clear c34
         by_cases c35 : (t233.length : Int) = 16
         ·rw [if_pos c35] at H
          have c35b0 : ((t233.length : Int) == 16) = true := beq_iff_eq.mpr c35
          have c35b1 : ((t233.length : Int) != 16) = false := bne_eq_false_iff_eq.mpr c35
          clear c35
          by_cases c36 : 5 < (t230.length : Int)
          ·rw [if_pos c36] at H
           have c36b0 : decide (5 < (t230.length : Int)) = true := decide_eq_true c36
           have c36b1 : decide (5 < t230.length) = true := decide_eq_true (by omega)
           clear c36
           by_cases c37 : (rd t230 5) = 2
           ·rw [if_pos c37] at H
            have c37b0 : ((rd t230 5) == 2) = true := beq_iff_eq.mpr c37
            have c37b1 : ((rd t230 5) != 2) = false := bne_eq_false_iff_eq.mpr c37
            clear c37
            by_cases c38 : 5 < (t233.length : Int)
            ·rw [if_pos c38] at H
             have c38b0 : decide (5 < (t233.length : Int)) = true := decide_eq_true c38
             have c38b1 : decide (5 < t233.length) = true := decide_eq_true (by omega)
             clear c38
             by_cases c39 : (rd t233 5) = 1
             ·rw [if_pos c39] at H
              have c39b0 : ((rd t233 5) == 1) = true := beq_iff_eq.mpr c39
              have c39b1 : ((rd t233 5) != 1) = false := bne_eq_false_iff_eq.mpr c39
              clear c39
              obtain ⟨y244, hy244⟩ : ∃ y_ : List Int, y_ = (([5] : List Int)) := ⟨_, rfl⟩
              replace H : ((slices_Equal_int_int.f kj3 t238 y244).bind fun t247 => (some t247)) = some r := by first | (rw [hy244]; with_reducible exact H) | (have H2_ := (Option.bind_some _ _).symm.trans H; rw [hy244]; with_reducible exact H2_) | (have H2_ := (Option.bind_some _ _).symm.trans H; with_reducible exact H2_) | with_reducible exact H | (rw [hy244]; exact H) | exact H
              have Ny244 := Aside0.mk hy244
              clear hy244
              replace H := Option.bind_eq_some_iff.mp H
              obtain ⟨t247, A400, H⟩ := H
              (try dsimp only at H)
              have A40 := Aside0.mk A400
              clear A400
              obtain rfl := Option.some.inj H
              obtain ⟨z0, z1, z2, z3, y0, y1, y2, y3⟩ := bc4 BK224
              have p28 : 0 ≤ (5 : Int) := (by omega)
              have q28 : (5 : Int) < ((t215.length : Int) : Int) := pos_
              have qi28 : (5 < t215.length) = True := eq_true (by omega)
              obtain ⟨go28, co28, eo28, gb28, gl28, cl28, HG28⟩ := Kd.R_form HO_225001.out (by omega)
              (first | cases eo28 | (injection eo28 with ea_ en_ ec_; (first | subst ea_ | (injection ea_ with ea_; subst ea_)); subst ec_; clear en_))
              have GB28 := Aside0.mk gb28
              have GG28 := Aside0.mk HG28
              clear gb28 gl28 HG28
              obtain ⟨ce28, hcl28, hM28, hcc28, hfr28⟩ := Kd.R_elem HO_225001.out z34 (5 : Int) p28 q28
              obtain rfl := k34_openM hM28
              have hx28_0 : wc.cell? ⟨go28, (5 : Int).toNat * 2, none⟩ = some (.int .i64 ((rd_T34 t215 5).f0)) := hcc28 0 _ rfl
              have hx28_1 : wc.cell? ⟨go28, (5 : Int).toNat * 2 + 1, none⟩ = some (.int .i64 ((rd_T34 t215 5).f1)) := hcc28 1 _ rfl
              have hf28_0 : wc.frozen? ⟨go28, (5 : Int).toNat * 2, none⟩ = false := hfr28 0
              have hf28_1 : wc.frozen? ⟨go28, (5 : Int).toNat * 2 + 1, none⟩ = false := hfr28 1
              clear hcl28 hcc28 hfr28 hM28
              (try rw [show ((5 : Int)).toNat = 5 from rfl] at hx28_0)
              (try simp only [Nat.reduceMul, Nat.zero_mul, Nat.zero_add, Nat.reduceAdd] at hx28_0)
              (try rw [show ((5 : Int)).toNat = 5 from rfl] at hf28_0)
              (try simp only [Nat.reduceMul, Nat.zero_mul, Nat.zero_add, Nat.reduceAdd] at hf28_0)
              (try rw [show ((5 : Int)).toNat = 5 from rfl] at hx28_1)
              (try simp only [Nat.reduceMul, Nat.zero_mul, Nat.zero_add, Nat.reduceAdd] at hx28_1)
              (try rw [show ((5 : Int)).toNat = 5 from rfl] at hf28_1)
              (try simp only [Nat.reduceMul, Nat.zero_mul, Nat.zero_add, Nat.reduceAdd] at hf28_1)
              replace p28 := eq_true p28
              replace q28 := eq_true q28
              have HX42 := Aside0.mk (show Kd.R k34 34 wc w.heap.size (fun _ => True) (.slice (some ⟨go28, 0, none⟩) t215.length co10) t215 from (ro HO_225001))
              obtain ⟨ce42, hcl42, hM42, hcc42, hfr42⟩ := Kd.R_elem HX42.out z34 (5 : Int) (by omega) (by have h_ : (5 : Int) < ((t215.length : Int) : Int) := pos_; first | exact h_ | (have e_ := (Kd.R_reads' HO_225001.out).1; omega) | simpa using h_)
              obtain rfl := k34_openM hM42
              have HP42 := Kd.R_seg HX42.out (5 : Int) (by omega) (by have h_ : (5 : Int) < ((t215.length : Int) : Int) := pos_; first | exact h_ | (have e_ := (Kd.R_reads' HO_225001.out).1; omega) | simpa using h_) (seg := [.int .i64 4, .int .i64 1]) (j := 0) hcl42 hcc42 (show 2 ≤ 2 from by decide) (x' := (⟨4, 1⟩ : S34)) (k34_mkM _ _ _ (⟨4, 1⟩ : S34) ) (fun _ hk => hk)
              have hx42_0 := hcc42 0 _ rfl
              (try simp only [show (k34).sz = 2 from rfl, Nat.mul_one, Nat.add_zero] at hx42_0)
              (try rw [show ((5 : Int)).toNat = 5 from rfl] at hx42_0)
              (try simp only [Nat.reduceMul, Nat.zero_mul, Nat.zero_add, Nat.reduceAdd] at hx42_0)
              have hf42_0 := hfr42 0
              (try simp only [show (k34).sz = 2 from rfl, Nat.mul_one, Nat.add_zero] at hf42_0)
              (try rw [show ((5 : Int)).toNat = 5 from rfl] at hf42_0)
              (try simp only [Nat.reduceMul, Nat.zero_mul, Nat.zero_add, Nat.reduceAdd] at hf42_0)
              have hx42_1 := hcc42 1 _ rfl
              (try simp only [show (k34).sz = 2 from rfl, Nat.mul_one, Nat.add_zero] at hx42_1)
              (try rw [show ((5 : Int)).toNat = 5 from rfl] at hx42_1)
              (try simp only [Nat.reduceMul, Nat.zero_mul, Nat.zero_add, Nat.reduceAdd] at hx42_1)
              have hf42_1 := hfr42 1
              (try simp only [show (k34).sz = 2 from rfl, Nat.mul_one, Nat.add_zero] at hf42_1)
              (try rw [show ((5 : Int)).toNat = 5 from rfl] at hf42_1)
              (try simp only [Nat.reduceMul, Nat.zero_mul, Nat.zero_add, Nat.reduceAdd] at hf42_1)
              clear hcl42 hcc42 hfr42 hM42
              go_wp2_with (first | ((with_reducible refine gate_store (t := 34) (p := 56) rfl ?_); refine store_event (t := 34) (p := 56) (v := ?vo_w43) (w1 := ((wc.setCell ⟨go28, 10, none⟩ (.int .i64 4)).setCell ⟨go28, 11, none⟩ (.int .i64 1))) ?hg ?ho ?hn ?hr ?_; (case ho => rfl); (case hg => rfl); (case hn => rfl); (case hr => first | (go_simp; done) | (go_simp; rfl)); intro w43 hw; have hg : wc.grownBy w43 (some go28) := (by rw [hw]; exact HP42.2); have hp_ : Kd.R k34 34 w43 w.heap.size (fun _ => True) (.slice (some ⟨go28, 0, none⟩) t215.length co10) y225 := (by rw [hw, Ny225.out]; exact HP42.1); clear HP42; replace HO_225002 := Aside0.mk (Kd.R_over' (v := (.slice (some ⟨go28, 0, none⟩) t215.length co10)) (ro HO_225002) (Kd.R_typed HO_225001.out) (by decide) hg); replace HO_225003 := Aside0.mk (Kd.R_over' (v := (.slice (some ⟨go28, 0, none⟩) t215.length co10)) (ro HO_225003) (Kd.R_typed HO_225001.out) (by decide) hg); replace BK224 := Aside0.mk (blk_grown (bk BK224) hg (Kd.R_ne HO_225001.out BK224.out (by decide))); replace HO_225001 := Aside0.mk (hp_); replace HB := Aside0.mk ((by rw [hw]; exact below_set (below_set (HB.out) GB28.out) GB28.out : Below w.heap.size w w43)); clear hg hw hp_; obtain ⟨z0, z1, z2, z3, y0, y1, y2, y3⟩ := bc4 BK224) | ((with_reducible refine gate_callee (f := 40) rfl ?_); refine goesL_ (some 59) rfl rfl Try.func40 (by kernel_rfl) rfl #[.agg #[.int .i64 t214, .slice (some ⟨go28, 0, none⟩) y225.length co10, .slice Ao11 t218.length co11, .slice Ao12 t221.length co12], .int .i64 4, .int .i64 500, .int .i64 900, .int .i64 2] rfl (by (try simp only [List.map_toArray, List.map_cons, List.map_nil]); first | done | (rw [show y225.length = t215.length from (Kd.R_reads' HO_225001.out).1.symm] <;> rfl) | rfl | (simp only [List.length_drop, List.length_take]; rfl)) ?_; (with_reducible refine (quality_Close.calls kj3 t214 _ _ y225 _ _ t218 _ _ t221 4 500 900 2 t226 t227 t230 t233 t236 _ ?side1 ?side2 ?side3 ?side4 ?side5 ?side6 A29.out).mono ?_); (case side1 => repeat (first | exact (Kd.R_reads' HO_225001.out).2.2 | (with_reducible refine Kd.C_alloc ?_ _) | (with_reducible refine Kd.C_drewN ?_ _) | (with_reducible refine Kd.C_drew ?_))); (case side2 => rw [show y225.length = t215.length from (Kd.R_reads' HO_225001.out).1.symm]; exact (Kd.R_reads' HO_225001.out).2.1); (case side3 => repeat (first | exact (Kd.R_reads' HO_225002.out).2.2 | (with_reducible refine Kd.C_alloc ?_ _) | (with_reducible refine Kd.C_drewN ?_ _) | (with_reducible refine Kd.C_drew ?_))); (case side4 => exact (Kd.R_reads' HO_225002.out).2.1); (case side5 => repeat (first | exact (Kd.R_reads' HO_225003.out).2.2 | (with_reducible refine Kd.C_alloc ?_ _) | (with_reducible refine Kd.C_drewN ?_ _) | (with_reducible refine Kd.C_drew ?_))); (case side6 => exact (Kd.R_reads' HO_225003.out).2.1); rintro e w45 ⟨v228, v231, v234, rfl, ho0, ho1, ho2, hb⟩; refine ⟨_, rfl, ?_⟩; have HO229 := Aside0.mk (Kd.R_lower (Kd.R_new' ho0 (Kd.R_lt (ro HO_225001))) (below_size (hbx HB))); replace HO_225001 := Aside0.mk (Kd.R_elder' (ro HO_225001) (Kd.R_base ho0) hb); have HO232 := Aside0.mk (Kd.R_lower (Kd.R_new' (Kd.R_new' ho1 (Kd.R_lt (ro HO_225002))) (Kd.R_lt (ro HO_225003))) (below_size (hbx HB))); have HO235 := Aside0.mk (Kd.R_lower (Kd.R_new' (Kd.R_new' ho2 (Kd.R_lt (ro HO_225002))) (Kd.R_lt (ro HO_225003))) (below_size (hbx HB))); replace HO_225002 := Aside0.mk (Kd.R_mono (Kd.R_told (Kd.R_told (Kd.R_old (ro HO_225002) hb) (Kd.R_base ho1)) (Kd.R_base ho2)) (fun _ h_ => h_.1)); replace HO_225003 := Aside0.mk (Kd.R_mono (Kd.R_told (Kd.R_told (Kd.R_old (ro HO_225003) hb) (Kd.R_base ho1)) (Kd.R_base ho2)) (fun _ h_ => h_.1)); replace BK224 := bkB BK224 hb; replace HB := hbS HB hb; (try clear hb); (try clear hb2); (try clear hk); (try clear hi); (try clear ho0); (try clear ho1); (try clear ho2)) | ((with_reducible refine gate_dst (N := 6) rfl ?_); (try (refine gate_guard (by rfl) ?_; dsimp only)); refine boxE 6 #[.int .i64 0, .slice none 0 0, .slice none 0 0, .slice none 0 0] 25 ?_; intro gb237 hg w46 hbox hb; replace HO_225001 := rB HO_225001 hb; replace HO_225002 := rB HO_225002 hb; replace HO_225003 := rB HO_225003 hb; replace HO229 := rB HO229 hb; replace HO232 := rB HO232 hb; replace HO235 := rB HO235 hb; have BK237 := Aside0.mk (hbox); have GW237 := gw hg HB; have GE237 := gw hg HB; replace HB := hbS HB hb; have NB224_237 := nbl hg BK224; have NB237_224 := nbg hg BK224; replace BK224 := bkB BK224 hb; clear hb hbox hg; have hnb47 := NB237_224.out; have hnc47 := NB224_237.out; obtain ⟨z0, z1, z2, z3, y0, y1, y2, y3⟩ := bc4 BK237; obtain ⟨Ao49, co49, eo49⟩ := Kd.R_slice HO229.out; subst eo49; obtain ⟨Ao50, co50, eo50⟩ := Kd.R_slice HO232.out; subst eo50; obtain ⟨Ao51, co51, eo51⟩ := Kd.R_slice HO235.out; subst eo51) | ((with_reducible refine gate_callee (f := 15) rfl ?_); refine goesL_ (some 64) rfl rfl Try.func15 (by kernel_rfl) rfl #[.agg #[.int .i64 t226, .slice Ao49 t227.length co49, .slice Ao50 t230.length co50, .slice Ao51 t233.length co51]] rfl sma ?_; (with_reducible refine (quality_Black.calls kj3 t226 _ _ t227 _ _ t230 _ _ t233 t238 t241 _ ?side1 ?side2 ?side3 ?side4 ?side5 ?side6 A30.out).mono ?_); (case side1 => refine (Kd.R_reads' (e := 34) (base := w.heap.size) (ok := fun k_ => (True ∧ some k_ ≠ (.slice (some ⟨go28, 0, none⟩) t215.length co10 : Value).ownBlock)) (n := t227.length) (c := co49) ?_).2.2; exact (rx (Kd.R_mono (Kd.R_far (p := ⟨gb237, 3, none⟩) (Kd.R_far (p := ⟨gb237, 2, none⟩) (Kd.R_far (p := ⟨gb237, 1, none⟩) (Kd.R_far (p := ⟨gb237, 0, none⟩) (Kd.R_types HO229.out BK237.out (by decide)) (fun _ hk => hk.2) (.int .i64 t226)) (fun _ hk => hk.2) (.slice Ao49 t227.length co49)) (fun _ hk => hk.2) (.slice Ao50 t230.length co50)) (fun _ hk => hk.2) (.slice Ao51 t233.length co51)) (fun _ h_ => h_.1)))); (case side2 => exact (Kd.R_reads' HO229.out).2.1); (case side3 => refine (Kd.R_reads' (e := 3) (base := w.heap.size) (ok := fun k_ => ((some k_ ≠ (.slice Ao51 t233.length co51 : Value).ownBlock ∧ some k_ ≠ (.slice Ao11 t218.length co11 : Value).ownBlock) ∧ some k_ ≠ (.slice Ao12 t221.length co12 : Value).ownBlock)) (n := t230.length) (c := co50) ?_).2.2; exact (rx (Kd.R_mono (Kd.R_far (p := ⟨gb237, 3, none⟩) (Kd.R_far (p := ⟨gb237, 2, none⟩) (Kd.R_far (p := ⟨gb237, 1, none⟩) (Kd.R_far (p := ⟨gb237, 0, none⟩) (Kd.R_types HO232.out BK237.out (by decide)) (fun _ hk => hk.2) (.int .i64 t226)) (fun _ hk => hk.2) (.slice Ao49 t227.length co49)) (fun _ hk => hk.2) (.slice Ao50 t230.length co50)) (fun _ hk => hk.2) (.slice Ao51 t233.length co51)) (fun _ h_ => h_.1)))); (case side4 => exact (Kd.R_reads' HO232.out).2.1); (case side5 => refine (Kd.R_reads' (e := 3) (base := w.heap.size) (ok := fun k_ => ((some k_ ≠ (.slice Ao50 t230.length co50 : Value).ownBlock ∧ some k_ ≠ (.slice Ao11 t218.length co11 : Value).ownBlock) ∧ some k_ ≠ (.slice Ao12 t221.length co12 : Value).ownBlock)) (n := t233.length) (c := co51) ?_).2.2; exact (rx (Kd.R_mono (Kd.R_far (p := ⟨gb237, 3, none⟩) (Kd.R_far (p := ⟨gb237, 2, none⟩) (Kd.R_far (p := ⟨gb237, 1, none⟩) (Kd.R_far (p := ⟨gb237, 0, none⟩) (Kd.R_types HO235.out BK237.out (by decide)) (fun _ hk => hk.2) (.int .i64 t226)) (fun _ hk => hk.2) (.slice Ao49 t227.length co49)) (fun _ hk => hk.2) (.slice Ao50 t230.length co50)) (fun _ hk => hk.2) (.slice Ao51 t233.length co51)) (fun _ h_ => h_.1)))); (case side6 => exact (Kd.R_reads' HO235.out).2.1); rintro e w52 ⟨v239, rfl, ho0, hb⟩; refine ⟨_, rfl, ?_⟩; replace HO_225001 := Aside0.mk (Kd.R_below (rx (Kd.R_mono (Kd.R_far (p := ⟨gb237, 3, none⟩) (Kd.R_far (p := ⟨gb237, 2, none⟩) (Kd.R_far (p := ⟨gb237, 1, none⟩) (Kd.R_far (p := ⟨gb237, 0, none⟩) (Kd.R_types HO_225001.out BK237.out (by decide)) (fun _ hk => hk.2) (.int .i64 t226)) (fun _ hk => hk.2) (.slice Ao49 t227.length co49)) (fun _ hk => hk.2) (.slice Ao50 t230.length co50)) (fun _ hk => hk.2) (.slice Ao51 t233.length co51)) (fun _ h_ => h_.1))) hb); replace HO229 := Aside0.mk (Kd.R_below (rx (Kd.R_mono (Kd.R_far (p := ⟨gb237, 3, none⟩) (Kd.R_far (p := ⟨gb237, 2, none⟩) (Kd.R_far (p := ⟨gb237, 1, none⟩) (Kd.R_far (p := ⟨gb237, 0, none⟩) (Kd.R_types HO229.out BK237.out (by decide)) (fun _ hk => hk.2) (.int .i64 t226)) (fun _ hk => hk.2) (.slice Ao49 t227.length co49)) (fun _ hk => hk.2) (.slice Ao50 t230.length co50)) (fun _ hk => hk.2) (.slice Ao51 t233.length co51)) (fun _ h_ => h_.1))) hb); have HO240 := Aside0.mk (Kd.R_lower (Kd.R_new' (Kd.R_new' (Kd.R_new' (Kd.R_new' ho0 (Kd.R_lt (rx (Kd.R_mono (Kd.R_far (p := ⟨gb237, 3, none⟩) (Kd.R_far (p := ⟨gb237, 2, none⟩) (Kd.R_far (p := ⟨gb237, 1, none⟩) (Kd.R_far (p := ⟨gb237, 0, none⟩) (Kd.R_types HO_225002.out BK237.out (by decide)) (fun _ hk => hk.2) (.int .i64 t226)) (fun _ hk => hk.2) (.slice Ao49 t227.length co49)) (fun _ hk => hk.2) (.slice Ao50 t230.length co50)) (fun _ hk => hk.2) (.slice Ao51 t233.length co51)) (fun _ h_ => h_.1))))) (Kd.R_lt (rx (Kd.R_mono (Kd.R_far (p := ⟨gb237, 3, none⟩) (Kd.R_far (p := ⟨gb237, 2, none⟩) (Kd.R_far (p := ⟨gb237, 1, none⟩) (Kd.R_far (p := ⟨gb237, 0, none⟩) (Kd.R_types HO_225003.out BK237.out (by decide)) (fun _ hk => hk.2) (.int .i64 t226)) (fun _ hk => hk.2) (.slice Ao49 t227.length co49)) (fun _ hk => hk.2) (.slice Ao50 t230.length co50)) (fun _ hk => hk.2) (.slice Ao51 t233.length co51)) (fun _ h_ => h_.1))))) (Kd.R_lt (rx (Kd.R_mono (Kd.R_far (p := ⟨gb237, 3, none⟩) (Kd.R_far (p := ⟨gb237, 2, none⟩) (Kd.R_far (p := ⟨gb237, 1, none⟩) (Kd.R_far (p := ⟨gb237, 0, none⟩) (Kd.R_types HO232.out BK237.out (by decide)) (fun _ hk => hk.2) (.int .i64 t226)) (fun _ hk => hk.2) (.slice Ao49 t227.length co49)) (fun _ hk => hk.2) (.slice Ao50 t230.length co50)) (fun _ hk => hk.2) (.slice Ao51 t233.length co51)) (fun _ h_ => h_.1))))) (Kd.R_lt (rx (Kd.R_mono (Kd.R_far (p := ⟨gb237, 3, none⟩) (Kd.R_far (p := ⟨gb237, 2, none⟩) (Kd.R_far (p := ⟨gb237, 1, none⟩) (Kd.R_far (p := ⟨gb237, 0, none⟩) (Kd.R_types HO235.out BK237.out (by decide)) (fun _ hk => hk.2) (.int .i64 t226)) (fun _ hk => hk.2) (.slice Ao49 t227.length co49)) (fun _ hk => hk.2) (.slice Ao50 t230.length co50)) (fun _ hk => hk.2) (.slice Ao51 t233.length co51)) (fun _ h_ => h_.1))))) (below_size (hbx HB))); replace HO_225002 := Aside0.mk (Kd.R_elder' (rx (Kd.R_mono (Kd.R_far (p := ⟨gb237, 3, none⟩) (Kd.R_far (p := ⟨gb237, 2, none⟩) (Kd.R_far (p := ⟨gb237, 1, none⟩) (Kd.R_far (p := ⟨gb237, 0, none⟩) (Kd.R_types HO_225002.out BK237.out (by decide)) (fun _ hk => hk.2) (.int .i64 t226)) (fun _ hk => hk.2) (.slice Ao49 t227.length co49)) (fun _ hk => hk.2) (.slice Ao50 t230.length co50)) (fun _ hk => hk.2) (.slice Ao51 t233.length co51)) (fun _ h_ => h_.1))) (Kd.R_base ho0) hb); replace HO_225003 := Aside0.mk (Kd.R_elder' (rx (Kd.R_mono (Kd.R_far (p := ⟨gb237, 3, none⟩) (Kd.R_far (p := ⟨gb237, 2, none⟩) (Kd.R_far (p := ⟨gb237, 1, none⟩) (Kd.R_far (p := ⟨gb237, 0, none⟩) (Kd.R_types HO_225003.out BK237.out (by decide)) (fun _ hk => hk.2) (.int .i64 t226)) (fun _ hk => hk.2) (.slice Ao49 t227.length co49)) (fun _ hk => hk.2) (.slice Ao50 t230.length co50)) (fun _ hk => hk.2) (.slice Ao51 t233.length co51)) (fun _ h_ => h_.1))) (Kd.R_base ho0) hb); replace HO232 := Aside0.mk (Kd.R_elder' (rx (Kd.R_mono (Kd.R_far (p := ⟨gb237, 3, none⟩) (Kd.R_far (p := ⟨gb237, 2, none⟩) (Kd.R_far (p := ⟨gb237, 1, none⟩) (Kd.R_far (p := ⟨gb237, 0, none⟩) (Kd.R_types HO232.out BK237.out (by decide)) (fun _ hk => hk.2) (.int .i64 t226)) (fun _ hk => hk.2) (.slice Ao49 t227.length co49)) (fun _ hk => hk.2) (.slice Ao50 t230.length co50)) (fun _ hk => hk.2) (.slice Ao51 t233.length co51)) (fun _ h_ => h_.1))) (Kd.R_base ho0) hb); replace HO235 := Aside0.mk (Kd.R_elder' (rx (Kd.R_mono (Kd.R_far (p := ⟨gb237, 3, none⟩) (Kd.R_far (p := ⟨gb237, 2, none⟩) (Kd.R_far (p := ⟨gb237, 1, none⟩) (Kd.R_far (p := ⟨gb237, 0, none⟩) (Kd.R_types HO235.out BK237.out (by decide)) (fun _ hk => hk.2) (.int .i64 t226)) (fun _ hk => hk.2) (.slice Ao49 t227.length co49)) (fun _ hk => hk.2) (.slice Ao50 t230.length co50)) (fun _ hk => hk.2) (.slice Ao51 t233.length co51)) (fun _ h_ => h_.1))) (Kd.R_base ho0) hb); replace BK224 := bkfB BK224 hb; replace BK237 := Aside0.mk (blk_below (o := .cells #[.int .i64 t226, .slice Ao49 t227.length co49, .slice Ao50 t230.length co50, .slice Ao51 t233.length co51] 25 (0, 0)) (bkp BK237) hb); replace HB := hbS HB hb; (try clear hb); (try clear hb2); (try clear hk); (try clear hi); (try clear ho0); obtain ⟨z0, z1, z2, z3, y0, y1, y2, y3⟩ := bc4 BK237; have p242 : 0 ≤ (5 : Int) := (by omega); have q242 : 5 < (t230.length : Int) := pos_; obtain ⟨ad242, e242, hx242_0⟩ := Kd.at_int (Kd.R_reads' HO232.out).2.2 5 p242 q242; cases e242; (try simp only [show (5 : Int).toNat = 5 from rfl, Nat.reduceMul, Nat.reduceEqDiff, Go.Addr.add, ↓reduceIte] at hx242_0); have qi242 : (5 < t230.length) = True := eq_true (by omega); (try rw [show ((5 : Int)).toNat = 5 from rfl] at hx242_0); replace p242 := eq_true p242; replace q242 := eq_true q242; have p243 : 0 ≤ (5 : Int) := (by omega); have q243 : 5 < (t233.length : Int) := pos_; obtain ⟨ad243, e243, hx243_0⟩ := Kd.at_int (Kd.R_reads' HO235.out).2.2 5 p243 q243; cases e243; (try simp only [show (5 : Int).toNat = 5 from rfl, Nat.reduceMul, Nat.reduceEqDiff, Go.Addr.add, ↓reduceIte] at hx243_0); have qi243 : (5 < t233.length) = True := eq_true (by omega); (try rw [show ((5 : Int)).toNat = 5 from rfl] at hx243_0); replace p243 := eq_true p243; replace q243 := eq_true q243) | ((with_reducible refine gate_dst (N := 106) rfl ?_); (try (refine gate_guard (by rfl) ?_; dsimp only)); refine Kd.R_lit (Kd.int .i64) _ 3 ?hg (N := 106) ?hd (xs := ([5] : List Int)) (inner := [.int .i64 5]) (ok := fun _ => True) (okp := fun _ => True) ?hr ?hp (fun _ hk => hk) trivial (Below.refl _ _) (Nat.le_refl _) (by simp) ?_; (case hd => rfl); (case hg => rfl); (case hr => first | (go_simp; done) | (go_simp; rfl)); (case hp => exact (Reps.one (show Kd.M (Kd.int .i64) _ _ _ 5 [.int .i64 5] from rfl) (Reps.none _ _))); intro v245 w54 ho55 hb hg_ hnew_; clear hg_ hnew_; (first | rw [← Ny244.out] at ho55 | (simp only [Int.reduceToNat] at ho55; rw [← Ny244.out] at ho55)); replace HO_225001 := rB HO_225001 hb; replace HO229 := rB HO229 hb; have HO246 := Aside0.mk (Kd.R_lower (Kd.R_new' (Kd.R_new' (Kd.R_new' (Kd.R_new' (Kd.R_new' ho55 (Kd.R_lt (ro HO_225002))) (Kd.R_lt (ro HO_225003))) (Kd.R_lt (ro HO232))) (Kd.R_lt (ro HO235))) (Kd.R_lt (ro HO240))) (below_size (hbx HB))); replace HO_225002 := Aside0.mk (Kd.R_elder' (ro HO_225002) (Kd.R_base ho55) hb); replace HO_225003 := Aside0.mk (Kd.R_elder' (ro HO_225003) (Kd.R_base ho55) hb); replace HO232 := Aside0.mk (Kd.R_elder' (ro HO232) (Kd.R_base ho55) hb); replace HO235 := Aside0.mk (Kd.R_elder' (ro HO235) (Kd.R_base ho55) hb); replace HO240 := Aside0.mk (Kd.R_elder' (ro HO240) (Kd.R_base ho55) hb); replace BK224 := bkB BK224 hb; replace BK237 := bkB BK237 hb; replace HB := hbS HB hb; clear hb ho55; obtain ⟨Ao56, co56, eo56⟩ := Kd.R_slice HO240.out; subst eo56; obtain ⟨Ao57, co57, eo57⟩ := Kd.R_slice HO246.out; subst eo57) | (go_at_call 17; (with_reducible refine (slices_Equal_int_int.calls kj3 _ _ t238 _ _ y244 t247 _ ?side1 ?side2 ?side3 ?side4 A40.out).mono ?_); (case side1 => repeat (first | exact (Kd.R_reads' HO240.out).2.2 | (with_reducible refine Kd.C_alloc ?_ _) | (with_reducible refine Kd.C_drewN ?_ _) | (with_reducible refine Kd.C_drew ?_))); (case side2 => exact (Kd.R_reads' HO240.out).2.1); (case side3 => repeat (first | exact (Kd.R_reads' HO246.out).2.2 | (with_reducible refine Kd.C_alloc ?_ _) | (with_reducible refine Kd.C_drewN ?_ _) | (with_reducible refine Kd.C_drew ?_))); (case side4 => exact (Kd.R_reads' HO246.out).2.1); rintro e w' ⟨rfl, ⟨nd, rfl⟩⟩))
              go_ret
              exact ⟨rerr, hbx HB⟩
             ·rw [if_neg c39] at H
              exact absurd H (by simp)
            ·rw [if_neg c38] at H
             exact absurd H (by simp)
           ·rw [if_neg c37] at H
            exact absurd H (by simp)
          ·rw [if_neg c36] at H
           exact absurd H (by simp)
         ·rw [if_neg c35] at H
          exact absurd H (by simp)
        ·rw [if_neg c34] at H
         exact absurd H (by simp)
       ·rw [if_neg c33] at H
        exact absurd H (by simp)
      ·rw [if_neg c32] at H
       exact absurd H (by simp)
     ·rw [if_neg c31] at H
      exact absurd H (by simp)
    ·rw [if_neg c27] at H
     exact absurd H (by simp)
end Go.Proofs.Ytnipgplobipeeaa.PQ
