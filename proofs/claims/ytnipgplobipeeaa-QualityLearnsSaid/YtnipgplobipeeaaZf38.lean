-- Printed by fprint.py and zip.py, programs of this session's, over the kit's print; Lean checks it.
import Derived.Test.YtnipgplobipeeaaZ0
import Derived.Test.YtnipgplobipeeaaZf39
namespace Go.Proofs.Ytnipgplobipeeaa.PQ
open Go.RowKit Go.Proofs.YtnipgplobipeeaaW.PrintWords Go.Proofs.YtnipgplobipeeaaW.PrintLast Go.Proofs.YtnipgplobipeeaaW.PrintMore
attribute [local go_sem] max2_int min2_int max_two min_two max_three min_three max_four min_four   -- for this text's walks alone
set_option linter.unusedVariables false
set_option linter.unusedSimpArgs false
def hopmeshref12_Black.l0 : Nat → List Int → Int → Int → List (S34) → List Int → List Int → Option (List Int × Int)
 | 0, _, _, _, _, _, _ => none
 | k + 1, x4, x5, x735000, x735001, x735002, x735003 => if x5 < 16 then (if 0 ≤ x5 then (if x5 < (x735002.length : Int) then (if (rd x735002 x5) = 0 then (hopmeshref12_Black.l0 k x4 (wrap64 (x5 + 1)) x735000 x735001 x735002 x735003) else (if x4.length < 17592186044416 then (hopmeshref12_Black.l0 k (x4 ++ [x5]) (wrap64 (x5 + 1)) x735000 x735001 x735002 x735003) else (none))) else (none)) else (none)) else (some (x4, 0))
def hopmeshref12_Black.f (k : Nat) (a0_0 : Int) (l0_1 : List (S34)) (l0_2 : List Int) (l0_3 : List Int) : Option (List Int × Int) := (hopmeshref12_Valid.f k a0_0 l0_1 l0_2 l0_3).bind fun t735 => (if t735 = 0 then (hopmeshref12_Black.l0 k (([] : List Int)) 0 a0_0 l0_1 l0_2 l0_3) else (some (([] : List Int), 1)))
theorem hopmeshref12_Black.mono_l : ∀ k, (∀ y0 y1 y2 y3 y4 y5, LeO (hopmeshref12_Black.l0 k y0 y1 y2 y3 y4 y5) (hopmeshref12_Black.l0 (k + 1) y0 y1 y2 y3 y4 y5))
 | 0 => fun _ _ _ _ _ _ r h => by simp [hopmeshref12_Black.l0] at h
 | k + 1 => by
  have ih0 := hopmeshref12_Black.mono_l k
  ·intro y0 y1 y2 y3 y4 y5
   unfold hopmeshref12_Black.l0
   repeat' first
   | (with_reducible exact ih0 _ _ _ _ _ _)
   | (with_reducible exact hopmeshref12_Valid.mono _ _ _ _ _)
   | (with_reducible exact LeO.refl _)
   | (with_reducible exact LeO.none _)
   | (with_reducible refine LeO.ite ?_ ?_)
   | (with_reducible refine LeO.bind ?_ (fun _ => ?_))
   | exact ih0 _ _ _ _ _ _
   | exact hopmeshref12_Valid.mono _ _ _ _ _
   | exact LeO.none _
   | refine LeO.ite ?_ ?_
   | refine LeO.bind ?_ (fun _ => ?_)
theorem hopmeshref12_Black.mono : ∀ a0 a1 a2 a3 k, LeO (hopmeshref12_Black.f k a0 a1 a2 a3) (hopmeshref12_Black.f (k + 1) a0 a1 a2 a3) := by
 intro a0 a1 a2 a3 k
 have ih0 := hopmeshref12_Black.mono_l k
 unfold hopmeshref12_Black.f
 repeat' first
  | (with_reducible exact ih0 _ _ _ _ _ _)
  | (with_reducible exact hopmeshref12_Valid.mono _ _ _ _ _)
  | (with_reducible exact LeO.refl _)
  | (with_reducible exact LeO.none _)
  | (with_reducible refine LeO.ite ?_ ?_)
  | (with_reducible refine LeO.bind ?_ (fun _ => ?_))
  | exact ih0 _ _ _ _ _ _
  | exact hopmeshref12_Valid.mono _ _ _ _ _
  | exact LeO.none _
  | refine LeO.ite ?_ ?_
  | refine LeO.bind ?_ (fun _ => ?_)
set_option maxHeartbeats 8000000 in
set_option maxRecDepth 100000 in
theorem hopmeshref12_Black.calls (k : Nat) (a0_0 : Int) (A0_1 : Option Addr) (c0_1 : Nat) (l0_1 : List (S34)) (A0_2 : Option Addr) (c0_2 : Nat) (l0_2 : List Int) (A0_3 : Option Addr) (c0_3 : Nat) (l0_3 : List Int) (r1 : List Int) (r2 : Int) (w : World) (hr0_1 : Kd.C k34 w A0_1 l0_1.length l0_1) (hc0_1 : l0_1.length ≤ c0_1) (hr0_2 : Kd.C (Kd.int .i64) w A0_2 l0_2.length l0_2) (hc0_2 : l0_2.length ≤ c0_2) (hr0_3 : Kd.C (Kd.int .i64) w A0_3 l0_3.length l0_3) (hc0_3 : l0_3.length ≤ c0_3) (h : hopmeshref12_Black.f k a0_0 l0_1 l0_2 l0_3 = some (r1, r2)) :
 Calls Try.prog 38 #[.agg #[.int .i64 a0_0, .slice A0_1 l0_1.length c0_1, .slice A0_2 l0_2.length c0_2, .slice A0_3 l0_3.length c0_3]] w fun e w' => ∃ v0_ : Value, e = .returned (.tuple #[v0_, .int .i64 r2]) ∧ Kd.R (Kd.int .i64) 3 w' w.heap.size (fun _ => True) v0_ r1 ∧ Below w.heap.size w w' := by
 have hu25 := Try.underlying25
 have HR0_1 := Aside0.mk hr0_1
 have HC0_1 := Aside0.mk hc0_1
 clear hr0_1 hc0_1
 have HR0_2 := Aside0.mk hr0_2
 have HC0_2 := Aside0.mk hc0_2
 clear hr0_2 hc0_2
 have HR0_3 := Aside0.mk hr0_3
 have HC0_3 := Aside0.mk hc0_3
 clear hr0_3 hc0_3
 have HB := Aside0.mk (Below.refl w.heap.size w)
 have H : ((hopmeshref12_Valid.f k a0_0 l0_1 l0_2 l0_3).bind fun t735 => (if t735 = 0 then (hopmeshref12_Black.l0 k (([] : List Int)) 0 a0_0 l0_1 l0_2 l0_3) else (some (([] : List Int), 1)))) = some (r1, r2) := h
 clear h
 replace H := Option.bind_eq_some_iff.mp H
 obtain ⟨t735, A20, H⟩ := H
 (try dsimp only at H)
 have A2 := Aside0.mk A20
 clear A20
 by_cases c3 : t735 = 0
 ·rw [if_pos c3] at H
  have c3b0 : (t735 == 0) = true := beq_iff_eq.mpr c3
  have c3b1 : (t735 != 0) = false := bne_eq_false_iff_eq.mpr c3
  clear c3
  obtain ⟨y736, hy736⟩ : ∃ y_ : List Int, y_ = (([] : List Int)) := ⟨_, rfl⟩
  replace H : (hopmeshref12_Black.l0 k y736 0 a0_0 l0_1 l0_2 l0_3) = some (r1, r2) := by first | (rw [hy736]; with_reducible exact H) | (have H2_ := (Option.bind_some _ _).symm.trans H; rw [hy736]; with_reducible exact H2_) | (have H2_ := (Option.bind_some _ _).symm.trans H; with_reducible exact H2_) | with_reducible exact H | (rw [hy736]; exact H) | exact H
  have Ny736 := Aside0.mk hy736
  clear hy736
  have H' := Aside0.mk H
  clear H
  go_enter Try.func38, Try.ntmps38
  go_wp2_with (first | ((with_reducible refine gate_dst (N := 1) rfl ?_); refine boxE 1 #[.int .i64 a0_0, .slice A0_1 l0_1.length c0_1, .slice A0_2 l0_2.length c0_2, .slice A0_3 l0_3.length c0_3] 25 ?_; intro gb734 hg w4 hbox hb; have BK734 := Aside0.mk (hbox); have GW734 := gw hg HB; have GE734 := gw hg HB; replace HB := hbS HB hb; clear hb hbox hg; obtain ⟨z0, z1, z2, z3, y0, y1, y2, y3⟩ := bc4 BK734) | ((with_reducible refine gate_callee (f := 39) rfl ?_); refine goesL_ (some 7) rfl rfl Try.func39 (by kernel_rfl) rfl #[.agg #[.int .i64 a0_0, .slice A0_1 l0_1.length c0_1, .slice A0_2 l0_2.length c0_2, .slice A0_3 l0_3.length c0_3]] rfl sma ?_; (with_reducible refine (hopmeshref12_Valid.calls k a0_0 _ _ l0_1 _ _ l0_2 _ _ l0_3 t735 _ (cb HR0_1 HB) HC0_1.out (cb HR0_2 HB) HC0_2.out (cb HR0_3 HB) HC0_3.out A2.out).mono ?_); rintro e w6 ⟨rfl, hb⟩; refine ⟨_, rfl, ?_⟩; replace BK734 := bkB BK734 hb; replace HB := hbS HB hb; (try clear hb); (try clear hb2); (try clear hk); (try clear hi)) | ((with_reducible refine gate_dst (N := 9) rfl ?_); refine Kd.R_lit (Kd.int .i64) _ 3 ?hg (N := 9) ?hd (xs := ([] : List Int)) (inner := []) (ok := fun _ => True) (okp := fun _ => True) ?hr ?hp (fun _ hk => hk) trivial (Below.refl _ _) (Nat.le_refl _) (by simp) ?_; (case hd => rfl); (case hg => rfl); (case hr => first | (go_simp; done) | (go_simp; rfl)); (case hp => exact (Reps.none _ _)); intro v737 w7 ho8 hb hg_ hnew_; clear hg_ hnew_; (first | rw [← Ny736.out] at ho8 | (simp only [Int.reduceToNat] at ho8; rw [← Ny736.out] at ho8)); have HO738 := Aside0.mk (Kd.R_lower ho8 (below_size (hbx HB))); replace BK734 := bkB BK734 hb; replace HB := hbS HB hb; clear hb ho8))
  go_loopg [4, 5] k (fun kq v4 v5 w' => ∃ (x4_1 : List Int) (x5_1 : Int), v5 = .int .i64 x5_1 ∧ Aside0 (hopmeshref12_Black.l0 kq x4_1 x5_1 a0_0 l0_1 l0_2 l0_3 = some (r1, r2)) ∧ Aside0 (kq ≤ k) ∧ Aside0 (Kd.R (Kd.int .i64) 3 w' w.heap.size (fun _ => True) v4 x4_1) ∧ Aside0 (w'.heap[gb734]? = some (.cells #[.int .i64 a0_0, (.slice A0_1 l0_1.length c0_1), (.slice A0_2 l0_2.length c0_2), (.slice A0_3 l0_3.length c0_3)] 25 (0, 0))) ∧ Aside0 (Below w.heap.size w w'))
  case atStart => exact ⟨(y736), (0), rfs, H', ⟨Nat.le_refl _⟩, roA HO738, bkA BK734, hbA HB⟩
  case round =>
   clear H'
   try clear c3
   try clear c3b0
   try clear c3b1
   try clear hcz5_0
   try clear hcz5_1
   try clear hcz5_2
   try clear hcz5_3
   try clear hfz5_0
   try clear hfz5_1
   try clear hfz5_2
   try clear hfz5_3
   obtain ⟨x4_1, x5_1, rfl, HA, HK1, HO_4, BK734, HB⟩ := hrel
   cases gk with
   | zero => exact absurd HA.out (by simp [hopmeshref12_Black.l0])
   | succ k1 =>
    have H := HA.out
    clear HA
    simp only [hopmeshref12_Black.l0] at H
    by_cases c9 : x5_1 < 16
    ·rw [if_pos c9] at H
     have c9b0 : decide (x5_1 < 16) = true := decide_eq_true c9
     clear c9
     by_cases c10 : 0 ≤ x5_1
     ·rw [if_pos c10] at H
      have c10b0 : decide (0 ≤ x5_1) = true := decide_eq_true c10
      clear c10
      by_cases c11 : x5_1 < (l0_2.length : Int)
      ·rw [if_pos c11] at H
       have c11b0 : decide (x5_1 < (l0_2.length : Int)) = true := decide_eq_true c11
       clear c11
       by_cases c12 : (rd l0_2 x5_1) = 0
       ·rw [if_pos c12] at H
        have c12b0 : ((rd l0_2 x5_1) == 0) = true := beq_iff_eq.mpr c12
        have c12b1 : ((rd l0_2 x5_1) != 0) = false := bne_eq_false_iff_eq.mpr c12
        clear c12
        have H' := Aside0.mk H
        clear H
        obtain ⟨z0, z1, z2, z3, y0, y1, y2, y3⟩ := bc4 BK734
        have p739 : 0 ≤ (x5_1 : Int) := pos_
        have q739 : x5_1 < (l0_2.length : Int) := pos_
        obtain ⟨ad739, e739, hx739_0⟩ := Kd.at_int HR0_2.out x5_1 p739 q739
        cases e739
        replace hx739_0 := (HB.out.cell (World.block_lt_of_cell? w _ hx739_0)).trans hx739_0
        replace p739 := eq_true p739
        replace q739 := eq_true q739
        go_wp2
        go_roundg k1
        case measure => have := HK1.out; omega
        case rel => exact ⟨(x4_1), (wrap64 (x5_1 + 1)), rfs, H', ⟨by have := HK1.out; omega⟩, roA HO_4, bkA BK734, hbA HB⟩
       ·rw [if_neg c12] at H
        have c12b0 : ((rd l0_2 x5_1) == 0) = false := beq_eq_false_iff_ne.mpr c12
        have c12b1 : ((rd l0_2 x5_1) != 0) = true := bne_iff_ne.mpr c12
        by_cases c14 : x4_1.length < 17592186044416
        ·rw [if_pos c14] at H
         have LMc14 := Aside0.mk c14
         clear c14
         obtain ⟨y740, hy740⟩ : ∃ y_ : List Int, y_ = (x4_1 ++ [x5_1]) := ⟨_, rfl⟩
         replace H : (hopmeshref12_Black.l0 k1 y740 (wrap64 (x5_1 + 1)) a0_0 l0_1 l0_2 l0_3) = some (r1, r2) := by first | (rw [hy740]; with_reducible exact H) | (have H2_ := (Option.bind_some _ _).symm.trans H; rw [hy740]; with_reducible exact H2_) | (have H2_ := (Option.bind_some _ _).symm.trans H; with_reducible exact H2_) | with_reducible exact H | (rw [hy740]; exact H) | exact H
         have Ny740 := Aside0.mk hy740
         clear hy740
         have H' := Aside0.mk H
         clear H
         obtain ⟨z0, z1, z2, z3, y0, y1, y2, y3⟩ := bc4 BK734
         have p739 : 0 ≤ (x5_1 : Int) := pos_
         have q739 : x5_1 < (l0_2.length : Int) := pos_
         obtain ⟨ad739, e739, hx739_0⟩ := Kd.at_int HR0_2.out x5_1 p739 q739
         cases e739
         replace hx739_0 := (HB.out.cell (World.block_lt_of_cell? w _ hx739_0)).trans hx739_0
         replace p739 := eq_true p739
         replace q739 := eq_true q739
         go_wp2_with (first | ((with_reducible refine gate_builtin (b := .append) (xs := #[.tmp 20, .tmp 22]) rfl ?_); at_builtin; refine Kd.R_append (Kd.int .i64) (w0 := w) w.heap.size rfl (.tmp 20) (.tmp 22) 23 3 (.int .i64 0) 8 rfl Try.underlying23 info3 rfl (by decide) (by omega) u4 x4_1 x5_1 [.int .i64 x5_1] (fun _ => True) (fun _ => False) rfl rfl ?aP (fun _ hk => hk.elim) ?aF ?aO ?aB ?aS ?aL ?_; (case aP => exact rfl); (case aB => exact (hbx HB)); (case aF => exact (fun _ _ => trivial)); (case aO => exact (ro HO_4)); (case aS => exact (below_size (hbx HB))); (case aL => have := LMc14.out; omega); intro v741 w16 ho hb hg hat; rw [← Ny740.out] at ho; replace BK734 := Aside0.mk (blk_grown (bk BK734) hg (Kd.R_ne HO_4.out BK734.out (by decide))); replace HB := Aside0.mk (hb); have HO742 := Aside0.mk (ho); clear HO_4; clear ho hb hg hat))
         go_roundg k1
         case measure => have := HK1.out; omega
         case rel => exact ⟨(y740), (wrap64 (x5_1 + 1)), rfs, H', ⟨by have := HK1.out; omega⟩, roA HO742, bkA BK734, hbA HB⟩
        ·rw [if_neg c14] at H
         exact absurd H (by simp)
      ·rw [if_neg c11] at H
       exact absurd H (by simp)
     ·rw [if_neg c10] at H
      exact absurd H (by simp)
    ·rw [if_neg c9] at H
     have c9b0 : decide (x5_1 < 16) = false := decide_eq_false c9
     clear c9
     simp only [Option.some.injEq, Prod.mk.injEq] at H
     obtain ⟨rfl, rfl⟩ := H
     go_wp2
     go_ret2
     exact ⟨_, rerr, ro HO_4, hbx HB⟩
 ·rw [if_neg c3] at H
  have c3b0 : (t735 == 0) = false := beq_eq_false_iff_ne.mpr c3
  have c3b1 : (t735 != 0) = true := bne_iff_ne.mpr c3
  simp only [Option.some.injEq, Prod.mk.injEq] at H
  obtain ⟨rfl, rfl⟩ := H
  go_enter Try.func38, Try.ntmps38
  go_wp2_with (first | ((with_reducible refine gate_dst (N := 1) rfl ?_); refine boxE 1 #[.int .i64 a0_0, .slice A0_1 l0_1.length c0_1, .slice A0_2 l0_2.length c0_2, .slice A0_3 l0_3.length c0_3] 25 ?_; intro gb734 hg w17 hbox hb; have BK734 := Aside0.mk (hbox); have GW734 := gw hg HB; have GE734 := gw hg HB; replace HB := hbS HB hb; clear hb hbox hg; obtain ⟨z0, z1, z2, z3, y0, y1, y2, y3⟩ := bc4 BK734) | ((with_reducible refine gate_callee (f := 39) rfl ?_); refine goesL_ (some 7) rfl rfl Try.func39 (by kernel_rfl) rfl #[.agg #[.int .i64 a0_0, .slice A0_1 l0_1.length c0_1, .slice A0_2 l0_2.length c0_2, .slice A0_3 l0_3.length c0_3]] rfl sma ?_; (with_reducible refine (hopmeshref12_Valid.calls k a0_0 _ _ l0_1 _ _ l0_2 _ _ l0_3 t735 _ (cb HR0_1 HB) HC0_1.out (cb HR0_2 HB) HC0_2.out (cb HR0_3 HB) HC0_3.out A2.out).mono ?_); rintro e w19 ⟨rfl, hb⟩; refine ⟨_, rfl, ?_⟩; replace BK734 := bkB BK734 hb; replace HB := hbS HB hb; (try clear hb); (try clear hb2); (try clear hk); (try clear hi)))
  go_ret2
  exact ⟨_, rerr, rnil, hbx HB⟩
end Go.Proofs.Ytnipgplobipeeaa.PQ
