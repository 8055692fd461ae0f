-- Printed by fprint.py and zip.py, programs of this session's, over the kit's print; Lean checks it.
import Derived.Test.YtnipgplobipeeaaZ0
import Derived.Test.YtnipgplobipeeaaZf13
import Derived.Test.YtnipgplobipeeaaZf19
import Derived.Test.YtnipgplobipeeaaZf39
namespace Go.Proofs.Ytnipgplobipeeaa.PQ
open Go.RowKit Go.Proofs.YtnipgplobipeeaaW.PrintWords Go.Proofs.YtnipgplobipeeaaW.PrintLast Go.Proofs.YtnipgplobipeeaaW.PrintMore
attribute [local go_sem] max2_int min2_int max_two min_two max_three min_three max_four min_four   -- for this text's walks alone
set_option linter.unusedVariables false
set_option linter.unusedSimpArgs false
def hopmeshref12_Note.j0 : Nat → Int → Bool → Bool → Int → List (S34) → List Int → List Int → Option (Int × (List (S34)) × List Int × List Int × Int)
 | 0, _, _, _, _, _, _, _ => none
 | k + 1, x1, x2, x20, x675000, x675001, x675002, x675003 => if x20 = true then (some (0, ([] : List (S34)), ([] : List Int), ([] : List Int), 2)) else (if 0 ≤ x1 then (if x1 < (x675001.length : Int) then ((hopmeshref12_Add.f ((rd_T34 x675001 x1).f0) ((rd_T34 x675001 x1).f1) x2).bind fun bt678 => (if bt678.2.2 = 0 then ((hopmeshref12_Copy.f x675000 x675001 x675002 x675003).bind fun bt682 => (if x1 < (bt682.2.1.length : Int) then (some (bt682.1, (bt682.2.1.set (x1 : Int).toNat (⟨bt678.1, bt678.2.1⟩ : S34)), bt682.2.2.1, bt682.2.2.2, 0)) else (none))) else (some (0, ([] : List (S34)), ([] : List Int), ([] : List Int), bt678.2.2)))) else (none)) else (none))
def hopmeshref12_Note.f (k : Nat) (a0_0 : Int) (l0_1 : List (S34)) (l0_2 : List Int) (l0_3 : List Int) (a1 : Int) (a2 : Bool) : Option (Int × (List (S34)) × List Int × List Int × Int) := (hopmeshref12_Valid.f k a0_0 l0_1 l0_2 l0_3).bind fun t676 => (if t676 = 0 then (if a1 < 0 then (hopmeshref12_Note.j0 k a1 a2 true a0_0 l0_1 l0_2 l0_3) else (hopmeshref12_Note.j0 k a1 a2 (decide (a1 ≥ 16)) a0_0 l0_1 l0_2 l0_3)) else (some (0, ([] : List (S34)), ([] : List Int), ([] : List Int), 1)))
theorem hopmeshref12_Note.mono_l : ∀ k, (∀ y0 y1 y2 y3 y4 y5 y6, LeO (hopmeshref12_Note.j0 k y0 y1 y2 y3 y4 y5 y6) (hopmeshref12_Note.j0 (k + 1) y0 y1 y2 y3 y4 y5 y6))
 | 0 => fun _ _ _ _ _ _ _ r h => by simp [hopmeshref12_Note.j0] at h
 | k + 1 => by
  have ih0 := hopmeshref12_Note.mono_l k
  ·intro y0 y1 y2 y3 y4 y5 y6
   unfold hopmeshref12_Note.j0
   repeat' first
   | (with_reducible exact ih0 _ _ _ _ _ _ _)
   | (with_reducible exact hopmeshref12_Valid.mono _ _ _ _ _)
   | (with_reducible exact LeO.refl _)
   | (with_reducible exact LeO.none _)
   | (with_reducible refine LeO.ite ?_ ?_)
   | (with_reducible refine LeO.bind ?_ (fun _ => ?_))
   | exact ih0 _ _ _ _ _ _ _
   | exact hopmeshref12_Valid.mono _ _ _ _ _
   | exact LeO.none _
   | refine LeO.ite ?_ ?_
   | refine LeO.bind ?_ (fun _ => ?_)
theorem hopmeshref12_Note.mono : ∀ a0 a1 a2 a3 a4 a5 k, LeO (hopmeshref12_Note.f k a0 a1 a2 a3 a4 a5) (hopmeshref12_Note.f (k + 1) a0 a1 a2 a3 a4 a5) := by
 intro a0 a1 a2 a3 a4 a5 k
 have ih0 := hopmeshref12_Note.mono_l k
 unfold hopmeshref12_Note.f
 repeat' first
  | (with_reducible exact ih0 _ _ _ _ _ _ _)
  | (with_reducible exact hopmeshref12_Valid.mono _ _ _ _ _)
  | (with_reducible exact LeO.refl _)
  | (with_reducible exact LeO.none _)
  | (with_reducible refine LeO.ite ?_ ?_)
  | (with_reducible refine LeO.bind ?_ (fun _ => ?_))
  | exact ih0 _ _ _ _ _ _ _
  | exact hopmeshref12_Valid.mono _ _ _ _ _
  | exact LeO.none _
  | refine LeO.ite ?_ ?_
  | refine LeO.bind ?_ (fun _ => ?_)
set_option maxHeartbeats 8000000 in
set_option maxRecDepth 100000 in
theorem hopmeshref12_Note.calls (k : Nat) (a0_0 : Int) (A0_1 : Option Addr) (c0_1 : Nat) (l0_1 : List (S34)) (A0_2 : Option Addr) (c0_2 : Nat) (l0_2 : List Int) (A0_3 : Option Addr) (c0_3 : Nat) (l0_3 : List Int) (a1 : Int) (a2 : Bool) (r1 : Int) (r2 : List (S34)) (r3 : List Int) (r4 : List Int) (r5 : Int) (w : World) (hr0_1 : Kd.C k34 w A0_1 l0_1.length l0_1) (hc0_1 : l0_1.length ≤ c0_1) (hr0_2 : Kd.C (Kd.int .i64) w A0_2 l0_2.length l0_2) (hc0_2 : l0_2.length ≤ c0_2) (hr0_3 : Kd.C (Kd.int .i64) w A0_3 l0_3.length l0_3) (hc0_3 : l0_3.length ≤ c0_3) (h : hopmeshref12_Note.f k a0_0 l0_1 l0_2 l0_3 a1 a2 = some (r1, r2, r3, r4, r5)) :
 Calls Try.prog 36 #[.agg #[.int .i64 a0_0, .slice A0_1 l0_1.length c0_1, .slice A0_2 l0_2.length c0_2, .slice A0_3 l0_3.length c0_3], .int .i64 a1, .bool a2] w fun e w' => ∃ v1_ v2_ v3_ : Value, e = .returned (.tuple #[.agg #[.int .i64 r1, v1_, v2_, v3_], .int .i64 r5]) ∧ Kd.R k34 34 w' w.heap.size (fun _ => True) v1_ r2 ∧ Kd.R (Kd.int .i64) 3 w' w.heap.size (fun k_ => some k_ ≠ (v3_ : Value).ownBlock) v2_ r3 ∧ Kd.R (Kd.int .i64) 3 w' w.heap.size (fun k_ => some k_ ≠ (v2_ : Value).ownBlock) v3_ r4 ∧ Below w.heap.size w w' := by
 have hu25 := Try.underlying25
 have hu34 := Try.underlying34
 have HR0_1 := Aside0.mk hr0_1
 have HC0_1 := Aside0.mk hc0_1
 clear hr0_1 hc0_1
 have HR0_2 := Aside0.mk hr0_2
 have HC0_2 := Aside0.mk hc0_2
 clear hr0_2 hc0_2
 have HR0_3 := Aside0.mk hr0_3
 have HC0_3 := Aside0.mk hc0_3
 clear hr0_3 hc0_3
 have HB := Aside0.mk (Below.refl w.heap.size w)
 have H : ((hopmeshref12_Valid.f k a0_0 l0_1 l0_2 l0_3).bind fun t676 => (if t676 = 0 then (if a1 < 0 then (hopmeshref12_Note.j0 k a1 a2 true a0_0 l0_1 l0_2 l0_3) else (hopmeshref12_Note.j0 k a1 a2 (decide (a1 ≥ 16)) a0_0 l0_1 l0_2 l0_3)) else (some (0, ([] : List (S34)), ([] : List Int), ([] : List Int), 1)))) = some (r1, r2, r3, r4, r5) := h
 clear h
 replace H := Option.bind_eq_some_iff.mp H
 obtain ⟨t676, A40, H⟩ := H
 (try dsimp only at H)
 have A4 := Aside0.mk A40
 clear A40
 by_cases c5 : t676 = 0
 ·rw [if_pos c5] at H
  have c5b0 : (t676 == 0) = true := beq_iff_eq.mpr c5
  have c5b1 : (t676 != 0) = false := bne_eq_false_iff_eq.mpr c5
  clear c5
  have HC6 := Aside0.mk H
  clear H
  go_enter Try.func36, Try.ntmps36
  go_upto_region 3 with (first | ((with_reducible refine gate_dst (N := 3) rfl ?_); refine boxE 3 #[.int .i64 a0_0, .slice A0_1 l0_1.length c0_1, .slice A0_2 l0_2.length c0_2, .slice A0_3 l0_3.length c0_3] 25 ?_; intro gb674 hg w7 hbox hb; have BK674 := Aside0.mk (hbox); have GW674 := gw hg HB; have GE674 := gw hg HB; replace HB := hbS HB hb; clear hb hbox hg) | ((with_reducible refine gate_dst (N := 6) rfl ?_); refine boxE 6 #[.int .i64 0, .slice none 0 0, .slice none 0 0, .slice none 0 0] 25 ?_; intro gb675 hg w8 hbox hb; have BK675 := Aside0.mk (hbox); have GW675 := gw hg HB; have GE675 := gw hg HB; replace HB := hbS HB hb; have NB674_675 := nbl hg BK674; have NB675_674 := nbg hg BK674; replace BK674 := bkB BK674 hb; clear hb hbox hg; have hnb9 := NB674_675.out; have hnc9 := NB675_674.out; obtain ⟨z0, z1, z2, z3, y0, y1, y2, y3⟩ := bc4 BK674) | ((with_reducible refine gate_callee (f := 39) rfl ?_); refine goesL_ (some 12) rfl rfl Try.func39 (by kernel_rfl) rfl #[.agg #[.int .i64 a0_0, .slice A0_1 l0_1.length c0_1, .slice A0_2 l0_2.length c0_2, .slice A0_3 l0_3.length c0_3]] rfl sma ?_; (with_reducible refine (hopmeshref12_Valid.calls k a0_0 _ _ l0_1 _ _ l0_2 _ _ l0_3 t676 _ (cb HR0_1 HB) HC0_1.out (cb HR0_2 HB) HC0_2.out (cb HR0_3 HB) HC0_3.out A4.out).mono ?_); rintro e w11 ⟨rfl, hb⟩; refine ⟨_, rfl, ?_⟩; replace BK674 := bkB BK674 hb; replace BK675 := bkB BK675 hb; replace HB := hbS HB hb; (try clear hb); (try clear hb2); (try clear hk); (try clear hi)))
  (try simp only [Act.put, List.setIfInBounds_toArray, List.set_cons_zero, List.set_cons_succ])
  go_cut [20] (fun v20 wc => ∃ (kq : Nat) (x20_5 : Bool), v20 = .bool x20_5 ∧ Aside0 (hopmeshref12_Note.j0 kq a1 a2 x20_5 a0_0 l0_1 l0_2 l0_3 = some (r1, r2, r3, r4, r5)) ∧ Aside0 (kq ≤ k) ∧ Aside0 (wc.heap[gb674]? = some (.cells #[.int .i64 a0_0, (.slice A0_1 l0_1.length c0_1), (.slice A0_2 l0_2.length c0_2), (.slice A0_3 l0_3.length c0_3)] 25 (0, 0))) ∧ Aside0 (wc.heap[gb675]? = some (.cells #[.int .i64 0, (.slice none 0 0), (.slice none 0 0), (.slice none 0 0)] 25 (0, 0))) ∧ Aside0 (Below w.heap.size w wc))
  case first =>
   have H := HC6.out
   clear HC6
   by_cases c12 : a1 < 0
   ·rw [if_pos c12] at H
    have c12b0 : decide (a1 < 0) = true := decide_eq_true c12
    clear c12
    (first | rw [c12b0] | (simp only [i64_w, i32_w]; rw [c12b0]) | skip)
    have H' := Aside0.mk H
    clear H
    go_wp2
    go_meet
    case rel => exact ⟨_, (true), rfs, H', kle, bkA BK674, bkA BK675, hbA HB⟩
   ·rw [if_neg c12] at H
    have c12b0 : decide (a1 < 0) = false := decide_eq_false c12
    clear c12
    (first | rw [c12b0] | (simp only [i64_w, i32_w]; rw [c12b0]) | skip)
    have H' := Aside0.mk H
    clear H
    go_wp2
    go_meet
    case rel => exact ⟨_, (decide (a1 ≥ 16)), rfs, H', kle, bkA BK674, bkA BK675, hbA HB⟩
  case rest =>
   clear HC6
   try clear c5
   try clear c5b0
   try clear c5b1
   try clear hcz10_0
   try clear hcz10_1
   try clear hcz10_2
   try clear hcz10_3
   try clear hfz10_0
   try clear hfz10_1
   try clear hfz10_2
   try clear hfz10_3
   obtain ⟨kq, x20_5, rfl, HA, HJ5, BK674, BK675, HB⟩ := hcut
   cases kq with
   | zero => exact absurd HA.out (by simp [hopmeshref12_Note.j0])
   | succ kj5 =>
    have H := HA.out
    clear HA
    simp only [hopmeshref12_Note.j0] at H
    by_cases c13 : x20_5 = true
    ·subst c13
     rw [if_pos rfl] at H
     simp only [Option.some.injEq, Prod.mk.injEq] at H
     obtain ⟨rfl, rfl, rfl, rfl, rfl⟩ := H
     have hnb14 := NB675_674.out
     have hnc14 := NB674_675.out
     obtain ⟨z0, z1, z2, z3, y0, y1, y2, y3⟩ := bc4 BK675
     go_wp2
     refine bodyPost_ret (results_ct rfl _ _ gb675 25 #[.int .i64 0, .slice none 0 0, .slice none 0 0, .slice none 0 0] (0, 0) _ rfl (bkp BK675) Try.underlying25 rfl (by kernel_rfl)) rfl ?_
     exact ⟨_, _, _, rerr, rnil, rnil, rnil, hbx HB⟩
    ·replace c13 := Bool.eq_false_iff.mpr c13
     subst c13
     rw [if_neg (show ¬ (false = true) by decide)] at H
     by_cases c16 : 0 ≤ a1
     ·rw [if_pos c16] at H
      have c16b0 : decide (0 ≤ a1) = true := decide_eq_true c16
      clear c16
      by_cases c17 : a1 < (l0_1.length : Int)
      ·rw [if_pos c17] at H
       have c17b0 : decide (a1 < (l0_1.length : Int)) = true := decide_eq_true c17
       clear c17
       replace H := Option.bind_eq_some_iff.mp H
       obtain ⟨⟨t678, t679, t680⟩, A180, H⟩ := H
       (try dsimp only at H)
       have A18 := Aside0.mk A180
       clear A180
       by_cases c19 : t680 = 0
       ·rw [if_pos c19] at H
        have c19b0 : (t680 == 0) = true := beq_iff_eq.mpr c19
        have c19b1 : (t680 != 0) = false := bne_eq_false_iff_eq.mpr c19
        clear c19
        replace H := Option.bind_eq_some_iff.mp H
        obtain ⟨⟨t682, t683, t686, t689⟩, A200, H⟩ := H
        (try dsimp only at H)
        have A20 := Aside0.mk A200
        clear A200
        by_cases c21 : a1 < (t683.length : Int)
        ·rw [if_pos c21] at H
         have c21b0 : decide (a1 < (t683.length : Int)) = true := decide_eq_true c21
         clear c21
         obtain ⟨y693, hy693⟩ : ∃ y_ : List (S34), y_ = (t683.set (a1 : Int).toNat (⟨t678, t679⟩ : S34)) := ⟨_, rfl⟩
         replace H : (some (t682, y693, t686, t689, 0)) = some (r1, r2, r3, r4, r5) := by first | (rw [hy693]; with_reducible exact H) | (have H2_ := (Option.bind_some _ _).symm.trans H; rw [hy693]; with_reducible exact H2_) | (have H2_ := (Option.bind_some _ _).symm.trans H; with_reducible exact H2_) | with_reducible exact H | (rw [hy693]; exact H) | exact H
         have Ny693 := Aside0.mk hy693
         clear hy693
         simp only [Option.some.injEq, Prod.mk.injEq] at H
         obtain ⟨rfl, rfl, rfl, rfl, rfl⟩ := H
         have hnb23 := NB674_675.out
         have hnc23 := NB675_674.out
         obtain ⟨z0, z1, z2, z3, y0, y1, y2, y3⟩ := bc4 BK674
         have p677 : 0 ≤ (a1 : Int) := pos_
         have q677 : a1 < (l0_1.length : Int) := pos_
         obtain ⟨ad677, e677, hx677_0, hx677_1⟩ := at_T34 HR0_1.out a1 p677 q677
         cases e677
         replace hx677_0 := (HB.out.cell (World.block_lt_of_cell? w _ hx677_0)).trans hx677_0
         replace hx677_1 := (HB.out.cell (World.block_lt_of_cell? w _ hx677_1)).trans hx677_1
         replace p677 := eq_true p677
         replace q677 := eq_true q677
         go_wp2_with (first | ((with_reducible refine gate_callee (f := 19) rfl ?_); refine goesL_ (some 29) rfl rfl Try.func19 (by kernel_rfl) rfl #[.agg #[.int .i64 ((rd_T34 l0_1 a1).f0), .int .i64 ((rd_T34 l0_1 a1).f1)], .bool a2] rfl sma ?_; (with_reducible refine (hopmeshref12_Add.calls ((rd_T34 l0_1 a1).f0) ((rd_T34 l0_1 a1).f1) a2 t678 t679 t680 _ A18.out).mono ?_); rintro e w25 ⟨rfl, hb⟩; refine ⟨_, rfl, ?_⟩; replace BK674 := bkB BK674 hb; replace BK675 := bkB BK675 hb; replace HB := hbS HB hb; (try clear hb); (try clear hb2); (try clear hk); (try clear hi)) | ((with_reducible refine gate_dst (N := 8) rfl ?_); refine boxE 8 #[.int .i64 0, .int .i64 0] 34 ?_; intro gb681 hg w26 hbox hb; have BK681 := Aside0.mk (hbox); have GW681 := gw hg HB; have GE681 := gw hg HB; replace HB := hbS HB hb; have NB674_681 := nbl hg BK674; have NB681_674 := nbg hg BK674; replace BK674 := bkB BK674 hb; have NB675_681 := nbl hg BK675; have NB681_675 := nbg hg BK675; replace BK675 := bkB BK675 hb; clear hb hbox hg; have hnb27 := NB681_674.out; have hnc27 := NB674_681.out; have hnb28 := NB681_675.out; have hnc28 := NB675_681.out; obtain ⟨z0, z1, y0, y1⟩ := bc2 BK681; obtain ⟨z0, z1, z2, z3, y0, y1, y2, y3⟩ := bc4 BK674) | ((with_reducible refine gate_callee (f := 13) rfl ?_); refine goesL_ (some 37) rfl rfl Try.func13 (by kernel_rfl) rfl #[.agg #[.int .i64 a0_0, .slice (some ad677) l0_1.length c0_1, .slice A0_2 l0_2.length c0_2, .slice A0_3 l0_3.length c0_3]] rfl sma ?_; (with_reducible refine (hopmeshref12_Copy.calls a0_0 _ _ l0_1 _ _ l0_2 _ _ l0_3 t682 t683 t686 t689 _ ?side1 HC0_1.out ?side3 HC0_2.out ?side5 HC0_3.out A20.out).mono ?_); (case side1 => exact Kd.C_below HR0_1.out (hbx HB)); (case side3 => exact Kd.C_below HR0_2.out (hbx HB)); (case side5 => exact Kd.C_below HR0_3.out (hbx HB)); rintro e w31 ⟨v684, v687, v690, rfl, ho0, ho1, ho2, hb⟩; refine ⟨_, rfl, ?_⟩; have HO685 := Aside0.mk (Kd.R_lower (Kd.R_newB ho0 (g := gb681) (o := .cells #[.int .i64 t678, .int .i64 t679] 34 (0, 0)) (bkp BK681)) (below_size (hbx HB))); have HO688 := Aside0.mk (Kd.R_lower ho1 (below_size (hbx HB))); have HO691 := Aside0.mk (Kd.R_lower ho2 (below_size (hbx HB))); replace BK674 := bkfB BK674 hb; replace BK675 := bkfB BK675 hb; replace BK681 := Aside0.mk (blk_below (o := .cells #[.int .i64 t678, .int .i64 t679] 34 (0, 0)) (bkp BK681) hb); replace HB := hbS HB hb; (try clear hb); (try clear hb2); (try clear hk); (try clear hi); (try clear ho0); (try clear ho1); (try clear ho2)) | ((with_reducible refine gate_dst (N := 10) rfl ?_); refine boxE 10 #[.int .i64 0, .slice none 0 0, .slice none 0 0, .slice none 0 0] 25 ?_; intro gb692 hg w32 hbox hb; replace HO685 := rB HO685 hb; replace HO688 := rB HO688 hb; replace HO691 := rB HO691 hb; have BK692 := Aside0.mk (hbox); have GW692 := gw hg HB; have GE692 := gw hg HB; replace HB := hbS HB hb; have NB674_692 := nbl hg BK674; have NB692_674 := nbg hg BK674; replace BK674 := bkB BK674 hb; have NB675_692 := nbl hg BK675; have NB692_675 := nbg hg BK675; replace BK675 := bkB BK675 hb; have NB681_692 := nbl hg BK681; have NB692_681 := nbg hg BK681; replace BK681 := bkB BK681 hb; clear hb hbox hg; have hnb33 := NB692_674.out; have hnc33 := NB674_692.out; have hnb34 := NB692_675.out; have hnc34 := NB675_692.out; have hnb35 := NB692_681.out; have hnc35 := NB681_692.out; obtain ⟨z0, z1, z2, z3, y0, y1, y2, y3⟩ := bc4 BK692; obtain ⟨Ao37, co37, eo37⟩ := Kd.R_slice HO685.out; subst eo37; obtain ⟨Ao38, co38, eo38⟩ := Kd.R_slice HO688.out; subst eo38; obtain ⟨Ao39, co39, eo39⟩ := Kd.R_slice HO691.out; subst eo39) | ((with_reducible refine gate_store (t := 25) (p := 10) rfl ?_); refine store_event (t := 25) (p := 10) (v := ?vo_w40) (w1 := ((((w32.setCell ⟨gb692, 0, none⟩ (.int .i64 t682)).setCell ⟨gb692, 1, none⟩ (.slice Ao37 t683.length co37)).setCell ⟨gb692, 2, none⟩ (.slice Ao38 t686.length co38)).setCell ⟨gb692, 3, none⟩ (.slice Ao39 t689.length co39))) ?hg ?ho ?hn ?hr ?_; (case ho => rfl); (case hg => rfl); (case hn => rfl); (case hr => first | (go_simp; done) | (go_simp; rfl)); intro w40 hw; have n0_ : Aside0 (Kd.R k34 34 w40 w.heap.size (fun k_ => k_ ≠ gb681) (.slice Ao37 t683.length co37) t683) := ⟨(by rw [hw]; exact (Kd.R_mono (rty (rfo HO685) BK692) (fun _ hk => hk.1.2)))⟩; have n1_ : Aside0 (Kd.R (Kd.int .i64) 3 w40 w.heap.size (fun k_ => some k_ ≠ (.slice Ao39 t689.length co39 : Value).ownBlock) (.slice Ao38 t686.length co38) t686) := ⟨(by rw [hw]; exact (rfo HO688))⟩; have n2_ : Aside0 (Kd.R (Kd.int .i64) 3 w40 w.heap.size (fun k_ => some k_ ≠ (.slice Ao38 t686.length co38 : Value).ownBlock) (.slice Ao39 t689.length co39) t689) := ⟨(by rw [hw]; exact (rfo HO691))⟩; have n3_ : Aside0 (w40.heap[gb674]? = some (.cells #[.int .i64 a0_0, .slice (some ad677) l0_1.length c0_1, .slice A0_2 l0_2.length c0_2, .slice A0_3 l0_3.length c0_3] 25 (0, 0))) := ⟨(by rw [hw]; exact (bkf BK674))⟩; have n4_ : Aside0 (w40.heap[gb675]? = some (.cells #[.int .i64 0, .slice none 0 0, .slice none 0 0, .slice none 0 0] 25 (0, 0))) := ⟨(by rw [hw]; exact (bkf BK675))⟩; have n5_ : Aside0 (w40.heap[gb681]? = some (.cells #[.int .i64 t678, .int .i64 t679] 34 (0, 0))) := ⟨(by rw [hw]; exact (bkf BK681))⟩; have n6_ : Aside0 (w40.heap[gb692]? = some (.cells #[.int .i64 t682, .slice Ao37 t683.length co37, .slice Ao38 t686.length co38, .slice Ao39 t689.length co39] 25 (0, 0))) := ⟨(by rw [hw]; exact (bkp BK692))⟩; have n7_ : Aside0 (Below w.heap.size w w40) := ⟨(by rw [hw]; exact (hbx HB))⟩; clear hw; clear HO685; clear HO688; clear HO691; clear BK674; clear BK675; clear BK681; clear BK692; clear HB; have HO685 := n0_; have HO688 := n1_; have HO691 := n2_; have BK674 := n3_; have BK675 := n4_; have BK681 := n5_; have BK692 := n6_; have HB := n7_; clear n0_ n1_ n2_ n3_ n4_ n5_ n6_ n7_; obtain ⟨z0, z1, z2, z3, y0, y1, y2, y3⟩ := bc4 BK692; obtain ⟨z0, z1, y0, y1⟩ := bc2 BK681; have p22 : 0 ≤ (a1 : Int) := pos_; have q22 : (a1 : Int) < ((t683.length : Int) : Int) := pos_; obtain ⟨go22, co22, eo22, gb22, gl22, cl22, HG22⟩ := Kd.R_form HO685.out (by omega); (first | cases eo22 | (injection eo22 with ea_ en_ ec_; (first | subst ea_ | (injection ea_ with ea_; subst ea_)); subst ec_; clear en_)); have GB22 := Aside0.mk gb22; have GG22 := Aside0.mk HG22; clear gb22 gl22 HG22; obtain ⟨ce22, hcl22, hM22, hcc22, hfr22⟩ := Kd.R_elem HO685.out z34 (a1 : Int) p22 q22; obtain rfl := k34_openM hM22; have hx22_0 : w40.cell? ⟨go22, (a1 : Int).toNat * 2, none⟩ = some (.int .i64 ((rd_T34 t683 a1).f0)) := hcc22 0 _ rfl; have hx22_1 : w40.cell? ⟨go22, (a1 : Int).toNat * 2 + 1, none⟩ = some (.int .i64 ((rd_T34 t683 a1).f1)) := hcc22 1 _ rfl; have hf22_0 : w40.frozen? ⟨go22, (a1 : Int).toNat * 2, none⟩ = false := hfr22 0; have hf22_1 : w40.frozen? ⟨go22, (a1 : Int).toNat * 2 + 1, none⟩ = false := hfr22 1; clear hcl22 hcc22 hfr22 hM22; replace p22 := eq_true p22; replace q22 := eq_true q22; have HX43 := Aside0.mk (show Kd.R k34 34 w40 w.heap.size (fun k_ => k_ ≠ gb681) (.slice (some ⟨go22, 0, none⟩) t683.length co37) t683 from (ro HO685)); obtain ⟨ce43, hcl43, hM43, hcc43, hfr43⟩ := Kd.R_elem HX43.out z34 (a1 : Int) (pos_) (by have h_ : (a1 : Int) < ((t683.length : Int) : Int) := pos_; first | exact h_ | (have e_ := (Kd.R_reads' HO685.out).1; omega) | simpa using h_); obtain rfl := k34_openM hM43; have HP43 := Kd.R_seg HX43.out (a1 : Int) (pos_) (by have h_ : (a1 : Int) < ((t683.length : Int) : Int) := pos_; first | exact h_ | (have e_ := (Kd.R_reads' HO685.out).1; omega) | simpa using h_) (seg := [.int .i64 t678, .int .i64 t679]) (j := 0) hcl43 hcc43 (show 2 ≤ 2 from by decide) (x' := (⟨t678, t679⟩ : S34)) (k34_mkM _ _ _ (⟨t678, t679⟩ : S34) ) (fun _ hk => hk); have hx43_0 := hcc43 0 _ rfl; (try simp only [show (k34).sz = 2 from rfl, Nat.mul_one, Nat.add_zero] at hx43_0); have hf43_0 := hfr43 0; (try simp only [show (k34).sz = 2 from rfl, Nat.mul_one, Nat.add_zero] at hf43_0); have hx43_1 := hcc43 1 _ rfl; (try simp only [show (k34).sz = 2 from rfl, Nat.mul_one, Nat.add_zero] at hx43_1); have hf43_1 := hfr43 1; (try simp only [show (k34).sz = 2 from rfl, Nat.mul_one, Nat.add_zero] at hf43_1); clear hcl43 hcc43 hfr43 hM43) | ((with_reducible refine gate_store (t := 34) (p := 42) rfl ?_); refine store_event (t := 34) (p := 42) (v := ?vo_w44) (w1 := ((w40.setCell ⟨go22, (a1 : Int).toNat * 2, none⟩ (.int .i64 t678)).setCell ⟨go22, (a1 : Int).toNat * 2 + 1, none⟩ (.int .i64 t679))) ?hg ?ho ?hn ?hr ?_; (case ho => rfl); (case hg => rfl); (case hn => rfl); (case hr => first | (go_simp; done) | (go_simp; rfl)); intro w44 hw; have hg : w40.grownBy w44 (some go22) := (by rw [hw]; exact HP43.2); have hp_ : Kd.R k34 34 w44 w.heap.size (fun k_ => k_ ≠ gb681) (.slice (some ⟨go22, 0, none⟩) t683.length co37) y693 := (by rw [hw, Ny693.out]; exact HP43.1); clear HP43; replace BK674 := Aside0.mk (blk_grown (bk BK674) hg (Kd.R_ne HO685.out BK674.out (by decide))); replace BK675 := Aside0.mk (blk_grown (bk BK675) hg (Kd.R_ne HO685.out BK675.out (by decide))); replace BK681 := Aside0.mk (blk_grown (bk BK681) hg (Kd.R_away HO685.out (fun _ hk => hk))); replace HO688 := Aside0.mk (Kd.R_over' (v := (.slice (some ⟨go22, 0, none⟩) t683.length co37)) (ro HO688) (Kd.R_typed HO685.out) (by decide) hg); replace HO691 := Aside0.mk (Kd.R_over' (v := (.slice (some ⟨go22, 0, none⟩) t683.length co37)) (ro HO691) (Kd.R_typed HO685.out) (by decide) hg); replace BK692 := Aside0.mk (blk_grown (bk BK692) hg (Kd.R_ne HO685.out BK692.out (by decide))); replace HO685 := Aside0.mk (hp_); replace HB := Aside0.mk ((by rw [hw]; exact below_set (below_set (HB.out) GB22.out) GB22.out : Below w.heap.size w w44)); clear hg hw hp_; obtain ⟨z0, z1, z2, z3, y0, y1, y2, y3⟩ := bc4 BK692; obtain ⟨z0, z1, z2, z3, y0, y1, y2, y3⟩ := bc4 BK675))
         refine bodyPost_ret (results_ct rfl _ _ gb675 25 #[.int .i64 t682, .slice (some ⟨go22, 0, none⟩) t683.length co37, .slice Ao38 t686.length co38, .slice Ao39 t689.length co39] (0, 0) _ rfl (bkp BK675) Try.underlying25 rfl (by kernel_rfl)) rfl ?_
         exact ⟨_, _, _, rerr, Kd.R_mono (rty (rfo HO685) BK675) (fun _ hk => trivial), rfo HO688, rfo HO691, hbx HB⟩
        ·rw [if_neg c21] at H
         exact absurd H (by simp)
       ·rw [if_neg c19] at H
        have c19b0 : (t680 == 0) = false := beq_eq_false_iff_ne.mpr c19
        have c19b1 : (t680 != 0) = true := bne_iff_ne.mpr c19
        simp only [Option.some.injEq, Prod.mk.injEq] at H
        obtain ⟨rfl, rfl, rfl, rfl, rfl⟩ := H
        have hnb47 := NB674_675.out
        have hnc47 := NB675_674.out
        obtain ⟨z0, z1, z2, z3, y0, y1, y2, y3⟩ := bc4 BK674
        have p677 : 0 ≤ (a1 : Int) := pos_
        have q677 : a1 < (l0_1.length : Int) := pos_
        obtain ⟨ad677, e677, hx677_0, hx677_1⟩ := at_T34 HR0_1.out a1 p677 q677
        cases e677
        replace hx677_0 := (HB.out.cell (World.block_lt_of_cell? w _ hx677_0)).trans hx677_0
        replace hx677_1 := (HB.out.cell (World.block_lt_of_cell? w _ hx677_1)).trans hx677_1
        replace p677 := eq_true p677
        replace q677 := eq_true q677
        go_wp2_with (first | ((with_reducible refine gate_callee (f := 19) rfl ?_); refine goesL_ (some 29) rfl rfl Try.func19 (by kernel_rfl) rfl #[.agg #[.int .i64 ((rd_T34 l0_1 a1).f0), .int .i64 ((rd_T34 l0_1 a1).f1)], .bool a2] rfl sma ?_; (with_reducible refine (hopmeshref12_Add.calls ((rd_T34 l0_1 a1).f0) ((rd_T34 l0_1 a1).f1) a2 t678 t679 t680 _ A18.out).mono ?_); rintro e w49 ⟨rfl, hb⟩; refine ⟨_, rfl, ?_⟩; replace BK674 := bkB BK674 hb; replace BK675 := bkB BK675 hb; replace HB := hbS HB hb; (try clear hb); (try clear hb2); (try clear hk); (try clear hi)) | ((with_reducible refine gate_dst (N := 8) rfl ?_); refine boxE 8 #[.int .i64 0, .int .i64 0] 34 ?_; intro gb681 hg w50 hbox hb; have BK681 := Aside0.mk (hbox); have GW681 := gw hg HB; have GE681 := gw hg HB; replace HB := hbS HB hb; have NB674_681 := nbl hg BK674; have NB681_674 := nbg hg BK674; replace BK674 := bkB BK674 hb; have NB675_681 := nbl hg BK675; have NB681_675 := nbg hg BK675; replace BK675 := bkB BK675 hb; clear hb hbox hg; have hnb51 := NB681_674.out; have hnc51 := NB674_681.out; have hnb52 := NB681_675.out; have hnc52 := NB675_681.out; obtain ⟨z0, z1, y0, y1⟩ := bc2 BK681; obtain ⟨z0, z1, z2, z3, y0, y1, y2, y3⟩ := bc4 BK675))
        refine bodyPost_ret (results_ct rfl _ _ gb675 25 #[.int .i64 0, .slice none 0 0, .slice none 0 0, .slice none 0 0] (0, 0) _ rfl (bkp BK675) Try.underlying25 rfl (by kernel_rfl)) rfl ?_
        exact ⟨_, _, _, rerr, rnil, rnil, rnil, hbx HB⟩
      ·rw [if_neg c17] at H
       exact absurd H (by simp)
     ·rw [if_neg c16] at H
      exact absurd H (by simp)
 ·rw [if_neg c5] at H
  have c5b0 : (t676 == 0) = false := beq_eq_false_iff_ne.mpr c5
  have c5b1 : (t676 != 0) = true := bne_iff_ne.mpr c5
  simp only [Option.some.injEq, Prod.mk.injEq] at H
  obtain ⟨rfl, rfl, rfl, rfl, rfl⟩ := H
  go_enter Try.func36, Try.ntmps36
  go_wp2_with (first | ((with_reducible refine gate_dst (N := 3) rfl ?_); refine boxE 3 #[.int .i64 a0_0, .slice A0_1 l0_1.length c0_1, .slice A0_2 l0_2.length c0_2, .slice A0_3 l0_3.length c0_3] 25 ?_; intro gb674 hg w55 hbox hb; have BK674 := Aside0.mk (hbox); have GW674 := gw hg HB; have GE674 := gw hg HB; replace HB := hbS HB hb; clear hb hbox hg) | ((with_reducible refine gate_dst (N := 6) rfl ?_); refine boxE 6 #[.int .i64 0, .slice none 0 0, .slice none 0 0, .slice none 0 0] 25 ?_; intro gb675 hg w56 hbox hb; have BK675 := Aside0.mk (hbox); have GW675 := gw hg HB; have GE675 := gw hg HB; replace HB := hbS HB hb; have NB674_675 := nbl hg BK674; have NB675_674 := nbg hg BK674; replace BK674 := bkB BK674 hb; clear hb hbox hg; have hnb57 := NB674_675.out; have hnc57 := NB675_674.out; obtain ⟨z0, z1, z2, z3, y0, y1, y2, y3⟩ := bc4 BK674) | ((with_reducible refine gate_callee (f := 39) rfl ?_); refine goesL_ (some 12) rfl rfl Try.func39 (by kernel_rfl) rfl #[.agg #[.int .i64 a0_0, .slice A0_1 l0_1.length c0_1, .slice A0_2 l0_2.length c0_2, .slice A0_3 l0_3.length c0_3]] rfl sma ?_; (with_reducible refine (hopmeshref12_Valid.calls k a0_0 _ _ l0_1 _ _ l0_2 _ _ l0_3 t676 _ (cb HR0_1 HB) HC0_1.out (cb HR0_2 HB) HC0_2.out (cb HR0_3 HB) HC0_3.out A4.out).mono ?_); rintro e w59 ⟨rfl, hb⟩; refine ⟨_, rfl, ?_⟩; replace BK674 := bkB BK674 hb; replace BK675 := bkB BK675 hb; replace HB := hbS HB hb; (try clear hb); (try clear hb2); (try clear hk); (try clear hi); obtain ⟨z0, z1, z2, z3, y0, y1, y2, y3⟩ := bc4 BK675))
  refine bodyPost_ret (results_ct rfl _ _ gb675 25 #[.int .i64 0, .slice none 0 0, .slice none 0 0, .slice none 0 0] (0, 0) _ rfl (bkp BK675) Try.underlying25 rfl (by kernel_rfl)) rfl ?_
  exact ⟨_, _, _, rerr, rnil, rnil, rnil, hbx HB⟩
end Go.Proofs.Ytnipgplobipeeaa.PQ
