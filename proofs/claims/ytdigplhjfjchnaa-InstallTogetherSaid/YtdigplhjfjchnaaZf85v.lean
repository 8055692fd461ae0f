-- Printed by fprint.py and zip.py, programs of this session's, over the kit's print; Lean checks it.
import Derived.Test.YtdigplhjfjchnaaZ0
import Derived.Test.YtdigplhjfjchnaaZf50
import Derived.Test.YtdigplhjfjchnaaZf89
import Derived.Test.YtdigplhjfjchnaaZf85w
namespace Go.Proofs.Ytdigplhjfjchnaa.PQ
open Go.RowKit Go.Proofs.YtdigplhjfjchnaaW.PrintWords Go.Proofs.YtdigplhjfjchnaaW.PrintLast Go.Proofs.YtdigplhjfjchnaaW.PrintMore
attribute [local go_sem] max2_int min2_int max_two min_two max_three min_three max_four min_four   -- for this text's walks alone
set_option linter.unusedVariables false
set_option linter.unusedSimpArgs false
set_option maxHeartbeats 8000000 in
set_option maxRecDepth 100000 in
theorem hopmeshlaw49_Delivery_85.way2 (k : Nat) : ∀ (P0_ : Nat → Prop) (u9000_ : Value) (l0 : List (S47)) (a1 : Int) (a2 : Int) (a3 : Int)  (r : List (S47)) (w0 w : World) (hB : Below w0.heap.size w0 w) (ho0 : Kd.R k47 47 w w0.heap.size P0_ u9000_ l0) (h : hopmeshlaw49_Delivery_85.f k l0 a1 a2 a3 = some r) (cx1 : Aside0 (¬ ((wrap64 (a2 - a1)) = 1))) (cx2 : Aside0 ((wrap64 (a3 - a2)) = 1)),
 Calls Try.prog 85 #[u9000_, .int .i64 a1, .int .i64 a2, .int .i64 a3, .func (.func 50) #[] #[]] w fun e w' => e = .returned (.tuple #[]) ∧ Kd.R k47 47 w' w0.heap.size (fun k_ => (P0_ k_ ∨ w.heap.size ≤ k_)) u9000_ r ∧ Below w0.heap.size w0 w' ∧ Kept w w' (fun k_ => P0_ k_) := by
 induction k using Nat.strongRecOn with
 | _ k ih =>
 intro P0_ u9000_ l0 a1 a2 a3 r w0 w hB ho0 h cx1 cx2
 cases k with
 | zero => exact absurd h (by simp [hopmeshlaw49_Delivery_85.f])
 | succ k =>
 simp only [hopmeshlaw49_Delivery_85.f] at h
 have hu47 := Try.underlying47
 have HO0 := Aside0.mk (show Kd.R k47 47 w w0.heap.size (fun k_ => (P0_ k_ ∨ w.heap.size ≤ k_)) u9000_ l0 from Kd.R_mono ho0 (fun k_ hk => (.inl hk)))
 have HK := Aside0.mk (Kept.refl w (fun k_ => P0_ k_))
 have HW0 := Aside0.mk hB.size
 have HB := Aside0.mk hB
 clear hB
 have H : (if (wrap64 (a2 - a1)) = 1 then (hopmeshlaw49_Delivery_85.l0 k l0 a1 a2 a3) else (if (wrap64 (a3 - a2)) = 1 then (hopmeshlaw49_Delivery_85.l2 k l0 a2 a1 a2) else (if a2 > (wrap64 ((IntKind.u64.wrap (wrap64 (a1 + a3))) / 2)) then (hopmeshlaw49_Delivery_85.j4 k l0 a1 a2 a3 (wrap64 ((IntKind.u64.wrap (wrap64 (a1 + a3))) / 2)) (wrap64 ((wrap64 ((IntKind.u64.wrap (wrap64 (a1 + a3))) / 2)) + a2)) (wrap64 ((wrap64 ((wrap64 ((IntKind.u64.wrap (wrap64 (a1 + a3))) / 2)) + a2)) - a3)) (wrap64 ((IntKind.u64.wrap (wrap64 (a1 + a3))) / 2))) else (hopmeshlaw49_Delivery_85.j4 k l0 a1 a2 a3 (wrap64 ((IntKind.u64.wrap (wrap64 (a1 + a3))) / 2)) (wrap64 ((wrap64 ((IntKind.u64.wrap (wrap64 (a1 + a3))) / 2)) + a2)) a1 a2)))) = some r := h
 clear h
 by_cases c6 : (wrap64 (a2 - a1)) = 1
 ·exact absurd c6 cx1.out
 ·rw [if_neg c6] at H
  have c6b0 : ((wrap64 (a2 - a1)) == 1) = false := beq_eq_false_iff_ne.mpr c6
  have c6b1 : ((wrap64 (a2 - a1)) != 1) = true := bne_iff_ne.mpr c6
  by_cases c33 : (wrap64 (a3 - a2)) = 1
  ·rw [if_pos c33] at H
   have c33b0 : ((wrap64 (a3 - a2)) == 1) = true := beq_iff_eq.mpr c33
   have c33b1 : ((wrap64 (a3 - a2)) != 1) = false := bne_eq_false_iff_eq.mpr c33
   clear c33
   have H' := Aside0.mk H
   clear H
   go_enter Try.func85, Try.ntmps85
   go_wp2
   go_loopg [14, 15] k (fun kq v14 v15 w' => ∃ (x14_1 : Int) (x15_1 : Int), v14 = .int .i64 x14_1 ∧ v15 = .int .i64 x15_1 ∧ Aside0 (hopmeshlaw49_Delivery_85.l2 kq l0 a2 x14_1 x15_1 = some r) ∧ Aside0 (kq ≤ k) ∧ Aside0 (Kd.R k47 47 w' w0.heap.size (fun k_ => (P0_ k_ ∨ w.heap.size ≤ k_)) u9000_ l0) ∧ Aside0 (Kept w w' (fun k_ => P0_ k_)) ∧ Aside0 (Below w0.heap.size w0 w'))
   case atStart => exact ⟨(a1), (a2), rfs, rfs, H', ⟨Nat.le_refl _⟩, roA HO0, ⟨by repeat (first | (with_reducible first | exact HK.out | apply Kept.alloc | apply Kept.drewN | apply Kept.drew) | exact HK.out)⟩, hbA HB⟩
   case round =>
    clear H'
    try clear c6
    try clear c6b0
    try clear c6b1
    try clear c33
    try clear c33b0
    try clear c33b1
    obtain ⟨x14_1, x15_1, rfl, rfl, HA, HK1, HO_0, HK, HB⟩ := hrel
    cases gk with
    | zero => exact absurd HA.out (by simp [hopmeshlaw49_Delivery_85.l2])
    | succ k1 =>
     have H := HA.out
     clear HA
     simp only [hopmeshlaw49_Delivery_85.l2] at H
     by_cases c34 : x14_1 < x15_1
     ·rw [if_pos c34] at H
      have c34b0 : decide (x14_1 < x15_1) = true := decide_eq_true c34
      clear c34
      by_cases c35 : 0 ≤ a2
      ·rw [if_pos c35] at H
       have c35b0 : decide (0 ≤ a2) = true := decide_eq_true c35
       clear c35
       by_cases c36 : a2 < (l0.length : Int)
       ·rw [if_pos c36] at H
        have c36b0 : decide (a2 < (l0.length : Int)) = true := decide_eq_true c36
        clear c36
        obtain ⟨ji37, hji37⟩ : ∃ j_ : Int, (wrap64 ((IntKind.u64.wrap (wrap64 (x14_1 + x15_1))) / 2)) = j_ := ⟨_, rfl⟩
        replace H : (if 0 ≤ (ji37) then (if (ji37) < (l0.length : Int) then ((hopmeshlaw49_order_1.f ((rd_T47 l0 a2).f0) ((rd_T47 l0 a2).f1) ((rd_T47 l0 a2).f2) ((rd_T47 l0 (ji37)).f0) ((rd_T47 l0 (ji37)).f1) ((rd_T47 l0 (ji37)).f2)).bind fun t317 => (if t317 < 0 then (hopmeshlaw49_Delivery_85.l2 k1 l0 a2 x14_1 ji37) else (hopmeshlaw49_Delivery_85.l2 k1 l0 a2 (wrap64 ((ji37) + 1)) x15_1))) else (none)) else (none)) = some r := by first | (rw [hji37] at H; exact H) | (simp only [hji37] at H ⊢; exact H)
        have hji37w : (IntKind.i64.wrap ((IntKind.u64.wrap (wrap64 (x14_1 + x15_1))) / 2)) = ji37 := (i64_w _).trans hji37
        by_cases c38 : 0 ≤ (ji37)
        ·rw [if_pos c38] at H
         have c38b0 : decide (0 ≤ (ji37)) = true := decide_eq_true c38
         clear c38
         by_cases c39 : (ji37) < (l0.length : Int)
         ·rw [if_pos c39] at H
          have c39b0 : decide ((ji37) < (l0.length : Int)) = true := decide_eq_true c39
          clear c39
          replace H := Option.bind_eq_some_iff.mp H
          obtain ⟨t317, A400, H⟩ := H
          (try dsimp only at H)
          have A40 := Aside0.mk A400
          clear A400
          by_cases c41 : t317 < 0
          ·rw [if_pos c41] at H
           have c41b0 : decide (t317 < 0) = true := decide_eq_true c41
           clear c41
           have H' := Aside0.mk H
           clear H
           try go_wp2
           replace HO_0 := Aside0.mk (Kd.R_drew HO_0.out)
           replace HK := Aside0.mk (Kept.drew HK.out)
           replace HB := Aside0.mk (below_drew1 HB.out)
           obtain ⟨Ao43, co43, eo43⟩ := Kd.R_slice HO_0.out
           (first | subst eo43 | (injection eo43 with f1_ f2_ f3_; have f4_ := f1_.symm; have f5_ := f3_.symm; clear f1_ f2_ f3_; subst f4_; subst f5_))
           have p315 : 0 ≤ (a2 : Int) := pos_
           have q315 : a2 < (l0.length : Int) := pos_
           obtain ⟨ad315, e315, hx315_0, hx315_1, hx315_2⟩ := at_T47 (Kd.R_reads' HO_0.out).2.2 a2 p315 q315
           cases e315
           replace p315 := eq_true p315
           replace q315 := eq_true q315
           have p316 : 0 ≤ ((ji37) : Int) := pos_
           have q316 : (ji37) < (l0.length : Int) := pos_
           obtain ⟨ad316, e316, hx316_0, hx316_1, hx316_2⟩ := at_T47 (Kd.R_reads' HO_0.out).2.2 (ji37) p316 q316
           obtain rfl : ad315 = ad316 := (by injection e316)
           replace p316 := eq_true p316
           replace q316 := eq_true q316
           refine start_ (n := 12) (S := fun w' => w'.cell? (ad315.add ((a2).toNat * 3)) = some (.int .u8 ((rd_T47 l0 a2).f0)) ∧ w'.cell? ⟨(ad315.add ((a2).toNat * 3)).block, (ad315.add ((a2).toNat * 3)).off + 1, none⟩ = some (.int .u8 ((rd_T47 l0 a2).f1)) ∧ w'.cell? ⟨(ad315.add ((a2).toNat * 3)).block, (ad315.add ((a2).toNat * 3)).off + 2, none⟩ = some (.int .u8 ((rd_T47 l0 a2).f2)) ∧ w'.cell? (ad315.add (((ji37)).toNat * 3)) = some (.int .u8 ((rd_T47 l0 (ji37)).f0)) ∧ w'.cell? ⟨(ad315.add (((ji37)).toNat * 3)).block, (ad315.add (((ji37)).toNat * 3)).off + 1, none⟩ = some (.int .u8 ((rd_T47 l0 (ji37)).f1)) ∧ w'.cell? ⟨(ad315.add (((ji37)).toNat * 3)).block, (ad315.add (((ji37)).toNat * 3)).off + 2, none⟩ = some (.int .u8 ((rd_T47 l0 (ji37)).f2))) (ds := []) #[false, false, false, false, false, false, false, false, false, false, false, false] (by kernel_rfl) rfl rfl ⟨hx315_0, hx315_1, hx315_2, hx316_0, hx316_1, hx316_2⟩ (fun hHeld => ?_); refine with_tabW hopmeshlaw49_Delivery_85.tab17 hopmeshlaw49_Delivery_85.bits17 (fun HT_ HW_ => ?_)
           generalize wr.drew = w42 at HO_0 HK HB hx315_0 hx315_1 hx315_2 hx316_0 hx316_1 hx316_2 hHeld ⊢
           refine pur 0 (some 92) #[true, false, false, false, false, false, false, false, false, false, false, false] HT_ ?_
           refine pur 1 (some 93) #[true, true, false, false, false, false, false, false, false, false, false, false] HT_ ?_
           refine pur 2 (some 94) #[true, true, true, false, false, false, false, false, false, false, false, false] HT_ ?_
           refine pur 3 (some 95) #[true, true, true, true, false, false, false, false, false, false, false, false] HT_ ?_
           refine pur 5 (some 97) #[true, true, true, true, false, true, false, false, false, false, false, false] HT_ ?_
           refine pur 6 (some 98) #[true, true, true, true, false, true, true, false, false, false, false, false] HT_ ?_
           refine pur 7 (some 99) #[true, true, true, true, false, true, true, true, false, false, false, false] HT_ ?_
           refine tak 4 (some 96) #[true, true, true, true, true, true, true, true, false, false, false, false] HT_ HW_ hHeld rfl (Or.inl ⟨by rfl, by rintro w' ⟨s0, s1, s2, s3, s4, s5⟩; go_simp; with_reducible rfl⟩) ?_
           refine tak 8 (some 100) #[true, true, true, true, true, true, true, true, true, false, false, false] HT_ HW_ hHeld rfl (Or.inl ⟨by rfl, by rintro w' ⟨s0, s1, s2, s3, s4, s5⟩; go_simp; with_reducible rfl⟩) ?_
           refine one_ (i := 9) (N := some 101) #[true, true, true, true, true, true, true, true, true, true, false, false] rfl rfl (one_of HT_.out (by kernel_rfl)) (by decide) (fun K hK => ?_)
           refine goes_fv Try.func50 (by kernel_rfl) rfl #[.agg #[.int .u8 ((rd_T47 l0 a2).f0), .int .u8 ((rd_T47 l0 a2).f1), .int .u8 ((rd_T47 l0 a2).f2)], .agg #[.int .u8 ((rd_T47 l0 (ji37)).f0), .int .u8 ((rd_T47 l0 (ji37)).f1), .int .u8 ((rd_T47 l0 (ji37)).f2)]] (by rfl) rfl rfl (by rfl) (by (try simp only [List.map_toArray, List.map_cons, List.map_nil]); first | done | (simp only [hji37]; rfl) | rfl | (simp only [List.length_drop, List.length_take]; rfl)) ?_
           with_reducible refine (hopmeshlaw49_order_1.calls ((rd_T47 l0 a2).f0) ((rd_T47 l0 a2).f1) ((rd_T47 l0 a2).f2) ((rd_T47 l0 (ji37)).f0) ((rd_T47 l0 (ji37)).f1) ((rd_T47 l0 (ji37)).f2) t317 _ A40.out).mono ?_
           rintro e w44 ⟨rfl, hb⟩
           have HS0_ := (hb.cell (World.block_lt_of_cell? _ _ (hHeld.1))).trans (hHeld.1)
           have HS1_ := (hb.cell (World.block_lt_of_cell? _ _ (hHeld.2.1))).trans (hHeld.2.1)
           have HS2_ := (hb.cell (World.block_lt_of_cell? _ _ (hHeld.2.2.1))).trans (hHeld.2.2.1)
           have HS3_ := (hb.cell (World.block_lt_of_cell? _ _ (hHeld.2.2.2.1))).trans (hHeld.2.2.2.1)
           have HS4_ := (hb.cell (World.block_lt_of_cell? _ _ (hHeld.2.2.2.2.1))).trans (hHeld.2.2.2.2.1)
           have HS5_ := (hb.cell (World.block_lt_of_cell? _ _ (hHeld.2.2.2.2.2))).trans (hHeld.2.2.2.2.2)
           refine ⟨_, rfl, ?_⟩
           replace HO_0 := rB HO_0 hb
           replace HK := Aside0.mk (Kept.below (S := (fun k_ => P0_ k_)) (by repeat (first | (with_reducible first | exact HK.out | apply Kept.alloc | apply Kept.drewN | apply Kept.drew) | exact HK.out)) hb)
           replace HB := hbS HB hb
           (try clear hb)
           (try clear hk)
           refine hK.out _ _ ⟨HS0_, HS1_, HS2_, HS3_, HS4_, HS5_⟩ (fun hHeld => ?_)
           clear hK K
           refine nrm (some 101) ?_
           refine pur 10 (some 102) #[true, true, true, true, true, true, true, true, true, true, true, false] HT_ ?_
           refine pur 11 (some 103) #[true, true, true, true, true, true, true, true, true, true, true, true] HT_ ?_
           refine done_ (done_of HT_.out (by kernel_rfl)) ?_
           try go_wp2
           go_roundg k1
           case measure => have := HK1.out; omega
           case rel => exact ⟨(x14_1), (ji37), rfs, (by first | rfl | (simp; done) | (simp only [← hji37] <;> (first | rfl | simp)) | (simp [*]; done)), H', ⟨by have := HK1.out; omega⟩, roA HO_0, ⟨by repeat (first | (with_reducible first | exact HK.out | apply Kept.alloc | apply Kept.drewN | apply Kept.drew) | exact HK.out)⟩, hbA HB⟩
          ·rw [if_neg c41] at H
           have c41b0 : decide (t317 < 0) = false := decide_eq_false c41
           clear c41
           have H' := Aside0.mk H
           clear H
           try go_wp2
           replace HO_0 := Aside0.mk (Kd.R_drew HO_0.out)
           replace HK := Aside0.mk (Kept.drew HK.out)
           replace HB := Aside0.mk (below_drew1 HB.out)
           obtain ⟨Ao46, co46, eo46⟩ := Kd.R_slice HO_0.out
           (first | subst eo46 | (injection eo46 with f1_ f2_ f3_; have f4_ := f1_.symm; have f5_ := f3_.symm; clear f1_ f2_ f3_; subst f4_; subst f5_))
           have p315 : 0 ≤ (a2 : Int) := pos_
           have q315 : a2 < (l0.length : Int) := pos_
           obtain ⟨ad315, e315, hx315_0, hx315_1, hx315_2⟩ := at_T47 (Kd.R_reads' HO_0.out).2.2 a2 p315 q315
           cases e315
           replace p315 := eq_true p315
           replace q315 := eq_true q315
           have p316 : 0 ≤ ((ji37) : Int) := pos_
           have q316 : (ji37) < (l0.length : Int) := pos_
           obtain ⟨ad316, e316, hx316_0, hx316_1, hx316_2⟩ := at_T47 (Kd.R_reads' HO_0.out).2.2 (ji37) p316 q316
           obtain rfl : ad315 = ad316 := (by injection e316)
           replace p316 := eq_true p316
           replace q316 := eq_true q316
           refine start_ (n := 12) (S := fun w' => w'.cell? (ad315.add ((a2).toNat * 3)) = some (.int .u8 ((rd_T47 l0 a2).f0)) ∧ w'.cell? ⟨(ad315.add ((a2).toNat * 3)).block, (ad315.add ((a2).toNat * 3)).off + 1, none⟩ = some (.int .u8 ((rd_T47 l0 a2).f1)) ∧ w'.cell? ⟨(ad315.add ((a2).toNat * 3)).block, (ad315.add ((a2).toNat * 3)).off + 2, none⟩ = some (.int .u8 ((rd_T47 l0 a2).f2)) ∧ w'.cell? (ad315.add (((ji37)).toNat * 3)) = some (.int .u8 ((rd_T47 l0 (ji37)).f0)) ∧ w'.cell? ⟨(ad315.add (((ji37)).toNat * 3)).block, (ad315.add (((ji37)).toNat * 3)).off + 1, none⟩ = some (.int .u8 ((rd_T47 l0 (ji37)).f1)) ∧ w'.cell? ⟨(ad315.add (((ji37)).toNat * 3)).block, (ad315.add (((ji37)).toNat * 3)).off + 2, none⟩ = some (.int .u8 ((rd_T47 l0 (ji37)).f2))) (ds := []) #[false, false, false, false, false, false, false, false, false, false, false, false] (by kernel_rfl) rfl rfl ⟨hx315_0, hx315_1, hx315_2, hx316_0, hx316_1, hx316_2⟩ (fun hHeld => ?_); refine with_tabW hopmeshlaw49_Delivery_85.tab17 hopmeshlaw49_Delivery_85.bits17 (fun HT_ HW_ => ?_)
           generalize wr.drew = w45 at HO_0 HK HB hx315_0 hx315_1 hx315_2 hx316_0 hx316_1 hx316_2 hHeld ⊢
           refine pur 0 (some 92) #[true, false, false, false, false, false, false, false, false, false, false, false] HT_ ?_
           refine pur 1 (some 93) #[true, true, false, false, false, false, false, false, false, false, false, false] HT_ ?_
           refine pur 2 (some 94) #[true, true, true, false, false, false, false, false, false, false, false, false] HT_ ?_
           refine pur 3 (some 95) #[true, true, true, true, false, false, false, false, false, false, false, false] HT_ ?_
           refine pur 5 (some 97) #[true, true, true, true, false, true, false, false, false, false, false, false] HT_ ?_
           refine pur 6 (some 98) #[true, true, true, true, false, true, true, false, false, false, false, false] HT_ ?_
           refine pur 7 (some 99) #[true, true, true, true, false, true, true, true, false, false, false, false] HT_ ?_
           refine tak 4 (some 96) #[true, true, true, true, true, true, true, true, false, false, false, false] HT_ HW_ hHeld rfl (Or.inl ⟨by rfl, by rintro w' ⟨s0, s1, s2, s3, s4, s5⟩; go_simp; with_reducible rfl⟩) ?_
           refine tak 8 (some 100) #[true, true, true, true, true, true, true, true, true, false, false, false] HT_ HW_ hHeld rfl (Or.inl ⟨by rfl, by rintro w' ⟨s0, s1, s2, s3, s4, s5⟩; go_simp; with_reducible rfl⟩) ?_
           refine one_ (i := 9) (N := some 101) #[true, true, true, true, true, true, true, true, true, true, false, false] rfl rfl (one_of HT_.out (by kernel_rfl)) (by decide) (fun K hK => ?_)
           refine goes_fv Try.func50 (by kernel_rfl) rfl #[.agg #[.int .u8 ((rd_T47 l0 a2).f0), .int .u8 ((rd_T47 l0 a2).f1), .int .u8 ((rd_T47 l0 a2).f2)], .agg #[.int .u8 ((rd_T47 l0 (ji37)).f0), .int .u8 ((rd_T47 l0 (ji37)).f1), .int .u8 ((rd_T47 l0 (ji37)).f2)]] (by rfl) rfl rfl (by rfl) (by (try simp only [List.map_toArray, List.map_cons, List.map_nil]); first | done | (simp only [hji37]; rfl) | rfl | (simp only [List.length_drop, List.length_take]; rfl)) ?_
           with_reducible refine (hopmeshlaw49_order_1.calls ((rd_T47 l0 a2).f0) ((rd_T47 l0 a2).f1) ((rd_T47 l0 a2).f2) ((rd_T47 l0 (ji37)).f0) ((rd_T47 l0 (ji37)).f1) ((rd_T47 l0 (ji37)).f2) t317 _ A40.out).mono ?_
           rintro e w47 ⟨rfl, hb⟩
           have HS0_ := (hb.cell (World.block_lt_of_cell? _ _ (hHeld.1))).trans (hHeld.1)
           have HS1_ := (hb.cell (World.block_lt_of_cell? _ _ (hHeld.2.1))).trans (hHeld.2.1)
           have HS2_ := (hb.cell (World.block_lt_of_cell? _ _ (hHeld.2.2.1))).trans (hHeld.2.2.1)
           have HS3_ := (hb.cell (World.block_lt_of_cell? _ _ (hHeld.2.2.2.1))).trans (hHeld.2.2.2.1)
           have HS4_ := (hb.cell (World.block_lt_of_cell? _ _ (hHeld.2.2.2.2.1))).trans (hHeld.2.2.2.2.1)
           have HS5_ := (hb.cell (World.block_lt_of_cell? _ _ (hHeld.2.2.2.2.2))).trans (hHeld.2.2.2.2.2)
           refine ⟨_, rfl, ?_⟩
           replace HO_0 := rB HO_0 hb
           replace HK := Aside0.mk (Kept.below (S := (fun k_ => P0_ k_)) (by repeat (first | (with_reducible first | exact HK.out | apply Kept.alloc | apply Kept.drewN | apply Kept.drew) | exact HK.out)) hb)
           replace HB := hbS HB hb
           (try clear hb)
           (try clear hk)
           refine hK.out _ _ ⟨HS0_, HS1_, HS2_, HS3_, HS4_, HS5_⟩ (fun hHeld => ?_)
           clear hK K
           refine nrm (some 101) ?_
           refine pur 10 (some 102) #[true, true, true, true, true, true, true, true, true, true, true, false] HT_ ?_
           refine pur 11 (some 103) #[true, true, true, true, true, true, true, true, true, true, true, true] HT_ ?_
           refine done_ (done_of HT_.out (by kernel_rfl)) ?_
           try go_wp2
           go_roundg k1
           case measure => have := HK1.out; omega
           case rel => exact ⟨(wrap64 ((ji37) + 1)), (x15_1), (by first | rfl | (simp; done) | (simp only [← hji37] <;> (first | rfl | simp)) | (simp [*]; done)), rfs, H', ⟨by have := HK1.out; omega⟩, roA HO_0, ⟨by repeat (first | (with_reducible first | exact HK.out | apply Kept.alloc | apply Kept.drewN | apply Kept.drew) | exact HK.out)⟩, hbA HB⟩
         ·rw [if_neg c39] at H
          exact absurd H (by simp)
        ·rw [if_neg c38] at H
         exact absurd H (by simp)
       ·rw [if_neg c36] at H
        exact absurd H (by simp)
      ·rw [if_neg c35] at H
       exact absurd H (by simp)
     ·rw [if_neg c34] at H
      have c34b0 : decide (x14_1 < x15_1) = false := decide_eq_false c34
      clear c34
      have H' := Aside0.mk H
      clear H
      go_wp2
      go_loopg [17] k1 (fun kq v17 w' => ∃ (x0_2 : List (S47)) (x17_2 : Int), v17 = .int .i64 x17_2 ∧ Aside0 (hopmeshlaw49_Delivery_85.l3 kq x0_2 x14_1 x17_2 = some r) ∧ Aside0 (kq ≤ k1) ∧ Aside0 (Kd.R k47 47 w' w0.heap.size (fun k_ => (P0_ k_ ∨ w.heap.size ≤ k_)) u9000_ x0_2) ∧ Aside0 (Kept w w' (fun k_ => P0_ k_)) ∧ Aside0 (Below w0.heap.size w0 w'))
      case atStart => exact ⟨(l0), (a2), rfs, H', ⟨Nat.le_refl _⟩, roA HO_0, ⟨by repeat (first | (with_reducible first | exact HK.out | apply Kept.alloc | apply Kept.drewN | apply Kept.drew) | exact HK.out)⟩, hbA HB⟩
      case round =>
       clear H'
       try clear c6
       try clear c6b0
       try clear c6b1
       try clear c33
       try clear c33b0
       try clear c33b1
       try clear c34
       try clear c34b0
       obtain ⟨x0_2, x17_2, rfl, HA, HK2, HO_0, HK, HB⟩ := hrel
       cases gk with
       | zero => exact absurd HA.out (by simp [hopmeshlaw49_Delivery_85.l3])
       | succ k2 =>
        have H := HA.out
        clear HA
        simp only [hopmeshlaw49_Delivery_85.l3] at H
        by_cases c48 : x17_2 > x14_1
        ·rw [if_pos c48] at H
         have c48b0 : decide (x14_1 < x17_2) = true := decide_eq_true c48
         clear c48
         obtain ⟨ji49, hji49⟩ : ∃ j_ : Int, (wrap64 (x17_2 - 1)) = j_ := ⟨_, rfl⟩
         replace H : (if 0 ≤ (ji49) then (if (ji49) < (x0_2.length : Int) then (if 0 ≤ x17_2 then (if x17_2 < (x0_2.length : Int) then (hopmeshlaw49_Delivery_85.l3 k2 ((x0_2.set (x17_2 : Int).toNat (⟨(rd_T47 x0_2 (ji49)).f0, (rd_T47 x0_2 (ji49)).f1, (rd_T47 x0_2 (ji49)).f2⟩ : S47)).set ((ji49) : Int).toNat (⟨(rd_T47 x0_2 x17_2).f0, (rd_T47 x0_2 x17_2).f1, (rd_T47 x0_2 x17_2).f2⟩ : S47)) x14_1 ji49) else (none)) else (none)) else (none)) else (none)) = some r := by first | (rw [hji49] at H; exact H) | (simp only [hji49] at H ⊢; exact H)
         have hji49w : (IntKind.i64.wrap (x17_2 - 1)) = ji49 := (i64_w _).trans hji49
         by_cases c50 : 0 ≤ (ji49)
         ·rw [if_pos c50] at H
          have c50b0 : decide (0 ≤ (ji49)) = true := decide_eq_true c50
          clear c50
          by_cases c51 : (ji49) < (x0_2.length : Int)
          ·rw [if_pos c51] at H
           have c51b0 : decide ((ji49) < (x0_2.length : Int)) = true := decide_eq_true c51
           clear c51
           by_cases c52 : 0 ≤ x17_2
           ·rw [if_pos c52] at H
            have c52b0 : decide (0 ≤ x17_2) = true := decide_eq_true c52
            clear c52
            by_cases c53 : x17_2 < (x0_2.length : Int)
            ·rw [if_pos c53] at H
             have c53b0 : decide (x17_2 < (x0_2.length : Int)) = true := decide_eq_true c53
             clear c53
             obtain ⟨y320, hy320⟩ : ∃ y_ : List (S47), y_ = (x0_2.set (x17_2 : Int).toNat (⟨(rd_T47 x0_2 (ji49)).f0, (rd_T47 x0_2 (ji49)).f1, (rd_T47 x0_2 (ji49)).f2⟩ : S47)) := ⟨_, rfl⟩
             replace H : (hopmeshlaw49_Delivery_85.l3 k2 (y320.set ((ji49) : Int).toNat (⟨(rd_T47 x0_2 x17_2).f0, (rd_T47 x0_2 x17_2).f1, (rd_T47 x0_2 x17_2).f2⟩ : S47)) x14_1 ji49) = some r := by first | (rw [hy320]; with_reducible exact H) | (have H2_ := (Option.bind_some _ _).symm.trans H; rw [hy320]; with_reducible exact H2_) | (have H2_ := (Option.bind_some _ _).symm.trans H; with_reducible exact H2_) | with_reducible exact H | (rw [hy320]; exact H) | exact H
             have Ny320 := Aside0.mk hy320
             clear hy320
             obtain ⟨y321, hy321⟩ : ∃ y_ : List (S47), y_ = (y320.set ((ji49) : Int).toNat (⟨(rd_T47 x0_2 x17_2).f0, (rd_T47 x0_2 x17_2).f1, (rd_T47 x0_2 x17_2).f2⟩ : S47)) := ⟨_, rfl⟩
             replace H : (hopmeshlaw49_Delivery_85.l3 k2 y321 x14_1 ji49) = some r := by first | (rw [hy321]; with_reducible exact H) | (have H2_ := (Option.bind_some _ _).symm.trans H; rw [hy321]; with_reducible exact H2_) | (have H2_ := (Option.bind_some _ _).symm.trans H; with_reducible exact H2_) | with_reducible exact H | (rw [hy321]; exact H) | exact H
             have Ny321 := Aside0.mk hy321
             clear hy321
             have H' := Aside0.mk H
             clear H
             try go_wp2
             replace HO_0 := Aside0.mk (Kd.R_drew HO_0.out)
             replace HK := Aside0.mk (Kept.drew HK.out)
             replace HB := Aside0.mk (below_drew1 HB.out)
             obtain ⟨Ao57, co57, eo57⟩ := Kd.R_slice HO_0.out
             (first | subst eo57 | (injection eo57 with f1_ f2_ f3_; have f4_ := f1_.symm; have f5_ := f3_.symm; clear f1_ f2_ f3_; subst f4_; subst f5_))
             have p318 : 0 ≤ ((ji49) : Int) := pos_
             have q318 : (ji49) < (x0_2.length : Int) := pos_
             obtain ⟨ad318, e318, hx318_0, hx318_1, hx318_2⟩ := at_T47 (Kd.R_reads' HO_0.out).2.2 (ji49) p318 q318
             cases e318
             replace p318 := eq_true p318
             replace q318 := eq_true q318
             have p319 : 0 ≤ (x17_2 : Int) := pos_
             have q319 : x17_2 < (x0_2.length : Int) := pos_
             obtain ⟨ad319, e319, hx319_0, hx319_1, hx319_2⟩ := at_T47 (Kd.R_reads' HO_0.out).2.2 x17_2 p319 q319
             obtain rfl : ad318 = ad319 := (by injection e319)
             replace p319 := eq_true p319
             replace q319 := eq_true q319
             have p54 : 0 ≤ (x17_2 : Int) := pos_
             have q54 : (x17_2 : Int) < ((x0_2.length : Int) : Int) := pos_
             obtain ⟨go54, co54, eo54, gb54, gl54, cl54, HG54⟩ := Kd.R_form HO_0.out (by omega)
             (first | cases eo54 | (injection eo54 with ea_ en_ ec_; (first | subst ea_ | (injection ea_ with ea_; subst ea_)); subst ec_; clear en_))
             have GB54 := Aside0.mk gb54
             have GG54 := Aside0.mk HG54
             clear gb54 gl54 HG54
             have HMgo54 := Aside0.mk (show (P0_ go54 ∨ w.heap.size ≤ go54) from (HO_0.out.1 _ rfl))
             (first | simp only [add_plain] at hx318_0 | skip)
             (first | simp only [add_plain] at hx318_1 | skip)
             (first | simp only [add_plain] at hx318_2 | skip)
             (first | simp only [add_plain] at hx319_0 | skip)
             (first | simp only [add_plain] at hx319_1 | skip)
             (first | simp only [add_plain] at hx319_2 | skip)
             obtain ⟨ce54, hcl54, hM54, hcc54, hfr54⟩ := Kd.R_elem HO_0.out z47 (x17_2 : Int) p54 q54
             obtain rfl := k47_openM hM54
             have hx54_0 : World.cell? _ ⟨go54, (x17_2 : Int).toNat * 3, none⟩ = some (.int .u8 ((rd_T47 x0_2 x17_2).f0)) := hcc54 0 _ rfl
             have hx54_1 : World.cell? _ ⟨go54, (x17_2 : Int).toNat * 3 + 1, none⟩ = some (.int .u8 ((rd_T47 x0_2 x17_2).f1)) := hcc54 1 _ rfl
             have hx54_2 : World.cell? _ ⟨go54, (x17_2 : Int).toNat * 3 + 2, none⟩ = some (.int .u8 ((rd_T47 x0_2 x17_2).f2)) := hcc54 2 _ rfl
             have hf54_0 : World.frozen? _ ⟨go54, (x17_2 : Int).toNat * 3, none⟩ = false := hfr54 0
             have hf54_1 : World.frozen? _ ⟨go54, (x17_2 : Int).toNat * 3 + 1, none⟩ = false := hfr54 1
             have hf54_2 : World.frozen? _ ⟨go54, (x17_2 : Int).toNat * 3 + 2, none⟩ = false := hfr54 2
             clear hcl54 hcc54 hfr54 hM54
             replace p54 := eq_true p54
             replace q54 := eq_true q54
             obtain ⟨ce58, hcl58, hM58, hcc58, hfr58⟩ := Kd.R_elem HO_0.out z47 (x17_2 : Int) (pos_) (by have h_ : (x17_2 : Int) < ((x0_2.length : Int) : Int) := pos_; first | exact h_ | (have e_ := (Kd.R_reads' HO_0.out).1; omega) | simpa using h_)
             obtain rfl := k47_openM hM58
             have HP58 := (Kd.R_seg HO_0.out (x17_2 : Int) (pos_) (by have h_ : (x17_2 : Int) < ((x0_2.length : Int) : Int) := pos_; first | exact h_ | (have e_ := (Kd.R_reads' HO_0.out).1; omega) | simpa using h_) (seg := [.int .u8 ((rd_T47 x0_2 (ji49)).f0), .int .u8 ((rd_T47 x0_2 (ji49)).f1), .int .u8 ((rd_T47 x0_2 (ji49)).f2)]) (j := 0) hcl58 hcc58 (show 3 ≤ 3 from by decide) (x' := (⟨(rd_T47 x0_2 (ji49)).f0, (rd_T47 x0_2 (ji49)).f1, (rd_T47 x0_2 (ji49)).f2⟩ : S47)) (k47_mkM _ _ _ (⟨(rd_T47 x0_2 (ji49)).f0, (rd_T47 x0_2 (ji49)).f1, (rd_T47 x0_2 (ji49)).f2⟩ : S47) ) (fun _ hk => hk)).1
             rw [← Ny320.out] at HP58
             have HQ58 := Aside0.mk HP58
             clear hcl58 hcc58 hfr58 hM58 HP58
             have p55 : 0 ≤ ((ji49) : Int) := pos_
             have q55 : ((ji49) : Int) < ((x0_2.length : Int) : Int) := pos_
             obtain ⟨ce55, hcl55, hM55, hcc55, hfr55⟩ := Kd.R_elem HQ58.out z47 ((ji49) : Int) p55 q55
             obtain rfl := k47_openM hM55
             have hx55_0 : World.cell? _ ⟨go54, ((ji49) : Int).toNat * 3, none⟩ = some (.int .u8 ((rd_T47 y320 (ji49)).f0)) := hcc55 0 _ rfl
             have hx55_1 : World.cell? _ ⟨go54, ((ji49) : Int).toNat * 3 + 1, none⟩ = some (.int .u8 ((rd_T47 y320 (ji49)).f1)) := hcc55 1 _ rfl
             have hx55_2 : World.cell? _ ⟨go54, ((ji49) : Int).toNat * 3 + 2, none⟩ = some (.int .u8 ((rd_T47 y320 (ji49)).f2)) := hcc55 2 _ rfl
             have hf55_0 : World.frozen? _ ⟨go54, ((ji49) : Int).toNat * 3, none⟩ = false := hfr55 0
             have hf55_1 : World.frozen? _ ⟨go54, ((ji49) : Int).toNat * 3 + 1, none⟩ = false := hfr55 1
             have hf55_2 : World.frozen? _ ⟨go54, ((ji49) : Int).toNat * 3 + 2, none⟩ = false := hfr55 2
             clear hcl55 hcc55 hfr55 hM55
             replace p55 := eq_true p55
             replace q55 := eq_true q55
             obtain ⟨ce59, hcl59, hM59, hcc59, hfr59⟩ := Kd.R_elem HQ58.out z47 ((ji49) : Int) (pos_) (by have h_ : ((ji49) : Int) < ((x0_2.length : Int) : Int) := pos_; first | exact h_ | (have e_ := (Kd.R_reads' HO_0.out).1; omega) | simpa using h_)
             obtain rfl := k47_openM hM59
             have HP59 := (Kd.R_seg HQ58.out ((ji49) : Int) (pos_) (by have h_ : ((ji49) : Int) < ((x0_2.length : Int) : Int) := pos_; first | exact h_ | (have e_ := (Kd.R_reads' HO_0.out).1; omega) | simpa using h_) (seg := [.int .u8 ((rd_T47 x0_2 x17_2).f0), .int .u8 ((rd_T47 x0_2 x17_2).f1), .int .u8 ((rd_T47 x0_2 x17_2).f2)]) (j := 0) hcl59 hcc59 (show 3 ≤ 3 from by decide) (x' := (⟨(rd_T47 x0_2 x17_2).f0, (rd_T47 x0_2 x17_2).f1, (rd_T47 x0_2 x17_2).f2⟩ : S47)) (k47_mkM _ _ _ (⟨(rd_T47 x0_2 x17_2).f0, (rd_T47 x0_2 x17_2).f1, (rd_T47 x0_2 x17_2).f2⟩ : S47) ) (fun _ hk => hk)).1
             rw [← Ny321.out] at HP59
             have HQ59 := Aside0.mk HP59
             clear hcl59 hcc59 hfr59 hM59 HP59
             refine start_ (n := 18) (S := fun w' => w'.cell? ⟨go54, ((ji49)).toNat * 3, none⟩ = some (.int .u8 ((rd_T47 x0_2 (ji49)).f0)) ∧ w'.cell? ⟨go54, ((ji49)).toNat * 3 + 1, none⟩ = some (.int .u8 ((rd_T47 x0_2 (ji49)).f1)) ∧ w'.cell? ⟨go54, ((ji49)).toNat * 3 + 2, none⟩ = some (.int .u8 ((rd_T47 x0_2 (ji49)).f2)) ∧ w'.cell? ⟨go54, ((x17_2).toNat * 3), none⟩ = some (.int .u8 ((rd_T47 x0_2 x17_2).f0)) ∧ w'.cell? ⟨go54, ((x17_2).toNat * 3) + 1, none⟩ = some (.int .u8 ((rd_T47 x0_2 x17_2).f1)) ∧ w'.cell? ⟨go54, ((x17_2).toNat * 3) + 2, none⟩ = some (.int .u8 ((rd_T47 x0_2 x17_2).f2))) (ds := [15, 17]) #[false, false, false, false, false, false, false, false, false, false, false, false, false, false, false, false, false, false] (by kernel_rfl) rfl rfl ⟨hx318_0, hx318_1, hx318_2, hx319_0, hx319_1, hx319_2⟩ (fun hHeld => ?_); refine with_tabW hopmeshlaw49_Delivery_85.tab23 hopmeshlaw49_Delivery_85.bits23 (fun HT_ HW_ => ?_)
             generalize wr.drew = w56 at HO_0 HK HB GG54 HQ58 HQ59 hf54_0 hf54_1 hf54_2 hf55_0 hf55_1 hf55_2 hx318_0 hx318_1 hx318_2 hx319_0 hx319_1 hx319_2 hx54_0 hx54_1 hx54_2 hx55_0 hx55_1 hx55_2 hHeld ⊢
             (try simp only [World.setCells, show k47.sz = 3 from rfl] at hx55_0 hx55_1 hx55_2 hf55_0 hf55_1 hf55_2)
             (try simp [go_sem] at hx55_0)
             (try simp [go_sem] at hx55_1)
             (try simp [go_sem] at hx55_2)
             (try simp [go_sem] at hf55_0)
             (try simp [go_sem] at hf55_1)
             (try simp [go_sem] at hf55_2)
             refine pur 0 (some 113) #[true, false, false, false, false, false, false, false, false, false, false, false, false, false, false, false, false, false] HT_ ?_
             refine pur 1 (some 114) #[true, true, false, false, false, false, false, false, false, false, false, false, false, false, false, false, false, false] HT_ ?_
             refine pur 2 (some 115) #[true, true, true, false, false, false, false, false, false, false, false, false, false, false, false, false, false, false] HT_ ?_
             refine pur 3 (some 116) #[true, true, true, true, false, false, false, false, false, false, false, false, false, false, false, false, false, false] HT_ ?_
             refine pur 4 (some 117) #[true, true, true, true, true, false, false, false, false, false, false, false, false, false, false, false, false, false] HT_ ?_
             refine pur 5 (some 118) #[true, true, true, true, true, true, false, false, false, false, false, false, false, false, false, false, false, false] HT_ ?_
             refine pur 6 (some 119) #[true, true, true, true, true, true, true, false, false, false, false, false, false, false, false, false, false, false] HT_ ?_
             refine pur 7 (some 120) #[true, true, true, true, true, true, true, true, false, false, false, false, false, false, false, false, false, false] HT_ ?_
             refine pur 8 (some 121) #[true, true, true, true, true, true, true, true, true, false, false, false, false, false, false, false, false, false] HT_ ?_
             refine pur 10 (some 123) #[true, true, true, true, true, true, true, true, true, false, true, false, false, false, false, false, false, false] HT_ ?_
             refine pur 11 (some 124) #[true, true, true, true, true, true, true, true, true, false, true, true, false, false, false, false, false, false] HT_ ?_
             refine pur 12 (some 125) #[true, true, true, true, true, true, true, true, true, false, true, true, true, false, false, false, false, false] HT_ ?_
             refine tak 9 (some 122) #[true, true, true, true, true, true, true, true, true, true, true, true, true, false, false, false, false, false] HT_ HW_ hHeld rfl (Or.inl ⟨by rfl, by rintro w' ⟨s0, s1, s2, s3, s4, s5⟩; go_simp; with_reducible rfl⟩) ?_
             refine tak 13 (some 126) #[true, true, true, true, true, true, true, true, true, true, true, true, true, true, false, false, false, false] HT_ HW_ hHeld rfl (Or.inl ⟨by rfl, by rintro w' ⟨s0, s1, s2, s3, s4, s5⟩; go_simp; with_reducible rfl⟩) ?_
             refine pur 14 (some 127) #[true, true, true, true, true, true, true, true, true, true, true, true, true, true, true, false, false, false] HT_ ?_
             refine last_ (i := 15) (N := none) #[true, true, true, true, true, true, true, true, true, true, true, true, true, true, true, true, false, false] rfl rfl (one_of HT_.out (by kernel_rfl)) (by decide) (fun K hK => ?_)
             refine skip_ (w1 := ?_) (by rfl) rfl ?_ ?_
             rotate_left
             ·go_simp
              rfl
             refine hK.out _ _ ?_
             clear hK K
             refine pur 16 (some 128) #[true, true, true, true, true, true, true, true, true, true, true, true, true, true, true, true, true, false] HT_ ?_
             refine last_ (i := 17) (N := none) #[true, true, true, true, true, true, true, true, true, true, true, true, true, true, true, true, true, true] rfl rfl (one_of HT_.out (by kernel_rfl)) (by decide) (fun K hK => ?_)
             refine skip_ (w1 := ?_) (by rfl) rfl ?_ ?_
             rotate_left
             ·go_simp
              rfl
             refine hK.out _ _ ?_
             clear hK K
             refine done_ (done_of HT_.out (by kernel_rfl)) ?_
             try go_wp2
             go_roundg k2
             case measure => have := HK1.out; have := HK2.out; omega
             case rel => exact ⟨(y321), (ji49), (by first | rfl | (simp; done) | (simp only [← hji49] <;> (first | rfl | simp)) | (simp [*]; done)), H', ⟨by have := HK1.out; have := HK2.out; omega⟩, ⟨by (with_reducible repeat (first | apply Kd.R_alloc | apply Kd.R_drewN | apply Kd.R_drew)); exact HQ59.out⟩, ⟨by repeat (first | (with_reducible first | exact HK.out | apply Kept.alloc | apply Kept.drewN | apply Kept.drew | refine Kept.setCell ?_ HMgo54.out _ | refine Kept.setCell ?_ HMgo54.out _ | refine Kept.setCell ?_ HMgo54.out _ | refine Kept.setCell ?_ HMgo54.out _ | refine Kept.setCell ?_ HMgo54.out _ | refine Kept.setCell ?_ HMgo54.out _) | exact HK.out)⟩, ⟨by repeat (first | (with_reducible first | exact HB.out | apply below_alloc | apply pw_below_drewN | apply below_drew1 | refine below_set ?_ GB54.out | refine below_set ?_ GB54.out | refine below_set ?_ GB54.out | refine below_set ?_ GB54.out | refine below_set ?_ GB54.out | refine below_set ?_ GB54.out) | exact HB.out)⟩⟩
            ·rw [if_neg c53] at H
             exact absurd H (by simp)
           ·rw [if_neg c52] at H
            exact absurd H (by simp)
          ·rw [if_neg c51] at H
           exact absurd H (by simp)
         ·rw [if_neg c50] at H
          exact absurd H (by simp)
        ·rw [if_neg c48] at H
         have c48b0 : decide (x14_1 < x17_2) = false := decide_eq_false c48
         clear c48
         obtain rfl := Option.some.inj H
         go_wp2
         first | go_end0 | ((try simp only [Exit.inBlock, Exit.then]); refine bodyPost_ret (results_none rfl _ _ _) rfl ?_)
         exact ⟨rerr, ro HO_0, hbx HB, by repeat (first | (with_reducible first | exact HK.out | apply Kept.alloc | apply Kept.drewN | apply Kept.drew) | exact HK.out)⟩
  ·exact absurd cx2.out c33
end Go.Proofs.Ytdigplhjfjchnaa.PQ
