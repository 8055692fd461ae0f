-- Printed by fprint.py and zip.py, programs of this session's, over the kit's print; Lean checks it.
import Derived.Test.YtdigplhjfjchnaaZ0
import Derived.Test.YtdigplhjfjchnaaZf50
import Derived.Test.YtdigplhjfjchnaaZf89
import Derived.Test.YtdigplhjfjchnaaZf85v
namespace Go.Proofs.Ytdigplhjfjchnaa.PQ
open Go.RowKit Go.Proofs.YtdigplhjfjchnaaW.PrintWords Go.Proofs.YtdigplhjfjchnaaW.PrintLast Go.Proofs.YtdigplhjfjchnaaW.PrintMore
attribute [local go_sem] max2_int min2_int max_two min_two max_three min_three max_four min_four   -- for this text's walks alone
set_option linter.unusedVariables false
set_option linter.unusedSimpArgs false
set_option maxHeartbeats 8000000 in
set_option maxRecDepth 100000 in
theorem hopmeshlaw49_Delivery_85.calls (k : Nat) : ∀ (P0_ : Nat → Prop) (u9000_ : Value) (l0 : List (S47)) (a1 : Int) (a2 : Int) (a3 : Int)  (r : List (S47)) (w0 w : World) (hB : Below w0.heap.size w0 w) (ho0 : Kd.R k47 47 w w0.heap.size P0_ u9000_ l0) (h : hopmeshlaw49_Delivery_85.f k l0 a1 a2 a3 = some r),
 Calls Try.prog 85 #[u9000_, .int .i64 a1, .int .i64 a2, .int .i64 a3, .func (.func 50) #[] #[]] w fun e w' => e = .returned (.tuple #[]) ∧ Kd.R k47 47 w' w0.heap.size (fun k_ => (P0_ k_ ∨ w.heap.size ≤ k_)) u9000_ r ∧ Below w0.heap.size w0 w' ∧ Kept w w' (fun k_ => P0_ k_) := by
 induction k using Nat.strongRecOn with
 | _ k ih =>
 intro P0_ u9000_ l0 a1 a2 a3 r w0 w hB ho0 h
 by_cases cx1 : (wrap64 (a2 - a1)) = 1
 ·exact hopmeshlaw49_Delivery_85.way1 k P0_ u9000_ l0 a1 a2 a3 r w0 w hB ho0 h ⟨cx1⟩
 have cy1 := Aside0.mk cx1
 clear cx1
 by_cases cx2 : (wrap64 (a3 - a2)) = 1
 ·exact hopmeshlaw49_Delivery_85.way2 k P0_ u9000_ l0 a1 a2 a3 r w0 w hB ho0 h cy1 ⟨cx2⟩
 have cy2 := Aside0.mk cx2
 clear cx2
 cases k with
 | zero => exact absurd h (by simp [hopmeshlaw49_Delivery_85.f])
 | succ k =>
 simp only [hopmeshlaw49_Delivery_85.f] at h
 have hu47 := Try.underlying47
 have HO0 := Aside0.mk (show Kd.R k47 47 w w0.heap.size (fun k_ => (P0_ k_ ∨ w.heap.size ≤ k_)) u9000_ l0 from Kd.R_mono ho0 (fun k_ hk => (.inl hk)))
 have HK := Aside0.mk (Kept.refl w (fun k_ => P0_ k_))
 have HW0 := Aside0.mk hB.size
 have HB := Aside0.mk hB
 clear hB
 have H : (if (wrap64 (a2 - a1)) = 1 then (hopmeshlaw49_Delivery_85.l0 k l0 a1 a2 a3) else (if (wrap64 (a3 - a2)) = 1 then (hopmeshlaw49_Delivery_85.l2 k l0 a2 a1 a2) else (if a2 > (wrap64 ((IntKind.u64.wrap (wrap64 (a1 + a3))) / 2)) then (hopmeshlaw49_Delivery_85.j4 k l0 a1 a2 a3 (wrap64 ((IntKind.u64.wrap (wrap64 (a1 + a3))) / 2)) (wrap64 ((wrap64 ((IntKind.u64.wrap (wrap64 (a1 + a3))) / 2)) + a2)) (wrap64 ((wrap64 ((wrap64 ((IntKind.u64.wrap (wrap64 (a1 + a3))) / 2)) + a2)) - a3)) (wrap64 ((IntKind.u64.wrap (wrap64 (a1 + a3))) / 2))) else (hopmeshlaw49_Delivery_85.j4 k l0 a1 a2 a3 (wrap64 ((IntKind.u64.wrap (wrap64 (a1 + a3))) / 2)) (wrap64 ((wrap64 ((IntKind.u64.wrap (wrap64 (a1 + a3))) / 2)) + a2)) a1 a2)))) = some r := h
 clear h
 by_cases c6 : (wrap64 (a2 - a1)) = 1
 ·exact absurd c6 cy1.out
 ·rw [if_neg c6] at H
  have c6b0 : ((wrap64 (a2 - a1)) == 1) = false := beq_eq_false_iff_ne.mpr c6
  have c6b1 : ((wrap64 (a2 - a1)) != 1) = true := bne_iff_ne.mpr c6
  by_cases c33 : (wrap64 (a3 - a2)) = 1
  ·exact absurd c33 cy2.out
  ·rw [if_neg c33] at H
   have c33b0 : ((wrap64 (a3 - a2)) == 1) = false := beq_eq_false_iff_ne.mpr c33
   have c33b1 : ((wrap64 (a3 - a2)) != 1) = true := bne_iff_ne.mpr c33
   have HC60 := Aside0.mk H
   clear H
   go_enter Try.func85, Try.ntmps85
   go_upto_if 140 with (fail)
   go_cut [20, 21] (fun v20 v21 wc => ∃ (kq : Nat) (x20_59 : Int) (x21_59 : Int), v20 = .int .i64 x20_59 ∧ v21 = .int .i64 x21_59 ∧ Aside0 (hopmeshlaw49_Delivery_85.j4 kq l0 a1 a2 a3 (wrap64 ((IntKind.u64.wrap (wrap64 (a1 + a3))) / 2)) (wrap64 ((wrap64 ((IntKind.u64.wrap (wrap64 (a1 + a3))) / 2)) + a2)) x20_59 x21_59 = some r) ∧ Aside0 (kq ≤ k) ∧ Aside0 (Kd.R k47 47 wc w0.heap.size (fun k_ => (P0_ k_ ∨ w.heap.size ≤ k_)) u9000_ l0) ∧ Aside0 (Kept w wc (fun k_ => P0_ k_)) ∧ Aside0 (Below w0.heap.size w0 wc))
   case first =>
    have H := HC60.out
    clear HC60
    by_cases c61 : a2 > (wrap64 ((IntKind.u64.wrap (wrap64 (a1 + a3))) / 2))
    ·rw [if_pos c61] at H
     have c61b0 : decide ((wrap64 ((IntKind.u64.wrap (wrap64 (a1 + a3))) / 2)) < a2) = true := decide_eq_true c61
     clear c61
     (first | rw [c61b0] | (simp only [i64_w, i32_w]; rw [c61b0]) | skip)
     have H' := Aside0.mk H
     clear H
     go_wp2
     go_meet
     case rel => exact ⟨_, (wrap64 ((wrap64 ((wrap64 ((IntKind.u64.wrap (wrap64 (a1 + a3))) / 2)) + a2)) - a3)), (wrap64 ((IntKind.u64.wrap (wrap64 (a1 + a3))) / 2)), rfs, rfs, H', kle, roA HO0, ⟨by repeat (first | (with_reducible first | exact HK.out | apply Kept.alloc | apply Kept.drewN | apply Kept.drew) | exact HK.out)⟩, hbA HB⟩
    ·rw [if_neg c61] at H
     have c61b0 : decide ((wrap64 ((IntKind.u64.wrap (wrap64 (a1 + a3))) / 2)) < a2) = false := decide_eq_false c61
     clear c61
     (first | rw [c61b0] | (simp only [i64_w, i32_w]; rw [c61b0]) | skip)
     have H' := Aside0.mk H
     clear H
     go_wp2
     go_meet
     case rel => exact ⟨_, (a1), (a2), rfs, rfs, H', kle, roA HO0, ⟨by repeat (first | (with_reducible first | exact HK.out | apply Kept.alloc | apply Kept.drewN | apply Kept.drew) | exact HK.out)⟩, hbA HB⟩
   case rest =>
    clear HC60
    try clear c6
    try clear c6b0
    try clear c6b1
    try clear c33
    try clear c33b0
    try clear c33b1
    obtain ⟨kq, x20_59, x21_59, rfl, rfl, HA, HJ59, HO_0, HK, HB⟩ := hcut
    cases kq with
    | zero => exact absurd HA.out (by simp [hopmeshlaw49_Delivery_85.j4])
    | succ kj59 =>
     have H := HA.out
     clear HA
     simp only [hopmeshlaw49_Delivery_85.j4] at H
     have H' := Aside0.mk H
     clear H
     go_wp2
     go_loopg [20, 21] kj59 (fun kq v20 v21 w' => ∃ (x20_2 : Int) (x21_2 : Int), v20 = .int .i64 x20_2 ∧ v21 = .int .i64 x21_2 ∧ Aside0 (hopmeshlaw49_Delivery_85.l4 kq l0 a1 a2 a3 (wrap64 ((IntKind.u64.wrap (wrap64 (a1 + a3))) / 2)) (wrap64 ((wrap64 ((IntKind.u64.wrap (wrap64 (a1 + a3))) / 2)) + a2)) x20_2 x21_2 (wrap64 ((wrap64 ((wrap64 ((IntKind.u64.wrap (wrap64 (a1 + a3))) / 2)) + a2)) - 1)) = some r) ∧ Aside0 (kq ≤ kj59) ∧ Aside0 (Kd.R k47 47 w' w0.heap.size (fun k_ => (P0_ k_ ∨ w.heap.size ≤ k_)) u9000_ l0) ∧ Aside0 (Kept w w' (fun k_ => P0_ k_)) ∧ Aside0 (Below w0.heap.size w0 w'))
     case atStart => exact ⟨(x20_59), (x21_59), rfs, rfs, H', ⟨Nat.le_refl _⟩, roA HO_0, ⟨by repeat (first | (with_reducible first | exact HK.out | apply Kept.alloc | apply Kept.drewN | apply Kept.drew) | exact HK.out)⟩, hbA HB⟩
     case round =>
      clear H'
      try clear c6
      try clear c6b0
      try clear c6b1
      try clear c33
      try clear c33b0
      try clear c33b1
      obtain ⟨x20_2, x21_2, rfl, rfl, HA, HK2, HO_0, HK, HB⟩ := hrel
      cases gk with
      | zero => exact absurd HA.out (by simp [hopmeshlaw49_Delivery_85.l4])
      | succ k2 =>
       have H := HA.out
       clear HA
       simp only [hopmeshlaw49_Delivery_85.l4] at H
       by_cases c62 : x20_2 < x21_2
       ·rw [if_pos c62] at H
        have c62b0 : decide (x20_2 < x21_2) = true := decide_eq_true c62
        clear c62
        obtain ⟨ji63, hji63⟩ : ∃ j_ : Int, (wrap64 ((wrap64 ((wrap64 ((wrap64 ((IntKind.u64.wrap (wrap64 (a1 + a3))) / 2)) + a2)) - 1)) - (wrap64 ((IntKind.u64.wrap (wrap64 (x20_2 + x21_2))) / 2)))) = j_ := ⟨_, rfl⟩
        replace H : (if 0 ≤ (ji63) then (if (ji63) < (l0.length : Int) then (if 0 ≤ (wrap64 ((IntKind.u64.wrap (wrap64 (x20_2 + x21_2))) / 2)) then (if (wrap64 ((IntKind.u64.wrap (wrap64 (x20_2 + x21_2))) / 2)) < (l0.length : Int) then ((hopmeshlaw49_order_1.f ((rd_T47 l0 (ji63)).f0) ((rd_T47 l0 (ji63)).f1) ((rd_T47 l0 (ji63)).f2) ((rd_T47 l0 (wrap64 ((IntKind.u64.wrap (wrap64 (x20_2 + x21_2))) / 2))).f0) ((rd_T47 l0 (wrap64 ((IntKind.u64.wrap (wrap64 (x20_2 + x21_2))) / 2))).f1) ((rd_T47 l0 (wrap64 ((IntKind.u64.wrap (wrap64 (x20_2 + x21_2))) / 2))).f2)).bind fun t324 => (if t324 < 0 then (hopmeshlaw49_Delivery_85.l4 k2 l0 a1 a2 a3 (wrap64 ((IntKind.u64.wrap (wrap64 (a1 + a3))) / 2)) (wrap64 ((wrap64 ((IntKind.u64.wrap (wrap64 (a1 + a3))) / 2)) + a2)) x20_2 (wrap64 ((IntKind.u64.wrap (wrap64 (x20_2 + x21_2))) / 2)) (wrap64 ((wrap64 ((wrap64 ((IntKind.u64.wrap (wrap64 (a1 + a3))) / 2)) + a2)) - 1))) else (hopmeshlaw49_Delivery_85.l4 k2 l0 a1 a2 a3 (wrap64 ((IntKind.u64.wrap (wrap64 (a1 + a3))) / 2)) (wrap64 ((wrap64 ((IntKind.u64.wrap (wrap64 (a1 + a3))) / 2)) + a2)) (wrap64 ((wrap64 ((IntKind.u64.wrap (wrap64 (x20_2 + x21_2))) / 2)) + 1)) x21_2 (wrap64 ((wrap64 ((wrap64 ((IntKind.u64.wrap (wrap64 (a1 + a3))) / 2)) + a2)) - 1))))) else (none)) else (none)) else (none)) else (none)) = some r := by first | (rw [hji63] at H; exact H) | (simp only [hji63] at H ⊢; exact H)
        have hji63w : (IntKind.i64.wrap ((wrap64 ((wrap64 ((wrap64 ((IntKind.u64.wrap (wrap64 (a1 + a3))) / 2)) + a2)) - 1)) - (wrap64 ((IntKind.u64.wrap (wrap64 (x20_2 + x21_2))) / 2)))) = ji63 := (i64_w _).trans hji63
        by_cases c64 : 0 ≤ (ji63)
        ·rw [if_pos c64] at H
         have c64b0 : decide (0 ≤ (ji63)) = true := decide_eq_true c64
         clear c64
         by_cases c65 : (ji63) < (l0.length : Int)
         ·rw [if_pos c65] at H
          have c65b0 : decide ((ji63) < (l0.length : Int)) = true := decide_eq_true c65
          clear c65
          obtain ⟨ji66, hji66⟩ : ∃ j_ : Int, (wrap64 ((IntKind.u64.wrap (wrap64 (x20_2 + x21_2))) / 2)) = j_ := ⟨_, rfl⟩
          replace H : (if 0 ≤ (ji66) then (if (ji66) < (l0.length : Int) then ((hopmeshlaw49_order_1.f ((rd_T47 l0 (ji63)).f0) ((rd_T47 l0 (ji63)).f1) ((rd_T47 l0 (ji63)).f2) ((rd_T47 l0 (ji66)).f0) ((rd_T47 l0 (ji66)).f1) ((rd_T47 l0 (ji66)).f2)).bind fun t324 => (if t324 < 0 then (hopmeshlaw49_Delivery_85.l4 k2 l0 a1 a2 a3 (wrap64 ((IntKind.u64.wrap (wrap64 (a1 + a3))) / 2)) (wrap64 ((wrap64 ((IntKind.u64.wrap (wrap64 (a1 + a3))) / 2)) + a2)) x20_2 ji66 (wrap64 ((wrap64 ((wrap64 ((IntKind.u64.wrap (wrap64 (a1 + a3))) / 2)) + a2)) - 1))) else (hopmeshlaw49_Delivery_85.l4 k2 l0 a1 a2 a3 (wrap64 ((IntKind.u64.wrap (wrap64 (a1 + a3))) / 2)) (wrap64 ((wrap64 ((IntKind.u64.wrap (wrap64 (a1 + a3))) / 2)) + a2)) (wrap64 ((ji66) + 1)) x21_2 (wrap64 ((wrap64 ((wrap64 ((IntKind.u64.wrap (wrap64 (a1 + a3))) / 2)) + a2)) - 1))))) else (none)) else (none)) = some r := by first | (rw [hji66] at H; exact H) | (simp only [hji66] at H ⊢; exact H)
          have hji66w : (IntKind.i64.wrap ((IntKind.u64.wrap (wrap64 (x20_2 + x21_2))) / 2)) = ji66 := (i64_w _).trans hji66
          (try (have hji63yji66 := hji63; rw [hji66] at hji63yji66))
          by_cases c67 : 0 ≤ (ji66)
          ·rw [if_pos c67] at H
           have c67b0 : decide (0 ≤ (ji66)) = true := decide_eq_true c67
           clear c67
           by_cases c68 : (ji66) < (l0.length : Int)
           ·rw [if_pos c68] at H
            have c68b0 : decide ((ji66) < (l0.length : Int)) = true := decide_eq_true c68
            clear c68
            replace H := Option.bind_eq_some_iff.mp H
            obtain ⟨t324, A690, H⟩ := H
            (try dsimp only at H)
            have A69 := Aside0.mk A690
            clear A690
            by_cases c70 : t324 < 0
            ·rw [if_pos c70] at H
             have c70b0 : decide (t324 < 0) = true := decide_eq_true c70
             clear c70
             have H' := Aside0.mk H
             clear H
             try go_wp2
             replace HO_0 := Aside0.mk (Kd.R_drew HO_0.out)
             replace HK := Aside0.mk (Kept.drew HK.out)
             replace HB := Aside0.mk (below_drew1 HB.out)
             obtain ⟨Ao72, co72, eo72⟩ := Kd.R_slice HO_0.out
             (first | subst eo72 | (injection eo72 with f1_ f2_ f3_; have f4_ := f1_.symm; have f5_ := f3_.symm; clear f1_ f2_ f3_; subst f4_; subst f5_))
             have p322 : 0 ≤ ((ji63) : Int) := pos_
             have q322 : (ji63) < (l0.length : Int) := pos_
             obtain ⟨ad322, e322, hx322_0, hx322_1, hx322_2⟩ := at_T47 (Kd.R_reads' HO_0.out).2.2 (ji63) p322 q322
             cases e322
             replace p322 := eq_true p322
             replace q322 := eq_true q322
             have p323 : 0 ≤ ((ji66) : Int) := pos_
             have q323 : (ji66) < (l0.length : Int) := pos_
             obtain ⟨ad323, e323, hx323_0, hx323_1, hx323_2⟩ := at_T47 (Kd.R_reads' HO_0.out).2.2 (ji66) p323 q323
             obtain rfl : ad322 = ad323 := (by injection e323)
             replace p323 := eq_true p323
             replace q323 := eq_true q323
             refine start_ (n := 14) (S := fun w' => w'.cell? (ad322.add (((ji63)).toNat * 3)) = some (.int .u8 ((rd_T47 l0 (ji63)).f0)) ∧ w'.cell? ⟨(ad322.add (((ji63)).toNat * 3)).block, (ad322.add (((ji63)).toNat * 3)).off + 1, none⟩ = some (.int .u8 ((rd_T47 l0 (ji63)).f1)) ∧ w'.cell? ⟨(ad322.add (((ji63)).toNat * 3)).block, (ad322.add (((ji63)).toNat * 3)).off + 2, none⟩ = some (.int .u8 ((rd_T47 l0 (ji63)).f2)) ∧ w'.cell? (ad322.add (((ji66)).toNat * 3)) = some (.int .u8 ((rd_T47 l0 (ji66)).f0)) ∧ w'.cell? ⟨(ad322.add (((ji66)).toNat * 3)).block, (ad322.add (((ji66)).toNat * 3)).off + 1, none⟩ = some (.int .u8 ((rd_T47 l0 (ji66)).f1)) ∧ w'.cell? ⟨(ad322.add (((ji66)).toNat * 3)).block, (ad322.add (((ji66)).toNat * 3)).off + 2, none⟩ = some (.int .u8 ((rd_T47 l0 (ji66)).f2))) (ds := []) #[false, false, false, false, false, false, false, false, false, false, false, false, false, false] (by kernel_rfl) rfl rfl ⟨hx322_0, hx322_1, hx322_2, hx323_0, hx323_1, hx323_2⟩ (fun hHeld => ?_); refine with_tabW hopmeshlaw49_Delivery_85.tab35 hopmeshlaw49_Delivery_85.bits35 (fun HT_ HW_ => ?_)
             generalize wr.drew = w71 at HO_0 HK HB hx322_0 hx322_1 hx322_2 hx323_0 hx323_1 hx323_2 hHeld ⊢
             refine pur 0 (some 158) #[true, false, false, false, false, false, false, false, false, false, false, false, false, false] HT_ ?_
             refine pur 1 (some 159) #[true, true, false, false, false, false, false, false, false, false, false, false, false, false] HT_ ?_
             refine pur 2 (some 160) #[true, true, true, false, false, false, false, false, false, false, false, false, false, false] HT_ ?_
             refine pur 3 (some 161) #[true, true, true, true, false, false, false, false, false, false, false, false, false, false] HT_ ?_
             refine pur 4 (some 162) #[true, true, true, true, true, false, false, false, false, false, false, false, false, false] HT_ ?_
             refine pur 5 (some 163) #[true, true, true, true, true, true, false, false, false, false, false, false, false, false] HT_ ?_
             refine pur 7 (some 165) #[true, true, true, true, true, true, false, true, false, false, false, false, false, false] HT_ ?_
             refine pur 8 (some 166) #[true, true, true, true, true, true, false, true, true, false, false, false, false, false] HT_ ?_
             refine pur 9 (some 167) #[true, true, true, true, true, true, false, true, true, true, false, false, false, false] HT_ ?_
             refine tak 6 (some 164) #[true, true, true, true, true, true, true, true, true, true, false, false, false, false] HT_ HW_ hHeld rfl (Or.inl ⟨by rfl, by rintro w' ⟨s0, s1, s2, s3, s4, s5⟩; go_simp; with_reducible rfl⟩) ?_
             refine tak 10 (some 168) #[true, true, true, true, true, true, true, true, true, true, true, false, false, false] HT_ HW_ hHeld rfl (Or.inl ⟨by rfl, by rintro w' ⟨s0, s1, s2, s3, s4, s5⟩; go_simp; with_reducible rfl⟩) ?_
             refine one_ (i := 11) (N := some 169) #[true, true, true, true, true, true, true, true, true, true, true, true, false, false] rfl rfl (one_of HT_.out (by kernel_rfl)) (by decide) (fun K hK => ?_)
             refine goes_fv Try.func50 (by kernel_rfl) rfl #[.agg #[.int .u8 ((rd_T47 l0 (ji63)).f0), .int .u8 ((rd_T47 l0 (ji63)).f1), .int .u8 ((rd_T47 l0 (ji63)).f2)], .agg #[.int .u8 ((rd_T47 l0 (ji66)).f0), .int .u8 ((rd_T47 l0 (ji66)).f1), .int .u8 ((rd_T47 l0 (ji66)).f2)]] (by rfl) rfl rfl (by rfl) (by (try simp only [List.map_toArray, List.map_cons, List.map_nil]); first | done | (simp only [hji63, hji66]; rfl) | rfl | (simp only [List.length_drop, List.length_take]; rfl)) ?_
             with_reducible refine (hopmeshlaw49_order_1.calls ((rd_T47 l0 (ji63)).f0) ((rd_T47 l0 (ji63)).f1) ((rd_T47 l0 (ji63)).f2) ((rd_T47 l0 (ji66)).f0) ((rd_T47 l0 (ji66)).f1) ((rd_T47 l0 (ji66)).f2) t324 _ A69.out).mono ?_
             rintro e w73 ⟨rfl, hb⟩
             have HS0_ := (hb.cell (World.block_lt_of_cell? _ _ (hHeld.1))).trans (hHeld.1)
             have HS1_ := (hb.cell (World.block_lt_of_cell? _ _ (hHeld.2.1))).trans (hHeld.2.1)
             have HS2_ := (hb.cell (World.block_lt_of_cell? _ _ (hHeld.2.2.1))).trans (hHeld.2.2.1)
             have HS3_ := (hb.cell (World.block_lt_of_cell? _ _ (hHeld.2.2.2.1))).trans (hHeld.2.2.2.1)
             have HS4_ := (hb.cell (World.block_lt_of_cell? _ _ (hHeld.2.2.2.2.1))).trans (hHeld.2.2.2.2.1)
             have HS5_ := (hb.cell (World.block_lt_of_cell? _ _ (hHeld.2.2.2.2.2))).trans (hHeld.2.2.2.2.2)
             refine ⟨_, rfl, ?_⟩
             replace HO_0 := rB HO_0 hb
             replace HK := Aside0.mk (Kept.below (S := (fun k_ => P0_ k_)) (by repeat (first | (with_reducible first | exact HK.out | apply Kept.alloc | apply Kept.drewN | apply Kept.drew) | exact HK.out)) hb)
             replace HB := hbS HB hb
             (try clear hb)
             (try clear hk)
             refine hK.out _ _ ⟨HS0_, HS1_, HS2_, HS3_, HS4_, HS5_⟩ (fun hHeld => ?_)
             clear hK K
             refine nrm (some 169) ?_
             refine pur 12 (some 170) #[true, true, true, true, true, true, true, true, true, true, true, true, true, false] HT_ ?_
             refine pur 13 (some 171) #[true, true, true, true, true, true, true, true, true, true, true, true, true, true] HT_ ?_
             refine done_ (done_of HT_.out (by kernel_rfl)) ?_
             try go_wp2
             go_roundg k2
             case measure => have := HJ59.out; have := HK2.out; omega
             case rel => exact ⟨(x20_2), (ji66), rfs, (by first | rfl | (simp; done) | (simp only [← hji66] <;> (first | rfl | simp)) | (simp [*]; done)), H', ⟨by have := HJ59.out; have := HK2.out; omega⟩, roA HO_0, ⟨by repeat (first | (with_reducible first | exact HK.out | apply Kept.alloc | apply Kept.drewN | apply Kept.drew) | exact HK.out)⟩, hbA HB⟩
            ·rw [if_neg c70] at H
             have c70b0 : decide (t324 < 0) = false := decide_eq_false c70
             clear c70
             have H' := Aside0.mk H
             clear H
             try go_wp2
             replace HO_0 := Aside0.mk (Kd.R_drew HO_0.out)
             replace HK := Aside0.mk (Kept.drew HK.out)
             replace HB := Aside0.mk (below_drew1 HB.out)
             obtain ⟨Ao75, co75, eo75⟩ := Kd.R_slice HO_0.out
             (first | subst eo75 | (injection eo75 with f1_ f2_ f3_; have f4_ := f1_.symm; have f5_ := f3_.symm; clear f1_ f2_ f3_; subst f4_; subst f5_))
             have p322 : 0 ≤ ((ji63) : Int) := pos_
             have q322 : (ji63) < (l0.length : Int) := pos_
             obtain ⟨ad322, e322, hx322_0, hx322_1, hx322_2⟩ := at_T47 (Kd.R_reads' HO_0.out).2.2 (ji63) p322 q322
             cases e322
             replace p322 := eq_true p322
             replace q322 := eq_true q322
             have p323 : 0 ≤ ((ji66) : Int) := pos_
             have q323 : (ji66) < (l0.length : Int) := pos_
             obtain ⟨ad323, e323, hx323_0, hx323_1, hx323_2⟩ := at_T47 (Kd.R_reads' HO_0.out).2.2 (ji66) p323 q323
             obtain rfl : ad322 = ad323 := (by injection e323)
             replace p323 := eq_true p323
             replace q323 := eq_true q323
             refine start_ (n := 14) (S := fun w' => w'.cell? (ad322.add (((ji63)).toNat * 3)) = some (.int .u8 ((rd_T47 l0 (ji63)).f0)) ∧ w'.cell? ⟨(ad322.add (((ji63)).toNat * 3)).block, (ad322.add (((ji63)).toNat * 3)).off + 1, none⟩ = some (.int .u8 ((rd_T47 l0 (ji63)).f1)) ∧ w'.cell? ⟨(ad322.add (((ji63)).toNat * 3)).block, (ad322.add (((ji63)).toNat * 3)).off + 2, none⟩ = some (.int .u8 ((rd_T47 l0 (ji63)).f2)) ∧ w'.cell? (ad322.add (((ji66)).toNat * 3)) = some (.int .u8 ((rd_T47 l0 (ji66)).f0)) ∧ w'.cell? ⟨(ad322.add (((ji66)).toNat * 3)).block, (ad322.add (((ji66)).toNat * 3)).off + 1, none⟩ = some (.int .u8 ((rd_T47 l0 (ji66)).f1)) ∧ w'.cell? ⟨(ad322.add (((ji66)).toNat * 3)).block, (ad322.add (((ji66)).toNat * 3)).off + 2, none⟩ = some (.int .u8 ((rd_T47 l0 (ji66)).f2))) (ds := []) #[false, false, false, false, false, false, false, false, false, false, false, false, false, false] (by kernel_rfl) rfl rfl ⟨hx322_0, hx322_1, hx322_2, hx323_0, hx323_1, hx323_2⟩ (fun hHeld => ?_); refine with_tabW hopmeshlaw49_Delivery_85.tab35 hopmeshlaw49_Delivery_85.bits35 (fun HT_ HW_ => ?_)
             generalize wr.drew = w74 at HO_0 HK HB hx322_0 hx322_1 hx322_2 hx323_0 hx323_1 hx323_2 hHeld ⊢
             refine pur 0 (some 158) #[true, false, false, false, false, false, false, false, false, false, false, false, false, false] HT_ ?_
             refine pur 1 (some 159) #[true, true, false, false, false, false, false, false, false, false, false, false, false, false] HT_ ?_
             refine pur 2 (some 160) #[true, true, true, false, false, false, false, false, false, false, false, false, false, false] HT_ ?_
             refine pur 3 (some 161) #[true, true, true, true, false, false, false, false, false, false, false, false, false, false] HT_ ?_
             refine pur 4 (some 162) #[true, true, true, true, true, false, false, false, false, false, false, false, false, false] HT_ ?_
             refine pur 5 (some 163) #[true, true, true, true, true, true, false, false, false, false, false, false, false, false] HT_ ?_
             refine pur 7 (some 165) #[true, true, true, true, true, true, false, true, false, false, false, false, false, false] HT_ ?_
             refine pur 8 (some 166) #[true, true, true, true, true, true, false, true, true, false, false, false, false, false] HT_ ?_
             refine pur 9 (some 167) #[true, true, true, true, true, true, false, true, true, true, false, false, false, false] HT_ ?_
             refine tak 6 (some 164) #[true, true, true, true, true, true, true, true, true, true, false, false, false, false] HT_ HW_ hHeld rfl (Or.inl ⟨by rfl, by rintro w' ⟨s0, s1, s2, s3, s4, s5⟩; go_simp; with_reducible rfl⟩) ?_
             refine tak 10 (some 168) #[true, true, true, true, true, true, true, true, true, true, true, false, false, false] HT_ HW_ hHeld rfl (Or.inl ⟨by rfl, by rintro w' ⟨s0, s1, s2, s3, s4, s5⟩; go_simp; with_reducible rfl⟩) ?_
             refine one_ (i := 11) (N := some 169) #[true, true, true, true, true, true, true, true, true, true, true, true, false, false] rfl rfl (one_of HT_.out (by kernel_rfl)) (by decide) (fun K hK => ?_)
             refine goes_fv Try.func50 (by kernel_rfl) rfl #[.agg #[.int .u8 ((rd_T47 l0 (ji63)).f0), .int .u8 ((rd_T47 l0 (ji63)).f1), .int .u8 ((rd_T47 l0 (ji63)).f2)], .agg #[.int .u8 ((rd_T47 l0 (ji66)).f0), .int .u8 ((rd_T47 l0 (ji66)).f1), .int .u8 ((rd_T47 l0 (ji66)).f2)]] (by rfl) rfl rfl (by rfl) (by (try simp only [List.map_toArray, List.map_cons, List.map_nil]); first | done | (simp only [hji63, hji66]; rfl) | rfl | (simp only [List.length_drop, List.length_take]; rfl)) ?_
             with_reducible refine (hopmeshlaw49_order_1.calls ((rd_T47 l0 (ji63)).f0) ((rd_T47 l0 (ji63)).f1) ((rd_T47 l0 (ji63)).f2) ((rd_T47 l0 (ji66)).f0) ((rd_T47 l0 (ji66)).f1) ((rd_T47 l0 (ji66)).f2) t324 _ A69.out).mono ?_
             rintro e w76 ⟨rfl, hb⟩
             have HS0_ := (hb.cell (World.block_lt_of_cell? _ _ (hHeld.1))).trans (hHeld.1)
             have HS1_ := (hb.cell (World.block_lt_of_cell? _ _ (hHeld.2.1))).trans (hHeld.2.1)
             have HS2_ := (hb.cell (World.block_lt_of_cell? _ _ (hHeld.2.2.1))).trans (hHeld.2.2.1)
             have HS3_ := (hb.cell (World.block_lt_of_cell? _ _ (hHeld.2.2.2.1))).trans (hHeld.2.2.2.1)
             have HS4_ := (hb.cell (World.block_lt_of_cell? _ _ (hHeld.2.2.2.2.1))).trans (hHeld.2.2.2.2.1)
             have HS5_ := (hb.cell (World.block_lt_of_cell? _ _ (hHeld.2.2.2.2.2))).trans (hHeld.2.2.2.2.2)
             refine ⟨_, rfl, ?_⟩
             replace HO_0 := rB HO_0 hb
             replace HK := Aside0.mk (Kept.below (S := (fun k_ => P0_ k_)) (by repeat (first | (with_reducible first | exact HK.out | apply Kept.alloc | apply Kept.drewN | apply Kept.drew) | exact HK.out)) hb)
             replace HB := hbS HB hb
             (try clear hb)
             (try clear hk)
             refine hK.out _ _ ⟨HS0_, HS1_, HS2_, HS3_, HS4_, HS5_⟩ (fun hHeld => ?_)
             clear hK K
             refine nrm (some 169) ?_
             refine pur 12 (some 170) #[true, true, true, true, true, true, true, true, true, true, true, true, true, false] HT_ ?_
             refine pur 13 (some 171) #[true, true, true, true, true, true, true, true, true, true, true, true, true, true] HT_ ?_
             refine done_ (done_of HT_.out (by kernel_rfl)) ?_
             try go_wp2
             go_roundg k2
             case measure => have := HJ59.out; have := HK2.out; omega
             case rel => exact ⟨(wrap64 ((ji66) + 1)), (x21_2), (by first | rfl | (simp; done) | (simp only [← hji66] <;> (first | rfl | simp)) | (simp [*]; done)), rfs, H', ⟨by have := HJ59.out; have := HK2.out; omega⟩, roA HO_0, ⟨by repeat (first | (with_reducible first | exact HK.out | apply Kept.alloc | apply Kept.drewN | apply Kept.drew) | exact HK.out)⟩, hbA HB⟩
           ·rw [if_neg c68] at H
            exact absurd H (by simp)
          ·rw [if_neg c67] at H
           exact absurd H (by simp)
         ·rw [if_neg c65] at H
          exact absurd H (by simp)
        ·rw [if_neg c64] at H
         exact absurd H (by simp)
       ·rw [if_neg c62] at H
        have c62b0 : decide (x20_2 < x21_2) = false := decide_eq_false c62
        clear c62
        have HC77 := Aside0.mk H
        clear H
        go_upto_region 39 with (fail)
        go_cut [185] (fun v185 wc => ∃ (kq : Nat) (x185_76 : Bool), v185 = .bool x185_76 ∧ Aside0 (hopmeshlaw49_Delivery_85.j6 kq l0 a1 a2 a3 (wrap64 ((IntKind.u64.wrap (wrap64 (a1 + a3))) / 2)) x20_2 (wrap64 ((wrap64 ((wrap64 ((IntKind.u64.wrap (wrap64 (a1 + a3))) / 2)) + a2)) - x20_2)) x185_76 = some r) ∧ Aside0 (kq ≤ k2) ∧ Aside0 (Kd.R k47 47 wc w0.heap.size (fun k_ => (P0_ k_ ∨ w.heap.size ≤ k_)) u9000_ l0) ∧ Aside0 (Kept w wc (fun k_ => P0_ k_)) ∧ Aside0 (Below w0.heap.size w0 wc))
        case first =>
         have H := HC77.out
         clear HC77
         by_cases c78 : x20_2 < a2
         ·rw [if_pos c78] at H
          have c78b0 : decide (x20_2 < a2) = true := decide_eq_true c78
          clear c78
          (first | rw [c78b0] | (simp only [i64_w, i32_w]; rw [c78b0]) | skip)
          have H' := Aside0.mk H
          clear H
          go_wp2
          go_meet
          case rel => exact ⟨_, (decide (a2 < (wrap64 ((wrap64 ((wrap64 ((IntKind.u64.wrap (wrap64 (a1 + a3))) / 2)) + a2)) - x20_2)))), rfs, H', ⟨by have := HJ59.out; have := HK2.out; first | omega | exact Nat.le_refl _⟩, roA HO_0, ⟨by repeat (first | (with_reducible first | exact HK.out | apply Kept.alloc | apply Kept.drewN | apply Kept.drew) | exact HK.out)⟩, hbA HB⟩
         ·rw [if_neg c78] at H
          have c78b0 : decide (x20_2 < a2) = false := decide_eq_false c78
          clear c78
          (first | rw [c78b0] | (simp only [i64_w, i32_w]; rw [c78b0]) | skip)
          have H' := Aside0.mk H
          clear H
          go_wp2
          go_meet
          case rel => exact ⟨_, (false), rfs, H', ⟨by have := HJ59.out; have := HK2.out; first | omega | exact Nat.le_refl _⟩, roA HO_0, ⟨by repeat (first | (with_reducible first | exact HK.out | apply Kept.alloc | apply Kept.drewN | apply Kept.drew) | exact HK.out)⟩, hbA HB⟩
        case rest =>
         clear HC77
         try clear c6
         try clear c6b0
         try clear c6b1
         try clear c33
         try clear c33b0
         try clear c33b1
         try clear c62
         try clear c62b0
         obtain ⟨kq, x185_76, rfl, HA, HJ76, HO_0, HK, HB⟩ := hcut
         cases kq with
         | zero => exact absurd HA.out (by simp [hopmeshlaw49_Delivery_85.j6])
         | succ kj76 =>
          have H := HA.out
          clear HA
          simp only [hopmeshlaw49_Delivery_85.j6] at H
          have HC79 := Aside0.mk H
          clear H
          go_upto_if 185 with (fail)
          go_cut [] (fun wc => ∃ (kq : Nat) (x0_78 : List (S47)), Aside0 (hopmeshlaw49_Delivery_85.j7 kq x0_78 a1 a3 (wrap64 ((IntKind.u64.wrap (wrap64 (a1 + a3))) / 2)) x20_2 (wrap64 ((wrap64 ((wrap64 ((IntKind.u64.wrap (wrap64 (a1 + a3))) / 2)) + a2)) - x20_2)) = some r) ∧ Aside0 (kq ≤ kj76) ∧ Aside0 (Kd.R k47 47 wc w0.heap.size (fun k_ => (P0_ k_ ∨ w.heap.size ≤ k_)) u9000_ x0_78) ∧ Aside0 (Kept w wc (fun k_ => P0_ k_)) ∧ Aside0 (Below w0.heap.size w0 wc))
          case first =>
           have H := HC79.out
           clear HC79
           by_cases c80 : x185_76 = true
           ·subst c80
            rw [if_pos rfl] at H
            replace H := Option.bind_eq_some_iff.mp H
            obtain ⟨t325, A810, H⟩ := H
            (try dsimp only at H)
            have A81 := Aside0.mk A810
            clear A810
            have H' := Aside0.mk H
            clear H
            obtain ⟨Ao82, co82, eo82⟩ := Kd.R_slice HO_0.out
            subst eo82
            go_wp2_with (first | ((with_reducible refine gate_callee (f := 89) rfl ?_); refine goesL_ (some 191) rfl rfl Try.func89 (by kernel_rfl) rfl #[.slice Ao82 l0.length co82, .int .i64 x20_2, .int .i64 a2, .int .i64 (wrap64 ((wrap64 ((wrap64 ((IntKind.u64.wrap (wrap64 (a1 + a3))) / 2)) + a2)) - x20_2)), .func (.func 50) #[] #[]] rfl sma ?_; (with_reducible refine (hopmeshlaw49_Delivery_89.calls kj76 (fun k_ => some k_ = (.slice Ao82 l0.length co82 : Value).ownBlock) (.slice Ao82 l0.length co82) l0 x20_2 a2 (wrap64 ((wrap64 ((wrap64 ((IntKind.u64.wrap (wrap64 (a1 + a3))) / 2)) + a2)) - x20_2))  t325 w0 _ ?side1 ?side2 A81.out).mono ?_); (case side1 => repeat (first | (with_reducible first | exact HB.out | apply below_alloc | apply pw_below_drewN | apply below_drew1) | exact HB.out)); (case side2 => exact Kd.R_tight rfl HO_0.out); rintro e w83 ⟨rfl, hy0, hb, hkp⟩; refine ⟨_, rfl, ?_⟩; replace HK := Aside0.mk (Kept.then_ (S := (fun k_ => P0_ k_)) (by repeat (first | (with_reducible first | exact HK.out | apply Kept.alloc | apply Kept.drewN | apply Kept.drew) | exact HK.out)) hkp (fun k_ hs_ => (fun e_ => (HO_0.out.1 k_ e_.symm)) hs_)); replace HO_0 := Aside0.mk (Kd.R_reok rfl hy0 (fun k_ e_ => HO_0.out.1 k_ e_)); replace HB := Aside0.mk (hb); (try clear hb); (try clear hkp); (try clear hy0)))
            go_meet
            case rel => exact ⟨_, (t325), H', ⟨by have := HJ59.out; have := HK2.out; have := HJ76.out; first | omega | exact Nat.le_refl _⟩, roA HO_0, ⟨by repeat (first | (with_reducible first | exact HK.out | apply Kept.alloc | apply Kept.drewN | apply Kept.drew) | exact HK.out)⟩, hbA HB⟩
           ·replace c80 := Bool.eq_false_iff.mpr c80
            subst c80
            rw [if_neg (show ¬ (false = true) by decide)] at H
            have H' := Aside0.mk H
            clear H
            go_wp2
            go_meet
            case rel => exact ⟨_, (l0), H', ⟨by have := HJ59.out; have := HK2.out; have := HJ76.out; first | omega | exact Nat.le_refl _⟩, roA HO_0, ⟨by repeat (first | (with_reducible first | exact HK.out | apply Kept.alloc | apply Kept.drewN | apply Kept.drew) | exact HK.out)⟩, hbA HB⟩
          case rest =>
           clear HC79
           try clear c6
           try clear c6b0
           try clear c6b1
           try clear c33
           try clear c33b0
           try clear c33b1
           try clear c62
           try clear c62b0
           obtain ⟨kq, x0_78, HA, HJ78, HO_0, HK, HB⟩ := hcut
           cases kq with
           | zero => exact absurd HA.out (by simp [hopmeshlaw49_Delivery_85.j7])
           | succ kj78 =>
            have H := HA.out
            clear HA
            simp only [hopmeshlaw49_Delivery_85.j7] at H
            have HC84 := Aside0.mk H
            clear H
            go_upto_region 41 with (fail)
            go_cut [199] (fun v199 wc => ∃ (kq : Nat) (x199_83 : Bool), v199 = .bool x199_83 ∧ Aside0 (hopmeshlaw49_Delivery_85.j8 kq x0_78 a1 a3 (wrap64 ((IntKind.u64.wrap (wrap64 (a1 + a3))) / 2)) x20_2 (wrap64 ((wrap64 ((wrap64 ((IntKind.u64.wrap (wrap64 (a1 + a3))) / 2)) + a2)) - x20_2)) x199_83 = some r) ∧ Aside0 (kq ≤ kj78) ∧ Aside0 (Kd.R k47 47 wc w0.heap.size (fun k_ => (P0_ k_ ∨ w.heap.size ≤ k_)) u9000_ x0_78) ∧ Aside0 (Kept w wc (fun k_ => P0_ k_)) ∧ Aside0 (Below w0.heap.size w0 wc))
            case first =>
             have H := HC84.out
             clear HC84
             by_cases c85 : a1 < x20_2
             ·rw [if_pos c85] at H
              have c85b0 : decide (a1 < x20_2) = true := decide_eq_true c85
              clear c85
              (first | rw [c85b0] | (simp only [i64_w, i32_w]; rw [c85b0]) | skip)
              have H' := Aside0.mk H
              clear H
              go_wp2
              go_meet
              case rel => exact ⟨_, (decide (x20_2 < (wrap64 ((IntKind.u64.wrap (wrap64 (a1 + a3))) / 2)))), rfs, H', ⟨by have := HJ59.out; have := HK2.out; have := HJ76.out; have := HJ78.out; first | omega | exact Nat.le_refl _⟩, roA HO_0, ⟨by repeat (first | (with_reducible first | exact HK.out | apply Kept.alloc | apply Kept.drewN | apply Kept.drew) | exact HK.out)⟩, hbA HB⟩
             ·rw [if_neg c85] at H
              have c85b0 : decide (a1 < x20_2) = false := decide_eq_false c85
              clear c85
              (first | rw [c85b0] | (simp only [i64_w, i32_w]; rw [c85b0]) | skip)
              have H' := Aside0.mk H
              clear H
              go_wp2
              go_meet
              case rel => exact ⟨_, (false), rfs, H', ⟨by have := HJ59.out; have := HK2.out; have := HJ76.out; have := HJ78.out; first | omega | exact Nat.le_refl _⟩, roA HO_0, ⟨by repeat (first | (with_reducible first | exact HK.out | apply Kept.alloc | apply Kept.drewN | apply Kept.drew) | exact HK.out)⟩, hbA HB⟩
            case rest =>
             clear HC84
             try clear c6
             try clear c6b0
             try clear c6b1
             try clear c33
             try clear c33b0
             try clear c33b1
             try clear c62
             try clear c62b0
             obtain ⟨kq, x199_83, rfl, HA, HJ83, HO_0, HK, HB⟩ := hcut
             cases kq with
             | zero => exact absurd HA.out (by simp [hopmeshlaw49_Delivery_85.j8])
             | succ kj83 =>
              have H := HA.out
              clear HA
              simp only [hopmeshlaw49_Delivery_85.j8] at H
              by_cases c86 : x199_83 = true
              ·subst c86
               rw [if_pos rfl] at H
               replace H := Option.bind_eq_some_iff.mp H
               obtain ⟨t326, A870, H⟩ := H
               (try dsimp only at H)
               have A87 := Aside0.mk A870
               clear A870
               by_cases c88 : (wrap64 ((IntKind.u64.wrap (wrap64 (a1 + a3))) / 2)) < (wrap64 ((wrap64 ((wrap64 ((IntKind.u64.wrap (wrap64 (a1 + a3))) / 2)) + a2)) - x20_2))
               ·rw [if_pos c88] at H
                have c88b0 : decide ((wrap64 ((IntKind.u64.wrap (wrap64 (a1 + a3))) / 2)) < (wrap64 ((wrap64 ((wrap64 ((IntKind.u64.wrap (wrap64 (a1 + a3))) / 2)) + a2)) - x20_2))) = true := decide_eq_true c88
                clear c88
                by_cases c89 : (wrap64 ((wrap64 ((wrap64 ((IntKind.u64.wrap (wrap64 (a1 + a3))) / 2)) + a2)) - x20_2)) < a3
                ·rw [if_pos c89] at H
                 have c89b0 : decide ((wrap64 ((wrap64 ((wrap64 ((IntKind.u64.wrap (wrap64 (a1 + a3))) / 2)) + a2)) - x20_2)) < a3) = true := decide_eq_true c89
                 clear c89
                 replace H := Option.bind_eq_some_iff.mp H
                 obtain ⟨t327, A900, H⟩ := H
                 (try dsimp only at H)
                 have A90 := Aside0.mk A900
                 clear A900
                 obtain rfl := Option.some.inj H
                 obtain ⟨Ao91, co91, eo91⟩ := Kd.R_slice HO_0.out
                 subst eo91
                 go_wp2_with (first | ((with_reducible refine gate_callee (f := 85) rfl ?_); refine goesL_ (some 205) rfl rfl Try.func85 (by kernel_rfl) rfl #[.slice Ao91 x0_78.length co91, .int .i64 a1, .int .i64 x20_2, .int .i64 (wrap64 ((IntKind.u64.wrap (wrap64 (a1 + a3))) / 2)), .func (.func 50) #[] #[]] rfl sma ?_; (with_reducible refine (ih kj83 (by have := HJ59.out; have := HK2.out; have := HJ76.out; have := HJ78.out; have := HJ83.out; omega) (fun k_ => some k_ = (.slice Ao91 x0_78.length co91 : Value).ownBlock) (.slice Ao91 x0_78.length co91) x0_78 a1 x20_2 (wrap64 ((IntKind.u64.wrap (wrap64 (a1 + a3))) / 2))  t326 w0 _ ?side1 ?side2 A87.out).mono ?_); (case side1 => repeat (first | (with_reducible first | exact HB.out | apply below_alloc | apply pw_below_drewN | apply below_drew1) | exact HB.out)); (case side2 => exact Kd.R_tight rfl HO_0.out); rintro e w92 ⟨rfl, hy0, hb, hkp⟩; refine ⟨_, rfl, ?_⟩; replace HK := Aside0.mk (Kept.then_ (S := (fun k_ => P0_ k_)) (by repeat (first | (with_reducible first | exact HK.out | apply Kept.alloc | apply Kept.drewN | apply Kept.drew) | exact HK.out)) hkp (fun k_ hs_ => (fun e_ => (HO_0.out.1 k_ e_.symm)) hs_)); replace HO_0 := Aside0.mk (Kd.R_reok rfl hy0 (fun k_ e_ => HO_0.out.1 k_ e_)); replace HB := Aside0.mk (hb); (try clear hb); (try clear hkp); (try clear hy0)) | ((with_reducible refine gate_callee (f := 85) rfl ?_); refine goesL_ (some 219) rfl rfl Try.func85 (by kernel_rfl) rfl #[.slice Ao91 x0_78.length co91, .int .i64 (wrap64 ((IntKind.u64.wrap (wrap64 (a1 + a3))) / 2)), .int .i64 (wrap64 ((wrap64 ((wrap64 ((IntKind.u64.wrap (wrap64 (a1 + a3))) / 2)) + a2)) - x20_2)), .int .i64 a3, .func (.func 50) #[] #[]] rfl sma ?_; (with_reducible refine (ih kj83 (by have := HJ59.out; have := HK2.out; have := HJ76.out; have := HJ78.out; have := HJ83.out; omega) (fun k_ => some k_ = (.slice Ao91 x0_78.length co91 : Value).ownBlock) (.slice Ao91 x0_78.length co91) t326 (wrap64 ((IntKind.u64.wrap (wrap64 (a1 + a3))) / 2)) (wrap64 ((wrap64 ((wrap64 ((IntKind.u64.wrap (wrap64 (a1 + a3))) / 2)) + a2)) - x20_2)) a3  t327 w0 _ ?side1 ?side2 A90.out).mono ?_); (case side1 => repeat (first | (with_reducible first | exact HB.out | apply below_alloc | apply pw_below_drewN | apply below_drew1) | exact HB.out)); (case side2 => exact Kd.R_tight rfl HO_0.out); rintro e w93 ⟨rfl, hy0, hb, hkp⟩; refine ⟨_, rfl, ?_⟩; replace HK := Aside0.mk (Kept.then_ (S := (fun k_ => P0_ k_)) (by repeat (first | (with_reducible first | exact HK.out | apply Kept.alloc | apply Kept.drewN | apply Kept.drew) | exact HK.out)) hkp (fun k_ hs_ => (fun e_ => (HO_0.out.1 k_ e_.symm)) hs_)); replace HO_0 := Aside0.mk (Kd.R_reok rfl hy0 (fun k_ e_ => HO_0.out.1 k_ e_)); replace HB := Aside0.mk (hb); (try clear hb); (try clear hkp); (try clear hy0)))
                 first | go_end0 | ((try simp only [Exit.inBlock, Exit.then]); refine bodyPost_ret (results_none rfl _ _ _) rfl ?_)
                 exact ⟨rerr, ro HO_0, hbx HB, by repeat (first | (with_reducible first | exact HK.out | apply Kept.alloc | apply Kept.drewN | apply Kept.drew) | exact HK.out)⟩
                ·rw [if_neg c89] at H
                 have c89b0 : decide ((wrap64 ((wrap64 ((wrap64 ((IntKind.u64.wrap (wrap64 (a1 + a3))) / 2)) + a2)) - x20_2)) < a3) = false := decide_eq_false c89
                 clear c89
                 obtain rfl := Option.some.inj H
                 obtain ⟨Ao94, co94, eo94⟩ := Kd.R_slice HO_0.out
                 subst eo94
                 go_wp2_with (first | ((with_reducible refine gate_callee (f := 85) rfl ?_); refine goesL_ (some 205) rfl rfl Try.func85 (by kernel_rfl) rfl #[.slice Ao94 x0_78.length co94, .int .i64 a1, .int .i64 x20_2, .int .i64 (wrap64 ((IntKind.u64.wrap (wrap64 (a1 + a3))) / 2)), .func (.func 50) #[] #[]] rfl sma ?_; (with_reducible refine (ih kj83 (by have := HJ59.out; have := HK2.out; have := HJ76.out; have := HJ78.out; have := HJ83.out; omega) (fun k_ => some k_ = (.slice Ao94 x0_78.length co94 : Value).ownBlock) (.slice Ao94 x0_78.length co94) x0_78 a1 x20_2 (wrap64 ((IntKind.u64.wrap (wrap64 (a1 + a3))) / 2))  t326 w0 _ ?side1 ?side2 A87.out).mono ?_); (case side1 => repeat (first | (with_reducible first | exact HB.out | apply below_alloc | apply pw_below_drewN | apply below_drew1) | exact HB.out)); (case side2 => exact Kd.R_tight rfl HO_0.out); rintro e w95 ⟨rfl, hy0, hb, hkp⟩; refine ⟨_, rfl, ?_⟩; replace HK := Aside0.mk (Kept.then_ (S := (fun k_ => P0_ k_)) (by repeat (first | (with_reducible first | exact HK.out | apply Kept.alloc | apply Kept.drewN | apply Kept.drew) | exact HK.out)) hkp (fun k_ hs_ => (fun e_ => (HO_0.out.1 k_ e_.symm)) hs_)); replace HO_0 := Aside0.mk (Kd.R_reok rfl hy0 (fun k_ e_ => HO_0.out.1 k_ e_)); replace HB := Aside0.mk (hb); (try clear hb); (try clear hkp); (try clear hy0)))
                 first | go_end0 | ((try simp only [Exit.inBlock, Exit.then]); refine bodyPost_ret (results_none rfl _ _ _) rfl ?_)
                 exact ⟨rerr, ro HO_0, hbx HB, by repeat (first | (with_reducible first | exact HK.out | apply Kept.alloc | apply Kept.drewN | apply Kept.drew) | exact HK.out)⟩
               ·rw [if_neg c88] at H
                have c88b0 : decide ((wrap64 ((IntKind.u64.wrap (wrap64 (a1 + a3))) / 2)) < (wrap64 ((wrap64 ((wrap64 ((IntKind.u64.wrap (wrap64 (a1 + a3))) / 2)) + a2)) - x20_2))) = false := decide_eq_false c88
                clear c88
                obtain rfl := Option.some.inj H
                obtain ⟨Ao96, co96, eo96⟩ := Kd.R_slice HO_0.out
                subst eo96
                go_wp2_with (first | ((with_reducible refine gate_callee (f := 85) rfl ?_); refine goesL_ (some 205) rfl rfl Try.func85 (by kernel_rfl) rfl #[.slice Ao96 x0_78.length co96, .int .i64 a1, .int .i64 x20_2, .int .i64 (wrap64 ((IntKind.u64.wrap (wrap64 (a1 + a3))) / 2)), .func (.func 50) #[] #[]] rfl sma ?_; (with_reducible refine (ih kj83 (by have := HJ59.out; have := HK2.out; have := HJ76.out; have := HJ78.out; have := HJ83.out; omega) (fun k_ => some k_ = (.slice Ao96 x0_78.length co96 : Value).ownBlock) (.slice Ao96 x0_78.length co96) x0_78 a1 x20_2 (wrap64 ((IntKind.u64.wrap (wrap64 (a1 + a3))) / 2))  t326 w0 _ ?side1 ?side2 A87.out).mono ?_); (case side1 => repeat (first | (with_reducible first | exact HB.out | apply below_alloc | apply pw_below_drewN | apply below_drew1) | exact HB.out)); (case side2 => exact Kd.R_tight rfl HO_0.out); rintro e w97 ⟨rfl, hy0, hb, hkp⟩; refine ⟨_, rfl, ?_⟩; replace HK := Aside0.mk (Kept.then_ (S := (fun k_ => P0_ k_)) (by repeat (first | (with_reducible first | exact HK.out | apply Kept.alloc | apply Kept.drewN | apply Kept.drew) | exact HK.out)) hkp (fun k_ hs_ => (fun e_ => (HO_0.out.1 k_ e_.symm)) hs_)); replace HO_0 := Aside0.mk (Kd.R_reok rfl hy0 (fun k_ e_ => HO_0.out.1 k_ e_)); replace HB := Aside0.mk (hb); (try clear hb); (try clear hkp); (try clear hy0)))
                first | go_end0 | ((try simp only [Exit.inBlock, Exit.then]); refine bodyPost_ret (results_none rfl _ _ _) rfl ?_)
                exact ⟨rerr, ro HO_0, hbx HB, by repeat (first | (with_reducible first | exact HK.out | apply Kept.alloc | apply Kept.drewN | apply Kept.drew) | exact HK.out)⟩
              ·replace c86 := Bool.eq_false_iff.mpr c86
               subst c86
               rw [if_neg (show ¬ (false = true) by decide)] at H
               by_cases c98 : (wrap64 ((IntKind.u64.wrap (wrap64 (a1 + a3))) / 2)) < (wrap64 ((wrap64 ((wrap64 ((IntKind.u64.wrap (wrap64 (a1 + a3))) / 2)) + a2)) - x20_2))
               ·rw [if_pos c98] at H
                have c98b0 : decide ((wrap64 ((IntKind.u64.wrap (wrap64 (a1 + a3))) / 2)) < (wrap64 ((wrap64 ((wrap64 ((IntKind.u64.wrap (wrap64 (a1 + a3))) / 2)) + a2)) - x20_2))) = true := decide_eq_true c98
                clear c98
                by_cases c99 : (wrap64 ((wrap64 ((wrap64 ((IntKind.u64.wrap (wrap64 (a1 + a3))) / 2)) + a2)) - x20_2)) < a3
                ·rw [if_pos c99] at H
                 have c99b0 : decide ((wrap64 ((wrap64 ((wrap64 ((IntKind.u64.wrap (wrap64 (a1 + a3))) / 2)) + a2)) - x20_2)) < a3) = true := decide_eq_true c99
                 clear c99
                 replace H := Option.bind_eq_some_iff.mp H
                 obtain ⟨t328, A1000, H⟩ := H
                 (try dsimp only at H)
                 have A100 := Aside0.mk A1000
                 clear A1000
                 obtain rfl := Option.some.inj H
                 obtain ⟨Ao101, co101, eo101⟩ := Kd.R_slice HO_0.out
                 subst eo101
                 go_wp2_with (first | ((with_reducible refine gate_callee (f := 85) rfl ?_); refine goesL_ (some 219) rfl rfl Try.func85 (by kernel_rfl) rfl #[.slice Ao101 x0_78.length co101, .int .i64 (wrap64 ((IntKind.u64.wrap (wrap64 (a1 + a3))) / 2)), .int .i64 (wrap64 ((wrap64 ((wrap64 ((IntKind.u64.wrap (wrap64 (a1 + a3))) / 2)) + a2)) - x20_2)), .int .i64 a3, .func (.func 50) #[] #[]] rfl sma ?_; (with_reducible refine (ih kj83 (by have := HJ59.out; have := HK2.out; have := HJ76.out; have := HJ78.out; have := HJ83.out; omega) (fun k_ => some k_ = (.slice Ao101 x0_78.length co101 : Value).ownBlock) (.slice Ao101 x0_78.length co101) x0_78 (wrap64 ((IntKind.u64.wrap (wrap64 (a1 + a3))) / 2)) (wrap64 ((wrap64 ((wrap64 ((IntKind.u64.wrap (wrap64 (a1 + a3))) / 2)) + a2)) - x20_2)) a3  t328 w0 _ ?side1 ?side2 A100.out).mono ?_); (case side1 => repeat (first | (with_reducible first | exact HB.out | apply below_alloc | apply pw_below_drewN | apply below_drew1) | exact HB.out)); (case side2 => exact Kd.R_tight rfl HO_0.out); rintro e w102 ⟨rfl, hy0, hb, hkp⟩; refine ⟨_, rfl, ?_⟩; replace HK := Aside0.mk (Kept.then_ (S := (fun k_ => P0_ k_)) (by repeat (first | (with_reducible first | exact HK.out | apply Kept.alloc | apply Kept.drewN | apply Kept.drew) | exact HK.out)) hkp (fun k_ hs_ => (fun e_ => (HO_0.out.1 k_ e_.symm)) hs_)); replace HO_0 := Aside0.mk (Kd.R_reok rfl hy0 (fun k_ e_ => HO_0.out.1 k_ e_)); replace HB := Aside0.mk (hb); (try clear hb); (try clear hkp); (try clear hy0)))
                 first | go_end0 | ((try simp only [Exit.inBlock, Exit.then]); refine bodyPost_ret (results_none rfl _ _ _) rfl ?_)
                 exact ⟨rerr, ro HO_0, hbx HB, by repeat (first | (with_reducible first | exact HK.out | apply Kept.alloc | apply Kept.drewN | apply Kept.drew) | exact HK.out)⟩
                ·rw [if_neg c99] at H
                 have c99b0 : decide ((wrap64 ((wrap64 ((wrap64 ((IntKind.u64.wrap (wrap64 (a1 + a3))) / 2)) + a2)) - x20_2)) < a3) = false := decide_eq_false c99
                 clear c99
                 obtain rfl := Option.some.inj H
                 go_wp2
                 first | go_end0 | ((try simp only [Exit.inBlock, Exit.then]); refine bodyPost_ret (results_none rfl _ _ _) rfl ?_)
                 exact ⟨rerr, ro HO_0, hbx HB, by repeat (first | (with_reducible first | exact HK.out | apply Kept.alloc | apply Kept.drewN | apply Kept.drew) | exact HK.out)⟩
               ·rw [if_neg c98] at H
                have c98b0 : decide ((wrap64 ((IntKind.u64.wrap (wrap64 (a1 + a3))) / 2)) < (wrap64 ((wrap64 ((wrap64 ((IntKind.u64.wrap (wrap64 (a1 + a3))) / 2)) + a2)) - x20_2))) = false := decide_eq_false c98
                clear c98
                obtain rfl := Option.some.inj H
                go_wp2
                first | go_end0 | ((try simp only [Exit.inBlock, Exit.then]); refine bodyPost_ret (results_none rfl _ _ _) rfl ?_)
                exact ⟨rerr, ro HO_0, hbx HB, by repeat (first | (with_reducible first | exact HK.out | apply Kept.alloc | apply Kept.drewN | apply Kept.drew) | exact HK.out)⟩
end Go.Proofs.Ytdigplhjfjchnaa.PQ
