-- Printed by fprint.py and zip.py, programs of this session's, over the kit's print; Lean checks it.
import Derived.Test.YtnipgplobipeeaaZ0
import Derived.Test.YtnipgplobipeeaaZf40
import Derived.Test.YtnipgplobipeeaaZf13
namespace Go.Proofs.Ytnipgplobipeeaa.PQ
open Go.RowKit Go.Proofs.YtnipgplobipeeaaW.PrintWords Go.Proofs.YtnipgplobipeeaaW.PrintLast Go.Proofs.YtnipgplobipeeaaW.PrintMore
attribute [local go_sem] max2_int min2_int max_two min_two max_three min_three max_four min_four   -- for this text's walks alone
set_option linter.unusedVariables false
set_option linter.unusedSimpArgs false
def hopmeshlaw12_closed.f (k : Nat) (a0_0 : Int) (l0_1 : List (S34)) (l0_2 : List Int) (l0_3 : List Int) (a1_0 : Int) (a1_1 : Int) (a1_2 : Int) (a1_3 : Int) : Option (Int × (List (S34)) × List Int × List Int × Int) := (hopmeshref12_Copy.f a0_0 l0_1 l0_2 l0_3).bind fun bt272 => ((quality_Close.f k bt272.1 bt272.2.1 bt272.2.2.1 bt272.2.2.2 a1_0 a1_1 a1_2 a1_3).bind fun bt282 => (some (bt282.1, bt282.2.1, bt282.2.2.1, bt282.2.2.2.1, bt282.2.2.2.2)))
theorem hopmeshlaw12_closed.mono : ∀ a0 a1 a2 a3 a4 a5 a6 a7 k, LeO (hopmeshlaw12_closed.f k a0 a1 a2 a3 a4 a5 a6 a7) (hopmeshlaw12_closed.f (k + 1) a0 a1 a2 a3 a4 a5 a6 a7) := by
 intro a0 a1 a2 a3 a4 a5 a6 a7 k
 unfold hopmeshlaw12_closed.f
 repeat' first
  | (with_reducible exact quality_Close.mono _ _ _ _ _ _ _ _ _)
  | (with_reducible exact LeO.refl _)
  | (with_reducible exact LeO.none _)
  | (with_reducible refine LeO.ite ?_ ?_)
  | (with_reducible refine LeO.bind ?_ (fun _ => ?_))
  | exact quality_Close.mono _ _ _ _ _ _ _ _ _
  | exact LeO.none _
  | refine LeO.ite ?_ ?_
  | refine LeO.bind ?_ (fun _ => ?_)
def hopmeshlaw12_closed.T1 : Bool × List (List Nat × List Nat) := (true, [([], []), ([0], [0]), ([], []), ([2], [2]), ([], []), ([4], [4]), ([], []), ([6], [6]), ([], []), ([8], [8]), ([1, 3, 5, 7, 9, 1], [1, 3, 5, 7, 9]), ([10], [10]), ([10], [10]), ([11, 10, 0, 1, 2, 3, 4, 5, 6, 7, 8, 9, 10, 11, 12], [11]), ([12, 13, 0, 1, 2, 3, 4, 5, 6, 7, 8, 9, 10, 11, 12, 13], [12])])
def hopmeshlaw12_closed.B1 : List Nat := [0, 1, 0, 4, 0, 16, 0, 64, 0, 256, 1023, 2047, 2047, 8191, 16383]
theorem hopmeshlaw12_closed.tab1 : rtab .any (opsOf Try.f14 1) = hopmeshlaw12_closed.T1 := by kernel_rfl
theorem hopmeshlaw12_closed.bits1 : waitsOk hopmeshlaw12_closed.T1.2 hopmeshlaw12_closed.B1 = true := by kernel_rfl
set_option maxHeartbeats 8000000 in
set_option maxRecDepth 100000 in
theorem hopmeshlaw12_closed.calls (k : Nat) (a0_0 : Int) (A0_1 : Option Addr) (c0_1 : Nat) (l0_1 : List (S34)) (A0_2 : Option Addr) (c0_2 : Nat) (l0_2 : List Int) (A0_3 : Option Addr) (c0_3 : Nat) (l0_3 : List Int) (a1_0 : Int) (a1_1 : Int) (a1_2 : Int) (a1_3 : Int) (r1 : Int) (r2 : List (S34)) (r3 : List Int) (r4 : List Int) (r5 : Int) (w : World) (hr0_1 : Kd.C k34 w A0_1 l0_1.length l0_1) (hc0_1 : l0_1.length ≤ c0_1) (hr0_2 : Kd.C (Kd.int .i64) w A0_2 l0_2.length l0_2) (hc0_2 : l0_2.length ≤ c0_2) (hr0_3 : Kd.C (Kd.int .i64) w A0_3 l0_3.length l0_3) (hc0_3 : l0_3.length ≤ c0_3) (h : hopmeshlaw12_closed.f k a0_0 l0_1 l0_2 l0_3 a1_0 a1_1 a1_2 a1_3 = some (r1, r2, r3, r4, r5)) :
 Calls Try.prog 14 #[.agg #[.int .i64 a0_0, .slice A0_1 l0_1.length c0_1, .slice A0_2 l0_2.length c0_2, .slice A0_3 l0_3.length c0_3], .agg #[.int .i64 a1_0, .int .i64 a1_1, .int .i64 a1_2, .int .i64 a1_3]] w fun e w' => ∃ v1_ v2_ v3_ : Value, e = .returned (.tuple #[.agg #[.int .i64 r1, v1_, v2_, v3_], .int .i64 r5]) ∧ Kd.R k34 34 w' w.heap.size (fun _ => True) v1_ r2 ∧ Kd.R (Kd.int .i64) 3 w' w.heap.size (fun k_ => some k_ ≠ (v3_ : Value).ownBlock) v2_ r3 ∧ Kd.R (Kd.int .i64) 3 w' w.heap.size (fun k_ => some k_ ≠ (v2_ : Value).ownBlock) v3_ r4 ∧ Below w.heap.size w w' := by
 have hu25 := Try.underlying25
 have hu27 := Try.underlying27
 have HR0_1 := Aside0.mk hr0_1
 have HC0_1 := Aside0.mk hc0_1
 clear hr0_1 hc0_1
 have HR0_2 := Aside0.mk hr0_2
 have HC0_2 := Aside0.mk hc0_2
 clear hr0_2 hc0_2
 have HR0_3 := Aside0.mk hr0_3
 have HC0_3 := Aside0.mk hc0_3
 clear hr0_3 hc0_3
 have HB := Aside0.mk (Below.refl w.heap.size w)
 have H : ((hopmeshref12_Copy.f a0_0 l0_1 l0_2 l0_3).bind fun bt272 => ((quality_Close.f k bt272.1 bt272.2.1 bt272.2.2.1 bt272.2.2.2 a1_0 a1_1 a1_2 a1_3).bind fun bt282 => (some (bt282.1, bt282.2.1, bt282.2.2.1, bt282.2.2.2.1, bt282.2.2.2.2)))) = some (r1, r2, r3, r4, r5) := h
 clear h
 replace H := Option.bind_eq_some_iff.mp H
 obtain ⟨⟨t272, t273, t276, t279⟩, A30, H⟩ := H
 (try dsimp only at H)
 have A3 := Aside0.mk A30
 clear A30
 replace H := Option.bind_eq_some_iff.mp H
 obtain ⟨⟨t282, t283, t286, t289, t292⟩, A40, H⟩ := H
 (try dsimp only at H)
 have A4 := Aside0.mk A40
 clear A40
 simp only [Option.some.injEq, Prod.mk.injEq] at H
 obtain ⟨rfl, rfl, rfl, rfl, rfl⟩ := H
 go_enter Try.func14, Try.ntmps14
 try go_wp2_with (first | ((with_reducible refine gate_dst (N := 2) rfl ?_); refine boxE 2 #[.int .i64 a0_0, .slice A0_1 l0_1.length c0_1, .slice A0_2 l0_2.length c0_2, .slice A0_3 l0_3.length c0_3] 25 ?_; intro gb269 hg w5 hbox hb; have BK269 := Aside0.mk (hbox); have GW269 := gw hg HB; have GE269 := gw hg HB; replace HB := hbS HB hb; clear hb hbox hg) | ((with_reducible refine gate_dst (N := 3) rfl ?_); refine boxE 3 #[.int .i64 a1_0, .int .i64 a1_1, .int .i64 a1_2, .int .i64 a1_3] 27 ?_; intro gb270 hg w6 hbox hb; have BK270 := Aside0.mk (hbox); have GW270 := gw hg HB; have GE270 := gw hg HB; replace HB := hbS HB hb; have NB269_270 := nbl hg BK269; have NB270_269 := nbg hg BK269; replace BK269 := bkB BK269 hb; clear hb hbox hg) | ((with_reducible refine gate_dst (N := 4) rfl ?_); refine boxE 4 #[.int .i64 0, .slice none 0 0, .slice none 0 0, .slice none 0 0] 25 ?_; intro gb271 hg w7 hbox hb; have BK271 := Aside0.mk (hbox); have GW271 := gw hg HB; have GE271 := gw hg HB; replace HB := hbS HB hb; have NB269_271 := nbl hg BK269; have NB271_269 := nbg hg BK269; replace BK269 := bkB BK269 hb; have NB270_271 := nbl hg BK270; have NB271_270 := nbg hg BK270; replace BK270 := bkB BK270 hb; clear hb hbox hg))
 replace BK269 := Aside0.mk (blk_drew BK269.out)
 replace BK270 := Aside0.mk (blk_drew BK270.out)
 replace BK271 := Aside0.mk (blk_drew BK271.out)
 replace HB := Aside0.mk (below_drew1 HB.out)
 refine start_ (n := 15) (S := fun w' => w'.cell? ⟨gb269, 0, none⟩ = some (.int .i64 a0_0) ∧ w'.cell? ⟨gb269, 1, none⟩ = some (.slice A0_1 l0_1.length c0_1) ∧ w'.cell? ⟨gb269, 2, none⟩ = some (.slice A0_2 l0_2.length c0_2) ∧ w'.cell? ⟨gb269, 3, none⟩ = some (.slice A0_3 l0_3.length c0_3) ∧ w'.cell? ⟨gb270, 0, none⟩ = some (.int .i64 a1_0) ∧ w'.cell? ⟨gb270, 1, none⟩ = some (.int .i64 a1_1) ∧ w'.cell? ⟨gb270, 2, none⟩ = some (.int .i64 a1_2) ∧ w'.cell? ⟨gb270, 3, none⟩ = some (.int .i64 a1_3)) (ds := []) #[false, false, false, false, false, false, false, false, false, false, false, false, false, false, false] (by kernel_rfl) rfl rfl ⟨(blk_cell BK269.out 0).trans rfl, (blk_cell BK269.out 1).trans rfl, (blk_cell BK269.out 2).trans rfl, (blk_cell BK269.out 3).trans rfl, (blk_cell BK270.out 0).trans rfl, (blk_cell BK270.out 1).trans rfl, (blk_cell BK270.out 2).trans rfl, (blk_cell BK270.out 3).trans rfl⟩ (fun hHeld => ?_); refine with_tabW hopmeshlaw12_closed.tab1 hopmeshlaw12_closed.bits1 (fun HT_ HW_ => ?_)
 generalize w7.drew = w8 at BK269 BK270 BK271 HB hHeld ⊢
 refine pur 2 (some 8) #[false, false, true, false, false, false, false, false, false, false, false, false, false, false, false] HT_ ?_
 refine pur 4 (some 10) #[false, false, true, false, true, false, false, false, false, false, false, false, false, false, false] HT_ ?_
 refine pur 6 (some 12) #[false, false, true, false, true, false, true, false, false, false, false, false, false, false, false] HT_ ?_
 refine pur 8 (some 14) #[false, false, true, false, true, false, true, false, true, false, false, false, false, false, false] HT_ ?_
 refine tak 0 (some 6) #[true, false, true, false, true, false, true, false, true, false, false, false, false, false, false] HT_ HW_ hHeld rfl (Or.inl ⟨by rfl, by rintro w' ⟨s0, s1, s2, s3, s4, s5, s6, s7⟩; go_simp; with_reducible rfl⟩) ?_
 refine tak 3 (some 9) #[true, false, true, true, true, false, true, false, true, false, false, false, false, false, false] HT_ HW_ hHeld rfl (Or.inl ⟨by rfl, by rintro w' ⟨s0, s1, s2, s3, s4, s5, s6, s7⟩; go_simp; with_reducible rfl⟩) ?_
 refine tak 5 (some 11) #[true, false, true, true, true, true, true, false, true, false, false, false, false, false, false] HT_ HW_ hHeld rfl (Or.inl ⟨by rfl, by rintro w' ⟨s0, s1, s2, s3, s4, s5, s6, s7⟩; go_simp; with_reducible rfl⟩) ?_
 refine tak 7 (some 13) #[true, false, true, true, true, true, true, true, true, false, false, false, false, false, false] HT_ HW_ hHeld rfl (Or.inl ⟨by rfl, by rintro w' ⟨s0, s1, s2, s3, s4, s5, s6, s7⟩; go_simp; with_reducible rfl⟩) ?_
 refine tak 9 (some 15) #[true, false, true, true, true, true, true, true, true, true, false, false, false, false, false] HT_ HW_ hHeld rfl (Or.inl ⟨by rfl, by rintro w' ⟨s0, s1, s2, s3, s4, s5, s6, s7⟩; go_simp; with_reducible rfl⟩) ?_
 refine one_ (i := 1) (N := some 7) #[true, true, true, true, true, true, true, true, true, true, false, false, false, false, false] rfl rfl (one_of HT_.out (by kernel_rfl)) (by decide) (fun K hK => ?_)
 refine goes_ Try.func13 (by kernel_rfl) rfl #[.agg #[.int .i64 a0_0, .slice A0_1 l0_1.length c0_1, .slice A0_2 l0_2.length c0_2, .slice A0_3 l0_3.length c0_3]] (by rfl) rfl rfl sma ?_
 with_reducible refine (hopmeshref12_Copy.calls a0_0 _ _ l0_1 _ _ l0_2 _ _ l0_3 t272 t273 t276 t279 _ ?side1 ?side2 ?side3 ?side4 ?side5 ?side6 A3.out).mono ?_
 (case side1 => repeat (first | exact (Kd.C_below HR0_1.out HB.out) | (with_reducible refine Kd.C_alloc ?_ _) | (with_reducible refine Kd.C_drewN ?_ _) | (with_reducible refine Kd.C_drew ?_)))
 (case side2 => exact HC0_1.out)
 (case side3 => repeat (first | exact (Kd.C_below HR0_2.out HB.out) | (with_reducible refine Kd.C_alloc ?_ _) | (with_reducible refine Kd.C_drewN ?_ _) | (with_reducible refine Kd.C_drew ?_)))
 (case side4 => exact HC0_2.out)
 (case side5 => repeat (first | exact (Kd.C_below HR0_3.out HB.out) | (with_reducible refine Kd.C_alloc ?_ _) | (with_reducible refine Kd.C_drewN ?_ _) | (with_reducible refine Kd.C_drew ?_)))
 (case side6 => exact HC0_3.out)
 rintro e w9 ⟨v274, v277, v280, rfl, ho0, ho1, ho2, hb⟩
 refine ⟨_, rfl, ?_⟩
 have HO275 := Aside0.mk (Kd.R_lower ho0 (below_size (hbx HB)))
 have HO278 := Aside0.mk (Kd.R_lower ho1 (below_size (hbx HB)))
 have HO281 := Aside0.mk (Kd.R_lower ho2 (below_size (hbx HB)))
 replace BK269 := bkB BK269 hb
 replace BK270 := bkB BK270 hb
 replace BK271 := bkB BK271 hb
 replace HB := hbS HB hb
 (try clear hb)
 (try clear ho0)
 (try clear ho1)
 (try clear ho2)
 obtain ⟨Ao10, co10, eo10⟩ := Kd.R_slice HO275.out
 (first | subst eo10 | (injection eo10 with f1_ f2_ f3_; have f4_ := f1_.symm; have f5_ := f3_.symm; clear f1_ f2_ f3_; subst f4_; subst f5_))
 obtain ⟨Ao11, co11, eo11⟩ := Kd.R_slice HO278.out
 (first | subst eo11 | (injection eo11 with f1_ f2_ f3_; have f4_ := f1_.symm; have f5_ := f3_.symm; clear f1_ f2_ f3_; subst f4_; subst f5_))
 obtain ⟨Ao12, co12, eo12⟩ := Kd.R_slice HO281.out
 (first | subst eo12 | (injection eo12 with f1_ f2_ f3_; have f4_ := f1_.symm; have f5_ := f3_.symm; clear f1_ f2_ f3_; subst f4_; subst f5_))
 refine hK.out _ _ ⟨(blk_cell BK269.out 0).trans rfl, (blk_cell BK269.out 1).trans rfl, (blk_cell BK269.out 2).trans rfl, (blk_cell BK269.out 3).trans rfl, (blk_cell BK270.out 0).trans rfl, (blk_cell BK270.out 1).trans rfl, (blk_cell BK270.out 2).trans rfl, (blk_cell BK270.out 3).trans rfl⟩ (fun hHeld => ?_)
 clear hK K
 refine nrm (some 7) ?_
 refine one_ (i := 10) (N := some 16) #[true, true, true, true, true, true, true, true, true, true, true, false, false, false, false] rfl rfl (one_of HT_.out (by kernel_rfl)) (by decide) (fun K hK => ?_)
 refine goes_ Try.func40 (by kernel_rfl) rfl #[.agg #[.int .i64 t272, .slice Ao10 t273.length co10, .slice Ao11 t276.length co11, .slice Ao12 t279.length co12], .int .i64 a1_0, .int .i64 a1_1, .int .i64 a1_2, .int .i64 a1_3] (by rfl) rfl rfl sma ?_
 with_reducible refine (quality_Close.calls k t272 _ _ t273 _ _ t276 _ _ t279 a1_0 a1_1 a1_2 a1_3 t282 t283 t286 t289 t292 _ ?side1 ?side2 ?side3 ?side4 ?side5 ?side6 A4.out).mono ?_
 (case side1 => repeat (first | exact (Kd.R_reads' HO275.out).2.2 | (with_reducible refine Kd.C_alloc ?_ _) | (with_reducible refine Kd.C_drewN ?_ _) | (with_reducible refine Kd.C_drew ?_)))
 (case side2 => exact (Kd.R_reads' HO275.out).2.1)
 (case side3 => repeat (first | exact (Kd.R_reads' HO278.out).2.2 | (with_reducible refine Kd.C_alloc ?_ _) | (with_reducible refine Kd.C_drewN ?_ _) | (with_reducible refine Kd.C_drew ?_)))
 (case side4 => exact (Kd.R_reads' HO278.out).2.1)
 (case side5 => repeat (first | exact (Kd.R_reads' HO281.out).2.2 | (with_reducible refine Kd.C_alloc ?_ _) | (with_reducible refine Kd.C_drewN ?_ _) | (with_reducible refine Kd.C_drew ?_)))
 (case side6 => exact (Kd.R_reads' HO281.out).2.1)
 rintro e w13 ⟨v284, v287, v290, rfl, ho0, ho1, ho2, hb⟩
 refine ⟨_, rfl, ?_⟩
 have HO285 := Aside0.mk (Kd.R_lower (Kd.R_new' ho0 (Kd.R_lt (ro HO275))) (below_size (hbx HB)))
 replace HO275 := Aside0.mk (Kd.R_elder' (ro HO275) (Kd.R_base ho0) hb)
 have HO288 := Aside0.mk (Kd.R_lower (Kd.R_new' (Kd.R_new' ho1 (Kd.R_lt (ro HO278))) (Kd.R_lt (ro HO281))) (below_size (hbx HB)))
 have HO291 := Aside0.mk (Kd.R_lower (Kd.R_new' (Kd.R_new' ho2 (Kd.R_lt (ro HO278))) (Kd.R_lt (ro HO281))) (below_size (hbx HB)))
 replace HO278 := Aside0.mk (Kd.R_mono (Kd.R_told (Kd.R_told (Kd.R_old (ro HO278) hb) (Kd.R_base ho1)) (Kd.R_base ho2)) (fun _ h_ => h_.1))
 replace HO281 := Aside0.mk (Kd.R_mono (Kd.R_told (Kd.R_told (Kd.R_old (ro HO281) hb) (Kd.R_base ho1)) (Kd.R_base ho2)) (fun _ h_ => h_.1))
 replace BK269 := bkB BK269 hb
 replace BK270 := bkB BK270 hb
 replace BK271 := bkB BK271 hb
 replace HB := hbS HB hb
 (try clear hb)
 (try clear ho0)
 (try clear ho1)
 (try clear ho2)
 obtain ⟨Ao15, co15, eo15⟩ := Kd.R_slice HO285.out
 (first | subst eo15 | (injection eo15 with f1_ f2_ f3_; have f4_ := f1_.symm; have f5_ := f3_.symm; clear f1_ f2_ f3_; subst f4_; subst f5_))
 obtain ⟨Ao17, co17, eo17⟩ := Kd.R_slice HO288.out
 (first | subst eo17 | (injection eo17 with f1_ f2_ f3_; have f4_ := f1_.symm; have f5_ := f3_.symm; clear f1_ f2_ f3_; subst f4_; subst f5_))
 obtain ⟨Ao19, co19, eo19⟩ := Kd.R_slice HO291.out
 (first | subst eo19 | (injection eo19 with f1_ f2_ f3_; have f4_ := f1_.symm; have f5_ := f3_.symm; clear f1_ f2_ f3_; subst f4_; subst f5_))
 refine hK.out _ _ ⟨(blk_cell BK269.out 0).trans rfl, (blk_cell BK269.out 1).trans rfl, (blk_cell BK269.out 2).trans rfl, (blk_cell BK269.out 3).trans rfl, (blk_cell BK270.out 0).trans rfl, (blk_cell BK270.out 1).trans rfl, (blk_cell BK270.out 2).trans rfl, (blk_cell BK270.out 3).trans rfl⟩ (fun hHeld => ?_)
 clear hK K
 refine nrm (some 16) ?_
 refine pur 11 (some 17) #[true, true, true, true, true, true, true, true, true, true, true, true, false, false, false] HT_ ?_
 refine pur 12 (some 18) #[true, true, true, true, true, true, true, true, true, true, true, true, true, false, false] HT_ ?_
 refine one_ (i := 13) (N := none) #[true, true, true, true, true, true, true, true, true, true, true, true, true, true, false] rfl rfl (one_of HT_.out (by kernel_rfl)) (by decide) (fun K hK => ?_)
 have hs14 : w13.cell? ⟨gb271, 0, none⟩ = some (.int .i64 0) := (blk_cell BK271.out 0).trans rfl
 have hfs14 := blk_frozen BK271.out 0
 have hns14_0 := NB269_271.out
 have hns14_1 := NB270_271.out
 have hms14_0 := NB271_269.out
 have hms14_1 := NB271_270.out
 have hs16 : w13.cell? ⟨gb271, 1, none⟩ = some (.slice none 0 0) := (blk_cell BK271.out 1).trans rfl
 have hfs16 := blk_frozen BK271.out 1
 have hns16_0 := NB269_271.out
 have hns16_1 := NB270_271.out
 have hms16_0 := NB271_269.out
 have hms16_1 := NB271_270.out
 have hs18 : w13.cell? ⟨gb271, 2, none⟩ = some (.slice none 0 0) := (blk_cell BK271.out 2).trans rfl
 have hfs18 := blk_frozen BK271.out 2
 have hns18_0 := NB269_271.out
 have hns18_1 := NB270_271.out
 have hms18_0 := NB271_269.out
 have hms18_1 := NB271_270.out
 have hs20 : w13.cell? ⟨gb271, 3, none⟩ = some (.slice none 0 0) := (blk_cell BK271.out 3).trans rfl
 have hfs20 := blk_frozen BK271.out 3
 have hns20_0 := NB269_271.out
 have hns20_1 := NB270_271.out
 have hms20_0 := NB271_269.out
 have hms20_1 := NB271_270.out
 refine skip_ (w1 := ?_) (by rfl) rfl ?_ ?_
 rotate_left
 ·go_simp
  rfl
 refine hK.out _ _ ⟨((cell_far (p := ⟨gb271, _, none⟩) NB269_271.out _).trans (((cell_far (p := ⟨gb271, _, none⟩) NB269_271.out _).trans (((cell_far (p := ⟨gb271, _, none⟩) NB269_271.out _).trans (((cell_far (p := ⟨gb271, _, none⟩) NB269_271.out _).trans (hHeld.1)))))))), ((cell_far (p := ⟨gb271, _, none⟩) NB269_271.out _).trans (((cell_far (p := ⟨gb271, _, none⟩) NB269_271.out _).trans (((cell_far (p := ⟨gb271, _, none⟩) NB269_271.out _).trans (((cell_far (p := ⟨gb271, _, none⟩) NB269_271.out _).trans (hHeld.2.1)))))))), ((cell_far (p := ⟨gb271, _, none⟩) NB269_271.out _).trans (((cell_far (p := ⟨gb271, _, none⟩) NB269_271.out _).trans (((cell_far (p := ⟨gb271, _, none⟩) NB269_271.out _).trans (((cell_far (p := ⟨gb271, _, none⟩) NB269_271.out _).trans (hHeld.2.2.1)))))))), ((cell_far (p := ⟨gb271, _, none⟩) NB269_271.out _).trans (((cell_far (p := ⟨gb271, _, none⟩) NB269_271.out _).trans (((cell_far (p := ⟨gb271, _, none⟩) NB269_271.out _).trans (((cell_far (p := ⟨gb271, _, none⟩) NB269_271.out _).trans (hHeld.2.2.2.1)))))))), ((cell_far (p := ⟨gb271, _, none⟩) NB270_271.out _).trans (((cell_far (p := ⟨gb271, _, none⟩) NB270_271.out _).trans (((cell_far (p := ⟨gb271, _, none⟩) NB270_271.out _).trans (((cell_far (p := ⟨gb271, _, none⟩) NB270_271.out _).trans (hHeld.2.2.2.2.1)))))))), ((cell_far (p := ⟨gb271, _, none⟩) NB270_271.out _).trans (((cell_far (p := ⟨gb271, _, none⟩) NB270_271.out _).trans (((cell_far (p := ⟨gb271, _, none⟩) NB270_271.out _).trans (((cell_far (p := ⟨gb271, _, none⟩) NB270_271.out _).trans (hHeld.2.2.2.2.2.1)))))))), ((cell_far (p := ⟨gb271, _, none⟩) NB270_271.out _).trans (((cell_far (p := ⟨gb271, _, none⟩) NB270_271.out _).trans (((cell_far (p := ⟨gb271, _, none⟩) NB270_271.out _).trans (((cell_far (p := ⟨gb271, _, none⟩) NB270_271.out _).trans (hHeld.2.2.2.2.2.2.1)))))))), ((cell_far (p := ⟨gb271, _, none⟩) NB270_271.out _).trans (((cell_far (p := ⟨gb271, _, none⟩) NB270_271.out _).trans (((cell_far (p := ⟨gb271, _, none⟩) NB270_271.out _).trans (((cell_far (p := ⟨gb271, _, none⟩) NB270_271.out _).trans (hHeld.2.2.2.2.2.2.2))))))))⟩ (fun hHeld => ?_)
 clear hK K
 refine pur 14 (some 5) #[true, true, true, true, true, true, true, true, true, true, true, true, true, true, true] HT_ ?_
 refine done_ (done_of HT_.out (by kernel_rfl)) ?_
 try go_wp2
 refine bodyPost_ret (results_ct rfl _ _ gb271 25 #[.int .i64 t282, .slice Ao15 t283.length co15, .slice Ao17 t286.length co17, .slice Ao19 t289.length co19] (0, 0) _ rfl (bkp BK271) Try.underlying25 rfl (by kernel_rfl)) rfl ?_
 exact ⟨_, _, _, rerr, Kd.R_mono (rty (rfo HO285) BK271) (fun _ hk => trivial), Kd.R_mono (rty (rfo HO288) BK271) (fun _ hk => hk.1.1.1), Kd.R_mono (rty (rfo HO291) BK271) (fun _ hk => hk.1.1.1), hbx HB⟩
end Go.Proofs.Ytnipgplobipeeaa.PQ
