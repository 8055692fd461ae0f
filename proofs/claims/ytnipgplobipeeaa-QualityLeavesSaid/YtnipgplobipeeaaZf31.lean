-- Printed by fprint.py and zip.py, programs of this session's, over the kit's print; Lean checks it.
import Derived.Test.YtnipgplobipeeaaZ0
namespace Go.Proofs.Ytnipgplobipeeaa.PQ
open Go.RowKit Go.Proofs.YtnipgplobipeeaaW.PrintWords Go.Proofs.YtnipgplobipeeaaW.PrintLast Go.Proofs.YtnipgplobipeeaaW.PrintMore
attribute [local go_sem] max2_int min2_int max_two min_two max_three min_three max_four min_four   -- for this text's walks alone
set_option linter.unusedVariables false
set_option linter.unusedSimpArgs false
def quality_New.f  : Option (Int × (List (S34)) × List Int × List Int) := if 16 ≤ 17592186044416 then (if 16 ≤ 35184372088832 then (some (0, (List.replicate 16 z34), (List.replicate 16 0), (List.replicate 16 0))) else (none)) else (none)
set_option maxHeartbeats 8000000 in
set_option maxRecDepth 100000 in
theorem quality_New.calls  (r1 : Int) (r2 : List (S34)) (r3 : List Int) (r4 : List Int) (w : World) (h : quality_New.f  = some (r1, r2, r3, r4)) :
 Calls Try.prog 31 #[] w fun e w' => ∃ v1_ v2_ v3_ : Value, e = .returned (.agg #[.int .i64 r1, v1_, v2_, v3_]) ∧ Kd.R k34 34 w' w.heap.size (fun _ => True) v1_ r2 ∧ Kd.R (Kd.int .i64) 3 w' w.heap.size (fun k_ => some k_ ≠ (v3_ : Value).ownBlock) v2_ r3 ∧ Kd.R (Kd.int .i64) 3 w' w.heap.size (fun k_ => some k_ ≠ (v2_ : Value).ownBlock) v3_ r4 ∧ Below w.heap.size w w' := by
 have hu25 := Try.underlying25
 have HB := Aside0.mk (Below.refl w.heap.size w)
 have H : (if 16 ≤ 17592186044416 then (if 16 ≤ 35184372088832 then (some (0, (List.replicate 16 z34), (List.replicate 16 0), (List.replicate 16 0))) else (none)) else (none)) = some (r1, r2, r3, r4) := h
 clear h
 by_cases c1 : 16 ≤ 17592186044416
 ·rw [if_pos c1] at H
  have c1b0 := eq_true c1
  have c1b1 : decide (16 ≤ 17592186044416) = true := decide_eq_true c1
  clear c1
  obtain ⟨y125, hy125⟩ : ∃ y_ : List (S34), y_ = (List.replicate 16 z34) := ⟨_, rfl⟩
  replace H : (if 16 ≤ 35184372088832 then (some (0, y125, (List.replicate 16 0), (List.replicate 16 0))) else (none)) = some (r1, r2, r3, r4) := by first | (rw [hy125]; with_reducible exact H) | (have H2_ := (Option.bind_some _ _).symm.trans H; rw [hy125]; with_reducible exact H2_) | (have H2_ := (Option.bind_some _ _).symm.trans H; with_reducible exact H2_) | with_reducible exact H | (rw [hy125]; exact H) | exact H
  have Ny125 := Aside0.mk hy125
  clear hy125
  by_cases c2 : 16 ≤ 35184372088832
  ·rw [if_pos c2] at H
   have c2b0 := eq_true c2
   have c2b1 : decide (16 ≤ 35184372088832) = true := decide_eq_true c2
   clear c2
   obtain ⟨y128, hy128⟩ : ∃ y_ : List Int, y_ = (List.replicate 16 0) := ⟨_, rfl⟩
   replace H : (some (0, y125, y128, (List.replicate 16 0))) = some (r1, r2, r3, r4) := by first | (rw [hy128]; with_reducible exact H) | (have H2_ := (Option.bind_some _ _).symm.trans H; rw [hy128]; with_reducible exact H2_) | (have H2_ := (Option.bind_some _ _).symm.trans H; with_reducible exact H2_) | with_reducible exact H | (rw [hy128]; exact H) | exact H
   have Ny128 := Aside0.mk hy128
   clear hy128
   obtain ⟨y131, hy131⟩ : ∃ y_ : List Int, y_ = (List.replicate 16 0) := ⟨_, rfl⟩
   replace H : (some (0, y125, y128, y131)) = some (r1, r2, r3, r4) := by first | (rw [hy131]; with_reducible exact H) | (have H2_ := (Option.bind_some _ _).symm.trans H; rw [hy131]; with_reducible exact H2_) | (have H2_ := (Option.bind_some _ _).symm.trans H; with_reducible exact H2_) | with_reducible exact H | (rw [hy131]; exact H) | exact H
   have Ny131 := Aside0.mk hy131
   clear hy131
   simp only [Option.some.injEq, Prod.mk.injEq] at H
   obtain ⟨rfl, rfl, rfl, rfl⟩ := H
   go_enter Try.func31, Try.ntmps31
   try go_wp2_with (first | ((with_reducible refine gate_dst (N := 0) rfl ?_); refine boxE 0 #[.int .i64 0, .slice none 0 0, .slice none 0 0, .slice none 0 0] 25 ?_; intro gb124 hg w3 hbox hb; have BK124 := Aside0.mk (hbox); have GW124 := gw hg HB; have GE124 := gw hg HB; replace HB := hbS HB hb; clear hb hbox hg))
   replace BK124 := Aside0.mk (blk_drew BK124.out)
   replace HB := Aside0.mk (below_drew1 HB.out)
   refine start_ (n := 5) (S := fun w' => True) (ds := []) #[false, false, false, false, false] (by kernel_rfl) rfl rfl trivial (fun hHeld => ?_)
   generalize w3.drew = w4 at BK124 HB hHeld ⊢
   refine join_ (σ := Value × Value × Value) 2 #[true, true, true, false, false] (fun s_ => [(1, s_.1), (2, s_.2.1), (3, s_.2.2)]) (fun s_ w' => (Kd.R k34 34 w' w.heap.size (fun _ => True) s_.1 y125) ∧ (Kd.R (Kd.int .i64) 3 w' w.heap.size (fun k_ => some k_ ≠ (s_.2.2 : Value).ownBlock) s_.2.1 y128) ∧ (Kd.R (Kd.int .i64) 3 w' w.heap.size (fun k_ => some k_ ≠ (s_.2.1 : Value).ownBlock) s_.2.2 y131) ∧ (w'.heap[gb124]? = some (.cells #[.int .i64 0, .slice none 0 0, .slice none 0 0, .slice none 0 0] 25 (0, 0))) ∧ (Below w.heap.size w w')) ?_ ?_
   rotate_left
   ·intro hJ0_1_2
    refine join_ (σ := Value × Value) 3 #[true, true, false, false, false] (fun s_ => [(1, s_.1), (2, s_.2)]) (fun s_ w' => (Kd.R k34 34 w' w.heap.size (fun _ => True) s_.1 y125) ∧ (Kd.R (Kd.int .i64) 3 w' w.heap.size (fun _ => True) s_.2 y128) ∧ (w'.heap[gb124]? = some (.cells #[.int .i64 0, .slice none 0 0, .slice none 0 0, .slice none 0 0] 25 (0, 0))) ∧ (Below w.heap.size w w')) ?_ ?_
    rotate_left
    ·intro hJ0_1
     refine join_ (σ := Value × Value) 3 #[true, false, true, false, false] (fun s_ => [(1, s_.1), (3, s_.2)]) (fun s_ w' => (Kd.R k34 34 w' w.heap.size (fun _ => True) s_.1 y125) ∧ (Kd.R (Kd.int .i64) 3 w' w.heap.size (fun _ => True) s_.2 y131) ∧ (w'.heap[gb124]? = some (.cells #[.int .i64 0, .slice none 0 0, .slice none 0 0, .slice none 0 0] 25 (0, 0))) ∧ (Below w.heap.size w w')) ?_ ?_
     rotate_left
     ·intro hJ0_2
      refine join_ (σ := Value × Value) 3 #[false, true, true, false, false] (fun s_ => [(2, s_.1), (3, s_.2)]) (fun s_ w' => (Kd.R (Kd.int .i64) 3 w' w.heap.size (fun k_ => some k_ ≠ (s_.2 : Value).ownBlock) s_.1 y128) ∧ (Kd.R (Kd.int .i64) 3 w' w.heap.size (fun k_ => some k_ ≠ (s_.1 : Value).ownBlock) s_.2 y131) ∧ (w'.heap[gb124]? = some (.cells #[.int .i64 0, .slice none 0 0, .slice none 0 0, .slice none 0 0] 25 (0, 0))) ∧ (Below w.heap.size w w')) ?_ ?_
      rotate_left
      ·intro hJ1_2
       refine join_ (σ := Value) 4 #[true, false, false, false, false] (fun s_ => [(1, s_)]) (fun s_ w' => (Kd.R k34 34 w' w.heap.size (fun _ => True) s_ y125) ∧ (w'.heap[gb124]? = some (.cells #[.int .i64 0, .slice none 0 0, .slice none 0 0, .slice none 0 0] 25 (0, 0))) ∧ (Below w.heap.size w w')) ?_ ?_
       rotate_left
       ·intro hJ0
        refine join_ (σ := Value) 4 #[false, true, false, false, false] (fun s_ => [(2, s_)]) (fun s_ w' => (Kd.R (Kd.int .i64) 3 w' w.heap.size (fun _ => True) s_ y128) ∧ (w'.heap[gb124]? = some (.cells #[.int .i64 0, .slice none 0 0, .slice none 0 0, .slice none 0 0] 25 (0, 0))) ∧ (Below w.heap.size w w')) ?_ ?_
        rotate_left
        ·intro hJ1
         refine join_ (σ := Value) 4 #[false, false, true, false, false] (fun s_ => [(3, s_)]) (fun s_ w' => (Kd.R (Kd.int .i64) 3 w' w.heap.size (fun _ => True) s_ y131) ∧ (w'.heap[gb124]? = some (.cells #[.int .i64 0, .slice none 0 0, .slice none 0 0, .slice none 0 0] 25 (0, 0))) ∧ (Below w.heap.size w w')) ?_ ?_
         rotate_left
         ·intro hJ2
          refine three_ (i := 0) (j := 1) (k := 2) (Ni := some 1) (Nj := some 2) (Nk := some 3) #[true, false, false, false, false] #[false, true, false, false, false] #[false, false, true, false, false] rfl rfl rfl rfl rfl rfl (by kernel_rfl) (by decide) (by decide) (by decide) (fun K hK => ?_) (fun K hK => ?_) (fun K hK => ?_)
          ·skip
           refine Kd.R_make_step k34 _ 34 (by rfl) (N := 1) rfl 22 _ _ rfl 16 rfl rfl Try.underlying22 (.agg #[(.int .i64 0), (.int .i64 0)]) 16 info34 rfl (by decide) (by omega) z34 (ok := fun _ => True) (okp := fun _ => True) (k34_mkM _ _ _ z34 ) (fun _ hk => hk) trivial (by omega) (by omega) (Below.refl _ _) (Nat.le_refl _) ?_
           intro v126 w5 ho6 hb hg_ hnew_
           clear hg_ hnew_
           (first | rw [← Ny125.out] at ho6 | (simp only [Int.reduceToNat] at ho6; rw [← Ny125.out] at ho6))
           have HO127 := Aside0.mk (Kd.R_lower ho6 (below_size (hbx HB)))
           replace BK124 := bkB BK124 hb
           replace HB := hbS HB hb
           clear hb ho6
           refine hK.out _ _ trivial (fun hHeld => ?_)
           clear hK K
           refine nrm (some 1) ?_
           exact npu (hJ0 (v126) _ ⟨(ro HO127), (bk BK124), (hbx HB)⟩)
          ·skip
           refine Kd.R_make_step (Kd.int .i64) _ 3 (by rfl) (N := 2) rfl 23 _ _ rfl 16 rfl rfl Try.underlying23 (.int .i64 0) 8 info3 rfl (by decide) (by omega) 0 (ok := fun _ => True) (okp := fun _ => True) rfl (fun _ hk => hk) trivial (by omega) (by omega) (Below.refl _ _) (Nat.le_refl _) ?_
           intro v129 w5 ho6 hb hg_ hnew_
           clear hg_ hnew_
           (first | rw [← Ny128.out] at ho6 | (simp only [Int.reduceToNat] at ho6; rw [← Ny128.out] at ho6))
           have HO130 := Aside0.mk (Kd.R_lower ho6 (below_size (hbx HB)))
           replace BK124 := bkB BK124 hb
           replace HB := hbS HB hb
           clear hb ho6
           refine hK.out _ _ trivial (fun hHeld => ?_)
           clear hK K
           refine nrm (some 2) ?_
           exact npu (hJ1 (v129) _ ⟨(ro HO130), (bk BK124), (hbx HB)⟩)
          ·skip
           refine Kd.R_make_step (Kd.int .i64) _ 3 (by rfl) (N := 3) rfl 23 _ _ rfl 16 rfl rfl Try.underlying23 (.int .i64 0) 8 info3 rfl (by decide) (by omega) 0 (ok := fun _ => True) (okp := fun _ => True) rfl (fun _ hk => hk) trivial (by omega) (by omega) (Below.refl _ _) (Nat.le_refl _) ?_
           intro v132 w5 ho6 hb hg_ hnew_
           clear hg_ hnew_
           (first | rw [← Ny131.out] at ho6 | (simp only [Int.reduceToNat] at ho6; rw [← Ny131.out] at ho6))
           have HO133 := Aside0.mk (Kd.R_lower ho6 (below_size (hbx HB)))
           replace BK124 := bkB BK124 hb
           replace HB := hbS HB hb
           clear hb ho6
           refine hK.out _ _ trivial (fun hHeld => ?_)
           clear hK K
           refine nrm (some 3) ?_
           exact npu (hJ2 (v132) _ ⟨(ro HO133), (bk BK124), (hbx HB)⟩)
         ·skip
          rintro v132 w7 ⟨h0_, h1_, h2_⟩
          have n0_ : Aside0 (Kd.R (Kd.int .i64) 3 w7 w.heap.size (fun _ => True) v132 y131) := ⟨h0_⟩
          have n1_ : Aside0 (w7.heap[gb124]? = some (.cells #[.int .i64 0, .slice none 0 0, .slice none 0 0, .slice none 0 0] 25 (0, 0))) := ⟨h1_⟩
          have n2_ : Aside0 (Below w.heap.size w w7) := ⟨h2_⟩
          clear BK124
          clear HB
          clear h0_ h1_ h2_
          have HO133 := n0_
          have BK124 := n1_
          have HB := n2_
          clear n0_ n1_ n2_
          have hHeld := trivial
          refine norm_ (a' := ?_) ?_ ?_
          rotate_left
          ·simp only [putAll, Act.put, List.setIfInBounds_toArray, List.set_cons_zero, List.set_cons_succ]
           rfl
          refine two_ (i := 0) (j := 1) (Ni := some 1) (Nj := some 2) #[true, false, true, false, false] #[false, true, true, false, false] rfl rfl rfl rfl (by kernel_rfl) (by decide) (by decide) (fun K hK => ?_) (fun K hK => ?_)
          ·skip
           refine Kd.R_make_step k34 _ 34 (by rfl) (N := 1) rfl 22 _ _ rfl 16 rfl rfl Try.underlying22 (.agg #[(.int .i64 0), (.int .i64 0)]) 16 info34 rfl (by decide) (by omega) z34 (ok := fun _ => True) (okp := fun _ => True) (k34_mkM _ _ _ z34 ) (fun _ hk => hk) trivial (by omega) (by omega) (Below.refl _ _) (Nat.le_refl _) ?_
           intro v126 w8 ho9 hb hg_ hnew_
           clear hg_ hnew_
           (first | rw [← Ny125.out] at ho9 | (simp only [Int.reduceToNat] at ho9; rw [← Ny125.out] at ho9))
           replace HO133 := rB HO133 hb
           have HO127 := Aside0.mk (Kd.R_lower ho9 (below_size (hbx HB)))
           replace BK124 := bkB BK124 hb
           replace HB := hbS HB hb
           clear hb ho9
           refine hK.out _ _ trivial (fun hHeld => ?_)
           clear hK K
           refine nrm (some 1) ?_
           exact npu (hJ0_2 (v126, v132) _ ⟨(ro HO127), (ro HO133), (bk BK124), (hbx HB)⟩)
          ·skip
           refine Kd.R_make_step (Kd.int .i64) _ 3 (by rfl) (N := 2) rfl 23 _ _ rfl 16 rfl rfl Try.underlying23 (.int .i64 0) 8 info3 rfl (by decide) (by omega) 0 (ok := fun _ => True) (okp := fun _ => True) rfl (fun _ hk => hk) trivial (by omega) (by omega) (Below.refl _ _) (Nat.le_refl _) ?_
           intro v129 w8 ho9 hb hg_ hnew_
           clear hg_ hnew_
           (first | rw [← Ny128.out] at ho9 | (simp only [Int.reduceToNat] at ho9; rw [← Ny128.out] at ho9))
           have HO130 := Aside0.mk (Kd.R_lower (Kd.R_new' ho9 (Kd.R_lt (ro HO133))) (below_size (hbx HB)))
           replace HO133 := Aside0.mk (Kd.R_elder' (ro HO133) (Kd.R_base ho9) hb)
           replace BK124 := bkB BK124 hb
           replace HB := hbS HB hb
           clear hb ho9
           refine hK.out _ _ trivial (fun hHeld => ?_)
           clear hK K
           refine nrm (some 2) ?_
           exact npu (hJ1_2 (v129, v132) _ ⟨(by (with_reducible repeat (first | apply Kd.R_alloc | apply Kd.R_drewN | apply Kd.R_drew)); exact Kd.R_mono HO130.out (fun _ hk => hk.2)), (by (with_reducible repeat (first | apply Kd.R_alloc | apply Kd.R_drewN | apply Kd.R_drew)); exact Kd.R_mono HO133.out (fun _ hk => hk.2)), (bk BK124), (hbx HB)⟩)
        ·skip
         rintro v129 w7 ⟨h0_, h1_, h2_⟩
         have n0_ : Aside0 (Kd.R (Kd.int .i64) 3 w7 w.heap.size (fun _ => True) v129 y128) := ⟨h0_⟩
         have n1_ : Aside0 (w7.heap[gb124]? = some (.cells #[.int .i64 0, .slice none 0 0, .slice none 0 0, .slice none 0 0] 25 (0, 0))) := ⟨h1_⟩
         have n2_ : Aside0 (Below w.heap.size w w7) := ⟨h2_⟩
         clear BK124
         clear HB
         clear h0_ h1_ h2_
         have HO130 := n0_
         have BK124 := n1_
         have HB := n2_
         clear n0_ n1_ n2_
         have hHeld := trivial
         refine norm_ (a' := ?_) ?_ ?_
         rotate_left
         ·simp only [putAll, Act.put, List.setIfInBounds_toArray, List.set_cons_zero, List.set_cons_succ]
          rfl
         refine two_ (i := 0) (j := 2) (Ni := some 1) (Nj := some 3) #[true, true, false, false, false] #[false, true, true, false, false] rfl rfl rfl rfl (by kernel_rfl) (by decide) (by decide) (fun K hK => ?_) (fun K hK => ?_)
         ·skip
          refine Kd.R_make_step k34 _ 34 (by rfl) (N := 1) rfl 22 _ _ rfl 16 rfl rfl Try.underlying22 (.agg #[(.int .i64 0), (.int .i64 0)]) 16 info34 rfl (by decide) (by omega) z34 (ok := fun _ => True) (okp := fun _ => True) (k34_mkM _ _ _ z34 ) (fun _ hk => hk) trivial (by omega) (by omega) (Below.refl _ _) (Nat.le_refl _) ?_
          intro v126 w8 ho9 hb hg_ hnew_
          clear hg_ hnew_
          (first | rw [← Ny125.out] at ho9 | (simp only [Int.reduceToNat] at ho9; rw [← Ny125.out] at ho9))
          replace HO130 := rB HO130 hb
          have HO127 := Aside0.mk (Kd.R_lower ho9 (below_size (hbx HB)))
          replace BK124 := bkB BK124 hb
          replace HB := hbS HB hb
          clear hb ho9
          refine hK.out _ _ trivial (fun hHeld => ?_)
          clear hK K
          refine nrm (some 1) ?_
          exact npu (hJ0_1 (v126, v129) _ ⟨(ro HO127), (ro HO130), (bk BK124), (hbx HB)⟩)
         ·skip
          refine Kd.R_make_step (Kd.int .i64) _ 3 (by rfl) (N := 3) rfl 23 _ _ rfl 16 rfl rfl Try.underlying23 (.int .i64 0) 8 info3 rfl (by decide) (by omega) 0 (ok := fun _ => True) (okp := fun _ => True) rfl (fun _ hk => hk) trivial (by omega) (by omega) (Below.refl _ _) (Nat.le_refl _) ?_
          intro v132 w8 ho9 hb hg_ hnew_
          clear hg_ hnew_
          (first | rw [← Ny131.out] at ho9 | (simp only [Int.reduceToNat] at ho9; rw [← Ny131.out] at ho9))
          have HO133 := Aside0.mk (Kd.R_lower (Kd.R_new' ho9 (Kd.R_lt (ro HO130))) (below_size (hbx HB)))
          replace HO130 := Aside0.mk (Kd.R_elder' (ro HO130) (Kd.R_base ho9) hb)
          replace BK124 := bkB BK124 hb
          replace HB := hbS HB hb
          clear hb ho9
          refine hK.out _ _ trivial (fun hHeld => ?_)
          clear hK K
          refine nrm (some 3) ?_
          exact npu (hJ1_2 (v129, v132) _ ⟨(by (with_reducible repeat (first | apply Kd.R_alloc | apply Kd.R_drewN | apply Kd.R_drew)); exact Kd.R_mono HO130.out (fun _ hk => hk.2)), (by (with_reducible repeat (first | apply Kd.R_alloc | apply Kd.R_drewN | apply Kd.R_drew)); exact Kd.R_mono HO133.out (fun _ hk => hk.2)), (bk BK124), (hbx HB)⟩)
       ·skip
        rintro v126 w7 ⟨h0_, h1_, h2_⟩
        have n0_ : Aside0 (Kd.R k34 34 w7 w.heap.size (fun _ => True) v126 y125) := ⟨h0_⟩
        have n1_ : Aside0 (w7.heap[gb124]? = some (.cells #[.int .i64 0, .slice none 0 0, .slice none 0 0, .slice none 0 0] 25 (0, 0))) := ⟨h1_⟩
        have n2_ : Aside0 (Below w.heap.size w w7) := ⟨h2_⟩
        clear BK124
        clear HB
        clear h0_ h1_ h2_
        have HO127 := n0_
        have BK124 := n1_
        have HB := n2_
        clear n0_ n1_ n2_
        have hHeld := trivial
        refine norm_ (a' := ?_) ?_ ?_
        rotate_left
        ·simp only [putAll, Act.put, List.setIfInBounds_toArray, List.set_cons_zero, List.set_cons_succ]
         rfl
        refine two_ (i := 1) (j := 2) (Ni := some 2) (Nj := some 3) #[true, true, false, false, false] #[true, false, true, false, false] rfl rfl rfl rfl (by kernel_rfl) (by decide) (by decide) (fun K hK => ?_) (fun K hK => ?_)
        ·skip
         refine Kd.R_make_step (Kd.int .i64) _ 3 (by rfl) (N := 2) rfl 23 _ _ rfl 16 rfl rfl Try.underlying23 (.int .i64 0) 8 info3 rfl (by decide) (by omega) 0 (ok := fun _ => True) (okp := fun _ => True) rfl (fun _ hk => hk) trivial (by omega) (by omega) (Below.refl _ _) (Nat.le_refl _) ?_
         intro v129 w8 ho9 hb hg_ hnew_
         clear hg_ hnew_
         (first | rw [← Ny128.out] at ho9 | (simp only [Int.reduceToNat] at ho9; rw [← Ny128.out] at ho9))
         replace HO127 := rB HO127 hb
         have HO130 := Aside0.mk (Kd.R_lower ho9 (below_size (hbx HB)))
         replace BK124 := bkB BK124 hb
         replace HB := hbS HB hb
         clear hb ho9
         refine hK.out _ _ trivial (fun hHeld => ?_)
         clear hK K
         refine nrm (some 2) ?_
         exact npu (hJ0_1 (v126, v129) _ ⟨(ro HO127), (ro HO130), (bk BK124), (hbx HB)⟩)
        ·skip
         refine Kd.R_make_step (Kd.int .i64) _ 3 (by rfl) (N := 3) rfl 23 _ _ rfl 16 rfl rfl Try.underlying23 (.int .i64 0) 8 info3 rfl (by decide) (by omega) 0 (ok := fun _ => True) (okp := fun _ => True) rfl (fun _ hk => hk) trivial (by omega) (by omega) (Below.refl _ _) (Nat.le_refl _) ?_
         intro v132 w8 ho9 hb hg_ hnew_
         clear hg_ hnew_
         (first | rw [← Ny131.out] at ho9 | (simp only [Int.reduceToNat] at ho9; rw [← Ny131.out] at ho9))
         replace HO127 := rB HO127 hb
         have HO133 := Aside0.mk (Kd.R_lower ho9 (below_size (hbx HB)))
         replace BK124 := bkB BK124 hb
         replace HB := hbS HB hb
         clear hb ho9
         refine hK.out _ _ trivial (fun hHeld => ?_)
         clear hK K
         refine nrm (some 3) ?_
         exact npu (hJ0_2 (v126, v132) _ ⟨(ro HO127), (ro HO133), (bk BK124), (hbx HB)⟩)
      ·skip
       rintro ⟨v129, v132⟩ w9 ⟨h0_, h1_, h2_, h3_⟩
       have n0_ : Aside0 (Kd.R (Kd.int .i64) 3 w9 w.heap.size (fun k_ => some k_ ≠ (v132 : Value).ownBlock) v129 y128) := ⟨h0_⟩
       have n1_ : Aside0 (Kd.R (Kd.int .i64) 3 w9 w.heap.size (fun k_ => some k_ ≠ (v129 : Value).ownBlock) v132 y131) := ⟨h1_⟩
       have n2_ : Aside0 (w9.heap[gb124]? = some (.cells #[.int .i64 0, .slice none 0 0, .slice none 0 0, .slice none 0 0] 25 (0, 0))) := ⟨h2_⟩
       have n3_ : Aside0 (Below w.heap.size w w9) := ⟨h3_⟩
       clear BK124
       clear HB
       clear h0_ h1_ h2_ h3_
       have HO130 := n0_
       have HO133 := n1_
       have BK124 := n2_
       have HB := n3_
       clear n0_ n1_ n2_ n3_
       have hHeld := trivial
       refine norm_ (a' := ?_) ?_ ?_
       rotate_left
       ·simp only [putAll, Act.put, List.setIfInBounds_toArray, List.set_cons_zero, List.set_cons_succ]
        rfl
       refine one_ (i := 0) (N := some 1) #[true, true, true, false, false] rfl rfl (by kernel_rfl) (by decide) (fun K hK => ?_)
       refine Kd.R_make_step k34 _ 34 (by rfl) (N := 1) rfl 22 _ _ rfl 16 rfl rfl Try.underlying22 (.agg #[(.int .i64 0), (.int .i64 0)]) 16 info34 rfl (by decide) (by omega) z34 (ok := fun _ => True) (okp := fun _ => True) (k34_mkM _ _ _ z34 ) (fun _ hk => hk) trivial (by omega) (by omega) (Below.refl _ _) (Nat.le_refl _) ?_
       intro v126 w10 ho11 hb hg_ hnew_
       clear hg_ hnew_
       (first | rw [← Ny125.out] at ho11 | (simp only [Int.reduceToNat] at ho11; rw [← Ny125.out] at ho11))
       replace HO130 := rB HO130 hb
       replace HO133 := rB HO133 hb
       have HO127 := Aside0.mk (Kd.R_lower ho11 (below_size (hbx HB)))
       replace BK124 := bkB BK124 hb
       replace HB := hbS HB hb
       clear hb ho11
       obtain ⟨Ao12, co12, eo12⟩ := Kd.R_slice HO133.out
       (first | subst eo12 | (injection eo12 with f1_ f2_ f3_; have f4_ := f1_.symm; have f5_ := f3_.symm; clear f1_ f2_ f3_; subst f4_; subst f5_))
       obtain ⟨Ao13, co13, eo13⟩ := Kd.R_slice HO130.out
       (first | subst eo13 | (injection eo13 with f1_ f2_ f3_; have f4_ := f1_.symm; have f5_ := f3_.symm; clear f1_ f2_ f3_; subst f4_; subst f5_))
       obtain ⟨Ao14, co14, eo14⟩ := Kd.R_slice HO127.out
       (first | subst eo14 | (injection eo14 with f1_ f2_ f3_; have f4_ := f1_.symm; have f5_ := f3_.symm; clear f1_ f2_ f3_; subst f4_; subst f5_))
       refine hK.out _ _ trivial (fun hHeld => ?_)
       clear hK K
       refine nrm (some 1) ?_
       exact npu (hJ0_1_2 (.slice Ao14 y125.length co14, .slice Ao13 y128.length co13, .slice Ao12 y131.length co12) _ ⟨(ro HO127), (ro HO130), (ro HO133), (bk BK124), (hbx HB)⟩)
     ·skip
      rintro ⟨v126, v132⟩ w9 ⟨h0_, h1_, h2_, h3_⟩
      have n0_ : Aside0 (Kd.R k34 34 w9 w.heap.size (fun _ => True) v126 y125) := ⟨h0_⟩
      have n1_ : Aside0 (Kd.R (Kd.int .i64) 3 w9 w.heap.size (fun _ => True) v132 y131) := ⟨h1_⟩
      have n2_ : Aside0 (w9.heap[gb124]? = some (.cells #[.int .i64 0, .slice none 0 0, .slice none 0 0, .slice none 0 0] 25 (0, 0))) := ⟨h2_⟩
      have n3_ : Aside0 (Below w.heap.size w w9) := ⟨h3_⟩
      clear BK124
      clear HB
      clear h0_ h1_ h2_ h3_
      have HO127 := n0_
      have HO133 := n1_
      have BK124 := n2_
      have HB := n3_
      clear n0_ n1_ n2_ n3_
      have hHeld := trivial
      refine norm_ (a' := ?_) ?_ ?_
      rotate_left
      ·simp only [putAll, Act.put, List.setIfInBounds_toArray, List.set_cons_zero, List.set_cons_succ]
       rfl
      refine one_ (i := 1) (N := some 2) #[true, true, true, false, false] rfl rfl (by kernel_rfl) (by decide) (fun K hK => ?_)
      refine Kd.R_make_step (Kd.int .i64) _ 3 (by rfl) (N := 2) rfl 23 _ _ rfl 16 rfl rfl Try.underlying23 (.int .i64 0) 8 info3 rfl (by decide) (by omega) 0 (ok := fun _ => True) (okp := fun _ => True) rfl (fun _ hk => hk) trivial (by omega) (by omega) (Below.refl _ _) (Nat.le_refl _) ?_
      intro v129 w10 ho11 hb hg_ hnew_
      clear hg_ hnew_
      (first | rw [← Ny128.out] at ho11 | (simp only [Int.reduceToNat] at ho11; rw [← Ny128.out] at ho11))
      replace HO127 := rB HO127 hb
      have HO130 := Aside0.mk (Kd.R_lower (Kd.R_new' ho11 (Kd.R_lt (ro HO133))) (below_size (hbx HB)))
      replace HO133 := Aside0.mk (Kd.R_elder' (ro HO133) (Kd.R_base ho11) hb)
      replace BK124 := bkB BK124 hb
      replace HB := hbS HB hb
      clear hb ho11
      obtain ⟨Ao12, co12, eo12⟩ := Kd.R_slice HO133.out
      (first | subst eo12 | (injection eo12 with f1_ f2_ f3_; have f4_ := f1_.symm; have f5_ := f3_.symm; clear f1_ f2_ f3_; subst f4_; subst f5_))
      obtain ⟨Ao13, co13, eo13⟩ := Kd.R_slice HO130.out
      (first | subst eo13 | (injection eo13 with f1_ f2_ f3_; have f4_ := f1_.symm; have f5_ := f3_.symm; clear f1_ f2_ f3_; subst f4_; subst f5_))
      obtain ⟨Ao14, co14, eo14⟩ := Kd.R_slice HO127.out
      (first | subst eo14 | (injection eo14 with f1_ f2_ f3_; have f4_ := f1_.symm; have f5_ := f3_.symm; clear f1_ f2_ f3_; subst f4_; subst f5_))
      refine hK.out _ _ trivial (fun hHeld => ?_)
      clear hK K
      refine nrm (some 2) ?_
      exact npu (hJ0_1_2 (.slice Ao14 y125.length co14, .slice Ao13 y128.length co13, .slice Ao12 y131.length co12) _ ⟨(ro HO127), (by (with_reducible repeat (first | apply Kd.R_alloc | apply Kd.R_drewN | apply Kd.R_drew)); exact Kd.R_mono HO130.out (fun _ hk => hk.2)), (by (with_reducible repeat (first | apply Kd.R_alloc | apply Kd.R_drewN | apply Kd.R_drew)); exact Kd.R_mono HO133.out (fun _ hk => hk.2)), (bk BK124), (hbx HB)⟩)
    ·skip
     rintro ⟨v126, v129⟩ w9 ⟨h0_, h1_, h2_, h3_⟩
     have n0_ : Aside0 (Kd.R k34 34 w9 w.heap.size (fun _ => True) v126 y125) := ⟨h0_⟩
     have n1_ : Aside0 (Kd.R (Kd.int .i64) 3 w9 w.heap.size (fun _ => True) v129 y128) := ⟨h1_⟩
     have n2_ : Aside0 (w9.heap[gb124]? = some (.cells #[.int .i64 0, .slice none 0 0, .slice none 0 0, .slice none 0 0] 25 (0, 0))) := ⟨h2_⟩
     have n3_ : Aside0 (Below w.heap.size w w9) := ⟨h3_⟩
     clear BK124
     clear HB
     clear h0_ h1_ h2_ h3_
     have HO127 := n0_
     have HO130 := n1_
     have BK124 := n2_
     have HB := n3_
     clear n0_ n1_ n2_ n3_
     have hHeld := trivial
     refine norm_ (a' := ?_) ?_ ?_
     rotate_left
     ·simp only [putAll, Act.put, List.setIfInBounds_toArray, List.set_cons_zero, List.set_cons_succ]
      rfl
     refine one_ (i := 2) (N := some 3) #[true, true, true, false, false] rfl rfl (by kernel_rfl) (by decide) (fun K hK => ?_)
     refine Kd.R_make_step (Kd.int .i64) _ 3 (by rfl) (N := 3) rfl 23 _ _ rfl 16 rfl rfl Try.underlying23 (.int .i64 0) 8 info3 rfl (by decide) (by omega) 0 (ok := fun _ => True) (okp := fun _ => True) rfl (fun _ hk => hk) trivial (by omega) (by omega) (Below.refl _ _) (Nat.le_refl _) ?_
     intro v132 w10 ho11 hb hg_ hnew_
     clear hg_ hnew_
     (first | rw [← Ny131.out] at ho11 | (simp only [Int.reduceToNat] at ho11; rw [← Ny131.out] at ho11))
     replace HO127 := rB HO127 hb
     have HO133 := Aside0.mk (Kd.R_lower (Kd.R_new' ho11 (Kd.R_lt (ro HO130))) (below_size (hbx HB)))
     replace HO130 := Aside0.mk (Kd.R_elder' (ro HO130) (Kd.R_base ho11) hb)
     replace BK124 := bkB BK124 hb
     replace HB := hbS HB hb
     clear hb ho11
     obtain ⟨Ao12, co12, eo12⟩ := Kd.R_slice HO133.out
     (first | subst eo12 | (injection eo12 with f1_ f2_ f3_; have f4_ := f1_.symm; have f5_ := f3_.symm; clear f1_ f2_ f3_; subst f4_; subst f5_))
     obtain ⟨Ao13, co13, eo13⟩ := Kd.R_slice HO130.out
     (first | subst eo13 | (injection eo13 with f1_ f2_ f3_; have f4_ := f1_.symm; have f5_ := f3_.symm; clear f1_ f2_ f3_; subst f4_; subst f5_))
     obtain ⟨Ao14, co14, eo14⟩ := Kd.R_slice HO127.out
     (first | subst eo14 | (injection eo14 with f1_ f2_ f3_; have f4_ := f1_.symm; have f5_ := f3_.symm; clear f1_ f2_ f3_; subst f4_; subst f5_))
     refine hK.out _ _ trivial (fun hHeld => ?_)
     clear hK K
     refine nrm (some 3) ?_
     exact npu (hJ0_1_2 (.slice Ao14 y125.length co14, .slice Ao13 y128.length co13, .slice Ao12 y131.length co12) _ ⟨(ro HO127), (by (with_reducible repeat (first | apply Kd.R_alloc | apply Kd.R_drewN | apply Kd.R_drew)); exact Kd.R_mono HO130.out (fun _ hk => hk.2)), (by (with_reducible repeat (first | apply Kd.R_alloc | apply Kd.R_drewN | apply Kd.R_drew)); exact Kd.R_mono HO133.out (fun _ hk => hk.2)), (bk BK124), (hbx HB)⟩)
   rintro ⟨v126, v129, v132⟩ w14 ⟨h0_, h1_, h2_, h3_, h4_⟩
   have n0_ : Aside0 (Kd.R k34 34 w14 w.heap.size (fun _ => True) v126 y125) := ⟨h0_⟩
   have n1_ : Aside0 (Kd.R (Kd.int .i64) 3 w14 w.heap.size (fun k_ => some k_ ≠ (v132 : Value).ownBlock) v129 y128) := ⟨h1_⟩
   have n2_ : Aside0 (Kd.R (Kd.int .i64) 3 w14 w.heap.size (fun k_ => some k_ ≠ (v129 : Value).ownBlock) v132 y131) := ⟨h2_⟩
   have n3_ : Aside0 (w14.heap[gb124]? = some (.cells #[.int .i64 0, .slice none 0 0, .slice none 0 0, .slice none 0 0] 25 (0, 0))) := ⟨h3_⟩
   have n4_ : Aside0 (Below w.heap.size w w14) := ⟨h4_⟩
   clear BK124
   clear HB
   clear h0_ h1_ h2_ h3_ h4_
   have HO127 := n0_
   have HO130 := n1_
   have HO133 := n2_
   have BK124 := n3_
   have HB := n4_
   clear n0_ n1_ n2_ n3_ n4_
   have hHeld := trivial
   obtain ⟨Ao15, co15, eo15⟩ := Kd.R_slice HO133.out
   (first | subst eo15 | (injection eo15 with f1_ f2_ f3_; have f4_ := f1_.symm; have f5_ := f3_.symm; clear f1_ f2_ f3_; subst f4_; subst f5_))
   obtain ⟨Ao16, co16, eo16⟩ := Kd.R_slice HO130.out
   (first | subst eo16 | (injection eo16 with f1_ f2_ f3_; have f4_ := f1_.symm; have f5_ := f3_.symm; clear f1_ f2_ f3_; subst f4_; subst f5_))
   obtain ⟨Ao17, co17, eo17⟩ := Kd.R_slice HO127.out
   (first | subst eo17 | (injection eo17 with f1_ f2_ f3_; have f4_ := f1_.symm; have f5_ := f3_.symm; clear f1_ f2_ f3_; subst f4_; subst f5_))
   refine norm_ (a' := ?_) ?_ ?_
   rotate_left
   ·simp only [putAll, Act.put, List.setIfInBounds_toArray, List.set_cons_zero, List.set_cons_succ]
    rfl
   refine pure_ (i := 3) (N := some 4) (v := ?_) (a' := ?_) #[true, true, true, true, false] rfl rfl (by kernel_rfl) (fun _ _ _ h => h) (Or.inl ⟨by rfl, ?_⟩) ?_ ?_
   rotate_left
   ·intro w'
    go_simp
    with_reducible rfl
   rotate_left
   ·simp only [Act.put, List.setIfInBounds_toArray, List.set_cons_zero, List.set_cons_succ, i64_w, i32_w]
    rfl
   refine one_ (i := 4) (N := none) #[true, true, true, true, true] rfl rfl (by kernel_rfl) (by decide) (fun K hK => ?_)
   have hs18 : w14.cell? ⟨gb124, 0, none⟩ = some (.int .i64 0) := (blk_cell BK124.out 0).trans rfl
   have hfs18 := blk_frozen BK124.out 0
   have hs19 : w14.cell? ⟨gb124, 1, none⟩ = some (.slice none 0 0) := (blk_cell BK124.out 1).trans rfl
   have hfs19 := blk_frozen BK124.out 1
   have hs20 : w14.cell? ⟨gb124, 2, none⟩ = some (.slice none 0 0) := (blk_cell BK124.out 2).trans rfl
   have hfs20 := blk_frozen BK124.out 2
   have hs21 : w14.cell? ⟨gb124, 3, none⟩ = some (.slice none 0 0) := (blk_cell BK124.out 3).trans rfl
   have hfs21 := blk_frozen BK124.out 3
   refine skip_ (w1 := ?_) (by rfl) rfl ?_ ?_
   rotate_left
   ·go_simp
    rfl
   refine hK.out _ _ trivial (fun hHeld => ?_)
   clear hK K
   refine done_ (by kernel_rfl) ?_
   try go_wp2
   refine bodyPost_ret (results_cell_row rfl _ _ gb124 25 #[.int .i64 0, .slice Ao17 y125.length co17, .slice Ao16 y128.length co16, .slice Ao15 y131.length co15] (0, 0) _ rfl (bkp BK124) Try.underlying25 rfl (by kernel_rfl)) rfl ?_
   exact ⟨_, _, _, rerr, Kd.R_mono (rty (rfo HO127) BK124) (fun _ hk => trivial), rfo HO130, rfo HO133, hbx HB⟩
  ·rw [if_neg c2] at H
   exact absurd H (by simp)
 ·rw [if_neg c1] at H
  exact absurd H (by simp)
end Go.Proofs.Ytnipgplobipeeaa.PQ
