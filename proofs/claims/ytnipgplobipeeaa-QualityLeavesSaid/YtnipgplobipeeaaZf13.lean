-- Printed by fprint.py and zip.py, programs of this session's, over the kit's print; Lean checks it.
import Derived.Test.YtnipgplobipeeaaZ0
namespace Go.Proofs.Ytnipgplobipeeaa.PQ
open Go.RowKit Go.Proofs.YtnipgplobipeeaaW.PrintWords Go.Proofs.YtnipgplobipeeaaW.PrintLast Go.Proofs.YtnipgplobipeeaaW.PrintMore
attribute [local go_sem] max2_int min2_int max_two min_two max_three min_three max_four min_four   -- for this text's walks alone
set_option linter.unusedVariables false
set_option linter.unusedSimpArgs false
def hopmeshref12_Copy.f (a0_0 : Int) (l0_1 : List (S34)) (l0_2 : List Int) (l0_3 : List Int) : Option (Int × (List (S34)) × List Int × List Int) := (some (([] : List (S34)) : List (S34))).bind fun y251 => (if y251.length + l0_1.length < 8796093022208 then ((some (([] : List Int) : List Int)).bind fun y257 => (if y257.length + l0_2.length < 17592186044416 then ((some (([] : List Int) : List Int)).bind fun y263 => (if y263.length + l0_3.length < 17592186044416 then (some (a0_0, (y251 ++ l0_1), (y257 ++ l0_2), (y263 ++ l0_3))) else (none))) else (none))) else (none))
def hopmeshref12_Copy.T1 : Bool × List (List Nat × List Nat) := (true, [([], []), ([0], [0]), ([], []), ([], []), ([3], [3]), ([2, 4], [2, 4]), ([], []), ([], []), ([7], [7]), ([6, 8, 5], [6, 8]), ([], []), ([], []), ([11], [11]), ([10, 12, 9], [10, 12]), ([1, 5, 9, 13], [1, 5, 9, 13]), ([14, 13, 0, 1, 2, 3, 4, 5, 6, 7, 8, 9, 10, 11, 12, 13, 14], [14])])
def hopmeshref12_Copy.B1 : List Nat := [0, 1, 0, 0, 8, 28, 0, 0, 128, 508, 0, 0, 2048, 8188, 16383, 32767]
theorem hopmeshref12_Copy.tab1 : rtab .any (opsOf Try.f13 1) = hopmeshref12_Copy.T1 := by kernel_rfl
theorem hopmeshref12_Copy.bits1 : waitsOk hopmeshref12_Copy.T1.2 hopmeshref12_Copy.B1 = true := by kernel_rfl
set_option maxHeartbeats 8000000 in
set_option maxRecDepth 100000 in
theorem hopmeshref12_Copy.calls (a0_0 : Int) (A0_1 : Option Addr) (c0_1 : Nat) (l0_1 : List (S34)) (A0_2 : Option Addr) (c0_2 : Nat) (l0_2 : List Int) (A0_3 : Option Addr) (c0_3 : Nat) (l0_3 : List Int) (r1 : Int) (r2 : List (S34)) (r3 : List Int) (r4 : List Int) (w : World) (hr0_1 : Kd.C k34 w A0_1 l0_1.length l0_1) (hc0_1 : l0_1.length ≤ c0_1) (hr0_2 : Kd.C (Kd.int .i64) w A0_2 l0_2.length l0_2) (hc0_2 : l0_2.length ≤ c0_2) (hr0_3 : Kd.C (Kd.int .i64) w A0_3 l0_3.length l0_3) (hc0_3 : l0_3.length ≤ c0_3) (h : hopmeshref12_Copy.f a0_0 l0_1 l0_2 l0_3 = some (r1, r2, r3, r4)) :
 Calls Try.prog 13 #[.agg #[.int .i64 a0_0, .slice A0_1 l0_1.length c0_1, .slice A0_2 l0_2.length c0_2, .slice A0_3 l0_3.length c0_3]] w fun e w' => ∃ v1_ v2_ v3_ : Value, e = .returned (.agg #[.int .i64 r1, v1_, v2_, v3_]) ∧ Kd.R k34 34 w' w.heap.size (fun _ => True) v1_ r2 ∧ Kd.R (Kd.int .i64) 3 w' w.heap.size (fun k_ => some k_ ≠ (v3_ : Value).ownBlock) v2_ r3 ∧ Kd.R (Kd.int .i64) 3 w' w.heap.size (fun k_ => some k_ ≠ (v2_ : Value).ownBlock) v3_ r4 ∧ Below w.heap.size w w' := by
 have hu25 := Try.underlying25
 have HR0_1 := Aside0.mk hr0_1
 have HC0_1 := Aside0.mk hc0_1
 clear hr0_1 hc0_1
 have HR0_2 := Aside0.mk hr0_2
 have HC0_2 := Aside0.mk hc0_2
 clear hr0_2 hc0_2
 have HR0_3 := Aside0.mk hr0_3
 have HC0_3 := Aside0.mk hc0_3
 clear hr0_3 hc0_3
 have HB := Aside0.mk (Below.refl w.heap.size w)
 have H : ((some (([] : List (S34)) : List (S34))).bind fun y251 => (if y251.length + l0_1.length < 8796093022208 then ((some (([] : List Int) : List Int)).bind fun y257 => (if y257.length + l0_2.length < 17592186044416 then ((some (([] : List Int) : List Int)).bind fun y263 => (if y263.length + l0_3.length < 17592186044416 then (some (a0_0, (y251 ++ l0_1), (y257 ++ l0_2), (y263 ++ l0_3))) else (none))) else (none))) else (none))) = some (r1, r2, r3, r4) := h
 clear h
 obtain ⟨y251, hy251⟩ : ∃ y_ : List (S34), y_ = (([] : List (S34))) := ⟨_, rfl⟩
 replace H : (if y251.length + l0_1.length < 8796093022208 then ((some (([] : List Int) : List Int)).bind fun y257 => (if y257.length + l0_2.length < 17592186044416 then ((some (([] : List Int) : List Int)).bind fun y263 => (if y263.length + l0_3.length < 17592186044416 then (some (a0_0, (y251 ++ l0_1), (y257 ++ l0_2), (y263 ++ l0_3))) else (none))) else (none))) else (none)) = some (r1, r2, r3, r4) := by first | (rw [hy251]; with_reducible exact H) | (have H2_ := (Option.bind_some _ _).symm.trans H; rw [hy251]; with_reducible exact H2_) | (have H2_ := (Option.bind_some _ _).symm.trans H; with_reducible exact H2_) | with_reducible exact H | (rw [hy251]; exact H) | exact H
 have Ny251 := Aside0.mk hy251
 clear hy251
 by_cases c2 : y251.length + l0_1.length < 8796093022208
 ·rw [if_pos c2] at H
  have LMc2 := Aside0.mk c2
  clear c2
  obtain ⟨y254, hy254⟩ : ∃ y_ : List (S34), y_ = (y251 ++ l0_1) := ⟨_, rfl⟩
  replace H : ((some (([] : List Int) : List Int)).bind fun y257 => (if y257.length + l0_2.length < 17592186044416 then ((some (([] : List Int) : List Int)).bind fun y263 => (if y263.length + l0_3.length < 17592186044416 then (some (a0_0, y254, (y257 ++ l0_2), (y263 ++ l0_3))) else (none))) else (none))) = some (r1, r2, r3, r4) := by first | (rw [hy254]; with_reducible exact H) | (have H2_ := (Option.bind_some _ _).symm.trans H; rw [hy254]; with_reducible exact H2_) | (have H2_ := (Option.bind_some _ _).symm.trans H; with_reducible exact H2_) | with_reducible exact H | (rw [hy254]; exact H) | exact H
  have Ny254 := Aside0.mk hy254
  clear hy254
  obtain ⟨y257, hy257⟩ : ∃ y_ : List Int, y_ = (([] : List Int)) := ⟨_, rfl⟩
  replace H : (if y257.length + l0_2.length < 17592186044416 then ((some (([] : List Int) : List Int)).bind fun y263 => (if y263.length + l0_3.length < 17592186044416 then (some (a0_0, y254, (y257 ++ l0_2), (y263 ++ l0_3))) else (none))) else (none)) = some (r1, r2, r3, r4) := by first | (rw [hy257]; with_reducible exact H) | (have H2_ := (Option.bind_some _ _).symm.trans H; rw [hy257]; with_reducible exact H2_) | (have H2_ := (Option.bind_some _ _).symm.trans H; with_reducible exact H2_) | with_reducible exact H | (rw [hy257]; exact H) | exact H
  have Ny257 := Aside0.mk hy257
  clear hy257
  by_cases c3 : y257.length + l0_2.length < 17592186044416
  ·rw [if_pos c3] at H
   have LMc3 := Aside0.mk c3
   clear c3
   obtain ⟨y260, hy260⟩ : ∃ y_ : List Int, y_ = (y257 ++ l0_2) := ⟨_, rfl⟩
   replace H : ((some (([] : List Int) : List Int)).bind fun y263 => (if y263.length + l0_3.length < 17592186044416 then (some (a0_0, y254, y260, (y263 ++ l0_3))) else (none))) = some (r1, r2, r3, r4) := by first | (rw [hy260]; with_reducible exact H) | (have H2_ := (Option.bind_some _ _).symm.trans H; rw [hy260]; with_reducible exact H2_) | (have H2_ := (Option.bind_some _ _).symm.trans H; with_reducible exact H2_) | with_reducible exact H | (rw [hy260]; exact H) | exact H
   have Ny260 := Aside0.mk hy260
   clear hy260
   obtain ⟨y263, hy263⟩ : ∃ y_ : List Int, y_ = (([] : List Int)) := ⟨_, rfl⟩
   replace H : (if y263.length + l0_3.length < 17592186044416 then (some (a0_0, y254, y260, (y263 ++ l0_3))) else (none)) = some (r1, r2, r3, r4) := by first | (rw [hy263]; with_reducible exact H) | (have H2_ := (Option.bind_some _ _).symm.trans H; rw [hy263]; with_reducible exact H2_) | (have H2_ := (Option.bind_some _ _).symm.trans H; with_reducible exact H2_) | with_reducible exact H | (rw [hy263]; exact H) | exact H
   have Ny263 := Aside0.mk hy263
   clear hy263
   by_cases c4 : y263.length + l0_3.length < 17592186044416
   ·rw [if_pos c4] at H
    have LMc4 := Aside0.mk c4
    clear c4
    obtain ⟨y266, hy266⟩ : ∃ y_ : List Int, y_ = (y263 ++ l0_3) := ⟨_, rfl⟩
    replace H : (some (a0_0, y254, y260, y266)) = some (r1, r2, r3, r4) := by first | (rw [hy266]; with_reducible exact H) | (have H2_ := (Option.bind_some _ _).symm.trans H; rw [hy266]; with_reducible exact H2_) | (have H2_ := (Option.bind_some _ _).symm.trans H; with_reducible exact H2_) | with_reducible exact H | (rw [hy266]; exact H) | exact H
    have Ny266 := Aside0.mk hy266
    clear hy266
    simp only [Option.some.injEq, Prod.mk.injEq] at H
    obtain ⟨rfl, rfl, rfl, rfl⟩ := H
    go_enter Try.func13, Try.ntmps13
    try go_wp2_with (first | ((with_reducible refine gate_dst (N := 1) rfl ?_); refine boxE 1 #[.int .i64 a0_0, .slice A0_1 l0_1.length c0_1, .slice A0_2 l0_2.length c0_2, .slice A0_3 l0_3.length c0_3] 25 ?_; intro gb249 hg w5 hbox hb; have BK249 := Aside0.mk (hbox); have GW249 := gw hg HB; have GE249 := gw hg HB; replace HB := hbS HB hb; clear hb hbox hg) | ((with_reducible refine gate_dst (N := 2) rfl ?_); refine boxE 2 #[.int .i64 0, .slice none 0 0, .slice none 0 0, .slice none 0 0] 25 ?_; intro gb250 hg w6 hbox hb; have BK250 := Aside0.mk (hbox); have GW250 := gw hg HB; have GE250 := gw hg HB; replace HB := hbS HB hb; have NB249_250 := nbl hg BK249; have NB250_249 := nbg hg BK249; replace BK249 := bkB BK249 hb; clear hb hbox hg))
    replace BK249 := Aside0.mk (blk_drew BK249.out)
    replace BK250 := Aside0.mk (blk_drew BK250.out)
    replace HB := Aside0.mk (below_drew1 HB.out)
    refine start_ (n := 16) (S := fun w' => w'.cell? ⟨gb249, 0, none⟩ = some (.int .i64 a0_0) ∧ w'.cell? ⟨gb249, 1, none⟩ = some (.slice A0_1 l0_1.length c0_1) ∧ w'.cell? ⟨gb249, 2, none⟩ = some (.slice A0_2 l0_2.length c0_2) ∧ w'.cell? ⟨gb249, 3, none⟩ = some (.slice A0_3 l0_3.length c0_3)) (ds := []) #[false, false, false, false, false, false, false, false, false, false, false, false, false, false, false, false] (by kernel_rfl) rfl rfl ⟨(blk_cell BK249.out 0).trans rfl, (blk_cell BK249.out 1).trans rfl, (blk_cell BK249.out 2).trans rfl, (blk_cell BK249.out 3).trans rfl⟩ (fun hHeld => ?_); refine with_tabW hopmeshref12_Copy.tab1 hopmeshref12_Copy.bits1 (fun HT_ HW_ => ?_)
    generalize w6.drew = w7 at BK249 BK250 HB hHeld ⊢
    refine pur 0 (some 3) #[true, false, false, false, false, false, false, false, false, false, false, false, false, false, false, false] HT_ ?_
    refine pur 3 (some 6) #[true, false, false, true, false, false, false, false, false, false, false, false, false, false, false, false] HT_ ?_
    refine pur 7 (some 10) #[true, false, false, true, false, false, false, true, false, false, false, false, false, false, false, false] HT_ ?_
    refine pur 11 (some 14) #[true, false, false, true, false, false, false, true, false, false, false, true, false, false, false, false] HT_ ?_
    refine tak 1 (some 4) #[true, true, false, true, false, false, false, true, false, false, false, true, false, false, false, false] HT_ HW_ hHeld rfl (Or.inl ⟨by rfl, by rintro w' ⟨s0, s1, s2, s3⟩; go_simp; with_reducible rfl⟩) ?_
    refine tak 4 (some 7) #[true, true, false, true, true, false, false, true, false, false, false, true, false, false, false, false] HT_ HW_ hHeld rfl (Or.inl ⟨by rfl, by rintro w' ⟨s0, s1, s2, s3⟩; go_simp; with_reducible rfl⟩) ?_
    refine tak 8 (some 11) #[true, true, false, true, true, false, false, true, true, false, false, true, false, false, false, false] HT_ HW_ hHeld rfl (Or.inl ⟨by rfl, by rintro w' ⟨s0, s1, s2, s3⟩; go_simp; with_reducible rfl⟩) ?_
    refine tak 12 (some 15) #[true, true, false, true, true, false, false, true, true, false, false, true, true, false, false, false] HT_ HW_ hHeld rfl (Or.inl ⟨by rfl, by rintro w' ⟨s0, s1, s2, s3⟩; go_simp; with_reducible rfl⟩) ?_
    refine join_ (σ := Value × Value × Value × Value × Value) 3 #[true, true, true, true, true, true, true, true, true, true, true, true, true, false, false, false] (fun s_ => [(5, s_.1), (8, s_.2.1), (9, s_.2.2.1), (12, s_.2.2.2.1), (13, s_.2.2.2.2)]) (fun s_ w' => (w'.cell? ⟨gb249, 0, none⟩ = some (.int .i64 a0_0) ∧ w'.cell? ⟨gb249, 1, none⟩ = some (.slice A0_1 l0_1.length c0_1) ∧ w'.cell? ⟨gb249, 2, none⟩ = some (.slice A0_2 l0_2.length c0_2) ∧ w'.cell? ⟨gb249, 3, none⟩ = some (.slice A0_3 l0_3.length c0_3)) ∧ (Kd.R k34 34 w' w.heap.size (fun _ => True) s_.2.1 y254) ∧ (Kd.R (Kd.int .i64) 3 w' w.heap.size (fun k_ => some k_ ≠ (s_.2.2.2.2 : Value).ownBlock) s_.2.2.2.1 y260) ∧ (Kd.R (Kd.int .i64) 3 w' w.heap.size (fun k_ => some k_ ≠ (s_.2.2.2.1 : Value).ownBlock) s_.2.2.2.2 y263) ∧ (w'.heap[gb249]? = some (.cells #[.int .i64 a0_0, .slice A0_1 l0_1.length c0_1, .slice A0_2 l0_2.length c0_2, .slice A0_3 l0_3.length c0_3] 25 (0, 0))) ∧ (w'.heap[gb250]? = some (.cells #[.int .i64 0, .slice none 0 0, .slice none 0 0, .slice none 0 0] 25 (0, 0))) ∧ (Below w.heap.size w w')) ?_ ?_
    rotate_left
    ·intro hJ2_5_6_9_10
     refine join_ (σ := Value × Value × Value × Value) 4 #[true, true, true, true, true, true, true, true, true, true, false, true, true, false, false, false] (fun s_ => [(5, s_.1), (8, s_.2.1), (9, s_.2.2.1), (12, s_.2.2.2)]) (fun s_ w' => (w'.cell? ⟨gb249, 0, none⟩ = some (.int .i64 a0_0) ∧ w'.cell? ⟨gb249, 1, none⟩ = some (.slice A0_1 l0_1.length c0_1) ∧ w'.cell? ⟨gb249, 2, none⟩ = some (.slice A0_2 l0_2.length c0_2) ∧ w'.cell? ⟨gb249, 3, none⟩ = some (.slice A0_3 l0_3.length c0_3)) ∧ (Kd.R k34 34 w' w.heap.size (fun _ => True) s_.2.1 y254) ∧ (Kd.R (Kd.int .i64) 3 w' w.heap.size (fun _ => True) s_.2.2.2 y260) ∧ (w'.heap[gb249]? = some (.cells #[.int .i64 a0_0, .slice A0_1 l0_1.length c0_1, .slice A0_2 l0_2.length c0_2, .slice A0_3 l0_3.length c0_3] 25 (0, 0))) ∧ (w'.heap[gb250]? = some (.cells #[.int .i64 0, .slice none 0 0, .slice none 0 0, .slice none 0 0] 25 (0, 0))) ∧ (Below w.heap.size w w')) ?_ ?_
     rotate_left
     ·intro hJ2_5_6_9
      refine join_ (σ := Value × Value × Value × Value) 4 #[true, true, true, true, true, true, true, true, true, false, true, true, true, false, false, false] (fun s_ => [(5, s_.1), (8, s_.2.1), (9, s_.2.2.1), (13, s_.2.2.2)]) (fun s_ w' => (w'.cell? ⟨gb249, 0, none⟩ = some (.int .i64 a0_0) ∧ w'.cell? ⟨gb249, 1, none⟩ = some (.slice A0_1 l0_1.length c0_1) ∧ w'.cell? ⟨gb249, 2, none⟩ = some (.slice A0_2 l0_2.length c0_2) ∧ w'.cell? ⟨gb249, 3, none⟩ = some (.slice A0_3 l0_3.length c0_3)) ∧ (Kd.R k34 34 w' w.heap.size (fun _ => True) s_.2.1 y254) ∧ (Kd.R (Kd.int .i64) 3 w' w.heap.size (fun k_ => some k_ ≠ (s_.2.2.2 : Value).ownBlock) s_.2.2.1 y257) ∧ (Kd.R (Kd.int .i64) 3 w' w.heap.size (fun k_ => some k_ ≠ (s_.2.2.1 : Value).ownBlock) s_.2.2.2 y263) ∧ (w'.heap[gb249]? = some (.cells #[.int .i64 a0_0, .slice A0_1 l0_1.length c0_1, .slice A0_2 l0_2.length c0_2, .slice A0_3 l0_3.length c0_3] 25 (0, 0))) ∧ (w'.heap[gb250]? = some (.cells #[.int .i64 0, .slice none 0 0, .slice none 0 0, .slice none 0 0] 25 (0, 0))) ∧ (Below w.heap.size w w')) ?_ ?_
      rotate_left
      ·intro hJ2_5_6_10
       refine join_ (σ := Value × Value × Value) 5 #[true, true, true, true, true, true, true, true, true, false, false, true, true, false, false, false] (fun s_ => [(5, s_.1), (8, s_.2.1), (9, s_.2.2)]) (fun s_ w' => (w'.cell? ⟨gb249, 0, none⟩ = some (.int .i64 a0_0) ∧ w'.cell? ⟨gb249, 1, none⟩ = some (.slice A0_1 l0_1.length c0_1) ∧ w'.cell? ⟨gb249, 2, none⟩ = some (.slice A0_2 l0_2.length c0_2) ∧ w'.cell? ⟨gb249, 3, none⟩ = some (.slice A0_3 l0_3.length c0_3)) ∧ (Kd.R k34 34 w' w.heap.size (fun _ => True) s_.2.1 y254) ∧ (Kd.R (Kd.int .i64) 3 w' w.heap.size (fun _ => True) s_.2.2 y257) ∧ (w'.heap[gb249]? = some (.cells #[.int .i64 a0_0, .slice A0_1 l0_1.length c0_1, .slice A0_2 l0_2.length c0_2, .slice A0_3 l0_3.length c0_3] 25 (0, 0))) ∧ (w'.heap[gb250]? = some (.cells #[.int .i64 0, .slice none 0 0, .slice none 0 0, .slice none 0 0] 25 (0, 0))) ∧ (Below w.heap.size w w')) ?_ ?_
       rotate_left
       ·intro hJ2_5_6
        refine join_ (σ := Value × Value × Value) 5 #[true, true, true, true, true, true, false, true, true, false, true, true, true, false, false, false] (fun s_ => [(5, s_.1), (8, s_.2.1), (13, s_.2.2)]) (fun s_ w' => (w'.cell? ⟨gb249, 0, none⟩ = some (.int .i64 a0_0) ∧ w'.cell? ⟨gb249, 1, none⟩ = some (.slice A0_1 l0_1.length c0_1) ∧ w'.cell? ⟨gb249, 2, none⟩ = some (.slice A0_2 l0_2.length c0_2) ∧ w'.cell? ⟨gb249, 3, none⟩ = some (.slice A0_3 l0_3.length c0_3)) ∧ (Kd.R k34 34 w' w.heap.size (fun _ => True) s_.2.1 y254) ∧ (Kd.R (Kd.int .i64) 3 w' w.heap.size (fun _ => True) s_.2.2 y263) ∧ (w'.heap[gb249]? = some (.cells #[.int .i64 a0_0, .slice A0_1 l0_1.length c0_1, .slice A0_2 l0_2.length c0_2, .slice A0_3 l0_3.length c0_3] 25 (0, 0))) ∧ (w'.heap[gb250]? = some (.cells #[.int .i64 0, .slice none 0 0, .slice none 0 0, .slice none 0 0] 25 (0, 0))) ∧ (Below w.heap.size w w')) ?_ ?_
        rotate_left
        ·intro hJ2_5_10
         refine join_ (σ := Value × Value × Value) 5 #[true, true, true, true, true, false, true, true, true, false, true, true, true, false, false, false] (fun s_ => [(5, s_.1), (9, s_.2.1), (13, s_.2.2)]) (fun s_ w' => (w'.cell? ⟨gb249, 0, none⟩ = some (.int .i64 a0_0) ∧ w'.cell? ⟨gb249, 1, none⟩ = some (.slice A0_1 l0_1.length c0_1) ∧ w'.cell? ⟨gb249, 2, none⟩ = some (.slice A0_2 l0_2.length c0_2) ∧ w'.cell? ⟨gb249, 3, none⟩ = some (.slice A0_3 l0_3.length c0_3)) ∧ (Kd.R k34 34 w' w.heap.size (fun _ => True) s_.1 y251) ∧ (Kd.R (Kd.int .i64) 3 w' w.heap.size (fun k_ => some k_ ≠ (s_.2.2 : Value).ownBlock) s_.2.1 y257) ∧ (Kd.R (Kd.int .i64) 3 w' w.heap.size (fun k_ => some k_ ≠ (s_.2.1 : Value).ownBlock) s_.2.2 y263) ∧ (w'.heap[gb249]? = some (.cells #[.int .i64 a0_0, .slice A0_1 l0_1.length c0_1, .slice A0_2 l0_2.length c0_2, .slice A0_3 l0_3.length c0_3] 25 (0, 0))) ∧ (w'.heap[gb250]? = some (.cells #[.int .i64 0, .slice none 0 0, .slice none 0 0, .slice none 0 0] 25 (0, 0))) ∧ (Below w.heap.size w w')) ?_ ?_
         rotate_left
         ·intro hJ2_6_10
          refine join_ (σ := Value × Value) 6 #[true, true, true, true, true, true, false, true, true, false, false, true, true, false, false, false] (fun s_ => [(5, s_.1), (8, s_.2)]) (fun s_ w' => (w'.cell? ⟨gb249, 0, none⟩ = some (.int .i64 a0_0) ∧ w'.cell? ⟨gb249, 1, none⟩ = some (.slice A0_1 l0_1.length c0_1) ∧ w'.cell? ⟨gb249, 2, none⟩ = some (.slice A0_2 l0_2.length c0_2) ∧ w'.cell? ⟨gb249, 3, none⟩ = some (.slice A0_3 l0_3.length c0_3)) ∧ (Kd.R k34 34 w' w.heap.size (fun _ => True) s_.2 y254) ∧ (w'.heap[gb249]? = some (.cells #[.int .i64 a0_0, .slice A0_1 l0_1.length c0_1, .slice A0_2 l0_2.length c0_2, .slice A0_3 l0_3.length c0_3] 25 (0, 0))) ∧ (w'.heap[gb250]? = some (.cells #[.int .i64 0, .slice none 0 0, .slice none 0 0, .slice none 0 0] 25 (0, 0))) ∧ (Below w.heap.size w w')) ?_ ?_
          rotate_left
          ·intro hJ2_5
           refine join_ (σ := Value × Value) 6 #[true, true, true, true, true, false, true, true, true, false, false, true, true, false, false, false] (fun s_ => [(5, s_.1), (9, s_.2)]) (fun s_ w' => (w'.cell? ⟨gb249, 0, none⟩ = some (.int .i64 a0_0) ∧ w'.cell? ⟨gb249, 1, none⟩ = some (.slice A0_1 l0_1.length c0_1) ∧ w'.cell? ⟨gb249, 2, none⟩ = some (.slice A0_2 l0_2.length c0_2) ∧ w'.cell? ⟨gb249, 3, none⟩ = some (.slice A0_3 l0_3.length c0_3)) ∧ (Kd.R k34 34 w' w.heap.size (fun _ => True) s_.1 y251) ∧ (Kd.R (Kd.int .i64) 3 w' w.heap.size (fun _ => True) s_.2 y257) ∧ (w'.heap[gb249]? = some (.cells #[.int .i64 a0_0, .slice A0_1 l0_1.length c0_1, .slice A0_2 l0_2.length c0_2, .slice A0_3 l0_3.length c0_3] 25 (0, 0))) ∧ (w'.heap[gb250]? = some (.cells #[.int .i64 0, .slice none 0 0, .slice none 0 0, .slice none 0 0] 25 (0, 0))) ∧ (Below w.heap.size w w')) ?_ ?_
           rotate_left
           ·intro hJ2_6
            refine join_ (σ := Value × Value) 6 #[true, true, true, true, true, false, false, true, true, false, true, true, true, false, false, false] (fun s_ => [(5, s_.1), (13, s_.2)]) (fun s_ w' => (w'.cell? ⟨gb249, 0, none⟩ = some (.int .i64 a0_0) ∧ w'.cell? ⟨gb249, 1, none⟩ = some (.slice A0_1 l0_1.length c0_1) ∧ w'.cell? ⟨gb249, 2, none⟩ = some (.slice A0_2 l0_2.length c0_2) ∧ w'.cell? ⟨gb249, 3, none⟩ = some (.slice A0_3 l0_3.length c0_3)) ∧ (Kd.R k34 34 w' w.heap.size (fun _ => True) s_.1 y251) ∧ (Kd.R (Kd.int .i64) 3 w' w.heap.size (fun _ => True) s_.2 y263) ∧ (w'.heap[gb249]? = some (.cells #[.int .i64 a0_0, .slice A0_1 l0_1.length c0_1, .slice A0_2 l0_2.length c0_2, .slice A0_3 l0_3.length c0_3] 25 (0, 0))) ∧ (w'.heap[gb250]? = some (.cells #[.int .i64 0, .slice none 0 0, .slice none 0 0, .slice none 0 0] 25 (0, 0))) ∧ (Below w.heap.size w w')) ?_ ?_
            rotate_left
            ·intro hJ2_10
             refine join_ (σ := Value × Value) 6 #[true, true, false, true, true, false, true, true, true, false, true, true, true, false, false, false] (fun s_ => [(9, s_.1), (13, s_.2)]) (fun s_ w' => (w'.cell? ⟨gb249, 0, none⟩ = some (.int .i64 a0_0) ∧ w'.cell? ⟨gb249, 1, none⟩ = some (.slice A0_1 l0_1.length c0_1) ∧ w'.cell? ⟨gb249, 2, none⟩ = some (.slice A0_2 l0_2.length c0_2) ∧ w'.cell? ⟨gb249, 3, none⟩ = some (.slice A0_3 l0_3.length c0_3)) ∧ (Kd.R (Kd.int .i64) 3 w' w.heap.size (fun k_ => some k_ ≠ (s_.2 : Value).ownBlock) s_.1 y257) ∧ (Kd.R (Kd.int .i64) 3 w' w.heap.size (fun k_ => some k_ ≠ (s_.1 : Value).ownBlock) s_.2 y263) ∧ (w'.heap[gb249]? = some (.cells #[.int .i64 a0_0, .slice A0_1 l0_1.length c0_1, .slice A0_2 l0_2.length c0_2, .slice A0_3 l0_3.length c0_3] 25 (0, 0))) ∧ (w'.heap[gb250]? = some (.cells #[.int .i64 0, .slice none 0 0, .slice none 0 0, .slice none 0 0] 25 (0, 0))) ∧ (Below w.heap.size w w')) ?_ ?_
             rotate_left
             ·intro hJ6_10
              refine join_ (σ := Value) 7 #[true, true, true, true, true, false, false, true, true, false, false, true, true, false, false, false] (fun s_ => [(5, s_)]) (fun s_ w' => (w'.cell? ⟨gb249, 0, none⟩ = some (.int .i64 a0_0) ∧ w'.cell? ⟨gb249, 1, none⟩ = some (.slice A0_1 l0_1.length c0_1) ∧ w'.cell? ⟨gb249, 2, none⟩ = some (.slice A0_2 l0_2.length c0_2) ∧ w'.cell? ⟨gb249, 3, none⟩ = some (.slice A0_3 l0_3.length c0_3)) ∧ (Kd.R k34 34 w' w.heap.size (fun _ => True) s_ y251) ∧ (w'.heap[gb249]? = some (.cells #[.int .i64 a0_0, .slice A0_1 l0_1.length c0_1, .slice A0_2 l0_2.length c0_2, .slice A0_3 l0_3.length c0_3] 25 (0, 0))) ∧ (w'.heap[gb250]? = some (.cells #[.int .i64 0, .slice none 0 0, .slice none 0 0, .slice none 0 0] 25 (0, 0))) ∧ (Below w.heap.size w w')) ?_ ?_
              rotate_left
              ·intro hJ2
               refine join_ (σ := Value) 7 #[true, true, false, true, true, false, true, true, true, false, false, true, true, false, false, false] (fun s_ => [(9, s_)]) (fun s_ w' => (w'.cell? ⟨gb249, 0, none⟩ = some (.int .i64 a0_0) ∧ w'.cell? ⟨gb249, 1, none⟩ = some (.slice A0_1 l0_1.length c0_1) ∧ w'.cell? ⟨gb249, 2, none⟩ = some (.slice A0_2 l0_2.length c0_2) ∧ w'.cell? ⟨gb249, 3, none⟩ = some (.slice A0_3 l0_3.length c0_3)) ∧ (Kd.R (Kd.int .i64) 3 w' w.heap.size (fun _ => True) s_ y257) ∧ (w'.heap[gb249]? = some (.cells #[.int .i64 a0_0, .slice A0_1 l0_1.length c0_1, .slice A0_2 l0_2.length c0_2, .slice A0_3 l0_3.length c0_3] 25 (0, 0))) ∧ (w'.heap[gb250]? = some (.cells #[.int .i64 0, .slice none 0 0, .slice none 0 0, .slice none 0 0] 25 (0, 0))) ∧ (Below w.heap.size w w')) ?_ ?_
               rotate_left
               ·intro hJ6
                refine join_ (σ := Value) 7 #[true, true, false, true, true, false, false, true, true, false, true, true, true, false, false, false] (fun s_ => [(13, s_)]) (fun s_ w' => (w'.cell? ⟨gb249, 0, none⟩ = some (.int .i64 a0_0) ∧ w'.cell? ⟨gb249, 1, none⟩ = some (.slice A0_1 l0_1.length c0_1) ∧ w'.cell? ⟨gb249, 2, none⟩ = some (.slice A0_2 l0_2.length c0_2) ∧ w'.cell? ⟨gb249, 3, none⟩ = some (.slice A0_3 l0_3.length c0_3)) ∧ (Kd.R (Kd.int .i64) 3 w' w.heap.size (fun _ => True) s_ y263) ∧ (w'.heap[gb249]? = some (.cells #[.int .i64 a0_0, .slice A0_1 l0_1.length c0_1, .slice A0_2 l0_2.length c0_2, .slice A0_3 l0_3.length c0_3] 25 (0, 0))) ∧ (w'.heap[gb250]? = some (.cells #[.int .i64 0, .slice none 0 0, .slice none 0 0, .slice none 0 0] 25 (0, 0))) ∧ (Below w.heap.size w w')) ?_ ?_
                rotate_left
                ·intro hJ10
                 refine three_ (i := 2) (j := 6) (k := 10) (Ni := some 5) (Nj := some 9) (Nk := some 13) #[true, true, true, true, true, false, false, true, true, false, false, true, true, false, false, false] #[true, true, false, true, true, false, true, true, true, false, false, true, true, false, false, false] #[true, true, false, true, true, false, false, true, true, false, true, true, true, false, false, false] rfl rfl rfl rfl rfl rfl (three_of HT_.out (by kernel_rfl)) (by decide) (by decide) (by decide) (fun K hK => ?_) (fun K hK => ?_) (fun K hK => ?_)
                 ·skip
                  refine Kd.R_lit_step k34 _ 34 ?hg (N := 5) ?hd (xs := ([] : List (S34))) (inner := []) (ok := fun _ => True) (okp := fun _ => True) ?hr ?hp (fun _ hk => hk) trivial (Below.refl _ _) (Nat.le_refl _) (by simp) ?_; (case hd => rfl); (case hg => rfl); (case hr => first | (go_simp; done) | (go_simp; rfl)); (case hp => exact (Reps.none _ _))
                  intro v252 w8 ho9 hb hg_ hnew_
                  clear hg_ hnew_
                  (first | rw [← Ny251.out] at ho9 | (simp only [Int.reduceToNat] at ho9; rw [← Ny251.out] at ho9))
                  have HO253 := Aside0.mk (Kd.R_lower ho9 (below_size (hbx HB)))
                  replace BK249 := bkB BK249 hb
                  replace BK250 := bkB BK250 hb
                  replace HB := hbS HB hb
                  clear hb ho9
                  refine hK.out _ _ ⟨(blk_cell BK249.out 0).trans rfl, (blk_cell BK249.out 1).trans rfl, (blk_cell BK249.out 2).trans rfl, (blk_cell BK249.out 3).trans rfl⟩ (fun hHeld => ?_)
                  clear hK K
                  refine nrm (some 5) ?_
                  exact npu (hJ2 (v252) _ ⟨hHeld, (ro HO253), (bk BK249), (bk BK250), (hbx HB)⟩)
                 ·skip
                  refine Kd.R_lit_step (Kd.int .i64) _ 3 ?hg (N := 9) ?hd (xs := ([] : List Int)) (inner := []) (ok := fun _ => True) (okp := fun _ => True) ?hr ?hp (fun _ hk => hk) trivial (Below.refl _ _) (Nat.le_refl _) (by simp) ?_; (case hd => rfl); (case hg => rfl); (case hr => first | (go_simp; done) | (go_simp; rfl)); (case hp => exact (Reps.none _ _))
                  intro v258 w8 ho9 hb hg_ hnew_
                  clear hg_ hnew_
                  (first | rw [← Ny257.out] at ho9 | (simp only [Int.reduceToNat] at ho9; rw [← Ny257.out] at ho9))
                  have HO259 := Aside0.mk (Kd.R_lower ho9 (below_size (hbx HB)))
                  replace BK249 := bkB BK249 hb
                  replace BK250 := bkB BK250 hb
                  replace HB := hbS HB hb
                  clear hb ho9
                  refine hK.out _ _ ⟨(blk_cell BK249.out 0).trans rfl, (blk_cell BK249.out 1).trans rfl, (blk_cell BK249.out 2).trans rfl, (blk_cell BK249.out 3).trans rfl⟩ (fun hHeld => ?_)
                  clear hK K
                  refine nrm (some 9) ?_
                  exact npu (hJ6 (v258) _ ⟨hHeld, (ro HO259), (bk BK249), (bk BK250), (hbx HB)⟩)
                 ·skip
                  refine Kd.R_lit_step (Kd.int .i64) _ 3 ?hg (N := 13) ?hd (xs := ([] : List Int)) (inner := []) (ok := fun _ => True) (okp := fun _ => True) ?hr ?hp (fun _ hk => hk) trivial (Below.refl _ _) (Nat.le_refl _) (by simp) ?_; (case hd => rfl); (case hg => rfl); (case hr => first | (go_simp; done) | (go_simp; rfl)); (case hp => exact (Reps.none _ _))
                  intro v264 w8 ho9 hb hg_ hnew_
                  clear hg_ hnew_
                  (first | rw [← Ny263.out] at ho9 | (simp only [Int.reduceToNat] at ho9; rw [← Ny263.out] at ho9))
                  have HO265 := Aside0.mk (Kd.R_lower ho9 (below_size (hbx HB)))
                  replace BK249 := bkB BK249 hb
                  replace BK250 := bkB BK250 hb
                  replace HB := hbS HB hb
                  clear hb ho9
                  refine hK.out _ _ ⟨(blk_cell BK249.out 0).trans rfl, (blk_cell BK249.out 1).trans rfl, (blk_cell BK249.out 2).trans rfl, (blk_cell BK249.out 3).trans rfl⟩ (fun hHeld => ?_)
                  clear hK K
                  refine nrm (some 13) ?_
                  exact npu (hJ10 (v264) _ ⟨hHeld, (ro HO265), (bk BK249), (bk BK250), (hbx HB)⟩)
                ·skip
                 rintro v264 w10 ⟨hS_, h0_, h1_, h2_, h3_⟩
                 have n0_ : Aside0 (Kd.R (Kd.int .i64) 3 w10 w.heap.size (fun _ => True) v264 y263) := ⟨h0_⟩
                 have n1_ : Aside0 (w10.heap[gb249]? = some (.cells #[.int .i64 a0_0, .slice A0_1 l0_1.length c0_1, .slice A0_2 l0_2.length c0_2, .slice A0_3 l0_3.length c0_3] 25 (0, 0))) := ⟨h1_⟩
                 have n2_ : Aside0 (w10.heap[gb250]? = some (.cells #[.int .i64 0, .slice none 0 0, .slice none 0 0, .slice none 0 0] 25 (0, 0))) := ⟨h2_⟩
                 have n3_ : Aside0 (Below w.heap.size w w10) := ⟨h3_⟩
                 clear BK249
                 clear BK250
                 clear HB
                 clear h0_ h1_ h2_ h3_
                 have HO265 := n0_
                 have BK249 := n1_
                 have BK250 := n2_
                 have HB := n3_
                 clear n0_ n1_ n2_ n3_
                 have hHeld : w10.cell? ⟨gb249, 0, none⟩ = some (.int .i64 a0_0) ∧ w10.cell? ⟨gb249, 1, none⟩ = some (.slice A0_1 l0_1.length c0_1) ∧ w10.cell? ⟨gb249, 2, none⟩ = some (.slice A0_2 l0_2.length c0_2) ∧ w10.cell? ⟨gb249, 3, none⟩ = some (.slice A0_3 l0_3.length c0_3) := hS_
                 refine norm_ (a' := ?_) ?_ ?_
                 rotate_left
                 ·simp only [putAll, Act.put, List.setIfInBounds_toArray, List.set_cons_zero, List.set_cons_succ]
                  rfl
                 refine two_ (i := 2) (j := 6) (Ni := some 5) (Nj := some 9) #[true, true, true, true, true, false, false, true, true, false, true, true, true, false, false, false] #[true, true, false, true, true, false, true, true, true, false, true, true, true, false, false, false] rfl rfl rfl rfl (two_of HT_.out (by kernel_rfl)) (by decide) (by decide) (fun K hK => ?_) (fun K hK => ?_)
                 ·skip
                  refine Kd.R_lit_step k34 _ 34 ?hg (N := 5) ?hd (xs := ([] : List (S34))) (inner := []) (ok := fun _ => True) (okp := fun _ => True) ?hr ?hp (fun _ hk => hk) trivial (Below.refl _ _) (Nat.le_refl _) (by simp) ?_; (case hd => rfl); (case hg => rfl); (case hr => first | (go_simp; done) | (go_simp; rfl)); (case hp => exact (Reps.none _ _))
                  intro v252 w11 ho12 hb hg_ hnew_
                  clear hg_ hnew_
                  (first | rw [← Ny251.out] at ho12 | (simp only [Int.reduceToNat] at ho12; rw [← Ny251.out] at ho12))
                  replace HO265 := rB HO265 hb
                  have HO253 := Aside0.mk (Kd.R_lower ho12 (below_size (hbx HB)))
                  replace BK249 := bkB BK249 hb
                  replace BK250 := bkB BK250 hb
                  replace HB := hbS HB hb
                  clear hb ho12
                  refine hK.out _ _ ⟨(blk_cell BK249.out 0).trans rfl, (blk_cell BK249.out 1).trans rfl, (blk_cell BK249.out 2).trans rfl, (blk_cell BK249.out 3).trans rfl⟩ (fun hHeld => ?_)
                  clear hK K
                  refine nrm (some 5) ?_
                  exact npu (hJ2_10 (v252, v264) _ ⟨hHeld, (ro HO253), (ro HO265), (bk BK249), (bk BK250), (hbx HB)⟩)
                 ·skip
                  refine Kd.R_lit_step (Kd.int .i64) _ 3 ?hg (N := 9) ?hd (xs := ([] : List Int)) (inner := []) (ok := fun _ => True) (okp := fun _ => True) ?hr ?hp (fun _ hk => hk) trivial (Below.refl _ _) (Nat.le_refl _) (by simp) ?_; (case hd => rfl); (case hg => rfl); (case hr => first | (go_simp; done) | (go_simp; rfl)); (case hp => exact (Reps.none _ _))
                  intro v258 w11 ho12 hb hg_ hnew_
                  clear hg_ hnew_
                  (first | rw [← Ny257.out] at ho12 | (simp only [Int.reduceToNat] at ho12; rw [← Ny257.out] at ho12))
                  have HO259 := Aside0.mk (Kd.R_lower (Kd.R_new' ho12 (Kd.R_lt (ro HO265))) (below_size (hbx HB)))
                  replace HO265 := Aside0.mk (Kd.R_elder' (ro HO265) (Kd.R_base ho12) hb)
                  replace BK249 := bkB BK249 hb
                  replace BK250 := bkB BK250 hb
                  replace HB := hbS HB hb
                  clear hb ho12
                  refine hK.out _ _ ⟨(blk_cell BK249.out 0).trans rfl, (blk_cell BK249.out 1).trans rfl, (blk_cell BK249.out 2).trans rfl, (blk_cell BK249.out 3).trans rfl⟩ (fun hHeld => ?_)
                  clear hK K
                  refine nrm (some 9) ?_
                  exact npu (hJ6_10 (v258, v264) _ ⟨hHeld, (by (with_reducible repeat (first | apply Kd.R_alloc | apply Kd.R_drewN | apply Kd.R_drew)); exact Kd.R_mono HO259.out (fun _ hk => hk.2)), (by (with_reducible repeat (first | apply Kd.R_alloc | apply Kd.R_drewN | apply Kd.R_drew)); exact Kd.R_mono HO265.out (fun _ hk => hk.2)), (bk BK249), (bk BK250), (hbx HB)⟩)
               ·skip
                rintro v258 w10 ⟨hS_, h0_, h1_, h2_, h3_⟩
                have n0_ : Aside0 (Kd.R (Kd.int .i64) 3 w10 w.heap.size (fun _ => True) v258 y257) := ⟨h0_⟩
                have n1_ : Aside0 (w10.heap[gb249]? = some (.cells #[.int .i64 a0_0, .slice A0_1 l0_1.length c0_1, .slice A0_2 l0_2.length c0_2, .slice A0_3 l0_3.length c0_3] 25 (0, 0))) := ⟨h1_⟩
                have n2_ : Aside0 (w10.heap[gb250]? = some (.cells #[.int .i64 0, .slice none 0 0, .slice none 0 0, .slice none 0 0] 25 (0, 0))) := ⟨h2_⟩
                have n3_ : Aside0 (Below w.heap.size w w10) := ⟨h3_⟩
                clear BK249
                clear BK250
                clear HB
                clear h0_ h1_ h2_ h3_
                have HO259 := n0_
                have BK249 := n1_
                have BK250 := n2_
                have HB := n3_
                clear n0_ n1_ n2_ n3_
                have hHeld : w10.cell? ⟨gb249, 0, none⟩ = some (.int .i64 a0_0) ∧ w10.cell? ⟨gb249, 1, none⟩ = some (.slice A0_1 l0_1.length c0_1) ∧ w10.cell? ⟨gb249, 2, none⟩ = some (.slice A0_2 l0_2.length c0_2) ∧ w10.cell? ⟨gb249, 3, none⟩ = some (.slice A0_3 l0_3.length c0_3) := hS_
                refine norm_ (a' := ?_) ?_ ?_
                rotate_left
                ·simp only [putAll, Act.put, List.setIfInBounds_toArray, List.set_cons_zero, List.set_cons_succ]
                 rfl
                refine two_ (i := 2) (j := 10) (Ni := some 5) (Nj := some 13) #[true, true, true, true, true, false, true, true, true, false, false, true, true, false, false, false] #[true, true, false, true, true, false, true, true, true, false, true, true, true, false, false, false] rfl rfl rfl rfl (two_of HT_.out (by kernel_rfl)) (by decide) (by decide) (fun K hK => ?_) (fun K hK => ?_)
                ·skip
                 refine Kd.R_lit_step k34 _ 34 ?hg (N := 5) ?hd (xs := ([] : List (S34))) (inner := []) (ok := fun _ => True) (okp := fun _ => True) ?hr ?hp (fun _ hk => hk) trivial (Below.refl _ _) (Nat.le_refl _) (by simp) ?_; (case hd => rfl); (case hg => rfl); (case hr => first | (go_simp; done) | (go_simp; rfl)); (case hp => exact (Reps.none _ _))
                 intro v252 w11 ho12 hb hg_ hnew_
                 clear hg_ hnew_
                 (first | rw [← Ny251.out] at ho12 | (simp only [Int.reduceToNat] at ho12; rw [← Ny251.out] at ho12))
                 replace HO259 := rB HO259 hb
                 have HO253 := Aside0.mk (Kd.R_lower ho12 (below_size (hbx HB)))
                 replace BK249 := bkB BK249 hb
                 replace BK250 := bkB BK250 hb
                 replace HB := hbS HB hb
                 clear hb ho12
                 refine hK.out _ _ ⟨(blk_cell BK249.out 0).trans rfl, (blk_cell BK249.out 1).trans rfl, (blk_cell BK249.out 2).trans rfl, (blk_cell BK249.out 3).trans rfl⟩ (fun hHeld => ?_)
                 clear hK K
                 refine nrm (some 5) ?_
                 exact npu (hJ2_6 (v252, v258) _ ⟨hHeld, (ro HO253), (ro HO259), (bk BK249), (bk BK250), (hbx HB)⟩)
                ·skip
                 refine Kd.R_lit_step (Kd.int .i64) _ 3 ?hg (N := 13) ?hd (xs := ([] : List Int)) (inner := []) (ok := fun _ => True) (okp := fun _ => True) ?hr ?hp (fun _ hk => hk) trivial (Below.refl _ _) (Nat.le_refl _) (by simp) ?_; (case hd => rfl); (case hg => rfl); (case hr => first | (go_simp; done) | (go_simp; rfl)); (case hp => exact (Reps.none _ _))
                 intro v264 w11 ho12 hb hg_ hnew_
                 clear hg_ hnew_
                 (first | rw [← Ny263.out] at ho12 | (simp only [Int.reduceToNat] at ho12; rw [← Ny263.out] at ho12))
                 have HO265 := Aside0.mk (Kd.R_lower (Kd.R_new' ho12 (Kd.R_lt (ro HO259))) (below_size (hbx HB)))
                 replace HO259 := Aside0.mk (Kd.R_elder' (ro HO259) (Kd.R_base ho12) hb)
                 replace BK249 := bkB BK249 hb
                 replace BK250 := bkB BK250 hb
                 replace HB := hbS HB hb
                 clear hb ho12
                 refine hK.out _ _ ⟨(blk_cell BK249.out 0).trans rfl, (blk_cell BK249.out 1).trans rfl, (blk_cell BK249.out 2).trans rfl, (blk_cell BK249.out 3).trans rfl⟩ (fun hHeld => ?_)
                 clear hK K
                 refine nrm (some 13) ?_
                 exact npu (hJ6_10 (v258, v264) _ ⟨hHeld, (by (with_reducible repeat (first | apply Kd.R_alloc | apply Kd.R_drewN | apply Kd.R_drew)); exact Kd.R_mono HO259.out (fun _ hk => hk.2)), (by (with_reducible repeat (first | apply Kd.R_alloc | apply Kd.R_drewN | apply Kd.R_drew)); exact Kd.R_mono HO265.out (fun _ hk => hk.2)), (bk BK249), (bk BK250), (hbx HB)⟩)
              ·skip
               rintro v252 w10 ⟨hS_, h0_, h1_, h2_, h3_⟩
               have n0_ : Aside0 (Kd.R k34 34 w10 w.heap.size (fun _ => True) v252 y251) := ⟨h0_⟩
               have n1_ : Aside0 (w10.heap[gb249]? = some (.cells #[.int .i64 a0_0, .slice A0_1 l0_1.length c0_1, .slice A0_2 l0_2.length c0_2, .slice A0_3 l0_3.length c0_3] 25 (0, 0))) := ⟨h1_⟩
               have n2_ : Aside0 (w10.heap[gb250]? = some (.cells #[.int .i64 0, .slice none 0 0, .slice none 0 0, .slice none 0 0] 25 (0, 0))) := ⟨h2_⟩
               have n3_ : Aside0 (Below w.heap.size w w10) := ⟨h3_⟩
               clear BK249
               clear BK250
               clear HB
               clear h0_ h1_ h2_ h3_
               have HO253 := n0_
               have BK249 := n1_
               have BK250 := n2_
               have HB := n3_
               clear n0_ n1_ n2_ n3_
               have hHeld : w10.cell? ⟨gb249, 0, none⟩ = some (.int .i64 a0_0) ∧ w10.cell? ⟨gb249, 1, none⟩ = some (.slice A0_1 l0_1.length c0_1) ∧ w10.cell? ⟨gb249, 2, none⟩ = some (.slice A0_2 l0_2.length c0_2) ∧ w10.cell? ⟨gb249, 3, none⟩ = some (.slice A0_3 l0_3.length c0_3) := hS_
               refine norm_ (a' := ?_) ?_ ?_
               rotate_left
               ·simp only [putAll, Act.put, List.setIfInBounds_toArray, List.set_cons_zero, List.set_cons_succ]
                rfl
               refine three_ (i := 5) (j := 6) (k := 10) (Ni := some 8) (Nj := some 9) (Nk := some 13) #[true, true, true, true, true, true, false, true, true, false, false, true, true, false, false, false] #[true, true, true, true, true, false, true, true, true, false, false, true, true, false, false, false] #[true, true, true, true, true, false, false, true, true, false, true, true, true, false, false, false] rfl rfl rfl rfl rfl rfl (three_of HT_.out (by kernel_rfl)) (by decide) (by decide) (by decide) (fun K hK => ?_) (fun K hK => ?_) (fun K hK => ?_)
               ·skip
                refine Kd.R_append_rows_step k34 (w0 := w) w.heap.size (by rfl) (.tmp 5) (.tmp 7) 22 34 (.agg #[(.int .i64 0), (.int .i64 0)]) 16 rfl Try.underlying22 info34 rfl (by decide) (by omega) v252 y251 l0_1 _ _ _ (fun _ => True) (fun _ => False) rfl rfl ?aO ?aR (fun _ _ h => h) (fun _ h => h.elim) ?aF ?aB ?aS ?aL ?_
                (case aR => repeat (first | exact (Kd.C_below HR0_1.out HB.out) | (with_reducible refine Kd.C_alloc ?_ _) | (with_reducible refine Kd.C_drewN ?_ _) | (with_reducible refine Kd.C_drew ?_)))
                (case aB => exact (hbx HB))
                (case aF => exact (fun _ _ => trivial))
                (case aO => exact (ro HO253))
                (case aS => exact (below_size (hbx HB)))
                (case aL => have := LMc2.out; omega)
                intro v255 w11 ho hb hg hat
                rw [← Ny254.out] at ho
                replace BK249 := Aside0.mk (blk_grown (bk BK249) hg (Kd.R_ne HO253.out BK249.out (by decide)))
                replace BK250 := Aside0.mk (blk_grown (bk BK250) hg (Kd.R_ne HO253.out BK250.out (by decide)))
                replace HB := Aside0.mk (hb)
                have HO256 := Aside0.mk (ho)
                clear HO253
                clear ho hb hg hat
                refine hK.out _ _ ⟨(blk_cell BK249.out 0).trans rfl, (blk_cell BK249.out 1).trans rfl, (blk_cell BK249.out 2).trans rfl, (blk_cell BK249.out 3).trans rfl⟩ (fun hHeld => ?_)
                clear hK K
                refine nrm (some 8) ?_
                exact npu (hJ2_5 (v252, v255) _ ⟨hHeld, (ro HO256), (bk BK249), (bk BK250), (hbx HB)⟩)
               ·skip
                refine Kd.R_lit_step (Kd.int .i64) _ 3 ?hg (N := 9) ?hd (xs := ([] : List Int)) (inner := []) (ok := fun _ => True) (okp := fun _ => True) ?hr ?hp (fun _ hk => hk) trivial (Below.refl _ _) (Nat.le_refl _) (by simp) ?_; (case hd => rfl); (case hg => rfl); (case hr => first | (go_simp; done) | (go_simp; rfl)); (case hp => exact (Reps.none _ _))
                intro v258 w11 ho12 hb hg_ hnew_
                clear hg_ hnew_
                (first | rw [← Ny257.out] at ho12 | (simp only [Int.reduceToNat] at ho12; rw [← Ny257.out] at ho12))
                replace HO253 := rB HO253 hb
                have HO259 := Aside0.mk (Kd.R_lower ho12 (below_size (hbx HB)))
                replace BK249 := bkB BK249 hb
                replace BK250 := bkB BK250 hb
                replace HB := hbS HB hb
                clear hb ho12
                refine hK.out _ _ ⟨(blk_cell BK249.out 0).trans rfl, (blk_cell BK249.out 1).trans rfl, (blk_cell BK249.out 2).trans rfl, (blk_cell BK249.out 3).trans rfl⟩ (fun hHeld => ?_)
                clear hK K
                refine nrm (some 9) ?_
                exact npu (hJ2_6 (v252, v258) _ ⟨hHeld, (ro HO253), (ro HO259), (bk BK249), (bk BK250), (hbx HB)⟩)
               ·skip
                refine Kd.R_lit_step (Kd.int .i64) _ 3 ?hg (N := 13) ?hd (xs := ([] : List Int)) (inner := []) (ok := fun _ => True) (okp := fun _ => True) ?hr ?hp (fun _ hk => hk) trivial (Below.refl _ _) (Nat.le_refl _) (by simp) ?_; (case hd => rfl); (case hg => rfl); (case hr => first | (go_simp; done) | (go_simp; rfl)); (case hp => exact (Reps.none _ _))
                intro v264 w11 ho12 hb hg_ hnew_
                clear hg_ hnew_
                (first | rw [← Ny263.out] at ho12 | (simp only [Int.reduceToNat] at ho12; rw [← Ny263.out] at ho12))
                replace HO253 := rB HO253 hb
                have HO265 := Aside0.mk (Kd.R_lower ho12 (below_size (hbx HB)))
                replace BK249 := bkB BK249 hb
                replace BK250 := bkB BK250 hb
                replace HB := hbS HB hb
                clear hb ho12
                refine hK.out _ _ ⟨(blk_cell BK249.out 0).trans rfl, (blk_cell BK249.out 1).trans rfl, (blk_cell BK249.out 2).trans rfl, (blk_cell BK249.out 3).trans rfl⟩ (fun hHeld => ?_)
                clear hK K
                refine nrm (some 13) ?_
                exact npu (hJ2_10 (v252, v264) _ ⟨hHeld, (ro HO253), (ro HO265), (bk BK249), (bk BK250), (hbx HB)⟩)
             ·skip
              rintro ⟨v258, v264⟩ w12 ⟨hS_, h0_, h1_, h2_, h3_, h4_⟩
              have n0_ : Aside0 (Kd.R (Kd.int .i64) 3 w12 w.heap.size (fun k_ => some k_ ≠ (v264 : Value).ownBlock) v258 y257) := ⟨h0_⟩
              have n1_ : Aside0 (Kd.R (Kd.int .i64) 3 w12 w.heap.size (fun k_ => some k_ ≠ (v258 : Value).ownBlock) v264 y263) := ⟨h1_⟩
              have n2_ : Aside0 (w12.heap[gb249]? = some (.cells #[.int .i64 a0_0, .slice A0_1 l0_1.length c0_1, .slice A0_2 l0_2.length c0_2, .slice A0_3 l0_3.length c0_3] 25 (0, 0))) := ⟨h2_⟩
              have n3_ : Aside0 (w12.heap[gb250]? = some (.cells #[.int .i64 0, .slice none 0 0, .slice none 0 0, .slice none 0 0] 25 (0, 0))) := ⟨h3_⟩
              have n4_ : Aside0 (Below w.heap.size w w12) := ⟨h4_⟩
              clear BK249
              clear BK250
              clear HB
              clear h0_ h1_ h2_ h3_ h4_
              have HO259 := n0_
              have HO265 := n1_
              have BK249 := n2_
              have BK250 := n3_
              have HB := n4_
              clear n0_ n1_ n2_ n3_ n4_
              have hHeld : w12.cell? ⟨gb249, 0, none⟩ = some (.int .i64 a0_0) ∧ w12.cell? ⟨gb249, 1, none⟩ = some (.slice A0_1 l0_1.length c0_1) ∧ w12.cell? ⟨gb249, 2, none⟩ = some (.slice A0_2 l0_2.length c0_2) ∧ w12.cell? ⟨gb249, 3, none⟩ = some (.slice A0_3 l0_3.length c0_3) := hS_
              refine norm_ (a' := ?_) ?_ ?_
              rotate_left
              ·simp only [putAll, Act.put, List.setIfInBounds_toArray, List.set_cons_zero, List.set_cons_succ]
               rfl
              refine one_ (i := 2) (N := some 5) #[true, true, true, true, true, false, true, true, true, false, true, true, true, false, false, false] rfl rfl (one_of HT_.out (by kernel_rfl)) (by decide) (fun K hK => ?_)
              refine Kd.R_lit_step k34 _ 34 ?hg (N := 5) ?hd (xs := ([] : List (S34))) (inner := []) (ok := fun _ => True) (okp := fun _ => True) ?hr ?hp (fun _ hk => hk) trivial (Below.refl _ _) (Nat.le_refl _) (by simp) ?_; (case hd => rfl); (case hg => rfl); (case hr => first | (go_simp; done) | (go_simp; rfl)); (case hp => exact (Reps.none _ _))
              intro v252 w13 ho14 hb hg_ hnew_
              clear hg_ hnew_
              (first | rw [← Ny251.out] at ho14 | (simp only [Int.reduceToNat] at ho14; rw [← Ny251.out] at ho14))
              replace HO259 := rB HO259 hb
              replace HO265 := rB HO265 hb
              have HO253 := Aside0.mk (Kd.R_lower ho14 (below_size (hbx HB)))
              replace BK249 := bkB BK249 hb
              replace BK250 := bkB BK250 hb
              replace HB := hbS HB hb
              clear hb ho14
              refine hK.out _ _ ⟨(blk_cell BK249.out 0).trans rfl, (blk_cell BK249.out 1).trans rfl, (blk_cell BK249.out 2).trans rfl, (blk_cell BK249.out 3).trans rfl⟩ (fun hHeld => ?_)
              clear hK K
              refine nrm (some 5) ?_
              exact npu (hJ2_6_10 (v252, v258, v264) _ ⟨hHeld, (ro HO253), (ro HO259), (ro HO265), (bk BK249), (bk BK250), (hbx HB)⟩)
            ·skip
             rintro ⟨v252, v264⟩ w12 ⟨hS_, h0_, h1_, h2_, h3_, h4_⟩
             have n0_ : Aside0 (Kd.R k34 34 w12 w.heap.size (fun _ => True) v252 y251) := ⟨h0_⟩
             have n1_ : Aside0 (Kd.R (Kd.int .i64) 3 w12 w.heap.size (fun _ => True) v264 y263) := ⟨h1_⟩
             have n2_ : Aside0 (w12.heap[gb249]? = some (.cells #[.int .i64 a0_0, .slice A0_1 l0_1.length c0_1, .slice A0_2 l0_2.length c0_2, .slice A0_3 l0_3.length c0_3] 25 (0, 0))) := ⟨h2_⟩
             have n3_ : Aside0 (w12.heap[gb250]? = some (.cells #[.int .i64 0, .slice none 0 0, .slice none 0 0, .slice none 0 0] 25 (0, 0))) := ⟨h3_⟩
             have n4_ : Aside0 (Below w.heap.size w w12) := ⟨h4_⟩
             clear BK249
             clear BK250
             clear HB
             clear h0_ h1_ h2_ h3_ h4_
             have HO253 := n0_
             have HO265 := n1_
             have BK249 := n2_
             have BK250 := n3_
             have HB := n4_
             clear n0_ n1_ n2_ n3_ n4_
             have hHeld : w12.cell? ⟨gb249, 0, none⟩ = some (.int .i64 a0_0) ∧ w12.cell? ⟨gb249, 1, none⟩ = some (.slice A0_1 l0_1.length c0_1) ∧ w12.cell? ⟨gb249, 2, none⟩ = some (.slice A0_2 l0_2.length c0_2) ∧ w12.cell? ⟨gb249, 3, none⟩ = some (.slice A0_3 l0_3.length c0_3) := hS_
             refine norm_ (a' := ?_) ?_ ?_
             rotate_left
             ·simp only [putAll, Act.put, List.setIfInBounds_toArray, List.set_cons_zero, List.set_cons_succ]
              rfl
             refine two_ (i := 5) (j := 6) (Ni := some 8) (Nj := some 9) #[true, true, true, true, true, true, false, true, true, false, true, true, true, false, false, false] #[true, true, true, true, true, false, true, true, true, false, true, true, true, false, false, false] rfl rfl rfl rfl (two_of HT_.out (by kernel_rfl)) (by decide) (by decide) (fun K hK => ?_) (fun K hK => ?_)
             ·skip
              refine Kd.R_append_rows_step k34 (w0 := w) w.heap.size (by rfl) (.tmp 5) (.tmp 7) 22 34 (.agg #[(.int .i64 0), (.int .i64 0)]) 16 rfl Try.underlying22 info34 rfl (by decide) (by omega) v252 y251 l0_1 _ _ _ (fun _ => True) (fun _ => False) rfl rfl ?aO ?aR (fun _ _ h => h) (fun _ h => h.elim) ?aF ?aB ?aS ?aL ?_
              (case aR => repeat (first | exact (Kd.C_below HR0_1.out HB.out) | (with_reducible refine Kd.C_alloc ?_ _) | (with_reducible refine Kd.C_drewN ?_ _) | (with_reducible refine Kd.C_drew ?_)))
              (case aB => exact (hbx HB))
              (case aF => exact (fun _ _ => trivial))
              (case aO => exact (ro HO253))
              (case aS => exact (below_size (hbx HB)))
              (case aL => have := LMc2.out; omega)
              intro v255 w13 ho hb hg hat
              rw [← Ny254.out] at ho
              replace BK249 := Aside0.mk (blk_grown (bk BK249) hg (Kd.R_ne HO253.out BK249.out (by decide)))
              replace BK250 := Aside0.mk (blk_grown (bk BK250) hg (Kd.R_ne HO253.out BK250.out (by decide)))
              replace HO265 := Aside0.mk (Kd.R_over' (ro HO265) (Kd.R_typed (ro HO253)) (by decide) hg)
              replace HB := Aside0.mk (hb)
              have HO256 := Aside0.mk (ho)
              clear HO253
              clear ho hb hg hat
              refine hK.out _ _ ⟨(blk_cell BK249.out 0).trans rfl, (blk_cell BK249.out 1).trans rfl, (blk_cell BK249.out 2).trans rfl, (blk_cell BK249.out 3).trans rfl⟩ (fun hHeld => ?_)
              clear hK K
              refine nrm (some 8) ?_
              exact npu (hJ2_5_10 (v252, v255, v264) _ ⟨hHeld, (ro HO256), (ro HO265), (bk BK249), (bk BK250), (hbx HB)⟩)
             ·skip
              refine Kd.R_lit_step (Kd.int .i64) _ 3 ?hg (N := 9) ?hd (xs := ([] : List Int)) (inner := []) (ok := fun _ => True) (okp := fun _ => True) ?hr ?hp (fun _ hk => hk) trivial (Below.refl _ _) (Nat.le_refl _) (by simp) ?_; (case hd => rfl); (case hg => rfl); (case hr => first | (go_simp; done) | (go_simp; rfl)); (case hp => exact (Reps.none _ _))
              intro v258 w13 ho14 hb hg_ hnew_
              clear hg_ hnew_
              (first | rw [← Ny257.out] at ho14 | (simp only [Int.reduceToNat] at ho14; rw [← Ny257.out] at ho14))
              replace HO253 := rB HO253 hb
              have HO259 := Aside0.mk (Kd.R_lower (Kd.R_new' ho14 (Kd.R_lt (ro HO265))) (below_size (hbx HB)))
              replace HO265 := Aside0.mk (Kd.R_elder' (ro HO265) (Kd.R_base ho14) hb)
              replace BK249 := bkB BK249 hb
              replace BK250 := bkB BK250 hb
              replace HB := hbS HB hb
              clear hb ho14
              refine hK.out _ _ ⟨(blk_cell BK249.out 0).trans rfl, (blk_cell BK249.out 1).trans rfl, (blk_cell BK249.out 2).trans rfl, (blk_cell BK249.out 3).trans rfl⟩ (fun hHeld => ?_)
              clear hK K
              refine nrm (some 9) ?_
              exact npu (hJ2_6_10 (v252, v258, v264) _ ⟨hHeld, (ro HO253), (by (with_reducible repeat (first | apply Kd.R_alloc | apply Kd.R_drewN | apply Kd.R_drew)); exact Kd.R_mono HO259.out (fun _ hk => hk.2)), (by (with_reducible repeat (first | apply Kd.R_alloc | apply Kd.R_drewN | apply Kd.R_drew)); exact Kd.R_mono HO265.out (fun _ hk => hk.2)), (bk BK249), (bk BK250), (hbx HB)⟩)
           ·skip
            rintro ⟨v252, v258⟩ w12 ⟨hS_, h0_, h1_, h2_, h3_, h4_⟩
            have n0_ : Aside0 (Kd.R k34 34 w12 w.heap.size (fun _ => True) v252 y251) := ⟨h0_⟩
            have n1_ : Aside0 (Kd.R (Kd.int .i64) 3 w12 w.heap.size (fun _ => True) v258 y257) := ⟨h1_⟩
            have n2_ : Aside0 (w12.heap[gb249]? = some (.cells #[.int .i64 a0_0, .slice A0_1 l0_1.length c0_1, .slice A0_2 l0_2.length c0_2, .slice A0_3 l0_3.length c0_3] 25 (0, 0))) := ⟨h2_⟩
            have n3_ : Aside0 (w12.heap[gb250]? = some (.cells #[.int .i64 0, .slice none 0 0, .slice none 0 0, .slice none 0 0] 25 (0, 0))) := ⟨h3_⟩
            have n4_ : Aside0 (Below w.heap.size w w12) := ⟨h4_⟩
            clear BK249
            clear BK250
            clear HB
            clear h0_ h1_ h2_ h3_ h4_
            have HO253 := n0_
            have HO259 := n1_
            have BK249 := n2_
            have BK250 := n3_
            have HB := n4_
            clear n0_ n1_ n2_ n3_ n4_
            have hHeld : w12.cell? ⟨gb249, 0, none⟩ = some (.int .i64 a0_0) ∧ w12.cell? ⟨gb249, 1, none⟩ = some (.slice A0_1 l0_1.length c0_1) ∧ w12.cell? ⟨gb249, 2, none⟩ = some (.slice A0_2 l0_2.length c0_2) ∧ w12.cell? ⟨gb249, 3, none⟩ = some (.slice A0_3 l0_3.length c0_3) := hS_
            refine norm_ (a' := ?_) ?_ ?_
            rotate_left
            ·simp only [putAll, Act.put, List.setIfInBounds_toArray, List.set_cons_zero, List.set_cons_succ]
             rfl
            refine two_ (i := 5) (j := 10) (Ni := some 8) (Nj := some 13) #[true, true, true, true, true, true, true, true, true, false, false, true, true, false, false, false] #[true, true, true, true, true, false, true, true, true, false, true, true, true, false, false, false] rfl rfl rfl rfl (two_of HT_.out (by kernel_rfl)) (by decide) (by decide) (fun K hK => ?_) (fun K hK => ?_)
            ·skip
             refine Kd.R_append_rows_step k34 (w0 := w) w.heap.size (by rfl) (.tmp 5) (.tmp 7) 22 34 (.agg #[(.int .i64 0), (.int .i64 0)]) 16 rfl Try.underlying22 info34 rfl (by decide) (by omega) v252 y251 l0_1 _ _ _ (fun _ => True) (fun _ => False) rfl rfl ?aO ?aR (fun _ _ h => h) (fun _ h => h.elim) ?aF ?aB ?aS ?aL ?_
             (case aR => repeat (first | exact (Kd.C_below HR0_1.out HB.out) | (with_reducible refine Kd.C_alloc ?_ _) | (with_reducible refine Kd.C_drewN ?_ _) | (with_reducible refine Kd.C_drew ?_)))
             (case aB => exact (hbx HB))
             (case aF => exact (fun _ _ => trivial))
             (case aO => exact (ro HO253))
             (case aS => exact (below_size (hbx HB)))
             (case aL => have := LMc2.out; omega)
             intro v255 w13 ho hb hg hat
             rw [← Ny254.out] at ho
             replace BK249 := Aside0.mk (blk_grown (bk BK249) hg (Kd.R_ne HO253.out BK249.out (by decide)))
             replace BK250 := Aside0.mk (blk_grown (bk BK250) hg (Kd.R_ne HO253.out BK250.out (by decide)))
             replace HO259 := Aside0.mk (Kd.R_over' (ro HO259) (Kd.R_typed (ro HO253)) (by decide) hg)
             replace HB := Aside0.mk (hb)
             have HO256 := Aside0.mk (ho)
             clear HO253
             clear ho hb hg hat
             refine hK.out _ _ ⟨(blk_cell BK249.out 0).trans rfl, (blk_cell BK249.out 1).trans rfl, (blk_cell BK249.out 2).trans rfl, (blk_cell BK249.out 3).trans rfl⟩ (fun hHeld => ?_)
             clear hK K
             refine nrm (some 8) ?_
             exact npu (hJ2_5_6 (v252, v255, v258) _ ⟨hHeld, (ro HO256), (ro HO259), (bk BK249), (bk BK250), (hbx HB)⟩)
            ·skip
             refine Kd.R_lit_step (Kd.int .i64) _ 3 ?hg (N := 13) ?hd (xs := ([] : List Int)) (inner := []) (ok := fun _ => True) (okp := fun _ => True) ?hr ?hp (fun _ hk => hk) trivial (Below.refl _ _) (Nat.le_refl _) (by simp) ?_; (case hd => rfl); (case hg => rfl); (case hr => first | (go_simp; done) | (go_simp; rfl)); (case hp => exact (Reps.none _ _))
             intro v264 w13 ho14 hb hg_ hnew_
             clear hg_ hnew_
             (first | rw [← Ny263.out] at ho14 | (simp only [Int.reduceToNat] at ho14; rw [← Ny263.out] at ho14))
             replace HO253 := rB HO253 hb
             have HO265 := Aside0.mk (Kd.R_lower (Kd.R_new' ho14 (Kd.R_lt (ro HO259))) (below_size (hbx HB)))
             replace HO259 := Aside0.mk (Kd.R_elder' (ro HO259) (Kd.R_base ho14) hb)
             replace BK249 := bkB BK249 hb
             replace BK250 := bkB BK250 hb
             replace HB := hbS HB hb
             clear hb ho14
             refine hK.out _ _ ⟨(blk_cell BK249.out 0).trans rfl, (blk_cell BK249.out 1).trans rfl, (blk_cell BK249.out 2).trans rfl, (blk_cell BK249.out 3).trans rfl⟩ (fun hHeld => ?_)
             clear hK K
             refine nrm (some 13) ?_
             exact npu (hJ2_6_10 (v252, v258, v264) _ ⟨hHeld, (ro HO253), (by (with_reducible repeat (first | apply Kd.R_alloc | apply Kd.R_drewN | apply Kd.R_drew)); exact Kd.R_mono HO259.out (fun _ hk => hk.2)), (by (with_reducible repeat (first | apply Kd.R_alloc | apply Kd.R_drewN | apply Kd.R_drew)); exact Kd.R_mono HO265.out (fun _ hk => hk.2)), (bk BK249), (bk BK250), (hbx HB)⟩)
          ·skip
           rintro ⟨v252, v255⟩ w11 ⟨hS_, h0_, h1_, h2_, h3_⟩
           have n0_ : Aside0 (Kd.R k34 34 w11 w.heap.size (fun _ => True) v255 y254) := ⟨h0_⟩
           have n1_ : Aside0 (w11.heap[gb249]? = some (.cells #[.int .i64 a0_0, .slice A0_1 l0_1.length c0_1, .slice A0_2 l0_2.length c0_2, .slice A0_3 l0_3.length c0_3] 25 (0, 0))) := ⟨h1_⟩
           have n2_ : Aside0 (w11.heap[gb250]? = some (.cells #[.int .i64 0, .slice none 0 0, .slice none 0 0, .slice none 0 0] 25 (0, 0))) := ⟨h2_⟩
           have n3_ : Aside0 (Below w.heap.size w w11) := ⟨h3_⟩
           clear BK249
           clear BK250
           clear HB
           clear h0_ h1_ h2_ h3_
           have HO256 := n0_
           have BK249 := n1_
           have BK250 := n2_
           have HB := n3_
           clear n0_ n1_ n2_ n3_
           have hHeld : w11.cell? ⟨gb249, 0, none⟩ = some (.int .i64 a0_0) ∧ w11.cell? ⟨gb249, 1, none⟩ = some (.slice A0_1 l0_1.length c0_1) ∧ w11.cell? ⟨gb249, 2, none⟩ = some (.slice A0_2 l0_2.length c0_2) ∧ w11.cell? ⟨gb249, 3, none⟩ = some (.slice A0_3 l0_3.length c0_3) := hS_
           refine norm_ (a' := ?_) ?_ ?_
           rotate_left
           ·simp only [putAll, Act.put, List.setIfInBounds_toArray, List.set_cons_zero, List.set_cons_succ]
            rfl
           refine two_ (i := 6) (j := 10) (Ni := some 9) (Nj := some 13) #[true, true, true, true, true, true, true, true, true, false, false, true, true, false, false, false] #[true, true, true, true, true, true, false, true, true, false, true, true, true, false, false, false] rfl rfl rfl rfl (two_of HT_.out (by kernel_rfl)) (by decide) (by decide) (fun K hK => ?_) (fun K hK => ?_)
           ·skip
            refine Kd.R_lit_step (Kd.int .i64) _ 3 ?hg (N := 9) ?hd (xs := ([] : List Int)) (inner := []) (ok := fun _ => True) (okp := fun _ => True) ?hr ?hp (fun _ hk => hk) trivial (Below.refl _ _) (Nat.le_refl _) (by simp) ?_; (case hd => rfl); (case hg => rfl); (case hr => first | (go_simp; done) | (go_simp; rfl)); (case hp => exact (Reps.none _ _))
            intro v258 w12 ho13 hb hg_ hnew_
            clear hg_ hnew_
            (first | rw [← Ny257.out] at ho13 | (simp only [Int.reduceToNat] at ho13; rw [← Ny257.out] at ho13))
            replace HO256 := rB HO256 hb
            have HO259 := Aside0.mk (Kd.R_lower ho13 (below_size (hbx HB)))
            replace BK249 := bkB BK249 hb
            replace BK250 := bkB BK250 hb
            replace HB := hbS HB hb
            clear hb ho13
            refine hK.out _ _ ⟨(blk_cell BK249.out 0).trans rfl, (blk_cell BK249.out 1).trans rfl, (blk_cell BK249.out 2).trans rfl, (blk_cell BK249.out 3).trans rfl⟩ (fun hHeld => ?_)
            clear hK K
            refine nrm (some 9) ?_
            exact npu (hJ2_5_6 (v252, v255, v258) _ ⟨hHeld, (ro HO256), (ro HO259), (bk BK249), (bk BK250), (hbx HB)⟩)
           ·skip
            refine Kd.R_lit_step (Kd.int .i64) _ 3 ?hg (N := 13) ?hd (xs := ([] : List Int)) (inner := []) (ok := fun _ => True) (okp := fun _ => True) ?hr ?hp (fun _ hk => hk) trivial (Below.refl _ _) (Nat.le_refl _) (by simp) ?_; (case hd => rfl); (case hg => rfl); (case hr => first | (go_simp; done) | (go_simp; rfl)); (case hp => exact (Reps.none _ _))
            intro v264 w12 ho13 hb hg_ hnew_
            clear hg_ hnew_
            (first | rw [← Ny263.out] at ho13 | (simp only [Int.reduceToNat] at ho13; rw [← Ny263.out] at ho13))
            replace HO256 := rB HO256 hb
            have HO265 := Aside0.mk (Kd.R_lower ho13 (below_size (hbx HB)))
            replace BK249 := bkB BK249 hb
            replace BK250 := bkB BK250 hb
            replace HB := hbS HB hb
            clear hb ho13
            refine hK.out _ _ ⟨(blk_cell BK249.out 0).trans rfl, (blk_cell BK249.out 1).trans rfl, (blk_cell BK249.out 2).trans rfl, (blk_cell BK249.out 3).trans rfl⟩ (fun hHeld => ?_)
            clear hK K
            refine nrm (some 13) ?_
            exact npu (hJ2_5_10 (v252, v255, v264) _ ⟨hHeld, (ro HO256), (ro HO265), (bk BK249), (bk BK250), (hbx HB)⟩)
         ·skip
          rintro ⟨v252, v258, v264⟩ w14 ⟨hS_, h0_, h1_, h2_, h3_, h4_, h5_⟩
          have n0_ : Aside0 (Kd.R k34 34 w14 w.heap.size (fun _ => True) v252 y251) := ⟨h0_⟩
          have n1_ : Aside0 (Kd.R (Kd.int .i64) 3 w14 w.heap.size (fun k_ => some k_ ≠ (v264 : Value).ownBlock) v258 y257) := ⟨h1_⟩
          have n2_ : Aside0 (Kd.R (Kd.int .i64) 3 w14 w.heap.size (fun k_ => some k_ ≠ (v258 : Value).ownBlock) v264 y263) := ⟨h2_⟩
          have n3_ : Aside0 (w14.heap[gb249]? = some (.cells #[.int .i64 a0_0, .slice A0_1 l0_1.length c0_1, .slice A0_2 l0_2.length c0_2, .slice A0_3 l0_3.length c0_3] 25 (0, 0))) := ⟨h3_⟩
          have n4_ : Aside0 (w14.heap[gb250]? = some (.cells #[.int .i64 0, .slice none 0 0, .slice none 0 0, .slice none 0 0] 25 (0, 0))) := ⟨h4_⟩
          have n5_ : Aside0 (Below w.heap.size w w14) := ⟨h5_⟩
          clear BK249
          clear BK250
          clear HB
          clear h0_ h1_ h2_ h3_ h4_ h5_
          have HO253 := n0_
          have HO259 := n1_
          have HO265 := n2_
          have BK249 := n3_
          have BK250 := n4_
          have HB := n5_
          clear n0_ n1_ n2_ n3_ n4_ n5_
          have hHeld : w14.cell? ⟨gb249, 0, none⟩ = some (.int .i64 a0_0) ∧ w14.cell? ⟨gb249, 1, none⟩ = some (.slice A0_1 l0_1.length c0_1) ∧ w14.cell? ⟨gb249, 2, none⟩ = some (.slice A0_2 l0_2.length c0_2) ∧ w14.cell? ⟨gb249, 3, none⟩ = some (.slice A0_3 l0_3.length c0_3) := hS_
          refine norm_ (a' := ?_) ?_ ?_
          rotate_left
          ·simp only [putAll, Act.put, List.setIfInBounds_toArray, List.set_cons_zero, List.set_cons_succ]
           rfl
          refine one_ (i := 5) (N := some 8) #[true, true, true, true, true, true, true, true, true, false, true, true, true, false, false, false] rfl rfl (one_of HT_.out (by kernel_rfl)) (by decide) (fun K hK => ?_)
          refine Kd.R_append_rows_step k34 (w0 := w) w.heap.size (by rfl) (.tmp 5) (.tmp 7) 22 34 (.agg #[(.int .i64 0), (.int .i64 0)]) 16 rfl Try.underlying22 info34 rfl (by decide) (by omega) v252 y251 l0_1 _ _ _ (fun _ => True) (fun _ => False) rfl rfl ?aO ?aR (fun _ _ h => h) (fun _ h => h.elim) ?aF ?aB ?aS ?aL ?_
          (case aR => repeat (first | exact (Kd.C_below HR0_1.out HB.out) | (with_reducible refine Kd.C_alloc ?_ _) | (with_reducible refine Kd.C_drewN ?_ _) | (with_reducible refine Kd.C_drew ?_)))
          (case aB => exact (hbx HB))
          (case aF => exact (fun _ _ => trivial))
          (case aO => exact (ro HO253))
          (case aS => exact (below_size (hbx HB)))
          (case aL => have := LMc2.out; omega)
          intro v255 w15 ho hb hg hat
          rw [← Ny254.out] at ho
          replace BK249 := Aside0.mk (blk_grown (bk BK249) hg (Kd.R_ne HO253.out BK249.out (by decide)))
          replace BK250 := Aside0.mk (blk_grown (bk BK250) hg (Kd.R_ne HO253.out BK250.out (by decide)))
          replace HO259 := Aside0.mk (Kd.R_over' (ro HO259) (Kd.R_typed (ro HO253)) (by decide) hg)
          replace HO265 := Aside0.mk (Kd.R_over' (ro HO265) (Kd.R_typed (ro HO253)) (by decide) hg)
          replace HB := Aside0.mk (hb)
          have HO256 := Aside0.mk (ho)
          clear HO253
          clear ho hb hg hat
          refine hK.out _ _ ⟨(blk_cell BK249.out 0).trans rfl, (blk_cell BK249.out 1).trans rfl, (blk_cell BK249.out 2).trans rfl, (blk_cell BK249.out 3).trans rfl⟩ (fun hHeld => ?_)
          clear hK K
          refine nrm (some 8) ?_
          exact npu (hJ2_5_6_10 (v252, v255, v258, v264) _ ⟨hHeld, (ro HO256), (ro HO259), (ro HO265), (bk BK249), (bk BK250), (hbx HB)⟩)
        ·skip
         rintro ⟨v252, v255, v264⟩ w13 ⟨hS_, h0_, h1_, h2_, h3_, h4_⟩
         have n0_ : Aside0 (Kd.R k34 34 w13 w.heap.size (fun _ => True) v255 y254) := ⟨h0_⟩
         have n1_ : Aside0 (Kd.R (Kd.int .i64) 3 w13 w.heap.size (fun _ => True) v264 y263) := ⟨h1_⟩
         have n2_ : Aside0 (w13.heap[gb249]? = some (.cells #[.int .i64 a0_0, .slice A0_1 l0_1.length c0_1, .slice A0_2 l0_2.length c0_2, .slice A0_3 l0_3.length c0_3] 25 (0, 0))) := ⟨h2_⟩
         have n3_ : Aside0 (w13.heap[gb250]? = some (.cells #[.int .i64 0, .slice none 0 0, .slice none 0 0, .slice none 0 0] 25 (0, 0))) := ⟨h3_⟩
         have n4_ : Aside0 (Below w.heap.size w w13) := ⟨h4_⟩
         clear BK249
         clear BK250
         clear HB
         clear h0_ h1_ h2_ h3_ h4_
         have HO256 := n0_
         have HO265 := n1_
         have BK249 := n2_
         have BK250 := n3_
         have HB := n4_
         clear n0_ n1_ n2_ n3_ n4_
         have hHeld : w13.cell? ⟨gb249, 0, none⟩ = some (.int .i64 a0_0) ∧ w13.cell? ⟨gb249, 1, none⟩ = some (.slice A0_1 l0_1.length c0_1) ∧ w13.cell? ⟨gb249, 2, none⟩ = some (.slice A0_2 l0_2.length c0_2) ∧ w13.cell? ⟨gb249, 3, none⟩ = some (.slice A0_3 l0_3.length c0_3) := hS_
         refine norm_ (a' := ?_) ?_ ?_
         rotate_left
         ·simp only [putAll, Act.put, List.setIfInBounds_toArray, List.set_cons_zero, List.set_cons_succ]
          rfl
         refine one_ (i := 6) (N := some 9) #[true, true, true, true, true, true, true, true, true, false, true, true, true, false, false, false] rfl rfl (one_of HT_.out (by kernel_rfl)) (by decide) (fun K hK => ?_)
         refine Kd.R_lit_step (Kd.int .i64) _ 3 ?hg (N := 9) ?hd (xs := ([] : List Int)) (inner := []) (ok := fun _ => True) (okp := fun _ => True) ?hr ?hp (fun _ hk => hk) trivial (Below.refl _ _) (Nat.le_refl _) (by simp) ?_; (case hd => rfl); (case hg => rfl); (case hr => first | (go_simp; done) | (go_simp; rfl)); (case hp => exact (Reps.none _ _))
         intro v258 w14 ho15 hb hg_ hnew_
         clear hg_ hnew_
         (first | rw [← Ny257.out] at ho15 | (simp only [Int.reduceToNat] at ho15; rw [← Ny257.out] at ho15))
         replace HO256 := rB HO256 hb
         have HO259 := Aside0.mk (Kd.R_lower (Kd.R_new' ho15 (Kd.R_lt (ro HO265))) (below_size (hbx HB)))
         replace HO265 := Aside0.mk (Kd.R_elder' (ro HO265) (Kd.R_base ho15) hb)
         replace BK249 := bkB BK249 hb
         replace BK250 := bkB BK250 hb
         replace HB := hbS HB hb
         clear hb ho15
         refine hK.out _ _ ⟨(blk_cell BK249.out 0).trans rfl, (blk_cell BK249.out 1).trans rfl, (blk_cell BK249.out 2).trans rfl, (blk_cell BK249.out 3).trans rfl⟩ (fun hHeld => ?_)
         clear hK K
         refine nrm (some 9) ?_
         exact npu (hJ2_5_6_10 (v252, v255, v258, v264) _ ⟨hHeld, (ro HO256), (by (with_reducible repeat (first | apply Kd.R_alloc | apply Kd.R_drewN | apply Kd.R_drew)); exact Kd.R_mono HO259.out (fun _ hk => hk.2)), (by (with_reducible repeat (first | apply Kd.R_alloc | apply Kd.R_drewN | apply Kd.R_drew)); exact Kd.R_mono HO265.out (fun _ hk => hk.2)), (bk BK249), (bk BK250), (hbx HB)⟩)
       ·skip
        rintro ⟨v252, v255, v258⟩ w13 ⟨hS_, h0_, h1_, h2_, h3_, h4_⟩
        have n0_ : Aside0 (Kd.R k34 34 w13 w.heap.size (fun _ => True) v255 y254) := ⟨h0_⟩
        have n1_ : Aside0 (Kd.R (Kd.int .i64) 3 w13 w.heap.size (fun _ => True) v258 y257) := ⟨h1_⟩
        have n2_ : Aside0 (w13.heap[gb249]? = some (.cells #[.int .i64 a0_0, .slice A0_1 l0_1.length c0_1, .slice A0_2 l0_2.length c0_2, .slice A0_3 l0_3.length c0_3] 25 (0, 0))) := ⟨h2_⟩
        have n3_ : Aside0 (w13.heap[gb250]? = some (.cells #[.int .i64 0, .slice none 0 0, .slice none 0 0, .slice none 0 0] 25 (0, 0))) := ⟨h3_⟩
        have n4_ : Aside0 (Below w.heap.size w w13) := ⟨h4_⟩
        clear BK249
        clear BK250
        clear HB
        clear h0_ h1_ h2_ h3_ h4_
        have HO256 := n0_
        have HO259 := n1_
        have BK249 := n2_
        have BK250 := n3_
        have HB := n4_
        clear n0_ n1_ n2_ n3_ n4_
        have hHeld : w13.cell? ⟨gb249, 0, none⟩ = some (.int .i64 a0_0) ∧ w13.cell? ⟨gb249, 1, none⟩ = some (.slice A0_1 l0_1.length c0_1) ∧ w13.cell? ⟨gb249, 2, none⟩ = some (.slice A0_2 l0_2.length c0_2) ∧ w13.cell? ⟨gb249, 3, none⟩ = some (.slice A0_3 l0_3.length c0_3) := hS_
        refine norm_ (a' := ?_) ?_ ?_
        rotate_left
        ·simp only [putAll, Act.put, List.setIfInBounds_toArray, List.set_cons_zero, List.set_cons_succ]
         rfl
        refine two_ (i := 9) (j := 10) (Ni := some 12) (Nj := some 13) #[true, true, true, true, true, true, true, true, true, true, false, true, true, false, false, false] #[true, true, true, true, true, true, true, true, true, false, true, true, true, false, false, false] rfl rfl rfl rfl (two_of HT_.out (by kernel_rfl)) (by decide) (by decide) (fun K hK => ?_) (fun K hK => ?_)
        ·skip
         refine Kd.R_append_rows_step (Kd.int .i64) (w0 := w) w.heap.size (by rfl) (.tmp 9) (.tmp 11) 23 3 (.int .i64 0) 8 rfl Try.underlying23 info3 rfl (by decide) (by omega) v258 y257 l0_2 _ _ _ (fun _ => True) (fun _ => False) rfl rfl ?aO ?aR (fun _ _ h => h) (fun _ h => h.elim) ?aF ?aB ?aS ?aL ?_
         (case aR => repeat (first | exact (Kd.C_below HR0_2.out HB.out) | (with_reducible refine Kd.C_alloc ?_ _) | (with_reducible refine Kd.C_drewN ?_ _) | (with_reducible refine Kd.C_drew ?_)))
         (case aB => exact (hbx HB))
         (case aF => exact (fun _ _ => trivial))
         (case aO => exact (ro HO259))
         (case aS => exact (below_size (hbx HB)))
         (case aL => have := LMc3.out; omega)
         intro v261 w14 ho hb hg hat
         rw [← Ny260.out] at ho
         replace BK249 := Aside0.mk (blk_grown (bk BK249) hg (Kd.R_ne HO259.out BK249.out (by decide)))
         replace BK250 := Aside0.mk (blk_grown (bk BK250) hg (Kd.R_ne HO259.out BK250.out (by decide)))
         replace HO256 := Aside0.mk (Kd.R_over' (ro HO256) (Kd.R_typed (ro HO259)) (by decide) hg)
         replace HB := Aside0.mk (hb)
         have HO262 := Aside0.mk (ho)
         clear HO259
         clear ho hb hg hat
         refine hK.out _ _ ⟨(blk_cell BK249.out 0).trans rfl, (blk_cell BK249.out 1).trans rfl, (blk_cell BK249.out 2).trans rfl, (blk_cell BK249.out 3).trans rfl⟩ (fun hHeld => ?_)
         clear hK K
         refine nrm (some 12) ?_
         exact npu (hJ2_5_6_9 (v252, v255, v258, v261) _ ⟨hHeld, (ro HO256), (ro HO262), (bk BK249), (bk BK250), (hbx HB)⟩)
        ·skip
         refine Kd.R_lit_step (Kd.int .i64) _ 3 ?hg (N := 13) ?hd (xs := ([] : List Int)) (inner := []) (ok := fun _ => True) (okp := fun _ => True) ?hr ?hp (fun _ hk => hk) trivial (Below.refl _ _) (Nat.le_refl _) (by simp) ?_; (case hd => rfl); (case hg => rfl); (case hr => first | (go_simp; done) | (go_simp; rfl)); (case hp => exact (Reps.none _ _))
         intro v264 w14 ho15 hb hg_ hnew_
         clear hg_ hnew_
         (first | rw [← Ny263.out] at ho15 | (simp only [Int.reduceToNat] at ho15; rw [← Ny263.out] at ho15))
         replace HO256 := rB HO256 hb
         have HO265 := Aside0.mk (Kd.R_lower (Kd.R_new' ho15 (Kd.R_lt (ro HO259))) (below_size (hbx HB)))
         replace HO259 := Aside0.mk (Kd.R_elder' (ro HO259) (Kd.R_base ho15) hb)
         replace BK249 := bkB BK249 hb
         replace BK250 := bkB BK250 hb
         replace HB := hbS HB hb
         clear hb ho15
         refine hK.out _ _ ⟨(blk_cell BK249.out 0).trans rfl, (blk_cell BK249.out 1).trans rfl, (blk_cell BK249.out 2).trans rfl, (blk_cell BK249.out 3).trans rfl⟩ (fun hHeld => ?_)
         clear hK K
         refine nrm (some 13) ?_
         exact npu (hJ2_5_6_10 (v252, v255, v258, v264) _ ⟨hHeld, (ro HO256), (by (with_reducible repeat (first | apply Kd.R_alloc | apply Kd.R_drewN | apply Kd.R_drew)); exact Kd.R_mono HO259.out (fun _ hk => hk.2)), (by (with_reducible repeat (first | apply Kd.R_alloc | apply Kd.R_drewN | apply Kd.R_drew)); exact Kd.R_mono HO265.out (fun _ hk => hk.2)), (bk BK249), (bk BK250), (hbx HB)⟩)
      ·skip
       rintro ⟨v252, v255, v258, v264⟩ w15 ⟨hS_, h0_, h1_, h2_, h3_, h4_, h5_⟩
       have n0_ : Aside0 (Kd.R k34 34 w15 w.heap.size (fun _ => True) v255 y254) := ⟨h0_⟩
       have n1_ : Aside0 (Kd.R (Kd.int .i64) 3 w15 w.heap.size (fun k_ => some k_ ≠ (v264 : Value).ownBlock) v258 y257) := ⟨h1_⟩
       have n2_ : Aside0 (Kd.R (Kd.int .i64) 3 w15 w.heap.size (fun k_ => some k_ ≠ (v258 : Value).ownBlock) v264 y263) := ⟨h2_⟩
       have n3_ : Aside0 (w15.heap[gb249]? = some (.cells #[.int .i64 a0_0, .slice A0_1 l0_1.length c0_1, .slice A0_2 l0_2.length c0_2, .slice A0_3 l0_3.length c0_3] 25 (0, 0))) := ⟨h3_⟩
       have n4_ : Aside0 (w15.heap[gb250]? = some (.cells #[.int .i64 0, .slice none 0 0, .slice none 0 0, .slice none 0 0] 25 (0, 0))) := ⟨h4_⟩
       have n5_ : Aside0 (Below w.heap.size w w15) := ⟨h5_⟩
       clear BK249
       clear BK250
       clear HB
       clear h0_ h1_ h2_ h3_ h4_ h5_
       have HO256 := n0_
       have HO259 := n1_
       have HO265 := n2_
       have BK249 := n3_
       have BK250 := n4_
       have HB := n5_
       clear n0_ n1_ n2_ n3_ n4_ n5_
       have hHeld : w15.cell? ⟨gb249, 0, none⟩ = some (.int .i64 a0_0) ∧ w15.cell? ⟨gb249, 1, none⟩ = some (.slice A0_1 l0_1.length c0_1) ∧ w15.cell? ⟨gb249, 2, none⟩ = some (.slice A0_2 l0_2.length c0_2) ∧ w15.cell? ⟨gb249, 3, none⟩ = some (.slice A0_3 l0_3.length c0_3) := hS_
       refine norm_ (a' := ?_) ?_ ?_
       rotate_left
       ·simp only [putAll, Act.put, List.setIfInBounds_toArray, List.set_cons_zero, List.set_cons_succ]
        rfl
       refine one_ (i := 9) (N := some 12) #[true, true, true, true, true, true, true, true, true, true, true, true, true, false, false, false] rfl rfl (one_of HT_.out (by kernel_rfl)) (by decide) (fun K hK => ?_)
       refine Kd.R_append_rows_step (Kd.int .i64) (w0 := w) w.heap.size (by rfl) (.tmp 9) (.tmp 11) 23 3 (.int .i64 0) 8 rfl Try.underlying23 info3 rfl (by decide) (by omega) v258 y257 l0_2 _ _ _ (fun k_ => some k_ ≠ (v264 : Value).ownBlock) (fun _ => False) rfl rfl ?aO ?aR (fun _ _ h => h) (fun _ h => h.elim) ?aF ?aB ?aS ?aL ?_
       (case aR => repeat (first | exact (Kd.C_below HR0_2.out HB.out) | (with_reducible refine Kd.C_alloc ?_ _) | (with_reducible refine Kd.C_drewN ?_ _) | (with_reducible refine Kd.C_drew ?_)))
       (case aB => exact (hbx HB))
       (case aF => exact (fun k_ hk => Kd.fresh' (Kd.R_lt (ro HO265)) k_ hk))
       (case aO => exact (ro HO259))
       (case aS => exact (below_size (hbx HB)))
       (case aL => have := LMc3.out; omega)
       intro v261 w16 ho hb hg hat
       rw [← Ny260.out] at ho
       replace BK249 := Aside0.mk (blk_grown (bk BK249) hg (Kd.R_ne HO259.out BK249.out (by decide)))
       replace BK250 := Aside0.mk (blk_grown (bk BK250) hg (Kd.R_ne HO259.out BK250.out (by decide)))
       replace HO256 := Aside0.mk (Kd.R_over' (ro HO256) (Kd.R_typed (ro HO259)) (by decide) hg)
       replace HO265 := Aside0.mk (Kd.R_after (ok := (fun _ => True)) (by (with_reducible repeat (first | apply Kd.R_alloc | apply Kd.R_drewN | apply Kd.R_drew)); exact Kd.R_mono HO265.out (fun _ hk => ⟨trivial, hk⟩)) hg hat)
       replace HB := Aside0.mk (hb)
       have HO262 := Aside0.mk (ho)
       clear HO259
       clear ho hb hg hat
       refine hK.out _ _ ⟨(blk_cell BK249.out 0).trans rfl, (blk_cell BK249.out 1).trans rfl, (blk_cell BK249.out 2).trans rfl, (blk_cell BK249.out 3).trans rfl⟩ (fun hHeld => ?_)
       clear hK K
       refine nrm (some 12) ?_
       exact npu (hJ2_5_6_9_10 (v252, v255, v258, v261, v264) _ ⟨hHeld, (ro HO256), (ro HO262), (by (with_reducible repeat (first | apply Kd.R_alloc | apply Kd.R_drewN | apply Kd.R_drew)); exact Kd.R_mono HO265.out (fun _ hk => hk.2)), (bk BK249), (bk BK250), (hbx HB)⟩)
     ·skip
      rintro ⟨v252, v255, v258, v261⟩ w14 ⟨hS_, h0_, h1_, h2_, h3_, h4_⟩
      have n0_ : Aside0 (Kd.R k34 34 w14 w.heap.size (fun _ => True) v255 y254) := ⟨h0_⟩
      have n1_ : Aside0 (Kd.R (Kd.int .i64) 3 w14 w.heap.size (fun _ => True) v261 y260) := ⟨h1_⟩
      have n2_ : Aside0 (w14.heap[gb249]? = some (.cells #[.int .i64 a0_0, .slice A0_1 l0_1.length c0_1, .slice A0_2 l0_2.length c0_2, .slice A0_3 l0_3.length c0_3] 25 (0, 0))) := ⟨h2_⟩
      have n3_ : Aside0 (w14.heap[gb250]? = some (.cells #[.int .i64 0, .slice none 0 0, .slice none 0 0, .slice none 0 0] 25 (0, 0))) := ⟨h3_⟩
      have n4_ : Aside0 (Below w.heap.size w w14) := ⟨h4_⟩
      clear BK249
      clear BK250
      clear HB
      clear h0_ h1_ h2_ h3_ h4_
      have HO256 := n0_
      have HO262 := n1_
      have BK249 := n2_
      have BK250 := n3_
      have HB := n4_
      clear n0_ n1_ n2_ n3_ n4_
      have hHeld : w14.cell? ⟨gb249, 0, none⟩ = some (.int .i64 a0_0) ∧ w14.cell? ⟨gb249, 1, none⟩ = some (.slice A0_1 l0_1.length c0_1) ∧ w14.cell? ⟨gb249, 2, none⟩ = some (.slice A0_2 l0_2.length c0_2) ∧ w14.cell? ⟨gb249, 3, none⟩ = some (.slice A0_3 l0_3.length c0_3) := hS_
      refine norm_ (a' := ?_) ?_ ?_
      rotate_left
      ·simp only [putAll, Act.put, List.setIfInBounds_toArray, List.set_cons_zero, List.set_cons_succ]
       rfl
      refine one_ (i := 10) (N := some 13) #[true, true, true, true, true, true, true, true, true, true, true, true, true, false, false, false] rfl rfl (one_of HT_.out (by kernel_rfl)) (by decide) (fun K hK => ?_)
      refine Kd.R_lit_step (Kd.int .i64) _ 3 ?hg (N := 13) ?hd (xs := ([] : List Int)) (inner := []) (ok := fun _ => True) (okp := fun _ => True) ?hr ?hp (fun _ hk => hk) trivial (Below.refl _ _) (Nat.le_refl _) (by simp) ?_; (case hd => rfl); (case hg => rfl); (case hr => first | (go_simp; done) | (go_simp; rfl)); (case hp => exact (Reps.none _ _))
      intro v264 w15 ho16 hb hg_ hnew_
      clear hg_ hnew_
      (first | rw [← Ny263.out] at ho16 | (simp only [Int.reduceToNat] at ho16; rw [← Ny263.out] at ho16))
      replace HO256 := rB HO256 hb
      have HO265 := Aside0.mk (Kd.R_lower (Kd.R_new' ho16 (Kd.R_lt (ro HO262))) (below_size (hbx HB)))
      replace HO262 := Aside0.mk (Kd.R_elder' (ro HO262) (Kd.R_base ho16) hb)
      replace BK249 := bkB BK249 hb
      replace BK250 := bkB BK250 hb
      replace HB := hbS HB hb
      clear hb ho16
      refine hK.out _ _ ⟨(blk_cell BK249.out 0).trans rfl, (blk_cell BK249.out 1).trans rfl, (blk_cell BK249.out 2).trans rfl, (blk_cell BK249.out 3).trans rfl⟩ (fun hHeld => ?_)
      clear hK K
      refine nrm (some 13) ?_
      exact npu (hJ2_5_6_9_10 (v252, v255, v258, v261, v264) _ ⟨hHeld, (ro HO256), (by (with_reducible repeat (first | apply Kd.R_alloc | apply Kd.R_drewN | apply Kd.R_drew)); exact Kd.R_mono HO262.out (fun _ hk => hk.2)), (by (with_reducible repeat (first | apply Kd.R_alloc | apply Kd.R_drewN | apply Kd.R_drew)); exact Kd.R_mono HO265.out (fun _ hk => hk.2)), (bk BK249), (bk BK250), (hbx HB)⟩)
    rintro ⟨v252, v255, v258, v261, v264⟩ w16 ⟨hS_, h0_, h1_, h2_, h3_, h4_, h5_⟩
    have n0_ : Aside0 (Kd.R k34 34 w16 w.heap.size (fun _ => True) v255 y254) := ⟨h0_⟩
    have n1_ : Aside0 (Kd.R (Kd.int .i64) 3 w16 w.heap.size (fun k_ => some k_ ≠ (v264 : Value).ownBlock) v261 y260) := ⟨h1_⟩
    have n2_ : Aside0 (Kd.R (Kd.int .i64) 3 w16 w.heap.size (fun k_ => some k_ ≠ (v261 : Value).ownBlock) v264 y263) := ⟨h2_⟩
    have n3_ : Aside0 (w16.heap[gb249]? = some (.cells #[.int .i64 a0_0, .slice A0_1 l0_1.length c0_1, .slice A0_2 l0_2.length c0_2, .slice A0_3 l0_3.length c0_3] 25 (0, 0))) := ⟨h3_⟩
    have n4_ : Aside0 (w16.heap[gb250]? = some (.cells #[.int .i64 0, .slice none 0 0, .slice none 0 0, .slice none 0 0] 25 (0, 0))) := ⟨h4_⟩
    have n5_ : Aside0 (Below w.heap.size w w16) := ⟨h5_⟩
    clear BK249
    clear BK250
    clear HB
    clear h0_ h1_ h2_ h3_ h4_ h5_
    have HO256 := n0_
    have HO262 := n1_
    have HO265 := n2_
    have BK249 := n3_
    have BK250 := n4_
    have HB := n5_
    clear n0_ n1_ n2_ n3_ n4_ n5_
    have hHeld : w16.cell? ⟨gb249, 0, none⟩ = some (.int .i64 a0_0) ∧ w16.cell? ⟨gb249, 1, none⟩ = some (.slice A0_1 l0_1.length c0_1) ∧ w16.cell? ⟨gb249, 2, none⟩ = some (.slice A0_2 l0_2.length c0_2) ∧ w16.cell? ⟨gb249, 3, none⟩ = some (.slice A0_3 l0_3.length c0_3) := hS_
    refine norm_ (a' := ?_) ?_ ?_
    rotate_left
    ·simp only [putAll, Act.put, List.setIfInBounds_toArray, List.set_cons_zero, List.set_cons_succ]
     rfl
    refine one_ (i := 13) (N := some 16) #[true, true, true, true, true, true, true, true, true, true, true, true, true, true, false, false] rfl rfl (one_of HT_.out (by kernel_rfl)) (by decide) (fun K hK => ?_)
    refine Kd.R_append_rows_step (Kd.int .i64) (w0 := w) w.heap.size (by rfl) (.tmp 13) (.tmp 15) 23 3 (.int .i64 0) 8 rfl Try.underlying23 info3 rfl (by decide) (by omega) v264 y263 l0_3 _ _ _ (fun k_ => some k_ ≠ (v261 : Value).ownBlock) (fun _ => False) rfl rfl ?aO ?aR (fun _ _ h => h) (fun _ h => h.elim) ?aF ?aB ?aS ?aL ?_
    (case aR => repeat (first | exact (Kd.C_below HR0_3.out HB.out) | (with_reducible refine Kd.C_alloc ?_ _) | (with_reducible refine Kd.C_drewN ?_ _) | (with_reducible refine Kd.C_drew ?_)))
    (case aB => exact (hbx HB))
    (case aF => exact (fun k_ hk => Kd.fresh' (Kd.R_lt (ro HO262)) k_ hk))
    (case aO => exact (ro HO265))
    (case aS => exact (below_size (hbx HB)))
    (case aL => have := LMc4.out; omega)
    intro v267 w17 ho hb hg hat
    rw [← Ny266.out] at ho
    replace BK249 := Aside0.mk (blk_grown (bk BK249) hg (Kd.R_ne HO265.out BK249.out (by decide)))
    replace BK250 := Aside0.mk (blk_grown (bk BK250) hg (Kd.R_ne HO265.out BK250.out (by decide)))
    replace HO256 := Aside0.mk (Kd.R_over' (ro HO256) (Kd.R_typed (ro HO265)) (by decide) hg)
    replace HO262 := Aside0.mk (Kd.R_after (ok := (fun _ => True)) (by (with_reducible repeat (first | apply Kd.R_alloc | apply Kd.R_drewN | apply Kd.R_drew)); exact Kd.R_mono HO262.out (fun _ hk => ⟨trivial, hk⟩)) hg hat)
    replace HB := Aside0.mk (hb)
    have HO268 := Aside0.mk (ho)
    clear HO265
    clear ho hb hg hat
    obtain ⟨Ao18, co18, eo18⟩ := Kd.R_slice HO268.out
    (first | subst eo18 | (injection eo18 with f1_ f2_ f3_; have f4_ := f1_.symm; have f5_ := f3_.symm; clear f1_ f2_ f3_; subst f4_; subst f5_))
    obtain ⟨Ao19, co19, eo19⟩ := Kd.R_slice HO262.out
    (first | subst eo19 | (injection eo19 with f1_ f2_ f3_; have f4_ := f1_.symm; have f5_ := f3_.symm; clear f1_ f2_ f3_; subst f4_; subst f5_))
    obtain ⟨Ao20, co20, eo20⟩ := Kd.R_slice HO256.out
    (first | subst eo20 | (injection eo20 with f1_ f2_ f3_; have f4_ := f1_.symm; have f5_ := f3_.symm; clear f1_ f2_ f3_; subst f4_; subst f5_))
    refine hK.out _ _ ⟨(blk_cell BK249.out 0).trans rfl, (blk_cell BK249.out 1).trans rfl, (blk_cell BK249.out 2).trans rfl, (blk_cell BK249.out 3).trans rfl⟩ (fun hHeld => ?_)
    clear hK K
    refine nrm (some 16) ?_
    refine pur 14 (some 17) #[true, true, true, true, true, true, true, true, true, true, true, true, true, true, true, false] HT_ ?_
    refine one_ (i := 15) (N := none) #[true, true, true, true, true, true, true, true, true, true, true, true, true, true, true, true] rfl rfl (one_of HT_.out (by kernel_rfl)) (by decide) (fun K hK => ?_)
    have hs21 : w17.cell? ⟨gb250, 0, none⟩ = some (.int .i64 0) := (blk_cell BK250.out 0).trans rfl
    have hfs21 := blk_frozen BK250.out 0
    have hns21_0 := NB249_250.out
    have hms21_0 := NB250_249.out
    have hs22 : w17.cell? ⟨gb250, 1, none⟩ = some (.slice none 0 0) := (blk_cell BK250.out 1).trans rfl
    have hfs22 := blk_frozen BK250.out 1
    have hns22_0 := NB249_250.out
    have hms22_0 := NB250_249.out
    have hs23 : w17.cell? ⟨gb250, 2, none⟩ = some (.slice none 0 0) := (blk_cell BK250.out 2).trans rfl
    have hfs23 := blk_frozen BK250.out 2
    have hns23_0 := NB249_250.out
    have hms23_0 := NB250_249.out
    have hs24 : w17.cell? ⟨gb250, 3, none⟩ = some (.slice none 0 0) := (blk_cell BK250.out 3).trans rfl
    have hfs24 := blk_frozen BK250.out 3
    have hns24_0 := NB249_250.out
    have hms24_0 := NB250_249.out
    refine skip_ (w1 := ?_) (by rfl) rfl ?_ ?_
    rotate_left
    ·go_simp
     rfl
    refine hK.out _ _ ⟨((cell_far (p := ⟨gb250, _, none⟩) NB249_250.out _).trans (((cell_far (p := ⟨gb250, _, none⟩) NB249_250.out _).trans (((cell_far (p := ⟨gb250, _, none⟩) NB249_250.out _).trans (((cell_far (p := ⟨gb250, _, none⟩) NB249_250.out _).trans (hHeld.1)))))))), ((cell_far (p := ⟨gb250, _, none⟩) NB249_250.out _).trans (((cell_far (p := ⟨gb250, _, none⟩) NB249_250.out _).trans (((cell_far (p := ⟨gb250, _, none⟩) NB249_250.out _).trans (((cell_far (p := ⟨gb250, _, none⟩) NB249_250.out _).trans (hHeld.2.1)))))))), ((cell_far (p := ⟨gb250, _, none⟩) NB249_250.out _).trans (((cell_far (p := ⟨gb250, _, none⟩) NB249_250.out _).trans (((cell_far (p := ⟨gb250, _, none⟩) NB249_250.out _).trans (((cell_far (p := ⟨gb250, _, none⟩) NB249_250.out _).trans (hHeld.2.2.1)))))))), ((cell_far (p := ⟨gb250, _, none⟩) NB249_250.out _).trans (((cell_far (p := ⟨gb250, _, none⟩) NB249_250.out _).trans (((cell_far (p := ⟨gb250, _, none⟩) NB249_250.out _).trans (((cell_far (p := ⟨gb250, _, none⟩) NB249_250.out _).trans (hHeld.2.2.2))))))))⟩ (fun hHeld => ?_)
    clear hK K
    refine done_ (done_of HT_.out (by kernel_rfl)) ?_
    try go_wp2
    refine bodyPost_ret (results_cell_row rfl _ _ gb250 25 #[.int .i64 a0_0, .slice Ao20 y254.length co20, .slice Ao19 y260.length co19, .slice Ao18 y266.length co18] (0, 0) _ rfl (bkp BK250) Try.underlying25 rfl (by kernel_rfl)) rfl ?_
    exact ⟨_, _, _, rerr, Kd.R_mono (rty (rfo HO256) BK250) (fun _ hk => trivial), Kd.R_mono (rty (rfo HO262) BK250) (fun _ hk => hk.1.2), rfo HO268, hbx HB⟩
   ·rw [if_neg c4] at H
    exact absurd H (by simp)
  ·rw [if_neg c3] at H
   exact absurd H (by simp)
 ·rw [if_neg c2] at H
  exact absurd H (by simp)
end Go.Proofs.Ytnipgplobipeeaa.PQ
