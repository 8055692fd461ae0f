-- Printed by fprint.py and zip.py, programs of this session's, over the kit's print; Lean checks it.
import Derived.Test.YtnipgplobipeeaaZ0
import Derived.Test.YtnipgplobipeeaaZf13
import Derived.Test.YtnipgplobipeeaaZf39
namespace Go.Proofs.Ytnipgplobipeeaa.PQ
open Go.RowKit Go.Proofs.YtnipgplobipeeaaW.PrintWords Go.Proofs.YtnipgplobipeeaaW.PrintLast Go.Proofs.YtnipgplobipeeaaW.PrintMore
attribute [local go_sem] max2_int min2_int max_two min_two max_three min_three max_four min_four   -- for this text's walks alone
set_option linter.unusedVariables false
set_option linter.unusedSimpArgs false
mutual
def hopmeshref12_Merge.j0 : Nat → Bool → Int → List (S34) → List Int → List Int → Int → List (S34) → List Int → List Int → Option (Int × (List (S34)) × List Int × List Int × Int)
 | 0, _, _, _, _, _, _, _, _, _ => none
 | k + 1, x16, x481000, x481001, x481002, x481003, x482000, x482001, x482002, x482003 => if x16 = true then (some (0, ([] : List (S34)), ([] : List Int), ([] : List Int), 1)) else (if x481000 = x482000 then (hopmeshref12_Merge.l0 k 0 x481000 x481001 x481002 x481003 x482000 x482001 x482002 x482003) else (some (0, ([] : List (S34)), ([] : List Int), ([] : List Int), 11)))
def hopmeshref12_Merge.l0 : Nat → Int → Int → List (S34) → List Int → List Int → Int → List (S34) → List Int → List Int → Option (Int × (List (S34)) × List Int × List Int × Int)
 | 0, _, _, _, _, _, _, _, _, _ => none
 | k + 1, x6, x481000, x481001, x481002, x481003, x482000, x482001, x482002, x482003 => if x6 < 16 then (if 0 ≤ x6 then (if x6 < (x481002.length : Int) then (if x6 < (x482002.length : Int) then (if (rd x481002 x6) = (rd x482002 x6) then (if x6 < (x481003.length : Int) then (if x6 < (x482003.length : Int) then (if (rd x481003 x6) = (rd x482003 x6) then (hopmeshref12_Merge.l0 k (wrap64 (x6 + 1)) x481000 x481001 x481002 x481003 x482000 x482001 x482002 x482003) else (some (0, ([] : List (S34)), ([] : List Int), ([] : List Int), 11))) else (none)) else (none)) else (some (0, ([] : List (S34)), ([] : List Int), ([] : List Int), 11))) else (none)) else (none)) else (none)) else ((hopmeshref12_Copy.f x481000 x481001 x481002 x481003).bind fun bt489 => (hopmeshref12_Merge.l1 k 0 x481000 x481001 x481002 x481003 x482000 x482001 x482002 x482003 bt489.1 bt489.2.1 bt489.2.2.1 bt489.2.2.2))
def hopmeshref12_Merge.l1 : Nat → Int → Int → List (S34) → List Int → List Int → Int → List (S34) → List Int → List Int → Int → List (S34) → List Int → List Int → Option (Int × (List (S34)) × List Int × List Int × Int)
 | 0, _, _, _, _, _, _, _, _, _, _, _, _, _ => none
 | k + 1, x8, x481000, x481001, x481002, x481003, x482000, x482001, x482002, x482003, x500000, x500001, x500002, x500003 => if x8 < 16 then (if 0 ≤ x8 then (if x8 < (x481001.length : Int) then (if x8 < (x482001.length : Int) then (if x8 < (x500001.length : Int) then ((some (x500001.set (x8 : Int).toNat (⟨wrap64 (((rd_T34 x481001 x8).f0) + ((rd_T34 x482001 x8).f0)), (rd_T34 x500001 x8).f1⟩ : S34) : List (S34))).bind fun y502 => (if ((rd_T34 y502 x8).f0) > 1073741824 then (some (0, ([] : List (S34)), ([] : List Int), ([] : List Int), 13)) else (hopmeshref12_Merge.l1 k (wrap64 (x8 + 1)) x481000 x481001 x481002 x481003 x482000 x482001 x482002 x482003 x500000 (y502.set (x8 : Int).toNat (⟨(rd_T34 y502 x8).f0, wrap64 (((rd_T34 x481001 x8).f1) + ((rd_T34 x482001 x8).f1))⟩ : S34)) x500002 x500003))) else (none)) else (none)) else (none)) else (none)) else (some (x500000, x500001, x500002, x500003, 0))
end
def hopmeshref12_Merge.f (k : Nat) (a0_0 : Int) (l0_1 : List (S34)) (l0_2 : List Int) (l0_3 : List Int) (a1_0 : Int) (l1_1 : List (S34)) (l1_2 : List Int) (l1_3 : List Int) : Option (Int × (List (S34)) × List Int × List Int × Int) := (hopmeshref12_Valid.f k a0_0 l0_1 l0_2 l0_3).bind fun t483 => (if t483 = 0 then ((hopmeshref12_Valid.f k a1_0 l1_1 l1_2 l1_3).bind fun t484 => (hopmeshref12_Merge.j0 k (t484 != 0) a0_0 l0_1 l0_2 l0_3 a1_0 l1_1 l1_2 l1_3)) else (hopmeshref12_Merge.j0 k true a0_0 l0_1 l0_2 l0_3 a1_0 l1_1 l1_2 l1_3))
theorem hopmeshref12_Merge.mono_l : ∀ k, (∀ y0 y1 y2 y3 y4 y5 y6 y7 y8, LeO (hopmeshref12_Merge.j0 k y0 y1 y2 y3 y4 y5 y6 y7 y8) (hopmeshref12_Merge.j0 (k + 1) y0 y1 y2 y3 y4 y5 y6 y7 y8)) ∧ (∀ y0 y1 y2 y3 y4 y5 y6 y7 y8, LeO (hopmeshref12_Merge.l0 k y0 y1 y2 y3 y4 y5 y6 y7 y8) (hopmeshref12_Merge.l0 (k + 1) y0 y1 y2 y3 y4 y5 y6 y7 y8)) ∧ (∀ y0 y1 y2 y3 y4 y5 y6 y7 y8 y9 y10 y11 y12, LeO (hopmeshref12_Merge.l1 k y0 y1 y2 y3 y4 y5 y6 y7 y8 y9 y10 y11 y12) (hopmeshref12_Merge.l1 (k + 1) y0 y1 y2 y3 y4 y5 y6 y7 y8 y9 y10 y11 y12))
 | 0 => ⟨fun _ _ _ _ _ _ _ _ _ r h => by simp [hopmeshref12_Merge.j0] at h, fun _ _ _ _ _ _ _ _ _ r h => by simp [hopmeshref12_Merge.l0] at h, fun _ _ _ _ _ _ _ _ _ _ _ _ _ r h => by simp [hopmeshref12_Merge.l1] at h⟩
 | k + 1 => by
  obtain ⟨ih0, ih1, ih2⟩ := hopmeshref12_Merge.mono_l k
  refine ⟨?_, ?_, ?_⟩
  ·intro y0 y1 y2 y3 y4 y5 y6 y7 y8
   unfold hopmeshref12_Merge.j0
   repeat' first
   | (with_reducible exact ih0 _ _ _ _ _ _ _ _ _)
   | (with_reducible exact ih1 _ _ _ _ _ _ _ _ _)
   | (with_reducible exact ih2 _ _ _ _ _ _ _ _ _ _ _ _ _)
   | (with_reducible exact hopmeshref12_Valid.mono _ _ _ _ _)
   | (with_reducible exact LeO.refl _)
   | (with_reducible exact LeO.none _)
   | (with_reducible refine LeO.ite ?_ ?_)
   | (with_reducible refine LeO.bind ?_ (fun _ => ?_))
   | exact ih0 _ _ _ _ _ _ _ _ _
   | exact ih1 _ _ _ _ _ _ _ _ _
   | exact ih2 _ _ _ _ _ _ _ _ _ _ _ _ _
   | exact hopmeshref12_Valid.mono _ _ _ _ _
   | exact LeO.none _
   | refine LeO.ite ?_ ?_
   | refine LeO.bind ?_ (fun _ => ?_)
  ·intro y0 y1 y2 y3 y4 y5 y6 y7 y8
   unfold hopmeshref12_Merge.l0
   repeat' first
   | (with_reducible exact ih0 _ _ _ _ _ _ _ _ _)
   | (with_reducible exact ih1 _ _ _ _ _ _ _ _ _)
   | (with_reducible exact ih2 _ _ _ _ _ _ _ _ _ _ _ _ _)
   | (with_reducible exact hopmeshref12_Valid.mono _ _ _ _ _)
   | (with_reducible exact LeO.refl _)
   | (with_reducible exact LeO.none _)
   | (with_reducible refine LeO.ite ?_ ?_)
   | (with_reducible refine LeO.bind ?_ (fun _ => ?_))
   | exact ih0 _ _ _ _ _ _ _ _ _
   | exact ih1 _ _ _ _ _ _ _ _ _
   | exact ih2 _ _ _ _ _ _ _ _ _ _ _ _ _
   | exact hopmeshref12_Valid.mono _ _ _ _ _
   | exact LeO.none _
   | refine LeO.ite ?_ ?_
   | refine LeO.bind ?_ (fun _ => ?_)
  ·intro y0 y1 y2 y3 y4 y5 y6 y7 y8 y9 y10 y11 y12
   unfold hopmeshref12_Merge.l1
   repeat' first
   | (with_reducible exact ih0 _ _ _ _ _ _ _ _ _)
   | (with_reducible exact ih1 _ _ _ _ _ _ _ _ _)
   | (with_reducible exact ih2 _ _ _ _ _ _ _ _ _ _ _ _ _)
   | (with_reducible exact hopmeshref12_Valid.mono _ _ _ _ _)
   | (with_reducible exact LeO.refl _)
   | (with_reducible exact LeO.none _)
   | (with_reducible refine LeO.ite ?_ ?_)
   | (with_reducible refine LeO.bind ?_ (fun _ => ?_))
   | exact ih0 _ _ _ _ _ _ _ _ _
   | exact ih1 _ _ _ _ _ _ _ _ _
   | exact ih2 _ _ _ _ _ _ _ _ _ _ _ _ _
   | exact hopmeshref12_Valid.mono _ _ _ _ _
   | exact LeO.none _
   | refine LeO.ite ?_ ?_
   | refine LeO.bind ?_ (fun _ => ?_)
theorem hopmeshref12_Merge.mono : ∀ a0 a1 a2 a3 a4 a5 a6 a7 k, LeO (hopmeshref12_Merge.f k a0 a1 a2 a3 a4 a5 a6 a7) (hopmeshref12_Merge.f (k + 1) a0 a1 a2 a3 a4 a5 a6 a7) := by
 intro a0 a1 a2 a3 a4 a5 a6 a7 k
 obtain ⟨ih0, ih1, ih2⟩ := hopmeshref12_Merge.mono_l k
 unfold hopmeshref12_Merge.f
 repeat' first
  | (with_reducible exact ih0 _ _ _ _ _ _ _ _ _)
  | (with_reducible exact ih1 _ _ _ _ _ _ _ _ _)
  | (with_reducible exact ih2 _ _ _ _ _ _ _ _ _ _ _ _ _)
  | (with_reducible exact hopmeshref12_Valid.mono _ _ _ _ _)
  | (with_reducible exact LeO.refl _)
  | (with_reducible exact LeO.none _)
  | (with_reducible refine LeO.ite ?_ ?_)
  | (with_reducible refine LeO.bind ?_ (fun _ => ?_))
  | exact ih0 _ _ _ _ _ _ _ _ _
  | exact ih1 _ _ _ _ _ _ _ _ _
  | exact ih2 _ _ _ _ _ _ _ _ _ _ _ _ _
  | exact hopmeshref12_Valid.mono _ _ _ _ _
  | exact LeO.none _
  | refine LeO.ite ?_ ?_
  | refine LeO.bind ?_ (fun _ => ?_)
def hopmeshref12_Merge.T8 : Bool × List (List Nat × List Nat) := (true, [([], []), ([0], [0]), ([], []), ([1, 2], [1, 2]), ([3], [3]), ([], []), ([5], [5]), ([], []), ([6, 7], [6, 7]), ([8], [8]), ([4, 9], [4, 9]), ([10], [10]), ([11], [11]), ([12, 11], [11, 12]), ([11], [11]), ([13, 14, 11], [11, 13, 14]), ([15, 11], [11, 15]), ([11], [11]), ([17, 11], [11, 17]), ([11], [11]), ([18, 19, 11], [11, 18, 19]), ([20, 11], [11, 20]), ([16, 21, 11], [11, 16, 21]), ([11, 22], [11, 22])])
def hopmeshref12_Merge.B8 : List Nat := [0, 1, 0, 7, 15, 0, 32, 0, 224, 480, 1023, 2047, 4095, 8191, 4095, 32767, 65535, 4095, 135167, 4095, 921599, 1970175, 4194303, 8388607]
theorem hopmeshref12_Merge.tab8 : rtab .any (opsOf Try.f29 8) = hopmeshref12_Merge.T8 := by kernel_rfl
theorem hopmeshref12_Merge.bits8 : waitsOk hopmeshref12_Merge.T8.2 hopmeshref12_Merge.B8 = true := by kernel_rfl
def hopmeshref12_Merge.T14 : Bool × List (List Nat × List Nat) := (true, [([], []), ([0], [0]), ([], []), ([], []), ([3], [3]), ([], []), ([4, 5], [4, 5]), ([6], [6]), ([7], [7]), ([], []), ([9], [9]), ([], []), ([10, 11], [10, 11]), ([12], [12]), ([13], [13]), ([8, 14], [8, 14]), ([1, 2, 0, 1, 2, 3, 4, 5, 6, 7, 8, 9, 10, 11, 12, 13, 14, 15], [1, 2]), ([16, 0, 1, 2, 3, 4, 5, 6, 7, 8, 9, 10, 11, 12, 13, 14, 15], [16]), ([17, 15, 0, 1, 2, 3, 4, 5, 6, 7, 8, 9, 10, 11, 12, 13, 14, 15], [15, 17])])
def hopmeshref12_Merge.B14 : List Nat := [0, 1, 0, 0, 8, 0, 56, 120, 248, 0, 512, 0, 3584, 7680, 15872, 32760, 65535, 131071, 262143]
theorem hopmeshref12_Merge.tab14 : rtab .any (opsOf Try.f29 14) = hopmeshref12_Merge.T14 := by kernel_rfl
theorem hopmeshref12_Merge.bits14 : waitsOk hopmeshref12_Merge.T14.2 hopmeshref12_Merge.B14 = true := by kernel_rfl
def hopmeshref12_Merge.T15 : Bool × List (List Nat × List Nat) := (true, [([], []), ([0], [0]), ([], []), ([], []), ([3], [3]), ([], []), ([4, 5], [4, 5]), ([6], [6]), ([7], [7]), ([], []), ([9], [9]), ([], []), ([10, 11], [10, 11]), ([12], [12]), ([13], [13]), ([8, 14], [8, 14]), ([1, 2, 0, 1, 2, 3, 4, 5, 6, 7, 8, 9, 10, 11, 12, 13, 14, 15], [1, 2]), ([16, 0, 1, 2, 3, 4, 5, 6, 7, 8, 9, 10, 11, 12, 13, 14, 15], [16]), ([17, 15, 0, 1, 2, 3, 4, 5, 6, 7, 8, 9, 10, 11, 12, 13, 14, 15], [15, 17])])
def hopmeshref12_Merge.B15 : List Nat := [0, 1, 0, 0, 8, 0, 56, 120, 248, 0, 512, 0, 3584, 7680, 15872, 32760, 65535, 131071, 262143]
theorem hopmeshref12_Merge.tab15 : rtab .any (opsOf Try.f29 15) = hopmeshref12_Merge.T15 := by kernel_rfl
theorem hopmeshref12_Merge.bits15 : waitsOk hopmeshref12_Merge.T15.2 hopmeshref12_Merge.B15 = true := by kernel_rfl
set_option maxHeartbeats 8000000 in
set_option maxRecDepth 100000 in
theorem hopmeshref12_Merge.calls (k : Nat) (a0_0 : Int) (A0_1 : Option Addr) (c0_1 : Nat) (l0_1 : List (S34)) (A0_2 : Option Addr) (c0_2 : Nat) (l0_2 : List Int) (A0_3 : Option Addr) (c0_3 : Nat) (l0_3 : List Int) (a1_0 : Int) (A1_1 : Option Addr) (c1_1 : Nat) (l1_1 : List (S34)) (A1_2 : Option Addr) (c1_2 : Nat) (l1_2 : List Int) (A1_3 : Option Addr) (c1_3 : Nat) (l1_3 : List Int) (r1 : Int) (r2 : List (S34)) (r3 : List Int) (r4 : List Int) (r5 : Int) (w : World) (hr0_1 : Kd.C k34 w A0_1 l0_1.length l0_1) (hc0_1 : l0_1.length ≤ c0_1) (hr0_2 : Kd.C (Kd.int .i64) w A0_2 l0_2.length l0_2) (hc0_2 : l0_2.length ≤ c0_2) (hr0_3 : Kd.C (Kd.int .i64) w A0_3 l0_3.length l0_3) (hc0_3 : l0_3.length ≤ c0_3) (hr1_1 : Kd.C k34 w A1_1 l1_1.length l1_1) (hc1_1 : l1_1.length ≤ c1_1) (hr1_2 : Kd.C (Kd.int .i64) w A1_2 l1_2.length l1_2) (hc1_2 : l1_2.length ≤ c1_2) (hr1_3 : Kd.C (Kd.int .i64) w A1_3 l1_3.length l1_3) (hc1_3 : l1_3.length ≤ c1_3) (h : hopmeshref12_Merge.f k a0_0 l0_1 l0_2 l0_3 a1_0 l1_1 l1_2 l1_3 = some (r1, r2, r3, r4, r5)) :
 Calls Try.prog 29 #[.agg #[.int .i64 a0_0, .slice A0_1 l0_1.length c0_1, .slice A0_2 l0_2.length c0_2, .slice A0_3 l0_3.length c0_3], .agg #[.int .i64 a1_0, .slice A1_1 l1_1.length c1_1, .slice A1_2 l1_2.length c1_2, .slice A1_3 l1_3.length c1_3]] w fun e w' => ∃ v1_ v2_ v3_ : Value, e = .returned (.tuple #[.agg #[.int .i64 r1, v1_, v2_, v3_], .int .i64 r5]) ∧ Kd.R k34 34 w' w.heap.size (fun _ => True) v1_ r2 ∧ Kd.R (Kd.int .i64) 3 w' w.heap.size (fun k_ => some k_ ≠ (v3_ : Value).ownBlock) v2_ r3 ∧ Kd.R (Kd.int .i64) 3 w' w.heap.size (fun k_ => some k_ ≠ (v2_ : Value).ownBlock) v3_ r4 ∧ Below w.heap.size w w' := by
 have hu25 := Try.underlying25
 have HR0_1 := Aside0.mk hr0_1
 have HC0_1 := Aside0.mk hc0_1
 clear hr0_1 hc0_1
 have HR0_2 := Aside0.mk hr0_2
 have HC0_2 := Aside0.mk hc0_2
 clear hr0_2 hc0_2
 have HR0_3 := Aside0.mk hr0_3
 have HC0_3 := Aside0.mk hc0_3
 clear hr0_3 hc0_3
 have HR1_1 := Aside0.mk hr1_1
 have HC1_1 := Aside0.mk hc1_1
 clear hr1_1 hc1_1
 have HR1_2 := Aside0.mk hr1_2
 have HC1_2 := Aside0.mk hc1_2
 clear hr1_2 hc1_2
 have HR1_3 := Aside0.mk hr1_3
 have HC1_3 := Aside0.mk hc1_3
 clear hr1_3 hc1_3
 have HB := Aside0.mk (Below.refl w.heap.size w)
 have H : ((hopmeshref12_Valid.f k a0_0 l0_1 l0_2 l0_3).bind fun t483 => (if t483 = 0 then ((hopmeshref12_Valid.f k a1_0 l1_1 l1_2 l1_3).bind fun t484 => (hopmeshref12_Merge.j0 k (t484 != 0) a0_0 l0_1 l0_2 l0_3 a1_0 l1_1 l1_2 l1_3)) else (hopmeshref12_Merge.j0 k true a0_0 l0_1 l0_2 l0_3 a1_0 l1_1 l1_2 l1_3))) = some (r1, r2, r3, r4, r5) := h
 clear h
 have HC3 := Aside0.mk H
 clear H
 go_enter Try.func29, Try.ntmps29
 go_upto_region 1 with (first | ((with_reducible refine gate_dst (N := 2) rfl ?_); refine boxE 2 #[.int .i64 a0_0, .slice A0_1 l0_1.length c0_1, .slice A0_2 l0_2.length c0_2, .slice A0_3 l0_3.length c0_3] 25 ?_; intro gb480 hg w4 hbox hb; have BK480 := Aside0.mk (hbox); have GW480 := gw hg HB; have GE480 := gw hg HB; replace HB := hbS HB hb; clear hb hbox hg) | ((with_reducible refine gate_dst (N := 3) rfl ?_); refine boxE 3 #[.int .i64 a1_0, .slice A1_1 l1_1.length c1_1, .slice A1_2 l1_2.length c1_2, .slice A1_3 l1_3.length c1_3] 25 ?_; intro gb481 hg w5 hbox hb; have BK481 := Aside0.mk (hbox); have GW481 := gw hg HB; have GE481 := gw hg HB; replace HB := hbS HB hb; have NB480_481 := nbl hg BK480; have NB481_480 := nbg hg BK480; replace BK480 := bkB BK480 hb; clear hb hbox hg) | ((with_reducible refine gate_dst (N := 4) rfl ?_); refine boxE 4 #[.int .i64 0, .slice none 0 0, .slice none 0 0, .slice none 0 0] 25 ?_; intro gb482 hg w6 hbox hb; have BK482 := Aside0.mk (hbox); have GW482 := gw hg HB; have GE482 := gw hg HB; replace HB := hbS HB hb; have NB480_482 := nbl hg BK480; have NB482_480 := nbg hg BK480; replace BK480 := bkB BK480 hb; have NB481_482 := nbl hg BK481; have NB482_481 := nbg hg BK481; replace BK481 := bkB BK481 hb; clear hb hbox hg))
 (try simp only [Act.put, List.setIfInBounds_toArray, List.set_cons_zero, List.set_cons_succ])
 go_cut [16] (fun v16 wc => ∃ (kq : Nat) (x16_2 : Bool), v16 = .bool x16_2 ∧ Aside0 (hopmeshref12_Merge.j0 kq x16_2 a0_0 l0_1 l0_2 l0_3 a1_0 l1_1 l1_2 l1_3 = some (r1, r2, r3, r4, r5)) ∧ Aside0 (kq ≤ k) ∧ Aside0 (wc.heap[gb480]? = some (.cells #[.int .i64 a0_0, (.slice A0_1 l0_1.length c0_1), (.slice A0_2 l0_2.length c0_2), (.slice A0_3 l0_3.length c0_3)] 25 (0, 0))) ∧ Aside0 (wc.heap[gb481]? = some (.cells #[.int .i64 a1_0, (.slice A1_1 l1_1.length c1_1), (.slice A1_2 l1_2.length c1_2), (.slice A1_3 l1_3.length c1_3)] 25 (0, 0))) ∧ Aside0 (wc.heap[gb482]? = some (.cells #[.int .i64 0, (.slice none 0 0), (.slice none 0 0), (.slice none 0 0)] 25 (0, 0))) ∧ Aside0 (Below w.heap.size w wc))
 case first =>
  have H := HC3.out
  clear HC3
  replace H := Option.bind_eq_some_iff.mp H
  obtain ⟨t483, A70, H⟩ := H
  (try dsimp only at H)
  have A7 := Aside0.mk A70
  clear A70
  by_cases c8 : t483 = 0
  ·rw [if_pos c8] at H
   have c8b0 : (t483 == 0) = true := beq_iff_eq.mpr c8
   have c8b1 : (t483 != 0) = false := bne_eq_false_iff_eq.mpr c8
   clear c8
   (first | rw [c8b0] | (simp only [i64_w, i32_w]; rw [c8b0]) | skip)
   replace H := Option.bind_eq_some_iff.mp H
   obtain ⟨t484, A90, H⟩ := H
   (try dsimp only at H)
   have A9 := Aside0.mk A90
   clear A90
   have H' := Aside0.mk H
   clear H
   have hnb10 := NB480_481.out
   have hnc10 := NB481_480.out
   have hnb11 := NB480_482.out
   have hnc11 := NB482_480.out
   obtain ⟨z0, z1, z2, z3, y0, y1, y2, y3⟩ := bc4 BK480
   go_wp2_with (first | ((with_reducible refine gate_callee (f := 39) rfl ?_); refine goesL_ (some 10) rfl rfl Try.func39 (by kernel_rfl) rfl #[.agg #[.int .i64 a0_0, .slice A0_1 l0_1.length c0_1, .slice A0_2 l0_2.length c0_2, .slice A0_3 l0_3.length c0_3]] rfl sma ?_; (with_reducible refine (hopmeshref12_Valid.calls k a0_0 _ _ l0_1 _ _ l0_2 _ _ l0_3 t483 _ (cb HR0_1 HB) HC0_1.out (cb HR0_2 HB) HC0_2.out (cb HR0_3 HB) HC0_3.out A7.out).mono ?_); rintro e w13 ⟨rfl, hb⟩; refine ⟨_, rfl, ?_⟩; replace BK480 := bkB BK480 hb; replace BK481 := bkB BK481 hb; replace BK482 := bkB BK482 hb; replace HB := hbS HB hb; (try clear hb); (try clear hb2); (try clear hk); (try clear hi); have hnb14 := NB481_482.out; have hnc14 := NB482_481.out; obtain ⟨z0, z1, z2, z3, y0, y1, y2, y3⟩ := bc4 BK481) | (go_at_call 39; (with_reducible refine (hopmeshref12_Valid.calls k a1_0 _ _ l1_1 _ _ l1_2 _ _ l1_3 t484 _ (cb HR1_1 HB) HC1_1.out (cb HR1_2 HB) HC1_2.out (cb HR1_3 HB) HC1_3.out A9.out).mono ?_); rintro e w16 ⟨rfl, hb⟩; replace BK480 := bkB BK480 hb; replace BK481 := bkB BK481 hb; replace BK482 := bkB BK482 hb; replace HB := hbS HB hb; (try clear hb); (try clear hb2); (try clear hk); (try clear hi)))
   go_meet
   case rel => exact ⟨_, ((t484 != 0)), rfs, H', kle, bkA BK480, bkA BK481, bkA BK482, hbA HB⟩
  ·rw [if_neg c8] at H
   have c8b0 : (t483 == 0) = false := beq_eq_false_iff_ne.mpr c8
   have c8b1 : (t483 != 0) = true := bne_iff_ne.mpr c8
   (first | rw [c8b0] | (simp only [i64_w, i32_w]; rw [c8b0]) | skip)
   have H' := Aside0.mk H
   clear H
   have hnb17 := NB480_481.out
   have hnc17 := NB481_480.out
   have hnb18 := NB480_482.out
   have hnc18 := NB482_480.out
   obtain ⟨z0, z1, z2, z3, y0, y1, y2, y3⟩ := bc4 BK480
   go_wp2_with (first | ((with_reducible refine gate_callee (f := 39) rfl ?_); refine goesL_ (some 10) rfl rfl Try.func39 (by kernel_rfl) rfl #[.agg #[.int .i64 a0_0, .slice A0_1 l0_1.length c0_1, .slice A0_2 l0_2.length c0_2, .slice A0_3 l0_3.length c0_3]] rfl sma ?_; (with_reducible refine (hopmeshref12_Valid.calls k a0_0 _ _ l0_1 _ _ l0_2 _ _ l0_3 t483 _ (cb HR0_1 HB) HC0_1.out (cb HR0_2 HB) HC0_2.out (cb HR0_3 HB) HC0_3.out A7.out).mono ?_); rintro e w20 ⟨rfl, hb⟩; refine ⟨_, rfl, ?_⟩; replace BK480 := bkB BK480 hb; replace BK481 := bkB BK481 hb; replace BK482 := bkB BK482 hb; replace HB := hbS HB hb; (try clear hb); (try clear hb2); (try clear hk); (try clear hi)))
   go_meet
   case rel => exact ⟨_, (true), rfs, H', kle, bkA BK480, bkA BK481, bkA BK482, hbA HB⟩
 case rest =>
  clear HC3
  obtain ⟨kq, x16_2, rfl, HA, HJ2, BK480, BK481, BK482, HB⟩ := hcut
  cases kq with
  | zero => exact absurd HA.out (by simp [hopmeshref12_Merge.j0])
  | succ kj2 =>
   have H := HA.out
   clear HA
   simp only [hopmeshref12_Merge.j0] at H
   by_cases c21 : x16_2 = true
   ·subst c21
    rw [if_pos rfl] at H
    simp only [Option.some.injEq, Prod.mk.injEq] at H
    obtain ⟨rfl, rfl, rfl, rfl, rfl⟩ := H
    have hnb22 := NB482_480.out
    have hnc22 := NB480_482.out
    have hnb23 := NB482_481.out
    have hnc23 := NB481_482.out
    obtain ⟨z0, z1, z2, z3, y0, y1, y2, y3⟩ := bc4 BK482
    go_wp2
    refine bodyPost_ret (results_ct rfl _ _ gb482 25 #[.int .i64 0, .slice none 0 0, .slice none 0 0, .slice none 0 0] (0, 0) _ rfl (bkp BK482) Try.underlying25 rfl (by kernel_rfl)) rfl ?_
    exact ⟨_, _, _, rerr, rnil, rnil, rnil, hbx HB⟩
   ·replace c21 := Bool.eq_false_iff.mpr c21
    subst c21
    rw [if_neg (show ¬ (false = true) by decide)] at H
    by_cases c25 : a0_0 = a1_0
    ·rw [if_pos c25] at H
     have c25b0 : (a0_0 == a1_0) = true := beq_iff_eq.mpr c25
     have c25b1 : (a0_0 != a1_0) = false := bne_eq_false_iff_eq.mpr c25
     clear c25
     have H' := Aside0.mk H
     clear H
     have hnb26 := NB480_481.out
     have hnc26 := NB481_480.out
     have hnb27 := NB480_482.out
     have hnc27 := NB482_480.out
     obtain ⟨z0, z1, z2, z3, y0, y1, y2, y3⟩ := bc4 BK480
     have hnb29 := NB481_482.out
     have hnc29 := NB482_481.out
     obtain ⟨z0, z1, z2, z3, y0, y1, y2, y3⟩ := bc4 BK481
     go_wp2
     go_loopg [6] kj2 (fun kq v6 w' => ∃ (x6_2 : Int) (x483000_2 : Int), v6 = .int .i64 x6_2 ∧ Aside0 (hopmeshref12_Merge.l0 kq x6_2 a0_0 l0_1 l0_2 l0_3 a1_0 l1_1 l1_2 l1_3 = some (r1, r2, r3, r4, r5)) ∧ Aside0 (kq ≤ kj2) ∧ Aside0 (w'.heap[gb480]? = some (.cells #[.int .i64 a0_0, (.slice A0_1 l0_1.length c0_1), (.slice A0_2 l0_2.length c0_2), (.slice A0_3 l0_3.length c0_3)] 25 (0, 0))) ∧ Aside0 (w'.heap[gb481]? = some (.cells #[.int .i64 a1_0, (.slice A1_1 l1_1.length c1_1), (.slice A1_2 l1_2.length c1_2), (.slice A1_3 l1_3.length c1_3)] 25 (0, 0))) ∧ Aside0 (w'.heap[gb482]? = some (.cells #[.int .i64 x483000_2, (.slice none 0 0), (.slice none 0 0), (.slice none 0 0)] 25 (0, 0))) ∧ Aside0 (Below w.heap.size w w'))
     case atStart => exact ⟨(0), (0), rfs, H', ⟨Nat.le_refl _⟩, bkA BK480, bkA BK481, bkA BK482, hbA HB⟩
     case round =>
      clear H'
      try clear c21
      try clear c25
      try clear c25b0
      try clear c25b1
      try clear hcz28_0
      try clear hcz28_1
      try clear hcz28_2
      try clear hcz28_3
      try clear hcz30_0
      try clear hcz30_1
      try clear hcz30_2
      try clear hcz30_3
      try clear hfz28_0
      try clear hfz28_1
      try clear hfz28_2
      try clear hfz28_3
      try clear hfz30_0
      try clear hfz30_1
      try clear hfz30_2
      try clear hfz30_3
      obtain ⟨x6_2, x483000_2, rfl, HA, HK2, BK480, BK481, BK482, HB⟩ := hrel
      cases gk with
      | zero => exact absurd HA.out (by simp [hopmeshref12_Merge.l0])
      | succ k2 =>
       have H := HA.out
       clear HA
       simp only [hopmeshref12_Merge.l0] at H
       by_cases c31 : x6_2 < 16
       ·rw [if_pos c31] at H
        have c31b0 : decide (x6_2 < 16) = true := decide_eq_true c31
        clear c31
        by_cases c32 : 0 ≤ x6_2
        ·rw [if_pos c32] at H
         have c32b0 : decide (0 ≤ x6_2) = true := decide_eq_true c32
         clear c32
         by_cases c33 : x6_2 < (l0_2.length : Int)
         ·rw [if_pos c33] at H
          have c33b0 : decide (x6_2 < (l0_2.length : Int)) = true := decide_eq_true c33
          clear c33
          by_cases c34 : x6_2 < (l1_2.length : Int)
          ·rw [if_pos c34] at H
           have c34b0 : decide (x6_2 < (l1_2.length : Int)) = true := decide_eq_true c34
           clear c34
           by_cases c35 : (rd l0_2 x6_2) = (rd l1_2 x6_2)
           ·rw [if_pos c35] at H
            have c35b0 : ((rd l0_2 x6_2) == (rd l1_2 x6_2)) = true := beq_iff_eq.mpr c35
            have c35b1 : ((rd l0_2 x6_2) != (rd l1_2 x6_2)) = false := bne_eq_false_iff_eq.mpr c35
            clear c35
            by_cases c36 : x6_2 < (l0_3.length : Int)
            ·rw [if_pos c36] at H
             have c36b0 : decide (x6_2 < (l0_3.length : Int)) = true := decide_eq_true c36
             clear c36
             by_cases c37 : x6_2 < (l1_3.length : Int)
             ·rw [if_pos c37] at H
              have c37b0 : decide (x6_2 < (l1_3.length : Int)) = true := decide_eq_true c37
              clear c37
              by_cases c38 : (rd l0_3 x6_2) = (rd l1_3 x6_2)
              ·rw [if_pos c38] at H
               have c38b0 : ((rd l0_3 x6_2) == (rd l1_3 x6_2)) = true := beq_iff_eq.mpr c38
               have c38b1 : ((rd l0_3 x6_2) != (rd l1_3 x6_2)) = false := bne_eq_false_iff_eq.mpr c38
               clear c38
               have H' := Aside0.mk H
               clear H
               try go_wp2
               replace BK480 := Aside0.mk (blk_drew BK480.out)
               replace BK481 := Aside0.mk (blk_drew BK481.out)
               replace BK482 := Aside0.mk (blk_drew BK482.out)
               replace HB := Aside0.mk (below_drew1 HB.out)
               have p485 : 0 ≤ (x6_2 : Int) := pos_
               have q485 : x6_2 < (l0_2.length : Int) := pos_
               obtain ⟨ad485, e485, hx485_0⟩ := Kd.at_int HR0_2.out x6_2 p485 q485
               have hw485_0 := hx485_0
               cases e485
               replace hx485_0 := (HB.out.cell (World.block_lt_of_cell? w _ hx485_0)).trans hx485_0
               replace p485 := eq_true p485
               replace q485 := eq_true q485
               have p486 : 0 ≤ (x6_2 : Int) := pos_
               have q486 : x6_2 < (l1_2.length : Int) := pos_
               obtain ⟨ad486, e486, hx486_0⟩ := Kd.at_int HR1_2.out x6_2 p486 q486
               have hw486_0 := hx486_0
               cases e486
               replace hx486_0 := (HB.out.cell (World.block_lt_of_cell? w _ hx486_0)).trans hx486_0
               replace p486 := eq_true p486
               replace q486 := eq_true q486
               have p487 : 0 ≤ (x6_2 : Int) := pos_
               have q487 : x6_2 < (l0_3.length : Int) := pos_
               obtain ⟨ad487, e487, hx487_0⟩ := Kd.at_int HR0_3.out x6_2 p487 q487
               have hw487_0 := hx487_0
               cases e487
               replace hx487_0 := (HB.out.cell (World.block_lt_of_cell? w _ hx487_0)).trans hx487_0
               replace p487 := eq_true p487
               replace q487 := eq_true q487
               have p488 : 0 ≤ (x6_2 : Int) := pos_
               have q488 : x6_2 < (l1_3.length : Int) := pos_
               obtain ⟨ad488, e488, hx488_0⟩ := Kd.at_int HR1_3.out x6_2 p488 q488
               have hw488_0 := hx488_0
               cases e488
               replace hx488_0 := (HB.out.cell (World.block_lt_of_cell? w _ hx488_0)).trans hx488_0
               replace p488 := eq_true p488
               replace q488 := eq_true q488
               refine start_ (n := 24) (S := fun w' => w'.cell? ⟨gb480, 0, none⟩ = some (.int .i64 a0_0) ∧ w'.cell? ⟨gb480, 1, none⟩ = some (.slice A0_1 l0_1.length c0_1) ∧ w'.cell? ⟨gb480, 2, none⟩ = some (.slice (some ad485) l0_2.length c0_2) ∧ w'.cell? ⟨gb480, 3, none⟩ = some (.slice (some ad487) l0_3.length c0_3) ∧ w'.cell? ⟨gb481, 0, none⟩ = some (.int .i64 a1_0) ∧ w'.cell? ⟨gb481, 1, none⟩ = some (.slice A1_1 l1_1.length c1_1) ∧ w'.cell? ⟨gb481, 2, none⟩ = some (.slice (some ad486) l1_2.length c1_2) ∧ w'.cell? ⟨gb481, 3, none⟩ = some (.slice (some ad488) l1_3.length c1_3) ∧ w'.cell? (ad485.add (x6_2).toNat) = some (.int .i64 (rd l0_2 x6_2)) ∧ w'.cell? (ad486.add (x6_2).toNat) = some (.int .i64 (rd l1_2 x6_2)) ∧ w'.cell? (ad487.add (x6_2).toNat) = some (.int .i64 (rd l0_3 x6_2)) ∧ w'.cell? (ad488.add (x6_2).toNat) = some (.int .i64 (rd l1_3 x6_2))) (ds := []) #[false, false, false, false, false, false, false, false, false, false, false, false, false, false, false, false, false, false, false, false, false, false, false, false] (by kernel_rfl) rfl rfl ⟨(blk_cell BK480.out 0).trans rfl, (blk_cell BK480.out 1).trans rfl, (blk_cell BK480.out 2).trans rfl, (blk_cell BK480.out 3).trans rfl, (blk_cell BK481.out 0).trans rfl, (blk_cell BK481.out 1).trans rfl, (blk_cell BK481.out 2).trans rfl, (blk_cell BK481.out 3).trans rfl, ((HB.out.cell (World.block_lt_of_cell? w _ hw485_0)).trans hw485_0), ((HB.out.cell (World.block_lt_of_cell? w _ hw486_0)).trans hw486_0), ((HB.out.cell (World.block_lt_of_cell? w _ hw487_0)).trans hw487_0), ((HB.out.cell (World.block_lt_of_cell? w _ hw488_0)).trans hw488_0)⟩ (fun hHeld => ?_); refine with_tabW hopmeshref12_Merge.tab8 hopmeshref12_Merge.bits8 (fun HT_ HW_ => ?_)
               generalize wr.drew = w39 at BK480 BK481 BK482 HB hx485_0 hx486_0 hx487_0 hx488_0 hHeld ⊢
               refine pur 0 (some 28) #[true, false, false, false, false, false, false, false, false, false, false, false, false, false, false, false, false, false, false, false, false, false, false, false] HT_ ?_
               refine pur 2 (some 30) #[true, false, true, false, false, false, false, false, false, false, false, false, false, false, false, false, false, false, false, false, false, false, false, false] HT_ ?_
               refine pur 5 (some 33) #[true, false, true, false, false, true, false, false, false, false, false, false, false, false, false, false, false, false, false, false, false, false, false, false] HT_ ?_
               refine pur 7 (some 35) #[true, false, true, false, false, true, false, true, false, false, false, false, false, false, false, false, false, false, false, false, false, false, false, false] HT_ ?_
               refine tak 1 (some 29) #[true, true, true, false, false, true, false, true, false, false, false, false, false, false, false, false, false, false, false, false, false, false, false, false] HT_ HW_ hHeld rfl (Or.inl ⟨by rfl, by rintro w' ⟨s0, s1, s2, s3, s4, s5, s6, s7, s8, s9, s10, s11⟩; go_simp; with_reducible rfl⟩) ?_
               refine pur 3 (some 31) #[true, true, true, true, false, true, false, true, false, false, false, false, false, false, false, false, false, false, false, false, false, false, false, false] HT_ ?_
               refine tak 4 (some 32) #[true, true, true, true, true, true, false, true, false, false, false, false, false, false, false, false, false, false, false, false, false, false, false, false] HT_ HW_ hHeld rfl (Or.inl ⟨by rfl, by rintro w' ⟨s0, s1, s2, s3, s4, s5, s6, s7, s8, s9, s10, s11⟩; go_simp; with_reducible rfl⟩) ?_
               refine tak 6 (some 34) #[true, true, true, true, true, true, true, true, false, false, false, false, false, false, false, false, false, false, false, false, false, false, false, false] HT_ HW_ hHeld rfl (Or.inl ⟨by rfl, by rintro w' ⟨s0, s1, s2, s3, s4, s5, s6, s7, s8, s9, s10, s11⟩; go_simp; with_reducible rfl⟩) ?_
               refine pur 8 (some 36) #[true, true, true, true, true, true, true, true, true, false, false, false, false, false, false, false, false, false, false, false, false, false, false, false] HT_ ?_
               refine tak 9 (some 37) #[true, true, true, true, true, true, true, true, true, true, false, false, false, false, false, false, false, false, false, false, false, false, false, false] HT_ HW_ hHeld rfl (Or.inl ⟨by rfl, by rintro w' ⟨s0, s1, s2, s3, s4, s5, s6, s7, s8, s9, s10, s11⟩; go_simp; with_reducible rfl⟩) ?_
               refine pur 10 (some 38) #[true, true, true, true, true, true, true, true, true, true, true, false, false, false, false, false, false, false, false, false, false, false, false, false] HT_ ?_
               refine pur 11 (some 39) #[true, true, true, true, true, true, true, true, true, true, true, true, false, false, false, false, false, false, false, false, false, false, false, false] HT_ ?_
               refine pur 12 (some 40) #[true, true, true, true, true, true, true, true, true, true, true, true, true, false, false, false, false, false, false, false, false, false, false, false] HT_ ?_
               refine pur 14 (some 42) #[true, true, true, true, true, true, true, true, true, true, true, true, true, false, true, false, false, false, false, false, false, false, false, false] HT_ ?_
               refine pur 17 (some 45) #[true, true, true, true, true, true, true, true, true, true, true, true, true, false, true, false, false, true, false, false, false, false, false, false] HT_ ?_
               refine pur 19 (some 47) #[true, true, true, true, true, true, true, true, true, true, true, true, true, false, true, false, false, true, false, true, false, false, false, false] HT_ ?_
               refine tak 13 (some 41) #[true, true, true, true, true, true, true, true, true, true, true, true, true, true, true, false, false, true, false, true, false, false, false, false] HT_ HW_ hHeld rfl (Or.inl ⟨by rfl, by rintro w' ⟨s0, s1, s2, s3, s4, s5, s6, s7, s8, s9, s10, s11⟩; go_simp; with_reducible rfl⟩) ?_
               refine pur 15 (some 43) #[true, true, true, true, true, true, true, true, true, true, true, true, true, true, true, true, false, true, false, true, false, false, false, false] HT_ ?_
               refine tak 16 (some 44) #[true, true, true, true, true, true, true, true, true, true, true, true, true, true, true, true, true, true, false, true, false, false, false, false] HT_ HW_ hHeld rfl (Or.inl ⟨by rfl, by rintro w' ⟨s0, s1, s2, s3, s4, s5, s6, s7, s8, s9, s10, s11⟩; go_simp; with_reducible rfl⟩) ?_
               refine tak 18 (some 46) #[true, true, true, true, true, true, true, true, true, true, true, true, true, true, true, true, true, true, true, true, false, false, false, false] HT_ HW_ hHeld rfl (Or.inl ⟨by rfl, by rintro w' ⟨s0, s1, s2, s3, s4, s5, s6, s7, s8, s9, s10, s11⟩; go_simp; with_reducible rfl⟩) ?_
               refine pur 20 (some 48) #[true, true, true, true, true, true, true, true, true, true, true, true, true, true, true, true, true, true, true, true, true, false, false, false] HT_ ?_
               refine tak 21 (some 49) #[true, true, true, true, true, true, true, true, true, true, true, true, true, true, true, true, true, true, true, true, true, true, false, false] HT_ HW_ hHeld rfl (Or.inl ⟨by rfl, by rintro w' ⟨s0, s1, s2, s3, s4, s5, s6, s7, s8, s9, s10, s11⟩; go_simp; with_reducible rfl⟩) ?_
               refine pur 22 (some 50) #[true, true, true, true, true, true, true, true, true, true, true, true, true, true, true, true, true, true, true, true, true, true, true, false] HT_ ?_
               refine pur 23 (some 51) #[true, true, true, true, true, true, true, true, true, true, true, true, true, true, true, true, true, true, true, true, true, true, true, true] HT_ ?_
               refine done_ (done_of HT_.out (by kernel_rfl)) ?_
               try go_wp2
               go_roundg k2
               case measure => have := HJ2.out; have := HK2.out; omega
               case rel => exact ⟨(wrap64 (x6_2 + 1)), (x483000_2), rfs, H', ⟨by have := HJ2.out; have := HK2.out; omega⟩, bkA BK480, bkA BK481, bkA BK482, hbA HB⟩
              ·rw [if_neg c38] at H
               have c38b0 : ((rd l0_3 x6_2) == (rd l1_3 x6_2)) = false := beq_eq_false_iff_ne.mpr c38
               have c38b1 : ((rd l0_3 x6_2) != (rd l1_3 x6_2)) = true := bne_iff_ne.mpr c38
               simp only [Option.some.injEq, Prod.mk.injEq] at H
               obtain ⟨rfl, rfl, rfl, rfl, rfl⟩ := H
               try go_wp2
               replace BK480 := Aside0.mk (blk_drew BK480.out)
               replace BK481 := Aside0.mk (blk_drew BK481.out)
               replace BK482 := Aside0.mk (blk_drew BK482.out)
               replace HB := Aside0.mk (below_drew1 HB.out)
               have p485 : 0 ≤ (x6_2 : Int) := pos_
               have q485 : x6_2 < (l0_2.length : Int) := pos_
               obtain ⟨ad485, e485, hx485_0⟩ := Kd.at_int HR0_2.out x6_2 p485 q485
               have hw485_0 := hx485_0
               cases e485
               replace hx485_0 := (HB.out.cell (World.block_lt_of_cell? w _ hx485_0)).trans hx485_0
               replace p485 := eq_true p485
               replace q485 := eq_true q485
               have p486 : 0 ≤ (x6_2 : Int) := pos_
               have q486 : x6_2 < (l1_2.length : Int) := pos_
               obtain ⟨ad486, e486, hx486_0⟩ := Kd.at_int HR1_2.out x6_2 p486 q486
               have hw486_0 := hx486_0
               cases e486
               replace hx486_0 := (HB.out.cell (World.block_lt_of_cell? w _ hx486_0)).trans hx486_0
               replace p486 := eq_true p486
               replace q486 := eq_true q486
               have p487 : 0 ≤ (x6_2 : Int) := pos_
               have q487 : x6_2 < (l0_3.length : Int) := pos_
               obtain ⟨ad487, e487, hx487_0⟩ := Kd.at_int HR0_3.out x6_2 p487 q487
               have hw487_0 := hx487_0
               cases e487
               replace hx487_0 := (HB.out.cell (World.block_lt_of_cell? w _ hx487_0)).trans hx487_0
               replace p487 := eq_true p487
               replace q487 := eq_true q487
               have p488 : 0 ≤ (x6_2 : Int) := pos_
               have q488 : x6_2 < (l1_3.length : Int) := pos_
               obtain ⟨ad488, e488, hx488_0⟩ := Kd.at_int HR1_3.out x6_2 p488 q488
               have hw488_0 := hx488_0
               cases e488
               replace hx488_0 := (HB.out.cell (World.block_lt_of_cell? w _ hx488_0)).trans hx488_0
               replace p488 := eq_true p488
               replace q488 := eq_true q488
               refine start_ (n := 24) (S := fun w' => w'.cell? ⟨gb480, 0, none⟩ = some (.int .i64 a0_0) ∧ w'.cell? ⟨gb480, 1, none⟩ = some (.slice A0_1 l0_1.length c0_1) ∧ w'.cell? ⟨gb480, 2, none⟩ = some (.slice (some ad485) l0_2.length c0_2) ∧ w'.cell? ⟨gb480, 3, none⟩ = some (.slice (some ad487) l0_3.length c0_3) ∧ w'.cell? ⟨gb481, 0, none⟩ = some (.int .i64 a1_0) ∧ w'.cell? ⟨gb481, 1, none⟩ = some (.slice A1_1 l1_1.length c1_1) ∧ w'.cell? ⟨gb481, 2, none⟩ = some (.slice (some ad486) l1_2.length c1_2) ∧ w'.cell? ⟨gb481, 3, none⟩ = some (.slice (some ad488) l1_3.length c1_3) ∧ w'.cell? (ad485.add (x6_2).toNat) = some (.int .i64 (rd l0_2 x6_2)) ∧ w'.cell? (ad486.add (x6_2).toNat) = some (.int .i64 (rd l1_2 x6_2)) ∧ w'.cell? (ad487.add (x6_2).toNat) = some (.int .i64 (rd l0_3 x6_2)) ∧ w'.cell? (ad488.add (x6_2).toNat) = some (.int .i64 (rd l1_3 x6_2))) (ds := []) #[false, false, false, false, false, false, false, false, false, false, false, false, false, false, false, false, false, false, false, false, false, false, false, false] (by kernel_rfl) rfl rfl ⟨(blk_cell BK480.out 0).trans rfl, (blk_cell BK480.out 1).trans rfl, (blk_cell BK480.out 2).trans rfl, (blk_cell BK480.out 3).trans rfl, (blk_cell BK481.out 0).trans rfl, (blk_cell BK481.out 1).trans rfl, (blk_cell BK481.out 2).trans rfl, (blk_cell BK481.out 3).trans rfl, ((HB.out.cell (World.block_lt_of_cell? w _ hw485_0)).trans hw485_0), ((HB.out.cell (World.block_lt_of_cell? w _ hw486_0)).trans hw486_0), ((HB.out.cell (World.block_lt_of_cell? w _ hw487_0)).trans hw487_0), ((HB.out.cell (World.block_lt_of_cell? w _ hw488_0)).trans hw488_0)⟩ (fun hHeld => ?_); refine with_tabW hopmeshref12_Merge.tab8 hopmeshref12_Merge.bits8 (fun HT_ HW_ => ?_)
               generalize wr.drew = w40 at BK480 BK481 BK482 HB hx485_0 hx486_0 hx487_0 hx488_0 hHeld ⊢
               refine pur 0 (some 28) #[true, false, false, false, false, false, false, false, false, false, false, false, false, false, false, false, false, false, false, false, false, false, false, false] HT_ ?_
               refine pur 2 (some 30) #[true, false, true, false, false, false, false, false, false, false, false, false, false, false, false, false, false, false, false, false, false, false, false, false] HT_ ?_
               refine pur 5 (some 33) #[true, false, true, false, false, true, false, false, false, false, false, false, false, false, false, false, false, false, false, false, false, false, false, false] HT_ ?_
               refine pur 7 (some 35) #[true, false, true, false, false, true, false, true, false, false, false, false, false, false, false, false, false, false, false, false, false, false, false, false] HT_ ?_
               refine tak 1 (some 29) #[true, true, true, false, false, true, false, true, false, false, false, false, false, false, false, false, false, false, false, false, false, false, false, false] HT_ HW_ hHeld rfl (Or.inl ⟨by rfl, by rintro w' ⟨s0, s1, s2, s3, s4, s5, s6, s7, s8, s9, s10, s11⟩; go_simp; with_reducible rfl⟩) ?_
               refine pur 3 (some 31) #[true, true, true, true, false, true, false, true, false, false, false, false, false, false, false, false, false, false, false, false, false, false, false, false] HT_ ?_
               refine tak 4 (some 32) #[true, true, true, true, true, true, false, true, false, false, false, false, false, false, false, false, false, false, false, false, false, false, false, false] HT_ HW_ hHeld rfl (Or.inl ⟨by rfl, by rintro w' ⟨s0, s1, s2, s3, s4, s5, s6, s7, s8, s9, s10, s11⟩; go_simp; with_reducible rfl⟩) ?_
               refine tak 6 (some 34) #[true, true, true, true, true, true, true, true, false, false, false, false, false, false, false, false, false, false, false, false, false, false, false, false] HT_ HW_ hHeld rfl (Or.inl ⟨by rfl, by rintro w' ⟨s0, s1, s2, s3, s4, s5, s6, s7, s8, s9, s10, s11⟩; go_simp; with_reducible rfl⟩) ?_
               refine pur 8 (some 36) #[true, true, true, true, true, true, true, true, true, false, false, false, false, false, false, false, false, false, false, false, false, false, false, false] HT_ ?_
               refine tak 9 (some 37) #[true, true, true, true, true, true, true, true, true, true, false, false, false, false, false, false, false, false, false, false, false, false, false, false] HT_ HW_ hHeld rfl (Or.inl ⟨by rfl, by rintro w' ⟨s0, s1, s2, s3, s4, s5, s6, s7, s8, s9, s10, s11⟩; go_simp; with_reducible rfl⟩) ?_
               refine pur 10 (some 38) #[true, true, true, true, true, true, true, true, true, true, true, false, false, false, false, false, false, false, false, false, false, false, false, false] HT_ ?_
               refine pur 11 (some 39) #[true, true, true, true, true, true, true, true, true, true, true, true, false, false, false, false, false, false, false, false, false, false, false, false] HT_ ?_
               refine pur 12 (some 40) #[true, true, true, true, true, true, true, true, true, true, true, true, true, false, false, false, false, false, false, false, false, false, false, false] HT_ ?_
               refine pur 14 (some 42) #[true, true, true, true, true, true, true, true, true, true, true, true, true, false, true, false, false, false, false, false, false, false, false, false] HT_ ?_
               refine pur 17 (some 45) #[true, true, true, true, true, true, true, true, true, true, true, true, true, false, true, false, false, true, false, false, false, false, false, false] HT_ ?_
               refine pur 19 (some 47) #[true, true, true, true, true, true, true, true, true, true, true, true, true, false, true, false, false, true, false, true, false, false, false, false] HT_ ?_
               refine tak 13 (some 41) #[true, true, true, true, true, true, true, true, true, true, true, true, true, true, true, false, false, true, false, true, false, false, false, false] HT_ HW_ hHeld rfl (Or.inl ⟨by rfl, by rintro w' ⟨s0, s1, s2, s3, s4, s5, s6, s7, s8, s9, s10, s11⟩; go_simp; with_reducible rfl⟩) ?_
               refine pur 15 (some 43) #[true, true, true, true, true, true, true, true, true, true, true, true, true, true, true, true, false, true, false, true, false, false, false, false] HT_ ?_
               refine tak 16 (some 44) #[true, true, true, true, true, true, true, true, true, true, true, true, true, true, true, true, true, true, false, true, false, false, false, false] HT_ HW_ hHeld rfl (Or.inl ⟨by rfl, by rintro w' ⟨s0, s1, s2, s3, s4, s5, s6, s7, s8, s9, s10, s11⟩; go_simp; with_reducible rfl⟩) ?_
               refine tak 18 (some 46) #[true, true, true, true, true, true, true, true, true, true, true, true, true, true, true, true, true, true, true, true, false, false, false, false] HT_ HW_ hHeld rfl (Or.inl ⟨by rfl, by rintro w' ⟨s0, s1, s2, s3, s4, s5, s6, s7, s8, s9, s10, s11⟩; go_simp; with_reducible rfl⟩) ?_
               refine pur 20 (some 48) #[true, true, true, true, true, true, true, true, true, true, true, true, true, true, true, true, true, true, true, true, true, false, false, false] HT_ ?_
               refine tak 21 (some 49) #[true, true, true, true, true, true, true, true, true, true, true, true, true, true, true, true, true, true, true, true, true, true, false, false] HT_ HW_ hHeld rfl (Or.inl ⟨by rfl, by rintro w' ⟨s0, s1, s2, s3, s4, s5, s6, s7, s8, s9, s10, s11⟩; go_simp; with_reducible rfl⟩) ?_
               refine pur 22 (some 50) #[true, true, true, true, true, true, true, true, true, true, true, true, true, true, true, true, true, true, true, true, true, true, true, false] HT_ ?_
               refine pur 23 (some 51) #[true, true, true, true, true, true, true, true, true, true, true, true, true, true, true, true, true, true, true, true, true, true, true, true] HT_ ?_
               refine done_ (done_of HT_.out (by kernel_rfl)) ?_
               have hnb41 := NB482_480.out
               have hnc41 := NB480_482.out
               have hnb42 := NB482_481.out
               have hnc42 := NB481_482.out
               obtain ⟨z0, z1, z2, z3, y0, y1, y2, y3⟩ := bc4 BK482
               try go_wp2
               refine bodyPost_ret (results_ct rfl _ _ gb482 25 #[.int .i64 0, .slice none 0 0, .slice none 0 0, .slice none 0 0] (0, 0) _ rfl (bkp BK482) Try.underlying25 rfl (by kernel_rfl)) rfl ?_
               exact ⟨_, _, _, rerr, rnil, rnil, rnil, hbx HB⟩
             ·rw [if_neg c37] at H
              exact absurd H (by simp)
            ·rw [if_neg c36] at H
             exact absurd H (by simp)
           ·rw [if_neg c35] at H
            have c35b0 : ((rd l0_2 x6_2) == (rd l1_2 x6_2)) = false := beq_eq_false_iff_ne.mpr c35
            have c35b1 : ((rd l0_2 x6_2) != (rd l1_2 x6_2)) = true := bne_iff_ne.mpr c35
            simp only [Option.some.injEq, Prod.mk.injEq] at H
            obtain ⟨rfl, rfl, rfl, rfl, rfl⟩ := H
            try go_wp2
            replace BK480 := Aside0.mk (blk_drew BK480.out)
            replace BK481 := Aside0.mk (blk_drew BK481.out)
            replace BK482 := Aside0.mk (blk_drew BK482.out)
            replace HB := Aside0.mk (below_drew1 HB.out)
            have p485 : 0 ≤ (x6_2 : Int) := pos_
            have q485 : x6_2 < (l0_2.length : Int) := pos_
            obtain ⟨ad485, e485, hx485_0⟩ := Kd.at_int HR0_2.out x6_2 p485 q485
            have hw485_0 := hx485_0
            cases e485
            replace hx485_0 := (HB.out.cell (World.block_lt_of_cell? w _ hx485_0)).trans hx485_0
            replace p485 := eq_true p485
            replace q485 := eq_true q485
            have p486 : 0 ≤ (x6_2 : Int) := pos_
            have q486 : x6_2 < (l1_2.length : Int) := pos_
            obtain ⟨ad486, e486, hx486_0⟩ := Kd.at_int HR1_2.out x6_2 p486 q486
            have hw486_0 := hx486_0
            cases e486
            replace hx486_0 := (HB.out.cell (World.block_lt_of_cell? w _ hx486_0)).trans hx486_0
            replace p486 := eq_true p486
            replace q486 := eq_true q486
            refine start_ (n := 24) (S := fun w' => w'.cell? ⟨gb480, 0, none⟩ = some (.int .i64 a0_0) ∧ w'.cell? ⟨gb480, 1, none⟩ = some (.slice A0_1 l0_1.length c0_1) ∧ w'.cell? ⟨gb480, 2, none⟩ = some (.slice (some ad485) l0_2.length c0_2) ∧ w'.cell? ⟨gb480, 3, none⟩ = some (.slice A0_3 l0_3.length c0_3) ∧ w'.cell? ⟨gb481, 0, none⟩ = some (.int .i64 a1_0) ∧ w'.cell? ⟨gb481, 1, none⟩ = some (.slice A1_1 l1_1.length c1_1) ∧ w'.cell? ⟨gb481, 2, none⟩ = some (.slice (some ad486) l1_2.length c1_2) ∧ w'.cell? ⟨gb481, 3, none⟩ = some (.slice A1_3 l1_3.length c1_3) ∧ w'.cell? (ad485.add (x6_2).toNat) = some (.int .i64 (rd l0_2 x6_2)) ∧ w'.cell? (ad486.add (x6_2).toNat) = some (.int .i64 (rd l1_2 x6_2))) (ds := []) #[false, false, false, false, false, false, false, false, false, false, false, false, false, false, false, false, false, false, false, false, false, false, false, false] (by kernel_rfl) rfl rfl ⟨(blk_cell BK480.out 0).trans rfl, (blk_cell BK480.out 1).trans rfl, (blk_cell BK480.out 2).trans rfl, (blk_cell BK480.out 3).trans rfl, (blk_cell BK481.out 0).trans rfl, (blk_cell BK481.out 1).trans rfl, (blk_cell BK481.out 2).trans rfl, (blk_cell BK481.out 3).trans rfl, ((HB.out.cell (World.block_lt_of_cell? w _ hw485_0)).trans hw485_0), ((HB.out.cell (World.block_lt_of_cell? w _ hw486_0)).trans hw486_0)⟩ (fun hHeld => ?_); refine with_tabW hopmeshref12_Merge.tab8 hopmeshref12_Merge.bits8 (fun HT_ HW_ => ?_)
            generalize wr.drew = w44 at BK480 BK481 BK482 HB hx485_0 hx486_0 hHeld ⊢
            refine pur 0 (some 28) #[true, false, false, false, false, false, false, false, false, false, false, false, false, false, false, false, false, false, false, false, false, false, false, false] HT_ ?_
            refine pur 2 (some 30) #[true, false, true, false, false, false, false, false, false, false, false, false, false, false, false, false, false, false, false, false, false, false, false, false] HT_ ?_
            refine pur 5 (some 33) #[true, false, true, false, false, true, false, false, false, false, false, false, false, false, false, false, false, false, false, false, false, false, false, false] HT_ ?_
            refine pur 7 (some 35) #[true, false, true, false, false, true, false, true, false, false, false, false, false, false, false, false, false, false, false, false, false, false, false, false] HT_ ?_
            refine tak 1 (some 29) #[true, true, true, false, false, true, false, true, false, false, false, false, false, false, false, false, false, false, false, false, false, false, false, false] HT_ HW_ hHeld rfl (Or.inl ⟨by rfl, by rintro w' ⟨s0, s1, s2, s3, s4, s5, s6, s7, s8, s9⟩; go_simp; with_reducible rfl⟩) ?_
            refine pur 3 (some 31) #[true, true, true, true, false, true, false, true, false, false, false, false, false, false, false, false, false, false, false, false, false, false, false, false] HT_ ?_
            refine tak 4 (some 32) #[true, true, true, true, true, true, false, true, false, false, false, false, false, false, false, false, false, false, false, false, false, false, false, false] HT_ HW_ hHeld rfl (Or.inl ⟨by rfl, by rintro w' ⟨s0, s1, s2, s3, s4, s5, s6, s7, s8, s9⟩; go_simp; with_reducible rfl⟩) ?_
            refine tak 6 (some 34) #[true, true, true, true, true, true, true, true, false, false, false, false, false, false, false, false, false, false, false, false, false, false, false, false] HT_ HW_ hHeld rfl (Or.inl ⟨by rfl, by rintro w' ⟨s0, s1, s2, s3, s4, s5, s6, s7, s8, s9⟩; go_simp; with_reducible rfl⟩) ?_
            refine pur 8 (some 36) #[true, true, true, true, true, true, true, true, true, false, false, false, false, false, false, false, false, false, false, false, false, false, false, false] HT_ ?_
            refine tak 9 (some 37) #[true, true, true, true, true, true, true, true, true, true, false, false, false, false, false, false, false, false, false, false, false, false, false, false] HT_ HW_ hHeld rfl (Or.inl ⟨by rfl, by rintro w' ⟨s0, s1, s2, s3, s4, s5, s6, s7, s8, s9⟩; go_simp; with_reducible rfl⟩) ?_
            refine pur 10 (some 38) #[true, true, true, true, true, true, true, true, true, true, true, false, false, false, false, false, false, false, false, false, false, false, false, false] HT_ ?_
            refine pur 11 (some 39) #[true, true, true, true, true, true, true, true, true, true, true, true, false, false, false, false, false, false, false, false, false, false, false, false] HT_ ?_
            refine pure_ (i := 12) (N := some 40) (v := undef) (a' := ?_) #[true, true, true, true, true, true, true, true, true, true, true, true, true, false, false, false, false, false, false, false, false, false, false, false] rfl rfl (any_of HT_.out (by kernel_rfl)) (fun _ _ _ h => h) (Or.inr ⟨by rfl, rfl⟩) ?_ ?_
            rotate_left
            ·simp only [Act.put, List.setIfInBounds_toArray, List.set_cons_zero, List.set_cons_succ, i64_w, i32_w]
             rfl
            refine pure_ (i := 13) (N := some 41) (v := undef) (a' := ?_) #[true, true, true, true, true, true, true, true, true, true, true, true, true, true, false, false, false, false, false, false, false, false, false, false] rfl rfl (any_of HT_.out (by kernel_rfl)) (fun _ _ _ h => h) (Or.inr ⟨by rfl, rfl⟩) ?_ ?_
            rotate_left
            ·simp only [Act.put, List.setIfInBounds_toArray, List.set_cons_zero, List.set_cons_succ, i64_w, i32_w]
             rfl
            refine pure_ (i := 14) (N := some 42) (v := undef) (a' := ?_) #[true, true, true, true, true, true, true, true, true, true, true, true, true, true, true, false, false, false, false, false, false, false, false, false] rfl rfl (any_of HT_.out (by kernel_rfl)) (fun _ _ _ h => h) (Or.inr ⟨by rfl, rfl⟩) ?_ ?_
            rotate_left
            ·simp only [Act.put, List.setIfInBounds_toArray, List.set_cons_zero, List.set_cons_succ, i64_w, i32_w]
             rfl
            refine pure_ (i := 15) (N := some 43) (v := undef) (a' := ?_) #[true, true, true, true, true, true, true, true, true, true, true, true, true, true, true, true, false, false, false, false, false, false, false, false] rfl rfl (any_of HT_.out (by kernel_rfl)) (fun _ _ _ h => h) (Or.inr ⟨by rfl, rfl⟩) ?_ ?_
            rotate_left
            ·simp only [Act.put, List.setIfInBounds_toArray, List.set_cons_zero, List.set_cons_succ, i64_w, i32_w]
             rfl
            refine pure_ (i := 16) (N := some 44) (v := undef) (a' := ?_) #[true, true, true, true, true, true, true, true, true, true, true, true, true, true, true, true, true, false, false, false, false, false, false, false] rfl rfl (any_of HT_.out (by kernel_rfl)) (fun _ _ _ h => h) (Or.inr ⟨by rfl, rfl⟩) ?_ ?_
            rotate_left
            ·simp only [Act.put, List.setIfInBounds_toArray, List.set_cons_zero, List.set_cons_succ, i64_w, i32_w]
             rfl
            refine pure_ (i := 17) (N := some 45) (v := undef) (a' := ?_) #[true, true, true, true, true, true, true, true, true, true, true, true, true, true, true, true, true, true, false, false, false, false, false, false] rfl rfl (any_of HT_.out (by kernel_rfl)) (fun _ _ _ h => h) (Or.inr ⟨by rfl, rfl⟩) ?_ ?_
            rotate_left
            ·simp only [Act.put, List.setIfInBounds_toArray, List.set_cons_zero, List.set_cons_succ, i64_w, i32_w]
             rfl
            refine pure_ (i := 18) (N := some 46) (v := undef) (a' := ?_) #[true, true, true, true, true, true, true, true, true, true, true, true, true, true, true, true, true, true, true, false, false, false, false, false] rfl rfl (any_of HT_.out (by kernel_rfl)) (fun _ _ _ h => h) (Or.inr ⟨by rfl, rfl⟩) ?_ ?_
            rotate_left
            ·simp only [Act.put, List.setIfInBounds_toArray, List.set_cons_zero, List.set_cons_succ, i64_w, i32_w]
             rfl
            refine pure_ (i := 19) (N := some 47) (v := undef) (a' := ?_) #[true, true, true, true, true, true, true, true, true, true, true, true, true, true, true, true, true, true, true, true, false, false, false, false] rfl rfl (any_of HT_.out (by kernel_rfl)) (fun _ _ _ h => h) (Or.inr ⟨by rfl, rfl⟩) ?_ ?_
            rotate_left
            ·simp only [Act.put, List.setIfInBounds_toArray, List.set_cons_zero, List.set_cons_succ, i64_w, i32_w]
             rfl
            refine pure_ (i := 20) (N := some 48) (v := undef) (a' := ?_) #[true, true, true, true, true, true, true, true, true, true, true, true, true, true, true, true, true, true, true, true, true, false, false, false] rfl rfl (any_of HT_.out (by kernel_rfl)) (fun _ _ _ h => h) (Or.inr ⟨by rfl, rfl⟩) ?_ ?_
            rotate_left
            ·simp only [Act.put, List.setIfInBounds_toArray, List.set_cons_zero, List.set_cons_succ, i64_w, i32_w]
             rfl
            refine pure_ (i := 21) (N := some 49) (v := undef) (a' := ?_) #[true, true, true, true, true, true, true, true, true, true, true, true, true, true, true, true, true, true, true, true, true, true, false, false] rfl rfl (any_of HT_.out (by kernel_rfl)) (fun _ _ _ h => h) (Or.inr ⟨by rfl, rfl⟩) ?_ ?_
            rotate_left
            ·simp only [Act.put, List.setIfInBounds_toArray, List.set_cons_zero, List.set_cons_succ, i64_w, i32_w]
             rfl
            refine pure_ (i := 22) (N := some 50) (v := undef) (a' := ?_) #[true, true, true, true, true, true, true, true, true, true, true, true, true, true, true, true, true, true, true, true, true, true, true, false] rfl rfl (any_of HT_.out (by kernel_rfl)) (fun _ _ _ h => h) (Or.inr ⟨by rfl, rfl⟩) ?_ ?_
            rotate_left
            ·simp only [Act.put, List.setIfInBounds_toArray, List.set_cons_zero, List.set_cons_succ, i64_w, i32_w]
             rfl
            refine pur 23 (some 51) #[true, true, true, true, true, true, true, true, true, true, true, true, true, true, true, true, true, true, true, true, true, true, true, true] HT_ ?_
            refine done_ (done_of HT_.out (by kernel_rfl)) ?_
            have hnb45 := NB482_480.out
            have hnc45 := NB480_482.out
            have hnb46 := NB482_481.out
            have hnc46 := NB481_482.out
            obtain ⟨z0, z1, z2, z3, y0, y1, y2, y3⟩ := bc4 BK482
            try go_wp2
            refine bodyPost_ret (results_ct rfl _ _ gb482 25 #[.int .i64 0, .slice none 0 0, .slice none 0 0, .slice none 0 0] (0, 0) _ rfl (bkp BK482) Try.underlying25 rfl (by kernel_rfl)) rfl ?_
            exact ⟨_, _, _, rerr, rnil, rnil, rnil, hbx HB⟩
          ·rw [if_neg c34] at H
           exact absurd H (by simp)
         ·rw [if_neg c33] at H
          exact absurd H (by simp)
        ·rw [if_neg c32] at H
         exact absurd H (by simp)
       ·rw [if_neg c31] at H
        have c31b0 : decide (x6_2 < 16) = false := decide_eq_false c31
        clear c31
        replace H := Option.bind_eq_some_iff.mp H
        obtain ⟨⟨t489, t490, t493, t496⟩, A480, H⟩ := H
        (try dsimp only at H)
        have A48 := Aside0.mk A480
        clear A480
        have H' := Aside0.mk H
        clear H
        have hnb49 := NB480_481.out
        have hnc49 := NB481_480.out
        have hnb50 := NB480_482.out
        have hnc50 := NB482_480.out
        obtain ⟨z0, z1, z2, z3, y0, y1, y2, y3⟩ := bc4 BK480
        go_wp2_with (first | ((with_reducible refine gate_callee (f := 13) rfl ?_); refine goesL_ (some 54) rfl rfl Try.func13 (by kernel_rfl) rfl #[.agg #[.int .i64 a0_0, .slice A0_1 l0_1.length c0_1, .slice A0_2 l0_2.length c0_2, .slice A0_3 l0_3.length c0_3]] rfl sma ?_; (with_reducible refine (hopmeshref12_Copy.calls a0_0 _ _ l0_1 _ _ l0_2 _ _ l0_3 t489 t490 t493 t496 _ (cb HR0_1 HB) HC0_1.out (cb HR0_2 HB) HC0_2.out (cb HR0_3 HB) HC0_3.out A48.out).mono ?_); rintro e w52 ⟨v491, v494, v497, rfl, ho0, ho1, ho2, hb⟩; refine ⟨_, rfl, ?_⟩; have HO492 := Aside0.mk (Kd.R_lower ho0 (below_size (hbx HB))); have HO495 := Aside0.mk (Kd.R_lower ho1 (below_size (hbx HB))); have HO498 := Aside0.mk (Kd.R_lower ho2 (below_size (hbx HB))); replace BK480 := bkB BK480 hb; replace BK481 := bkB BK481 hb; replace BK482 := bkB BK482 hb; replace HB := hbS HB hb; (try clear hb); (try clear hb2); (try clear hk); (try clear hi); (try clear ho0); (try clear ho1); (try clear ho2)) | ((with_reducible refine gate_dst (N := 7) rfl ?_); refine boxE 7 #[.int .i64 0, .slice none 0 0, .slice none 0 0, .slice none 0 0] 25 ?_; intro gb499 hg w53 hbox hb; replace HO492 := rB HO492 hb; replace HO495 := rB HO495 hb; replace HO498 := rB HO498 hb; have BK499 := Aside0.mk (hbox); have GW499 := gw hg HB; have GE499 := gw hg HB; replace HB := hbS HB hb; have NB480_499 := nbl hg BK480; have NB499_480 := nbg hg BK480; replace BK480 := bkB BK480 hb; have NB481_499 := nbl hg BK481; have NB499_481 := nbg hg BK481; replace BK481 := bkB BK481 hb; have NB482_499 := nbl hg BK482; have NB499_482 := nbg hg BK482; replace BK482 := bkB BK482 hb; clear hb hbox hg; have hnb54 := NB499_480.out; have hnc54 := NB480_499.out; have hnb55 := NB499_481.out; have hnc55 := NB481_499.out; have hnb56 := NB499_482.out; have hnc56 := NB482_499.out; obtain ⟨z0, z1, z2, z3, y0, y1, y2, y3⟩ := bc4 BK499; obtain ⟨Ao58, co58, eo58⟩ := Kd.R_slice HO492.out; subst eo58; obtain ⟨Ao59, co59, eo59⟩ := Kd.R_slice HO495.out; subst eo59; obtain ⟨Ao60, co60, eo60⟩ := Kd.R_slice HO498.out; subst eo60))
        go_loopg [8] k2 (fun kq v8 w' => ∃ (x8_3 : Int) (x483000_3 : Int) (x500001_3 : List (S34)) (u500001 : Value), v8 = .int .i64 x8_3 ∧ Aside0 (hopmeshref12_Merge.l1 kq x8_3 a0_0 l0_1 l0_2 l0_3 a1_0 l1_1 l1_2 l1_3 t489 x500001_3 t493 t496 = some (r1, r2, r3, r4, r5)) ∧ Aside0 (kq ≤ k2) ∧ Aside0 (Kd.R k34 34 w' w.heap.size (fun _ => True) u500001 x500001_3) ∧ Aside0 (Kd.R (Kd.int .i64) 3 w' w.heap.size (fun k_ => some k_ ≠ ((.slice Ao60 t496.length co60) : Value).ownBlock) (.slice Ao59 t493.length co59) t493) ∧ Aside0 (Kd.R (Kd.int .i64) 3 w' w.heap.size (fun k_ => some k_ ≠ ((.slice Ao59 t493.length co59) : Value).ownBlock) (.slice Ao60 t496.length co60) t496) ∧ Aside0 (w'.heap[gb480]? = some (.cells #[.int .i64 a0_0, (.slice A0_1 l0_1.length c0_1), (.slice A0_2 l0_2.length c0_2), (.slice A0_3 l0_3.length c0_3)] 25 (0, 0))) ∧ Aside0 (w'.heap[gb481]? = some (.cells #[.int .i64 a1_0, (.slice A1_1 l1_1.length c1_1), (.slice A1_2 l1_2.length c1_2), (.slice A1_3 l1_3.length c1_3)] 25 (0, 0))) ∧ Aside0 (w'.heap[gb482]? = some (.cells #[.int .i64 x483000_3, (.slice none 0 0), (.slice none 0 0), (.slice none 0 0)] 25 (0, 0))) ∧ Aside0 (w'.heap[gb499]? = some (.cells #[.int .i64 t489, u500001, (.slice Ao59 t493.length co59), (.slice Ao60 t496.length co60)] 25 (0, 0))) ∧ Aside0 (Below w.heap.size w w'))
        case atStart => exact ⟨(0), (x483000_2), (t490), (.slice Ao58 t490.length co58), rfs, H', ⟨Nat.le_refl _⟩, ⟨Kd.R_mono (rty (rfo HO492) BK499) (fun _ hk => trivial)⟩, rfA HO495, rfA HO498, bkfA BK480, bkfA BK481, bkfA BK482, bkpA BK499, hbA HB⟩
        case round =>
         clear H'
         try clear c31
         try clear c31b0
         try clear hcz51_0
         try clear hcz51_1
         try clear hcz51_2
         try clear hcz51_3
         try clear hcz57_0
         try clear hcz57_1
         try clear hcz57_2
         try clear hcz57_3
         try clear hfz51_0
         try clear hfz51_1
         try clear hfz51_2
         try clear hfz51_3
         try clear hfz57_0
         try clear hfz57_1
         try clear hfz57_2
         try clear hfz57_3
         obtain ⟨x8_3, x483000_3, x500001_3, u500001, rfl, HA, HK3, HO_500001, HO_500002, HO_500003, BK480, BK481, BK482, BK499, HB⟩ := hrel
         cases gk with
         | zero => exact absurd HA.out (by simp [hopmeshref12_Merge.l1])
         | succ k3 =>
          have H := HA.out
          clear HA
          simp only [hopmeshref12_Merge.l1] at H
          by_cases c61 : x8_3 < 16
          ·rw [if_pos c61] at H
           have c61b0 : decide (x8_3 < 16) = true := decide_eq_true c61
           clear c61
           by_cases c62 : 0 ≤ x8_3
           ·rw [if_pos c62] at H
            have c62b0 : decide (0 ≤ x8_3) = true := decide_eq_true c62
            clear c62
            by_cases c63 : x8_3 < (l0_1.length : Int)
            ·rw [if_pos c63] at H
             have c63b0 : decide (x8_3 < (l0_1.length : Int)) = true := decide_eq_true c63
             clear c63
             by_cases c64 : x8_3 < (l1_1.length : Int)
             ·rw [if_pos c64] at H
              have c64b0 : decide (x8_3 < (l1_1.length : Int)) = true := decide_eq_true c64
              clear c64
              by_cases c65 : x8_3 < (x500001_3.length : Int)
              ·rw [if_pos c65] at H
               have c65b0 : decide (x8_3 < (x500001_3.length : Int)) = true := decide_eq_true c65
               clear c65
               obtain ⟨y502, hy502⟩ : ∃ y_ : List (S34), y_ = (x500001_3.set (x8_3 : Int).toNat (⟨wrap64 (((rd_T34 l0_1 x8_3).f0) + ((rd_T34 l1_1 x8_3).f0)), (rd_T34 x500001_3 x8_3).f1⟩ : S34)) := ⟨_, rfl⟩
               replace H : (if ((rd_T34 y502 x8_3).f0) > 1073741824 then (some (0, ([] : List (S34)), ([] : List Int), ([] : List Int), 13)) else (hopmeshref12_Merge.l1 k3 (wrap64 (x8_3 + 1)) a0_0 l0_1 l0_2 l0_3 a1_0 l1_1 l1_2 l1_3 t489 (y502.set (x8_3 : Int).toNat (⟨(rd_T34 y502 x8_3).f0, wrap64 (((rd_T34 l0_1 x8_3).f1) + ((rd_T34 l1_1 x8_3).f1))⟩ : S34)) t493 t496)) = some (r1, r2, r3, r4, r5) := by first | (rw [hy502]; with_reducible exact H) | (have H2_ := (Option.bind_some _ _).symm.trans H; rw [hy502]; with_reducible exact H2_) | (have H2_ := (Option.bind_some _ _).symm.trans H; with_reducible exact H2_) | with_reducible exact H | (rw [hy502]; exact H) | exact H
               have Ny502 := Aside0.mk hy502
               clear hy502
               obtain ⟨y505, hy505⟩ : ∃ y_ : List (S34), y_ = (y502.set (x8_3 : Int).toNat (⟨(rd_T34 y502 x8_3).f0, wrap64 (((rd_T34 l0_1 x8_3).f1) + ((rd_T34 l1_1 x8_3).f1))⟩ : S34)) := ⟨_, rfl⟩
               replace H : (if ((rd_T34 y502 x8_3).f0) > 1073741824 then (some (0, ([] : List (S34)), ([] : List Int), ([] : List Int), 13)) else (hopmeshref12_Merge.l1 k3 (wrap64 (x8_3 + 1)) a0_0 l0_1 l0_2 l0_3 a1_0 l1_1 l1_2 l1_3 t489 y505 t493 t496)) = some (r1, r2, r3, r4, r5) := by first | (rw [hy505]; with_reducible exact H) | (have H2_ := (Option.bind_some _ _).symm.trans H; rw [hy505]; with_reducible exact H2_) | (have H2_ := (Option.bind_some _ _).symm.trans H; with_reducible exact H2_) | with_reducible exact H | (rw [hy505]; exact H) | exact H
               have Ny505 := Aside0.mk hy505
               clear hy505
               by_cases c69 : ((rd_T34 y502 x8_3).f0) > 1073741824
               ·rw [if_pos c69] at H
                have c69b0 : decide (1073741824 < ((rd_T34 y502 x8_3).f0)) = true := decide_eq_true c69
                clear c69
                simp only [Option.some.injEq, Prod.mk.injEq] at H
                obtain ⟨rfl, rfl, rfl, rfl, rfl⟩ := H
                try go_wp2
                replace HO_500001 := Aside0.mk (Kd.R_drew HO_500001.out)
                replace HO_500002 := Aside0.mk (Kd.R_drew HO_500002.out)
                replace HO_500003 := Aside0.mk (Kd.R_drew HO_500003.out)
                replace BK480 := Aside0.mk (blk_drew BK480.out)
                replace BK481 := Aside0.mk (blk_drew BK481.out)
                replace BK482 := Aside0.mk (blk_drew BK482.out)
                replace BK499 := Aside0.mk (blk_drew BK499.out)
                replace HB := Aside0.mk (below_drew1 HB.out)
                have p500 : 0 ≤ (x8_3 : Int) := pos_
                have q500 : x8_3 < (l0_1.length : Int) := pos_
                obtain ⟨ad500, e500, hx500_0, hx500_1⟩ := at_T34 HR0_1.out x8_3 p500 q500
                have hw500_1 := hx500_1
                have hw500_0 := hx500_0
                cases e500
                replace hx500_0 := (HB.out.cell (World.block_lt_of_cell? w _ hx500_0)).trans hx500_0
                replace hx500_1 := (HB.out.cell (World.block_lt_of_cell? w _ hx500_1)).trans hx500_1
                replace p500 := eq_true p500
                replace q500 := eq_true q500
                have p501 : 0 ≤ (x8_3 : Int) := pos_
                have q501 : x8_3 < (l1_1.length : Int) := pos_
                obtain ⟨ad501, e501, hx501_0, hx501_1⟩ := at_T34 HR1_1.out x8_3 p501 q501
                have hw501_1 := hx501_1
                have hw501_0 := hx501_0
                cases e501
                replace hx501_0 := (HB.out.cell (World.block_lt_of_cell? w _ hx501_0)).trans hx501_0
                replace hx501_1 := (HB.out.cell (World.block_lt_of_cell? w _ hx501_1)).trans hx501_1
                replace p501 := eq_true p501
                replace q501 := eq_true q501
                have p66 : 0 ≤ (x8_3 : Int) := pos_
                have q66 : (x8_3 : Int) < ((x500001_3.length : Int) : Int) := pos_
                obtain ⟨go66, co66, eo66, gb66, gl66, cl66, HG66⟩ := Kd.R_form HO_500001.out (by omega)
                (first | cases eo66 | (injection eo66 with ea_ en_ ec_; (first | subst ea_ | (injection ea_ with ea_; subst ea_)); subst ec_; clear en_))
                have GB66 := Aside0.mk gb66
                have GG66 := Aside0.mk HG66
                clear gb66 gl66 HG66
                obtain ⟨ce66, hcl66, hM66, hcc66, hfr66⟩ := Kd.R_elem HO_500001.out z34 (x8_3 : Int) p66 q66
                obtain rfl := k34_openM hM66
                have hx66_0 : World.cell? _ ⟨go66, (x8_3 : Int).toNat * 2, none⟩ = some (.int .i64 ((rd_T34 x500001_3 x8_3).f0)) := hcc66 0 _ rfl
                have hx66_1 : World.cell? _ ⟨go66, (x8_3 : Int).toNat * 2 + 1, none⟩ = some (.int .i64 ((rd_T34 x500001_3 x8_3).f1)) := hcc66 1 _ rfl
                have hf66_0 : World.frozen? _ ⟨go66, (x8_3 : Int).toNat * 2, none⟩ = false := hfr66 0
                have hf66_1 : World.frozen? _ ⟨go66, (x8_3 : Int).toNat * 2 + 1, none⟩ = false := hfr66 1
                clear hcl66 hcc66 hfr66 hM66
                replace p66 := eq_true p66
                replace q66 := eq_true q66
                obtain ⟨ce71, hcl71, hM71, hcc71, hfr71⟩ := Kd.R_elem HO_500001.out z34 (x8_3 : Int) (pos_) (by have h_ : (x8_3 : Int) < ((x500001_3.length : Int) : Int) := pos_; first | exact h_ | (have e_ := (Kd.R_reads' HO_500001.out).1; omega) | simpa using h_)
                obtain rfl := k34_openM hM71
                have HP71 := (Kd.R_seg HO_500001.out (x8_3 : Int) (pos_) (by have h_ : (x8_3 : Int) < ((x500001_3.length : Int) : Int) := pos_; first | exact h_ | (have e_ := (Kd.R_reads' HO_500001.out).1; omega) | simpa using h_) (seg := [.int .i64 (wrap64 (((rd_T34 l0_1 x8_3).f0) + ((rd_T34 l1_1 x8_3).f0)))]) (j := 0) hcl71 hcc71 (show 1 ≤ 2 from by decide) (x' := (⟨wrap64 (((rd_T34 l0_1 x8_3).f0) + ((rd_T34 l1_1 x8_3).f0)), (rd_T34 x500001_3 x8_3).f1⟩ : S34)) (k34_mkM _ _ _ (⟨wrap64 (((rd_T34 l0_1 x8_3).f0) + ((rd_T34 l1_1 x8_3).f0)), (rd_T34 x500001_3 x8_3).f1⟩ : S34) ) (fun _ hk => hk)).1
                rw [← Ny502.out] at HP71
                have HQ71 := Aside0.mk HP71
                clear hcl71 hcc71 hfr71 hM71 HP71
                refine start_ (n := 19) (S := fun w' => w'.cell? ⟨gb499, 0, none⟩ = some (.int .i64 t489) ∧ w'.cell? ⟨gb499, 1, none⟩ = some (.slice (some ⟨go66, 0, none⟩) x500001_3.length co66) ∧ w'.cell? ⟨gb499, 2, none⟩ = some (.slice Ao59 t493.length co59) ∧ w'.cell? ⟨gb499, 3, none⟩ = some (.slice Ao60 t496.length co60) ∧ w'.cell? ⟨gb480, 0, none⟩ = some (.int .i64 a0_0) ∧ w'.cell? ⟨gb480, 1, none⟩ = some (.slice (some ad500) l0_1.length c0_1) ∧ w'.cell? ⟨gb480, 2, none⟩ = some (.slice A0_2 l0_2.length c0_2) ∧ w'.cell? ⟨gb480, 3, none⟩ = some (.slice A0_3 l0_3.length c0_3) ∧ w'.cell? ⟨gb481, 0, none⟩ = some (.int .i64 a1_0) ∧ w'.cell? ⟨gb481, 1, none⟩ = some (.slice (some ad501) l1_1.length c1_1) ∧ w'.cell? ⟨gb481, 2, none⟩ = some (.slice A1_2 l1_2.length c1_2) ∧ w'.cell? ⟨gb481, 3, none⟩ = some (.slice A1_3 l1_3.length c1_3) ∧ w'.cell? (ad500.add ((x8_3).toNat * 2)) = some (.int .i64 ((rd_T34 l0_1 x8_3).f0)) ∧ w'.cell? ⟨(ad500.add ((x8_3).toNat * 2)).block, (ad500.add ((x8_3).toNat * 2)).off + 1, none⟩ = some (.int .i64 ((rd_T34 l0_1 x8_3).f1)) ∧ w'.cell? (ad501.add ((x8_3).toNat * 2)) = some (.int .i64 ((rd_T34 l1_1 x8_3).f0)) ∧ w'.cell? ⟨(ad501.add ((x8_3).toNat * 2)).block, (ad501.add ((x8_3).toNat * 2)).off + 1, none⟩ = some (.int .i64 ((rd_T34 l1_1 x8_3).f1))) (ds := [18]) #[false, false, false, false, false, false, false, false, false, false, false, false, false, false, false, false, false, false, false] (by kernel_rfl) rfl rfl ⟨(blk_cell BK499.out 0).trans rfl, (blk_cell BK499.out 1).trans rfl, (blk_cell BK499.out 2).trans rfl, (blk_cell BK499.out 3).trans rfl, (blk_cell BK480.out 0).trans rfl, (blk_cell BK480.out 1).trans rfl, (blk_cell BK480.out 2).trans rfl, (blk_cell BK480.out 3).trans rfl, (blk_cell BK481.out 0).trans rfl, (blk_cell BK481.out 1).trans rfl, (blk_cell BK481.out 2).trans rfl, (blk_cell BK481.out 3).trans rfl, ((HB.out.cell (World.block_lt_of_cell? w _ hw500_0)).trans hw500_0), ((HB.out.cell (World.block_lt_of_cell? w _ hw500_1)).trans hw500_1), ((HB.out.cell (World.block_lt_of_cell? w _ hw501_0)).trans hw501_0), ((HB.out.cell (World.block_lt_of_cell? w _ hw501_1)).trans hw501_1)⟩ (fun hHeld => ?_); refine with_tabW hopmeshref12_Merge.tab14 hopmeshref12_Merge.bits14 (fun HT_ HW_ => ?_)
                generalize wr.drew = w70 at HO_500001 HO_500002 HO_500003 BK480 BK481 BK482 BK499 HB GG66 HQ71 hf66_0 hf66_1 hx500_0 hx500_1 hx501_0 hx501_1 hx66_0 hx66_1 hHeld ⊢
                refine pur 0 (some 59) #[true, false, false, false, false, false, false, false, false, false, false, false, false, false, false, false, false, false, false] HT_ ?_
                refine pur 2 (some 61) #[true, false, true, false, false, false, false, false, false, false, false, false, false, false, false, false, false, false, false] HT_ ?_
                refine pur 3 (some 62) #[true, false, true, true, false, false, false, false, false, false, false, false, false, false, false, false, false, false, false] HT_ ?_
                refine pur 5 (some 64) #[true, false, true, true, false, true, false, false, false, false, false, false, false, false, false, false, false, false, false] HT_ ?_
                refine pur 9 (some 68) #[true, false, true, true, false, true, false, false, false, true, false, false, false, false, false, false, false, false, false] HT_ ?_
                refine pur 11 (some 70) #[true, false, true, true, false, true, false, false, false, true, false, true, false, false, false, false, false, false, false] HT_ ?_
                refine tak 1 (some 60) #[true, true, true, true, false, true, false, false, false, true, false, true, false, false, false, false, false, false, false] HT_ HW_ hHeld rfl (Or.inl ⟨by rfl, by rintro w' ⟨s0, s1, s2, s3, s4, s5, s6, s7, s8, s9, s10, s11, s12, s13, s14, s15⟩; go_simp; with_reducible rfl⟩) ?_
                refine tak 4 (some 63) #[true, true, true, true, true, true, false, false, false, true, false, true, false, false, false, false, false, false, false] HT_ HW_ hHeld rfl (Or.inl ⟨by rfl, by rintro w' ⟨s0, s1, s2, s3, s4, s5, s6, s7, s8, s9, s10, s11, s12, s13, s14, s15⟩; go_simp; with_reducible rfl⟩) ?_
                refine pur 6 (some 65) #[true, true, true, true, true, true, true, false, false, true, false, true, false, false, false, false, false, false, false] HT_ ?_
                refine pur 7 (some 66) #[true, true, true, true, true, true, true, true, false, true, false, true, false, false, false, false, false, false, false] HT_ ?_
                refine tak 8 (some 67) #[true, true, true, true, true, true, true, true, true, true, false, true, false, false, false, false, false, false, false] HT_ HW_ hHeld rfl (Or.inl ⟨by rfl, by rintro w' ⟨s0, s1, s2, s3, s4, s5, s6, s7, s8, s9, s10, s11, s12, s13, s14, s15⟩; go_simp; with_reducible rfl⟩) ?_
                refine tak 10 (some 69) #[true, true, true, true, true, true, true, true, true, true, true, true, false, false, false, false, false, false, false] HT_ HW_ hHeld rfl (Or.inl ⟨by rfl, by rintro w' ⟨s0, s1, s2, s3, s4, s5, s6, s7, s8, s9, s10, s11, s12, s13, s14, s15⟩; go_simp; with_reducible rfl⟩) ?_
                refine pur 12 (some 71) #[true, true, true, true, true, true, true, true, true, true, true, true, true, false, false, false, false, false, false] HT_ ?_
                refine pur 13 (some 72) #[true, true, true, true, true, true, true, true, true, true, true, true, true, true, false, false, false, false, false] HT_ ?_
                refine tak 14 (some 73) #[true, true, true, true, true, true, true, true, true, true, true, true, true, true, true, false, false, false, false] HT_ HW_ hHeld rfl (Or.inl ⟨by rfl, by rintro w' ⟨s0, s1, s2, s3, s4, s5, s6, s7, s8, s9, s10, s11, s12, s13, s14, s15⟩; go_simp; with_reducible rfl⟩) ?_
                refine pur 15 (some 74) #[true, true, true, true, true, true, true, true, true, true, true, true, true, true, true, true, false, false, false] HT_ ?_
                refine pur 16 (some 75) #[true, true, true, true, true, true, true, true, true, true, true, true, true, true, true, true, true, false, false] HT_ ?_
                refine pur 17 (some 76) #[true, true, true, true, true, true, true, true, true, true, true, true, true, true, true, true, true, true, false] HT_ ?_
                refine last_ (i := 18) (N := none) #[true, true, true, true, true, true, true, true, true, true, true, true, true, true, true, true, true, true, true] rfl rfl (one_of HT_.out (by kernel_rfl)) (by decide) (fun K hK => ?_)
                refine skip_ (w1 := ?_) (by rfl) rfl ?_ ?_
                rotate_left
                ·go_simp
                 rfl
                refine hK.out _ _ ?_
                clear hK K
                refine done_ (done_of HT_.out (by kernel_rfl)) ?_
                have n0_ : Aside0 (Kd.R k34 34 (w70.setCell ⟨go66, (x8_3 : Int).toNat * 2, none⟩ (.int .i64 (wrap64 (((rd_T34 l0_1 x8_3).f0) + ((rd_T34 l1_1 x8_3).f0))))) w.heap.size (fun _ => True) (.slice (some ⟨go66, 0, none⟩) x500001_3.length co66) y502) := ⟨by (with_reducible repeat (first | apply Kd.R_alloc | apply Kd.R_drewN | apply Kd.R_drew)); exact HQ71.out⟩
                have n1_ : Aside0 (Kd.R (Kd.int .i64) 3 (w70.setCell ⟨go66, (x8_3 : Int).toNat * 2, none⟩ (.int .i64 (wrap64 (((rd_T34 l0_1 x8_3).f0) + ((rd_T34 l1_1 x8_3).f0))))) w.heap.size (fun k_ => some k_ ≠ (.slice Ao60 t496.length co60 : Value).ownBlock) (.slice Ao59 t493.length co59) t493) := ⟨by (with_reducible repeat (first | apply Kd.R_alloc | apply Kd.R_drewN | apply Kd.R_drew)); exact Kd.R_mono (Kd.R_far (p := ⟨go66, (x8_3 : Int).toNat * 2, none⟩) (Kd.R_types HO_500002.out GG66.out (by decide)) (fun _ hk => hk.2) (.int .i64 (wrap64 (((rd_T34 l0_1 x8_3).f0) + ((rd_T34 l1_1 x8_3).f0))))) (fun _ hk => hk.1)⟩
                have n2_ : Aside0 (Kd.R (Kd.int .i64) 3 (w70.setCell ⟨go66, (x8_3 : Int).toNat * 2, none⟩ (.int .i64 (wrap64 (((rd_T34 l0_1 x8_3).f0) + ((rd_T34 l1_1 x8_3).f0))))) w.heap.size (fun k_ => some k_ ≠ (.slice Ao59 t493.length co59 : Value).ownBlock) (.slice Ao60 t496.length co60) t496) := ⟨by (with_reducible repeat (first | apply Kd.R_alloc | apply Kd.R_drewN | apply Kd.R_drew)); exact Kd.R_mono (Kd.R_far (p := ⟨go66, (x8_3 : Int).toNat * 2, none⟩) (Kd.R_types HO_500003.out GG66.out (by decide)) (fun _ hk => hk.2) (.int .i64 (wrap64 (((rd_T34 l0_1 x8_3).f0) + ((rd_T34 l1_1 x8_3).f0))))) (fun _ hk => hk.1)⟩
                have n3_ : Aside0 ((w70.setCell ⟨go66, (x8_3 : Int).toNat * 2, none⟩ (.int .i64 (wrap64 (((rd_T34 l0_1 x8_3).f0) + ((rd_T34 l1_1 x8_3).f0))))).heap[gb480]? = some (.cells #[.int .i64 a0_0, .slice (some ad500) l0_1.length c0_1, .slice A0_2 l0_2.length c0_2, .slice A0_3 l0_3.length c0_3] 25 (0, 0))) := ⟨by (with_reducible repeat (first | refine blk_drewN ?_ _ | refine blk_drew ?_ | refine blk_alloc ?_ _)); refine blk_far ?_ (by have h_ := Kd.R_ne HO_500001.out BK480.out (by decide); intro e_; exact h_ (by rw [e_]; rfl)) _; (with_reducible repeat (first | refine blk_drewN ?_ _ | refine blk_drew ?_ | refine blk_alloc ?_ _)); exact BK480.out⟩
                have n4_ : Aside0 ((w70.setCell ⟨go66, (x8_3 : Int).toNat * 2, none⟩ (.int .i64 (wrap64 (((rd_T34 l0_1 x8_3).f0) + ((rd_T34 l1_1 x8_3).f0))))).heap[gb481]? = some (.cells #[.int .i64 a1_0, .slice (some ad501) l1_1.length c1_1, .slice A1_2 l1_2.length c1_2, .slice A1_3 l1_3.length c1_3] 25 (0, 0))) := ⟨by (with_reducible repeat (first | refine blk_drewN ?_ _ | refine blk_drew ?_ | refine blk_alloc ?_ _)); refine blk_far ?_ (by have h_ := Kd.R_ne HO_500001.out BK481.out (by decide); intro e_; exact h_ (by rw [e_]; rfl)) _; (with_reducible repeat (first | refine blk_drewN ?_ _ | refine blk_drew ?_ | refine blk_alloc ?_ _)); exact BK481.out⟩
                have n5_ : Aside0 ((w70.setCell ⟨go66, (x8_3 : Int).toNat * 2, none⟩ (.int .i64 (wrap64 (((rd_T34 l0_1 x8_3).f0) + ((rd_T34 l1_1 x8_3).f0))))).heap[gb482]? = some (.cells #[.int .i64 x483000_3, .slice none 0 0, .slice none 0 0, .slice none 0 0] 25 (0, 0))) := ⟨by (with_reducible repeat (first | refine blk_drewN ?_ _ | refine blk_drew ?_ | refine blk_alloc ?_ _)); refine blk_far ?_ (by have h_ := Kd.R_ne HO_500001.out BK482.out (by decide); intro e_; exact h_ (by rw [e_]; rfl)) _; (with_reducible repeat (first | refine blk_drewN ?_ _ | refine blk_drew ?_ | refine blk_alloc ?_ _)); exact BK482.out⟩
                have n6_ : Aside0 ((w70.setCell ⟨go66, (x8_3 : Int).toNat * 2, none⟩ (.int .i64 (wrap64 (((rd_T34 l0_1 x8_3).f0) + ((rd_T34 l1_1 x8_3).f0))))).heap[gb499]? = some (.cells #[.int .i64 t489, .slice (some ⟨go66, 0, none⟩) x500001_3.length co66, .slice Ao59 t493.length co59, .slice Ao60 t496.length co60] 25 (0, 0))) := ⟨by (with_reducible repeat (first | refine blk_drewN ?_ _ | refine blk_drew ?_ | refine blk_alloc ?_ _)); refine blk_far ?_ (by have h_ := Kd.R_ne HO_500001.out BK499.out (by decide); intro e_; exact h_ (by rw [e_]; rfl)) _; (with_reducible repeat (first | refine blk_drewN ?_ _ | refine blk_drew ?_ | refine blk_alloc ?_ _)); exact BK499.out⟩
                have n7_ : Aside0 (Below w.heap.size w (w70.setCell ⟨go66, (x8_3 : Int).toNat * 2, none⟩ (.int .i64 (wrap64 (((rd_T34 l0_1 x8_3).f0) + ((rd_T34 l1_1 x8_3).f0)))))) := ⟨by repeat (first | (with_reducible first | exact HB.out | apply below_alloc | apply pw_below_drewN | apply below_drew1 | refine below_set ?_ GB66.out | refine below_set ?_ GE480.out | refine below_set ?_ GE481.out | refine below_set ?_ GE482.out | refine below_set ?_ GE499.out) | exact HB.out)⟩
                (try clear HO_500001)
                (try clear HO_500002)
                (try clear HO_500003)
                (try clear BK480)
                (try clear BK481)
                (try clear BK482)
                (try clear BK499)
                (try clear HB)
                generalize (w70.setCell ⟨go66, (x8_3 : Int).toNat * 2, none⟩ (.int .i64 (wrap64 (((rd_T34 l0_1 x8_3).f0) + ((rd_T34 l1_1 x8_3).f0))))) = w72 at n0_ n1_ n2_ n3_ n4_ n5_ n6_ n7_ ⊢
                have HO_500001 := n0_
                have HO_500002 := n1_
                have HO_500003 := n2_
                have BK480 := n3_
                have BK481 := n4_
                have BK482 := n5_
                have BK499 := n6_
                have HB := n7_
                clear n0_ n1_ n2_ n3_ n4_ n5_ n6_ n7_
                try go_wp2
                replace HO_500001 := Aside0.mk (Kd.R_drew HO_500001.out)
                replace HO_500002 := Aside0.mk (Kd.R_drew HO_500002.out)
                replace HO_500003 := Aside0.mk (Kd.R_drew HO_500003.out)
                replace BK480 := Aside0.mk (blk_drew BK480.out)
                replace BK481 := Aside0.mk (blk_drew BK481.out)
                replace BK482 := Aside0.mk (blk_drew BK482.out)
                replace BK499 := Aside0.mk (blk_drew BK499.out)
                replace HB := Aside0.mk (below_drew1 HB.out)
                have p503 : 0 ≤ (x8_3 : Int) := pos_
                have q503 : x8_3 < (l0_1.length : Int) := pos_
                obtain ⟨ad503, e503, hx503_0, hx503_1⟩ := at_T34 HR0_1.out x8_3 p503 q503
                have hw503_1 := hx503_1
                have hw503_0 := hx503_0
                obtain rfl : ad500 = ad503 := (by injection e503)
                replace hx503_0 := (HB.out.cell (World.block_lt_of_cell? w _ hx503_0)).trans hx503_0
                replace hx503_1 := (HB.out.cell (World.block_lt_of_cell? w _ hx503_1)).trans hx503_1
                replace p503 := eq_true p503
                replace q503 := eq_true q503
                have p504 : 0 ≤ (x8_3 : Int) := pos_
                have q504 : x8_3 < (l1_1.length : Int) := pos_
                obtain ⟨ad504, e504, hx504_0, hx504_1⟩ := at_T34 HR1_1.out x8_3 p504 q504
                have hw504_1 := hx504_1
                have hw504_0 := hx504_0
                obtain rfl : ad501 = ad504 := (by injection e504)
                replace hx504_0 := (HB.out.cell (World.block_lt_of_cell? w _ hx504_0)).trans hx504_0
                replace hx504_1 := (HB.out.cell (World.block_lt_of_cell? w _ hx504_1)).trans hx504_1
                replace p504 := eq_true p504
                replace q504 := eq_true q504
                have p67 : 0 ≤ (x8_3 : Int) := pos_
                have q67 : (x8_3 : Int) < ((x500001_3.length : Int) : Int) := pos_
                obtain ⟨go_, co_, eo_, gb_, gl_, cl_, HG_⟩ := Kd.R_form HO_500001.out (by have e_ := (Kd.R_reads' HO_500001.out).1; omega)
                obtain rfl : go66 = go_ := Option.some.inj (show some go66 = some go_ from congrArg Value.ownBlock eo_)
                replace GG66 := Aside0.mk HG_
                clear eo_ gb_ gl_ HG_
                obtain ⟨ce67, hcl67, hM67, hcc67, hfr67⟩ := Kd.R_elem HO_500001.out z34 (x8_3 : Int) p67 q67
                obtain rfl := k34_openM hM67
                have hx67_0 : World.cell? _ ⟨go66, (x8_3 : Int).toNat * 2, none⟩ = some (.int .i64 ((rd_T34 y502 x8_3).f0)) := hcc67 0 _ rfl
                have hx67_1 : World.cell? _ ⟨go66, (x8_3 : Int).toNat * 2 + 1, none⟩ = some (.int .i64 ((rd_T34 y502 x8_3).f1)) := hcc67 1 _ rfl
                have hf67_0 : World.frozen? _ ⟨go66, (x8_3 : Int).toNat * 2, none⟩ = false := hfr67 0
                have hf67_1 : World.frozen? _ ⟨go66, (x8_3 : Int).toNat * 2 + 1, none⟩ = false := hfr67 1
                clear hcl67 hcc67 hfr67 hM67
                replace p67 := eq_true p67
                replace q67 := eq_true q67
                obtain ⟨ce74, hcl74, hM74, hcc74, hfr74⟩ := Kd.R_elem HO_500001.out z34 (x8_3 : Int) (pos_) (by have h_ : (x8_3 : Int) < ((x500001_3.length : Int) : Int) := pos_; first | exact h_ | (have e_ := (Kd.R_reads' HO_500001.out).1; omega) | simpa using h_)
                obtain rfl := k34_openM hM74
                have HP74 := (Kd.R_seg HO_500001.out (x8_3 : Int) (pos_) (by have h_ : (x8_3 : Int) < ((x500001_3.length : Int) : Int) := pos_; first | exact h_ | (have e_ := (Kd.R_reads' HO_500001.out).1; omega) | simpa using h_) (seg := [.int .i64 (wrap64 (((rd_T34 l0_1 x8_3).f1) + ((rd_T34 l1_1 x8_3).f1)))]) (j := 1) hcl74 hcc74 (show 2 ≤ 2 from by decide) (x' := (⟨(rd_T34 y502 x8_3).f0, wrap64 (((rd_T34 l0_1 x8_3).f1) + ((rd_T34 l1_1 x8_3).f1))⟩ : S34)) (k34_mkM _ _ _ (⟨(rd_T34 y502 x8_3).f0, wrap64 (((rd_T34 l0_1 x8_3).f1) + ((rd_T34 l1_1 x8_3).f1))⟩ : S34) ) (fun _ hk => hk)).1
                rw [← Ny505.out] at HP74
                have HQ74 := Aside0.mk HP74
                clear hcl74 hcc74 hfr74 hM74 HP74
                refine start_ (n := 19) (S := fun w' => w'.cell? ⟨gb499, 0, none⟩ = some (.int .i64 t489) ∧ w'.cell? ⟨gb499, 1, none⟩ = some (.slice (some ⟨go66, 0, none⟩) x500001_3.length co66) ∧ w'.cell? ⟨gb499, 2, none⟩ = some (.slice Ao59 t493.length co59) ∧ w'.cell? ⟨gb499, 3, none⟩ = some (.slice Ao60 t496.length co60) ∧ w'.cell? ⟨gb480, 0, none⟩ = some (.int .i64 a0_0) ∧ w'.cell? ⟨gb480, 1, none⟩ = some (.slice (some ad500) l0_1.length c0_1) ∧ w'.cell? ⟨gb480, 2, none⟩ = some (.slice A0_2 l0_2.length c0_2) ∧ w'.cell? ⟨gb480, 3, none⟩ = some (.slice A0_3 l0_3.length c0_3) ∧ w'.cell? ⟨gb481, 0, none⟩ = some (.int .i64 a1_0) ∧ w'.cell? ⟨gb481, 1, none⟩ = some (.slice (some ad501) l1_1.length c1_1) ∧ w'.cell? ⟨gb481, 2, none⟩ = some (.slice A1_2 l1_2.length c1_2) ∧ w'.cell? ⟨gb481, 3, none⟩ = some (.slice A1_3 l1_3.length c1_3) ∧ w'.cell? (ad500.add ((x8_3).toNat * 2)) = some (.int .i64 ((rd_T34 l0_1 x8_3).f0)) ∧ w'.cell? ⟨(ad500.add ((x8_3).toNat * 2)).block, (ad500.add ((x8_3).toNat * 2)).off + 1, none⟩ = some (.int .i64 ((rd_T34 l0_1 x8_3).f1)) ∧ w'.cell? (ad501.add ((x8_3).toNat * 2)) = some (.int .i64 ((rd_T34 l1_1 x8_3).f0)) ∧ w'.cell? ⟨(ad501.add ((x8_3).toNat * 2)).block, (ad501.add ((x8_3).toNat * 2)).off + 1, none⟩ = some (.int .i64 ((rd_T34 l1_1 x8_3).f1))) (ds := [18]) #[false, false, false, false, false, false, false, false, false, false, false, false, false, false, false, false, false, false, false] (by kernel_rfl) rfl rfl ⟨(blk_cell BK499.out 0).trans rfl, (blk_cell BK499.out 1).trans rfl, (blk_cell BK499.out 2).trans rfl, (blk_cell BK499.out 3).trans rfl, (blk_cell BK480.out 0).trans rfl, (blk_cell BK480.out 1).trans rfl, (blk_cell BK480.out 2).trans rfl, (blk_cell BK480.out 3).trans rfl, (blk_cell BK481.out 0).trans rfl, (blk_cell BK481.out 1).trans rfl, (blk_cell BK481.out 2).trans rfl, (blk_cell BK481.out 3).trans rfl, ((HB.out.cell (World.block_lt_of_cell? w _ hw503_0)).trans hw503_0), ((HB.out.cell (World.block_lt_of_cell? w _ hw503_1)).trans hw503_1), ((HB.out.cell (World.block_lt_of_cell? w _ hw504_0)).trans hw504_0), ((HB.out.cell (World.block_lt_of_cell? w _ hw504_1)).trans hw504_1)⟩ (fun hHeld => ?_); refine with_tabW hopmeshref12_Merge.tab15 hopmeshref12_Merge.bits15 (fun HT_ HW_ => ?_)
                generalize w72.drew = w73 at HO_500001 HO_500002 HO_500003 BK480 BK481 BK482 BK499 HB HQ74 hf67_0 hf67_1 hx503_0 hx503_1 hx504_0 hx504_1 hx67_0 hx67_1 hHeld GG66 ⊢
                refine pur 0 (some 77) #[true, false, false, false, false, false, false, false, false, false, false, false, false, false, false, false, false, false, false] HT_ ?_
                refine pur 2 (some 79) #[true, false, true, false, false, false, false, false, false, false, false, false, false, false, false, false, false, false, false] HT_ ?_
                refine pur 3 (some 80) #[true, false, true, true, false, false, false, false, false, false, false, false, false, false, false, false, false, false, false] HT_ ?_
                refine pur 5 (some 82) #[true, false, true, true, false, true, false, false, false, false, false, false, false, false, false, false, false, false, false] HT_ ?_
                refine pur 9 (some 86) #[true, false, true, true, false, true, false, false, false, true, false, false, false, false, false, false, false, false, false] HT_ ?_
                refine pur 11 (some 88) #[true, false, true, true, false, true, false, false, false, true, false, true, false, false, false, false, false, false, false] HT_ ?_
                refine tak 1 (some 78) #[true, true, true, true, false, true, false, false, false, true, false, true, false, false, false, false, false, false, false] HT_ HW_ hHeld rfl (Or.inl ⟨by rfl, by rintro w' ⟨s0, s1, s2, s3, s4, s5, s6, s7, s8, s9, s10, s11, s12, s13, s14, s15⟩; go_simp; with_reducible rfl⟩) ?_
                refine tak 4 (some 81) #[true, true, true, true, true, true, false, false, false, true, false, true, false, false, false, false, false, false, false] HT_ HW_ hHeld rfl (Or.inl ⟨by rfl, by rintro w' ⟨s0, s1, s2, s3, s4, s5, s6, s7, s8, s9, s10, s11, s12, s13, s14, s15⟩; go_simp; with_reducible rfl⟩) ?_
                refine pur 6 (some 83) #[true, true, true, true, true, true, true, false, false, true, false, true, false, false, false, false, false, false, false] HT_ ?_
                refine pur 7 (some 84) #[true, true, true, true, true, true, true, true, false, true, false, true, false, false, false, false, false, false, false] HT_ ?_
                refine tak 8 (some 85) #[true, true, true, true, true, true, true, true, true, true, false, true, false, false, false, false, false, false, false] HT_ HW_ hHeld rfl (Or.inl ⟨by rfl, by rintro w' ⟨s0, s1, s2, s3, s4, s5, s6, s7, s8, s9, s10, s11, s12, s13, s14, s15⟩; go_simp; with_reducible rfl⟩) ?_
                refine tak 10 (some 87) #[true, true, true, true, true, true, true, true, true, true, true, true, false, false, false, false, false, false, false] HT_ HW_ hHeld rfl (Or.inl ⟨by rfl, by rintro w' ⟨s0, s1, s2, s3, s4, s5, s6, s7, s8, s9, s10, s11, s12, s13, s14, s15⟩; go_simp; with_reducible rfl⟩) ?_
                refine pur 12 (some 89) #[true, true, true, true, true, true, true, true, true, true, true, true, true, false, false, false, false, false, false] HT_ ?_
                refine pur 13 (some 90) #[true, true, true, true, true, true, true, true, true, true, true, true, true, true, false, false, false, false, false] HT_ ?_
                refine tak 14 (some 91) #[true, true, true, true, true, true, true, true, true, true, true, true, true, true, true, false, false, false, false] HT_ HW_ hHeld rfl (Or.inl ⟨by rfl, by rintro w' ⟨s0, s1, s2, s3, s4, s5, s6, s7, s8, s9, s10, s11, s12, s13, s14, s15⟩; go_simp; with_reducible rfl⟩) ?_
                refine pur 15 (some 92) #[true, true, true, true, true, true, true, true, true, true, true, true, true, true, true, true, false, false, false] HT_ ?_
                refine pur 16 (some 93) #[true, true, true, true, true, true, true, true, true, true, true, true, true, true, true, true, true, false, false] HT_ ?_
                refine pur 17 (some 94) #[true, true, true, true, true, true, true, true, true, true, true, true, true, true, true, true, true, true, false] HT_ ?_
                refine last_ (i := 18) (N := none) #[true, true, true, true, true, true, true, true, true, true, true, true, true, true, true, true, true, true, true] rfl rfl (one_of HT_.out (by kernel_rfl)) (by decide) (fun K hK => ?_)
                refine skip_ (w1 := ?_) (by rfl) rfl ?_ ?_
                rotate_left
                ·go_simp
                 rfl
                refine hK.out _ _ ?_
                clear hK K
                refine done_ (done_of HT_.out (by kernel_rfl)) ?_
                have n0_ : Aside0 (Kd.R k34 34 (w73.setCell ⟨go66, (x8_3 : Int).toNat * 2 + 1, none⟩ (.int .i64 (wrap64 (((rd_T34 l0_1 x8_3).f1) + ((rd_T34 l1_1 x8_3).f1))))) w.heap.size (fun _ => True) (.slice (some ⟨go66, 0, none⟩) x500001_3.length co66) y505) := ⟨by (with_reducible repeat (first | apply Kd.R_alloc | apply Kd.R_drewN | apply Kd.R_drew)); exact HQ74.out⟩
                have n1_ : Aside0 (Kd.R (Kd.int .i64) 3 (w73.setCell ⟨go66, (x8_3 : Int).toNat * 2 + 1, none⟩ (.int .i64 (wrap64 (((rd_T34 l0_1 x8_3).f1) + ((rd_T34 l1_1 x8_3).f1))))) w.heap.size (fun k_ => some k_ ≠ (.slice Ao60 t496.length co60 : Value).ownBlock) (.slice Ao59 t493.length co59) t493) := ⟨by (with_reducible repeat (first | apply Kd.R_alloc | apply Kd.R_drewN | apply Kd.R_drew)); exact Kd.R_mono (Kd.R_far (p := ⟨go66, (x8_3 : Int).toNat * 2 + 1, none⟩) (Kd.R_types HO_500002.out GG66.out (by decide)) (fun _ hk => hk.2) (.int .i64 (wrap64 (((rd_T34 l0_1 x8_3).f1) + ((rd_T34 l1_1 x8_3).f1))))) (fun _ hk => hk.1)⟩
                have n2_ : Aside0 (Kd.R (Kd.int .i64) 3 (w73.setCell ⟨go66, (x8_3 : Int).toNat * 2 + 1, none⟩ (.int .i64 (wrap64 (((rd_T34 l0_1 x8_3).f1) + ((rd_T34 l1_1 x8_3).f1))))) w.heap.size (fun k_ => some k_ ≠ (.slice Ao59 t493.length co59 : Value).ownBlock) (.slice Ao60 t496.length co60) t496) := ⟨by (with_reducible repeat (first | apply Kd.R_alloc | apply Kd.R_drewN | apply Kd.R_drew)); exact Kd.R_mono (Kd.R_far (p := ⟨go66, (x8_3 : Int).toNat * 2 + 1, none⟩) (Kd.R_types HO_500003.out GG66.out (by decide)) (fun _ hk => hk.2) (.int .i64 (wrap64 (((rd_T34 l0_1 x8_3).f1) + ((rd_T34 l1_1 x8_3).f1))))) (fun _ hk => hk.1)⟩
                have n3_ : Aside0 ((w73.setCell ⟨go66, (x8_3 : Int).toNat * 2 + 1, none⟩ (.int .i64 (wrap64 (((rd_T34 l0_1 x8_3).f1) + ((rd_T34 l1_1 x8_3).f1))))).heap[gb480]? = some (.cells #[.int .i64 a0_0, .slice (some ad500) l0_1.length c0_1, .slice A0_2 l0_2.length c0_2, .slice A0_3 l0_3.length c0_3] 25 (0, 0))) := ⟨by (with_reducible repeat (first | refine blk_drewN ?_ _ | refine blk_drew ?_ | refine blk_alloc ?_ _)); refine blk_far ?_ (by have h_ := Kd.R_ne HO_500001.out BK480.out (by decide); intro e_; exact h_ (by rw [e_]; rfl)) _; (with_reducible repeat (first | refine blk_drewN ?_ _ | refine blk_drew ?_ | refine blk_alloc ?_ _)); exact BK480.out⟩
                have n4_ : Aside0 ((w73.setCell ⟨go66, (x8_3 : Int).toNat * 2 + 1, none⟩ (.int .i64 (wrap64 (((rd_T34 l0_1 x8_3).f1) + ((rd_T34 l1_1 x8_3).f1))))).heap[gb481]? = some (.cells #[.int .i64 a1_0, .slice (some ad501) l1_1.length c1_1, .slice A1_2 l1_2.length c1_2, .slice A1_3 l1_3.length c1_3] 25 (0, 0))) := ⟨by (with_reducible repeat (first | refine blk_drewN ?_ _ | refine blk_drew ?_ | refine blk_alloc ?_ _)); refine blk_far ?_ (by have h_ := Kd.R_ne HO_500001.out BK481.out (by decide); intro e_; exact h_ (by rw [e_]; rfl)) _; (with_reducible repeat (first | refine blk_drewN ?_ _ | refine blk_drew ?_ | refine blk_alloc ?_ _)); exact BK481.out⟩
                have n5_ : Aside0 ((w73.setCell ⟨go66, (x8_3 : Int).toNat * 2 + 1, none⟩ (.int .i64 (wrap64 (((rd_T34 l0_1 x8_3).f1) + ((rd_T34 l1_1 x8_3).f1))))).heap[gb482]? = some (.cells #[.int .i64 x483000_3, .slice none 0 0, .slice none 0 0, .slice none 0 0] 25 (0, 0))) := ⟨by (with_reducible repeat (first | refine blk_drewN ?_ _ | refine blk_drew ?_ | refine blk_alloc ?_ _)); refine blk_far ?_ (by have h_ := Kd.R_ne HO_500001.out BK482.out (by decide); intro e_; exact h_ (by rw [e_]; rfl)) _; (with_reducible repeat (first | refine blk_drewN ?_ _ | refine blk_drew ?_ | refine blk_alloc ?_ _)); exact BK482.out⟩
                have n6_ : Aside0 ((w73.setCell ⟨go66, (x8_3 : Int).toNat * 2 + 1, none⟩ (.int .i64 (wrap64 (((rd_T34 l0_1 x8_3).f1) + ((rd_T34 l1_1 x8_3).f1))))).heap[gb499]? = some (.cells #[.int .i64 t489, .slice (some ⟨go66, 0, none⟩) x500001_3.length co66, .slice Ao59 t493.length co59, .slice Ao60 t496.length co60] 25 (0, 0))) := ⟨by (with_reducible repeat (first | refine blk_drewN ?_ _ | refine blk_drew ?_ | refine blk_alloc ?_ _)); refine blk_far ?_ (by have h_ := Kd.R_ne HO_500001.out BK499.out (by decide); intro e_; exact h_ (by rw [e_]; rfl)) _; (with_reducible repeat (first | refine blk_drewN ?_ _ | refine blk_drew ?_ | refine blk_alloc ?_ _)); exact BK499.out⟩
                have n7_ : Aside0 (Below w.heap.size w (w73.setCell ⟨go66, (x8_3 : Int).toNat * 2 + 1, none⟩ (.int .i64 (wrap64 (((rd_T34 l0_1 x8_3).f1) + ((rd_T34 l1_1 x8_3).f1)))))) := ⟨by repeat (first | (with_reducible first | exact HB.out | apply below_alloc | apply pw_below_drewN | apply below_drew1 | refine below_set ?_ GB66.out | refine below_set ?_ GE480.out | refine below_set ?_ GE481.out | refine below_set ?_ GE482.out | refine below_set ?_ GE499.out) | exact HB.out)⟩
                (try clear HO_500001)
                (try clear HO_500002)
                (try clear HO_500003)
                (try clear BK480)
                (try clear BK481)
                (try clear BK482)
                (try clear BK499)
                (try clear HB)
                generalize (w73.setCell ⟨go66, (x8_3 : Int).toNat * 2 + 1, none⟩ (.int .i64 (wrap64 (((rd_T34 l0_1 x8_3).f1) + ((rd_T34 l1_1 x8_3).f1))))) = w75 at n0_ n1_ n2_ n3_ n4_ n5_ n6_ n7_ ⊢
                have HO_500001 := n0_
                have HO_500002 := n1_
                have HO_500003 := n2_
                have BK480 := n3_
                have BK481 := n4_
                have BK482 := n5_
                have BK499 := n6_
                have HB := n7_
                clear n0_ n1_ n2_ n3_ n4_ n5_ n6_ n7_
                have hnb76 := NB499_480.out
                have hnc76 := NB480_499.out
                have hnb77 := NB499_481.out
                have hnc77 := NB481_499.out
                have hnb78 := NB499_482.out
                have hnc78 := NB482_499.out
                obtain ⟨z0, z1, z2, z3, y0, y1, y2, y3⟩ := bc4 BK499
                have p68 : 0 ≤ (x8_3 : Int) := pos_
                have q68 : (x8_3 : Int) < ((x500001_3.length : Int) : Int) := pos_
                replace p68 := eq_true p68
                replace q68 := eq_true q68
                (try (obtain ⟨ad68, e68, hx68_0, hx68_1⟩ := at_T34 (Kd.R_reads' HO_500001.out).2.2 x8_3 (of_eq_true p68) (by first | exact of_eq_true q68 | (have h_ := of_eq_true q68; have e_ := (Kd.R_reads' HO_500001.out).1; omega) | (have h_ := of_eq_true q68; simpa only [Ny502.out, Ny505.out, List.length_set] using h_)); obtain rfl : (⟨go66, 0, none⟩ : Addr) = ad68 := (by injection e68); (first | simp only [add_plain] at hx68_0 | simp only [add_at] at hx68_0 | simp only [Addr.add, Nat.zero_add] at hx68_0 | skip); (first | simp only [add_plain] at hx68_1 | simp only [add_at] at hx68_1 | simp only [Addr.add, Nat.zero_add] at hx68_1 | skip)))
                (try (have hz_ : rd_T34 y505 x8_3 = _ := (congrArg (fun l_ => rd_T34 l_ x8_3) Ny505.out).trans (getD_set _ _ _ _ (by have p_ := of_eq_true p68; have h_ := of_eq_true q68; have e_ := (Kd.R_reads' HO_500001.out).1; first | omega | (simp only [Ny502.out, Ny505.out, List.length_set]; omega) | (simp only [Ny502.out, Ny505.out, List.length_set] at e_ ⊢; omega))); rw [hz_] at hx68_0 hx68_1; clear hz_; dsimp only at hx68_0 hx68_1))
                have hnb80 := NB482_480.out
                have hnc80 := NB480_482.out
                have hnb81 := NB482_481.out
                have hnc81 := NB481_482.out
                obtain ⟨z0, z1, z2, z3, y0, y1, y2, y3⟩ := bc4 BK482
                try go_wp2
                refine bodyPost_ret (results_ct rfl _ _ gb482 25 #[.int .i64 0, .slice none 0 0, .slice none 0 0, .slice none 0 0] (0, 0) _ rfl (bkp BK482) Try.underlying25 rfl (by kernel_rfl)) rfl ?_
                exact ⟨_, _, _, rerr, rnil, rnil, rnil, hbx HB⟩
               ·rw [if_neg c69] at H
                have c69b0 : decide (1073741824 < ((rd_T34 y502 x8_3).f0)) = false := decide_eq_false c69
                clear c69
                have H' := Aside0.mk H
                clear H
                try go_wp2
                replace HO_500001 := Aside0.mk (Kd.R_drew HO_500001.out)
                replace HO_500002 := Aside0.mk (Kd.R_drew HO_500002.out)
                replace HO_500003 := Aside0.mk (Kd.R_drew HO_500003.out)
                replace BK480 := Aside0.mk (blk_drew BK480.out)
                replace BK481 := Aside0.mk (blk_drew BK481.out)
                replace BK482 := Aside0.mk (blk_drew BK482.out)
                replace BK499 := Aside0.mk (blk_drew BK499.out)
                replace HB := Aside0.mk (below_drew1 HB.out)
                have p500 : 0 ≤ (x8_3 : Int) := pos_
                have q500 : x8_3 < (l0_1.length : Int) := pos_
                obtain ⟨ad500, e500, hx500_0, hx500_1⟩ := at_T34 HR0_1.out x8_3 p500 q500
                have hw500_1 := hx500_1
                have hw500_0 := hx500_0
                cases e500
                replace hx500_0 := (HB.out.cell (World.block_lt_of_cell? w _ hx500_0)).trans hx500_0
                replace hx500_1 := (HB.out.cell (World.block_lt_of_cell? w _ hx500_1)).trans hx500_1
                replace p500 := eq_true p500
                replace q500 := eq_true q500
                have p501 : 0 ≤ (x8_3 : Int) := pos_
                have q501 : x8_3 < (l1_1.length : Int) := pos_
                obtain ⟨ad501, e501, hx501_0, hx501_1⟩ := at_T34 HR1_1.out x8_3 p501 q501
                have hw501_1 := hx501_1
                have hw501_0 := hx501_0
                cases e501
                replace hx501_0 := (HB.out.cell (World.block_lt_of_cell? w _ hx501_0)).trans hx501_0
                replace hx501_1 := (HB.out.cell (World.block_lt_of_cell? w _ hx501_1)).trans hx501_1
                replace p501 := eq_true p501
                replace q501 := eq_true q501
                have p66 : 0 ≤ (x8_3 : Int) := pos_
                have q66 : (x8_3 : Int) < ((x500001_3.length : Int) : Int) := pos_
                obtain ⟨go66, co66, eo66, gb66, gl66, cl66, HG66⟩ := Kd.R_form HO_500001.out (by omega)
                (first | cases eo66 | (injection eo66 with ea_ en_ ec_; (first | subst ea_ | (injection ea_ with ea_; subst ea_)); subst ec_; clear en_))
                have GB66 := Aside0.mk gb66
                have GG66 := Aside0.mk HG66
                clear gb66 gl66 HG66
                obtain ⟨ce66, hcl66, hM66, hcc66, hfr66⟩ := Kd.R_elem HO_500001.out z34 (x8_3 : Int) p66 q66
                obtain rfl := k34_openM hM66
                have hx66_0 : World.cell? _ ⟨go66, (x8_3 : Int).toNat * 2, none⟩ = some (.int .i64 ((rd_T34 x500001_3 x8_3).f0)) := hcc66 0 _ rfl
                have hx66_1 : World.cell? _ ⟨go66, (x8_3 : Int).toNat * 2 + 1, none⟩ = some (.int .i64 ((rd_T34 x500001_3 x8_3).f1)) := hcc66 1 _ rfl
                have hf66_0 : World.frozen? _ ⟨go66, (x8_3 : Int).toNat * 2, none⟩ = false := hfr66 0
                have hf66_1 : World.frozen? _ ⟨go66, (x8_3 : Int).toNat * 2 + 1, none⟩ = false := hfr66 1
                clear hcl66 hcc66 hfr66 hM66
                replace p66 := eq_true p66
                replace q66 := eq_true q66
                obtain ⟨ce84, hcl84, hM84, hcc84, hfr84⟩ := Kd.R_elem HO_500001.out z34 (x8_3 : Int) (pos_) (by have h_ : (x8_3 : Int) < ((x500001_3.length : Int) : Int) := pos_; first | exact h_ | (have e_ := (Kd.R_reads' HO_500001.out).1; omega) | simpa using h_)
                obtain rfl := k34_openM hM84
                have HP84 := (Kd.R_seg HO_500001.out (x8_3 : Int) (pos_) (by have h_ : (x8_3 : Int) < ((x500001_3.length : Int) : Int) := pos_; first | exact h_ | (have e_ := (Kd.R_reads' HO_500001.out).1; omega) | simpa using h_) (seg := [.int .i64 (wrap64 (((rd_T34 l0_1 x8_3).f0) + ((rd_T34 l1_1 x8_3).f0)))]) (j := 0) hcl84 hcc84 (show 1 ≤ 2 from by decide) (x' := (⟨wrap64 (((rd_T34 l0_1 x8_3).f0) + ((rd_T34 l1_1 x8_3).f0)), (rd_T34 x500001_3 x8_3).f1⟩ : S34)) (k34_mkM _ _ _ (⟨wrap64 (((rd_T34 l0_1 x8_3).f0) + ((rd_T34 l1_1 x8_3).f0)), (rd_T34 x500001_3 x8_3).f1⟩ : S34) ) (fun _ hk => hk)).1
                rw [← Ny502.out] at HP84
                have HQ84 := Aside0.mk HP84
                clear hcl84 hcc84 hfr84 hM84 HP84
                refine start_ (n := 19) (S := fun w' => w'.cell? ⟨gb499, 0, none⟩ = some (.int .i64 t489) ∧ w'.cell? ⟨gb499, 1, none⟩ = some (.slice (some ⟨go66, 0, none⟩) x500001_3.length co66) ∧ w'.cell? ⟨gb499, 2, none⟩ = some (.slice Ao59 t493.length co59) ∧ w'.cell? ⟨gb499, 3, none⟩ = some (.slice Ao60 t496.length co60) ∧ w'.cell? ⟨gb480, 0, none⟩ = some (.int .i64 a0_0) ∧ w'.cell? ⟨gb480, 1, none⟩ = some (.slice (some ad500) l0_1.length c0_1) ∧ w'.cell? ⟨gb480, 2, none⟩ = some (.slice A0_2 l0_2.length c0_2) ∧ w'.cell? ⟨gb480, 3, none⟩ = some (.slice A0_3 l0_3.length c0_3) ∧ w'.cell? ⟨gb481, 0, none⟩ = some (.int .i64 a1_0) ∧ w'.cell? ⟨gb481, 1, none⟩ = some (.slice (some ad501) l1_1.length c1_1) ∧ w'.cell? ⟨gb481, 2, none⟩ = some (.slice A1_2 l1_2.length c1_2) ∧ w'.cell? ⟨gb481, 3, none⟩ = some (.slice A1_3 l1_3.length c1_3) ∧ w'.cell? (ad500.add ((x8_3).toNat * 2)) = some (.int .i64 ((rd_T34 l0_1 x8_3).f0)) ∧ w'.cell? ⟨(ad500.add ((x8_3).toNat * 2)).block, (ad500.add ((x8_3).toNat * 2)).off + 1, none⟩ = some (.int .i64 ((rd_T34 l0_1 x8_3).f1)) ∧ w'.cell? (ad501.add ((x8_3).toNat * 2)) = some (.int .i64 ((rd_T34 l1_1 x8_3).f0)) ∧ w'.cell? ⟨(ad501.add ((x8_3).toNat * 2)).block, (ad501.add ((x8_3).toNat * 2)).off + 1, none⟩ = some (.int .i64 ((rd_T34 l1_1 x8_3).f1))) (ds := [18]) #[false, false, false, false, false, false, false, false, false, false, false, false, false, false, false, false, false, false, false] (by kernel_rfl) rfl rfl ⟨(blk_cell BK499.out 0).trans rfl, (blk_cell BK499.out 1).trans rfl, (blk_cell BK499.out 2).trans rfl, (blk_cell BK499.out 3).trans rfl, (blk_cell BK480.out 0).trans rfl, (blk_cell BK480.out 1).trans rfl, (blk_cell BK480.out 2).trans rfl, (blk_cell BK480.out 3).trans rfl, (blk_cell BK481.out 0).trans rfl, (blk_cell BK481.out 1).trans rfl, (blk_cell BK481.out 2).trans rfl, (blk_cell BK481.out 3).trans rfl, ((HB.out.cell (World.block_lt_of_cell? w _ hw500_0)).trans hw500_0), ((HB.out.cell (World.block_lt_of_cell? w _ hw500_1)).trans hw500_1), ((HB.out.cell (World.block_lt_of_cell? w _ hw501_0)).trans hw501_0), ((HB.out.cell (World.block_lt_of_cell? w _ hw501_1)).trans hw501_1)⟩ (fun hHeld => ?_); refine with_tabW hopmeshref12_Merge.tab14 hopmeshref12_Merge.bits14 (fun HT_ HW_ => ?_)
                generalize wr.drew = w83 at HO_500001 HO_500002 HO_500003 BK480 BK481 BK482 BK499 HB GG66 HQ84 hf66_0 hf66_1 hx500_0 hx500_1 hx501_0 hx501_1 hx66_0 hx66_1 hHeld ⊢
                refine pur 0 (some 59) #[true, false, false, false, false, false, false, false, false, false, false, false, false, false, false, false, false, false, false] HT_ ?_
                refine pur 2 (some 61) #[true, false, true, false, false, false, false, false, false, false, false, false, false, false, false, false, false, false, false] HT_ ?_
                refine pur 3 (some 62) #[true, false, true, true, false, false, false, false, false, false, false, false, false, false, false, false, false, false, false] HT_ ?_
                refine pur 5 (some 64) #[true, false, true, true, false, true, false, false, false, false, false, false, false, false, false, false, false, false, false] HT_ ?_
                refine pur 9 (some 68) #[true, false, true, true, false, true, false, false, false, true, false, false, false, false, false, false, false, false, false] HT_ ?_
                refine pur 11 (some 70) #[true, false, true, true, false, true, false, false, false, true, false, true, false, false, false, false, false, false, false] HT_ ?_
                refine tak 1 (some 60) #[true, true, true, true, false, true, false, false, false, true, false, true, false, false, false, false, false, false, false] HT_ HW_ hHeld rfl (Or.inl ⟨by rfl, by rintro w' ⟨s0, s1, s2, s3, s4, s5, s6, s7, s8, s9, s10, s11, s12, s13, s14, s15⟩; go_simp; with_reducible rfl⟩) ?_
                refine tak 4 (some 63) #[true, true, true, true, true, true, false, false, false, true, false, true, false, false, false, false, false, false, false] HT_ HW_ hHeld rfl (Or.inl ⟨by rfl, by rintro w' ⟨s0, s1, s2, s3, s4, s5, s6, s7, s8, s9, s10, s11, s12, s13, s14, s15⟩; go_simp; with_reducible rfl⟩) ?_
                refine pur 6 (some 65) #[true, true, true, true, true, true, true, false, false, true, false, true, false, false, false, false, false, false, false] HT_ ?_
                refine pur 7 (some 66) #[true, true, true, true, true, true, true, true, false, true, false, true, false, false, false, false, false, false, false] HT_ ?_
                refine tak 8 (some 67) #[true, true, true, true, true, true, true, true, true, true, false, true, false, false, false, false, false, false, false] HT_ HW_ hHeld rfl (Or.inl ⟨by rfl, by rintro w' ⟨s0, s1, s2, s3, s4, s5, s6, s7, s8, s9, s10, s11, s12, s13, s14, s15⟩; go_simp; with_reducible rfl⟩) ?_
                refine tak 10 (some 69) #[true, true, true, true, true, true, true, true, true, true, true, true, false, false, false, false, false, false, false] HT_ HW_ hHeld rfl (Or.inl ⟨by rfl, by rintro w' ⟨s0, s1, s2, s3, s4, s5, s6, s7, s8, s9, s10, s11, s12, s13, s14, s15⟩; go_simp; with_reducible rfl⟩) ?_
                refine pur 12 (some 71) #[true, true, true, true, true, true, true, true, true, true, true, true, true, false, false, false, false, false, false] HT_ ?_
                refine pur 13 (some 72) #[true, true, true, true, true, true, true, true, true, true, true, true, true, true, false, false, false, false, false] HT_ ?_
                refine tak 14 (some 73) #[true, true, true, true, true, true, true, true, true, true, true, true, true, true, true, false, false, false, false] HT_ HW_ hHeld rfl (Or.inl ⟨by rfl, by rintro w' ⟨s0, s1, s2, s3, s4, s5, s6, s7, s8, s9, s10, s11, s12, s13, s14, s15⟩; go_simp; with_reducible rfl⟩) ?_
                refine pur 15 (some 74) #[true, true, true, true, true, true, true, true, true, true, true, true, true, true, true, true, false, false, false] HT_ ?_
                refine pur 16 (some 75) #[true, true, true, true, true, true, true, true, true, true, true, true, true, true, true, true, true, false, false] HT_ ?_
                refine pur 17 (some 76) #[true, true, true, true, true, true, true, true, true, true, true, true, true, true, true, true, true, true, false] HT_ ?_
                refine last_ (i := 18) (N := none) #[true, true, true, true, true, true, true, true, true, true, true, true, true, true, true, true, true, true, true] rfl rfl (one_of HT_.out (by kernel_rfl)) (by decide) (fun K hK => ?_)
                refine skip_ (w1 := ?_) (by rfl) rfl ?_ ?_
                rotate_left
                ·go_simp
                 rfl
                refine hK.out _ _ ?_
                clear hK K
                refine done_ (done_of HT_.out (by kernel_rfl)) ?_
                try go_wp2
                have n0_ : Aside0 (Kd.R k34 34 (w83.setCell ⟨go66, (x8_3 : Int).toNat * 2, none⟩ (.int .i64 (wrap64 (((rd_T34 l0_1 x8_3).f0) + ((rd_T34 l1_1 x8_3).f0))))) w.heap.size (fun _ => True) (.slice (some ⟨go66, 0, none⟩) x500001_3.length co66) y502) := ⟨by (with_reducible repeat (first | apply Kd.R_alloc | apply Kd.R_drewN | apply Kd.R_drew)); exact HQ84.out⟩
                have n1_ : Aside0 (Kd.R (Kd.int .i64) 3 (w83.setCell ⟨go66, (x8_3 : Int).toNat * 2, none⟩ (.int .i64 (wrap64 (((rd_T34 l0_1 x8_3).f0) + ((rd_T34 l1_1 x8_3).f0))))) w.heap.size (fun k_ => some k_ ≠ (.slice Ao60 t496.length co60 : Value).ownBlock) (.slice Ao59 t493.length co59) t493) := ⟨by (with_reducible repeat (first | apply Kd.R_alloc | apply Kd.R_drewN | apply Kd.R_drew)); exact Kd.R_mono (Kd.R_far (p := ⟨go66, (x8_3 : Int).toNat * 2, none⟩) (Kd.R_types HO_500002.out GG66.out (by decide)) (fun _ hk => hk.2) (.int .i64 (wrap64 (((rd_T34 l0_1 x8_3).f0) + ((rd_T34 l1_1 x8_3).f0))))) (fun _ hk => hk.1)⟩
                have n2_ : Aside0 (Kd.R (Kd.int .i64) 3 (w83.setCell ⟨go66, (x8_3 : Int).toNat * 2, none⟩ (.int .i64 (wrap64 (((rd_T34 l0_1 x8_3).f0) + ((rd_T34 l1_1 x8_3).f0))))) w.heap.size (fun k_ => some k_ ≠ (.slice Ao59 t493.length co59 : Value).ownBlock) (.slice Ao60 t496.length co60) t496) := ⟨by (with_reducible repeat (first | apply Kd.R_alloc | apply Kd.R_drewN | apply Kd.R_drew)); exact Kd.R_mono (Kd.R_far (p := ⟨go66, (x8_3 : Int).toNat * 2, none⟩) (Kd.R_types HO_500003.out GG66.out (by decide)) (fun _ hk => hk.2) (.int .i64 (wrap64 (((rd_T34 l0_1 x8_3).f0) + ((rd_T34 l1_1 x8_3).f0))))) (fun _ hk => hk.1)⟩
                have n3_ : Aside0 ((w83.setCell ⟨go66, (x8_3 : Int).toNat * 2, none⟩ (.int .i64 (wrap64 (((rd_T34 l0_1 x8_3).f0) + ((rd_T34 l1_1 x8_3).f0))))).heap[gb480]? = some (.cells #[.int .i64 a0_0, .slice (some ad500) l0_1.length c0_1, .slice A0_2 l0_2.length c0_2, .slice A0_3 l0_3.length c0_3] 25 (0, 0))) := ⟨by (with_reducible repeat (first | refine blk_drewN ?_ _ | refine blk_drew ?_ | refine blk_alloc ?_ _)); refine blk_far ?_ (by have h_ := Kd.R_ne HO_500001.out BK480.out (by decide); intro e_; exact h_ (by rw [e_]; rfl)) _; (with_reducible repeat (first | refine blk_drewN ?_ _ | refine blk_drew ?_ | refine blk_alloc ?_ _)); exact BK480.out⟩
                have n4_ : Aside0 ((w83.setCell ⟨go66, (x8_3 : Int).toNat * 2, none⟩ (.int .i64 (wrap64 (((rd_T34 l0_1 x8_3).f0) + ((rd_T34 l1_1 x8_3).f0))))).heap[gb481]? = some (.cells #[.int .i64 a1_0, .slice (some ad501) l1_1.length c1_1, .slice A1_2 l1_2.length c1_2, .slice A1_3 l1_3.length c1_3] 25 (0, 0))) := ⟨by (with_reducible repeat (first | refine blk_drewN ?_ _ | refine blk_drew ?_ | refine blk_alloc ?_ _)); refine blk_far ?_ (by have h_ := Kd.R_ne HO_500001.out BK481.out (by decide); intro e_; exact h_ (by rw [e_]; rfl)) _; (with_reducible repeat (first | refine blk_drewN ?_ _ | refine blk_drew ?_ | refine blk_alloc ?_ _)); exact BK481.out⟩
                have n5_ : Aside0 ((w83.setCell ⟨go66, (x8_3 : Int).toNat * 2, none⟩ (.int .i64 (wrap64 (((rd_T34 l0_1 x8_3).f0) + ((rd_T34 l1_1 x8_3).f0))))).heap[gb482]? = some (.cells #[.int .i64 x483000_3, .slice none 0 0, .slice none 0 0, .slice none 0 0] 25 (0, 0))) := ⟨by (with_reducible repeat (first | refine blk_drewN ?_ _ | refine blk_drew ?_ | refine blk_alloc ?_ _)); refine blk_far ?_ (by have h_ := Kd.R_ne HO_500001.out BK482.out (by decide); intro e_; exact h_ (by rw [e_]; rfl)) _; (with_reducible repeat (first | refine blk_drewN ?_ _ | refine blk_drew ?_ | refine blk_alloc ?_ _)); exact BK482.out⟩
                have n6_ : Aside0 ((w83.setCell ⟨go66, (x8_3 : Int).toNat * 2, none⟩ (.int .i64 (wrap64 (((rd_T34 l0_1 x8_3).f0) + ((rd_T34 l1_1 x8_3).f0))))).heap[gb499]? = some (.cells #[.int .i64 t489, .slice (some ⟨go66, 0, none⟩) x500001_3.length co66, .slice Ao59 t493.length co59, .slice Ao60 t496.length co60] 25 (0, 0))) := ⟨by (with_reducible repeat (first | refine blk_drewN ?_ _ | refine blk_drew ?_ | refine blk_alloc ?_ _)); refine blk_far ?_ (by have h_ := Kd.R_ne HO_500001.out BK499.out (by decide); intro e_; exact h_ (by rw [e_]; rfl)) _; (with_reducible repeat (first | refine blk_drewN ?_ _ | refine blk_drew ?_ | refine blk_alloc ?_ _)); exact BK499.out⟩
                have n7_ : Aside0 (Below w.heap.size w (w83.setCell ⟨go66, (x8_3 : Int).toNat * 2, none⟩ (.int .i64 (wrap64 (((rd_T34 l0_1 x8_3).f0) + ((rd_T34 l1_1 x8_3).f0)))))) := ⟨by repeat (first | (with_reducible first | exact HB.out | apply below_alloc | apply pw_below_drewN | apply below_drew1 | refine below_set ?_ GB66.out | refine below_set ?_ GE480.out | refine below_set ?_ GE481.out | refine below_set ?_ GE482.out | refine below_set ?_ GE499.out) | exact HB.out)⟩
                (try clear HO_500001)
                (try clear HO_500002)
                (try clear HO_500003)
                (try clear BK480)
                (try clear BK481)
                (try clear BK482)
                (try clear BK499)
                (try clear HB)
                generalize (w83.setCell ⟨go66, (x8_3 : Int).toNat * 2, none⟩ (.int .i64 (wrap64 (((rd_T34 l0_1 x8_3).f0) + ((rd_T34 l1_1 x8_3).f0))))) = w85 at n0_ n1_ n2_ n3_ n4_ n5_ n6_ n7_ ⊢
                have HO_500001 := n0_
                have HO_500002 := n1_
                have HO_500003 := n2_
                have BK480 := n3_
                have BK481 := n4_
                have BK482 := n5_
                have BK499 := n6_
                have HB := n7_
                clear n0_ n1_ n2_ n3_ n4_ n5_ n6_ n7_
                replace HO_500001 := Aside0.mk (Kd.R_drew HO_500001.out)
                replace HO_500002 := Aside0.mk (Kd.R_drew HO_500002.out)
                replace HO_500003 := Aside0.mk (Kd.R_drew HO_500003.out)
                replace BK480 := Aside0.mk (blk_drew BK480.out)
                replace BK481 := Aside0.mk (blk_drew BK481.out)
                replace BK482 := Aside0.mk (blk_drew BK482.out)
                replace BK499 := Aside0.mk (blk_drew BK499.out)
                replace HB := Aside0.mk (below_drew1 HB.out)
                have p503 : 0 ≤ (x8_3 : Int) := pos_
                have q503 : x8_3 < (l0_1.length : Int) := pos_
                obtain ⟨ad503, e503, hx503_0, hx503_1⟩ := at_T34 HR0_1.out x8_3 p503 q503
                have hw503_1 := hx503_1
                have hw503_0 := hx503_0
                obtain rfl : ad500 = ad503 := (by injection e503)
                replace hx503_0 := (HB.out.cell (World.block_lt_of_cell? w _ hx503_0)).trans hx503_0
                replace hx503_1 := (HB.out.cell (World.block_lt_of_cell? w _ hx503_1)).trans hx503_1
                replace p503 := eq_true p503
                replace q503 := eq_true q503
                have p504 : 0 ≤ (x8_3 : Int) := pos_
                have q504 : x8_3 < (l1_1.length : Int) := pos_
                obtain ⟨ad504, e504, hx504_0, hx504_1⟩ := at_T34 HR1_1.out x8_3 p504 q504
                have hw504_1 := hx504_1
                have hw504_0 := hx504_0
                obtain rfl : ad501 = ad504 := (by injection e504)
                replace hx504_0 := (HB.out.cell (World.block_lt_of_cell? w _ hx504_0)).trans hx504_0
                replace hx504_1 := (HB.out.cell (World.block_lt_of_cell? w _ hx504_1)).trans hx504_1
                replace p504 := eq_true p504
                replace q504 := eq_true q504
                have p67 : 0 ≤ (x8_3 : Int) := pos_
                have q67 : (x8_3 : Int) < ((x500001_3.length : Int) : Int) := pos_
                obtain ⟨go_, co_, eo_, gb_, gl_, cl_, HG_⟩ := Kd.R_form HO_500001.out (by have e_ := (Kd.R_reads' HO_500001.out).1; omega)
                obtain rfl : go66 = go_ := Option.some.inj (show some go66 = some go_ from congrArg Value.ownBlock eo_)
                replace GG66 := Aside0.mk HG_
                clear eo_ gb_ gl_ HG_
                obtain ⟨ce67, hcl67, hM67, hcc67, hfr67⟩ := Kd.R_elem HO_500001.out z34 (x8_3 : Int) p67 q67
                obtain rfl := k34_openM hM67
                have hx67_0 : World.cell? _ ⟨go66, (x8_3 : Int).toNat * 2, none⟩ = some (.int .i64 ((rd_T34 y502 x8_3).f0)) := hcc67 0 _ rfl
                have hx67_1 : World.cell? _ ⟨go66, (x8_3 : Int).toNat * 2 + 1, none⟩ = some (.int .i64 ((rd_T34 y502 x8_3).f1)) := hcc67 1 _ rfl
                have hf67_0 : World.frozen? _ ⟨go66, (x8_3 : Int).toNat * 2, none⟩ = false := hfr67 0
                have hf67_1 : World.frozen? _ ⟨go66, (x8_3 : Int).toNat * 2 + 1, none⟩ = false := hfr67 1
                clear hcl67 hcc67 hfr67 hM67
                replace p67 := eq_true p67
                replace q67 := eq_true q67
                obtain ⟨ce87, hcl87, hM87, hcc87, hfr87⟩ := Kd.R_elem HO_500001.out z34 (x8_3 : Int) (pos_) (by have h_ : (x8_3 : Int) < ((x500001_3.length : Int) : Int) := pos_; first | exact h_ | (have e_ := (Kd.R_reads' HO_500001.out).1; omega) | simpa using h_)
                obtain rfl := k34_openM hM87
                have HP87 := (Kd.R_seg HO_500001.out (x8_3 : Int) (pos_) (by have h_ : (x8_3 : Int) < ((x500001_3.length : Int) : Int) := pos_; first | exact h_ | (have e_ := (Kd.R_reads' HO_500001.out).1; omega) | simpa using h_) (seg := [.int .i64 (wrap64 (((rd_T34 l0_1 x8_3).f1) + ((rd_T34 l1_1 x8_3).f1)))]) (j := 1) hcl87 hcc87 (show 2 ≤ 2 from by decide) (x' := (⟨(rd_T34 y502 x8_3).f0, wrap64 (((rd_T34 l0_1 x8_3).f1) + ((rd_T34 l1_1 x8_3).f1))⟩ : S34)) (k34_mkM _ _ _ (⟨(rd_T34 y502 x8_3).f0, wrap64 (((rd_T34 l0_1 x8_3).f1) + ((rd_T34 l1_1 x8_3).f1))⟩ : S34) ) (fun _ hk => hk)).1
                rw [← Ny505.out] at HP87
                have HQ87 := Aside0.mk HP87
                clear hcl87 hcc87 hfr87 hM87 HP87
                refine start_ (n := 19) (S := fun w' => w'.cell? ⟨gb499, 0, none⟩ = some (.int .i64 t489) ∧ w'.cell? ⟨gb499, 1, none⟩ = some (.slice (some ⟨go66, 0, none⟩) x500001_3.length co66) ∧ w'.cell? ⟨gb499, 2, none⟩ = some (.slice Ao59 t493.length co59) ∧ w'.cell? ⟨gb499, 3, none⟩ = some (.slice Ao60 t496.length co60) ∧ w'.cell? ⟨gb480, 0, none⟩ = some (.int .i64 a0_0) ∧ w'.cell? ⟨gb480, 1, none⟩ = some (.slice (some ad500) l0_1.length c0_1) ∧ w'.cell? ⟨gb480, 2, none⟩ = some (.slice A0_2 l0_2.length c0_2) ∧ w'.cell? ⟨gb480, 3, none⟩ = some (.slice A0_3 l0_3.length c0_3) ∧ w'.cell? ⟨gb481, 0, none⟩ = some (.int .i64 a1_0) ∧ w'.cell? ⟨gb481, 1, none⟩ = some (.slice (some ad501) l1_1.length c1_1) ∧ w'.cell? ⟨gb481, 2, none⟩ = some (.slice A1_2 l1_2.length c1_2) ∧ w'.cell? ⟨gb481, 3, none⟩ = some (.slice A1_3 l1_3.length c1_3) ∧ w'.cell? (ad500.add ((x8_3).toNat * 2)) = some (.int .i64 ((rd_T34 l0_1 x8_3).f0)) ∧ w'.cell? ⟨(ad500.add ((x8_3).toNat * 2)).block, (ad500.add ((x8_3).toNat * 2)).off + 1, none⟩ = some (.int .i64 ((rd_T34 l0_1 x8_3).f1)) ∧ w'.cell? (ad501.add ((x8_3).toNat * 2)) = some (.int .i64 ((rd_T34 l1_1 x8_3).f0)) ∧ w'.cell? ⟨(ad501.add ((x8_3).toNat * 2)).block, (ad501.add ((x8_3).toNat * 2)).off + 1, none⟩ = some (.int .i64 ((rd_T34 l1_1 x8_3).f1))) (ds := [18]) #[false, false, false, false, false, false, false, false, false, false, false, false, false, false, false, false, false, false, false] (by kernel_rfl) rfl rfl ⟨(blk_cell BK499.out 0).trans rfl, (blk_cell BK499.out 1).trans rfl, (blk_cell BK499.out 2).trans rfl, (blk_cell BK499.out 3).trans rfl, (blk_cell BK480.out 0).trans rfl, (blk_cell BK480.out 1).trans rfl, (blk_cell BK480.out 2).trans rfl, (blk_cell BK480.out 3).trans rfl, (blk_cell BK481.out 0).trans rfl, (blk_cell BK481.out 1).trans rfl, (blk_cell BK481.out 2).trans rfl, (blk_cell BK481.out 3).trans rfl, ((HB.out.cell (World.block_lt_of_cell? w _ hw503_0)).trans hw503_0), ((HB.out.cell (World.block_lt_of_cell? w _ hw503_1)).trans hw503_1), ((HB.out.cell (World.block_lt_of_cell? w _ hw504_0)).trans hw504_0), ((HB.out.cell (World.block_lt_of_cell? w _ hw504_1)).trans hw504_1)⟩ (fun hHeld => ?_); refine with_tabW hopmeshref12_Merge.tab15 hopmeshref12_Merge.bits15 (fun HT_ HW_ => ?_)
                generalize w85.drew = w86 at HO_500001 HO_500002 HO_500003 BK480 BK481 BK482 BK499 HB HQ84 HQ87 hf67_0 hf67_1 hx503_0 hx503_1 hx504_0 hx504_1 hx67_0 hx67_1 hHeld GG66 ⊢
                refine pur 0 (some 77) #[true, false, false, false, false, false, false, false, false, false, false, false, false, false, false, false, false, false, false] HT_ ?_
                refine pur 2 (some 79) #[true, false, true, false, false, false, false, false, false, false, false, false, false, false, false, false, false, false, false] HT_ ?_
                refine pur 3 (some 80) #[true, false, true, true, false, false, false, false, false, false, false, false, false, false, false, false, false, false, false] HT_ ?_
                refine pur 5 (some 82) #[true, false, true, true, false, true, false, false, false, false, false, false, false, false, false, false, false, false, false] HT_ ?_
                refine pur 9 (some 86) #[true, false, true, true, false, true, false, false, false, true, false, false, false, false, false, false, false, false, false] HT_ ?_
                refine pur 11 (some 88) #[true, false, true, true, false, true, false, false, false, true, false, true, false, false, false, false, false, false, false] HT_ ?_
                refine tak 1 (some 78) #[true, true, true, true, false, true, false, false, false, true, false, true, false, false, false, false, false, false, false] HT_ HW_ hHeld rfl (Or.inl ⟨by rfl, by rintro w' ⟨s0, s1, s2, s3, s4, s5, s6, s7, s8, s9, s10, s11, s12, s13, s14, s15⟩; go_simp; with_reducible rfl⟩) ?_
                refine tak 4 (some 81) #[true, true, true, true, true, true, false, false, false, true, false, true, false, false, false, false, false, false, false] HT_ HW_ hHeld rfl (Or.inl ⟨by rfl, by rintro w' ⟨s0, s1, s2, s3, s4, s5, s6, s7, s8, s9, s10, s11, s12, s13, s14, s15⟩; go_simp; with_reducible rfl⟩) ?_
                refine pur 6 (some 83) #[true, true, true, true, true, true, true, false, false, true, false, true, false, false, false, false, false, false, false] HT_ ?_
                refine pur 7 (some 84) #[true, true, true, true, true, true, true, true, false, true, false, true, false, false, false, false, false, false, false] HT_ ?_
                refine tak 8 (some 85) #[true, true, true, true, true, true, true, true, true, true, false, true, false, false, false, false, false, false, false] HT_ HW_ hHeld rfl (Or.inl ⟨by rfl, by rintro w' ⟨s0, s1, s2, s3, s4, s5, s6, s7, s8, s9, s10, s11, s12, s13, s14, s15⟩; go_simp; with_reducible rfl⟩) ?_
                refine tak 10 (some 87) #[true, true, true, true, true, true, true, true, true, true, true, true, false, false, false, false, false, false, false] HT_ HW_ hHeld rfl (Or.inl ⟨by rfl, by rintro w' ⟨s0, s1, s2, s3, s4, s5, s6, s7, s8, s9, s10, s11, s12, s13, s14, s15⟩; go_simp; with_reducible rfl⟩) ?_
                refine pur 12 (some 89) #[true, true, true, true, true, true, true, true, true, true, true, true, true, false, false, false, false, false, false] HT_ ?_
                refine pur 13 (some 90) #[true, true, true, true, true, true, true, true, true, true, true, true, true, true, false, false, false, false, false] HT_ ?_
                refine tak 14 (some 91) #[true, true, true, true, true, true, true, true, true, true, true, true, true, true, true, false, false, false, false] HT_ HW_ hHeld rfl (Or.inl ⟨by rfl, by rintro w' ⟨s0, s1, s2, s3, s4, s5, s6, s7, s8, s9, s10, s11, s12, s13, s14, s15⟩; go_simp; with_reducible rfl⟩) ?_
                refine pur 15 (some 92) #[true, true, true, true, true, true, true, true, true, true, true, true, true, true, true, true, false, false, false] HT_ ?_
                refine pur 16 (some 93) #[true, true, true, true, true, true, true, true, true, true, true, true, true, true, true, true, true, false, false] HT_ ?_
                refine pur 17 (some 94) #[true, true, true, true, true, true, true, true, true, true, true, true, true, true, true, true, true, true, false] HT_ ?_
                refine last_ (i := 18) (N := none) #[true, true, true, true, true, true, true, true, true, true, true, true, true, true, true, true, true, true, true] rfl rfl (one_of HT_.out (by kernel_rfl)) (by decide) (fun K hK => ?_)
                refine skip_ (w1 := ?_) (by rfl) rfl ?_ ?_
                rotate_left
                ·go_simp
                 rfl
                refine hK.out _ _ ?_
                clear hK K
                refine done_ (done_of HT_.out (by kernel_rfl)) ?_
                have n0_ : Aside0 (Kd.R k34 34 (w86.setCell ⟨go66, (x8_3 : Int).toNat * 2 + 1, none⟩ (.int .i64 (wrap64 (((rd_T34 l0_1 x8_3).f1) + ((rd_T34 l1_1 x8_3).f1))))) w.heap.size (fun _ => True) (.slice (some ⟨go66, 0, none⟩) x500001_3.length co66) y505) := ⟨by (with_reducible repeat (first | apply Kd.R_alloc | apply Kd.R_drewN | apply Kd.R_drew)); exact HQ87.out⟩
                have n1_ : Aside0 (Kd.R (Kd.int .i64) 3 (w86.setCell ⟨go66, (x8_3 : Int).toNat * 2 + 1, none⟩ (.int .i64 (wrap64 (((rd_T34 l0_1 x8_3).f1) + ((rd_T34 l1_1 x8_3).f1))))) w.heap.size (fun k_ => some k_ ≠ (.slice Ao60 t496.length co60 : Value).ownBlock) (.slice Ao59 t493.length co59) t493) := ⟨by (with_reducible repeat (first | apply Kd.R_alloc | apply Kd.R_drewN | apply Kd.R_drew)); exact Kd.R_mono (Kd.R_far (p := ⟨go66, (x8_3 : Int).toNat * 2 + 1, none⟩) (Kd.R_types HO_500002.out GG66.out (by decide)) (fun _ hk => hk.2) (.int .i64 (wrap64 (((rd_T34 l0_1 x8_3).f1) + ((rd_T34 l1_1 x8_3).f1))))) (fun _ hk => hk.1)⟩
                have n2_ : Aside0 (Kd.R (Kd.int .i64) 3 (w86.setCell ⟨go66, (x8_3 : Int).toNat * 2 + 1, none⟩ (.int .i64 (wrap64 (((rd_T34 l0_1 x8_3).f1) + ((rd_T34 l1_1 x8_3).f1))))) w.heap.size (fun k_ => some k_ ≠ (.slice Ao59 t493.length co59 : Value).ownBlock) (.slice Ao60 t496.length co60) t496) := ⟨by (with_reducible repeat (first | apply Kd.R_alloc | apply Kd.R_drewN | apply Kd.R_drew)); exact Kd.R_mono (Kd.R_far (p := ⟨go66, (x8_3 : Int).toNat * 2 + 1, none⟩) (Kd.R_types HO_500003.out GG66.out (by decide)) (fun _ hk => hk.2) (.int .i64 (wrap64 (((rd_T34 l0_1 x8_3).f1) + ((rd_T34 l1_1 x8_3).f1))))) (fun _ hk => hk.1)⟩
                have n3_ : Aside0 ((w86.setCell ⟨go66, (x8_3 : Int).toNat * 2 + 1, none⟩ (.int .i64 (wrap64 (((rd_T34 l0_1 x8_3).f1) + ((rd_T34 l1_1 x8_3).f1))))).heap[gb480]? = some (.cells #[.int .i64 a0_0, .slice (some ad500) l0_1.length c0_1, .slice A0_2 l0_2.length c0_2, .slice A0_3 l0_3.length c0_3] 25 (0, 0))) := ⟨by (with_reducible repeat (first | refine blk_drewN ?_ _ | refine blk_drew ?_ | refine blk_alloc ?_ _)); refine blk_far ?_ (by have h_ := Kd.R_ne HO_500001.out BK480.out (by decide); intro e_; exact h_ (by rw [e_]; rfl)) _; (with_reducible repeat (first | refine blk_drewN ?_ _ | refine blk_drew ?_ | refine blk_alloc ?_ _)); exact BK480.out⟩
                have n4_ : Aside0 ((w86.setCell ⟨go66, (x8_3 : Int).toNat * 2 + 1, none⟩ (.int .i64 (wrap64 (((rd_T34 l0_1 x8_3).f1) + ((rd_T34 l1_1 x8_3).f1))))).heap[gb481]? = some (.cells #[.int .i64 a1_0, .slice (some ad501) l1_1.length c1_1, .slice A1_2 l1_2.length c1_2, .slice A1_3 l1_3.length c1_3] 25 (0, 0))) := ⟨by (with_reducible repeat (first | refine blk_drewN ?_ _ | refine blk_drew ?_ | refine blk_alloc ?_ _)); refine blk_far ?_ (by have h_ := Kd.R_ne HO_500001.out BK481.out (by decide); intro e_; exact h_ (by rw [e_]; rfl)) _; (with_reducible repeat (first | refine blk_drewN ?_ _ | refine blk_drew ?_ | refine blk_alloc ?_ _)); exact BK481.out⟩
                have n5_ : Aside0 ((w86.setCell ⟨go66, (x8_3 : Int).toNat * 2 + 1, none⟩ (.int .i64 (wrap64 (((rd_T34 l0_1 x8_3).f1) + ((rd_T34 l1_1 x8_3).f1))))).heap[gb482]? = some (.cells #[.int .i64 x483000_3, .slice none 0 0, .slice none 0 0, .slice none 0 0] 25 (0, 0))) := ⟨by (with_reducible repeat (first | refine blk_drewN ?_ _ | refine blk_drew ?_ | refine blk_alloc ?_ _)); refine blk_far ?_ (by have h_ := Kd.R_ne HO_500001.out BK482.out (by decide); intro e_; exact h_ (by rw [e_]; rfl)) _; (with_reducible repeat (first | refine blk_drewN ?_ _ | refine blk_drew ?_ | refine blk_alloc ?_ _)); exact BK482.out⟩
                have n6_ : Aside0 ((w86.setCell ⟨go66, (x8_3 : Int).toNat * 2 + 1, none⟩ (.int .i64 (wrap64 (((rd_T34 l0_1 x8_3).f1) + ((rd_T34 l1_1 x8_3).f1))))).heap[gb499]? = some (.cells #[.int .i64 t489, .slice (some ⟨go66, 0, none⟩) x500001_3.length co66, .slice Ao59 t493.length co59, .slice Ao60 t496.length co60] 25 (0, 0))) := ⟨by (with_reducible repeat (first | refine blk_drewN ?_ _ | refine blk_drew ?_ | refine blk_alloc ?_ _)); refine blk_far ?_ (by have h_ := Kd.R_ne HO_500001.out BK499.out (by decide); intro e_; exact h_ (by rw [e_]; rfl)) _; (with_reducible repeat (first | refine blk_drewN ?_ _ | refine blk_drew ?_ | refine blk_alloc ?_ _)); exact BK499.out⟩
                have n7_ : Aside0 (Below w.heap.size w (w86.setCell ⟨go66, (x8_3 : Int).toNat * 2 + 1, none⟩ (.int .i64 (wrap64 (((rd_T34 l0_1 x8_3).f1) + ((rd_T34 l1_1 x8_3).f1)))))) := ⟨by repeat (first | (with_reducible first | exact HB.out | apply below_alloc | apply pw_below_drewN | apply below_drew1 | refine below_set ?_ GB66.out | refine below_set ?_ GE480.out | refine below_set ?_ GE481.out | refine below_set ?_ GE482.out | refine below_set ?_ GE499.out) | exact HB.out)⟩
                (try clear HO_500001)
                (try clear HO_500002)
                (try clear HO_500003)
                (try clear BK480)
                (try clear BK481)
                (try clear BK482)
                (try clear BK499)
                (try clear HB)
                generalize (w86.setCell ⟨go66, (x8_3 : Int).toNat * 2 + 1, none⟩ (.int .i64 (wrap64 (((rd_T34 l0_1 x8_3).f1) + ((rd_T34 l1_1 x8_3).f1))))) = w88 at n0_ n1_ n2_ n3_ n4_ n5_ n6_ n7_ ⊢
                have HO_500001 := n0_
                have HO_500002 := n1_
                have HO_500003 := n2_
                have BK480 := n3_
                have BK481 := n4_
                have BK482 := n5_
                have BK499 := n6_
                have HB := n7_
                clear n0_ n1_ n2_ n3_ n4_ n5_ n6_ n7_
                have hnb89 := NB499_480.out
                have hnc89 := NB480_499.out
                have hnb90 := NB499_481.out
                have hnc90 := NB481_499.out
                have hnb91 := NB499_482.out
                have hnc91 := NB482_499.out
                obtain ⟨z0, z1, z2, z3, y0, y1, y2, y3⟩ := bc4 BK499
                have p68 : 0 ≤ (x8_3 : Int) := pos_
                have q68 : (x8_3 : Int) < ((x500001_3.length : Int) : Int) := pos_
                replace p68 := eq_true p68
                replace q68 := eq_true q68
                (try (obtain ⟨ad68, e68, hx68_0, hx68_1⟩ := at_T34 (Kd.R_reads' HO_500001.out).2.2 x8_3 (of_eq_true p68) (by first | exact of_eq_true q68 | (have h_ := of_eq_true q68; have e_ := (Kd.R_reads' HO_500001.out).1; omega) | (have h_ := of_eq_true q68; simpa only [Ny502.out, Ny505.out, List.length_set] using h_)); obtain rfl : (⟨go66, 0, none⟩ : Addr) = ad68 := (by injection e68); (first | simp only [add_plain] at hx68_0 | simp only [add_at] at hx68_0 | simp only [Addr.add, Nat.zero_add] at hx68_0 | skip); (first | simp only [add_plain] at hx68_1 | simp only [add_at] at hx68_1 | simp only [Addr.add, Nat.zero_add] at hx68_1 | skip)))
                (try (have hz_ : rd_T34 y505 x8_3 = _ := (congrArg (fun l_ => rd_T34 l_ x8_3) Ny505.out).trans (getD_set _ _ _ _ (by have p_ := of_eq_true p68; have h_ := of_eq_true q68; have e_ := (Kd.R_reads' HO_500001.out).1; first | omega | (simp only [Ny502.out, Ny505.out, List.length_set]; omega) | (simp only [Ny502.out, Ny505.out, List.length_set] at e_ ⊢; omega))); rw [hz_] at hx68_0 hx68_1; clear hz_; dsimp only at hx68_0 hx68_1))
                try go_wp2
                go_roundg k3
                case measure => have := HJ2.out; have := HK2.out; have := HK3.out; omega
                case rel => exact ⟨(wrap64 (x8_3 + 1)), (x483000_3), (y505), (.slice (some ⟨go66, 0, none⟩) x500001_3.length co66), rfs, H', ⟨by have := HJ2.out; have := HK2.out; have := HK3.out; omega⟩, roA HO_500001, roA HO_500002, roA HO_500003, bkA BK480, bkA BK481, bkA BK482, bkA BK499, hbA HB⟩
              ·rw [if_neg c65] at H
               exact absurd H (by simp)
             ·rw [if_neg c64] at H
              exact absurd H (by simp)
            ·rw [if_neg c63] at H
             exact absurd H (by simp)
           ·rw [if_neg c62] at H
            exact absurd H (by simp)
          ·rw [if_neg c61] at H
           have c61b0 : decide (x8_3 < 16) = false := decide_eq_false c61
           clear c61
           simp only [Option.some.injEq, Prod.mk.injEq] at H
           obtain ⟨rfl, rfl, rfl, rfl, rfl⟩ := H
           have hnb93 := NB499_480.out
           have hnc93 := NB480_499.out
           have hnb94 := NB499_481.out
           have hnc94 := NB481_499.out
           have hnb95 := NB499_482.out
           have hnc95 := NB482_499.out
           obtain ⟨z0, z1, z2, z3, y0, y1, y2, y3⟩ := bc4 BK499
           have hnb97 := NB482_480.out
           have hnc97 := NB480_482.out
           have hnb98 := NB482_481.out
           have hnc98 := NB481_482.out
           obtain ⟨z0, z1, z2, z3, y0, y1, y2, y3⟩ := bc4 BK482
           obtain ⟨Ao100, co100, eo100⟩ := Kd.R_slice HO_500001.out
           subst eo100
           go_wp2
           refine bodyPost_ret (results_ct rfl _ _ gb482 25 #[.int .i64 t489, .slice Ao100 x500001_3.length co100, .slice Ao59 t493.length co59, .slice Ao60 t496.length co60] (0, 0) _ rfl (bkp BK482) Try.underlying25 rfl (by kernel_rfl)) rfl ?_
           exact ⟨_, _, _, rerr, Kd.R_mono (rty (rfo HO_500001) BK482) (fun _ hk => trivial), rfo HO_500002, rfo HO_500003, hbx HB⟩
    ·rw [if_neg c25] at H
     have c25b0 : (a0_0 == a1_0) = false := beq_eq_false_iff_ne.mpr c25
     have c25b1 : (a0_0 != a1_0) = true := bne_iff_ne.mpr c25
     simp only [Option.some.injEq, Prod.mk.injEq] at H
     obtain ⟨rfl, rfl, rfl, rfl, rfl⟩ := H
     have hnb101 := NB480_481.out
     have hnc101 := NB481_480.out
     have hnb102 := NB480_482.out
     have hnc102 := NB482_480.out
     obtain ⟨z0, z1, z2, z3, y0, y1, y2, y3⟩ := bc4 BK480
     have hnb104 := NB481_482.out
     have hnc104 := NB482_481.out
     obtain ⟨z0, z1, z2, z3, y0, y1, y2, y3⟩ := bc4 BK481
     obtain ⟨z0, z1, z2, z3, y0, y1, y2, y3⟩ := bc4 BK482
     go_wp2
     refine bodyPost_ret (results_ct rfl _ _ gb482 25 #[.int .i64 0, .slice none 0 0, .slice none 0 0, .slice none 0 0] (0, 0) _ rfl (bkp BK482) Try.underlying25 rfl (by kernel_rfl)) rfl ?_
     exact ⟨_, _, _, rerr, rnil, rnil, rnil, hbx HB⟩
end Go.Proofs.Ytnipgplobipeeaa.PQ
