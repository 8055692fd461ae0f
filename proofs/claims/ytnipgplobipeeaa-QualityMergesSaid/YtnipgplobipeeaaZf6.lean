-- Printed by fprint.py and zip.py, programs of this session's, over the kit's print; Lean checks it.
import Derived.Test.YtnipgplobipeeaaZ0
import Derived.Test.YtnipgplobipeeaaZf31
import Derived.Test.YtnipgplobipeeaaZf10
import Derived.Test.YtnipgplobipeeaaZf11
import Derived.Test.YtnipgplobipeeaaZf13
import Derived.Test.YtnipgplobipeeaaZf28
import Derived.Test.YtnipgplobipeeaaZf29
import Derived.Test.YtnipgplobipeeaaZf30
import Derived.Test.YtnipgplobipeeaaZf32
namespace Go.Proofs.Ytnipgplobipeeaa.PQ
open Go.RowKit Go.Proofs.YtnipgplobipeeaaW.PrintWords Go.Proofs.YtnipgplobipeeaaW.PrintLast Go.Proofs.YtnipgplobipeeaaW.PrintMore
attribute [local go_sem] max2_int min2_int max_two min_two max_three min_three max_four min_four   -- for this text's walks alone
set_option linter.unusedVariables false
set_option linter.unusedSimpArgs false
def hopmeshlaw12_QualityMerges.j0 : Nat → Bool → Int → List (S34) → List Int → List Int → Int → List (S34) → List Int → List Int → Option (Bool)
 | 0, _, _, _, _, _, _, _, _, _ => none
 | k + 1, x18, x526000, x526001, x526002, x526003, x527000, x527001, x527002, x527003 => if x18 = true then (some true) else ((hopmeshref12_Copy.f x526000 x526001 x526002 x526003).bind fun bt530 => ((hopmeshref12_Copy.f x527000 x527001 x527002 x527003).bind fun bt540 => ((quality_Merge.f k bt530.1 bt530.2.1 bt530.2.2.1 bt530.2.2.2 bt540.1 bt540.2.1 bt540.2.2.1 bt540.2.2.2).bind fun bt550 => ((hopmeshref12_Merge.f k x526000 x526001 x526002 x526003 x527000 x527001 x527002 x527003).bind fun bt562 => ((hopmeshref12_Same.f k bt550.1 bt550.2.1 bt550.2.2.1 bt550.2.2.2.1 bt562.1 bt562.2.1 bt562.2.2.1 bt562.2.2.2.1).bind fun t574 => (if t574 = true then (if bt550.2.2.2.2 = bt562.2.2.2.2 then ((quality_New.f).bind fun bt575 => ((hopmeshref12_New.f).bind fun bt585 => ((hopmeshref12_Same.f k bt575.1 bt575.2.1 bt575.2.2.1 bt575.2.2.2 bt585.1 bt585.2.1 bt585.2.2.1 bt585.2.2.2).bind fun t595 => (some t595)))) else (none)) else (none)))))))
def hopmeshlaw12_QualityMerges.f (k : Nat) (a0_0 : Int) (l0_1 : List (S34)) (l0_2 : List Int) (l0_3 : List Int) (a1_0 : Int) (l1_1 : List (S34)) (l1_2 : List Int) (l1_3 : List Int) : Option (Bool) := (hopmeshlaw12_awake.f k).bind fun t527 => (if t527 = true then ((hopmeshref12_Few.f a0_0 l0_1 l0_2 l0_3).bind fun t528 => (if t528 = true then ((hopmeshref12_Few.f a1_0 l1_1 l1_2 l1_3).bind fun t529 => (hopmeshlaw12_QualityMerges.j0 k (!t529) a0_0 l0_1 l0_2 l0_3 a1_0 l1_1 l1_2 l1_3)) else (hopmeshlaw12_QualityMerges.j0 k true a0_0 l0_1 l0_2 l0_3 a1_0 l1_1 l1_2 l1_3))) else (none))
theorem hopmeshlaw12_QualityMerges.mono_l : ∀ k, (∀ y0 y1 y2 y3 y4 y5 y6 y7 y8, LeO (hopmeshlaw12_QualityMerges.j0 k y0 y1 y2 y3 y4 y5 y6 y7 y8) (hopmeshlaw12_QualityMerges.j0 (k + 1) y0 y1 y2 y3 y4 y5 y6 y7 y8))
 | 0 => fun _ _ _ _ _ _ _ _ _ r h => by simp [hopmeshlaw12_QualityMerges.j0] at h
 | k + 1 => by
  have ih0 := hopmeshlaw12_QualityMerges.mono_l k
  ·intro y0 y1 y2 y3 y4 y5 y6 y7 y8
   unfold hopmeshlaw12_QualityMerges.j0
   repeat' first
   | (with_reducible exact ih0 _ _ _ _ _ _ _ _ _)
   | (with_reducible exact hopmeshlaw12_awake.mono _)
   | (with_reducible exact hopmeshref12_Merge.mono _ _ _ _ _ _ _ _ _)
   | (with_reducible exact hopmeshref12_Same.mono _ _ _ _ _ _ _ _ _)
   | (with_reducible exact quality_Merge.mono _ _ _ _ _ _ _ _ _)
   | (with_reducible exact LeO.refl _)
   | (with_reducible exact LeO.none _)
   | (with_reducible refine LeO.ite ?_ ?_)
   | (with_reducible refine LeO.bind ?_ (fun _ => ?_))
   | exact ih0 _ _ _ _ _ _ _ _ _
   | exact hopmeshlaw12_awake.mono _
   | exact hopmeshref12_Merge.mono _ _ _ _ _ _ _ _ _
   | exact hopmeshref12_Same.mono _ _ _ _ _ _ _ _ _
   | exact quality_Merge.mono _ _ _ _ _ _ _ _ _
   | exact LeO.none _
   | refine LeO.ite ?_ ?_
   | refine LeO.bind ?_ (fun _ => ?_)
theorem hopmeshlaw12_QualityMerges.mono : ∀ a0 a1 a2 a3 a4 a5 a6 a7 k, LeO (hopmeshlaw12_QualityMerges.f k a0 a1 a2 a3 a4 a5 a6 a7) (hopmeshlaw12_QualityMerges.f (k + 1) a0 a1 a2 a3 a4 a5 a6 a7) := by
 intro a0 a1 a2 a3 a4 a5 a6 a7 k
 have ih0 := hopmeshlaw12_QualityMerges.mono_l k
 unfold hopmeshlaw12_QualityMerges.f
 repeat' first
  | (with_reducible exact ih0 _ _ _ _ _ _ _ _ _)
  | (with_reducible exact hopmeshlaw12_awake.mono _)
  | (with_reducible exact hopmeshref12_Merge.mono _ _ _ _ _ _ _ _ _)
  | (with_reducible exact hopmeshref12_Same.mono _ _ _ _ _ _ _ _ _)
  | (with_reducible exact quality_Merge.mono _ _ _ _ _ _ _ _ _)
  | (with_reducible exact LeO.refl _)
  | (with_reducible exact LeO.none _)
  | (with_reducible refine LeO.ite ?_ ?_)
  | (with_reducible refine LeO.bind ?_ (fun _ => ?_))
  | exact ih0 _ _ _ _ _ _ _ _ _
  | exact hopmeshlaw12_awake.mono _
  | exact hopmeshref12_Merge.mono _ _ _ _ _ _ _ _ _
  | exact hopmeshref12_Same.mono _ _ _ _ _ _ _ _ _
  | exact quality_Merge.mono _ _ _ _ _ _ _ _ _
  | exact LeO.none _
  | refine LeO.ite ?_ ?_
  | refine LeO.bind ?_ (fun _ => ?_)
def hopmeshlaw12_QualityMerges.T5 : Bool × List (List Nat × List Nat) := (true, [([], []), ([0], [0]), ([], []), ([2, 1], [2]), ([1, 3, 3], [1, 3]), ([4], [4]), ([5], [5]), ([5], [5]), ([], []), ([8, 6, 4, 0, 1, 2, 3, 4, 5, 6, 8], [6, 8]), ([7, 9, 0, 1, 2, 3, 4, 5, 6, 7, 8, 9], [7])])
def hopmeshlaw12_QualityMerges.B5 : List Nat := [0, 1, 0, 7, 15, 31, 63, 63, 0, 383, 1023]
theorem hopmeshlaw12_QualityMerges.tab5 : rtab .any (opsOf Try.f6 5) = hopmeshlaw12_QualityMerges.T5 := by kernel_rfl
theorem hopmeshlaw12_QualityMerges.bits5 : waitsOk hopmeshlaw12_QualityMerges.T5.2 hopmeshlaw12_QualityMerges.B5 = true := by kernel_rfl
set_option maxHeartbeats 8000000 in
set_option maxRecDepth 100000 in
theorem hopmeshlaw12_QualityMerges.calls (k : Nat) (a0_0 : Int) (A0_1 : Option Addr) (c0_1 : Nat) (l0_1 : List (S34)) (A0_2 : Option Addr) (c0_2 : Nat) (l0_2 : List Int) (A0_3 : Option Addr) (c0_3 : Nat) (l0_3 : List Int) (a1_0 : Int) (A1_1 : Option Addr) (c1_1 : Nat) (l1_1 : List (S34)) (A1_2 : Option Addr) (c1_2 : Nat) (l1_2 : List Int) (A1_3 : Option Addr) (c1_3 : Nat) (l1_3 : List Int) (r : Bool) (w : World) (hr0_1 : Kd.C k34 w A0_1 l0_1.length l0_1) (hc0_1 : l0_1.length ≤ c0_1) (hr0_2 : Kd.C (Kd.int .i64) w A0_2 l0_2.length l0_2) (hc0_2 : l0_2.length ≤ c0_2) (hr0_3 : Kd.C (Kd.int .i64) w A0_3 l0_3.length l0_3) (hc0_3 : l0_3.length ≤ c0_3) (hr1_1 : Kd.C k34 w A1_1 l1_1.length l1_1) (hc1_1 : l1_1.length ≤ c1_1) (hr1_2 : Kd.C (Kd.int .i64) w A1_2 l1_2.length l1_2) (hc1_2 : l1_2.length ≤ c1_2) (hr1_3 : Kd.C (Kd.int .i64) w A1_3 l1_3.length l1_3) (hc1_3 : l1_3.length ≤ c1_3) (h : hopmeshlaw12_QualityMerges.f k a0_0 l0_1 l0_2 l0_3 a1_0 l1_1 l1_2 l1_3 = some r) :
 Calls Try.prog 6 #[.agg #[.int .i64 a0_0, .slice A0_1 l0_1.length c0_1, .slice A0_2 l0_2.length c0_2, .slice A0_3 l0_3.length c0_3], .agg #[.int .i64 a1_0, .slice A1_1 l1_1.length c1_1, .slice A1_2 l1_2.length c1_2, .slice A1_3 l1_3.length c1_3]] w fun e w' => e = .returned (.bool r) ∧ Below w.heap.size w w' := by
 have hu25 := Try.underlying25
 have HR0_1 := Aside0.mk hr0_1
 have HC0_1 := Aside0.mk hc0_1
 clear hr0_1 hc0_1
 have HR0_2 := Aside0.mk hr0_2
 have HC0_2 := Aside0.mk hc0_2
 clear hr0_2 hc0_2
 have HR0_3 := Aside0.mk hr0_3
 have HC0_3 := Aside0.mk hc0_3
 clear hr0_3 hc0_3
 have HR1_1 := Aside0.mk hr1_1
 have HC1_1 := Aside0.mk hc1_1
 clear hr1_1 hc1_1
 have HR1_2 := Aside0.mk hr1_2
 have HC1_2 := Aside0.mk hc1_2
 clear hr1_2 hc1_2
 have HR1_3 := Aside0.mk hr1_3
 have HC1_3 := Aside0.mk hc1_3
 clear hr1_3 hc1_3
 have HB := Aside0.mk (Below.refl w.heap.size w)
 have H : ((hopmeshlaw12_awake.f k).bind fun t527 => (if t527 = true then ((hopmeshref12_Few.f a0_0 l0_1 l0_2 l0_3).bind fun t528 => (if t528 = true then ((hopmeshref12_Few.f a1_0 l1_1 l1_2 l1_3).bind fun t529 => (hopmeshlaw12_QualityMerges.j0 k (!t529) a0_0 l0_1 l0_2 l0_3 a1_0 l1_1 l1_2 l1_3)) else (hopmeshlaw12_QualityMerges.j0 k true a0_0 l0_1 l0_2 l0_3 a1_0 l1_1 l1_2 l1_3))) else (none))) = some r := h
 clear h
 replace H := Option.bind_eq_some_iff.mp H
 obtain ⟨t527, A30, H⟩ := H
 (try dsimp only at H)
 have A3 := Aside0.mk A30
 clear A30
 by_cases c4 : t527 = true
 ·subst c4
  rw [if_pos rfl] at H
  have HC5 := Aside0.mk H
  clear H
  go_enter Try.func6, Try.ntmps6
  go_upto_region 3 with (first | ((with_reducible refine gate_dst (N := 2) rfl ?_); refine boxE 2 #[.int .i64 a0_0, .slice A0_1 l0_1.length c0_1, .slice A0_2 l0_2.length c0_2, .slice A0_3 l0_3.length c0_3] 25 ?_; intro gb525 hg w6 hbox hb; have BK525 := Aside0.mk (hbox); have GW525 := gw hg HB; have GE525 := gw hg HB; replace HB := hbS HB hb; clear hb hbox hg) | ((with_reducible refine gate_dst (N := 3) rfl ?_); refine boxE 3 #[.int .i64 a1_0, .slice A1_1 l1_1.length c1_1, .slice A1_2 l1_2.length c1_2, .slice A1_3 l1_3.length c1_3] 25 ?_; intro gb526 hg w7 hbox hb; have BK526 := Aside0.mk (hbox); have GW526 := gw hg HB; have GE526 := gw hg HB; replace HB := hbS HB hb; have NB525_526 := nbl hg BK525; have NB526_525 := nbg hg BK525; replace BK525 := bkB BK525 hb; clear hb hbox hg) | ((with_reducible refine gate_callee (f := 10) rfl ?_); refine goesL_ (some 9) rfl rfl Try.func10 (by kernel_rfl) rfl #[] rfl sma ?_; (with_reducible refine (hopmeshlaw12_awake.calls k  true _ A3.out).mono ?_); rintro e w8 ⟨rfl, hb⟩; refine ⟨_, rfl, ?_⟩; replace BK525 := bkB BK525 hb; replace BK526 := bkB BK526 hb; replace HB := hbS HB hb; (try clear hb); (try clear hb2); (try clear hk); (try clear hi)))
  (try simp only [Act.put, List.setIfInBounds_toArray, List.set_cons_zero, List.set_cons_succ])
  go_cut [18] (fun v18 wc => ∃ (kq : Nat) (x18_4 : Bool), v18 = .bool x18_4 ∧ Aside0 (hopmeshlaw12_QualityMerges.j0 kq x18_4 a0_0 l0_1 l0_2 l0_3 a1_0 l1_1 l1_2 l1_3 = some r) ∧ Aside0 (kq ≤ k) ∧ Aside0 (wc.heap[gb525]? = some (.cells #[.int .i64 a0_0, (.slice A0_1 l0_1.length c0_1), (.slice A0_2 l0_2.length c0_2), (.slice A0_3 l0_3.length c0_3)] 25 (0, 0))) ∧ Aside0 (wc.heap[gb526]? = some (.cells #[.int .i64 a1_0, (.slice A1_1 l1_1.length c1_1), (.slice A1_2 l1_2.length c1_2), (.slice A1_3 l1_3.length c1_3)] 25 (0, 0))) ∧ Aside0 (Below w.heap.size w wc))
  case first =>
   have H := HC5.out
   clear HC5
   replace H := Option.bind_eq_some_iff.mp H
   obtain ⟨t528, A90, H⟩ := H
   (try dsimp only at H)
   have A9 := Aside0.mk A90
   clear A90
   by_cases c10 : t528 = true
   ·subst c10
    rw [if_pos rfl] at H
    replace H := Option.bind_eq_some_iff.mp H
    obtain ⟨t529, A110, H⟩ := H
    (try dsimp only at H)
    have A11 := Aside0.mk A110
    clear A110
    have H' := Aside0.mk H
    clear H
    have hnb12 := NB525_526.out
    have hnc12 := NB526_525.out
    obtain ⟨z0, z1, z2, z3, y0, y1, y2, y3⟩ := bc4 BK525
    go_wp2_with (first | ((with_reducible refine gate_callee (f := 11) rfl ?_); refine goesL_ (some 12) rfl rfl Try.func11 (by kernel_rfl) rfl #[.agg #[.int .i64 a0_0, .slice A0_1 l0_1.length c0_1, .slice A0_2 l0_2.length c0_2, .slice A0_3 l0_3.length c0_3]] rfl sma ?_; (with_reducible refine (hopmeshref12_Few.calls a0_0 _ _ l0_1 _ _ l0_2 _ _ l0_3 true _ (cb HR0_1 HB) HC0_1.out (cb HR0_2 HB) HC0_2.out (cb HR0_3 HB) HC0_3.out A9.out).mono ?_); rintro e w14 ⟨rfl, hb⟩; refine ⟨_, rfl, ?_⟩; replace BK525 := bkB BK525 hb; replace BK526 := bkB BK526 hb; replace HB := hbS HB hb; (try clear hb); (try clear hb2); (try clear hk); (try clear hi); obtain ⟨z0, z1, z2, z3, y0, y1, y2, y3⟩ := bc4 BK526) | (go_at_call 11; (with_reducible refine (hopmeshref12_Few.calls a1_0 _ _ l1_1 _ _ l1_2 _ _ l1_3 t529 _ (cb HR1_1 HB) HC1_1.out (cb HR1_2 HB) HC1_2.out (cb HR1_3 HB) HC1_3.out A11.out).mono ?_); rintro e w16 ⟨rfl, hb⟩; replace BK525 := bkB BK525 hb; replace BK526 := bkB BK526 hb; replace HB := hbS HB hb; (try clear hb); (try clear hb2); (try clear hk); (try clear hi)))
    go_meet
    case rel => exact ⟨_, (!t529), rfs, H', kle, bkA BK525, bkA BK526, hbA HB⟩
   ·replace c10 := Bool.eq_false_iff.mpr c10
    subst c10
    rw [if_neg (show ¬ (false = true) by decide)] at H
    have H' := Aside0.mk H
    clear H
    have hnb17 := NB525_526.out
    have hnc17 := NB526_525.out
    obtain ⟨z0, z1, z2, z3, y0, y1, y2, y3⟩ := bc4 BK525
    go_wp2_with (first | ((with_reducible refine gate_callee (f := 11) rfl ?_); refine goesL_ (some 12) rfl rfl Try.func11 (by kernel_rfl) rfl #[.agg #[.int .i64 a0_0, .slice A0_1 l0_1.length c0_1, .slice A0_2 l0_2.length c0_2, .slice A0_3 l0_3.length c0_3]] rfl sma ?_; (with_reducible refine (hopmeshref12_Few.calls a0_0 _ _ l0_1 _ _ l0_2 _ _ l0_3 false _ (cb HR0_1 HB) HC0_1.out (cb HR0_2 HB) HC0_2.out (cb HR0_3 HB) HC0_3.out A9.out).mono ?_); rintro e w19 ⟨rfl, hb⟩; refine ⟨_, rfl, ?_⟩; replace BK525 := bkB BK525 hb; replace BK526 := bkB BK526 hb; replace HB := hbS HB hb; (try clear hb); (try clear hb2); (try clear hk); (try clear hi)))
    go_meet
    case rel => exact ⟨_, (true), rfs, H', kle, bkA BK525, bkA BK526, hbA HB⟩
  case rest =>
   clear HC5
   try clear c4
   obtain ⟨kq, x18_4, rfl, HA, HJ4, BK525, BK526, HB⟩ := hcut
   cases kq with
   | zero => exact absurd HA.out (by simp [hopmeshlaw12_QualityMerges.j0])
   | succ kj4 =>
    have H := HA.out
    clear HA
    simp only [hopmeshlaw12_QualityMerges.j0] at H
    by_cases c20 : x18_4 = true
    ·subst c20
     rw [if_pos rfl] at H
     obtain rfl := Option.some.inj H
     go_wp2
     go_ret
     exact ⟨rerr, hbx HB⟩
    ·replace c20 := Bool.eq_false_iff.mpr c20
     subst c20
     rw [if_neg (show ¬ (false = true) by decide)] at H
     replace H := Option.bind_eq_some_iff.mp H
     obtain ⟨⟨t530, t531, t534, t537⟩, A210, H⟩ := H
     (try dsimp only at H)
     have A21 := Aside0.mk A210
     clear A210
     replace H := Option.bind_eq_some_iff.mp H
     obtain ⟨⟨t540, t541, t544, t547⟩, A220, H⟩ := H
     (try dsimp only at H)
     have A22 := Aside0.mk A220
     clear A220
     replace H := Option.bind_eq_some_iff.mp H
     obtain ⟨⟨t550, t551, t554, t557, t560⟩, A230, H⟩ := H
     (try dsimp only at H)
     have A23 := Aside0.mk A230
     clear A230
     replace H := Option.bind_eq_some_iff.mp H
     obtain ⟨⟨t562, t563, t566, t569, t572⟩, A240, H⟩ := H
     (try dsimp only at H)
     have A24 := Aside0.mk A240
     clear A240
     replace H := Option.bind_eq_some_iff.mp H
     obtain ⟨t574, A250, H⟩ := H
     (try dsimp only at H)
     have A25 := Aside0.mk A250
     clear A250
     by_cases c26 : t574 = true
     ·subst c26
      rw [if_pos rfl] at H
      by_cases c27 : t560 = t572
      ·rw [if_pos c27] at H
       have c27b0 : (t560 == t572) = true := beq_iff_eq.mpr c27
       have c27b1 : (t560 != t572) = false := bne_eq_false_iff_eq.mpr c27
       clear c27
       replace H := Option.bind_eq_some_iff.mp H
       obtain ⟨⟨t575, t576, t579, t582⟩, A280, H⟩ := H
       (try dsimp only at H)
       have A28 := Aside0.mk A280
       clear A280
       replace H := Option.bind_eq_some_iff.mp H
       obtain ⟨⟨t585, t586, t589, t592⟩, A290, H⟩ := H
       (try dsimp only at H)
       have A29 := Aside0.mk A290
       clear A290
       replace H := Option.bind_eq_some_iff.mp H
       obtain ⟨t595, A300, H⟩ := H
       (try dsimp only at H)
       have A30 := Aside0.mk A300
       clear A300
       obtain rfl := Option.some.inj H
       try go_wp2
       replace BK525 := Aside0.mk (blk_drew BK525.out)
       replace BK526 := Aside0.mk (blk_drew BK526.out)
       replace HB := Aside0.mk (below_drew1 HB.out)
       refine start_ (n := 11) (S := fun w' => w'.cell? ⟨gb525, 0, none⟩ = some (.int .i64 a0_0) ∧ w'.cell? ⟨gb525, 1, none⟩ = some (.slice A0_1 l0_1.length c0_1) ∧ w'.cell? ⟨gb525, 2, none⟩ = some (.slice A0_2 l0_2.length c0_2) ∧ w'.cell? ⟨gb525, 3, none⟩ = some (.slice A0_3 l0_3.length c0_3) ∧ w'.cell? ⟨gb526, 0, none⟩ = some (.int .i64 a1_0) ∧ w'.cell? ⟨gb526, 1, none⟩ = some (.slice A1_1 l1_1.length c1_1) ∧ w'.cell? ⟨gb526, 2, none⟩ = some (.slice A1_2 l1_2.length c1_2) ∧ w'.cell? ⟨gb526, 3, none⟩ = some (.slice A1_3 l1_3.length c1_3)) (ds := []) #[false, false, false, false, false, false, false, false, false, false, false] (by kernel_rfl) rfl rfl ⟨(blk_cell BK525.out 0).trans rfl, (blk_cell BK525.out 1).trans rfl, (blk_cell BK525.out 2).trans rfl, (blk_cell BK525.out 3).trans rfl, (blk_cell BK526.out 0).trans rfl, (blk_cell BK526.out 1).trans rfl, (blk_cell BK526.out 2).trans rfl, (blk_cell BK526.out 3).trans rfl⟩ (fun hHeld => ?_); refine with_tabW hopmeshlaw12_QualityMerges.tab5 hopmeshlaw12_QualityMerges.bits5 (fun HT_ HW_ => ?_)
       generalize wc.drew = w31 at BK525 BK526 HB hHeld ⊢
       refine tak 0 (some 20) #[true, false, false, false, false, false, false, false, false, false, false] HT_ HW_ hHeld rfl (Or.inl ⟨by rfl, by rintro w' ⟨s0, s1, s2, s3, s4, s5, s6, s7⟩; go_simp; with_reducible rfl⟩) ?_
       refine tak 2 (some 22) #[true, false, true, false, false, false, false, false, false, false, false] HT_ HW_ hHeld rfl (Or.inl ⟨by rfl, by rintro w' ⟨s0, s1, s2, s3, s4, s5, s6, s7⟩; go_simp; with_reducible rfl⟩) ?_
       refine join_ (σ := Value × Value × Value × Value × Value × Value × Value × Value × Value × Nat) 2 #[true, true, true, true, true, true, true, true, true, false, false] (fun s_ => [(21, .agg #[.int .i64 t530, s_.1, s_.2.1, s_.2.2.1]), (23, .agg #[.int .i64 t540, s_.2.2.2.1, s_.2.2.2.2.1, s_.2.2.2.2.2.1]), (24, .tuple #[.agg #[.int .i64 t550, s_.2.2.2.2.2.2.1, s_.2.2.2.2.2.2.2.1, s_.2.2.2.2.2.2.2.2.1], .int .i64 t560]), (5, .pointer (some ⟨s_.2.2.2.2.2.2.2.2.2, 0, none⟩)), (19, .tuple #[.agg #[.int .i64 t550, s_.2.2.2.2.2.2.1, s_.2.2.2.2.2.2.2.1, s_.2.2.2.2.2.2.2.2.1], .int .i64 t560]), (25, .agg #[.int .i64 t550, s_.2.2.2.2.2.2.1, s_.2.2.2.2.2.2.2.1, s_.2.2.2.2.2.2.2.2.1]), (26, .int .i64 t560)]) (fun s_ w' => (w'.cell? ⟨gb525, 0, none⟩ = some (.int .i64 a0_0) ∧ w'.cell? ⟨gb525, 1, none⟩ = some (.slice A0_1 l0_1.length c0_1) ∧ w'.cell? ⟨gb525, 2, none⟩ = some (.slice A0_2 l0_2.length c0_2) ∧ w'.cell? ⟨gb525, 3, none⟩ = some (.slice A0_3 l0_3.length c0_3) ∧ w'.cell? ⟨gb526, 0, none⟩ = some (.int .i64 a1_0) ∧ w'.cell? ⟨gb526, 1, none⟩ = some (.slice A1_1 l1_1.length c1_1) ∧ w'.cell? ⟨gb526, 2, none⟩ = some (.slice A1_2 l1_2.length c1_2) ∧ w'.cell? ⟨gb526, 3, none⟩ = some (.slice A1_3 l1_3.length c1_3)) ∧ (Kd.R k34 34 w' w.heap.size (fun k_ => some k_ ≠ (s_.2.2.2.1 : Value).ownBlock ∧ some k_ ≠ (s_.2.2.2.2.2.2.1 : Value).ownBlock) s_.1 t531) ∧ (Kd.R (Kd.int .i64) 3 w' w.heap.size (fun k_ => some k_ ≠ (s_.2.2.1 : Value).ownBlock ∧ some k_ ≠ (s_.2.2.2.2.1 : Value).ownBlock ∧ some k_ ≠ (s_.2.2.2.2.2.1 : Value).ownBlock ∧ some k_ ≠ (s_.2.2.2.2.2.2.2.1 : Value).ownBlock ∧ some k_ ≠ (s_.2.2.2.2.2.2.2.2.1 : Value).ownBlock) s_.2.1 t534) ∧ (Kd.R (Kd.int .i64) 3 w' w.heap.size (fun k_ => some k_ ≠ (s_.2.1 : Value).ownBlock ∧ some k_ ≠ (s_.2.2.2.2.1 : Value).ownBlock ∧ some k_ ≠ (s_.2.2.2.2.2.1 : Value).ownBlock ∧ some k_ ≠ (s_.2.2.2.2.2.2.2.1 : Value).ownBlock ∧ some k_ ≠ (s_.2.2.2.2.2.2.2.2.1 : Value).ownBlock) s_.2.2.1 t537) ∧ (Kd.R k34 34 w' w.heap.size (fun k_ => some k_ ≠ (s_.1 : Value).ownBlock ∧ some k_ ≠ (s_.2.2.2.2.2.2.1 : Value).ownBlock) s_.2.2.2.1 t541) ∧ (Kd.R (Kd.int .i64) 3 w' w.heap.size (fun k_ => some k_ ≠ (s_.2.1 : Value).ownBlock ∧ some k_ ≠ (s_.2.2.1 : Value).ownBlock ∧ some k_ ≠ (s_.2.2.2.2.2.1 : Value).ownBlock ∧ some k_ ≠ (s_.2.2.2.2.2.2.2.1 : Value).ownBlock ∧ some k_ ≠ (s_.2.2.2.2.2.2.2.2.1 : Value).ownBlock) s_.2.2.2.2.1 t544) ∧ (Kd.R (Kd.int .i64) 3 w' w.heap.size (fun k_ => some k_ ≠ (s_.2.1 : Value).ownBlock ∧ some k_ ≠ (s_.2.2.1 : Value).ownBlock ∧ some k_ ≠ (s_.2.2.2.2.1 : Value).ownBlock ∧ some k_ ≠ (s_.2.2.2.2.2.2.2.1 : Value).ownBlock ∧ some k_ ≠ (s_.2.2.2.2.2.2.2.2.1 : Value).ownBlock) s_.2.2.2.2.2.1 t547) ∧ (Kd.R k34 34 w' w.heap.size (fun k_ => some k_ ≠ (s_.1 : Value).ownBlock ∧ some k_ ≠ (s_.2.2.2.1 : Value).ownBlock) s_.2.2.2.2.2.2.1 t551) ∧ (Kd.R (Kd.int .i64) 3 w' w.heap.size (fun k_ => some k_ ≠ (s_.2.1 : Value).ownBlock ∧ some k_ ≠ (s_.2.2.1 : Value).ownBlock ∧ some k_ ≠ (s_.2.2.2.2.1 : Value).ownBlock ∧ some k_ ≠ (s_.2.2.2.2.2.1 : Value).ownBlock ∧ some k_ ≠ (s_.2.2.2.2.2.2.2.2.1 : Value).ownBlock) s_.2.2.2.2.2.2.2.1 t554) ∧ (Kd.R (Kd.int .i64) 3 w' w.heap.size (fun k_ => some k_ ≠ (s_.2.1 : Value).ownBlock ∧ some k_ ≠ (s_.2.2.1 : Value).ownBlock ∧ some k_ ≠ (s_.2.2.2.2.1 : Value).ownBlock ∧ some k_ ≠ (s_.2.2.2.2.2.1 : Value).ownBlock ∧ some k_ ≠ (s_.2.2.2.2.2.2.2.1 : Value).ownBlock) s_.2.2.2.2.2.2.2.2.1 t557) ∧ (w'.heap[gb525]? = some (.cells #[.int .i64 a0_0, .slice A0_1 l0_1.length c0_1, .slice A0_2 l0_2.length c0_2, .slice A0_3 l0_3.length c0_3] 25 (0, 0))) ∧ (w'.heap[gb526]? = some (.cells #[.int .i64 a1_0, .slice A1_1 l1_1.length c1_1, .slice A1_2 l1_2.length c1_2, .slice A1_3 l1_3.length c1_3] 25 (0, 0))) ∧ (w'.heap[s_.2.2.2.2.2.2.2.2.2]? = some (.cells #[.int .i64 0, .slice none 0 0, .slice none 0 0, .slice none 0 0] 25 (0, 0))) ∧ (w.heap.size ≤ s_.2.2.2.2.2.2.2.2.2) ∧ (w.heap.size ≤ s_.2.2.2.2.2.2.2.2.2) ∧ (gb525 ≠ s_.2.2.2.2.2.2.2.2.2) ∧ (s_.2.2.2.2.2.2.2.2.2 ≠ gb525) ∧ (gb526 ≠ s_.2.2.2.2.2.2.2.2.2) ∧ (s_.2.2.2.2.2.2.2.2.2 ≠ gb526) ∧ (Below w.heap.size w w')) ?_ ?_
       rotate_left
       ·intro hCont
        refine two_ (i := 1) (j := 8) (Ni := some 21) (Nj := some 5) #[true, true, true, false, false, false, false, false, false, false, false] #[true, false, true, false, false, false, false, false, true, false, false] rfl rfl rfl rfl (two_of HT_.out (by kernel_rfl)) (by decide) (by decide) (fun K hK => ?_) (fun K hK => ?_)
        ·skip
         refine goes_ Try.func13 (by kernel_rfl) rfl #[.agg #[.int .i64 a0_0, .slice A0_1 l0_1.length c0_1, .slice A0_2 l0_2.length c0_2, .slice A0_3 l0_3.length c0_3]] (by rfl) rfl rfl sma ?_
         with_reducible refine (hopmeshref12_Copy.calls a0_0 _ _ l0_1 _ _ l0_2 _ _ l0_3 t530 t531 t534 t537 _ ?side1 ?side2 ?side3 ?side4 ?side5 ?side6 A21.out).mono ?_
         (case side1 => repeat (first | exact (Kd.C_below HR0_1.out HB.out) | (with_reducible refine Kd.C_alloc ?_ _) | (with_reducible refine Kd.C_drewN ?_ _) | (with_reducible refine Kd.C_drew ?_)))
         (case side2 => exact HC0_1.out)
         (case side3 => repeat (first | exact (Kd.C_below HR0_2.out HB.out) | (with_reducible refine Kd.C_alloc ?_ _) | (with_reducible refine Kd.C_drewN ?_ _) | (with_reducible refine Kd.C_drew ?_)))
         (case side4 => exact HC0_2.out)
         (case side5 => repeat (first | exact (Kd.C_below HR0_3.out HB.out) | (with_reducible refine Kd.C_alloc ?_ _) | (with_reducible refine Kd.C_drewN ?_ _) | (with_reducible refine Kd.C_drew ?_)))
         (case side6 => exact HC0_3.out)
         rintro e w32 ⟨v532, v535, v538, rfl, ho0, ho1, ho2, hb⟩
         refine ⟨_, rfl, ?_⟩
         have HO533 := Aside0.mk (Kd.R_lower ho0 (below_size (hbx HB)))
         have HO536 := Aside0.mk (Kd.R_lower ho1 (below_size (hbx HB)))
         have HO539 := Aside0.mk (Kd.R_lower ho2 (below_size (hbx HB)))
         replace BK525 := bkB BK525 hb
         replace BK526 := bkB BK526 hb
         replace HB := hbS HB hb
         (try clear hb)
         (try clear hb2)
         (try clear hk)
         (try clear hi)
         (try clear ho0)
         (try clear ho1)
         (try clear ho2)
         refine hK.out _ _ ⟨(blk_cell BK525.out 0).trans rfl, (blk_cell BK525.out 1).trans rfl, (blk_cell BK525.out 2).trans rfl, (blk_cell BK525.out 3).trans rfl, (blk_cell BK526.out 0).trans rfl, (blk_cell BK526.out 1).trans rfl, (blk_cell BK526.out 2).trans rfl, (blk_cell BK526.out 3).trans rfl⟩ (fun hHeld => ?_)
         clear hK K
         refine nrm (some 21) ?_
         refine two_ (i := 3) (j := 8) (Ni := some 23) (Nj := some 5) #[true, true, true, true, false, false, false, false, false, false, false] #[true, true, true, false, false, false, false, false, true, false, false] rfl rfl rfl rfl (two_of HT_.out (by kernel_rfl)) (by decide) (by decide) (fun K hK => ?_) (fun K hK => ?_)
         ·skip
          refine goes_ Try.func13 (by kernel_rfl) rfl #[.agg #[.int .i64 a1_0, .slice A1_1 l1_1.length c1_1, .slice A1_2 l1_2.length c1_2, .slice A1_3 l1_3.length c1_3]] (by rfl) rfl rfl sma ?_
          with_reducible refine (hopmeshref12_Copy.calls a1_0 _ _ l1_1 _ _ l1_2 _ _ l1_3 t540 t541 t544 t547 _ ?side1 ?side2 ?side3 ?side4 ?side5 ?side6 A22.out).mono ?_
          (case side1 => repeat (first | exact (Kd.C_below HR1_1.out HB.out) | (with_reducible refine Kd.C_alloc ?_ _) | (with_reducible refine Kd.C_drewN ?_ _) | (with_reducible refine Kd.C_drew ?_)))
          (case side2 => exact HC1_1.out)
          (case side3 => repeat (first | exact (Kd.C_below HR1_2.out HB.out) | (with_reducible refine Kd.C_alloc ?_ _) | (with_reducible refine Kd.C_drewN ?_ _) | (with_reducible refine Kd.C_drew ?_)))
          (case side4 => exact HC1_2.out)
          (case side5 => repeat (first | exact (Kd.C_below HR1_3.out HB.out) | (with_reducible refine Kd.C_alloc ?_ _) | (with_reducible refine Kd.C_drewN ?_ _) | (with_reducible refine Kd.C_drew ?_)))
          (case side6 => exact HC1_3.out)
          rintro e w33 ⟨v542, v545, v548, rfl, ho0, ho1, ho2, hb⟩
          refine ⟨_, rfl, ?_⟩
          have HO543 := Aside0.mk (Kd.R_lower (Kd.R_new' ho0 (Kd.R_lt (ro HO533))) (below_size (hbx HB)))
          replace HO533 := Aside0.mk (Kd.R_elder' (ro HO533) (Kd.R_base ho0) hb)
          have HO546 := Aside0.mk (Kd.R_lower (Kd.R_new' (Kd.R_new' ho1 (Kd.R_lt (ro HO536))) (Kd.R_lt (ro HO539))) (below_size (hbx HB)))
          have HO549 := Aside0.mk (Kd.R_lower (Kd.R_new' (Kd.R_new' ho2 (Kd.R_lt (ro HO536))) (Kd.R_lt (ro HO539))) (below_size (hbx HB)))
          replace HO536 := Aside0.mk (Kd.R_mono (Kd.R_told (Kd.R_told (Kd.R_old (ro HO536) hb) (Kd.R_base ho1)) (Kd.R_base ho2)) (fun _ h_ => h_.1))
          replace HO539 := Aside0.mk (Kd.R_mono (Kd.R_told (Kd.R_told (Kd.R_old (ro HO539) hb) (Kd.R_base ho1)) (Kd.R_base ho2)) (fun _ h_ => h_.1))
          replace BK525 := bkB BK525 hb
          replace BK526 := bkB BK526 hb
          replace HB := hbS HB hb
          (try clear hb)
          (try clear hb2)
          (try clear hk)
          (try clear hi)
          (try clear ho0)
          (try clear ho1)
          (try clear ho2)
          obtain ⟨Ao34, co34, eo34⟩ := Kd.R_slice HO533.out
          (first | subst eo34 | (injection eo34 with f1_ f2_ f3_; have f4_ := f1_.symm; have f5_ := f3_.symm; clear f1_ f2_ f3_; subst f4_; subst f5_))
          obtain ⟨Ao35, co35, eo35⟩ := Kd.R_slice HO536.out
          (first | subst eo35 | (injection eo35 with f1_ f2_ f3_; have f4_ := f1_.symm; have f5_ := f3_.symm; clear f1_ f2_ f3_; subst f4_; subst f5_))
          obtain ⟨Ao36, co36, eo36⟩ := Kd.R_slice HO539.out
          (first | subst eo36 | (injection eo36 with f1_ f2_ f3_; have f4_ := f1_.symm; have f5_ := f3_.symm; clear f1_ f2_ f3_; subst f4_; subst f5_))
          obtain ⟨Ao37, co37, eo37⟩ := Kd.R_slice HO543.out
          (first | subst eo37 | (injection eo37 with f1_ f2_ f3_; have f4_ := f1_.symm; have f5_ := f3_.symm; clear f1_ f2_ f3_; subst f4_; subst f5_))
          obtain ⟨Ao38, co38, eo38⟩ := Kd.R_slice HO546.out
          (first | subst eo38 | (injection eo38 with f1_ f2_ f3_; have f4_ := f1_.symm; have f5_ := f3_.symm; clear f1_ f2_ f3_; subst f4_; subst f5_))
          obtain ⟨Ao39, co39, eo39⟩ := Kd.R_slice HO549.out
          (first | subst eo39 | (injection eo39 with f1_ f2_ f3_; have f4_ := f1_.symm; have f5_ := f3_.symm; clear f1_ f2_ f3_; subst f4_; subst f5_))
          refine hK.out _ _ ⟨(blk_cell BK525.out 0).trans rfl, (blk_cell BK525.out 1).trans rfl, (blk_cell BK525.out 2).trans rfl, (blk_cell BK525.out 3).trans rfl, (blk_cell BK526.out 0).trans rfl, (blk_cell BK526.out 1).trans rfl, (blk_cell BK526.out 2).trans rfl, (blk_cell BK526.out 3).trans rfl⟩ (fun hHeld => ?_)
          clear hK K
          refine nrm (some 23) ?_
          refine two_ (i := 4) (j := 8) (Ni := some 24) (Nj := some 5) #[true, true, true, true, true, false, false, false, false, false, false] #[true, true, true, true, false, false, false, false, true, false, false] rfl rfl rfl rfl (two_of HT_.out (by kernel_rfl)) (by decide) (by decide) (fun K hK => ?_) (fun K hK => ?_)
          ·skip
           refine goes_ Try.func28 (by kernel_rfl) rfl #[.agg #[.int .i64 t530, .slice Ao34 t531.length co34, .slice Ao35 t534.length co35, .slice Ao36 t537.length co36], .agg #[.int .i64 t540, .slice Ao37 t541.length co37, .slice Ao38 t544.length co38, .slice Ao39 t547.length co39]] (by rfl) rfl rfl sma ?_
           with_reducible refine (quality_Merge.calls kj4 t530 _ _ t531 _ _ t534 _ _ t537 t540 _ _ t541 _ _ t544 _ _ t547 t550 t551 t554 t557 t560 _ ?side1 ?side2 ?side3 ?side4 ?side5 ?side6 ?side7 ?side8 ?side9 ?side10 ?side11 ?side12 A23.out).mono ?_
           (case side1 => repeat (first | exact (Kd.R_reads' HO533.out).2.2 | (with_reducible refine Kd.C_alloc ?_ _) | (with_reducible refine Kd.C_drewN ?_ _) | (with_reducible refine Kd.C_drew ?_)))
           (case side2 => exact (Kd.R_reads' HO533.out).2.1)
           (case side3 => repeat (first | exact (Kd.R_reads' HO536.out).2.2 | (with_reducible refine Kd.C_alloc ?_ _) | (with_reducible refine Kd.C_drewN ?_ _) | (with_reducible refine Kd.C_drew ?_)))
           (case side4 => exact (Kd.R_reads' HO536.out).2.1)
           (case side5 => repeat (first | exact (Kd.R_reads' HO539.out).2.2 | (with_reducible refine Kd.C_alloc ?_ _) | (with_reducible refine Kd.C_drewN ?_ _) | (with_reducible refine Kd.C_drew ?_)))
           (case side6 => exact (Kd.R_reads' HO539.out).2.1)
           (case side7 => repeat (first | exact (Kd.R_reads' HO543.out).2.2 | (with_reducible refine Kd.C_alloc ?_ _) | (with_reducible refine Kd.C_drewN ?_ _) | (with_reducible refine Kd.C_drew ?_)))
           (case side8 => exact (Kd.R_reads' HO543.out).2.1)
           (case side9 => repeat (first | exact (Kd.R_reads' HO546.out).2.2 | (with_reducible refine Kd.C_alloc ?_ _) | (with_reducible refine Kd.C_drewN ?_ _) | (with_reducible refine Kd.C_drew ?_)))
           (case side10 => exact (Kd.R_reads' HO546.out).2.1)
           (case side11 => repeat (first | exact (Kd.R_reads' HO549.out).2.2 | (with_reducible refine Kd.C_alloc ?_ _) | (with_reducible refine Kd.C_drewN ?_ _) | (with_reducible refine Kd.C_drew ?_)))
           (case side12 => exact (Kd.R_reads' HO549.out).2.1)
           rintro e w40 ⟨v552, v555, v558, rfl, ho0, ho1, ho2, hb⟩
           refine ⟨_, rfl, ?_⟩
           have HO553 := Aside0.mk (Kd.R_lower (Kd.R_new' (Kd.R_new' ho0 (Kd.R_lt (ro HO533))) (Kd.R_lt (ro HO543))) (below_size (hbx HB)))
           replace HO533 := Aside0.mk (Kd.R_elder' (ro HO533) (Kd.R_base ho0) hb)
           replace HO543 := Aside0.mk (Kd.R_elder' (ro HO543) (Kd.R_base ho0) hb)
           have HO556 := Aside0.mk (Kd.R_lower (Kd.R_new' (Kd.R_new' (Kd.R_new' (Kd.R_new' ho1 (Kd.R_lt (ro HO536))) (Kd.R_lt (ro HO539))) (Kd.R_lt (ro HO546))) (Kd.R_lt (ro HO549))) (below_size (hbx HB)))
           have HO559 := Aside0.mk (Kd.R_lower (Kd.R_new' (Kd.R_new' (Kd.R_new' (Kd.R_new' ho2 (Kd.R_lt (ro HO536))) (Kd.R_lt (ro HO539))) (Kd.R_lt (ro HO546))) (Kd.R_lt (ro HO549))) (below_size (hbx HB)))
           replace HO536 := Aside0.mk (Kd.R_mono (Kd.R_told (Kd.R_told (Kd.R_old (ro HO536) hb) (Kd.R_base ho1)) (Kd.R_base ho2)) (fun _ h_ => h_.1))
           replace HO539 := Aside0.mk (Kd.R_mono (Kd.R_told (Kd.R_told (Kd.R_old (ro HO539) hb) (Kd.R_base ho1)) (Kd.R_base ho2)) (fun _ h_ => h_.1))
           replace HO546 := Aside0.mk (Kd.R_mono (Kd.R_told (Kd.R_told (Kd.R_old (ro HO546) hb) (Kd.R_base ho1)) (Kd.R_base ho2)) (fun _ h_ => h_.1))
           replace HO549 := Aside0.mk (Kd.R_mono (Kd.R_told (Kd.R_told (Kd.R_old (ro HO549) hb) (Kd.R_base ho1)) (Kd.R_base ho2)) (fun _ h_ => h_.1))
           replace BK525 := bkB BK525 hb
           replace BK526 := bkB BK526 hb
           replace HB := hbS HB hb
           (try clear hb)
           (try clear hb2)
           (try clear hk)
           (try clear hi)
           (try clear ho0)
           (try clear ho1)
           (try clear ho2)
           refine hK.out _ _ ⟨(blk_cell BK525.out 0).trans rfl, (blk_cell BK525.out 1).trans rfl, (blk_cell BK525.out 2).trans rfl, (blk_cell BK525.out 3).trans rfl, (blk_cell BK526.out 0).trans rfl, (blk_cell BK526.out 1).trans rfl, (blk_cell BK526.out 2).trans rfl, (blk_cell BK526.out 3).trans rfl⟩ (fun hHeld => ?_)
           clear hK K
           refine nrm (some 24) ?_
           refine pur 5 (some 19) #[true, true, true, true, true, true, false, false, false, false, false] HT_ ?_
           refine pur 6 (some 25) #[true, true, true, true, true, true, true, false, false, false, false] HT_ ?_
           refine pur 7 (some 26) #[true, true, true, true, true, true, true, true, false, false, false] HT_ ?_
           refine one_ (i := 8) (N := some 5) #[true, true, true, true, true, true, true, true, true, false, false] rfl rfl (one_of HT_.out (by kernel_rfl)) (by decide) (fun K hK => ?_)
           refine boxS 5 #[.int .i64 0, .slice none 0 0, .slice none 0 0, .slice none 0 0] 25 ?_
           intro gb561 hg w41 hbox hb
           replace HO533 := rB HO533 hb
           replace HO536 := rB HO536 hb
           replace HO539 := rB HO539 hb
           replace HO543 := rB HO543 hb
           replace HO546 := rB HO546 hb
           replace HO549 := rB HO549 hb
           replace HO553 := rB HO553 hb
           replace HO556 := rB HO556 hb
           replace HO559 := rB HO559 hb
           have BK561 := Aside0.mk (hbox)
           have GW561 := gw hg HB
           have GE561 := gw hg HB
           replace HB := hbS HB hb
           have NB525_561 := nbl hg BK525
           have NB561_525 := nbg hg BK525
           replace BK525 := bkB BK525 hb
           have NB526_561 := nbl hg BK526
           have NB561_526 := nbg hg BK526
           replace BK526 := bkB BK526 hb
           clear hb hbox hg
           refine hK.out _ _ ⟨(blk_cell BK525.out 0).trans rfl, (blk_cell BK525.out 1).trans rfl, (blk_cell BK525.out 2).trans rfl, (blk_cell BK525.out 3).trans rfl, (blk_cell BK526.out 0).trans rfl, (blk_cell BK526.out 1).trans rfl, (blk_cell BK526.out 2).trans rfl, (blk_cell BK526.out 3).trans rfl⟩ (fun hHeld => ?_)
           clear hK K
           refine nrm (some 5) ?_
           exact npu (hCont (.slice Ao34 t531.length co34, .slice Ao35 t534.length co35, .slice Ao36 t537.length co36, .slice Ao37 t541.length co37, .slice Ao38 t544.length co38, .slice Ao39 t547.length co39, v552, v555, v558, gb561) _ ⟨hHeld, (by (with_reducible repeat (first | apply Kd.R_alloc | apply Kd.R_drewN | apply Kd.R_drew)); exact Kd.R_mono HO533.out (fun _ hk => ⟨hk.1.2, hk.2⟩)), (by (with_reducible repeat (first | apply Kd.R_alloc | apply Kd.R_drewN | apply Kd.R_drew)); exact Kd.R_mono HO536.out (fun _ hk => ⟨hk.1.1.1.1, ⟨hk.1.1.1.2, ⟨hk.1.1.2, ⟨hk.1.2, hk.2⟩⟩⟩⟩)), (by (with_reducible repeat (first | apply Kd.R_alloc | apply Kd.R_drewN | apply Kd.R_drew)); exact Kd.R_mono HO539.out (fun _ hk => ⟨hk.1.1.1.1, ⟨hk.1.1.1.2, ⟨hk.1.1.2, ⟨hk.1.2, hk.2⟩⟩⟩⟩)), (by (with_reducible repeat (first | apply Kd.R_alloc | apply Kd.R_drewN | apply Kd.R_drew)); exact Kd.R_mono HO543.out (fun _ hk => ⟨hk.1.2, hk.2⟩)), (by (with_reducible repeat (first | apply Kd.R_alloc | apply Kd.R_drewN | apply Kd.R_drew)); exact Kd.R_mono HO546.out (fun _ hk => ⟨hk.1.1.1.2, ⟨hk.1.1.2, ⟨hk.1.1.1.1, ⟨hk.1.2, hk.2⟩⟩⟩⟩)), (by (with_reducible repeat (first | apply Kd.R_alloc | apply Kd.R_drewN | apply Kd.R_drew)); exact Kd.R_mono HO549.out (fun _ hk => ⟨hk.1.1.1.2, ⟨hk.1.1.2, ⟨hk.1.1.1.1, ⟨hk.1.2, hk.2⟩⟩⟩⟩)), (by (with_reducible repeat (first | apply Kd.R_alloc | apply Kd.R_drewN | apply Kd.R_drew)); exact Kd.R_mono HO553.out (fun _ hk => ⟨hk.1.2, hk.2⟩)), (by (with_reducible repeat (first | apply Kd.R_alloc | apply Kd.R_drewN | apply Kd.R_drew)); exact Kd.R_mono HO556.out (fun _ hk => ⟨hk.1.1.1.2, ⟨hk.1.1.2, ⟨hk.1.2, ⟨hk.2, hk.1.1.1.1⟩⟩⟩⟩)), (by (with_reducible repeat (first | apply Kd.R_alloc | apply Kd.R_drewN | apply Kd.R_drew)); exact Kd.R_mono HO559.out (fun _ hk => ⟨hk.1.1.1.2, ⟨hk.1.1.2, ⟨hk.1.2, ⟨hk.2, hk.1.1.1.1⟩⟩⟩⟩)), (bk BK525), (bk BK526), (bk BK561), GW561.out, GE561.out, NB525_561.out, NB561_525.out, NB526_561.out, NB561_526.out, (hbx HB)⟩)
          ·skip
           refine boxS 5 #[.int .i64 0, .slice none 0 0, .slice none 0 0, .slice none 0 0] 25 ?_
           intro gb561 hg w34 hbox hb
           replace HO533 := rB HO533 hb
           replace HO536 := rB HO536 hb
           replace HO539 := rB HO539 hb
           replace HO543 := rB HO543 hb
           replace HO546 := rB HO546 hb
           replace HO549 := rB HO549 hb
           have BK561 := Aside0.mk (hbox)
           have GW561 := gw hg HB
           have GE561 := gw hg HB
           replace HB := hbS HB hb
           have NB525_561 := nbl hg BK525
           have NB561_525 := nbg hg BK525
           replace BK525 := bkB BK525 hb
           have NB526_561 := nbl hg BK526
           have NB561_526 := nbg hg BK526
           replace BK526 := bkB BK526 hb
           clear hb hbox hg
           obtain ⟨Ao35, co35, eo35⟩ := Kd.R_slice HO533.out
           (first | subst eo35 | (injection eo35 with f1_ f2_ f3_; have f4_ := f1_.symm; have f5_ := f3_.symm; clear f1_ f2_ f3_; subst f4_; subst f5_))
           obtain ⟨Ao36, co36, eo36⟩ := Kd.R_slice HO536.out
           (first | subst eo36 | (injection eo36 with f1_ f2_ f3_; have f4_ := f1_.symm; have f5_ := f3_.symm; clear f1_ f2_ f3_; subst f4_; subst f5_))
           obtain ⟨Ao37, co37, eo37⟩ := Kd.R_slice HO539.out
           (first | subst eo37 | (injection eo37 with f1_ f2_ f3_; have f4_ := f1_.symm; have f5_ := f3_.symm; clear f1_ f2_ f3_; subst f4_; subst f5_))
           obtain ⟨Ao38, co38, eo38⟩ := Kd.R_slice HO543.out
           (first | subst eo38 | (injection eo38 with f1_ f2_ f3_; have f4_ := f1_.symm; have f5_ := f3_.symm; clear f1_ f2_ f3_; subst f4_; subst f5_))
           obtain ⟨Ao39, co39, eo39⟩ := Kd.R_slice HO546.out
           (first | subst eo39 | (injection eo39 with f1_ f2_ f3_; have f4_ := f1_.symm; have f5_ := f3_.symm; clear f1_ f2_ f3_; subst f4_; subst f5_))
           obtain ⟨Ao40, co40, eo40⟩ := Kd.R_slice HO549.out
           (first | subst eo40 | (injection eo40 with f1_ f2_ f3_; have f4_ := f1_.symm; have f5_ := f3_.symm; clear f1_ f2_ f3_; subst f4_; subst f5_))
           refine hK.out _ _ ⟨(blk_cell BK525.out 0).trans rfl, (blk_cell BK525.out 1).trans rfl, (blk_cell BK525.out 2).trans rfl, (blk_cell BK525.out 3).trans rfl, (blk_cell BK526.out 0).trans rfl, (blk_cell BK526.out 1).trans rfl, (blk_cell BK526.out 2).trans rfl, (blk_cell BK526.out 3).trans rfl⟩ (fun hHeld => ?_)
           clear hK K
           refine nrm (some 5) ?_
           refine one_ (i := 4) (N := some 24) #[true, true, true, true, true, false, false, false, true, false, false] rfl rfl (one_of HT_.out (by kernel_rfl)) (by decide) (fun K hK => ?_)
           refine goes_ Try.func28 (by kernel_rfl) rfl #[.agg #[.int .i64 t530, .slice Ao35 t531.length co35, .slice Ao36 t534.length co36, .slice Ao37 t537.length co37], .agg #[.int .i64 t540, .slice Ao38 t541.length co38, .slice Ao39 t544.length co39, .slice Ao40 t547.length co40]] (by rfl) rfl rfl sma ?_
           with_reducible refine (quality_Merge.calls kj4 t530 _ _ t531 _ _ t534 _ _ t537 t540 _ _ t541 _ _ t544 _ _ t547 t550 t551 t554 t557 t560 _ ?side1 ?side2 ?side3 ?side4 ?side5 ?side6 ?side7 ?side8 ?side9 ?side10 ?side11 ?side12 A23.out).mono ?_
           (case side1 => repeat (first | exact (Kd.R_reads' HO533.out).2.2 | (with_reducible refine Kd.C_alloc ?_ _) | (with_reducible refine Kd.C_drewN ?_ _) | (with_reducible refine Kd.C_drew ?_)))
           (case side2 => exact (Kd.R_reads' HO533.out).2.1)
           (case side3 => repeat (first | exact (Kd.R_reads' HO536.out).2.2 | (with_reducible refine Kd.C_alloc ?_ _) | (with_reducible refine Kd.C_drewN ?_ _) | (with_reducible refine Kd.C_drew ?_)))
           (case side4 => exact (Kd.R_reads' HO536.out).2.1)
           (case side5 => repeat (first | exact (Kd.R_reads' HO539.out).2.2 | (with_reducible refine Kd.C_alloc ?_ _) | (with_reducible refine Kd.C_drewN ?_ _) | (with_reducible refine Kd.C_drew ?_)))
           (case side6 => exact (Kd.R_reads' HO539.out).2.1)
           (case side7 => repeat (first | exact (Kd.R_reads' HO543.out).2.2 | (with_reducible refine Kd.C_alloc ?_ _) | (with_reducible refine Kd.C_drewN ?_ _) | (with_reducible refine Kd.C_drew ?_)))
           (case side8 => exact (Kd.R_reads' HO543.out).2.1)
           (case side9 => repeat (first | exact (Kd.R_reads' HO546.out).2.2 | (with_reducible refine Kd.C_alloc ?_ _) | (with_reducible refine Kd.C_drewN ?_ _) | (with_reducible refine Kd.C_drew ?_)))
           (case side10 => exact (Kd.R_reads' HO546.out).2.1)
           (case side11 => repeat (first | exact (Kd.R_reads' HO549.out).2.2 | (with_reducible refine Kd.C_alloc ?_ _) | (with_reducible refine Kd.C_drewN ?_ _) | (with_reducible refine Kd.C_drew ?_)))
           (case side12 => exact (Kd.R_reads' HO549.out).2.1)
           rintro e w41 ⟨v552, v555, v558, rfl, ho0, ho1, ho2, hb⟩
           refine ⟨_, rfl, ?_⟩
           have HO553 := Aside0.mk (Kd.R_lower (Kd.R_new' (Kd.R_new' ho0 (Kd.R_lt (ro HO533))) (Kd.R_lt (ro HO543))) (below_size (hbx HB)))
           replace HO533 := Aside0.mk (Kd.R_elder' (ro HO533) (Kd.R_base ho0) hb)
           replace HO543 := Aside0.mk (Kd.R_elder' (ro HO543) (Kd.R_base ho0) hb)
           have HO556 := Aside0.mk (Kd.R_lower (Kd.R_new' (Kd.R_new' (Kd.R_new' (Kd.R_new' ho1 (Kd.R_lt (ro HO536))) (Kd.R_lt (ro HO539))) (Kd.R_lt (ro HO546))) (Kd.R_lt (ro HO549))) (below_size (hbx HB)))
           have HO559 := Aside0.mk (Kd.R_lower (Kd.R_new' (Kd.R_new' (Kd.R_new' (Kd.R_new' ho2 (Kd.R_lt (ro HO536))) (Kd.R_lt (ro HO539))) (Kd.R_lt (ro HO546))) (Kd.R_lt (ro HO549))) (below_size (hbx HB)))
           replace HO536 := Aside0.mk (Kd.R_mono (Kd.R_told (Kd.R_told (Kd.R_old (ro HO536) hb) (Kd.R_base ho1)) (Kd.R_base ho2)) (fun _ h_ => h_.1))
           replace HO539 := Aside0.mk (Kd.R_mono (Kd.R_told (Kd.R_told (Kd.R_old (ro HO539) hb) (Kd.R_base ho1)) (Kd.R_base ho2)) (fun _ h_ => h_.1))
           replace HO546 := Aside0.mk (Kd.R_mono (Kd.R_told (Kd.R_told (Kd.R_old (ro HO546) hb) (Kd.R_base ho1)) (Kd.R_base ho2)) (fun _ h_ => h_.1))
           replace HO549 := Aside0.mk (Kd.R_mono (Kd.R_told (Kd.R_told (Kd.R_old (ro HO549) hb) (Kd.R_base ho1)) (Kd.R_base ho2)) (fun _ h_ => h_.1))
           replace BK525 := bkB BK525 hb
           replace BK526 := bkB BK526 hb
           replace BK561 := bkB BK561 hb
           replace HB := hbS HB hb
           (try clear hb)
           (try clear hb2)
           (try clear hk)
           (try clear hi)
           (try clear ho0)
           (try clear ho1)
           (try clear ho2)
           refine hK.out _ _ ⟨(blk_cell BK525.out 0).trans rfl, (blk_cell BK525.out 1).trans rfl, (blk_cell BK525.out 2).trans rfl, (blk_cell BK525.out 3).trans rfl, (blk_cell BK526.out 0).trans rfl, (blk_cell BK526.out 1).trans rfl, (blk_cell BK526.out 2).trans rfl, (blk_cell BK526.out 3).trans rfl⟩ (fun hHeld => ?_)
           clear hK K
           refine nrm (some 24) ?_
           refine pur 5 (some 19) #[true, true, true, true, true, true, false, false, true, false, false] HT_ ?_
           refine pur 6 (some 25) #[true, true, true, true, true, true, true, false, true, false, false] HT_ ?_
           refine pur 7 (some 26) #[true, true, true, true, true, true, true, true, true, false, false] HT_ ?_
           exact npu (hCont (.slice Ao35 t531.length co35, .slice Ao36 t534.length co36, .slice Ao37 t537.length co37, .slice Ao38 t541.length co38, .slice Ao39 t544.length co39, .slice Ao40 t547.length co40, v552, v555, v558, gb561) _ ⟨hHeld, (by (with_reducible repeat (first | apply Kd.R_alloc | apply Kd.R_drewN | apply Kd.R_drew)); exact Kd.R_mono HO533.out (fun _ hk => ⟨hk.1.2, hk.2⟩)), (by (with_reducible repeat (first | apply Kd.R_alloc | apply Kd.R_drewN | apply Kd.R_drew)); exact Kd.R_mono HO536.out (fun _ hk => ⟨hk.1.1.1.1, ⟨hk.1.1.1.2, ⟨hk.1.1.2, ⟨hk.1.2, hk.2⟩⟩⟩⟩)), (by (with_reducible repeat (first | apply Kd.R_alloc | apply Kd.R_drewN | apply Kd.R_drew)); exact Kd.R_mono HO539.out (fun _ hk => ⟨hk.1.1.1.1, ⟨hk.1.1.1.2, ⟨hk.1.1.2, ⟨hk.1.2, hk.2⟩⟩⟩⟩)), (by (with_reducible repeat (first | apply Kd.R_alloc | apply Kd.R_drewN | apply Kd.R_drew)); exact Kd.R_mono HO543.out (fun _ hk => ⟨hk.1.2, hk.2⟩)), (by (with_reducible repeat (first | apply Kd.R_alloc | apply Kd.R_drewN | apply Kd.R_drew)); exact Kd.R_mono HO546.out (fun _ hk => ⟨hk.1.1.1.2, ⟨hk.1.1.2, ⟨hk.1.1.1.1, ⟨hk.1.2, hk.2⟩⟩⟩⟩)), (by (with_reducible repeat (first | apply Kd.R_alloc | apply Kd.R_drewN | apply Kd.R_drew)); exact Kd.R_mono HO549.out (fun _ hk => ⟨hk.1.1.1.2, ⟨hk.1.1.2, ⟨hk.1.1.1.1, ⟨hk.1.2, hk.2⟩⟩⟩⟩)), (by (with_reducible repeat (first | apply Kd.R_alloc | apply Kd.R_drewN | apply Kd.R_drew)); exact Kd.R_mono HO553.out (fun _ hk => ⟨hk.1.2, hk.2⟩)), (by (with_reducible repeat (first | apply Kd.R_alloc | apply Kd.R_drewN | apply Kd.R_drew)); exact Kd.R_mono HO556.out (fun _ hk => ⟨hk.1.1.1.2, ⟨hk.1.1.2, ⟨hk.1.2, ⟨hk.2, hk.1.1.1.1⟩⟩⟩⟩)), (by (with_reducible repeat (first | apply Kd.R_alloc | apply Kd.R_drewN | apply Kd.R_drew)); exact Kd.R_mono HO559.out (fun _ hk => ⟨hk.1.1.1.2, ⟨hk.1.1.2, ⟨hk.1.2, ⟨hk.2, hk.1.1.1.1⟩⟩⟩⟩)), (bk BK525), (bk BK526), (bk BK561), GW561.out, GE561.out, NB525_561.out, NB561_525.out, NB526_561.out, NB561_526.out, (hbx HB)⟩)
         ·skip
          refine boxS 5 #[.int .i64 0, .slice none 0 0, .slice none 0 0, .slice none 0 0] 25 ?_
          intro gb561 hg w33 hbox hb
          replace HO533 := rB HO533 hb
          replace HO536 := rB HO536 hb
          replace HO539 := rB HO539 hb
          have BK561 := Aside0.mk (hbox)
          have GW561 := gw hg HB
          have GE561 := gw hg HB
          replace HB := hbS HB hb
          have NB525_561 := nbl hg BK525
          have NB561_525 := nbg hg BK525
          replace BK525 := bkB BK525 hb
          have NB526_561 := nbl hg BK526
          have NB561_526 := nbg hg BK526
          replace BK526 := bkB BK526 hb
          clear hb hbox hg
          refine hK.out _ _ ⟨(blk_cell BK525.out 0).trans rfl, (blk_cell BK525.out 1).trans rfl, (blk_cell BK525.out 2).trans rfl, (blk_cell BK525.out 3).trans rfl, (blk_cell BK526.out 0).trans rfl, (blk_cell BK526.out 1).trans rfl, (blk_cell BK526.out 2).trans rfl, (blk_cell BK526.out 3).trans rfl⟩ (fun hHeld => ?_)
          clear hK K
          refine nrm (some 5) ?_
          refine one_ (i := 3) (N := some 23) #[true, true, true, true, false, false, false, false, true, false, false] rfl rfl (one_of HT_.out (by kernel_rfl)) (by decide) (fun K hK => ?_)
          refine goes_ Try.func13 (by kernel_rfl) rfl #[.agg #[.int .i64 a1_0, .slice A1_1 l1_1.length c1_1, .slice A1_2 l1_2.length c1_2, .slice A1_3 l1_3.length c1_3]] (by rfl) rfl rfl sma ?_
          with_reducible refine (hopmeshref12_Copy.calls a1_0 _ _ l1_1 _ _ l1_2 _ _ l1_3 t540 t541 t544 t547 _ ?side1 ?side2 ?side3 ?side4 ?side5 ?side6 A22.out).mono ?_
          (case side1 => repeat (first | exact (Kd.C_below HR1_1.out HB.out) | (with_reducible refine Kd.C_alloc ?_ _) | (with_reducible refine Kd.C_drewN ?_ _) | (with_reducible refine Kd.C_drew ?_)))
          (case side2 => exact HC1_1.out)
          (case side3 => repeat (first | exact (Kd.C_below HR1_2.out HB.out) | (with_reducible refine Kd.C_alloc ?_ _) | (with_reducible refine Kd.C_drewN ?_ _) | (with_reducible refine Kd.C_drew ?_)))
          (case side4 => exact HC1_2.out)
          (case side5 => repeat (first | exact (Kd.C_below HR1_3.out HB.out) | (with_reducible refine Kd.C_alloc ?_ _) | (with_reducible refine Kd.C_drewN ?_ _) | (with_reducible refine Kd.C_drew ?_)))
          (case side6 => exact HC1_3.out)
          rintro e w34 ⟨v542, v545, v548, rfl, ho0, ho1, ho2, hb⟩
          refine ⟨_, rfl, ?_⟩
          have HO543 := Aside0.mk (Kd.R_lower (Kd.R_new' ho0 (Kd.R_lt (ro HO533))) (below_size (hbx HB)))
          replace HO533 := Aside0.mk (Kd.R_elder' (ro HO533) (Kd.R_base ho0) hb)
          have HO546 := Aside0.mk (Kd.R_lower (Kd.R_new' (Kd.R_new' ho1 (Kd.R_lt (ro HO536))) (Kd.R_lt (ro HO539))) (below_size (hbx HB)))
          have HO549 := Aside0.mk (Kd.R_lower (Kd.R_new' (Kd.R_new' ho2 (Kd.R_lt (ro HO536))) (Kd.R_lt (ro HO539))) (below_size (hbx HB)))
          replace HO536 := Aside0.mk (Kd.R_mono (Kd.R_told (Kd.R_told (Kd.R_old (ro HO536) hb) (Kd.R_base ho1)) (Kd.R_base ho2)) (fun _ h_ => h_.1))
          replace HO539 := Aside0.mk (Kd.R_mono (Kd.R_told (Kd.R_told (Kd.R_old (ro HO539) hb) (Kd.R_base ho1)) (Kd.R_base ho2)) (fun _ h_ => h_.1))
          replace BK525 := bkB BK525 hb
          replace BK526 := bkB BK526 hb
          replace BK561 := bkB BK561 hb
          replace HB := hbS HB hb
          (try clear hb)
          (try clear hb2)
          (try clear hk)
          (try clear hi)
          (try clear ho0)
          (try clear ho1)
          (try clear ho2)
          obtain ⟨Ao35, co35, eo35⟩ := Kd.R_slice HO533.out
          (first | subst eo35 | (injection eo35 with f1_ f2_ f3_; have f4_ := f1_.symm; have f5_ := f3_.symm; clear f1_ f2_ f3_; subst f4_; subst f5_))
          obtain ⟨Ao36, co36, eo36⟩ := Kd.R_slice HO536.out
          (first | subst eo36 | (injection eo36 with f1_ f2_ f3_; have f4_ := f1_.symm; have f5_ := f3_.symm; clear f1_ f2_ f3_; subst f4_; subst f5_))
          obtain ⟨Ao37, co37, eo37⟩ := Kd.R_slice HO539.out
          (first | subst eo37 | (injection eo37 with f1_ f2_ f3_; have f4_ := f1_.symm; have f5_ := f3_.symm; clear f1_ f2_ f3_; subst f4_; subst f5_))
          obtain ⟨Ao38, co38, eo38⟩ := Kd.R_slice HO543.out
          (first | subst eo38 | (injection eo38 with f1_ f2_ f3_; have f4_ := f1_.symm; have f5_ := f3_.symm; clear f1_ f2_ f3_; subst f4_; subst f5_))
          obtain ⟨Ao39, co39, eo39⟩ := Kd.R_slice HO546.out
          (first | subst eo39 | (injection eo39 with f1_ f2_ f3_; have f4_ := f1_.symm; have f5_ := f3_.symm; clear f1_ f2_ f3_; subst f4_; subst f5_))
          obtain ⟨Ao40, co40, eo40⟩ := Kd.R_slice HO549.out
          (first | subst eo40 | (injection eo40 with f1_ f2_ f3_; have f4_ := f1_.symm; have f5_ := f3_.symm; clear f1_ f2_ f3_; subst f4_; subst f5_))
          refine hK.out _ _ ⟨(blk_cell BK525.out 0).trans rfl, (blk_cell BK525.out 1).trans rfl, (blk_cell BK525.out 2).trans rfl, (blk_cell BK525.out 3).trans rfl, (blk_cell BK526.out 0).trans rfl, (blk_cell BK526.out 1).trans rfl, (blk_cell BK526.out 2).trans rfl, (blk_cell BK526.out 3).trans rfl⟩ (fun hHeld => ?_)
          clear hK K
          refine nrm (some 23) ?_
          refine one_ (i := 4) (N := some 24) #[true, true, true, true, true, false, false, false, true, false, false] rfl rfl (one_of HT_.out (by kernel_rfl)) (by decide) (fun K hK => ?_)
          refine goes_ Try.func28 (by kernel_rfl) rfl #[.agg #[.int .i64 t530, .slice Ao35 t531.length co35, .slice Ao36 t534.length co36, .slice Ao37 t537.length co37], .agg #[.int .i64 t540, .slice Ao38 t541.length co38, .slice Ao39 t544.length co39, .slice Ao40 t547.length co40]] (by rfl) rfl rfl sma ?_
          with_reducible refine (quality_Merge.calls kj4 t530 _ _ t531 _ _ t534 _ _ t537 t540 _ _ t541 _ _ t544 _ _ t547 t550 t551 t554 t557 t560 _ ?side1 ?side2 ?side3 ?side4 ?side5 ?side6 ?side7 ?side8 ?side9 ?side10 ?side11 ?side12 A23.out).mono ?_
          (case side1 => repeat (first | exact (Kd.R_reads' HO533.out).2.2 | (with_reducible refine Kd.C_alloc ?_ _) | (with_reducible refine Kd.C_drewN ?_ _) | (with_reducible refine Kd.C_drew ?_)))
          (case side2 => exact (Kd.R_reads' HO533.out).2.1)
          (case side3 => repeat (first | exact (Kd.R_reads' HO536.out).2.2 | (with_reducible refine Kd.C_alloc ?_ _) | (with_reducible refine Kd.C_drewN ?_ _) | (with_reducible refine Kd.C_drew ?_)))
          (case side4 => exact (Kd.R_reads' HO536.out).2.1)
          (case side5 => repeat (first | exact (Kd.R_reads' HO539.out).2.2 | (with_reducible refine Kd.C_alloc ?_ _) | (with_reducible refine Kd.C_drewN ?_ _) | (with_reducible refine Kd.C_drew ?_)))
          (case side6 => exact (Kd.R_reads' HO539.out).2.1)
          (case side7 => repeat (first | exact (Kd.R_reads' HO543.out).2.2 | (with_reducible refine Kd.C_alloc ?_ _) | (with_reducible refine Kd.C_drewN ?_ _) | (with_reducible refine Kd.C_drew ?_)))
          (case side8 => exact (Kd.R_reads' HO543.out).2.1)
          (case side9 => repeat (first | exact (Kd.R_reads' HO546.out).2.2 | (with_reducible refine Kd.C_alloc ?_ _) | (with_reducible refine Kd.C_drewN ?_ _) | (with_reducible refine Kd.C_drew ?_)))
          (case side10 => exact (Kd.R_reads' HO546.out).2.1)
          (case side11 => repeat (first | exact (Kd.R_reads' HO549.out).2.2 | (with_reducible refine Kd.C_alloc ?_ _) | (with_reducible refine Kd.C_drewN ?_ _) | (with_reducible refine Kd.C_drew ?_)))
          (case side12 => exact (Kd.R_reads' HO549.out).2.1)
          rintro e w41 ⟨v552, v555, v558, rfl, ho0, ho1, ho2, hb⟩
          refine ⟨_, rfl, ?_⟩
          have HO553 := Aside0.mk (Kd.R_lower (Kd.R_new' (Kd.R_new' ho0 (Kd.R_lt (ro HO533))) (Kd.R_lt (ro HO543))) (below_size (hbx HB)))
          replace HO533 := Aside0.mk (Kd.R_elder' (ro HO533) (Kd.R_base ho0) hb)
          replace HO543 := Aside0.mk (Kd.R_elder' (ro HO543) (Kd.R_base ho0) hb)
          have HO556 := Aside0.mk (Kd.R_lower (Kd.R_new' (Kd.R_new' (Kd.R_new' (Kd.R_new' ho1 (Kd.R_lt (ro HO536))) (Kd.R_lt (ro HO539))) (Kd.R_lt (ro HO546))) (Kd.R_lt (ro HO549))) (below_size (hbx HB)))
          have HO559 := Aside0.mk (Kd.R_lower (Kd.R_new' (Kd.R_new' (Kd.R_new' (Kd.R_new' ho2 (Kd.R_lt (ro HO536))) (Kd.R_lt (ro HO539))) (Kd.R_lt (ro HO546))) (Kd.R_lt (ro HO549))) (below_size (hbx HB)))
          replace HO536 := Aside0.mk (Kd.R_mono (Kd.R_told (Kd.R_told (Kd.R_old (ro HO536) hb) (Kd.R_base ho1)) (Kd.R_base ho2)) (fun _ h_ => h_.1))
          replace HO539 := Aside0.mk (Kd.R_mono (Kd.R_told (Kd.R_told (Kd.R_old (ro HO539) hb) (Kd.R_base ho1)) (Kd.R_base ho2)) (fun _ h_ => h_.1))
          replace HO546 := Aside0.mk (Kd.R_mono (Kd.R_told (Kd.R_told (Kd.R_old (ro HO546) hb) (Kd.R_base ho1)) (Kd.R_base ho2)) (fun _ h_ => h_.1))
          replace HO549 := Aside0.mk (Kd.R_mono (Kd.R_told (Kd.R_told (Kd.R_old (ro HO549) hb) (Kd.R_base ho1)) (Kd.R_base ho2)) (fun _ h_ => h_.1))
          replace BK525 := bkB BK525 hb
          replace BK526 := bkB BK526 hb
          replace BK561 := bkB BK561 hb
          replace HB := hbS HB hb
          (try clear hb)
          (try clear hb2)
          (try clear hk)
          (try clear hi)
          (try clear ho0)
          (try clear ho1)
          (try clear ho2)
          refine hK.out _ _ ⟨(blk_cell BK525.out 0).trans rfl, (blk_cell BK525.out 1).trans rfl, (blk_cell BK525.out 2).trans rfl, (blk_cell BK525.out 3).trans rfl, (blk_cell BK526.out 0).trans rfl, (blk_cell BK526.out 1).trans rfl, (blk_cell BK526.out 2).trans rfl, (blk_cell BK526.out 3).trans rfl⟩ (fun hHeld => ?_)
          clear hK K
          refine nrm (some 24) ?_
          refine pur 5 (some 19) #[true, true, true, true, true, true, false, false, true, false, false] HT_ ?_
          refine pur 6 (some 25) #[true, true, true, true, true, true, true, false, true, false, false] HT_ ?_
          refine pur 7 (some 26) #[true, true, true, true, true, true, true, true, true, false, false] HT_ ?_
          exact npu (hCont (.slice Ao35 t531.length co35, .slice Ao36 t534.length co36, .slice Ao37 t537.length co37, .slice Ao38 t541.length co38, .slice Ao39 t544.length co39, .slice Ao40 t547.length co40, v552, v555, v558, gb561) _ ⟨hHeld, (by (with_reducible repeat (first | apply Kd.R_alloc | apply Kd.R_drewN | apply Kd.R_drew)); exact Kd.R_mono HO533.out (fun _ hk => ⟨hk.1.2, hk.2⟩)), (by (with_reducible repeat (first | apply Kd.R_alloc | apply Kd.R_drewN | apply Kd.R_drew)); exact Kd.R_mono HO536.out (fun _ hk => ⟨hk.1.1.1.1, ⟨hk.1.1.1.2, ⟨hk.1.1.2, ⟨hk.1.2, hk.2⟩⟩⟩⟩)), (by (with_reducible repeat (first | apply Kd.R_alloc | apply Kd.R_drewN | apply Kd.R_drew)); exact Kd.R_mono HO539.out (fun _ hk => ⟨hk.1.1.1.1, ⟨hk.1.1.1.2, ⟨hk.1.1.2, ⟨hk.1.2, hk.2⟩⟩⟩⟩)), (by (with_reducible repeat (first | apply Kd.R_alloc | apply Kd.R_drewN | apply Kd.R_drew)); exact Kd.R_mono HO543.out (fun _ hk => ⟨hk.1.2, hk.2⟩)), (by (with_reducible repeat (first | apply Kd.R_alloc | apply Kd.R_drewN | apply Kd.R_drew)); exact Kd.R_mono HO546.out (fun _ hk => ⟨hk.1.1.1.2, ⟨hk.1.1.2, ⟨hk.1.1.1.1, ⟨hk.1.2, hk.2⟩⟩⟩⟩)), (by (with_reducible repeat (first | apply Kd.R_alloc | apply Kd.R_drewN | apply Kd.R_drew)); exact Kd.R_mono HO549.out (fun _ hk => ⟨hk.1.1.1.2, ⟨hk.1.1.2, ⟨hk.1.1.1.1, ⟨hk.1.2, hk.2⟩⟩⟩⟩)), (by (with_reducible repeat (first | apply Kd.R_alloc | apply Kd.R_drewN | apply Kd.R_drew)); exact Kd.R_mono HO553.out (fun _ hk => ⟨hk.1.2, hk.2⟩)), (by (with_reducible repeat (first | apply Kd.R_alloc | apply Kd.R_drewN | apply Kd.R_drew)); exact Kd.R_mono HO556.out (fun _ hk => ⟨hk.1.1.1.2, ⟨hk.1.1.2, ⟨hk.1.2, ⟨hk.2, hk.1.1.1.1⟩⟩⟩⟩)), (by (with_reducible repeat (first | apply Kd.R_alloc | apply Kd.R_drewN | apply Kd.R_drew)); exact Kd.R_mono HO559.out (fun _ hk => ⟨hk.1.1.1.2, ⟨hk.1.1.2, ⟨hk.1.2, ⟨hk.2, hk.1.1.1.1⟩⟩⟩⟩)), (bk BK525), (bk BK526), (bk BK561), GW561.out, GE561.out, NB525_561.out, NB561_525.out, NB526_561.out, NB561_526.out, (hbx HB)⟩)
        ·skip
         refine boxS 5 #[.int .i64 0, .slice none 0 0, .slice none 0 0, .slice none 0 0] 25 ?_
         intro gb561 hg w32 hbox hb
         have BK561 := Aside0.mk (hbox)
         have GW561 := gw hg HB
         have GE561 := gw hg HB
         replace HB := hbS HB hb
         have NB525_561 := nbl hg BK525
         have NB561_525 := nbg hg BK525
         replace BK525 := bkB BK525 hb
         have NB526_561 := nbl hg BK526
         have NB561_526 := nbg hg BK526
         replace BK526 := bkB BK526 hb
         clear hb hbox hg
         refine hK.out _ _ ⟨(blk_cell BK525.out 0).trans rfl, (blk_cell BK525.out 1).trans rfl, (blk_cell BK525.out 2).trans rfl, (blk_cell BK525.out 3).trans rfl, (blk_cell BK526.out 0).trans rfl, (blk_cell BK526.out 1).trans rfl, (blk_cell BK526.out 2).trans rfl, (blk_cell BK526.out 3).trans rfl⟩ (fun hHeld => ?_)
         clear hK K
         refine nrm (some 5) ?_
         refine one_ (i := 1) (N := some 21) #[true, true, true, false, false, false, false, false, true, false, false] rfl rfl (one_of HT_.out (by kernel_rfl)) (by decide) (fun K hK => ?_)
         refine goes_ Try.func13 (by kernel_rfl) rfl #[.agg #[.int .i64 a0_0, .slice A0_1 l0_1.length c0_1, .slice A0_2 l0_2.length c0_2, .slice A0_3 l0_3.length c0_3]] (by rfl) rfl rfl sma ?_
         with_reducible refine (hopmeshref12_Copy.calls a0_0 _ _ l0_1 _ _ l0_2 _ _ l0_3 t530 t531 t534 t537 _ ?side1 ?side2 ?side3 ?side4 ?side5 ?side6 A21.out).mono ?_
         (case side1 => repeat (first | exact (Kd.C_below HR0_1.out HB.out) | (with_reducible refine Kd.C_alloc ?_ _) | (with_reducible refine Kd.C_drewN ?_ _) | (with_reducible refine Kd.C_drew ?_)))
         (case side2 => exact HC0_1.out)
         (case side3 => repeat (first | exact (Kd.C_below HR0_2.out HB.out) | (with_reducible refine Kd.C_alloc ?_ _) | (with_reducible refine Kd.C_drewN ?_ _) | (with_reducible refine Kd.C_drew ?_)))
         (case side4 => exact HC0_2.out)
         (case side5 => repeat (first | exact (Kd.C_below HR0_3.out HB.out) | (with_reducible refine Kd.C_alloc ?_ _) | (with_reducible refine Kd.C_drewN ?_ _) | (with_reducible refine Kd.C_drew ?_)))
         (case side6 => exact HC0_3.out)
         rintro e w33 ⟨v532, v535, v538, rfl, ho0, ho1, ho2, hb⟩
         refine ⟨_, rfl, ?_⟩
         have HO533 := Aside0.mk (Kd.R_lower ho0 (below_size (hbx HB)))
         have HO536 := Aside0.mk (Kd.R_lower ho1 (below_size (hbx HB)))
         have HO539 := Aside0.mk (Kd.R_lower ho2 (below_size (hbx HB)))
         replace BK525 := bkB BK525 hb
         replace BK526 := bkB BK526 hb
         replace BK561 := bkB BK561 hb
         replace HB := hbS HB hb
         (try clear hb)
         (try clear hb2)
         (try clear hk)
         (try clear hi)
         (try clear ho0)
         (try clear ho1)
         (try clear ho2)
         refine hK.out _ _ ⟨(blk_cell BK525.out 0).trans rfl, (blk_cell BK525.out 1).trans rfl, (blk_cell BK525.out 2).trans rfl, (blk_cell BK525.out 3).trans rfl, (blk_cell BK526.out 0).trans rfl, (blk_cell BK526.out 1).trans rfl, (blk_cell BK526.out 2).trans rfl, (blk_cell BK526.out 3).trans rfl⟩ (fun hHeld => ?_)
         clear hK K
         refine nrm (some 21) ?_
         refine one_ (i := 3) (N := some 23) #[true, true, true, true, false, false, false, false, true, false, false] rfl rfl (one_of HT_.out (by kernel_rfl)) (by decide) (fun K hK => ?_)
         refine goes_ Try.func13 (by kernel_rfl) rfl #[.agg #[.int .i64 a1_0, .slice A1_1 l1_1.length c1_1, .slice A1_2 l1_2.length c1_2, .slice A1_3 l1_3.length c1_3]] (by rfl) rfl rfl sma ?_
         with_reducible refine (hopmeshref12_Copy.calls a1_0 _ _ l1_1 _ _ l1_2 _ _ l1_3 t540 t541 t544 t547 _ ?side1 ?side2 ?side3 ?side4 ?side5 ?side6 A22.out).mono ?_
         (case side1 => repeat (first | exact (Kd.C_below HR1_1.out HB.out) | (with_reducible refine Kd.C_alloc ?_ _) | (with_reducible refine Kd.C_drewN ?_ _) | (with_reducible refine Kd.C_drew ?_)))
         (case side2 => exact HC1_1.out)
         (case side3 => repeat (first | exact (Kd.C_below HR1_2.out HB.out) | (with_reducible refine Kd.C_alloc ?_ _) | (with_reducible refine Kd.C_drewN ?_ _) | (with_reducible refine Kd.C_drew ?_)))
         (case side4 => exact HC1_2.out)
         (case side5 => repeat (first | exact (Kd.C_below HR1_3.out HB.out) | (with_reducible refine Kd.C_alloc ?_ _) | (with_reducible refine Kd.C_drewN ?_ _) | (with_reducible refine Kd.C_drew ?_)))
         (case side6 => exact HC1_3.out)
         rintro e w34 ⟨v542, v545, v548, rfl, ho0, ho1, ho2, hb⟩
         refine ⟨_, rfl, ?_⟩
         have HO543 := Aside0.mk (Kd.R_lower (Kd.R_new' ho0 (Kd.R_lt (ro HO533))) (below_size (hbx HB)))
         replace HO533 := Aside0.mk (Kd.R_elder' (ro HO533) (Kd.R_base ho0) hb)
         have HO546 := Aside0.mk (Kd.R_lower (Kd.R_new' (Kd.R_new' ho1 (Kd.R_lt (ro HO536))) (Kd.R_lt (ro HO539))) (below_size (hbx HB)))
         have HO549 := Aside0.mk (Kd.R_lower (Kd.R_new' (Kd.R_new' ho2 (Kd.R_lt (ro HO536))) (Kd.R_lt (ro HO539))) (below_size (hbx HB)))
         replace HO536 := Aside0.mk (Kd.R_mono (Kd.R_told (Kd.R_told (Kd.R_old (ro HO536) hb) (Kd.R_base ho1)) (Kd.R_base ho2)) (fun _ h_ => h_.1))
         replace HO539 := Aside0.mk (Kd.R_mono (Kd.R_told (Kd.R_told (Kd.R_old (ro HO539) hb) (Kd.R_base ho1)) (Kd.R_base ho2)) (fun _ h_ => h_.1))
         replace BK525 := bkB BK525 hb
         replace BK526 := bkB BK526 hb
         replace BK561 := bkB BK561 hb
         replace HB := hbS HB hb
         (try clear hb)
         (try clear hb2)
         (try clear hk)
         (try clear hi)
         (try clear ho0)
         (try clear ho1)
         (try clear ho2)
         obtain ⟨Ao35, co35, eo35⟩ := Kd.R_slice HO533.out
         (first | subst eo35 | (injection eo35 with f1_ f2_ f3_; have f4_ := f1_.symm; have f5_ := f3_.symm; clear f1_ f2_ f3_; subst f4_; subst f5_))
         obtain ⟨Ao36, co36, eo36⟩ := Kd.R_slice HO536.out
         (first | subst eo36 | (injection eo36 with f1_ f2_ f3_; have f4_ := f1_.symm; have f5_ := f3_.symm; clear f1_ f2_ f3_; subst f4_; subst f5_))
         obtain ⟨Ao37, co37, eo37⟩ := Kd.R_slice HO539.out
         (first | subst eo37 | (injection eo37 with f1_ f2_ f3_; have f4_ := f1_.symm; have f5_ := f3_.symm; clear f1_ f2_ f3_; subst f4_; subst f5_))
         obtain ⟨Ao38, co38, eo38⟩ := Kd.R_slice HO543.out
         (first | subst eo38 | (injection eo38 with f1_ f2_ f3_; have f4_ := f1_.symm; have f5_ := f3_.symm; clear f1_ f2_ f3_; subst f4_; subst f5_))
         obtain ⟨Ao39, co39, eo39⟩ := Kd.R_slice HO546.out
         (first | subst eo39 | (injection eo39 with f1_ f2_ f3_; have f4_ := f1_.symm; have f5_ := f3_.symm; clear f1_ f2_ f3_; subst f4_; subst f5_))
         obtain ⟨Ao40, co40, eo40⟩ := Kd.R_slice HO549.out
         (first | subst eo40 | (injection eo40 with f1_ f2_ f3_; have f4_ := f1_.symm; have f5_ := f3_.symm; clear f1_ f2_ f3_; subst f4_; subst f5_))
         refine hK.out _ _ ⟨(blk_cell BK525.out 0).trans rfl, (blk_cell BK525.out 1).trans rfl, (blk_cell BK525.out 2).trans rfl, (blk_cell BK525.out 3).trans rfl, (blk_cell BK526.out 0).trans rfl, (blk_cell BK526.out 1).trans rfl, (blk_cell BK526.out 2).trans rfl, (blk_cell BK526.out 3).trans rfl⟩ (fun hHeld => ?_)
         clear hK K
         refine nrm (some 23) ?_
         refine one_ (i := 4) (N := some 24) #[true, true, true, true, true, false, false, false, true, false, false] rfl rfl (one_of HT_.out (by kernel_rfl)) (by decide) (fun K hK => ?_)
         refine goes_ Try.func28 (by kernel_rfl) rfl #[.agg #[.int .i64 t530, .slice Ao35 t531.length co35, .slice Ao36 t534.length co36, .slice Ao37 t537.length co37], .agg #[.int .i64 t540, .slice Ao38 t541.length co38, .slice Ao39 t544.length co39, .slice Ao40 t547.length co40]] (by rfl) rfl rfl sma ?_
         with_reducible refine (quality_Merge.calls kj4 t530 _ _ t531 _ _ t534 _ _ t537 t540 _ _ t541 _ _ t544 _ _ t547 t550 t551 t554 t557 t560 _ ?side1 ?side2 ?side3 ?side4 ?side5 ?side6 ?side7 ?side8 ?side9 ?side10 ?side11 ?side12 A23.out).mono ?_
         (case side1 => repeat (first | exact (Kd.R_reads' HO533.out).2.2 | (with_reducible refine Kd.C_alloc ?_ _) | (with_reducible refine Kd.C_drewN ?_ _) | (with_reducible refine Kd.C_drew ?_)))
         (case side2 => exact (Kd.R_reads' HO533.out).2.1)
         (case side3 => repeat (first | exact (Kd.R_reads' HO536.out).2.2 | (with_reducible refine Kd.C_alloc ?_ _) | (with_reducible refine Kd.C_drewN ?_ _) | (with_reducible refine Kd.C_drew ?_)))
         (case side4 => exact (Kd.R_reads' HO536.out).2.1)
         (case side5 => repeat (first | exact (Kd.R_reads' HO539.out).2.2 | (with_reducible refine Kd.C_alloc ?_ _) | (with_reducible refine Kd.C_drewN ?_ _) | (with_reducible refine Kd.C_drew ?_)))
         (case side6 => exact (Kd.R_reads' HO539.out).2.1)
         (case side7 => repeat (first | exact (Kd.R_reads' HO543.out).2.2 | (with_reducible refine Kd.C_alloc ?_ _) | (with_reducible refine Kd.C_drewN ?_ _) | (with_reducible refine Kd.C_drew ?_)))
         (case side8 => exact (Kd.R_reads' HO543.out).2.1)
         (case side9 => repeat (first | exact (Kd.R_reads' HO546.out).2.2 | (with_reducible refine Kd.C_alloc ?_ _) | (with_reducible refine Kd.C_drewN ?_ _) | (with_reducible refine Kd.C_drew ?_)))
         (case side10 => exact (Kd.R_reads' HO546.out).2.1)
         (case side11 => repeat (first | exact (Kd.R_reads' HO549.out).2.2 | (with_reducible refine Kd.C_alloc ?_ _) | (with_reducible refine Kd.C_drewN ?_ _) | (with_reducible refine Kd.C_drew ?_)))
         (case side12 => exact (Kd.R_reads' HO549.out).2.1)
         rintro e w41 ⟨v552, v555, v558, rfl, ho0, ho1, ho2, hb⟩
         refine ⟨_, rfl, ?_⟩
         have HO553 := Aside0.mk (Kd.R_lower (Kd.R_new' (Kd.R_new' ho0 (Kd.R_lt (ro HO533))) (Kd.R_lt (ro HO543))) (below_size (hbx HB)))
         replace HO533 := Aside0.mk (Kd.R_elder' (ro HO533) (Kd.R_base ho0) hb)
         replace HO543 := Aside0.mk (Kd.R_elder' (ro HO543) (Kd.R_base ho0) hb)
         have HO556 := Aside0.mk (Kd.R_lower (Kd.R_new' (Kd.R_new' (Kd.R_new' (Kd.R_new' ho1 (Kd.R_lt (ro HO536))) (Kd.R_lt (ro HO539))) (Kd.R_lt (ro HO546))) (Kd.R_lt (ro HO549))) (below_size (hbx HB)))
         have HO559 := Aside0.mk (Kd.R_lower (Kd.R_new' (Kd.R_new' (Kd.R_new' (Kd.R_new' ho2 (Kd.R_lt (ro HO536))) (Kd.R_lt (ro HO539))) (Kd.R_lt (ro HO546))) (Kd.R_lt (ro HO549))) (below_size (hbx HB)))
         replace HO536 := Aside0.mk (Kd.R_mono (Kd.R_told (Kd.R_told (Kd.R_old (ro HO536) hb) (Kd.R_base ho1)) (Kd.R_base ho2)) (fun _ h_ => h_.1))
         replace HO539 := Aside0.mk (Kd.R_mono (Kd.R_told (Kd.R_told (Kd.R_old (ro HO539) hb) (Kd.R_base ho1)) (Kd.R_base ho2)) (fun _ h_ => h_.1))
         replace HO546 := Aside0.mk (Kd.R_mono (Kd.R_told (Kd.R_told (Kd.R_old (ro HO546) hb) (Kd.R_base ho1)) (Kd.R_base ho2)) (fun _ h_ => h_.1))
         replace HO549 := Aside0.mk (Kd.R_mono (Kd.R_told (Kd.R_told (Kd.R_old (ro HO549) hb) (Kd.R_base ho1)) (Kd.R_base ho2)) (fun _ h_ => h_.1))
         replace BK525 := bkB BK525 hb
         replace BK526 := bkB BK526 hb
         replace BK561 := bkB BK561 hb
         replace HB := hbS HB hb
         (try clear hb)
         (try clear hb2)
         (try clear hk)
         (try clear hi)
         (try clear ho0)
         (try clear ho1)
         (try clear ho2)
         refine hK.out _ _ ⟨(blk_cell BK525.out 0).trans rfl, (blk_cell BK525.out 1).trans rfl, (blk_cell BK525.out 2).trans rfl, (blk_cell BK525.out 3).trans rfl, (blk_cell BK526.out 0).trans rfl, (blk_cell BK526.out 1).trans rfl, (blk_cell BK526.out 2).trans rfl, (blk_cell BK526.out 3).trans rfl⟩ (fun hHeld => ?_)
         clear hK K
         refine nrm (some 24) ?_
         refine pur 5 (some 19) #[true, true, true, true, true, true, false, false, true, false, false] HT_ ?_
         refine pur 6 (some 25) #[true, true, true, true, true, true, true, false, true, false, false] HT_ ?_
         refine pur 7 (some 26) #[true, true, true, true, true, true, true, true, true, false, false] HT_ ?_
         exact npu (hCont (.slice Ao35 t531.length co35, .slice Ao36 t534.length co36, .slice Ao37 t537.length co37, .slice Ao38 t541.length co38, .slice Ao39 t544.length co39, .slice Ao40 t547.length co40, v552, v555, v558, gb561) _ ⟨hHeld, (by (with_reducible repeat (first | apply Kd.R_alloc | apply Kd.R_drewN | apply Kd.R_drew)); exact Kd.R_mono HO533.out (fun _ hk => ⟨hk.1.2, hk.2⟩)), (by (with_reducible repeat (first | apply Kd.R_alloc | apply Kd.R_drewN | apply Kd.R_drew)); exact Kd.R_mono HO536.out (fun _ hk => ⟨hk.1.1.1.1, ⟨hk.1.1.1.2, ⟨hk.1.1.2, ⟨hk.1.2, hk.2⟩⟩⟩⟩)), (by (with_reducible repeat (first | apply Kd.R_alloc | apply Kd.R_drewN | apply Kd.R_drew)); exact Kd.R_mono HO539.out (fun _ hk => ⟨hk.1.1.1.1, ⟨hk.1.1.1.2, ⟨hk.1.1.2, ⟨hk.1.2, hk.2⟩⟩⟩⟩)), (by (with_reducible repeat (first | apply Kd.R_alloc | apply Kd.R_drewN | apply Kd.R_drew)); exact Kd.R_mono HO543.out (fun _ hk => ⟨hk.1.2, hk.2⟩)), (by (with_reducible repeat (first | apply Kd.R_alloc | apply Kd.R_drewN | apply Kd.R_drew)); exact Kd.R_mono HO546.out (fun _ hk => ⟨hk.1.1.1.2, ⟨hk.1.1.2, ⟨hk.1.1.1.1, ⟨hk.1.2, hk.2⟩⟩⟩⟩)), (by (with_reducible repeat (first | apply Kd.R_alloc | apply Kd.R_drewN | apply Kd.R_drew)); exact Kd.R_mono HO549.out (fun _ hk => ⟨hk.1.1.1.2, ⟨hk.1.1.2, ⟨hk.1.1.1.1, ⟨hk.1.2, hk.2⟩⟩⟩⟩)), (by (with_reducible repeat (first | apply Kd.R_alloc | apply Kd.R_drewN | apply Kd.R_drew)); exact Kd.R_mono HO553.out (fun _ hk => ⟨hk.1.2, hk.2⟩)), (by (with_reducible repeat (first | apply Kd.R_alloc | apply Kd.R_drewN | apply Kd.R_drew)); exact Kd.R_mono HO556.out (fun _ hk => ⟨hk.1.1.1.2, ⟨hk.1.1.2, ⟨hk.1.2, ⟨hk.2, hk.1.1.1.1⟩⟩⟩⟩)), (by (with_reducible repeat (first | apply Kd.R_alloc | apply Kd.R_drewN | apply Kd.R_drew)); exact Kd.R_mono HO559.out (fun _ hk => ⟨hk.1.1.1.2, ⟨hk.1.1.2, ⟨hk.1.2, ⟨hk.2, hk.1.1.1.1⟩⟩⟩⟩)), (bk BK525), (bk BK526), (bk BK561), GW561.out, GE561.out, NB525_561.out, NB561_525.out, NB526_561.out, NB561_526.out, (hbx HB)⟩)
       rintro ⟨v532, v535, v538, v542, v545, v548, v552, v555, v558, gb561⟩ w42 ⟨hS_, h0_, h1_, h2_, h3_, h4_, h5_, h6_, h7_, h8_, h9_, h10_, h11_, h12_, h13_, h14_, h15_, h16_, h17_, h18_⟩
       have n0_ : Aside0 (Kd.R k34 34 w42 w.heap.size (fun k_ => some k_ ≠ (v542 : Value).ownBlock ∧ some k_ ≠ (v552 : Value).ownBlock) v532 t531) := ⟨h0_⟩
       have n1_ : Aside0 (Kd.R (Kd.int .i64) 3 w42 w.heap.size (fun k_ => some k_ ≠ (v538 : Value).ownBlock ∧ some k_ ≠ (v545 : Value).ownBlock ∧ some k_ ≠ (v548 : Value).ownBlock ∧ some k_ ≠ (v555 : Value).ownBlock ∧ some k_ ≠ (v558 : Value).ownBlock) v535 t534) := ⟨h1_⟩
       have n2_ : Aside0 (Kd.R (Kd.int .i64) 3 w42 w.heap.size (fun k_ => some k_ ≠ (v535 : Value).ownBlock ∧ some k_ ≠ (v545 : Value).ownBlock ∧ some k_ ≠ (v548 : Value).ownBlock ∧ some k_ ≠ (v555 : Value).ownBlock ∧ some k_ ≠ (v558 : Value).ownBlock) v538 t537) := ⟨h2_⟩
       have n3_ : Aside0 (Kd.R k34 34 w42 w.heap.size (fun k_ => some k_ ≠ (v532 : Value).ownBlock ∧ some k_ ≠ (v552 : Value).ownBlock) v542 t541) := ⟨h3_⟩
       have n4_ : Aside0 (Kd.R (Kd.int .i64) 3 w42 w.heap.size (fun k_ => some k_ ≠ (v535 : Value).ownBlock ∧ some k_ ≠ (v538 : Value).ownBlock ∧ some k_ ≠ (v548 : Value).ownBlock ∧ some k_ ≠ (v555 : Value).ownBlock ∧ some k_ ≠ (v558 : Value).ownBlock) v545 t544) := ⟨h4_⟩
       have n5_ : Aside0 (Kd.R (Kd.int .i64) 3 w42 w.heap.size (fun k_ => some k_ ≠ (v535 : Value).ownBlock ∧ some k_ ≠ (v538 : Value).ownBlock ∧ some k_ ≠ (v545 : Value).ownBlock ∧ some k_ ≠ (v555 : Value).ownBlock ∧ some k_ ≠ (v558 : Value).ownBlock) v548 t547) := ⟨h5_⟩
       have n6_ : Aside0 (Kd.R k34 34 w42 w.heap.size (fun k_ => some k_ ≠ (v532 : Value).ownBlock ∧ some k_ ≠ (v542 : Value).ownBlock) v552 t551) := ⟨h6_⟩
       have n7_ : Aside0 (Kd.R (Kd.int .i64) 3 w42 w.heap.size (fun k_ => some k_ ≠ (v535 : Value).ownBlock ∧ some k_ ≠ (v538 : Value).ownBlock ∧ some k_ ≠ (v545 : Value).ownBlock ∧ some k_ ≠ (v548 : Value).ownBlock ∧ some k_ ≠ (v558 : Value).ownBlock) v555 t554) := ⟨h7_⟩
       have n8_ : Aside0 (Kd.R (Kd.int .i64) 3 w42 w.heap.size (fun k_ => some k_ ≠ (v535 : Value).ownBlock ∧ some k_ ≠ (v538 : Value).ownBlock ∧ some k_ ≠ (v545 : Value).ownBlock ∧ some k_ ≠ (v548 : Value).ownBlock ∧ some k_ ≠ (v555 : Value).ownBlock) v558 t557) := ⟨h8_⟩
       have n9_ : Aside0 (w42.heap[gb525]? = some (.cells #[.int .i64 a0_0, .slice A0_1 l0_1.length c0_1, .slice A0_2 l0_2.length c0_2, .slice A0_3 l0_3.length c0_3] 25 (0, 0))) := ⟨h9_⟩
       have n10_ : Aside0 (w42.heap[gb526]? = some (.cells #[.int .i64 a1_0, .slice A1_1 l1_1.length c1_1, .slice A1_2 l1_2.length c1_2, .slice A1_3 l1_3.length c1_3] 25 (0, 0))) := ⟨h10_⟩
       have n11_ : Aside0 (w42.heap[gb561]? = some (.cells #[.int .i64 0, .slice none 0 0, .slice none 0 0, .slice none 0 0] 25 (0, 0))) := ⟨h11_⟩
       have n12_ : Aside0 (w.heap.size ≤ gb561) := ⟨h12_⟩
       have n13_ : Aside0 (w.heap.size ≤ gb561) := ⟨h13_⟩
       have n14_ : Aside0 (gb525 ≠ gb561) := ⟨h14_⟩
       have n15_ : Aside0 (gb561 ≠ gb525) := ⟨h15_⟩
       have n16_ : Aside0 (gb526 ≠ gb561) := ⟨h16_⟩
       have n17_ : Aside0 (gb561 ≠ gb526) := ⟨h17_⟩
       have n18_ : Aside0 (Below w.heap.size w w42) := ⟨h18_⟩
       clear BK525
       clear BK526
       clear HB
       clear h0_ h1_ h2_ h3_ h4_ h5_ h6_ h7_ h8_ h9_ h10_ h11_ h12_ h13_ h14_ h15_ h16_ h17_ h18_
       have HO533 := n0_
       have HO536 := n1_
       have HO539 := n2_
       have HO543 := n3_
       have HO546 := n4_
       have HO549 := n5_
       have HO553 := n6_
       have HO556 := n7_
       have HO559 := n8_
       have BK525 := n9_
       have BK526 := n10_
       have BK561 := n11_
       have GW561 := n12_
       have GE561 := n13_
       have NB525_561 := n14_
       have NB561_525 := n15_
       have NB526_561 := n16_
       have NB561_526 := n17_
       have HB := n18_
       clear n0_ n1_ n2_ n3_ n4_ n5_ n6_ n7_ n8_ n9_ n10_ n11_ n12_ n13_ n14_ n15_ n16_ n17_ n18_
       have hHeld : w42.cell? ⟨gb525, 0, none⟩ = some (.int .i64 a0_0) ∧ w42.cell? ⟨gb525, 1, none⟩ = some (.slice A0_1 l0_1.length c0_1) ∧ w42.cell? ⟨gb525, 2, none⟩ = some (.slice A0_2 l0_2.length c0_2) ∧ w42.cell? ⟨gb525, 3, none⟩ = some (.slice A0_3 l0_3.length c0_3) ∧ w42.cell? ⟨gb526, 0, none⟩ = some (.int .i64 a1_0) ∧ w42.cell? ⟨gb526, 1, none⟩ = some (.slice A1_1 l1_1.length c1_1) ∧ w42.cell? ⟨gb526, 2, none⟩ = some (.slice A1_2 l1_2.length c1_2) ∧ w42.cell? ⟨gb526, 3, none⟩ = some (.slice A1_3 l1_3.length c1_3) := hS_
       obtain ⟨Ao44, co44, eo44⟩ := Kd.R_slice HO553.out
       (first | subst eo44 | (injection eo44 with f1_ f2_ f3_; have f4_ := f1_.symm; have f5_ := f3_.symm; clear f1_ f2_ f3_; subst f4_; subst f5_))
       obtain ⟨Ao46, co46, eo46⟩ := Kd.R_slice HO556.out
       (first | subst eo46 | (injection eo46 with f1_ f2_ f3_; have f4_ := f1_.symm; have f5_ := f3_.symm; clear f1_ f2_ f3_; subst f4_; subst f5_))
       obtain ⟨Ao48, co48, eo48⟩ := Kd.R_slice HO559.out
       (first | subst eo48 | (injection eo48 with f1_ f2_ f3_; have f4_ := f1_.symm; have f5_ := f3_.symm; clear f1_ f2_ f3_; subst f4_; subst f5_))
       refine norm_ (a' := ?_) ?_ ?_
       rotate_left
       ·simp only [putAll, Act.put, List.setIfInBounds_toArray, List.set_cons_zero, List.set_cons_succ]
        rfl
       refine one_ (i := 9) (N := none) #[true, true, true, true, true, true, true, true, true, true, false] rfl rfl (one_of HT_.out (by kernel_rfl)) (by decide) (fun K hK => ?_)
       have hs43 : w42.cell? ⟨gb561, 0, none⟩ = some (.int .i64 0) := (blk_cell BK561.out 0).trans rfl
       have hfs43 := blk_frozen BK561.out 0
       have hns43_0 := NB525_561.out
       have hns43_1 := NB526_561.out
       have hms43_0 := NB561_525.out
       have hms43_1 := NB561_526.out
       have hs45 : w42.cell? ⟨gb561, 1, none⟩ = some (.slice none 0 0) := (blk_cell BK561.out 1).trans rfl
       have hfs45 := blk_frozen BK561.out 1
       have hns45_0 := NB525_561.out
       have hns45_1 := NB526_561.out
       have hms45_0 := NB561_525.out
       have hms45_1 := NB561_526.out
       have hs47 : w42.cell? ⟨gb561, 2, none⟩ = some (.slice none 0 0) := (blk_cell BK561.out 2).trans rfl
       have hfs47 := blk_frozen BK561.out 2
       have hns47_0 := NB525_561.out
       have hns47_1 := NB526_561.out
       have hms47_0 := NB561_525.out
       have hms47_1 := NB561_526.out
       have hs49 : w42.cell? ⟨gb561, 3, none⟩ = some (.slice none 0 0) := (blk_cell BK561.out 3).trans rfl
       have hfs49 := blk_frozen BK561.out 3
       have hns49_0 := NB525_561.out
       have hns49_1 := NB526_561.out
       have hms49_0 := NB561_525.out
       have hms49_1 := NB561_526.out
       refine skip_ (w1 := ?_) (by rfl) rfl ?_ ?_
       rotate_left
       ·go_simp
        rfl
       refine hK.out _ _ ⟨((cell_far (p := ⟨gb561, _, none⟩) NB525_561.out _).trans (((cell_far (p := ⟨gb561, _, none⟩) NB525_561.out _).trans (((cell_far (p := ⟨gb561, _, none⟩) NB525_561.out _).trans (((cell_far (p := ⟨gb561, _, none⟩) NB525_561.out _).trans (hHeld.1)))))))), ((cell_far (p := ⟨gb561, _, none⟩) NB525_561.out _).trans (((cell_far (p := ⟨gb561, _, none⟩) NB525_561.out _).trans (((cell_far (p := ⟨gb561, _, none⟩) NB525_561.out _).trans (((cell_far (p := ⟨gb561, _, none⟩) NB525_561.out _).trans (hHeld.2.1)))))))), ((cell_far (p := ⟨gb561, _, none⟩) NB525_561.out _).trans (((cell_far (p := ⟨gb561, _, none⟩) NB525_561.out _).trans (((cell_far (p := ⟨gb561, _, none⟩) NB525_561.out _).trans (((cell_far (p := ⟨gb561, _, none⟩) NB525_561.out _).trans (hHeld.2.2.1)))))))), ((cell_far (p := ⟨gb561, _, none⟩) NB525_561.out _).trans (((cell_far (p := ⟨gb561, _, none⟩) NB525_561.out _).trans (((cell_far (p := ⟨gb561, _, none⟩) NB525_561.out _).trans (((cell_far (p := ⟨gb561, _, none⟩) NB525_561.out _).trans (hHeld.2.2.2.1)))))))), ((cell_far (p := ⟨gb561, _, none⟩) NB526_561.out _).trans (((cell_far (p := ⟨gb561, _, none⟩) NB526_561.out _).trans (((cell_far (p := ⟨gb561, _, none⟩) NB526_561.out _).trans (((cell_far (p := ⟨gb561, _, none⟩) NB526_561.out _).trans (hHeld.2.2.2.2.1)))))))), ((cell_far (p := ⟨gb561, _, none⟩) NB526_561.out _).trans (((cell_far (p := ⟨gb561, _, none⟩) NB526_561.out _).trans (((cell_far (p := ⟨gb561, _, none⟩) NB526_561.out _).trans (((cell_far (p := ⟨gb561, _, none⟩) NB526_561.out _).trans (hHeld.2.2.2.2.2.1)))))))), ((cell_far (p := ⟨gb561, _, none⟩) NB526_561.out _).trans (((cell_far (p := ⟨gb561, _, none⟩) NB526_561.out _).trans (((cell_far (p := ⟨gb561, _, none⟩) NB526_561.out _).trans (((cell_far (p := ⟨gb561, _, none⟩) NB526_561.out _).trans (hHeld.2.2.2.2.2.2.1)))))))), ((cell_far (p := ⟨gb561, _, none⟩) NB526_561.out _).trans (((cell_far (p := ⟨gb561, _, none⟩) NB526_561.out _).trans (((cell_far (p := ⟨gb561, _, none⟩) NB526_561.out _).trans (((cell_far (p := ⟨gb561, _, none⟩) NB526_561.out _).trans (hHeld.2.2.2.2.2.2.2))))))))⟩ (fun hHeld => ?_)
       clear hK K
       refine pur 10 (some 6) #[true, true, true, true, true, true, true, true, true, true, true] HT_ ?_
       refine done_ (done_of HT_.out (by kernel_rfl)) ?_
       have hnb50 := NB525_526.out
       have hnc50 := NB526_525.out
       have hnb51 := NB525_561.out
       have hnc51 := NB561_525.out
       obtain ⟨z0, z1, z2, z3, y0, y1, y2, y3⟩ := bc4 BK525
       have hnb53 := NB526_561.out
       have hnc53 := NB561_526.out
       obtain ⟨z0, z1, z2, z3, y0, y1, y2, y3⟩ := bc4 BK526
       try go_wp2_with (first | ((with_reducible refine gate_callee (f := 29) rfl ?_); refine goesL_ (some 30) rfl rfl Try.func29 (by kernel_rfl) rfl #[.agg #[.int .i64 a0_0, .slice A0_1 l0_1.length c0_1, .slice A0_2 l0_2.length c0_2, .slice A0_3 l0_3.length c0_3], .agg #[.int .i64 a1_0, .slice A1_1 l1_1.length c1_1, .slice A1_2 l1_2.length c1_2, .slice A1_3 l1_3.length c1_3]] rfl sma ?_; (with_reducible refine (hopmeshref12_Merge.calls kj4 a0_0 _ _ l0_1 _ _ l0_2 _ _ l0_3 a1_0 _ _ l1_1 _ _ l1_2 _ _ l1_3 t562 t563 t566 t569 t572 _ ?side1 HC0_1.out ?side3 HC0_2.out ?side5 HC0_3.out ?side7 HC1_1.out ?side9 HC1_2.out ?side11 HC1_3.out A24.out).mono ?_); (case side1 => exact Kd.C_below HR0_1.out (hbx HB)); (case side3 => exact Kd.C_below HR0_2.out (hbx HB)); (case side5 => exact Kd.C_below HR0_3.out (hbx HB)); (case side7 => exact Kd.C_below HR1_1.out (hbx HB)); (case side9 => exact Kd.C_below HR1_2.out (hbx HB)); (case side11 => exact Kd.C_below HR1_3.out (hbx HB)); rintro e w55 ⟨v564, v567, v570, rfl, ho0, ho1, ho2, hb⟩; refine ⟨_, rfl, ?_⟩; have HO565 := Aside0.mk (Kd.R_lower (Kd.R_new' (Kd.R_new' (Kd.R_new' ho0 (Kd.R_lt (rx (Kd.R_mono (Kd.R_far (p := ⟨gb561, 3, none⟩) (Kd.R_far (p := ⟨gb561, 2, none⟩) (Kd.R_far (p := ⟨gb561, 1, none⟩) (Kd.R_far (p := ⟨gb561, 0, none⟩) (Kd.R_types HO533.out BK561.out (by decide)) (fun _ hk => hk.2) (.int .i64 t550)) (fun _ hk => hk.2) (.slice Ao44 t551.length co44)) (fun _ hk => hk.2) (.slice Ao46 t554.length co46)) (fun _ hk => hk.2) (.slice Ao48 t557.length co48)) (fun _ h_ => h_.1))))) (Kd.R_lt (rx (Kd.R_mono (Kd.R_far (p := ⟨gb561, 3, none⟩) (Kd.R_far (p := ⟨gb561, 2, none⟩) (Kd.R_far (p := ⟨gb561, 1, none⟩) (Kd.R_far (p := ⟨gb561, 0, none⟩) (Kd.R_types HO543.out BK561.out (by decide)) (fun _ hk => hk.2) (.int .i64 t550)) (fun _ hk => hk.2) (.slice Ao44 t551.length co44)) (fun _ hk => hk.2) (.slice Ao46 t554.length co46)) (fun _ hk => hk.2) (.slice Ao48 t557.length co48)) (fun _ h_ => h_.1))))) (Kd.R_lt (rx (Kd.R_mono (Kd.R_far (p := ⟨gb561, 3, none⟩) (Kd.R_far (p := ⟨gb561, 2, none⟩) (Kd.R_far (p := ⟨gb561, 1, none⟩) (Kd.R_far (p := ⟨gb561, 0, none⟩) (Kd.R_types HO553.out BK561.out (by decide)) (fun _ hk => hk.2) (.int .i64 t550)) (fun _ hk => hk.2) (.slice Ao44 t551.length co44)) (fun _ hk => hk.2) (.slice Ao46 t554.length co46)) (fun _ hk => hk.2) (.slice Ao48 t557.length co48)) (fun _ h_ => h_.1))))) (below_size (hbx HB))); replace HO533 := Aside0.mk (Kd.R_elder' (rx (Kd.R_mono (Kd.R_far (p := ⟨gb561, 3, none⟩) (Kd.R_far (p := ⟨gb561, 2, none⟩) (Kd.R_far (p := ⟨gb561, 1, none⟩) (Kd.R_far (p := ⟨gb561, 0, none⟩) (Kd.R_types HO533.out BK561.out (by decide)) (fun _ hk => hk.2) (.int .i64 t550)) (fun _ hk => hk.2) (.slice Ao44 t551.length co44)) (fun _ hk => hk.2) (.slice Ao46 t554.length co46)) (fun _ hk => hk.2) (.slice Ao48 t557.length co48)) (fun _ h_ => h_.1))) (Kd.R_base ho0) hb); replace HO543 := Aside0.mk (Kd.R_elder' (rx (Kd.R_mono (Kd.R_far (p := ⟨gb561, 3, none⟩) (Kd.R_far (p := ⟨gb561, 2, none⟩) (Kd.R_far (p := ⟨gb561, 1, none⟩) (Kd.R_far (p := ⟨gb561, 0, none⟩) (Kd.R_types HO543.out BK561.out (by decide)) (fun _ hk => hk.2) (.int .i64 t550)) (fun _ hk => hk.2) (.slice Ao44 t551.length co44)) (fun _ hk => hk.2) (.slice Ao46 t554.length co46)) (fun _ hk => hk.2) (.slice Ao48 t557.length co48)) (fun _ h_ => h_.1))) (Kd.R_base ho0) hb); replace HO553 := Aside0.mk (Kd.R_elder' (rx (Kd.R_mono (Kd.R_far (p := ⟨gb561, 3, none⟩) (Kd.R_far (p := ⟨gb561, 2, none⟩) (Kd.R_far (p := ⟨gb561, 1, none⟩) (Kd.R_far (p := ⟨gb561, 0, none⟩) (Kd.R_types HO553.out BK561.out (by decide)) (fun _ hk => hk.2) (.int .i64 t550)) (fun _ hk => hk.2) (.slice Ao44 t551.length co44)) (fun _ hk => hk.2) (.slice Ao46 t554.length co46)) (fun _ hk => hk.2) (.slice Ao48 t557.length co48)) (fun _ h_ => h_.1))) (Kd.R_base ho0) hb); have HO568 := Aside0.mk (Kd.R_lower (Kd.R_new' (Kd.R_new' (Kd.R_new' (Kd.R_new' (Kd.R_new' (Kd.R_new' ho1 (Kd.R_lt (rx (Kd.R_mono (Kd.R_far (p := ⟨gb561, 3, none⟩) (Kd.R_far (p := ⟨gb561, 2, none⟩) (Kd.R_far (p := ⟨gb561, 1, none⟩) (Kd.R_far (p := ⟨gb561, 0, none⟩) (Kd.R_types HO536.out BK561.out (by decide)) (fun _ hk => hk.2) (.int .i64 t550)) (fun _ hk => hk.2) (.slice Ao44 t551.length co44)) (fun _ hk => hk.2) (.slice Ao46 t554.length co46)) (fun _ hk => hk.2) (.slice Ao48 t557.length co48)) (fun _ h_ => h_.1))))) (Kd.R_lt (rx (Kd.R_mono (Kd.R_far (p := ⟨gb561, 3, none⟩) (Kd.R_far (p := ⟨gb561, 2, none⟩) (Kd.R_far (p := ⟨gb561, 1, none⟩) (Kd.R_far (p := ⟨gb561, 0, none⟩) (Kd.R_types HO539.out BK561.out (by decide)) (fun _ hk => hk.2) (.int .i64 t550)) (fun _ hk => hk.2) (.slice Ao44 t551.length co44)) (fun _ hk => hk.2) (.slice Ao46 t554.length co46)) (fun _ hk => hk.2) (.slice Ao48 t557.length co48)) (fun _ h_ => h_.1))))) (Kd.R_lt (rx (Kd.R_mono (Kd.R_far (p := ⟨gb561, 3, none⟩) (Kd.R_far (p := ⟨gb561, 2, none⟩) (Kd.R_far (p := ⟨gb561, 1, none⟩) (Kd.R_far (p := ⟨gb561, 0, none⟩) (Kd.R_types HO546.out BK561.out (by decide)) (fun _ hk => hk.2) (.int .i64 t550)) (fun _ hk => hk.2) (.slice Ao44 t551.length co44)) (fun _ hk => hk.2) (.slice Ao46 t554.length co46)) (fun _ hk => hk.2) (.slice Ao48 t557.length co48)) (fun _ h_ => h_.1))))) (Kd.R_lt (rx (Kd.R_mono (Kd.R_far (p := ⟨gb561, 3, none⟩) (Kd.R_far (p := ⟨gb561, 2, none⟩) (Kd.R_far (p := ⟨gb561, 1, none⟩) (Kd.R_far (p := ⟨gb561, 0, none⟩) (Kd.R_types HO549.out BK561.out (by decide)) (fun _ hk => hk.2) (.int .i64 t550)) (fun _ hk => hk.2) (.slice Ao44 t551.length co44)) (fun _ hk => hk.2) (.slice Ao46 t554.length co46)) (fun _ hk => hk.2) (.slice Ao48 t557.length co48)) (fun _ h_ => h_.1))))) (Kd.R_lt (rx (Kd.R_mono (Kd.R_far (p := ⟨gb561, 3, none⟩) (Kd.R_far (p := ⟨gb561, 2, none⟩) (Kd.R_far (p := ⟨gb561, 1, none⟩) (Kd.R_far (p := ⟨gb561, 0, none⟩) (Kd.R_types HO556.out BK561.out (by decide)) (fun _ hk => hk.2) (.int .i64 t550)) (fun _ hk => hk.2) (.slice Ao44 t551.length co44)) (fun _ hk => hk.2) (.slice Ao46 t554.length co46)) (fun _ hk => hk.2) (.slice Ao48 t557.length co48)) (fun _ h_ => h_.1))))) (Kd.R_lt (rx (Kd.R_mono (Kd.R_far (p := ⟨gb561, 3, none⟩) (Kd.R_far (p := ⟨gb561, 2, none⟩) (Kd.R_far (p := ⟨gb561, 1, none⟩) (Kd.R_far (p := ⟨gb561, 0, none⟩) (Kd.R_types HO559.out BK561.out (by decide)) (fun _ hk => hk.2) (.int .i64 t550)) (fun _ hk => hk.2) (.slice Ao44 t551.length co44)) (fun _ hk => hk.2) (.slice Ao46 t554.length co46)) (fun _ hk => hk.2) (.slice Ao48 t557.length co48)) (fun _ h_ => h_.1))))) (below_size (hbx HB))); have HO571 := Aside0.mk (Kd.R_lower (Kd.R_new' (Kd.R_new' (Kd.R_new' (Kd.R_new' (Kd.R_new' (Kd.R_new' ho2 (Kd.R_lt (rx (Kd.R_mono (Kd.R_far (p := ⟨gb561, 3, none⟩) (Kd.R_far (p := ⟨gb561, 2, none⟩) (Kd.R_far (p := ⟨gb561, 1, none⟩) (Kd.R_far (p := ⟨gb561, 0, none⟩) (Kd.R_types HO536.out BK561.out (by decide)) (fun _ hk => hk.2) (.int .i64 t550)) (fun _ hk => hk.2) (.slice Ao44 t551.length co44)) (fun _ hk => hk.2) (.slice Ao46 t554.length co46)) (fun _ hk => hk.2) (.slice Ao48 t557.length co48)) (fun _ h_ => h_.1))))) (Kd.R_lt (rx (Kd.R_mono (Kd.R_far (p := ⟨gb561, 3, none⟩) (Kd.R_far (p := ⟨gb561, 2, none⟩) (Kd.R_far (p := ⟨gb561, 1, none⟩) (Kd.R_far (p := ⟨gb561, 0, none⟩) (Kd.R_types HO539.out BK561.out (by decide)) (fun _ hk => hk.2) (.int .i64 t550)) (fun _ hk => hk.2) (.slice Ao44 t551.length co44)) (fun _ hk => hk.2) (.slice Ao46 t554.length co46)) (fun _ hk => hk.2) (.slice Ao48 t557.length co48)) (fun _ h_ => h_.1))))) (Kd.R_lt (rx (Kd.R_mono (Kd.R_far (p := ⟨gb561, 3, none⟩) (Kd.R_far (p := ⟨gb561, 2, none⟩) (Kd.R_far (p := ⟨gb561, 1, none⟩) (Kd.R_far (p := ⟨gb561, 0, none⟩) (Kd.R_types HO546.out BK561.out (by decide)) (fun _ hk => hk.2) (.int .i64 t550)) (fun _ hk => hk.2) (.slice Ao44 t551.length co44)) (fun _ hk => hk.2) (.slice Ao46 t554.length co46)) (fun _ hk => hk.2) (.slice Ao48 t557.length co48)) (fun _ h_ => h_.1))))) (Kd.R_lt (rx (Kd.R_mono (Kd.R_far (p := ⟨gb561, 3, none⟩) (Kd.R_far (p := ⟨gb561, 2, none⟩) (Kd.R_far (p := ⟨gb561, 1, none⟩) (Kd.R_far (p := ⟨gb561, 0, none⟩) (Kd.R_types HO549.out BK561.out (by decide)) (fun _ hk => hk.2) (.int .i64 t550)) (fun _ hk => hk.2) (.slice Ao44 t551.length co44)) (fun _ hk => hk.2) (.slice Ao46 t554.length co46)) (fun _ hk => hk.2) (.slice Ao48 t557.length co48)) (fun _ h_ => h_.1))))) (Kd.R_lt (rx (Kd.R_mono (Kd.R_far (p := ⟨gb561, 3, none⟩) (Kd.R_far (p := ⟨gb561, 2, none⟩) (Kd.R_far (p := ⟨gb561, 1, none⟩) (Kd.R_far (p := ⟨gb561, 0, none⟩) (Kd.R_types HO556.out BK561.out (by decide)) (fun _ hk => hk.2) (.int .i64 t550)) (fun _ hk => hk.2) (.slice Ao44 t551.length co44)) (fun _ hk => hk.2) (.slice Ao46 t554.length co46)) (fun _ hk => hk.2) (.slice Ao48 t557.length co48)) (fun _ h_ => h_.1))))) (Kd.R_lt (rx (Kd.R_mono (Kd.R_far (p := ⟨gb561, 3, none⟩) (Kd.R_far (p := ⟨gb561, 2, none⟩) (Kd.R_far (p := ⟨gb561, 1, none⟩) (Kd.R_far (p := ⟨gb561, 0, none⟩) (Kd.R_types HO559.out BK561.out (by decide)) (fun _ hk => hk.2) (.int .i64 t550)) (fun _ hk => hk.2) (.slice Ao44 t551.length co44)) (fun _ hk => hk.2) (.slice Ao46 t554.length co46)) (fun _ hk => hk.2) (.slice Ao48 t557.length co48)) (fun _ h_ => h_.1))))) (below_size (hbx HB))); replace HO536 := Aside0.mk (Kd.R_mono (Kd.R_told (Kd.R_told (Kd.R_old (rx (Kd.R_mono (Kd.R_far (p := ⟨gb561, 3, none⟩) (Kd.R_far (p := ⟨gb561, 2, none⟩) (Kd.R_far (p := ⟨gb561, 1, none⟩) (Kd.R_far (p := ⟨gb561, 0, none⟩) (Kd.R_types HO536.out BK561.out (by decide)) (fun _ hk => hk.2) (.int .i64 t550)) (fun _ hk => hk.2) (.slice Ao44 t551.length co44)) (fun _ hk => hk.2) (.slice Ao46 t554.length co46)) (fun _ hk => hk.2) (.slice Ao48 t557.length co48)) (fun _ h_ => h_.1))) hb) (Kd.R_base ho1)) (Kd.R_base ho2)) (fun _ h_ => h_.1)); replace HO539 := Aside0.mk (Kd.R_mono (Kd.R_told (Kd.R_told (Kd.R_old (rx (Kd.R_mono (Kd.R_far (p := ⟨gb561, 3, none⟩) (Kd.R_far (p := ⟨gb561, 2, none⟩) (Kd.R_far (p := ⟨gb561, 1, none⟩) (Kd.R_far (p := ⟨gb561, 0, none⟩) (Kd.R_types HO539.out BK561.out (by decide)) (fun _ hk => hk.2) (.int .i64 t550)) (fun _ hk => hk.2) (.slice Ao44 t551.length co44)) (fun _ hk => hk.2) (.slice Ao46 t554.length co46)) (fun _ hk => hk.2) (.slice Ao48 t557.length co48)) (fun _ h_ => h_.1))) hb) (Kd.R_base ho1)) (Kd.R_base ho2)) (fun _ h_ => h_.1)); replace HO546 := Aside0.mk (Kd.R_mono (Kd.R_told (Kd.R_told (Kd.R_old (rx (Kd.R_mono (Kd.R_far (p := ⟨gb561, 3, none⟩) (Kd.R_far (p := ⟨gb561, 2, none⟩) (Kd.R_far (p := ⟨gb561, 1, none⟩) (Kd.R_far (p := ⟨gb561, 0, none⟩) (Kd.R_types HO546.out BK561.out (by decide)) (fun _ hk => hk.2) (.int .i64 t550)) (fun _ hk => hk.2) (.slice Ao44 t551.length co44)) (fun _ hk => hk.2) (.slice Ao46 t554.length co46)) (fun _ hk => hk.2) (.slice Ao48 t557.length co48)) (fun _ h_ => h_.1))) hb) (Kd.R_base ho1)) (Kd.R_base ho2)) (fun _ h_ => h_.1)); replace HO549 := Aside0.mk (Kd.R_mono (Kd.R_told (Kd.R_told (Kd.R_old (rx (Kd.R_mono (Kd.R_far (p := ⟨gb561, 3, none⟩) (Kd.R_far (p := ⟨gb561, 2, none⟩) (Kd.R_far (p := ⟨gb561, 1, none⟩) (Kd.R_far (p := ⟨gb561, 0, none⟩) (Kd.R_types HO549.out BK561.out (by decide)) (fun _ hk => hk.2) (.int .i64 t550)) (fun _ hk => hk.2) (.slice Ao44 t551.length co44)) (fun _ hk => hk.2) (.slice Ao46 t554.length co46)) (fun _ hk => hk.2) (.slice Ao48 t557.length co48)) (fun _ h_ => h_.1))) hb) (Kd.R_base ho1)) (Kd.R_base ho2)) (fun _ h_ => h_.1)); replace HO556 := Aside0.mk (Kd.R_mono (Kd.R_told (Kd.R_told (Kd.R_old (rx (Kd.R_mono (Kd.R_far (p := ⟨gb561, 3, none⟩) (Kd.R_far (p := ⟨gb561, 2, none⟩) (Kd.R_far (p := ⟨gb561, 1, none⟩) (Kd.R_far (p := ⟨gb561, 0, none⟩) (Kd.R_types HO556.out BK561.out (by decide)) (fun _ hk => hk.2) (.int .i64 t550)) (fun _ hk => hk.2) (.slice Ao44 t551.length co44)) (fun _ hk => hk.2) (.slice Ao46 t554.length co46)) (fun _ hk => hk.2) (.slice Ao48 t557.length co48)) (fun _ h_ => h_.1))) hb) (Kd.R_base ho1)) (Kd.R_base ho2)) (fun _ h_ => h_.1)); replace HO559 := Aside0.mk (Kd.R_mono (Kd.R_told (Kd.R_told (Kd.R_old (rx (Kd.R_mono (Kd.R_far (p := ⟨gb561, 3, none⟩) (Kd.R_far (p := ⟨gb561, 2, none⟩) (Kd.R_far (p := ⟨gb561, 1, none⟩) (Kd.R_far (p := ⟨gb561, 0, none⟩) (Kd.R_types HO559.out BK561.out (by decide)) (fun _ hk => hk.2) (.int .i64 t550)) (fun _ hk => hk.2) (.slice Ao44 t551.length co44)) (fun _ hk => hk.2) (.slice Ao46 t554.length co46)) (fun _ hk => hk.2) (.slice Ao48 t557.length co48)) (fun _ h_ => h_.1))) hb) (Kd.R_base ho1)) (Kd.R_base ho2)) (fun _ h_ => h_.1)); replace BK525 := bkfB BK525 hb; replace BK526 := bkfB BK526 hb; replace BK561 := Aside0.mk (blk_below (o := .cells #[.int .i64 t550, .slice Ao44 t551.length co44, .slice Ao46 t554.length co46, .slice Ao48 t557.length co48] 25 (0, 0)) (bkp BK561) hb); replace HB := hbS HB hb; (try clear hb); (try clear hb2); (try clear hk); (try clear hi); (try clear ho0); (try clear ho1); (try clear ho2)) | ((with_reducible refine gate_dst (N := 7) rfl ?_); refine boxE 7 #[.int .i64 0, .slice none 0 0, .slice none 0 0, .slice none 0 0] 25 ?_; intro gb573 hg w56 hbox hb; replace HO533 := rB HO533 hb; replace HO536 := rB HO536 hb; replace HO539 := rB HO539 hb; replace HO543 := rB HO543 hb; replace HO546 := rB HO546 hb; replace HO549 := rB HO549 hb; replace HO553 := rB HO553 hb; replace HO556 := rB HO556 hb; replace HO559 := rB HO559 hb; replace HO565 := rB HO565 hb; replace HO568 := rB HO568 hb; replace HO571 := rB HO571 hb; have BK573 := Aside0.mk (hbox); have GW573 := gw hg HB; have GE573 := gw hg HB; replace HB := hbS HB hb; have NB525_573 := nbl hg BK525; have NB573_525 := nbg hg BK525; replace BK525 := bkB BK525 hb; have NB526_573 := nbl hg BK526; have NB573_526 := nbg hg BK526; replace BK526 := bkB BK526 hb; have NB561_573 := nbl hg BK561; have NB573_561 := nbg hg BK561; replace BK561 := bkB BK561 hb; clear hb hbox hg; have hnb57 := NB573_525.out; have hnc57 := NB525_573.out; have hnb58 := NB573_526.out; have hnc58 := NB526_573.out; have hnb59 := NB573_561.out; have hnc59 := NB561_573.out; obtain ⟨z0, z1, z2, z3, y0, y1, y2, y3⟩ := bc4 BK573; obtain ⟨Ao61, co61, eo61⟩ := Kd.R_slice HO565.out; subst eo61; obtain ⟨Ao62, co62, eo62⟩ := Kd.R_slice HO568.out; subst eo62; obtain ⟨Ao63, co63, eo63⟩ := Kd.R_slice HO571.out; subst eo63; obtain ⟨z0, z1, z2, z3, y0, y1, y2, y3⟩ := bc4 BK561) | ((with_reducible refine gate_callee (f := 30) rfl ?_); refine goesL_ (some 35) rfl rfl Try.func30 (by kernel_rfl) rfl #[.agg #[.int .i64 t550, .slice Ao44 t551.length co44, .slice Ao46 t554.length co46, .slice Ao48 t557.length co48], .agg #[.int .i64 t562, .slice Ao61 t563.length co61, .slice Ao62 t566.length co62, .slice Ao63 t569.length co63]] rfl sma ?_; (with_reducible refine (hopmeshref12_Same.calls kj4 t550 _ _ t551 _ _ t554 _ _ t557 t562 _ _ t563 _ _ t566 _ _ t569 true _ ?side1 ?side2 ?side3 ?side4 ?side5 ?side6 ?side7 ?side8 ?side9 ?side10 ?side11 ?side12 A25.out).mono ?_); (case side1 => refine (Kd.R_reads' (e := 34) (base := w.heap.size) (ok := fun k_ => ((some k_ ≠ (v532 : Value).ownBlock ∧ some k_ ≠ (v542 : Value).ownBlock) ∧ some k_ ≠ (.slice Ao61 t563.length co61 : Value).ownBlock)) (n := t551.length) (c := co44) ?_).2.2; exact (rx (Kd.R_mono (Kd.R_far (p := ⟨gb573, 3, none⟩) (Kd.R_far (p := ⟨gb573, 2, none⟩) (Kd.R_far (p := ⟨gb573, 1, none⟩) (Kd.R_far (p := ⟨gb573, 0, none⟩) (Kd.R_types HO553.out BK573.out (by decide)) (fun _ hk => hk.2) (.int .i64 t562)) (fun _ hk => hk.2) (.slice Ao61 t563.length co61)) (fun _ hk => hk.2) (.slice Ao62 t566.length co62)) (fun _ hk => hk.2) (.slice Ao63 t569.length co63)) (fun _ h_ => h_.1)))); (case side2 => exact (Kd.R_reads' HO553.out).2.1); (case side3 => refine (Kd.R_reads' (e := 3) (base := w.heap.size) (ok := fun k_ => (((some k_ ≠ (v535 : Value).ownBlock ∧ (some k_ ≠ (v538 : Value).ownBlock ∧ (some k_ ≠ (v545 : Value).ownBlock ∧ (some k_ ≠ (v548 : Value).ownBlock ∧ some k_ ≠ (.slice Ao48 t557.length co48 : Value).ownBlock)))) ∧ some k_ ≠ (.slice Ao62 t566.length co62 : Value).ownBlock) ∧ some k_ ≠ (.slice Ao63 t569.length co63 : Value).ownBlock)) (n := t554.length) (c := co46) ?_).2.2; exact (rx (Kd.R_mono (Kd.R_far (p := ⟨gb573, 3, none⟩) (Kd.R_far (p := ⟨gb573, 2, none⟩) (Kd.R_far (p := ⟨gb573, 1, none⟩) (Kd.R_far (p := ⟨gb573, 0, none⟩) (Kd.R_types HO556.out BK573.out (by decide)) (fun _ hk => hk.2) (.int .i64 t562)) (fun _ hk => hk.2) (.slice Ao61 t563.length co61)) (fun _ hk => hk.2) (.slice Ao62 t566.length co62)) (fun _ hk => hk.2) (.slice Ao63 t569.length co63)) (fun _ h_ => h_.1)))); (case side4 => exact (Kd.R_reads' HO556.out).2.1); (case side5 => refine (Kd.R_reads' (e := 3) (base := w.heap.size) (ok := fun k_ => (((some k_ ≠ (v535 : Value).ownBlock ∧ (some k_ ≠ (v538 : Value).ownBlock ∧ (some k_ ≠ (v545 : Value).ownBlock ∧ (some k_ ≠ (v548 : Value).ownBlock ∧ some k_ ≠ (.slice Ao46 t554.length co46 : Value).ownBlock)))) ∧ some k_ ≠ (.slice Ao62 t566.length co62 : Value).ownBlock) ∧ some k_ ≠ (.slice Ao63 t569.length co63 : Value).ownBlock)) (n := t557.length) (c := co48) ?_).2.2; exact (rx (Kd.R_mono (Kd.R_far (p := ⟨gb573, 3, none⟩) (Kd.R_far (p := ⟨gb573, 2, none⟩) (Kd.R_far (p := ⟨gb573, 1, none⟩) (Kd.R_far (p := ⟨gb573, 0, none⟩) (Kd.R_types HO559.out BK573.out (by decide)) (fun _ hk => hk.2) (.int .i64 t562)) (fun _ hk => hk.2) (.slice Ao61 t563.length co61)) (fun _ hk => hk.2) (.slice Ao62 t566.length co62)) (fun _ hk => hk.2) (.slice Ao63 t569.length co63)) (fun _ h_ => h_.1)))); (case side6 => exact (Kd.R_reads' HO559.out).2.1); (case side7 => refine (Kd.R_reads' (e := 34) (base := w.heap.size) (ok := fun k_ => (((True ∧ some k_ ≠ (v532 : Value).ownBlock) ∧ some k_ ≠ (v542 : Value).ownBlock) ∧ some k_ ≠ (.slice Ao44 t551.length co44 : Value).ownBlock)) (n := t563.length) (c := co61) ?_).2.2; exact (rx (Kd.R_mono (Kd.R_far (p := ⟨gb573, 3, none⟩) (Kd.R_far (p := ⟨gb573, 2, none⟩) (Kd.R_far (p := ⟨gb573, 1, none⟩) (Kd.R_far (p := ⟨gb573, 0, none⟩) (Kd.R_types HO565.out BK573.out (by decide)) (fun _ hk => hk.2) (.int .i64 t562)) (fun _ hk => hk.2) (.slice Ao61 t563.length co61)) (fun _ hk => hk.2) (.slice Ao62 t566.length co62)) (fun _ hk => hk.2) (.slice Ao63 t569.length co63)) (fun _ h_ => h_.1)))); (case side8 => exact (Kd.R_reads' HO565.out).2.1); (case side9 => refine (Kd.R_reads' (e := 3) (base := w.heap.size) (ok := fun k_ => ((((((some k_ ≠ (.slice Ao63 t569.length co63 : Value).ownBlock ∧ some k_ ≠ (v535 : Value).ownBlock) ∧ some k_ ≠ (v538 : Value).ownBlock) ∧ some k_ ≠ (v545 : Value).ownBlock) ∧ some k_ ≠ (v548 : Value).ownBlock) ∧ some k_ ≠ (.slice Ao46 t554.length co46 : Value).ownBlock) ∧ some k_ ≠ (.slice Ao48 t557.length co48 : Value).ownBlock)) (n := t566.length) (c := co62) ?_).2.2; exact (rx (Kd.R_mono (Kd.R_far (p := ⟨gb573, 3, none⟩) (Kd.R_far (p := ⟨gb573, 2, none⟩) (Kd.R_far (p := ⟨gb573, 1, none⟩) (Kd.R_far (p := ⟨gb573, 0, none⟩) (Kd.R_types HO568.out BK573.out (by decide)) (fun _ hk => hk.2) (.int .i64 t562)) (fun _ hk => hk.2) (.slice Ao61 t563.length co61)) (fun _ hk => hk.2) (.slice Ao62 t566.length co62)) (fun _ hk => hk.2) (.slice Ao63 t569.length co63)) (fun _ h_ => h_.1)))); (case side10 => exact (Kd.R_reads' HO568.out).2.1); (case side11 => refine (Kd.R_reads' (e := 3) (base := w.heap.size) (ok := fun k_ => ((((((some k_ ≠ (.slice Ao62 t566.length co62 : Value).ownBlock ∧ some k_ ≠ (v535 : Value).ownBlock) ∧ some k_ ≠ (v538 : Value).ownBlock) ∧ some k_ ≠ (v545 : Value).ownBlock) ∧ some k_ ≠ (v548 : Value).ownBlock) ∧ some k_ ≠ (.slice Ao46 t554.length co46 : Value).ownBlock) ∧ some k_ ≠ (.slice Ao48 t557.length co48 : Value).ownBlock)) (n := t569.length) (c := co63) ?_).2.2; exact (rx (Kd.R_mono (Kd.R_far (p := ⟨gb573, 3, none⟩) (Kd.R_far (p := ⟨gb573, 2, none⟩) (Kd.R_far (p := ⟨gb573, 1, none⟩) (Kd.R_far (p := ⟨gb573, 0, none⟩) (Kd.R_types HO571.out BK573.out (by decide)) (fun _ hk => hk.2) (.int .i64 t562)) (fun _ hk => hk.2) (.slice Ao61 t563.length co61)) (fun _ hk => hk.2) (.slice Ao62 t566.length co62)) (fun _ hk => hk.2) (.slice Ao63 t569.length co63)) (fun _ h_ => h_.1)))); (case side12 => exact (Kd.R_reads' HO571.out).2.1); rintro e w65 ⟨rfl, hb⟩; refine ⟨_, rfl, ?_⟩; replace HO533 := Aside0.mk (Kd.R_below (rx (Kd.R_mono (Kd.R_far (p := ⟨gb573, 3, none⟩) (Kd.R_far (p := ⟨gb573, 2, none⟩) (Kd.R_far (p := ⟨gb573, 1, none⟩) (Kd.R_far (p := ⟨gb573, 0, none⟩) (Kd.R_types HO533.out BK573.out (by decide)) (fun _ hk => hk.2) (.int .i64 t562)) (fun _ hk => hk.2) (.slice Ao61 t563.length co61)) (fun _ hk => hk.2) (.slice Ao62 t566.length co62)) (fun _ hk => hk.2) (.slice Ao63 t569.length co63)) (fun _ h_ => h_.1))) hb); replace HO536 := Aside0.mk (Kd.R_below (rx (Kd.R_mono (Kd.R_far (p := ⟨gb573, 3, none⟩) (Kd.R_far (p := ⟨gb573, 2, none⟩) (Kd.R_far (p := ⟨gb573, 1, none⟩) (Kd.R_far (p := ⟨gb573, 0, none⟩) (Kd.R_types HO536.out BK573.out (by decide)) (fun _ hk => hk.2) (.int .i64 t562)) (fun _ hk => hk.2) (.slice Ao61 t563.length co61)) (fun _ hk => hk.2) (.slice Ao62 t566.length co62)) (fun _ hk => hk.2) (.slice Ao63 t569.length co63)) (fun _ h_ => h_.1))) hb); replace HO539 := Aside0.mk (Kd.R_below (rx (Kd.R_mono (Kd.R_far (p := ⟨gb573, 3, none⟩) (Kd.R_far (p := ⟨gb573, 2, none⟩) (Kd.R_far (p := ⟨gb573, 1, none⟩) (Kd.R_far (p := ⟨gb573, 0, none⟩) (Kd.R_types HO539.out BK573.out (by decide)) (fun _ hk => hk.2) (.int .i64 t562)) (fun _ hk => hk.2) (.slice Ao61 t563.length co61)) (fun _ hk => hk.2) (.slice Ao62 t566.length co62)) (fun _ hk => hk.2) (.slice Ao63 t569.length co63)) (fun _ h_ => h_.1))) hb); replace HO543 := Aside0.mk (Kd.R_below (rx (Kd.R_mono (Kd.R_far (p := ⟨gb573, 3, none⟩) (Kd.R_far (p := ⟨gb573, 2, none⟩) (Kd.R_far (p := ⟨gb573, 1, none⟩) (Kd.R_far (p := ⟨gb573, 0, none⟩) (Kd.R_types HO543.out BK573.out (by decide)) (fun _ hk => hk.2) (.int .i64 t562)) (fun _ hk => hk.2) (.slice Ao61 t563.length co61)) (fun _ hk => hk.2) (.slice Ao62 t566.length co62)) (fun _ hk => hk.2) (.slice Ao63 t569.length co63)) (fun _ h_ => h_.1))) hb); replace HO546 := Aside0.mk (Kd.R_below (rx (Kd.R_mono (Kd.R_far (p := ⟨gb573, 3, none⟩) (Kd.R_far (p := ⟨gb573, 2, none⟩) (Kd.R_far (p := ⟨gb573, 1, none⟩) (Kd.R_far (p := ⟨gb573, 0, none⟩) (Kd.R_types HO546.out BK573.out (by decide)) (fun _ hk => hk.2) (.int .i64 t562)) (fun _ hk => hk.2) (.slice Ao61 t563.length co61)) (fun _ hk => hk.2) (.slice Ao62 t566.length co62)) (fun _ hk => hk.2) (.slice Ao63 t569.length co63)) (fun _ h_ => h_.1))) hb); replace HO549 := Aside0.mk (Kd.R_below (rx (Kd.R_mono (Kd.R_far (p := ⟨gb573, 3, none⟩) (Kd.R_far (p := ⟨gb573, 2, none⟩) (Kd.R_far (p := ⟨gb573, 1, none⟩) (Kd.R_far (p := ⟨gb573, 0, none⟩) (Kd.R_types HO549.out BK573.out (by decide)) (fun _ hk => hk.2) (.int .i64 t562)) (fun _ hk => hk.2) (.slice Ao61 t563.length co61)) (fun _ hk => hk.2) (.slice Ao62 t566.length co62)) (fun _ hk => hk.2) (.slice Ao63 t569.length co63)) (fun _ h_ => h_.1))) hb); replace HO553 := Aside0.mk (Kd.R_below (rx (Kd.R_mono (Kd.R_far (p := ⟨gb573, 3, none⟩) (Kd.R_far (p := ⟨gb573, 2, none⟩) (Kd.R_far (p := ⟨gb573, 1, none⟩) (Kd.R_far (p := ⟨gb573, 0, none⟩) (Kd.R_types HO553.out BK573.out (by decide)) (fun _ hk => hk.2) (.int .i64 t562)) (fun _ hk => hk.2) (.slice Ao61 t563.length co61)) (fun _ hk => hk.2) (.slice Ao62 t566.length co62)) (fun _ hk => hk.2) (.slice Ao63 t569.length co63)) (fun _ h_ => h_.1))) hb); replace HO556 := Aside0.mk (Kd.R_below (rx (Kd.R_mono (Kd.R_far (p := ⟨gb573, 3, none⟩) (Kd.R_far (p := ⟨gb573, 2, none⟩) (Kd.R_far (p := ⟨gb573, 1, none⟩) (Kd.R_far (p := ⟨gb573, 0, none⟩) (Kd.R_types HO556.out BK573.out (by decide)) (fun _ hk => hk.2) (.int .i64 t562)) (fun _ hk => hk.2) (.slice Ao61 t563.length co61)) (fun _ hk => hk.2) (.slice Ao62 t566.length co62)) (fun _ hk => hk.2) (.slice Ao63 t569.length co63)) (fun _ h_ => h_.1))) hb); replace HO559 := Aside0.mk (Kd.R_below (rx (Kd.R_mono (Kd.R_far (p := ⟨gb573, 3, none⟩) (Kd.R_far (p := ⟨gb573, 2, none⟩) (Kd.R_far (p := ⟨gb573, 1, none⟩) (Kd.R_far (p := ⟨gb573, 0, none⟩) (Kd.R_types HO559.out BK573.out (by decide)) (fun _ hk => hk.2) (.int .i64 t562)) (fun _ hk => hk.2) (.slice Ao61 t563.length co61)) (fun _ hk => hk.2) (.slice Ao62 t566.length co62)) (fun _ hk => hk.2) (.slice Ao63 t569.length co63)) (fun _ h_ => h_.1))) hb); replace HO565 := Aside0.mk (Kd.R_below (rx (Kd.R_mono (Kd.R_far (p := ⟨gb573, 3, none⟩) (Kd.R_far (p := ⟨gb573, 2, none⟩) (Kd.R_far (p := ⟨gb573, 1, none⟩) (Kd.R_far (p := ⟨gb573, 0, none⟩) (Kd.R_types HO565.out BK573.out (by decide)) (fun _ hk => hk.2) (.int .i64 t562)) (fun _ hk => hk.2) (.slice Ao61 t563.length co61)) (fun _ hk => hk.2) (.slice Ao62 t566.length co62)) (fun _ hk => hk.2) (.slice Ao63 t569.length co63)) (fun _ h_ => h_.1))) hb); replace HO568 := Aside0.mk (Kd.R_below (rx (Kd.R_mono (Kd.R_far (p := ⟨gb573, 3, none⟩) (Kd.R_far (p := ⟨gb573, 2, none⟩) (Kd.R_far (p := ⟨gb573, 1, none⟩) (Kd.R_far (p := ⟨gb573, 0, none⟩) (Kd.R_types HO568.out BK573.out (by decide)) (fun _ hk => hk.2) (.int .i64 t562)) (fun _ hk => hk.2) (.slice Ao61 t563.length co61)) (fun _ hk => hk.2) (.slice Ao62 t566.length co62)) (fun _ hk => hk.2) (.slice Ao63 t569.length co63)) (fun _ h_ => h_.1))) hb); replace HO571 := Aside0.mk (Kd.R_below (rx (Kd.R_mono (Kd.R_far (p := ⟨gb573, 3, none⟩) (Kd.R_far (p := ⟨gb573, 2, none⟩) (Kd.R_far (p := ⟨gb573, 1, none⟩) (Kd.R_far (p := ⟨gb573, 0, none⟩) (Kd.R_types HO571.out BK573.out (by decide)) (fun _ hk => hk.2) (.int .i64 t562)) (fun _ hk => hk.2) (.slice Ao61 t563.length co61)) (fun _ hk => hk.2) (.slice Ao62 t566.length co62)) (fun _ hk => hk.2) (.slice Ao63 t569.length co63)) (fun _ h_ => h_.1))) hb); replace BK525 := bkfB BK525 hb; replace BK526 := bkfB BK526 hb; replace BK561 := bkfB BK561 hb; replace BK573 := Aside0.mk (blk_below (o := .cells #[.int .i64 t562, .slice Ao61 t563.length co61, .slice Ao62 t566.length co62, .slice Ao63 t569.length co63] 25 (0, 0)) (bkp BK573) hb); replace HB := hbS HB hb; (try clear hb); (try clear hb2); (try clear hk); (try clear hi)) | (go_at_call 31; (with_reducible refine (quality_New.calls  t575 t576 t579 t582 _ A28.out).mono ?_); rintro e w66 ⟨v577, v580, v583, rfl, ho0, ho1, ho2, hb⟩; have HO578 := Aside0.mk (Kd.R_lower (Kd.R_new' (Kd.R_new' (Kd.R_new' (Kd.R_new' ho0 (Kd.R_lt (ro HO533))) (Kd.R_lt (ro HO543))) (Kd.R_lt (ro HO553))) (Kd.R_lt (ro HO565))) (below_size (hbx HB))); replace HO533 := Aside0.mk (Kd.R_elder' (ro HO533) (Kd.R_base ho0) hb); replace HO543 := Aside0.mk (Kd.R_elder' (ro HO543) (Kd.R_base ho0) hb); replace HO553 := Aside0.mk (Kd.R_elder' (ro HO553) (Kd.R_base ho0) hb); replace HO565 := Aside0.mk (Kd.R_elder' (ro HO565) (Kd.R_base ho0) hb); have HO581 := Aside0.mk (Kd.R_lower (Kd.R_new' (Kd.R_new' (Kd.R_new' (Kd.R_new' (Kd.R_new' (Kd.R_new' (Kd.R_new' (Kd.R_new' ho1 (Kd.R_lt (ro HO536))) (Kd.R_lt (ro HO539))) (Kd.R_lt (ro HO546))) (Kd.R_lt (ro HO549))) (Kd.R_lt (ro HO556))) (Kd.R_lt (ro HO559))) (Kd.R_lt (ro HO568))) (Kd.R_lt (ro HO571))) (below_size (hbx HB))); have HO584 := Aside0.mk (Kd.R_lower (Kd.R_new' (Kd.R_new' (Kd.R_new' (Kd.R_new' (Kd.R_new' (Kd.R_new' (Kd.R_new' (Kd.R_new' ho2 (Kd.R_lt (ro HO536))) (Kd.R_lt (ro HO539))) (Kd.R_lt (ro HO546))) (Kd.R_lt (ro HO549))) (Kd.R_lt (ro HO556))) (Kd.R_lt (ro HO559))) (Kd.R_lt (ro HO568))) (Kd.R_lt (ro HO571))) (below_size (hbx HB))); replace HO536 := Aside0.mk (Kd.R_mono (Kd.R_told (Kd.R_told (Kd.R_old (ro HO536) hb) (Kd.R_base ho1)) (Kd.R_base ho2)) (fun _ h_ => h_.1)); replace HO539 := Aside0.mk (Kd.R_mono (Kd.R_told (Kd.R_told (Kd.R_old (ro HO539) hb) (Kd.R_base ho1)) (Kd.R_base ho2)) (fun _ h_ => h_.1)); replace HO546 := Aside0.mk (Kd.R_mono (Kd.R_told (Kd.R_told (Kd.R_old (ro HO546) hb) (Kd.R_base ho1)) (Kd.R_base ho2)) (fun _ h_ => h_.1)); replace HO549 := Aside0.mk (Kd.R_mono (Kd.R_told (Kd.R_told (Kd.R_old (ro HO549) hb) (Kd.R_base ho1)) (Kd.R_base ho2)) (fun _ h_ => h_.1)); replace HO556 := Aside0.mk (Kd.R_mono (Kd.R_told (Kd.R_told (Kd.R_old (ro HO556) hb) (Kd.R_base ho1)) (Kd.R_base ho2)) (fun _ h_ => h_.1)); replace HO559 := Aside0.mk (Kd.R_mono (Kd.R_told (Kd.R_told (Kd.R_old (ro HO559) hb) (Kd.R_base ho1)) (Kd.R_base ho2)) (fun _ h_ => h_.1)); replace HO568 := Aside0.mk (Kd.R_mono (Kd.R_told (Kd.R_told (Kd.R_old (ro HO568) hb) (Kd.R_base ho1)) (Kd.R_base ho2)) (fun _ h_ => h_.1)); replace HO571 := Aside0.mk (Kd.R_mono (Kd.R_told (Kd.R_told (Kd.R_old (ro HO571) hb) (Kd.R_base ho1)) (Kd.R_base ho2)) (fun _ h_ => h_.1)); replace BK525 := bkB BK525 hb; replace BK526 := bkB BK526 hb; replace BK561 := bkB BK561 hb; replace BK573 := bkB BK573 hb; replace HB := hbS HB hb; (try clear hb); (try clear hb2); (try clear hk); (try clear hi); (try clear ho0); (try clear ho1); (try clear ho2)) | (go_at_call 32; (with_reducible refine (hopmeshref12_New.calls  t585 t586 t589 t592 _ A29.out).mono ?_); rintro e w67 ⟨v587, v590, v593, rfl, ho0, ho1, ho2, hb⟩; have HO588 := Aside0.mk (Kd.R_lower (Kd.R_new' (Kd.R_new' (Kd.R_new' (Kd.R_new' (Kd.R_new' ho0 (Kd.R_lt (ro HO533))) (Kd.R_lt (ro HO543))) (Kd.R_lt (ro HO553))) (Kd.R_lt (ro HO565))) (Kd.R_lt (ro HO578))) (below_size (hbx HB))); replace HO533 := Aside0.mk (Kd.R_elder' (ro HO533) (Kd.R_base ho0) hb); replace HO543 := Aside0.mk (Kd.R_elder' (ro HO543) (Kd.R_base ho0) hb); replace HO553 := Aside0.mk (Kd.R_elder' (ro HO553) (Kd.R_base ho0) hb); replace HO565 := Aside0.mk (Kd.R_elder' (ro HO565) (Kd.R_base ho0) hb); replace HO578 := Aside0.mk (Kd.R_elder' (ro HO578) (Kd.R_base ho0) hb); have HO591 := Aside0.mk (Kd.R_lower (Kd.R_new' (Kd.R_new' (Kd.R_new' (Kd.R_new' (Kd.R_new' (Kd.R_new' (Kd.R_new' (Kd.R_new' (Kd.R_new' (Kd.R_new' ho1 (Kd.R_lt (ro HO536))) (Kd.R_lt (ro HO539))) (Kd.R_lt (ro HO546))) (Kd.R_lt (ro HO549))) (Kd.R_lt (ro HO556))) (Kd.R_lt (ro HO559))) (Kd.R_lt (ro HO568))) (Kd.R_lt (ro HO571))) (Kd.R_lt (ro HO581))) (Kd.R_lt (ro HO584))) (below_size (hbx HB))); have HO594 := Aside0.mk (Kd.R_lower (Kd.R_new' (Kd.R_new' (Kd.R_new' (Kd.R_new' (Kd.R_new' (Kd.R_new' (Kd.R_new' (Kd.R_new' (Kd.R_new' (Kd.R_new' ho2 (Kd.R_lt (ro HO536))) (Kd.R_lt (ro HO539))) (Kd.R_lt (ro HO546))) (Kd.R_lt (ro HO549))) (Kd.R_lt (ro HO556))) (Kd.R_lt (ro HO559))) (Kd.R_lt (ro HO568))) (Kd.R_lt (ro HO571))) (Kd.R_lt (ro HO581))) (Kd.R_lt (ro HO584))) (below_size (hbx HB))); replace HO536 := Aside0.mk (Kd.R_mono (Kd.R_told (Kd.R_told (Kd.R_old (ro HO536) hb) (Kd.R_base ho1)) (Kd.R_base ho2)) (fun _ h_ => h_.1)); replace HO539 := Aside0.mk (Kd.R_mono (Kd.R_told (Kd.R_told (Kd.R_old (ro HO539) hb) (Kd.R_base ho1)) (Kd.R_base ho2)) (fun _ h_ => h_.1)); replace HO546 := Aside0.mk (Kd.R_mono (Kd.R_told (Kd.R_told (Kd.R_old (ro HO546) hb) (Kd.R_base ho1)) (Kd.R_base ho2)) (fun _ h_ => h_.1)); replace HO549 := Aside0.mk (Kd.R_mono (Kd.R_told (Kd.R_told (Kd.R_old (ro HO549) hb) (Kd.R_base ho1)) (Kd.R_base ho2)) (fun _ h_ => h_.1)); replace HO556 := Aside0.mk (Kd.R_mono (Kd.R_told (Kd.R_told (Kd.R_old (ro HO556) hb) (Kd.R_base ho1)) (Kd.R_base ho2)) (fun _ h_ => h_.1)); replace HO559 := Aside0.mk (Kd.R_mono (Kd.R_told (Kd.R_told (Kd.R_old (ro HO559) hb) (Kd.R_base ho1)) (Kd.R_base ho2)) (fun _ h_ => h_.1)); replace HO568 := Aside0.mk (Kd.R_mono (Kd.R_told (Kd.R_told (Kd.R_old (ro HO568) hb) (Kd.R_base ho1)) (Kd.R_base ho2)) (fun _ h_ => h_.1)); replace HO571 := Aside0.mk (Kd.R_mono (Kd.R_told (Kd.R_told (Kd.R_old (ro HO571) hb) (Kd.R_base ho1)) (Kd.R_base ho2)) (fun _ h_ => h_.1)); replace HO581 := Aside0.mk (Kd.R_mono (Kd.R_told (Kd.R_told (Kd.R_old (ro HO581) hb) (Kd.R_base ho1)) (Kd.R_base ho2)) (fun _ h_ => h_.1)); replace HO584 := Aside0.mk (Kd.R_mono (Kd.R_told (Kd.R_told (Kd.R_old (ro HO584) hb) (Kd.R_base ho1)) (Kd.R_base ho2)) (fun _ h_ => h_.1)); replace BK525 := bkB BK525 hb; replace BK526 := bkB BK526 hb; replace BK561 := bkB BK561 hb; replace BK573 := bkB BK573 hb; replace HB := hbS HB hb; (try clear hb); (try clear hb2); (try clear hk); (try clear hi); (try clear ho0); (try clear ho1); (try clear ho2); obtain ⟨Ao68, co68, eo68⟩ := Kd.R_slice HO578.out; subst eo68; obtain ⟨Ao69, co69, eo69⟩ := Kd.R_slice HO581.out; subst eo69; obtain ⟨Ao70, co70, eo70⟩ := Kd.R_slice HO584.out; subst eo70; obtain ⟨Ao71, co71, eo71⟩ := Kd.R_slice HO588.out; subst eo71; obtain ⟨Ao72, co72, eo72⟩ := Kd.R_slice HO591.out; subst eo72; obtain ⟨Ao73, co73, eo73⟩ := Kd.R_slice HO594.out; subst eo73) | (go_at_call 30; (with_reducible refine (hopmeshref12_Same.calls kj4 t575 _ _ t576 _ _ t579 _ _ t582 t585 _ _ t586 _ _ t589 _ _ t592 t595 _ ?side1 ?side2 ?side3 ?side4 ?side5 ?side6 ?side7 ?side8 ?side9 ?side10 ?side11 ?side12 A30.out).mono ?_); (case side1 => repeat (first | exact (Kd.R_reads' HO578.out).2.2 | (with_reducible refine Kd.C_alloc ?_ _) | (with_reducible refine Kd.C_drewN ?_ _) | (with_reducible refine Kd.C_drew ?_))); (case side2 => exact (Kd.R_reads' HO578.out).2.1); (case side3 => repeat (first | exact (Kd.R_reads' HO581.out).2.2 | (with_reducible refine Kd.C_alloc ?_ _) | (with_reducible refine Kd.C_drewN ?_ _) | (with_reducible refine Kd.C_drew ?_))); (case side4 => exact (Kd.R_reads' HO581.out).2.1); (case side5 => repeat (first | exact (Kd.R_reads' HO584.out).2.2 | (with_reducible refine Kd.C_alloc ?_ _) | (with_reducible refine Kd.C_drewN ?_ _) | (with_reducible refine Kd.C_drew ?_))); (case side6 => exact (Kd.R_reads' HO584.out).2.1); (case side7 => repeat (first | exact (Kd.R_reads' HO588.out).2.2 | (with_reducible refine Kd.C_alloc ?_ _) | (with_reducible refine Kd.C_drewN ?_ _) | (with_reducible refine Kd.C_drew ?_))); (case side8 => exact (Kd.R_reads' HO588.out).2.1); (case side9 => repeat (first | exact (Kd.R_reads' HO591.out).2.2 | (with_reducible refine Kd.C_alloc ?_ _) | (with_reducible refine Kd.C_drewN ?_ _) | (with_reducible refine Kd.C_drew ?_))); (case side10 => exact (Kd.R_reads' HO591.out).2.1); (case side11 => repeat (first | exact (Kd.R_reads' HO594.out).2.2 | (with_reducible refine Kd.C_alloc ?_ _) | (with_reducible refine Kd.C_drewN ?_ _) | (with_reducible refine Kd.C_drew ?_))); (case side12 => exact (Kd.R_reads' HO594.out).2.1); rintro e w74 ⟨rfl, hb⟩; replace HO533 := rB HO533 hb; replace HO536 := rB HO536 hb; replace HO539 := rB HO539 hb; replace HO543 := rB HO543 hb; replace HO546 := rB HO546 hb; replace HO549 := rB HO549 hb; replace HO553 := rB HO553 hb; replace HO556 := rB HO556 hb; replace HO559 := rB HO559 hb; replace HO565 := rB HO565 hb; replace HO568 := rB HO568 hb; replace HO571 := rB HO571 hb; replace HO578 := rB HO578 hb; replace HO581 := rB HO581 hb; replace HO584 := rB HO584 hb; replace HO588 := rB HO588 hb; replace HO591 := rB HO591 hb; replace HO594 := rB HO594 hb; replace BK525 := bkB BK525 hb; replace BK526 := bkB BK526 hb; replace BK561 := bkB BK561 hb; replace BK573 := bkB BK573 hb; replace HB := hbS HB hb; (try clear hb); (try clear hb2); (try clear hk); (try clear hi)))
       go_ret
       exact ⟨rerr, hbx HB⟩
      ·rw [if_neg c27] at H
       exact absurd H (by simp)
     ·replace c26 := Bool.eq_false_iff.mpr c26
      subst c26
      rw [if_neg (show ¬ (false = true) by decide)] at H
      exact absurd H (by simp)
 ·replace c4 := Bool.eq_false_iff.mpr c4
  subst c4
  rw [if_neg (show ¬ (false = true) by decide)] at H
  exact absurd H (by simp)
end Go.Proofs.Ytnipgplobipeeaa.PQ
