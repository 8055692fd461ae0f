-- Printed by fprint.py and zip.py, programs of this session's, over the kit's print; Lean checks it.
import Derived.Test.YtnipgplobipeeaaZ0
import Derived.Test.YtnipgplobipeeaaZf12
import Derived.Test.YtnipgplobipeeaaZf15
import Derived.Test.YtnipgplobipeeaaZf17
import Derived.Test.YtnipgplobipeeaaZf10
import Derived.Test.YtnipgplobipeeaaZf11
import Derived.Test.YtnipgplobipeeaaZf13
import Derived.Test.YtnipgplobipeeaaZf14
import Derived.Test.YtnipgplobipeeaaZf39
import Derived.Test.YtnipgplobipeeaaZf30
import Derived.Test.YtnipgplobipeeaaZf35
import Derived.Test.YtnipgplobipeeaaZf36
import Derived.Test.YtnipgplobipeeaaZf37
import Derived.Test.YtnipgplobipeeaaZf38
namespace Go.Proofs.Ytnipgplobipeeaa.PQ
open Go.RowKit Go.Proofs.YtnipgplobipeeaaW.PrintWords Go.Proofs.YtnipgplobipeeaaW.PrintLast Go.Proofs.YtnipgplobipeeaaW.PrintMore
attribute [local go_sem] max2_int min2_int max_two min_two max_three min_three max_four min_four   -- for this text's walks alone
set_option linter.unusedVariables false
set_option linter.unusedSimpArgs false
def hopmeshlaw12_QualityLearns.f (k : Nat) (a0_0 : Int) (l0_1 : List (S34)) (l0_2 : List Int) (l0_3 : List Int) (a1_0 : Int) (a1_1 : Int) (a1_2 : Int) (a1_3 : Int) (a2 : Int) : Option (Bool) := (hopmeshlaw12_awake.f k).bind fun t745 => (if t745 = true then ((hopmeshref12_Few.f a0_0 l0_1 l0_2 l0_3).bind fun t746 => (if t746 = true then ((hopmeshref12_Copy.f a0_0 l0_1 l0_2 l0_3).bind fun bt747 => ((quality_Note.f k bt747.1 bt747.2.1 bt747.2.2.1 bt747.2.2.2 a2 ((Int.tmod a1_1 2) == 0)).bind fun bt757 => ((hopmeshref12_Note.f k a0_0 l0_1 l0_2 l0_3 a2 ((Int.tmod a1_1 2) == 0)).bind fun bt769 => ((hopmeshlaw12_closed.f k a0_0 l0_1 l0_2 l0_3 a1_0 a1_1 a1_2 a1_3).bind fun bt781 => ((hopmeshref12_Close.f k a0_0 l0_1 l0_2 l0_3 a1_0 a1_1 a1_2 a1_3).bind fun bt793 => ((hopmeshref12_Copy.f a0_0 l0_1 l0_2 l0_3).bind fun bt805 => ((quality_Black.f k bt805.1 bt805.2.1 bt805.2.2.1 bt805.2.2.2).bind fun bt815 => ((hopmeshref12_Black.f k a0_0 l0_1 l0_2 l0_3).bind fun bt819 => ((hopmeshref12_Copy.f a0_0 l0_1 l0_2 l0_3).bind fun bt823 => ((quality_Valid.f k bt823.1 bt823.2.1 bt823.2.2.1 bt823.2.2.2).bind fun t833 => ((hopmeshref12_Valid.f k a0_0 l0_1 l0_2 l0_3).bind fun t834 => (if t833 = t834 then ((hopmeshref12_Same.f k bt757.1 bt757.2.1 bt757.2.2.1 bt757.2.2.2.1 bt769.1 bt769.2.1 bt769.2.2.1 bt769.2.2.2.1).bind fun t835 => (if t835 = true then (if bt757.2.2.2.2 = bt769.2.2.2.2 then ((hopmeshref12_Same.f k bt781.1 bt781.2.1 bt781.2.2.1 bt781.2.2.2.1 bt793.1 bt793.2.1 bt793.2.2.1 bt793.2.2.2.1).bind fun t836 => (if t836 = true then (if bt781.2.2.2.2 = bt793.2.2.2.2 then ((slices_Equal_int_int.f k bt815.1 bt819.1).bind fun t837 => (if t837 = true then (some (bt815.2 == bt819.2)) else (none))) else (none)) else (none))) else (none)) else (none))) else (none))))))))))))) else (some true))) else (none))
theorem hopmeshlaw12_QualityLearns.mono : ∀ a0 a1 a2 a3 a4 a5 a6 a7 a8 k, LeO (hopmeshlaw12_QualityLearns.f k a0 a1 a2 a3 a4 a5 a6 a7 a8) (hopmeshlaw12_QualityLearns.f (k + 1) a0 a1 a2 a3 a4 a5 a6 a7 a8) := by
 intro a0 a1 a2 a3 a4 a5 a6 a7 a8 k
 unfold hopmeshlaw12_QualityLearns.f
 repeat' first
  | (with_reducible exact hopmeshlaw12_awake.mono _)
  | (with_reducible exact hopmeshlaw12_closed.mono _ _ _ _ _ _ _ _ _)
  | (with_reducible exact hopmeshref12_Black.mono _ _ _ _ _)
  | (with_reducible exact hopmeshref12_Close.mono _ _ _ _ _ _ _ _ _)
  | (with_reducible exact hopmeshref12_Note.mono _ _ _ _ _ _ _)
  | (with_reducible exact hopmeshref12_Same.mono _ _ _ _ _ _ _ _ _)
  | (with_reducible exact hopmeshref12_Valid.mono _ _ _ _ _)
  | (with_reducible exact quality_Black.mono _ _ _ _ _)
  | (with_reducible exact quality_Note.mono _ _ _ _ _ _ _)
  | (with_reducible exact quality_Valid.mono _ _ _ _ _)
  | (with_reducible exact slices_Equal_int_int.mono _ _ _)
  | (with_reducible exact LeO.refl _)
  | (with_reducible exact LeO.none _)
  | (with_reducible refine LeO.ite ?_ ?_)
  | (with_reducible refine LeO.bind ?_ (fun _ => ?_))
  | exact hopmeshlaw12_awake.mono _
  | exact hopmeshlaw12_closed.mono _ _ _ _ _ _ _ _ _
  | exact hopmeshref12_Black.mono _ _ _ _ _
  | exact hopmeshref12_Close.mono _ _ _ _ _ _ _ _ _
  | exact hopmeshref12_Note.mono _ _ _ _ _ _ _
  | exact hopmeshref12_Same.mono _ _ _ _ _ _ _ _ _
  | exact hopmeshref12_Valid.mono _ _ _ _ _
  | exact quality_Black.mono _ _ _ _ _
  | exact quality_Note.mono _ _ _ _ _ _ _
  | exact quality_Valid.mono _ _ _ _ _
  | exact slices_Equal_int_int.mono _ _ _
  | exact LeO.none _
  | refine LeO.ite ?_ ?_
  | refine LeO.bind ?_ (fun _ => ?_)
def hopmeshlaw12_QualityLearns.T5 : Bool × List (List Nat × List Nat) := (true, [([], []), ([0], [0]), ([], []), ([], []), ([3], [3]), ([4], [4]), ([5], [5]), ([1, 2, 6, 1], [1, 2, 6]), ([7], [7]), ([8], [8]), ([8], [8]), ([], []), ([11, 9, 7, 0, 1, 2, 3, 4, 5, 6, 7, 8, 9, 11], [9, 11]), ([10, 12, 0, 1, 2, 3, 4, 5, 6, 7, 8, 9, 10, 11, 12], [10])])
def hopmeshlaw12_QualityLearns.B5 : List Nat := [0, 1, 0, 0, 8, 24, 56, 127, 255, 511, 511, 0, 3071, 8191]
theorem hopmeshlaw12_QualityLearns.tab5 : rtab .any (opsOf Try.f8 5) = hopmeshlaw12_QualityLearns.T5 := by kernel_rfl
theorem hopmeshlaw12_QualityLearns.bits5 : waitsOk hopmeshlaw12_QualityLearns.T5.2 hopmeshlaw12_QualityLearns.B5 = true := by kernel_rfl
def hopmeshlaw12_QualityLearns.T11 : Bool × List (List Nat × List Nat) := (true, [([], []), ([0], [0]), ([1, 1], [1]), ([], []), ([3, 2], [3]), ([2, 4], [2, 4]), ([5, 4], [5]), ([6], [6]), ([6], [6]), ([7, 8, 6, 6], [6, 7, 8]), ([6, 9], [6, 9]), ([10, 9], [10]), ([11], [11]), ([11], [11]), ([12, 13, 11], [11, 12, 13]), ([11, 14], [11, 14]), ([15, 11], [15]), ([16], [16]), ([16], [16]), ([17, 18, 16, 16], [16, 17, 18]), ([16, 19], [16, 19]), ([20, 19], [20]), ([21], [21]), ([21], [21]), ([22, 23, 21], [21, 22, 23]), ([21, 24], [21, 24]), ([25, 21], [25]), ([26], [26]), ([26], [26]), ([27, 28, 26, 26], [26, 27, 28]), ([26, 29], [26, 29]), ([30, 29], [30]), ([31], [31]), ([31], [31]), ([32, 33, 31], [31, 32, 33]), ([31, 34], [31, 34]), ([35, 31, 0, 1, 2, 3, 4, 5, 6, 7, 8, 9, 10, 11, 12, 13, 14, 15, 16, 17, 18, 19, 20, 21, 22, 23, 24, 25, 26, 27, 28, 29, 30, 31, 32, 33, 34, 35], [35])])
def hopmeshlaw12_QualityLearns.B11 : List Nat := [0, 1, 3, 0, 15, 31, 63, 127, 127, 511, 1023, 2047, 4095, 4095, 16383, 32767, 65535, 131071, 131071, 524287, 1048575, 2097151, 4194303, 4194303, 16777215, 33554431, 67108863, 134217727, 134217727, 536870911, 1073741823, 2147483647, 4294967295, 4294967295, 17179869183, 34359738367, 68719476735]
theorem hopmeshlaw12_QualityLearns.tab11 : rtab .any (opsOf Try.f8 11) = hopmeshlaw12_QualityLearns.T11 := by kernel_rfl
theorem hopmeshlaw12_QualityLearns.bits11 : waitsOk hopmeshlaw12_QualityLearns.T11.2 hopmeshlaw12_QualityLearns.B11 = true := by kernel_rfl
set_option maxHeartbeats 8000000 in
set_option maxRecDepth 100000 in
theorem hopmeshlaw12_QualityLearns.calls (k : Nat) (a0_0 : Int) (A0_1 : Option Addr) (c0_1 : Nat) (l0_1 : List (S34)) (A0_2 : Option Addr) (c0_2 : Nat) (l0_2 : List Int) (A0_3 : Option Addr) (c0_3 : Nat) (l0_3 : List Int) (a1_0 : Int) (a1_1 : Int) (a1_2 : Int) (a1_3 : Int) (a2 : Int) (r : Bool) (w : World) (hr0_1 : Kd.C k34 w A0_1 l0_1.length l0_1) (hc0_1 : l0_1.length ≤ c0_1) (hr0_2 : Kd.C (Kd.int .i64) w A0_2 l0_2.length l0_2) (hc0_2 : l0_2.length ≤ c0_2) (hr0_3 : Kd.C (Kd.int .i64) w A0_3 l0_3.length l0_3) (hc0_3 : l0_3.length ≤ c0_3) (h : hopmeshlaw12_QualityLearns.f k a0_0 l0_1 l0_2 l0_3 a1_0 a1_1 a1_2 a1_3 a2 = some r) :
 Calls Try.prog 8 #[.agg #[.int .i64 a0_0, .slice A0_1 l0_1.length c0_1, .slice A0_2 l0_2.length c0_2, .slice A0_3 l0_3.length c0_3], .agg #[.int .i64 a1_0, .int .i64 a1_1, .int .i64 a1_2, .int .i64 a1_3], .int .i64 a2] w fun e w' => e = .returned (.bool r) ∧ Below w.heap.size w w' := by
 have hu25 := Try.underlying25
 have hu27 := Try.underlying27
 have HR0_1 := Aside0.mk hr0_1
 have HC0_1 := Aside0.mk hc0_1
 clear hr0_1 hc0_1
 have HR0_2 := Aside0.mk hr0_2
 have HC0_2 := Aside0.mk hc0_2
 clear hr0_2 hc0_2
 have HR0_3 := Aside0.mk hr0_3
 have HC0_3 := Aside0.mk hc0_3
 clear hr0_3 hc0_3
 have HB := Aside0.mk (Below.refl w.heap.size w)
 have H : ((hopmeshlaw12_awake.f k).bind fun t745 => (if t745 = true then ((hopmeshref12_Few.f a0_0 l0_1 l0_2 l0_3).bind fun t746 => (if t746 = true then ((hopmeshref12_Copy.f a0_0 l0_1 l0_2 l0_3).bind fun bt747 => ((quality_Note.f k bt747.1 bt747.2.1 bt747.2.2.1 bt747.2.2.2 a2 ((Int.tmod a1_1 2) == 0)).bind fun bt757 => ((hopmeshref12_Note.f k a0_0 l0_1 l0_2 l0_3 a2 ((Int.tmod a1_1 2) == 0)).bind fun bt769 => ((hopmeshlaw12_closed.f k a0_0 l0_1 l0_2 l0_3 a1_0 a1_1 a1_2 a1_3).bind fun bt781 => ((hopmeshref12_Close.f k a0_0 l0_1 l0_2 l0_3 a1_0 a1_1 a1_2 a1_3).bind fun bt793 => ((hopmeshref12_Copy.f a0_0 l0_1 l0_2 l0_3).bind fun bt805 => ((quality_Black.f k bt805.1 bt805.2.1 bt805.2.2.1 bt805.2.2.2).bind fun bt815 => ((hopmeshref12_Black.f k a0_0 l0_1 l0_2 l0_3).bind fun bt819 => ((hopmeshref12_Copy.f a0_0 l0_1 l0_2 l0_3).bind fun bt823 => ((quality_Valid.f k bt823.1 bt823.2.1 bt823.2.2.1 bt823.2.2.2).bind fun t833 => ((hopmeshref12_Valid.f k a0_0 l0_1 l0_2 l0_3).bind fun t834 => (if t833 = t834 then ((hopmeshref12_Same.f k bt757.1 bt757.2.1 bt757.2.2.1 bt757.2.2.2.1 bt769.1 bt769.2.1 bt769.2.2.1 bt769.2.2.2.1).bind fun t835 => (if t835 = true then (if bt757.2.2.2.2 = bt769.2.2.2.2 then ((hopmeshref12_Same.f k bt781.1 bt781.2.1 bt781.2.2.1 bt781.2.2.2.1 bt793.1 bt793.2.1 bt793.2.2.1 bt793.2.2.2.1).bind fun t836 => (if t836 = true then (if bt781.2.2.2.2 = bt793.2.2.2.2 then ((slices_Equal_int_int.f k bt815.1 bt819.1).bind fun t837 => (if t837 = true then (some (bt815.2 == bt819.2)) else (none))) else (none)) else (none))) else (none)) else (none))) else (none))))))))))))) else (some true))) else (none))) = some r := h
 clear h
 replace H := Option.bind_eq_some_iff.mp H
 obtain ⟨t745, A40, H⟩ := H
 (try dsimp only at H)
 have A4 := Aside0.mk A40
 clear A40
 by_cases c5 : t745 = true
 ·subst c5
  rw [if_pos rfl] at H
  replace H := Option.bind_eq_some_iff.mp H
  obtain ⟨t746, A60, H⟩ := H
  (try dsimp only at H)
  have A6 := Aside0.mk A60
  clear A60
  by_cases c7 : t746 = true
  ·subst c7
   rw [if_pos rfl] at H
   replace H := Option.bind_eq_some_iff.mp H
   obtain ⟨⟨t747, t748, t751, t754⟩, A80, H⟩ := H
   (try dsimp only at H)
   have A8 := Aside0.mk A80
   clear A80
   replace H := Option.bind_eq_some_iff.mp H
   obtain ⟨⟨t757, t758, t761, t764, t767⟩, A90, H⟩ := H
   (try dsimp only at H)
   have A9 := Aside0.mk A90
   clear A90
   replace H := Option.bind_eq_some_iff.mp H
   obtain ⟨⟨t769, t770, t773, t776, t779⟩, A100, H⟩ := H
   (try dsimp only at H)
   have A10 := Aside0.mk A100
   clear A100
   replace H := Option.bind_eq_some_iff.mp H
   obtain ⟨⟨t781, t782, t785, t788, t791⟩, A110, H⟩ := H
   (try dsimp only at H)
   have A11 := Aside0.mk A110
   clear A110
   replace H := Option.bind_eq_some_iff.mp H
   obtain ⟨⟨t793, t794, t797, t800, t803⟩, A120, H⟩ := H
   (try dsimp only at H)
   have A12 := Aside0.mk A120
   clear A120
   replace H := Option.bind_eq_some_iff.mp H
   obtain ⟨⟨t805, t806, t809, t812⟩, A130, H⟩ := H
   (try dsimp only at H)
   have A13 := Aside0.mk A130
   clear A130
   replace H := Option.bind_eq_some_iff.mp H
   obtain ⟨⟨t815, t818⟩, A140, H⟩ := H
   (try dsimp only at H)
   have A14 := Aside0.mk A140
   clear A140
   replace H := Option.bind_eq_some_iff.mp H
   obtain ⟨⟨t819, t822⟩, A150, H⟩ := H
   (try dsimp only at H)
   have A15 := Aside0.mk A150
   clear A150
   replace H := Option.bind_eq_some_iff.mp H
   obtain ⟨⟨t823, t824, t827, t830⟩, A160, H⟩ := H
   (try dsimp only at H)
   have A16 := Aside0.mk A160
   clear A160
   replace H := Option.bind_eq_some_iff.mp H
   obtain ⟨t833, A170, H⟩ := H
   (try dsimp only at H)
   have A17 := Aside0.mk A170
   clear A170
   replace H := Option.bind_eq_some_iff.mp H
   obtain ⟨t834, A180, H⟩ := H
   (try dsimp only at H)
   have A18 := Aside0.mk A180
   clear A180
   by_cases c19 : t833 = t834
   ·rw [if_pos c19] at H
    have c19b0 : (t833 == t834) = true := beq_iff_eq.mpr c19
    have c19b1 : (t833 != t834) = false := bne_eq_false_iff_eq.mpr c19
    clear c19
    replace H := Option.bind_eq_some_iff.mp H
    obtain ⟨t835, A200, H⟩ := H
    (try dsimp only at H)
    have A20 := Aside0.mk A200
    clear A200
    by_cases c21 : t835 = true
    ·subst c21
     rw [if_pos rfl] at H
     by_cases c22 : t767 = t779
     ·rw [if_pos c22] at H
      have c22b0 : (t767 == t779) = true := beq_iff_eq.mpr c22
      have c22b1 : (t767 != t779) = false := bne_eq_false_iff_eq.mpr c22
      clear c22
      replace H := Option.bind_eq_some_iff.mp H
      obtain ⟨t836, A230, H⟩ := H
      (try dsimp only at H)
      have A23 := Aside0.mk A230
      clear A230
      by_cases c24 : t836 = true
      ·subst c24
       rw [if_pos rfl] at H
       by_cases c25 : t791 = t803
       ·rw [if_pos c25] at H
        have c25b0 : (t791 == t803) = true := beq_iff_eq.mpr c25
        have c25b1 : (t791 != t803) = false := bne_eq_false_iff_eq.mpr c25
        clear c25
        replace H := Option.bind_eq_some_iff.mp H
        obtain ⟨t837, A260, H⟩ := H
        (try dsimp only at H)
        have A26 := Aside0.mk A260
        clear A260
        by_cases c27 : t837 = true
        ·subst c27
         rw [if_pos rfl] at H
         obtain rfl := Option.some.inj H
         go_enter Try.func8, Try.ntmps8
         try go_wp2_with (first | ((with_reducible refine gate_dst (N := 3) rfl ?_); refine boxE 3 #[.int .i64 a0_0, .slice A0_1 l0_1.length c0_1, .slice A0_2 l0_2.length c0_2, .slice A0_3 l0_3.length c0_3] 25 ?_; intro gb743 hg w28 hbox hb; have BK743 := Aside0.mk (hbox); have GW743 := gw hg HB; have GE743 := gw hg HB; replace HB := hbS HB hb; clear hb hbox hg) | ((with_reducible refine gate_dst (N := 4) rfl ?_); refine boxE 4 #[.int .i64 a1_0, .int .i64 a1_1, .int .i64 a1_2, .int .i64 a1_3] 27 ?_; intro gb744 hg w29 hbox hb; have BK744 := Aside0.mk (hbox); have GW744 := gw hg HB; have GE744 := gw hg HB; replace HB := hbS HB hb; have NB743_744 := nbl hg BK743; have NB744_743 := nbg hg BK743; replace BK743 := bkB BK743 hb; clear hb hbox hg) | ((with_reducible refine gate_callee (f := 10) rfl ?_); refine goesL_ (some 19) rfl rfl Try.func10 (by kernel_rfl) rfl #[] rfl sma ?_; (with_reducible refine (hopmeshlaw12_awake.calls k  true _ A4.out).mono ?_); rintro e w30 ⟨rfl, hb⟩; refine ⟨_, rfl, ?_⟩; replace BK743 := bkB BK743 hb; replace BK744 := bkB BK744 hb; replace HB := hbS HB hb; (try clear hb); (try clear hb2); (try clear hk); (try clear hi); have hnb31 := NB743_744.out; have hnc31 := NB744_743.out; obtain ⟨z0, z1, z2, z3, y0, y1, y2, y3⟩ := bc4 BK743) | ((with_reducible refine gate_callee (f := 11) rfl ?_); refine goesL_ (some 22) rfl rfl Try.func11 (by kernel_rfl) rfl #[.agg #[.int .i64 a0_0, .slice A0_1 l0_1.length c0_1, .slice A0_2 l0_2.length c0_2, .slice A0_3 l0_3.length c0_3]] rfl sma ?_; (with_reducible refine (hopmeshref12_Few.calls a0_0 _ _ l0_1 _ _ l0_2 _ _ l0_3 true _ (cb HR0_1 HB) HC0_1.out (cb HR0_2 HB) HC0_2.out (cb HR0_3 HB) HC0_3.out A6.out).mono ?_); rintro e w33 ⟨rfl, hb⟩; refine ⟨_, rfl, ?_⟩; replace BK743 := bkB BK743 hb; replace BK744 := bkB BK744 hb; replace HB := hbS HB hb; (try clear hb); (try clear hb2); (try clear hk); (try clear hi)))
         replace BK743 := Aside0.mk (blk_drew BK743.out)
         replace BK744 := Aside0.mk (blk_drew BK744.out)
         replace HB := Aside0.mk (below_drew1 HB.out)
         refine start_ (n := 14) (S := fun w' => w'.cell? ⟨gb743, 0, none⟩ = some (.int .i64 a0_0) ∧ w'.cell? ⟨gb743, 1, none⟩ = some (.slice A0_1 l0_1.length c0_1) ∧ w'.cell? ⟨gb743, 2, none⟩ = some (.slice A0_2 l0_2.length c0_2) ∧ w'.cell? ⟨gb743, 3, none⟩ = some (.slice A0_3 l0_3.length c0_3) ∧ w'.cell? ⟨gb744, 0, none⟩ = some (.int .i64 a1_0) ∧ w'.cell? ⟨gb744, 1, none⟩ = some (.int .i64 a1_1) ∧ w'.cell? ⟨gb744, 2, none⟩ = some (.int .i64 a1_2) ∧ w'.cell? ⟨gb744, 3, none⟩ = some (.int .i64 a1_3)) (ds := []) #[false, false, false, false, false, false, false, false, false, false, false, false, false, false] (by kernel_rfl) rfl rfl ⟨(blk_cell BK743.out 0).trans rfl, (blk_cell BK743.out 1).trans rfl, (blk_cell BK743.out 2).trans rfl, (blk_cell BK743.out 3).trans rfl, (blk_cell BK744.out 0).trans rfl, (blk_cell BK744.out 1).trans rfl, (blk_cell BK744.out 2).trans rfl, (blk_cell BK744.out 3).trans rfl⟩ (fun hHeld => ?_); refine with_tabW hopmeshlaw12_QualityLearns.tab5 hopmeshlaw12_QualityLearns.bits5 (fun HT_ HW_ => ?_)
         generalize w33.drew = w34 at BK743 BK744 HB hHeld ⊢
         refine pur 2 (some 27) #[false, false, true, false, false, false, false, false, false, false, false, false, false, false] HT_ ?_
         refine pur 3 (some 28) #[false, false, true, true, false, false, false, false, false, false, false, false, false, false] HT_ ?_
         refine tak 0 (some 25) #[true, false, true, true, false, false, false, false, false, false, false, false, false, false] HT_ HW_ hHeld rfl (Or.inl ⟨by rfl, by rintro w' ⟨s0, s1, s2, s3, s4, s5, s6, s7⟩; go_simp; with_reducible rfl⟩) ?_
         refine tak 4 (some 29) #[true, false, true, true, true, false, false, false, false, false, false, false, false, false] HT_ HW_ hHeld rfl (Or.inl ⟨by rfl, by rintro w' ⟨s0, s1, s2, s3, s4, s5, s6, s7⟩; go_simp; with_reducible rfl⟩) ?_
         refine pur 5 (some 30) #[true, false, true, true, true, true, false, false, false, false, false, false, false, false] HT_ ?_
         refine pur 6 (some 31) #[true, false, true, true, true, true, true, false, false, false, false, false, false, false] HT_ ?_
         refine join_ (σ := Value × Value × Value × Value × Value × Value × Nat) 2 #[true, true, true, true, true, true, true, true, true, true, true, true, false, false] (fun s_ => [(26, .agg #[.int .i64 t747, s_.1, s_.2.1, s_.2.2.1]), (32, .tuple #[.agg #[.int .i64 t757, s_.2.2.2.1, s_.2.2.2.2.1, s_.2.2.2.2.2.1], .int .i64 t767]), (7, .pointer (some ⟨s_.2.2.2.2.2.2, 0, none⟩)), (24, .tuple #[.agg #[.int .i64 t757, s_.2.2.2.1, s_.2.2.2.2.1, s_.2.2.2.2.2.1], .int .i64 t767]), (33, .agg #[.int .i64 t757, s_.2.2.2.1, s_.2.2.2.2.1, s_.2.2.2.2.2.1]), (34, .int .i64 t767)]) (fun s_ w' => (w'.cell? ⟨gb743, 0, none⟩ = some (.int .i64 a0_0) ∧ w'.cell? ⟨gb743, 1, none⟩ = some (.slice A0_1 l0_1.length c0_1) ∧ w'.cell? ⟨gb743, 2, none⟩ = some (.slice A0_2 l0_2.length c0_2) ∧ w'.cell? ⟨gb743, 3, none⟩ = some (.slice A0_3 l0_3.length c0_3) ∧ w'.cell? ⟨gb744, 0, none⟩ = some (.int .i64 a1_0) ∧ w'.cell? ⟨gb744, 1, none⟩ = some (.int .i64 a1_1) ∧ w'.cell? ⟨gb744, 2, none⟩ = some (.int .i64 a1_2) ∧ w'.cell? ⟨gb744, 3, none⟩ = some (.int .i64 a1_3)) ∧ (Kd.R k34 34 w' w.heap.size (fun k_ => some k_ ≠ (s_.2.2.2.1 : Value).ownBlock) s_.1 t748) ∧ (Kd.R (Kd.int .i64) 3 w' w.heap.size (fun k_ => some k_ ≠ (s_.2.2.1 : Value).ownBlock ∧ some k_ ≠ (s_.2.2.2.2.1 : Value).ownBlock ∧ some k_ ≠ (s_.2.2.2.2.2.1 : Value).ownBlock) s_.2.1 t751) ∧ (Kd.R (Kd.int .i64) 3 w' w.heap.size (fun k_ => some k_ ≠ (s_.2.1 : Value).ownBlock ∧ some k_ ≠ (s_.2.2.2.2.1 : Value).ownBlock ∧ some k_ ≠ (s_.2.2.2.2.2.1 : Value).ownBlock) s_.2.2.1 t754) ∧ (Kd.R k34 34 w' w.heap.size (fun k_ => some k_ ≠ (s_.1 : Value).ownBlock) s_.2.2.2.1 t758) ∧ (Kd.R (Kd.int .i64) 3 w' w.heap.size (fun k_ => some k_ ≠ (s_.2.1 : Value).ownBlock ∧ some k_ ≠ (s_.2.2.1 : Value).ownBlock ∧ some k_ ≠ (s_.2.2.2.2.2.1 : Value).ownBlock) s_.2.2.2.2.1 t761) ∧ (Kd.R (Kd.int .i64) 3 w' w.heap.size (fun k_ => some k_ ≠ (s_.2.1 : Value).ownBlock ∧ some k_ ≠ (s_.2.2.1 : Value).ownBlock ∧ some k_ ≠ (s_.2.2.2.2.1 : Value).ownBlock) s_.2.2.2.2.2.1 t764) ∧ (w'.heap[gb743]? = some (.cells #[.int .i64 a0_0, .slice A0_1 l0_1.length c0_1, .slice A0_2 l0_2.length c0_2, .slice A0_3 l0_3.length c0_3] 25 (0, 0))) ∧ (w'.heap[gb744]? = some (.cells #[.int .i64 a1_0, .int .i64 a1_1, .int .i64 a1_2, .int .i64 a1_3] 27 (0, 0))) ∧ (w'.heap[s_.2.2.2.2.2.2]? = some (.cells #[.int .i64 0, .slice none 0 0, .slice none 0 0, .slice none 0 0] 25 (0, 0))) ∧ (w.heap.size ≤ s_.2.2.2.2.2.2) ∧ (w.heap.size ≤ s_.2.2.2.2.2.2) ∧ (gb743 ≠ s_.2.2.2.2.2.2) ∧ (s_.2.2.2.2.2.2 ≠ gb743) ∧ (gb744 ≠ s_.2.2.2.2.2.2) ∧ (s_.2.2.2.2.2.2 ≠ gb744) ∧ (Below w.heap.size w w')) ?_ ?_
         rotate_left
         ·intro hCont
          refine two_ (i := 1) (j := 11) (Ni := some 26) (Nj := some 7) #[true, true, true, true, true, true, true, false, false, false, false, false, false, false] #[true, false, true, true, true, true, true, false, false, false, false, true, false, false] rfl rfl rfl rfl (two_of HT_.out (by kernel_rfl)) (by decide) (by decide) (fun K hK => ?_) (fun K hK => ?_)
          ·skip
           refine goes_ Try.func13 (by kernel_rfl) rfl #[.agg #[.int .i64 a0_0, .slice A0_1 l0_1.length c0_1, .slice A0_2 l0_2.length c0_2, .slice A0_3 l0_3.length c0_3]] (by rfl) rfl rfl sma ?_
           with_reducible refine (hopmeshref12_Copy.calls a0_0 _ _ l0_1 _ _ l0_2 _ _ l0_3 t747 t748 t751 t754 _ ?side1 ?side2 ?side3 ?side4 ?side5 ?side6 A8.out).mono ?_
           (case side1 => repeat (first | exact (Kd.C_below HR0_1.out HB.out) | (with_reducible refine Kd.C_alloc ?_ _) | (with_reducible refine Kd.C_drewN ?_ _) | (with_reducible refine Kd.C_drew ?_)))
           (case side2 => exact HC0_1.out)
           (case side3 => repeat (first | exact (Kd.C_below HR0_2.out HB.out) | (with_reducible refine Kd.C_alloc ?_ _) | (with_reducible refine Kd.C_drewN ?_ _) | (with_reducible refine Kd.C_drew ?_)))
           (case side4 => exact HC0_2.out)
           (case side5 => repeat (first | exact (Kd.C_below HR0_3.out HB.out) | (with_reducible refine Kd.C_alloc ?_ _) | (with_reducible refine Kd.C_drewN ?_ _) | (with_reducible refine Kd.C_drew ?_)))
           (case side6 => exact HC0_3.out)
           rintro e w35 ⟨v749, v752, v755, rfl, ho0, ho1, ho2, hb⟩
           refine ⟨_, rfl, ?_⟩
           have HO750 := Aside0.mk (Kd.R_lower ho0 (below_size (hbx HB)))
           have HO753 := Aside0.mk (Kd.R_lower ho1 (below_size (hbx HB)))
           have HO756 := Aside0.mk (Kd.R_lower ho2 (below_size (hbx HB)))
           replace BK743 := bkB BK743 hb
           replace BK744 := bkB BK744 hb
           replace HB := hbS HB hb
           (try clear hb)
           (try clear hb2)
           (try clear hk)
           (try clear hi)
           (try clear ho0)
           (try clear ho1)
           (try clear ho2)
           obtain ⟨Ao36, co36, eo36⟩ := Kd.R_slice HO750.out
           (first | subst eo36 | (injection eo36 with f1_ f2_ f3_; have f4_ := f1_.symm; have f5_ := f3_.symm; clear f1_ f2_ f3_; subst f4_; subst f5_))
           obtain ⟨Ao37, co37, eo37⟩ := Kd.R_slice HO753.out
           (first | subst eo37 | (injection eo37 with f1_ f2_ f3_; have f4_ := f1_.symm; have f5_ := f3_.symm; clear f1_ f2_ f3_; subst f4_; subst f5_))
           obtain ⟨Ao38, co38, eo38⟩ := Kd.R_slice HO756.out
           (first | subst eo38 | (injection eo38 with f1_ f2_ f3_; have f4_ := f1_.symm; have f5_ := f3_.symm; clear f1_ f2_ f3_; subst f4_; subst f5_))
           refine hK.out _ _ ⟨(blk_cell BK743.out 0).trans rfl, (blk_cell BK743.out 1).trans rfl, (blk_cell BK743.out 2).trans rfl, (blk_cell BK743.out 3).trans rfl, (blk_cell BK744.out 0).trans rfl, (blk_cell BK744.out 1).trans rfl, (blk_cell BK744.out 2).trans rfl, (blk_cell BK744.out 3).trans rfl⟩ (fun hHeld => ?_)
           clear hK K
           refine nrm (some 26) ?_
           refine two_ (i := 7) (j := 11) (Ni := some 32) (Nj := some 7) #[true, true, true, true, true, true, true, true, false, false, false, false, false, false] #[true, true, true, true, true, true, true, false, false, false, false, true, false, false] rfl rfl rfl rfl (two_of HT_.out (by kernel_rfl)) (by decide) (by decide) (fun K hK => ?_) (fun K hK => ?_)
           ·skip
            refine goes_ Try.func35 (by kernel_rfl) rfl #[.agg #[.int .i64 t747, .slice Ao36 t748.length co36, .slice Ao37 t751.length co37, .slice Ao38 t754.length co38], .int .i64 a2, .bool ((Int.tmod a1_1 2) == 0)] (by rfl) rfl rfl sma ?_
            with_reducible refine (quality_Note.calls k t747 _ _ t748 _ _ t751 _ _ t754 a2 ((Int.tmod a1_1 2) == 0) t757 t758 t761 t764 t767 _ ?side1 ?side2 ?side3 ?side4 ?side5 ?side6 A9.out).mono ?_
            (case side1 => repeat (first | exact (Kd.R_reads' HO750.out).2.2 | (with_reducible refine Kd.C_alloc ?_ _) | (with_reducible refine Kd.C_drewN ?_ _) | (with_reducible refine Kd.C_drew ?_)))
            (case side2 => exact (Kd.R_reads' HO750.out).2.1)
            (case side3 => repeat (first | exact (Kd.R_reads' HO753.out).2.2 | (with_reducible refine Kd.C_alloc ?_ _) | (with_reducible refine Kd.C_drewN ?_ _) | (with_reducible refine Kd.C_drew ?_)))
            (case side4 => exact (Kd.R_reads' HO753.out).2.1)
            (case side5 => repeat (first | exact (Kd.R_reads' HO756.out).2.2 | (with_reducible refine Kd.C_alloc ?_ _) | (with_reducible refine Kd.C_drewN ?_ _) | (with_reducible refine Kd.C_drew ?_)))
            (case side6 => exact (Kd.R_reads' HO756.out).2.1)
            rintro e w39 ⟨v759, v762, v765, rfl, ho0, ho1, ho2, hb⟩
            refine ⟨_, rfl, ?_⟩
            have HO760 := Aside0.mk (Kd.R_lower (Kd.R_new' ho0 (Kd.R_lt (ro HO750))) (below_size (hbx HB)))
            replace HO750 := Aside0.mk (Kd.R_elder' (ro HO750) (Kd.R_base ho0) hb)
            have HO763 := Aside0.mk (Kd.R_lower (Kd.R_new' (Kd.R_new' ho1 (Kd.R_lt (ro HO753))) (Kd.R_lt (ro HO756))) (below_size (hbx HB)))
            have HO766 := Aside0.mk (Kd.R_lower (Kd.R_new' (Kd.R_new' ho2 (Kd.R_lt (ro HO753))) (Kd.R_lt (ro HO756))) (below_size (hbx HB)))
            replace HO753 := Aside0.mk (Kd.R_mono (Kd.R_told (Kd.R_told (Kd.R_old (ro HO753) hb) (Kd.R_base ho1)) (Kd.R_base ho2)) (fun _ h_ => h_.1))
            replace HO756 := Aside0.mk (Kd.R_mono (Kd.R_told (Kd.R_told (Kd.R_old (ro HO756) hb) (Kd.R_base ho1)) (Kd.R_base ho2)) (fun _ h_ => h_.1))
            replace BK743 := bkB BK743 hb
            replace BK744 := bkB BK744 hb
            replace HB := hbS HB hb
            (try clear hb)
            (try clear hb2)
            (try clear hk)
            (try clear hi)
            (try clear ho0)
            (try clear ho1)
            (try clear ho2)
            refine hK.out _ _ ⟨(blk_cell BK743.out 0).trans rfl, (blk_cell BK743.out 1).trans rfl, (blk_cell BK743.out 2).trans rfl, (blk_cell BK743.out 3).trans rfl, (blk_cell BK744.out 0).trans rfl, (blk_cell BK744.out 1).trans rfl, (blk_cell BK744.out 2).trans rfl, (blk_cell BK744.out 3).trans rfl⟩ (fun hHeld => ?_)
            clear hK K
            refine nrm (some 32) ?_
            refine pur 8 (some 24) #[true, true, true, true, true, true, true, true, true, false, false, false, false, false] HT_ ?_
            refine pur 9 (some 33) #[true, true, true, true, true, true, true, true, true, true, false, false, false, false] HT_ ?_
            refine pur 10 (some 34) #[true, true, true, true, true, true, true, true, true, true, true, false, false, false] HT_ ?_
            refine one_ (i := 11) (N := some 7) #[true, true, true, true, true, true, true, true, true, true, true, true, false, false] rfl rfl (one_of HT_.out (by kernel_rfl)) (by decide) (fun K hK => ?_)
            refine boxS 7 #[.int .i64 0, .slice none 0 0, .slice none 0 0, .slice none 0 0] 25 ?_
            intro gb768 hg w40 hbox hb
            replace HO750 := rB HO750 hb
            replace HO753 := rB HO753 hb
            replace HO756 := rB HO756 hb
            replace HO760 := rB HO760 hb
            replace HO763 := rB HO763 hb
            replace HO766 := rB HO766 hb
            have BK768 := Aside0.mk (hbox)
            have GW768 := gw hg HB
            have GE768 := gw hg HB
            replace HB := hbS HB hb
            have NB743_768 := nbl hg BK743
            have NB768_743 := nbg hg BK743
            replace BK743 := bkB BK743 hb
            have NB744_768 := nbl hg BK744
            have NB768_744 := nbg hg BK744
            replace BK744 := bkB BK744 hb
            clear hb hbox hg
            refine hK.out _ _ ⟨(blk_cell BK743.out 0).trans rfl, (blk_cell BK743.out 1).trans rfl, (blk_cell BK743.out 2).trans rfl, (blk_cell BK743.out 3).trans rfl, (blk_cell BK744.out 0).trans rfl, (blk_cell BK744.out 1).trans rfl, (blk_cell BK744.out 2).trans rfl, (blk_cell BK744.out 3).trans rfl⟩ (fun hHeld => ?_)
            clear hK K
            refine nrm (some 7) ?_
            exact npu (hCont (.slice Ao36 t748.length co36, .slice Ao37 t751.length co37, .slice Ao38 t754.length co38, v759, v762, v765, gb768) _ ⟨hHeld, (by (with_reducible repeat (first | apply Kd.R_alloc | apply Kd.R_drewN | apply Kd.R_drew)); exact Kd.R_mono HO750.out (fun _ hk => hk.2)), (by (with_reducible repeat (first | apply Kd.R_alloc | apply Kd.R_drewN | apply Kd.R_drew)); exact Kd.R_mono HO753.out (fun _ hk => ⟨hk.1.1, ⟨hk.1.2, hk.2⟩⟩)), (by (with_reducible repeat (first | apply Kd.R_alloc | apply Kd.R_drewN | apply Kd.R_drew)); exact Kd.R_mono HO756.out (fun _ hk => ⟨hk.1.1, ⟨hk.1.2, hk.2⟩⟩)), (by (with_reducible repeat (first | apply Kd.R_alloc | apply Kd.R_drewN | apply Kd.R_drew)); exact Kd.R_mono HO760.out (fun _ hk => hk.2)), (by (with_reducible repeat (first | apply Kd.R_alloc | apply Kd.R_drewN | apply Kd.R_drew)); exact Kd.R_mono HO763.out (fun _ hk => ⟨hk.1.2, ⟨hk.2, hk.1.1⟩⟩)), (by (with_reducible repeat (first | apply Kd.R_alloc | apply Kd.R_drewN | apply Kd.R_drew)); exact Kd.R_mono HO766.out (fun _ hk => ⟨hk.1.2, ⟨hk.2, hk.1.1⟩⟩)), (bk BK743), (bk BK744), (bk BK768), GW768.out, GE768.out, NB743_768.out, NB768_743.out, NB744_768.out, NB768_744.out, (hbx HB)⟩)
           ·skip
            refine boxS 7 #[.int .i64 0, .slice none 0 0, .slice none 0 0, .slice none 0 0] 25 ?_
            intro gb768 hg w36 hbox hb
            replace HO750 := rB HO750 hb
            replace HO753 := rB HO753 hb
            replace HO756 := rB HO756 hb
            have BK768 := Aside0.mk (hbox)
            have GW768 := gw hg HB
            have GE768 := gw hg HB
            replace HB := hbS HB hb
            have NB743_768 := nbl hg BK743
            have NB768_743 := nbg hg BK743
            replace BK743 := bkB BK743 hb
            have NB744_768 := nbl hg BK744
            have NB768_744 := nbg hg BK744
            replace BK744 := bkB BK744 hb
            clear hb hbox hg
            obtain ⟨Ao37, co37, eo37⟩ := Kd.R_slice HO750.out
            (first | subst eo37 | (injection eo37 with f1_ f2_ f3_; have f4_ := f1_.symm; have f5_ := f3_.symm; clear f1_ f2_ f3_; subst f4_; subst f5_))
            obtain ⟨Ao38, co38, eo38⟩ := Kd.R_slice HO753.out
            (first | subst eo38 | (injection eo38 with f1_ f2_ f3_; have f4_ := f1_.symm; have f5_ := f3_.symm; clear f1_ f2_ f3_; subst f4_; subst f5_))
            obtain ⟨Ao39, co39, eo39⟩ := Kd.R_slice HO756.out
            (first | subst eo39 | (injection eo39 with f1_ f2_ f3_; have f4_ := f1_.symm; have f5_ := f3_.symm; clear f1_ f2_ f3_; subst f4_; subst f5_))
            refine hK.out _ _ ⟨(blk_cell BK743.out 0).trans rfl, (blk_cell BK743.out 1).trans rfl, (blk_cell BK743.out 2).trans rfl, (blk_cell BK743.out 3).trans rfl, (blk_cell BK744.out 0).trans rfl, (blk_cell BK744.out 1).trans rfl, (blk_cell BK744.out 2).trans rfl, (blk_cell BK744.out 3).trans rfl⟩ (fun hHeld => ?_)
            clear hK K
            refine nrm (some 7) ?_
            refine one_ (i := 7) (N := some 32) #[true, true, true, true, true, true, true, true, false, false, false, true, false, false] rfl rfl (one_of HT_.out (by kernel_rfl)) (by decide) (fun K hK => ?_)
            refine goes_ Try.func35 (by kernel_rfl) rfl #[.agg #[.int .i64 t747, .slice Ao37 t748.length co37, .slice Ao38 t751.length co38, .slice Ao39 t754.length co39], .int .i64 a2, .bool ((Int.tmod a1_1 2) == 0)] (by rfl) rfl rfl sma ?_
            with_reducible refine (quality_Note.calls k t747 _ _ t748 _ _ t751 _ _ t754 a2 ((Int.tmod a1_1 2) == 0) t757 t758 t761 t764 t767 _ ?side1 ?side2 ?side3 ?side4 ?side5 ?side6 A9.out).mono ?_
            (case side1 => repeat (first | exact (Kd.R_reads' HO750.out).2.2 | (with_reducible refine Kd.C_alloc ?_ _) | (with_reducible refine Kd.C_drewN ?_ _) | (with_reducible refine Kd.C_drew ?_)))
            (case side2 => exact (Kd.R_reads' HO750.out).2.1)
            (case side3 => repeat (first | exact (Kd.R_reads' HO753.out).2.2 | (with_reducible refine Kd.C_alloc ?_ _) | (with_reducible refine Kd.C_drewN ?_ _) | (with_reducible refine Kd.C_drew ?_)))
            (case side4 => exact (Kd.R_reads' HO753.out).2.1)
            (case side5 => repeat (first | exact (Kd.R_reads' HO756.out).2.2 | (with_reducible refine Kd.C_alloc ?_ _) | (with_reducible refine Kd.C_drewN ?_ _) | (with_reducible refine Kd.C_drew ?_)))
            (case side6 => exact (Kd.R_reads' HO756.out).2.1)
            rintro e w40 ⟨v759, v762, v765, rfl, ho0, ho1, ho2, hb⟩
            refine ⟨_, rfl, ?_⟩
            have HO760 := Aside0.mk (Kd.R_lower (Kd.R_new' ho0 (Kd.R_lt (ro HO750))) (below_size (hbx HB)))
            replace HO750 := Aside0.mk (Kd.R_elder' (ro HO750) (Kd.R_base ho0) hb)
            have HO763 := Aside0.mk (Kd.R_lower (Kd.R_new' (Kd.R_new' ho1 (Kd.R_lt (ro HO753))) (Kd.R_lt (ro HO756))) (below_size (hbx HB)))
            have HO766 := Aside0.mk (Kd.R_lower (Kd.R_new' (Kd.R_new' ho2 (Kd.R_lt (ro HO753))) (Kd.R_lt (ro HO756))) (below_size (hbx HB)))
            replace HO753 := Aside0.mk (Kd.R_mono (Kd.R_told (Kd.R_told (Kd.R_old (ro HO753) hb) (Kd.R_base ho1)) (Kd.R_base ho2)) (fun _ h_ => h_.1))
            replace HO756 := Aside0.mk (Kd.R_mono (Kd.R_told (Kd.R_told (Kd.R_old (ro HO756) hb) (Kd.R_base ho1)) (Kd.R_base ho2)) (fun _ h_ => h_.1))
            replace BK743 := bkB BK743 hb
            replace BK744 := bkB BK744 hb
            replace BK768 := bkB BK768 hb
            replace HB := hbS HB hb
            (try clear hb)
            (try clear hb2)
            (try clear hk)
            (try clear hi)
            (try clear ho0)
            (try clear ho1)
            (try clear ho2)
            refine hK.out _ _ ⟨(blk_cell BK743.out 0).trans rfl, (blk_cell BK743.out 1).trans rfl, (blk_cell BK743.out 2).trans rfl, (blk_cell BK743.out 3).trans rfl, (blk_cell BK744.out 0).trans rfl, (blk_cell BK744.out 1).trans rfl, (blk_cell BK744.out 2).trans rfl, (blk_cell BK744.out 3).trans rfl⟩ (fun hHeld => ?_)
            clear hK K
            refine nrm (some 32) ?_
            refine pur 8 (some 24) #[true, true, true, true, true, true, true, true, true, false, false, true, false, false] HT_ ?_
            refine pur 9 (some 33) #[true, true, true, true, true, true, true, true, true, true, false, true, false, false] HT_ ?_
            refine pur 10 (some 34) #[true, true, true, true, true, true, true, true, true, true, true, true, false, false] HT_ ?_
            exact npu (hCont (.slice Ao37 t748.length co37, .slice Ao38 t751.length co38, .slice Ao39 t754.length co39, v759, v762, v765, gb768) _ ⟨hHeld, (by (with_reducible repeat (first | apply Kd.R_alloc | apply Kd.R_drewN | apply Kd.R_drew)); exact Kd.R_mono HO750.out (fun _ hk => hk.2)), (by (with_reducible repeat (first | apply Kd.R_alloc | apply Kd.R_drewN | apply Kd.R_drew)); exact Kd.R_mono HO753.out (fun _ hk => ⟨hk.1.1, ⟨hk.1.2, hk.2⟩⟩)), (by (with_reducible repeat (first | apply Kd.R_alloc | apply Kd.R_drewN | apply Kd.R_drew)); exact Kd.R_mono HO756.out (fun _ hk => ⟨hk.1.1, ⟨hk.1.2, hk.2⟩⟩)), (by (with_reducible repeat (first | apply Kd.R_alloc | apply Kd.R_drewN | apply Kd.R_drew)); exact Kd.R_mono HO760.out (fun _ hk => hk.2)), (by (with_reducible repeat (first | apply Kd.R_alloc | apply Kd.R_drewN | apply Kd.R_drew)); exact Kd.R_mono HO763.out (fun _ hk => ⟨hk.1.2, ⟨hk.2, hk.1.1⟩⟩)), (by (with_reducible repeat (first | apply Kd.R_alloc | apply Kd.R_drewN | apply Kd.R_drew)); exact Kd.R_mono HO766.out (fun _ hk => ⟨hk.1.2, ⟨hk.2, hk.1.1⟩⟩)), (bk BK743), (bk BK744), (bk BK768), GW768.out, GE768.out, NB743_768.out, NB768_743.out, NB744_768.out, NB768_744.out, (hbx HB)⟩)
          ·skip
           refine boxS 7 #[.int .i64 0, .slice none 0 0, .slice none 0 0, .slice none 0 0] 25 ?_
           intro gb768 hg w35 hbox hb
           have BK768 := Aside0.mk (hbox)
           have GW768 := gw hg HB
           have GE768 := gw hg HB
           replace HB := hbS HB hb
           have NB743_768 := nbl hg BK743
           have NB768_743 := nbg hg BK743
           replace BK743 := bkB BK743 hb
           have NB744_768 := nbl hg BK744
           have NB768_744 := nbg hg BK744
           replace BK744 := bkB BK744 hb
           clear hb hbox hg
           refine hK.out _ _ ⟨(blk_cell BK743.out 0).trans rfl, (blk_cell BK743.out 1).trans rfl, (blk_cell BK743.out 2).trans rfl, (blk_cell BK743.out 3).trans rfl, (blk_cell BK744.out 0).trans rfl, (blk_cell BK744.out 1).trans rfl, (blk_cell BK744.out 2).trans rfl, (blk_cell BK744.out 3).trans rfl⟩ (fun hHeld => ?_)
           clear hK K
           refine nrm (some 7) ?_
           refine one_ (i := 1) (N := some 26) #[true, true, true, true, true, true, true, false, false, false, false, true, false, false] rfl rfl (one_of HT_.out (by kernel_rfl)) (by decide) (fun K hK => ?_)
           refine goes_ Try.func13 (by kernel_rfl) rfl #[.agg #[.int .i64 a0_0, .slice A0_1 l0_1.length c0_1, .slice A0_2 l0_2.length c0_2, .slice A0_3 l0_3.length c0_3]] (by rfl) rfl rfl sma ?_
           with_reducible refine (hopmeshref12_Copy.calls a0_0 _ _ l0_1 _ _ l0_2 _ _ l0_3 t747 t748 t751 t754 _ ?side1 ?side2 ?side3 ?side4 ?side5 ?side6 A8.out).mono ?_
           (case side1 => repeat (first | exact (Kd.C_below HR0_1.out HB.out) | (with_reducible refine Kd.C_alloc ?_ _) | (with_reducible refine Kd.C_drewN ?_ _) | (with_reducible refine Kd.C_drew ?_)))
           (case side2 => exact HC0_1.out)
           (case side3 => repeat (first | exact (Kd.C_below HR0_2.out HB.out) | (with_reducible refine Kd.C_alloc ?_ _) | (with_reducible refine Kd.C_drewN ?_ _) | (with_reducible refine Kd.C_drew ?_)))
           (case side4 => exact HC0_2.out)
           (case side5 => repeat (first | exact (Kd.C_below HR0_3.out HB.out) | (with_reducible refine Kd.C_alloc ?_ _) | (with_reducible refine Kd.C_drewN ?_ _) | (with_reducible refine Kd.C_drew ?_)))
           (case side6 => exact HC0_3.out)
           rintro e w36 ⟨v749, v752, v755, rfl, ho0, ho1, ho2, hb⟩
           refine ⟨_, rfl, ?_⟩
           have HO750 := Aside0.mk (Kd.R_lower ho0 (below_size (hbx HB)))
           have HO753 := Aside0.mk (Kd.R_lower ho1 (below_size (hbx HB)))
           have HO756 := Aside0.mk (Kd.R_lower ho2 (below_size (hbx HB)))
           replace BK743 := bkB BK743 hb
           replace BK744 := bkB BK744 hb
           replace BK768 := bkB BK768 hb
           replace HB := hbS HB hb
           (try clear hb)
           (try clear hb2)
           (try clear hk)
           (try clear hi)
           (try clear ho0)
           (try clear ho1)
           (try clear ho2)
           obtain ⟨Ao37, co37, eo37⟩ := Kd.R_slice HO750.out
           (first | subst eo37 | (injection eo37 with f1_ f2_ f3_; have f4_ := f1_.symm; have f5_ := f3_.symm; clear f1_ f2_ f3_; subst f4_; subst f5_))
           obtain ⟨Ao38, co38, eo38⟩ := Kd.R_slice HO753.out
           (first | subst eo38 | (injection eo38 with f1_ f2_ f3_; have f4_ := f1_.symm; have f5_ := f3_.symm; clear f1_ f2_ f3_; subst f4_; subst f5_))
           obtain ⟨Ao39, co39, eo39⟩ := Kd.R_slice HO756.out
           (first | subst eo39 | (injection eo39 with f1_ f2_ f3_; have f4_ := f1_.symm; have f5_ := f3_.symm; clear f1_ f2_ f3_; subst f4_; subst f5_))
           refine hK.out _ _ ⟨(blk_cell BK743.out 0).trans rfl, (blk_cell BK743.out 1).trans rfl, (blk_cell BK743.out 2).trans rfl, (blk_cell BK743.out 3).trans rfl, (blk_cell BK744.out 0).trans rfl, (blk_cell BK744.out 1).trans rfl, (blk_cell BK744.out 2).trans rfl, (blk_cell BK744.out 3).trans rfl⟩ (fun hHeld => ?_)
           clear hK K
           refine nrm (some 26) ?_
           refine one_ (i := 7) (N := some 32) #[true, true, true, true, true, true, true, true, false, false, false, true, false, false] rfl rfl (one_of HT_.out (by kernel_rfl)) (by decide) (fun K hK => ?_)
           refine goes_ Try.func35 (by kernel_rfl) rfl #[.agg #[.int .i64 t747, .slice Ao37 t748.length co37, .slice Ao38 t751.length co38, .slice Ao39 t754.length co39], .int .i64 a2, .bool ((Int.tmod a1_1 2) == 0)] (by rfl) rfl rfl sma ?_
           with_reducible refine (quality_Note.calls k t747 _ _ t748 _ _ t751 _ _ t754 a2 ((Int.tmod a1_1 2) == 0) t757 t758 t761 t764 t767 _ ?side1 ?side2 ?side3 ?side4 ?side5 ?side6 A9.out).mono ?_
           (case side1 => repeat (first | exact (Kd.R_reads' HO750.out).2.2 | (with_reducible refine Kd.C_alloc ?_ _) | (with_reducible refine Kd.C_drewN ?_ _) | (with_reducible refine Kd.C_drew ?_)))
           (case side2 => exact (Kd.R_reads' HO750.out).2.1)
           (case side3 => repeat (first | exact (Kd.R_reads' HO753.out).2.2 | (with_reducible refine Kd.C_alloc ?_ _) | (with_reducible refine Kd.C_drewN ?_ _) | (with_reducible refine Kd.C_drew ?_)))
           (case side4 => exact (Kd.R_reads' HO753.out).2.1)
           (case side5 => repeat (first | exact (Kd.R_reads' HO756.out).2.2 | (with_reducible refine Kd.C_alloc ?_ _) | (with_reducible refine Kd.C_drewN ?_ _) | (with_reducible refine Kd.C_drew ?_)))
           (case side6 => exact (Kd.R_reads' HO756.out).2.1)
           rintro e w40 ⟨v759, v762, v765, rfl, ho0, ho1, ho2, hb⟩
           refine ⟨_, rfl, ?_⟩
           have HO760 := Aside0.mk (Kd.R_lower (Kd.R_new' ho0 (Kd.R_lt (ro HO750))) (below_size (hbx HB)))
           replace HO750 := Aside0.mk (Kd.R_elder' (ro HO750) (Kd.R_base ho0) hb)
           have HO763 := Aside0.mk (Kd.R_lower (Kd.R_new' (Kd.R_new' ho1 (Kd.R_lt (ro HO753))) (Kd.R_lt (ro HO756))) (below_size (hbx HB)))
           have HO766 := Aside0.mk (Kd.R_lower (Kd.R_new' (Kd.R_new' ho2 (Kd.R_lt (ro HO753))) (Kd.R_lt (ro HO756))) (below_size (hbx HB)))
           replace HO753 := Aside0.mk (Kd.R_mono (Kd.R_told (Kd.R_told (Kd.R_old (ro HO753) hb) (Kd.R_base ho1)) (Kd.R_base ho2)) (fun _ h_ => h_.1))
           replace HO756 := Aside0.mk (Kd.R_mono (Kd.R_told (Kd.R_told (Kd.R_old (ro HO756) hb) (Kd.R_base ho1)) (Kd.R_base ho2)) (fun _ h_ => h_.1))
           replace BK743 := bkB BK743 hb
           replace BK744 := bkB BK744 hb
           replace BK768 := bkB BK768 hb
           replace HB := hbS HB hb
           (try clear hb)
           (try clear hb2)
           (try clear hk)
           (try clear hi)
           (try clear ho0)
           (try clear ho1)
           (try clear ho2)
           refine hK.out _ _ ⟨(blk_cell BK743.out 0).trans rfl, (blk_cell BK743.out 1).trans rfl, (blk_cell BK743.out 2).trans rfl, (blk_cell BK743.out 3).trans rfl, (blk_cell BK744.out 0).trans rfl, (blk_cell BK744.out 1).trans rfl, (blk_cell BK744.out 2).trans rfl, (blk_cell BK744.out 3).trans rfl⟩ (fun hHeld => ?_)
           clear hK K
           refine nrm (some 32) ?_
           refine pur 8 (some 24) #[true, true, true, true, true, true, true, true, true, false, false, true, false, false] HT_ ?_
           refine pur 9 (some 33) #[true, true, true, true, true, true, true, true, true, true, false, true, false, false] HT_ ?_
           refine pur 10 (some 34) #[true, true, true, true, true, true, true, true, true, true, true, true, false, false] HT_ ?_
           exact npu (hCont (.slice Ao37 t748.length co37, .slice Ao38 t751.length co38, .slice Ao39 t754.length co39, v759, v762, v765, gb768) _ ⟨hHeld, (by (with_reducible repeat (first | apply Kd.R_alloc | apply Kd.R_drewN | apply Kd.R_drew)); exact Kd.R_mono HO750.out (fun _ hk => hk.2)), (by (with_reducible repeat (first | apply Kd.R_alloc | apply Kd.R_drewN | apply Kd.R_drew)); exact Kd.R_mono HO753.out (fun _ hk => ⟨hk.1.1, ⟨hk.1.2, hk.2⟩⟩)), (by (with_reducible repeat (first | apply Kd.R_alloc | apply Kd.R_drewN | apply Kd.R_drew)); exact Kd.R_mono HO756.out (fun _ hk => ⟨hk.1.1, ⟨hk.1.2, hk.2⟩⟩)), (by (with_reducible repeat (first | apply Kd.R_alloc | apply Kd.R_drewN | apply Kd.R_drew)); exact Kd.R_mono HO760.out (fun _ hk => hk.2)), (by (with_reducible repeat (first | apply Kd.R_alloc | apply Kd.R_drewN | apply Kd.R_drew)); exact Kd.R_mono HO763.out (fun _ hk => ⟨hk.1.2, ⟨hk.2, hk.1.1⟩⟩)), (by (with_reducible repeat (first | apply Kd.R_alloc | apply Kd.R_drewN | apply Kd.R_drew)); exact Kd.R_mono HO766.out (fun _ hk => ⟨hk.1.2, ⟨hk.2, hk.1.1⟩⟩)), (bk BK743), (bk BK744), (bk BK768), GW768.out, GE768.out, NB743_768.out, NB768_743.out, NB744_768.out, NB768_744.out, (hbx HB)⟩)
         rintro ⟨v749, v752, v755, v759, v762, v765, gb768⟩ w41 ⟨hS_, h0_, h1_, h2_, h3_, h4_, h5_, h6_, h7_, h8_, h9_, h10_, h11_, h12_, h13_, h14_, h15_⟩
         have n0_ : Aside0 (Kd.R k34 34 w41 w.heap.size (fun k_ => some k_ ≠ (v759 : Value).ownBlock) v749 t748) := ⟨h0_⟩
         have n1_ : Aside0 (Kd.R (Kd.int .i64) 3 w41 w.heap.size (fun k_ => some k_ ≠ (v755 : Value).ownBlock ∧ some k_ ≠ (v762 : Value).ownBlock ∧ some k_ ≠ (v765 : Value).ownBlock) v752 t751) := ⟨h1_⟩
         have n2_ : Aside0 (Kd.R (Kd.int .i64) 3 w41 w.heap.size (fun k_ => some k_ ≠ (v752 : Value).ownBlock ∧ some k_ ≠ (v762 : Value).ownBlock ∧ some k_ ≠ (v765 : Value).ownBlock) v755 t754) := ⟨h2_⟩
         have n3_ : Aside0 (Kd.R k34 34 w41 w.heap.size (fun k_ => some k_ ≠ (v749 : Value).ownBlock) v759 t758) := ⟨h3_⟩
         have n4_ : Aside0 (Kd.R (Kd.int .i64) 3 w41 w.heap.size (fun k_ => some k_ ≠ (v752 : Value).ownBlock ∧ some k_ ≠ (v755 : Value).ownBlock ∧ some k_ ≠ (v765 : Value).ownBlock) v762 t761) := ⟨h4_⟩
         have n5_ : Aside0 (Kd.R (Kd.int .i64) 3 w41 w.heap.size (fun k_ => some k_ ≠ (v752 : Value).ownBlock ∧ some k_ ≠ (v755 : Value).ownBlock ∧ some k_ ≠ (v762 : Value).ownBlock) v765 t764) := ⟨h5_⟩
         have n6_ : Aside0 (w41.heap[gb743]? = some (.cells #[.int .i64 a0_0, .slice A0_1 l0_1.length c0_1, .slice A0_2 l0_2.length c0_2, .slice A0_3 l0_3.length c0_3] 25 (0, 0))) := ⟨h6_⟩
         have n7_ : Aside0 (w41.heap[gb744]? = some (.cells #[.int .i64 a1_0, .int .i64 a1_1, .int .i64 a1_2, .int .i64 a1_3] 27 (0, 0))) := ⟨h7_⟩
         have n8_ : Aside0 (w41.heap[gb768]? = some (.cells #[.int .i64 0, .slice none 0 0, .slice none 0 0, .slice none 0 0] 25 (0, 0))) := ⟨h8_⟩
         have n9_ : Aside0 (w.heap.size ≤ gb768) := ⟨h9_⟩
         have n10_ : Aside0 (w.heap.size ≤ gb768) := ⟨h10_⟩
         have n11_ : Aside0 (gb743 ≠ gb768) := ⟨h11_⟩
         have n12_ : Aside0 (gb768 ≠ gb743) := ⟨h12_⟩
         have n13_ : Aside0 (gb744 ≠ gb768) := ⟨h13_⟩
         have n14_ : Aside0 (gb768 ≠ gb744) := ⟨h14_⟩
         have n15_ : Aside0 (Below w.heap.size w w41) := ⟨h15_⟩
         clear BK743
         clear BK744
         clear HB
         clear h0_ h1_ h2_ h3_ h4_ h5_ h6_ h7_ h8_ h9_ h10_ h11_ h12_ h13_ h14_ h15_
         have HO750 := n0_
         have HO753 := n1_
         have HO756 := n2_
         have HO760 := n3_
         have HO763 := n4_
         have HO766 := n5_
         have BK743 := n6_
         have BK744 := n7_
         have BK768 := n8_
         have GW768 := n9_
         have GE768 := n10_
         have NB743_768 := n11_
         have NB768_743 := n12_
         have NB744_768 := n13_
         have NB768_744 := n14_
         have HB := n15_
         clear n0_ n1_ n2_ n3_ n4_ n5_ n6_ n7_ n8_ n9_ n10_ n11_ n12_ n13_ n14_ n15_
         have hHeld : w41.cell? ⟨gb743, 0, none⟩ = some (.int .i64 a0_0) ∧ w41.cell? ⟨gb743, 1, none⟩ = some (.slice A0_1 l0_1.length c0_1) ∧ w41.cell? ⟨gb743, 2, none⟩ = some (.slice A0_2 l0_2.length c0_2) ∧ w41.cell? ⟨gb743, 3, none⟩ = some (.slice A0_3 l0_3.length c0_3) ∧ w41.cell? ⟨gb744, 0, none⟩ = some (.int .i64 a1_0) ∧ w41.cell? ⟨gb744, 1, none⟩ = some (.int .i64 a1_1) ∧ w41.cell? ⟨gb744, 2, none⟩ = some (.int .i64 a1_2) ∧ w41.cell? ⟨gb744, 3, none⟩ = some (.int .i64 a1_3) := hS_
         obtain ⟨Ao43, co43, eo43⟩ := Kd.R_slice HO760.out
         (first | subst eo43 | (injection eo43 with f1_ f2_ f3_; have f4_ := f1_.symm; have f5_ := f3_.symm; clear f1_ f2_ f3_; subst f4_; subst f5_))
         obtain ⟨Ao45, co45, eo45⟩ := Kd.R_slice HO763.out
         (first | subst eo45 | (injection eo45 with f1_ f2_ f3_; have f4_ := f1_.symm; have f5_ := f3_.symm; clear f1_ f2_ f3_; subst f4_; subst f5_))
         obtain ⟨Ao47, co47, eo47⟩ := Kd.R_slice HO766.out
         (first | subst eo47 | (injection eo47 with f1_ f2_ f3_; have f4_ := f1_.symm; have f5_ := f3_.symm; clear f1_ f2_ f3_; subst f4_; subst f5_))
         refine norm_ (a' := ?_) ?_ ?_
         rotate_left
         ·simp only [putAll, Act.put, List.setIfInBounds_toArray, List.set_cons_zero, List.set_cons_succ]
          rfl
         refine one_ (i := 12) (N := none) #[true, true, true, true, true, true, true, true, true, true, true, true, true, false] rfl rfl (one_of HT_.out (by kernel_rfl)) (by decide) (fun K hK => ?_)
         have hs42 : w41.cell? ⟨gb768, 0, none⟩ = some (.int .i64 0) := (blk_cell BK768.out 0).trans rfl
         have hfs42 := blk_frozen BK768.out 0
         have hns42_0 := NB743_768.out
         have hns42_1 := NB744_768.out
         have hms42_0 := NB768_743.out
         have hms42_1 := NB768_744.out
         have hs44 : w41.cell? ⟨gb768, 1, none⟩ = some (.slice none 0 0) := (blk_cell BK768.out 1).trans rfl
         have hfs44 := blk_frozen BK768.out 1
         have hns44_0 := NB743_768.out
         have hns44_1 := NB744_768.out
         have hms44_0 := NB768_743.out
         have hms44_1 := NB768_744.out
         have hs46 : w41.cell? ⟨gb768, 2, none⟩ = some (.slice none 0 0) := (blk_cell BK768.out 2).trans rfl
         have hfs46 := blk_frozen BK768.out 2
         have hns46_0 := NB743_768.out
         have hns46_1 := NB744_768.out
         have hms46_0 := NB768_743.out
         have hms46_1 := NB768_744.out
         have hs48 : w41.cell? ⟨gb768, 3, none⟩ = some (.slice none 0 0) := (blk_cell BK768.out 3).trans rfl
         have hfs48 := blk_frozen BK768.out 3
         have hns48_0 := NB743_768.out
         have hns48_1 := NB744_768.out
         have hms48_0 := NB768_743.out
         have hms48_1 := NB768_744.out
         refine skip_ (w1 := ?_) (by rfl) rfl ?_ ?_
         rotate_left
         ·go_simp
          rfl
         refine hK.out _ _ ⟨((cell_far (p := ⟨gb768, _, none⟩) NB743_768.out _).trans (((cell_far (p := ⟨gb768, _, none⟩) NB743_768.out _).trans (((cell_far (p := ⟨gb768, _, none⟩) NB743_768.out _).trans (((cell_far (p := ⟨gb768, _, none⟩) NB743_768.out _).trans (hHeld.1)))))))), ((cell_far (p := ⟨gb768, _, none⟩) NB743_768.out _).trans (((cell_far (p := ⟨gb768, _, none⟩) NB743_768.out _).trans (((cell_far (p := ⟨gb768, _, none⟩) NB743_768.out _).trans (((cell_far (p := ⟨gb768, _, none⟩) NB743_768.out _).trans (hHeld.2.1)))))))), ((cell_far (p := ⟨gb768, _, none⟩) NB743_768.out _).trans (((cell_far (p := ⟨gb768, _, none⟩) NB743_768.out _).trans (((cell_far (p := ⟨gb768, _, none⟩) NB743_768.out _).trans (((cell_far (p := ⟨gb768, _, none⟩) NB743_768.out _).trans (hHeld.2.2.1)))))))), ((cell_far (p := ⟨gb768, _, none⟩) NB743_768.out _).trans (((cell_far (p := ⟨gb768, _, none⟩) NB743_768.out _).trans (((cell_far (p := ⟨gb768, _, none⟩) NB743_768.out _).trans (((cell_far (p := ⟨gb768, _, none⟩) NB743_768.out _).trans (hHeld.2.2.2.1)))))))), ((cell_far (p := ⟨gb768, _, none⟩) NB744_768.out _).trans (((cell_far (p := ⟨gb768, _, none⟩) NB744_768.out _).trans (((cell_far (p := ⟨gb768, _, none⟩) NB744_768.out _).trans (((cell_far (p := ⟨gb768, _, none⟩) NB744_768.out _).trans (hHeld.2.2.2.2.1)))))))), ((cell_far (p := ⟨gb768, _, none⟩) NB744_768.out _).trans (((cell_far (p := ⟨gb768, _, none⟩) NB744_768.out _).trans (((cell_far (p := ⟨gb768, _, none⟩) NB744_768.out _).trans (((cell_far (p := ⟨gb768, _, none⟩) NB744_768.out _).trans (hHeld.2.2.2.2.2.1)))))))), ((cell_far (p := ⟨gb768, _, none⟩) NB744_768.out _).trans (((cell_far (p := ⟨gb768, _, none⟩) NB744_768.out _).trans (((cell_far (p := ⟨gb768, _, none⟩) NB744_768.out _).trans (((cell_far (p := ⟨gb768, _, none⟩) NB744_768.out _).trans (hHeld.2.2.2.2.2.2.1)))))))), ((cell_far (p := ⟨gb768, _, none⟩) NB744_768.out _).trans (((cell_far (p := ⟨gb768, _, none⟩) NB744_768.out _).trans (((cell_far (p := ⟨gb768, _, none⟩) NB744_768.out _).trans (((cell_far (p := ⟨gb768, _, none⟩) NB744_768.out _).trans (hHeld.2.2.2.2.2.2.2))))))))⟩ (fun hHeld => ?_)
         clear hK K
         refine pur 13 (some 8) #[true, true, true, true, true, true, true, true, true, true, true, true, true, true] HT_ ?_
         refine done_ (done_of HT_.out (by kernel_rfl)) ?_
         have hnb49 := NB743_768.out
         have hnc49 := NB768_743.out
         obtain ⟨z0, z1, z2, z3, y0, y1, y2, y3⟩ := bc4 BK743
         have hnb51 := NB744_768.out
         have hnc51 := NB768_744.out
         obtain ⟨z0, z1, z2, z3, y0, y1, y2, y3⟩ := bc4 BK744
         try go_wp2_with (first | ((with_reducible refine gate_callee (f := 36) rfl ?_); refine goesL_ (some 42) rfl rfl Try.func36 (by kernel_rfl) rfl #[.agg #[.int .i64 a0_0, .slice A0_1 l0_1.length c0_1, .slice A0_2 l0_2.length c0_2, .slice A0_3 l0_3.length c0_3], .int .i64 a2, .bool ((Int.tmod a1_1 2) == 0)] rfl sma ?_; (with_reducible refine (hopmeshref12_Note.calls k a0_0 _ _ l0_1 _ _ l0_2 _ _ l0_3 a2 ((Int.tmod a1_1 2) == 0) t769 t770 t773 t776 t779 _ ?side1 HC0_1.out ?side3 HC0_2.out ?side5 HC0_3.out A10.out).mono ?_); (case side1 => exact Kd.C_below HR0_1.out (hbx HB)); (case side3 => exact Kd.C_below HR0_2.out (hbx HB)); (case side5 => exact Kd.C_below HR0_3.out (hbx HB)); rintro e w53 ⟨v771, v774, v777, rfl, ho0, ho1, ho2, hb⟩; refine ⟨_, rfl, ?_⟩; have HO772 := Aside0.mk (Kd.R_lower (Kd.R_new' (Kd.R_new' ho0 (Kd.R_lt (rx (Kd.R_mono (Kd.R_far (p := ⟨gb768, 3, none⟩) (Kd.R_far (p := ⟨gb768, 2, none⟩) (Kd.R_far (p := ⟨gb768, 1, none⟩) (Kd.R_far (p := ⟨gb768, 0, none⟩) (Kd.R_types HO750.out BK768.out (by decide)) (fun _ hk => hk.2) (.int .i64 t757)) (fun _ hk => hk.2) (.slice Ao43 t758.length co43)) (fun _ hk => hk.2) (.slice Ao45 t761.length co45)) (fun _ hk => hk.2) (.slice Ao47 t764.length co47)) (fun _ h_ => h_.1))))) (Kd.R_lt (rx (Kd.R_mono (Kd.R_far (p := ⟨gb768, 3, none⟩) (Kd.R_far (p := ⟨gb768, 2, none⟩) (Kd.R_far (p := ⟨gb768, 1, none⟩) (Kd.R_far (p := ⟨gb768, 0, none⟩) (Kd.R_types HO760.out BK768.out (by decide)) (fun _ hk => hk.2) (.int .i64 t757)) (fun _ hk => hk.2) (.slice Ao43 t758.length co43)) (fun _ hk => hk.2) (.slice Ao45 t761.length co45)) (fun _ hk => hk.2) (.slice Ao47 t764.length co47)) (fun _ h_ => h_.1))))) (below_size (hbx HB))); replace HO750 := Aside0.mk (Kd.R_elder' (rx (Kd.R_mono (Kd.R_far (p := ⟨gb768, 3, none⟩) (Kd.R_far (p := ⟨gb768, 2, none⟩) (Kd.R_far (p := ⟨gb768, 1, none⟩) (Kd.R_far (p := ⟨gb768, 0, none⟩) (Kd.R_types HO750.out BK768.out (by decide)) (fun _ hk => hk.2) (.int .i64 t757)) (fun _ hk => hk.2) (.slice Ao43 t758.length co43)) (fun _ hk => hk.2) (.slice Ao45 t761.length co45)) (fun _ hk => hk.2) (.slice Ao47 t764.length co47)) (fun _ h_ => h_.1))) (Kd.R_base ho0) hb); replace HO760 := Aside0.mk (Kd.R_elder' (rx (Kd.R_mono (Kd.R_far (p := ⟨gb768, 3, none⟩) (Kd.R_far (p := ⟨gb768, 2, none⟩) (Kd.R_far (p := ⟨gb768, 1, none⟩) (Kd.R_far (p := ⟨gb768, 0, none⟩) (Kd.R_types HO760.out BK768.out (by decide)) (fun _ hk => hk.2) (.int .i64 t757)) (fun _ hk => hk.2) (.slice Ao43 t758.length co43)) (fun _ hk => hk.2) (.slice Ao45 t761.length co45)) (fun _ hk => hk.2) (.slice Ao47 t764.length co47)) (fun _ h_ => h_.1))) (Kd.R_base ho0) hb); have HO775 := Aside0.mk (Kd.R_lower (Kd.R_new' (Kd.R_new' (Kd.R_new' (Kd.R_new' ho1 (Kd.R_lt (rx (Kd.R_mono (Kd.R_far (p := ⟨gb768, 3, none⟩) (Kd.R_far (p := ⟨gb768, 2, none⟩) (Kd.R_far (p := ⟨gb768, 1, none⟩) (Kd.R_far (p := ⟨gb768, 0, none⟩) (Kd.R_types HO753.out BK768.out (by decide)) (fun _ hk => hk.2) (.int .i64 t757)) (fun _ hk => hk.2) (.slice Ao43 t758.length co43)) (fun _ hk => hk.2) (.slice Ao45 t761.length co45)) (fun _ hk => hk.2) (.slice Ao47 t764.length co47)) (fun _ h_ => h_.1))))) (Kd.R_lt (rx (Kd.R_mono (Kd.R_far (p := ⟨gb768, 3, none⟩) (Kd.R_far (p := ⟨gb768, 2, none⟩) (Kd.R_far (p := ⟨gb768, 1, none⟩) (Kd.R_far (p := ⟨gb768, 0, none⟩) (Kd.R_types HO756.out BK768.out (by decide)) (fun _ hk => hk.2) (.int .i64 t757)) (fun _ hk => hk.2) (.slice Ao43 t758.length co43)) (fun _ hk => hk.2) (.slice Ao45 t761.length co45)) (fun _ hk => hk.2) (.slice Ao47 t764.length co47)) (fun _ h_ => h_.1))))) (Kd.R_lt (rx (Kd.R_mono (Kd.R_far (p := ⟨gb768, 3, none⟩) (Kd.R_far (p := ⟨gb768, 2, none⟩) (Kd.R_far (p := ⟨gb768, 1, none⟩) (Kd.R_far (p := ⟨gb768, 0, none⟩) (Kd.R_types HO763.out BK768.out (by decide)) (fun _ hk => hk.2) (.int .i64 t757)) (fun _ hk => hk.2) (.slice Ao43 t758.length co43)) (fun _ hk => hk.2) (.slice Ao45 t761.length co45)) (fun _ hk => hk.2) (.slice Ao47 t764.length co47)) (fun _ h_ => h_.1))))) (Kd.R_lt (rx (Kd.R_mono (Kd.R_far (p := ⟨gb768, 3, none⟩) (Kd.R_far (p := ⟨gb768, 2, none⟩) (Kd.R_far (p := ⟨gb768, 1, none⟩) (Kd.R_far (p := ⟨gb768, 0, none⟩) (Kd.R_types HO766.out BK768.out (by decide)) (fun _ hk => hk.2) (.int .i64 t757)) (fun _ hk => hk.2) (.slice Ao43 t758.length co43)) (fun _ hk => hk.2) (.slice Ao45 t761.length co45)) (fun _ hk => hk.2) (.slice Ao47 t764.length co47)) (fun _ h_ => h_.1))))) (below_size (hbx HB))); have HO778 := Aside0.mk (Kd.R_lower (Kd.R_new' (Kd.R_new' (Kd.R_new' (Kd.R_new' ho2 (Kd.R_lt (rx (Kd.R_mono (Kd.R_far (p := ⟨gb768, 3, none⟩) (Kd.R_far (p := ⟨gb768, 2, none⟩) (Kd.R_far (p := ⟨gb768, 1, none⟩) (Kd.R_far (p := ⟨gb768, 0, none⟩) (Kd.R_types HO753.out BK768.out (by decide)) (fun _ hk => hk.2) (.int .i64 t757)) (fun _ hk => hk.2) (.slice Ao43 t758.length co43)) (fun _ hk => hk.2) (.slice Ao45 t761.length co45)) (fun _ hk => hk.2) (.slice Ao47 t764.length co47)) (fun _ h_ => h_.1))))) (Kd.R_lt (rx (Kd.R_mono (Kd.R_far (p := ⟨gb768, 3, none⟩) (Kd.R_far (p := ⟨gb768, 2, none⟩) (Kd.R_far (p := ⟨gb768, 1, none⟩) (Kd.R_far (p := ⟨gb768, 0, none⟩) (Kd.R_types HO756.out BK768.out (by decide)) (fun _ hk => hk.2) (.int .i64 t757)) (fun _ hk => hk.2) (.slice Ao43 t758.length co43)) (fun _ hk => hk.2) (.slice Ao45 t761.length co45)) (fun _ hk => hk.2) (.slice Ao47 t764.length co47)) (fun _ h_ => h_.1))))) (Kd.R_lt (rx (Kd.R_mono (Kd.R_far (p := ⟨gb768, 3, none⟩) (Kd.R_far (p := ⟨gb768, 2, none⟩) (Kd.R_far (p := ⟨gb768, 1, none⟩) (Kd.R_far (p := ⟨gb768, 0, none⟩) (Kd.R_types HO763.out BK768.out (by decide)) (fun _ hk => hk.2) (.int .i64 t757)) (fun _ hk => hk.2) (.slice Ao43 t758.length co43)) (fun _ hk => hk.2) (.slice Ao45 t761.length co45)) (fun _ hk => hk.2) (.slice Ao47 t764.length co47)) (fun _ h_ => h_.1))))) (Kd.R_lt (rx (Kd.R_mono (Kd.R_far (p := ⟨gb768, 3, none⟩) (Kd.R_far (p := ⟨gb768, 2, none⟩) (Kd.R_far (p := ⟨gb768, 1, none⟩) (Kd.R_far (p := ⟨gb768, 0, none⟩) (Kd.R_types HO766.out BK768.out (by decide)) (fun _ hk => hk.2) (.int .i64 t757)) (fun _ hk => hk.2) (.slice Ao43 t758.length co43)) (fun _ hk => hk.2) (.slice Ao45 t761.length co45)) (fun _ hk => hk.2) (.slice Ao47 t764.length co47)) (fun _ h_ => h_.1))))) (below_size (hbx HB))); replace HO753 := Aside0.mk (Kd.R_mono (Kd.R_told (Kd.R_told (Kd.R_old (rx (Kd.R_mono (Kd.R_far (p := ⟨gb768, 3, none⟩) (Kd.R_far (p := ⟨gb768, 2, none⟩) (Kd.R_far (p := ⟨gb768, 1, none⟩) (Kd.R_far (p := ⟨gb768, 0, none⟩) (Kd.R_types HO753.out BK768.out (by decide)) (fun _ hk => hk.2) (.int .i64 t757)) (fun _ hk => hk.2) (.slice Ao43 t758.length co43)) (fun _ hk => hk.2) (.slice Ao45 t761.length co45)) (fun _ hk => hk.2) (.slice Ao47 t764.length co47)) (fun _ h_ => h_.1))) hb) (Kd.R_base ho1)) (Kd.R_base ho2)) (fun _ h_ => h_.1)); replace HO756 := Aside0.mk (Kd.R_mono (Kd.R_told (Kd.R_told (Kd.R_old (rx (Kd.R_mono (Kd.R_far (p := ⟨gb768, 3, none⟩) (Kd.R_far (p := ⟨gb768, 2, none⟩) (Kd.R_far (p := ⟨gb768, 1, none⟩) (Kd.R_far (p := ⟨gb768, 0, none⟩) (Kd.R_types HO756.out BK768.out (by decide)) (fun _ hk => hk.2) (.int .i64 t757)) (fun _ hk => hk.2) (.slice Ao43 t758.length co43)) (fun _ hk => hk.2) (.slice Ao45 t761.length co45)) (fun _ hk => hk.2) (.slice Ao47 t764.length co47)) (fun _ h_ => h_.1))) hb) (Kd.R_base ho1)) (Kd.R_base ho2)) (fun _ h_ => h_.1)); replace HO763 := Aside0.mk (Kd.R_mono (Kd.R_told (Kd.R_told (Kd.R_old (rx (Kd.R_mono (Kd.R_far (p := ⟨gb768, 3, none⟩) (Kd.R_far (p := ⟨gb768, 2, none⟩) (Kd.R_far (p := ⟨gb768, 1, none⟩) (Kd.R_far (p := ⟨gb768, 0, none⟩) (Kd.R_types HO763.out BK768.out (by decide)) (fun _ hk => hk.2) (.int .i64 t757)) (fun _ hk => hk.2) (.slice Ao43 t758.length co43)) (fun _ hk => hk.2) (.slice Ao45 t761.length co45)) (fun _ hk => hk.2) (.slice Ao47 t764.length co47)) (fun _ h_ => h_.1))) hb) (Kd.R_base ho1)) (Kd.R_base ho2)) (fun _ h_ => h_.1)); replace HO766 := Aside0.mk (Kd.R_mono (Kd.R_told (Kd.R_told (Kd.R_old (rx (Kd.R_mono (Kd.R_far (p := ⟨gb768, 3, none⟩) (Kd.R_far (p := ⟨gb768, 2, none⟩) (Kd.R_far (p := ⟨gb768, 1, none⟩) (Kd.R_far (p := ⟨gb768, 0, none⟩) (Kd.R_types HO766.out BK768.out (by decide)) (fun _ hk => hk.2) (.int .i64 t757)) (fun _ hk => hk.2) (.slice Ao43 t758.length co43)) (fun _ hk => hk.2) (.slice Ao45 t761.length co45)) (fun _ hk => hk.2) (.slice Ao47 t764.length co47)) (fun _ h_ => h_.1))) hb) (Kd.R_base ho1)) (Kd.R_base ho2)) (fun _ h_ => h_.1)); replace BK743 := bkfB BK743 hb; replace BK744 := bkfB BK744 hb; replace BK768 := Aside0.mk (blk_below (o := .cells #[.int .i64 t757, .slice Ao43 t758.length co43, .slice Ao45 t761.length co45, .slice Ao47 t764.length co47] 25 (0, 0)) (bkp BK768) hb); replace HB := hbS HB hb; (try clear hb); (try clear hb2); (try clear hk); (try clear hi); (try clear ho0); (try clear ho1); (try clear ho2)) | ((with_reducible refine gate_dst (N := 9) rfl ?_); refine boxE 9 #[.int .i64 0, .slice none 0 0, .slice none 0 0, .slice none 0 0] 25 ?_; intro gb780 hg w54 hbox hb; replace HO750 := rB HO750 hb; replace HO753 := rB HO753 hb; replace HO756 := rB HO756 hb; replace HO760 := rB HO760 hb; replace HO763 := rB HO763 hb; replace HO766 := rB HO766 hb; replace HO772 := rB HO772 hb; replace HO775 := rB HO775 hb; replace HO778 := rB HO778 hb; have BK780 := Aside0.mk (hbox); have GW780 := gw hg HB; have GE780 := gw hg HB; replace HB := hbS HB hb; have NB743_780 := nbl hg BK743; have NB780_743 := nbg hg BK743; replace BK743 := bkB BK743 hb; have NB744_780 := nbl hg BK744; have NB780_744 := nbg hg BK744; replace BK744 := bkB BK744 hb; have NB768_780 := nbl hg BK768; have NB780_768 := nbg hg BK768; replace BK768 := bkB BK768 hb; clear hb hbox hg; have hnb55 := NB780_743.out; have hnc55 := NB743_780.out; have hnb56 := NB780_744.out; have hnc56 := NB744_780.out; have hnb57 := NB780_768.out; have hnc57 := NB768_780.out; obtain ⟨z0, z1, z2, z3, y0, y1, y2, y3⟩ := bc4 BK780; obtain ⟨Ao59, co59, eo59⟩ := Kd.R_slice HO772.out; subst eo59; obtain ⟨Ao60, co60, eo60⟩ := Kd.R_slice HO775.out; subst eo60; obtain ⟨Ao61, co61, eo61⟩ := Kd.R_slice HO778.out; subst eo61; obtain ⟨z0, z1, z2, z3, y0, y1, y2, y3⟩ := bc4 BK743; obtain ⟨z0, z1, z2, z3, y0, y1, y2, y3⟩ := bc4 BK744) | ((with_reducible refine gate_callee (f := 14) rfl ?_); refine goesL_ (some 48) rfl rfl Try.func14 (by kernel_rfl) rfl #[.agg #[.int .i64 a0_0, .slice A0_1 l0_1.length c0_1, .slice A0_2 l0_2.length c0_2, .slice A0_3 l0_3.length c0_3], .agg #[.int .i64 a1_0, .int .i64 a1_1, .int .i64 a1_2, .int .i64 a1_3]] rfl sma ?_; (with_reducible refine (hopmeshlaw12_closed.calls k a0_0 _ _ l0_1 _ _ l0_2 _ _ l0_3 a1_0 a1_1 a1_2 a1_3 t781 t782 t785 t788 t791 _ ?side1 HC0_1.out ?side3 HC0_2.out ?side5 HC0_3.out A11.out).mono ?_); (case side1 => exact Kd.C_below HR0_1.out (hbx HB)); (case side3 => exact Kd.C_below HR0_2.out (hbx HB)); (case side5 => exact Kd.C_below HR0_3.out (hbx HB)); rintro e w64 ⟨v783, v786, v789, rfl, ho0, ho1, ho2, hb⟩; refine ⟨_, rfl, ?_⟩; have HO784 := Aside0.mk (Kd.R_lower (Kd.R_new' (Kd.R_new' (Kd.R_new' ho0 (Kd.R_lt (rx (Kd.R_mono (Kd.R_far (p := ⟨gb780, 3, none⟩) (Kd.R_far (p := ⟨gb780, 2, none⟩) (Kd.R_far (p := ⟨gb780, 1, none⟩) (Kd.R_far (p := ⟨gb780, 0, none⟩) (Kd.R_types HO750.out BK780.out (by decide)) (fun _ hk => hk.2) (.int .i64 t769)) (fun _ hk => hk.2) (.slice Ao59 t770.length co59)) (fun _ hk => hk.2) (.slice Ao60 t773.length co60)) (fun _ hk => hk.2) (.slice Ao61 t776.length co61)) (fun _ h_ => h_.1))))) (Kd.R_lt (rx (Kd.R_mono (Kd.R_far (p := ⟨gb780, 3, none⟩) (Kd.R_far (p := ⟨gb780, 2, none⟩) (Kd.R_far (p := ⟨gb780, 1, none⟩) (Kd.R_far (p := ⟨gb780, 0, none⟩) (Kd.R_types HO760.out BK780.out (by decide)) (fun _ hk => hk.2) (.int .i64 t769)) (fun _ hk => hk.2) (.slice Ao59 t770.length co59)) (fun _ hk => hk.2) (.slice Ao60 t773.length co60)) (fun _ hk => hk.2) (.slice Ao61 t776.length co61)) (fun _ h_ => h_.1))))) (Kd.R_lt (rx (Kd.R_mono (Kd.R_far (p := ⟨gb780, 3, none⟩) (Kd.R_far (p := ⟨gb780, 2, none⟩) (Kd.R_far (p := ⟨gb780, 1, none⟩) (Kd.R_far (p := ⟨gb780, 0, none⟩) (Kd.R_types HO772.out BK780.out (by decide)) (fun _ hk => hk.2) (.int .i64 t769)) (fun _ hk => hk.2) (.slice Ao59 t770.length co59)) (fun _ hk => hk.2) (.slice Ao60 t773.length co60)) (fun _ hk => hk.2) (.slice Ao61 t776.length co61)) (fun _ h_ => h_.1))))) (below_size (hbx HB))); replace HO750 := Aside0.mk (Kd.R_elder' (rx (Kd.R_mono (Kd.R_far (p := ⟨gb780, 3, none⟩) (Kd.R_far (p := ⟨gb780, 2, none⟩) (Kd.R_far (p := ⟨gb780, 1, none⟩) (Kd.R_far (p := ⟨gb780, 0, none⟩) (Kd.R_types HO750.out BK780.out (by decide)) (fun _ hk => hk.2) (.int .i64 t769)) (fun _ hk => hk.2) (.slice Ao59 t770.length co59)) (fun _ hk => hk.2) (.slice Ao60 t773.length co60)) (fun _ hk => hk.2) (.slice Ao61 t776.length co61)) (fun _ h_ => h_.1))) (Kd.R_base ho0) hb); replace HO760 := Aside0.mk (Kd.R_elder' (rx (Kd.R_mono (Kd.R_far (p := ⟨gb780, 3, none⟩) (Kd.R_far (p := ⟨gb780, 2, none⟩) (Kd.R_far (p := ⟨gb780, 1, none⟩) (Kd.R_far (p := ⟨gb780, 0, none⟩) (Kd.R_types HO760.out BK780.out (by decide)) (fun _ hk => hk.2) (.int .i64 t769)) (fun _ hk => hk.2) (.slice Ao59 t770.length co59)) (fun _ hk => hk.2) (.slice Ao60 t773.length co60)) (fun _ hk => hk.2) (.slice Ao61 t776.length co61)) (fun _ h_ => h_.1))) (Kd.R_base ho0) hb); replace HO772 := Aside0.mk (Kd.R_elder' (rx (Kd.R_mono (Kd.R_far (p := ⟨gb780, 3, none⟩) (Kd.R_far (p := ⟨gb780, 2, none⟩) (Kd.R_far (p := ⟨gb780, 1, none⟩) (Kd.R_far (p := ⟨gb780, 0, none⟩) (Kd.R_types HO772.out BK780.out (by decide)) (fun _ hk => hk.2) (.int .i64 t769)) (fun _ hk => hk.2) (.slice Ao59 t770.length co59)) (fun _ hk => hk.2) (.slice Ao60 t773.length co60)) (fun _ hk => hk.2) (.slice Ao61 t776.length co61)) (fun _ h_ => h_.1))) (Kd.R_base ho0) hb); have HO787 := Aside0.mk (Kd.R_lower (Kd.R_new' (Kd.R_new' (Kd.R_new' (Kd.R_new' (Kd.R_new' (Kd.R_new' ho1 (Kd.R_lt (rx (Kd.R_mono (Kd.R_far (p := ⟨gb780, 3, none⟩) (Kd.R_far (p := ⟨gb780, 2, none⟩) (Kd.R_far (p := ⟨gb780, 1, none⟩) (Kd.R_far (p := ⟨gb780, 0, none⟩) (Kd.R_types HO753.out BK780.out (by decide)) (fun _ hk => hk.2) (.int .i64 t769)) (fun _ hk => hk.2) (.slice Ao59 t770.length co59)) (fun _ hk => hk.2) (.slice Ao60 t773.length co60)) (fun _ hk => hk.2) (.slice Ao61 t776.length co61)) (fun _ h_ => h_.1))))) (Kd.R_lt (rx (Kd.R_mono (Kd.R_far (p := ⟨gb780, 3, none⟩) (Kd.R_far (p := ⟨gb780, 2, none⟩) (Kd.R_far (p := ⟨gb780, 1, none⟩) (Kd.R_far (p := ⟨gb780, 0, none⟩) (Kd.R_types HO756.out BK780.out (by decide)) (fun _ hk => hk.2) (.int .i64 t769)) (fun _ hk => hk.2) (.slice Ao59 t770.length co59)) (fun _ hk => hk.2) (.slice Ao60 t773.length co60)) (fun _ hk => hk.2) (.slice Ao61 t776.length co61)) (fun _ h_ => h_.1))))) (Kd.R_lt (rx (Kd.R_mono (Kd.R_far (p := ⟨gb780, 3, none⟩) (Kd.R_far (p := ⟨gb780, 2, none⟩) (Kd.R_far (p := ⟨gb780, 1, none⟩) (Kd.R_far (p := ⟨gb780, 0, none⟩) (Kd.R_types HO763.out BK780.out (by decide)) (fun _ hk => hk.2) (.int .i64 t769)) (fun _ hk => hk.2) (.slice Ao59 t770.length co59)) (fun _ hk => hk.2) (.slice Ao60 t773.length co60)) (fun _ hk => hk.2) (.slice Ao61 t776.length co61)) (fun _ h_ => h_.1))))) (Kd.R_lt (rx (Kd.R_mono (Kd.R_far (p := ⟨gb780, 3, none⟩) (Kd.R_far (p := ⟨gb780, 2, none⟩) (Kd.R_far (p := ⟨gb780, 1, none⟩) (Kd.R_far (p := ⟨gb780, 0, none⟩) (Kd.R_types HO766.out BK780.out (by decide)) (fun _ hk => hk.2) (.int .i64 t769)) (fun _ hk => hk.2) (.slice Ao59 t770.length co59)) (fun _ hk => hk.2) (.slice Ao60 t773.length co60)) (fun _ hk => hk.2) (.slice Ao61 t776.length co61)) (fun _ h_ => h_.1))))) (Kd.R_lt (rx (Kd.R_mono (Kd.R_far (p := ⟨gb780, 3, none⟩) (Kd.R_far (p := ⟨gb780, 2, none⟩) (Kd.R_far (p := ⟨gb780, 1, none⟩) (Kd.R_far (p := ⟨gb780, 0, none⟩) (Kd.R_types HO775.out BK780.out (by decide)) (fun _ hk => hk.2) (.int .i64 t769)) (fun _ hk => hk.2) (.slice Ao59 t770.length co59)) (fun _ hk => hk.2) (.slice Ao60 t773.length co60)) (fun _ hk => hk.2) (.slice Ao61 t776.length co61)) (fun _ h_ => h_.1))))) (Kd.R_lt (rx (Kd.R_mono (Kd.R_far (p := ⟨gb780, 3, none⟩) (Kd.R_far (p := ⟨gb780, 2, none⟩) (Kd.R_far (p := ⟨gb780, 1, none⟩) (Kd.R_far (p := ⟨gb780, 0, none⟩) (Kd.R_types HO778.out BK780.out (by decide)) (fun _ hk => hk.2) (.int .i64 t769)) (fun _ hk => hk.2) (.slice Ao59 t770.length co59)) (fun _ hk => hk.2) (.slice Ao60 t773.length co60)) (fun _ hk => hk.2) (.slice Ao61 t776.length co61)) (fun _ h_ => h_.1))))) (below_size (hbx HB))); have HO790 := Aside0.mk (Kd.R_lower (Kd.R_new' (Kd.R_new' (Kd.R_new' (Kd.R_new' (Kd.R_new' (Kd.R_new' ho2 (Kd.R_lt (rx (Kd.R_mono (Kd.R_far (p := ⟨gb780, 3, none⟩) (Kd.R_far (p := ⟨gb780, 2, none⟩) (Kd.R_far (p := ⟨gb780, 1, none⟩) (Kd.R_far (p := ⟨gb780, 0, none⟩) (Kd.R_types HO753.out BK780.out (by decide)) (fun _ hk => hk.2) (.int .i64 t769)) (fun _ hk => hk.2) (.slice Ao59 t770.length co59)) (fun _ hk => hk.2) (.slice Ao60 t773.length co60)) (fun _ hk => hk.2) (.slice Ao61 t776.length co61)) (fun _ h_ => h_.1))))) (Kd.R_lt (rx (Kd.R_mono (Kd.R_far (p := ⟨gb780, 3, none⟩) (Kd.R_far (p := ⟨gb780, 2, none⟩) (Kd.R_far (p := ⟨gb780, 1, none⟩) (Kd.R_far (p := ⟨gb780, 0, none⟩) (Kd.R_types HO756.out BK780.out (by decide)) (fun _ hk => hk.2) (.int .i64 t769)) (fun _ hk => hk.2) (.slice Ao59 t770.length co59)) (fun _ hk => hk.2) (.slice Ao60 t773.length co60)) (fun _ hk => hk.2) (.slice Ao61 t776.length co61)) (fun _ h_ => h_.1))))) (Kd.R_lt (rx (Kd.R_mono (Kd.R_far (p := ⟨gb780, 3, none⟩) (Kd.R_far (p := ⟨gb780, 2, none⟩) (Kd.R_far (p := ⟨gb780, 1, none⟩) (Kd.R_far (p := ⟨gb780, 0, none⟩) (Kd.R_types HO763.out BK780.out (by decide)) (fun _ hk => hk.2) (.int .i64 t769)) (fun _ hk => hk.2) (.slice Ao59 t770.length co59)) (fun _ hk => hk.2) (.slice Ao60 t773.length co60)) (fun _ hk => hk.2) (.slice Ao61 t776.length co61)) (fun _ h_ => h_.1))))) (Kd.R_lt (rx (Kd.R_mono (Kd.R_far (p := ⟨gb780, 3, none⟩) (Kd.R_far (p := ⟨gb780, 2, none⟩) (Kd.R_far (p := ⟨gb780, 1, none⟩) (Kd.R_far (p := ⟨gb780, 0, none⟩) (Kd.R_types HO766.out BK780.out (by decide)) (fun _ hk => hk.2) (.int .i64 t769)) (fun _ hk => hk.2) (.slice Ao59 t770.length co59)) (fun _ hk => hk.2) (.slice Ao60 t773.length co60)) (fun _ hk => hk.2) (.slice Ao61 t776.length co61)) (fun _ h_ => h_.1))))) (Kd.R_lt (rx (Kd.R_mono (Kd.R_far (p := ⟨gb780, 3, none⟩) (Kd.R_far (p := ⟨gb780, 2, none⟩) (Kd.R_far (p := ⟨gb780, 1, none⟩) (Kd.R_far (p := ⟨gb780, 0, none⟩) (Kd.R_types HO775.out BK780.out (by decide)) (fun _ hk => hk.2) (.int .i64 t769)) (fun _ hk => hk.2) (.slice Ao59 t770.length co59)) (fun _ hk => hk.2) (.slice Ao60 t773.length co60)) (fun _ hk => hk.2) (.slice Ao61 t776.length co61)) (fun _ h_ => h_.1))))) (Kd.R_lt (rx (Kd.R_mono (Kd.R_far (p := ⟨gb780, 3, none⟩) (Kd.R_far (p := ⟨gb780, 2, none⟩) (Kd.R_far (p := ⟨gb780, 1, none⟩) (Kd.R_far (p := ⟨gb780, 0, none⟩) (Kd.R_types HO778.out BK780.out (by decide)) (fun _ hk => hk.2) (.int .i64 t769)) (fun _ hk => hk.2) (.slice Ao59 t770.length co59)) (fun _ hk => hk.2) (.slice Ao60 t773.length co60)) (fun _ hk => hk.2) (.slice Ao61 t776.length co61)) (fun _ h_ => h_.1))))) (below_size (hbx HB))); replace HO753 := Aside0.mk (Kd.R_mono (Kd.R_told (Kd.R_told (Kd.R_old (rx (Kd.R_mono (Kd.R_far (p := ⟨gb780, 3, none⟩) (Kd.R_far (p := ⟨gb780, 2, none⟩) (Kd.R_far (p := ⟨gb780, 1, none⟩) (Kd.R_far (p := ⟨gb780, 0, none⟩) (Kd.R_types HO753.out BK780.out (by decide)) (fun _ hk => hk.2) (.int .i64 t769)) (fun _ hk => hk.2) (.slice Ao59 t770.length co59)) (fun _ hk => hk.2) (.slice Ao60 t773.length co60)) (fun _ hk => hk.2) (.slice Ao61 t776.length co61)) (fun _ h_ => h_.1))) hb) (Kd.R_base ho1)) (Kd.R_base ho2)) (fun _ h_ => h_.1)); replace HO756 := Aside0.mk (Kd.R_mono (Kd.R_told (Kd.R_told (Kd.R_old (rx (Kd.R_mono (Kd.R_far (p := ⟨gb780, 3, none⟩) (Kd.R_far (p := ⟨gb780, 2, none⟩) (Kd.R_far (p := ⟨gb780, 1, none⟩) (Kd.R_far (p := ⟨gb780, 0, none⟩) (Kd.R_types HO756.out BK780.out (by decide)) (fun _ hk => hk.2) (.int .i64 t769)) (fun _ hk => hk.2) (.slice Ao59 t770.length co59)) (fun _ hk => hk.2) (.slice Ao60 t773.length co60)) (fun _ hk => hk.2) (.slice Ao61 t776.length co61)) (fun _ h_ => h_.1))) hb) (Kd.R_base ho1)) (Kd.R_base ho2)) (fun _ h_ => h_.1)); replace HO763 := Aside0.mk (Kd.R_mono (Kd.R_told (Kd.R_told (Kd.R_old (rx (Kd.R_mono (Kd.R_far (p := ⟨gb780, 3, none⟩) (Kd.R_far (p := ⟨gb780, 2, none⟩) (Kd.R_far (p := ⟨gb780, 1, none⟩) (Kd.R_far (p := ⟨gb780, 0, none⟩) (Kd.R_types HO763.out BK780.out (by decide)) (fun _ hk => hk.2) (.int .i64 t769)) (fun _ hk => hk.2) (.slice Ao59 t770.length co59)) (fun _ hk => hk.2) (.slice Ao60 t773.length co60)) (fun _ hk => hk.2) (.slice Ao61 t776.length co61)) (fun _ h_ => h_.1))) hb) (Kd.R_base ho1)) (Kd.R_base ho2)) (fun _ h_ => h_.1)); replace HO766 := Aside0.mk (Kd.R_mono (Kd.R_told (Kd.R_told (Kd.R_old (rx (Kd.R_mono (Kd.R_far (p := ⟨gb780, 3, none⟩) (Kd.R_far (p := ⟨gb780, 2, none⟩) (Kd.R_far (p := ⟨gb780, 1, none⟩) (Kd.R_far (p := ⟨gb780, 0, none⟩) (Kd.R_types HO766.out BK780.out (by decide)) (fun _ hk => hk.2) (.int .i64 t769)) (fun _ hk => hk.2) (.slice Ao59 t770.length co59)) (fun _ hk => hk.2) (.slice Ao60 t773.length co60)) (fun _ hk => hk.2) (.slice Ao61 t776.length co61)) (fun _ h_ => h_.1))) hb) (Kd.R_base ho1)) (Kd.R_base ho2)) (fun _ h_ => h_.1)); replace HO775 := Aside0.mk (Kd.R_mono (Kd.R_told (Kd.R_told (Kd.R_old (rx (Kd.R_mono (Kd.R_far (p := ⟨gb780, 3, none⟩) (Kd.R_far (p := ⟨gb780, 2, none⟩) (Kd.R_far (p := ⟨gb780, 1, none⟩) (Kd.R_far (p := ⟨gb780, 0, none⟩) (Kd.R_types HO775.out BK780.out (by decide)) (fun _ hk => hk.2) (.int .i64 t769)) (fun _ hk => hk.2) (.slice Ao59 t770.length co59)) (fun _ hk => hk.2) (.slice Ao60 t773.length co60)) (fun _ hk => hk.2) (.slice Ao61 t776.length co61)) (fun _ h_ => h_.1))) hb) (Kd.R_base ho1)) (Kd.R_base ho2)) (fun _ h_ => h_.1)); replace HO778 := Aside0.mk (Kd.R_mono (Kd.R_told (Kd.R_told (Kd.R_old (rx (Kd.R_mono (Kd.R_far (p := ⟨gb780, 3, none⟩) (Kd.R_far (p := ⟨gb780, 2, none⟩) (Kd.R_far (p := ⟨gb780, 1, none⟩) (Kd.R_far (p := ⟨gb780, 0, none⟩) (Kd.R_types HO778.out BK780.out (by decide)) (fun _ hk => hk.2) (.int .i64 t769)) (fun _ hk => hk.2) (.slice Ao59 t770.length co59)) (fun _ hk => hk.2) (.slice Ao60 t773.length co60)) (fun _ hk => hk.2) (.slice Ao61 t776.length co61)) (fun _ h_ => h_.1))) hb) (Kd.R_base ho1)) (Kd.R_base ho2)) (fun _ h_ => h_.1)); replace BK743 := bkfB BK743 hb; replace BK744 := bkfB BK744 hb; replace BK768 := bkfB BK768 hb; replace BK780 := Aside0.mk (blk_below (o := .cells #[.int .i64 t769, .slice Ao59 t770.length co59, .slice Ao60 t773.length co60, .slice Ao61 t776.length co61] 25 (0, 0)) (bkp BK780) hb); replace HB := hbS HB hb; (try clear hb); (try clear hb2); (try clear hk); (try clear hi); (try clear ho0); (try clear ho1); (try clear ho2)) | ((with_reducible refine gate_dst (N := 11) rfl ?_); refine boxE 11 #[.int .i64 0, .slice none 0 0, .slice none 0 0, .slice none 0 0] 25 ?_; intro gb792 hg w65 hbox hb; replace HO750 := rB HO750 hb; replace HO753 := rB HO753 hb; replace HO756 := rB HO756 hb; replace HO760 := rB HO760 hb; replace HO763 := rB HO763 hb; replace HO766 := rB HO766 hb; replace HO772 := rB HO772 hb; replace HO775 := rB HO775 hb; replace HO778 := rB HO778 hb; replace HO784 := rB HO784 hb; replace HO787 := rB HO787 hb; replace HO790 := rB HO790 hb; have BK792 := Aside0.mk (hbox); have GW792 := gw hg HB; have GE792 := gw hg HB; replace HB := hbS HB hb; have NB743_792 := nbl hg BK743; have NB792_743 := nbg hg BK743; replace BK743 := bkB BK743 hb; have NB744_792 := nbl hg BK744; have NB792_744 := nbg hg BK744; replace BK744 := bkB BK744 hb; have NB768_792 := nbl hg BK768; have NB792_768 := nbg hg BK768; replace BK768 := bkB BK768 hb; have NB780_792 := nbl hg BK780; have NB792_780 := nbg hg BK780; replace BK780 := bkB BK780 hb; clear hb hbox hg; have hnb66 := NB792_743.out; have hnc66 := NB743_792.out; have hnb67 := NB792_744.out; have hnc67 := NB744_792.out; have hnb68 := NB792_768.out; have hnc68 := NB768_792.out; have hnb69 := NB792_780.out; have hnc69 := NB780_792.out; obtain ⟨z0, z1, z2, z3, y0, y1, y2, y3⟩ := bc4 BK792; obtain ⟨Ao71, co71, eo71⟩ := Kd.R_slice HO784.out; subst eo71; obtain ⟨Ao72, co72, eo72⟩ := Kd.R_slice HO787.out; subst eo72; obtain ⟨Ao73, co73, eo73⟩ := Kd.R_slice HO790.out; subst eo73; obtain ⟨z0, z1, z2, z3, y0, y1, y2, y3⟩ := bc4 BK743; obtain ⟨z0, z1, z2, z3, y0, y1, y2, y3⟩ := bc4 BK744) | ((with_reducible refine gate_callee (f := 37) rfl ?_); refine goesL_ (some 61) rfl rfl Try.func37 (by kernel_rfl) rfl #[.agg #[.int .i64 a0_0, .slice A0_1 l0_1.length c0_1, .slice A0_2 l0_2.length c0_2, .slice A0_3 l0_3.length c0_3], .int .i64 a1_0, .int .i64 a1_1, .int .i64 a1_2, .int .i64 a1_3] rfl sma ?_; (with_reducible refine (hopmeshref12_Close.calls k a0_0 _ _ l0_1 _ _ l0_2 _ _ l0_3 a1_0 a1_1 a1_2 a1_3 t793 t794 t797 t800 t803 _ ?side1 HC0_1.out ?side3 HC0_2.out ?side5 HC0_3.out A12.out).mono ?_); (case side1 => exact Kd.C_below HR0_1.out (hbx HB)); (case side3 => exact Kd.C_below HR0_2.out (hbx HB)); (case side5 => exact Kd.C_below HR0_3.out (hbx HB)); rintro e w76 ⟨v795, v798, v801, rfl, ho0, ho1, ho2, hb⟩; refine ⟨_, rfl, ?_⟩; have HO796 := Aside0.mk (Kd.R_lower (Kd.R_new' (Kd.R_new' (Kd.R_new' (Kd.R_new' ho0 (Kd.R_lt (rx (Kd.R_mono (Kd.R_far (p := ⟨gb792, 3, none⟩) (Kd.R_far (p := ⟨gb792, 2, none⟩) (Kd.R_far (p := ⟨gb792, 1, none⟩) (Kd.R_far (p := ⟨gb792, 0, none⟩) (Kd.R_types HO750.out BK792.out (by decide)) (fun _ hk => hk.2) (.int .i64 t781)) (fun _ hk => hk.2) (.slice Ao71 t782.length co71)) (fun _ hk => hk.2) (.slice Ao72 t785.length co72)) (fun _ hk => hk.2) (.slice Ao73 t788.length co73)) (fun _ h_ => h_.1))))) (Kd.R_lt (rx (Kd.R_mono (Kd.R_far (p := ⟨gb792, 3, none⟩) (Kd.R_far (p := ⟨gb792, 2, none⟩) (Kd.R_far (p := ⟨gb792, 1, none⟩) (Kd.R_far (p := ⟨gb792, 0, none⟩) (Kd.R_types HO760.out BK792.out (by decide)) (fun _ hk => hk.2) (.int .i64 t781)) (fun _ hk => hk.2) (.slice Ao71 t782.length co71)) (fun _ hk => hk.2) (.slice Ao72 t785.length co72)) (fun _ hk => hk.2) (.slice Ao73 t788.length co73)) (fun _ h_ => h_.1))))) (Kd.R_lt (rx (Kd.R_mono (Kd.R_far (p := ⟨gb792, 3, none⟩) (Kd.R_far (p := ⟨gb792, 2, none⟩) (Kd.R_far (p := ⟨gb792, 1, none⟩) (Kd.R_far (p := ⟨gb792, 0, none⟩) (Kd.R_types HO772.out BK792.out (by decide)) (fun _ hk => hk.2) (.int .i64 t781)) (fun _ hk => hk.2) (.slice Ao71 t782.length co71)) (fun _ hk => hk.2) (.slice Ao72 t785.length co72)) (fun _ hk => hk.2) (.slice Ao73 t788.length co73)) (fun _ h_ => h_.1))))) (Kd.R_lt (rx (Kd.R_mono (Kd.R_far (p := ⟨gb792, 3, none⟩) (Kd.R_far (p := ⟨gb792, 2, none⟩) (Kd.R_far (p := ⟨gb792, 1, none⟩) (Kd.R_far (p := ⟨gb792, 0, none⟩) (Kd.R_types HO784.out BK792.out (by decide)) (fun _ hk => hk.2) (.int .i64 t781)) (fun _ hk => hk.2) (.slice Ao71 t782.length co71)) (fun _ hk => hk.2) (.slice Ao72 t785.length co72)) (fun _ hk => hk.2) (.slice Ao73 t788.length co73)) (fun _ h_ => h_.1))))) (below_size (hbx HB))); replace HO750 := Aside0.mk (Kd.R_elder' (rx (Kd.R_mono (Kd.R_far (p := ⟨gb792, 3, none⟩) (Kd.R_far (p := ⟨gb792, 2, none⟩) (Kd.R_far (p := ⟨gb792, 1, none⟩) (Kd.R_far (p := ⟨gb792, 0, none⟩) (Kd.R_types HO750.out BK792.out (by decide)) (fun _ hk => hk.2) (.int .i64 t781)) (fun _ hk => hk.2) (.slice Ao71 t782.length co71)) (fun _ hk => hk.2) (.slice Ao72 t785.length co72)) (fun _ hk => hk.2) (.slice Ao73 t788.length co73)) (fun _ h_ => h_.1))) (Kd.R_base ho0) hb); replace HO760 := Aside0.mk (Kd.R_elder' (rx (Kd.R_mono (Kd.R_far (p := ⟨gb792, 3, none⟩) (Kd.R_far (p := ⟨gb792, 2, none⟩) (Kd.R_far (p := ⟨gb792, 1, none⟩) (Kd.R_far (p := ⟨gb792, 0, none⟩) (Kd.R_types HO760.out BK792.out (by decide)) (fun _ hk => hk.2) (.int .i64 t781)) (fun _ hk => hk.2) (.slice Ao71 t782.length co71)) (fun _ hk => hk.2) (.slice Ao72 t785.length co72)) (fun _ hk => hk.2) (.slice Ao73 t788.length co73)) (fun _ h_ => h_.1))) (Kd.R_base ho0) hb); replace HO772 := Aside0.mk (Kd.R_elder' (rx (Kd.R_mono (Kd.R_far (p := ⟨gb792, 3, none⟩) (Kd.R_far (p := ⟨gb792, 2, none⟩) (Kd.R_far (p := ⟨gb792, 1, none⟩) (Kd.R_far (p := ⟨gb792, 0, none⟩) (Kd.R_types HO772.out BK792.out (by decide)) (fun _ hk => hk.2) (.int .i64 t781)) (fun _ hk => hk.2) (.slice Ao71 t782.length co71)) (fun _ hk => hk.2) (.slice Ao72 t785.length co72)) (fun _ hk => hk.2) (.slice Ao73 t788.length co73)) (fun _ h_ => h_.1))) (Kd.R_base ho0) hb); replace HO784 := Aside0.mk (Kd.R_elder' (rx (Kd.R_mono (Kd.R_far (p := ⟨gb792, 3, none⟩) (Kd.R_far (p := ⟨gb792, 2, none⟩) (Kd.R_far (p := ⟨gb792, 1, none⟩) (Kd.R_far (p := ⟨gb792, 0, none⟩) (Kd.R_types HO784.out BK792.out (by decide)) (fun _ hk => hk.2) (.int .i64 t781)) (fun _ hk => hk.2) (.slice Ao71 t782.length co71)) (fun _ hk => hk.2) (.slice Ao72 t785.length co72)) (fun _ hk => hk.2) (.slice Ao73 t788.length co73)) (fun _ h_ => h_.1))) (Kd.R_base ho0) hb); have HO799 := Aside0.mk (Kd.R_lower (Kd.R_new' (Kd.R_new' (Kd.R_new' (Kd.R_new' (Kd.R_new' (Kd.R_new' (Kd.R_new' (Kd.R_new' ho1 (Kd.R_lt (rx (Kd.R_mono (Kd.R_far (p := ⟨gb792, 3, none⟩) (Kd.R_far (p := ⟨gb792, 2, none⟩) (Kd.R_far (p := ⟨gb792, 1, none⟩) (Kd.R_far (p := ⟨gb792, 0, none⟩) (Kd.R_types HO753.out BK792.out (by decide)) (fun _ hk => hk.2) (.int .i64 t781)) (fun _ hk => hk.2) (.slice Ao71 t782.length co71)) (fun _ hk => hk.2) (.slice Ao72 t785.length co72)) (fun _ hk => hk.2) (.slice Ao73 t788.length co73)) (fun _ h_ => h_.1))))) (Kd.R_lt (rx (Kd.R_mono (Kd.R_far (p := ⟨gb792, 3, none⟩) (Kd.R_far (p := ⟨gb792, 2, none⟩) (Kd.R_far (p := ⟨gb792, 1, none⟩) (Kd.R_far (p := ⟨gb792, 0, none⟩) (Kd.R_types HO756.out BK792.out (by decide)) (fun _ hk => hk.2) (.int .i64 t781)) (fun _ hk => hk.2) (.slice Ao71 t782.length co71)) (fun _ hk => hk.2) (.slice Ao72 t785.length co72)) (fun _ hk => hk.2) (.slice Ao73 t788.length co73)) (fun _ h_ => h_.1))))) (Kd.R_lt (rx (Kd.R_mono (Kd.R_far (p := ⟨gb792, 3, none⟩) (Kd.R_far (p := ⟨gb792, 2, none⟩) (Kd.R_far (p := ⟨gb792, 1, none⟩) (Kd.R_far (p := ⟨gb792, 0, none⟩) (Kd.R_types HO763.out BK792.out (by decide)) (fun _ hk => hk.2) (.int .i64 t781)) (fun _ hk => hk.2) (.slice Ao71 t782.length co71)) (fun _ hk => hk.2) (.slice Ao72 t785.length co72)) (fun _ hk => hk.2) (.slice Ao73 t788.length co73)) (fun _ h_ => h_.1))))) (Kd.R_lt (rx (Kd.R_mono (Kd.R_far (p := ⟨gb792, 3, none⟩) (Kd.R_far (p := ⟨gb792, 2, none⟩) (Kd.R_far (p := ⟨gb792, 1, none⟩) (Kd.R_far (p := ⟨gb792, 0, none⟩) (Kd.R_types HO766.out BK792.out (by decide)) (fun _ hk => hk.2) (.int .i64 t781)) (fun _ hk => hk.2) (.slice Ao71 t782.length co71)) (fun _ hk => hk.2) (.slice Ao72 t785.length co72)) (fun _ hk => hk.2) (.slice Ao73 t788.length co73)) (fun _ h_ => h_.1))))) (Kd.R_lt (rx (Kd.R_mono (Kd.R_far (p := ⟨gb792, 3, none⟩) (Kd.R_far (p := ⟨gb792, 2, none⟩) (Kd.R_far (p := ⟨gb792, 1, none⟩) (Kd.R_far (p := ⟨gb792, 0, none⟩) (Kd.R_types HO775.out BK792.out (by decide)) (fun _ hk => hk.2) (.int .i64 t781)) (fun _ hk => hk.2) (.slice Ao71 t782.length co71)) (fun _ hk => hk.2) (.slice Ao72 t785.length co72)) (fun _ hk => hk.2) (.slice Ao73 t788.length co73)) (fun _ h_ => h_.1))))) (Kd.R_lt (rx (Kd.R_mono (Kd.R_far (p := ⟨gb792, 3, none⟩) (Kd.R_far (p := ⟨gb792, 2, none⟩) (Kd.R_far (p := ⟨gb792, 1, none⟩) (Kd.R_far (p := ⟨gb792, 0, none⟩) (Kd.R_types HO778.out BK792.out (by decide)) (fun _ hk => hk.2) (.int .i64 t781)) (fun _ hk => hk.2) (.slice Ao71 t782.length co71)) (fun _ hk => hk.2) (.slice Ao72 t785.length co72)) (fun _ hk => hk.2) (.slice Ao73 t788.length co73)) (fun _ h_ => h_.1))))) (Kd.R_lt (rx (Kd.R_mono (Kd.R_far (p := ⟨gb792, 3, none⟩) (Kd.R_far (p := ⟨gb792, 2, none⟩) (Kd.R_far (p := ⟨gb792, 1, none⟩) (Kd.R_far (p := ⟨gb792, 0, none⟩) (Kd.R_types HO787.out BK792.out (by decide)) (fun _ hk => hk.2) (.int .i64 t781)) (fun _ hk => hk.2) (.slice Ao71 t782.length co71)) (fun _ hk => hk.2) (.slice Ao72 t785.length co72)) (fun _ hk => hk.2) (.slice Ao73 t788.length co73)) (fun _ h_ => h_.1))))) (Kd.R_lt (rx (Kd.R_mono (Kd.R_far (p := ⟨gb792, 3, none⟩) (Kd.R_far (p := ⟨gb792, 2, none⟩) (Kd.R_far (p := ⟨gb792, 1, none⟩) (Kd.R_far (p := ⟨gb792, 0, none⟩) (Kd.R_types HO790.out BK792.out (by decide)) (fun _ hk => hk.2) (.int .i64 t781)) (fun _ hk => hk.2) (.slice Ao71 t782.length co71)) (fun _ hk => hk.2) (.slice Ao72 t785.length co72)) (fun _ hk => hk.2) (.slice Ao73 t788.length co73)) (fun _ h_ => h_.1))))) (below_size (hbx HB))); have HO802 := Aside0.mk (Kd.R_lower (Kd.R_new' (Kd.R_new' (Kd.R_new' (Kd.R_new' (Kd.R_new' (Kd.R_new' (Kd.R_new' (Kd.R_new' ho2 (Kd.R_lt (rx (Kd.R_mono (Kd.R_far (p := ⟨gb792, 3, none⟩) (Kd.R_far (p := ⟨gb792, 2, none⟩) (Kd.R_far (p := ⟨gb792, 1, none⟩) (Kd.R_far (p := ⟨gb792, 0, none⟩) (Kd.R_types HO753.out BK792.out (by decide)) (fun _ hk => hk.2) (.int .i64 t781)) (fun _ hk => hk.2) (.slice Ao71 t782.length co71)) (fun _ hk => hk.2) (.slice Ao72 t785.length co72)) (fun _ hk => hk.2) (.slice Ao73 t788.length co73)) (fun _ h_ => h_.1))))) (Kd.R_lt (rx (Kd.R_mono (Kd.R_far (p := ⟨gb792, 3, none⟩) (Kd.R_far (p := ⟨gb792, 2, none⟩) (Kd.R_far (p := ⟨gb792, 1, none⟩) (Kd.R_far (p := ⟨gb792, 0, none⟩) (Kd.R_types HO756.out BK792.out (by decide)) (fun _ hk => hk.2) (.int .i64 t781)) (fun _ hk => hk.2) (.slice Ao71 t782.length co71)) (fun _ hk => hk.2) (.slice Ao72 t785.length co72)) (fun _ hk => hk.2) (.slice Ao73 t788.length co73)) (fun _ h_ => h_.1))))) (Kd.R_lt (rx (Kd.R_mono (Kd.R_far (p := ⟨gb792, 3, none⟩) (Kd.R_far (p := ⟨gb792, 2, none⟩) (Kd.R_far (p := ⟨gb792, 1, none⟩) (Kd.R_far (p := ⟨gb792, 0, none⟩) (Kd.R_types HO763.out BK792.out (by decide)) (fun _ hk => hk.2) (.int .i64 t781)) (fun _ hk => hk.2) (.slice Ao71 t782.length co71)) (fun _ hk => hk.2) (.slice Ao72 t785.length co72)) (fun _ hk => hk.2) (.slice Ao73 t788.length co73)) (fun _ h_ => h_.1))))) (Kd.R_lt (rx (Kd.R_mono (Kd.R_far (p := ⟨gb792, 3, none⟩) (Kd.R_far (p := ⟨gb792, 2, none⟩) (Kd.R_far (p := ⟨gb792, 1, none⟩) (Kd.R_far (p := ⟨gb792, 0, none⟩) (Kd.R_types HO766.out BK792.out (by decide)) (fun _ hk => hk.2) (.int .i64 t781)) (fun _ hk => hk.2) (.slice Ao71 t782.length co71)) (fun _ hk => hk.2) (.slice Ao72 t785.length co72)) (fun _ hk => hk.2) (.slice Ao73 t788.length co73)) (fun _ h_ => h_.1))))) (Kd.R_lt (rx (Kd.R_mono (Kd.R_far (p := ⟨gb792, 3, none⟩) (Kd.R_far (p := ⟨gb792, 2, none⟩) (Kd.R_far (p := ⟨gb792, 1, none⟩) (Kd.R_far (p := ⟨gb792, 0, none⟩) (Kd.R_types HO775.out BK792.out (by decide)) (fun _ hk => hk.2) (.int .i64 t781)) (fun _ hk => hk.2) (.slice Ao71 t782.length co71)) (fun _ hk => hk.2) (.slice Ao72 t785.length co72)) (fun _ hk => hk.2) (.slice Ao73 t788.length co73)) (fun _ h_ => h_.1))))) (Kd.R_lt (rx (Kd.R_mono (Kd.R_far (p := ⟨gb792, 3, none⟩) (Kd.R_far (p := ⟨gb792, 2, none⟩) (Kd.R_far (p := ⟨gb792, 1, none⟩) (Kd.R_far (p := ⟨gb792, 0, none⟩) (Kd.R_types HO778.out BK792.out (by decide)) (fun _ hk => hk.2) (.int .i64 t781)) (fun _ hk => hk.2) (.slice Ao71 t782.length co71)) (fun _ hk => hk.2) (.slice Ao72 t785.length co72)) (fun _ hk => hk.2) (.slice Ao73 t788.length co73)) (fun _ h_ => h_.1))))) (Kd.R_lt (rx (Kd.R_mono (Kd.R_far (p := ⟨gb792, 3, none⟩) (Kd.R_far (p := ⟨gb792, 2, none⟩) (Kd.R_far (p := ⟨gb792, 1, none⟩) (Kd.R_far (p := ⟨gb792, 0, none⟩) (Kd.R_types HO787.out BK792.out (by decide)) (fun _ hk => hk.2) (.int .i64 t781)) (fun _ hk => hk.2) (.slice Ao71 t782.length co71)) (fun _ hk => hk.2) (.slice Ao72 t785.length co72)) (fun _ hk => hk.2) (.slice Ao73 t788.length co73)) (fun _ h_ => h_.1))))) (Kd.R_lt (rx (Kd.R_mono (Kd.R_far (p := ⟨gb792, 3, none⟩) (Kd.R_far (p := ⟨gb792, 2, none⟩) (Kd.R_far (p := ⟨gb792, 1, none⟩) (Kd.R_far (p := ⟨gb792, 0, none⟩) (Kd.R_types HO790.out BK792.out (by decide)) (fun _ hk => hk.2) (.int .i64 t781)) (fun _ hk => hk.2) (.slice Ao71 t782.length co71)) (fun _ hk => hk.2) (.slice Ao72 t785.length co72)) (fun _ hk => hk.2) (.slice Ao73 t788.length co73)) (fun _ h_ => h_.1))))) (below_size (hbx HB))); replace HO753 := Aside0.mk (Kd.R_mono (Kd.R_told (Kd.R_told (Kd.R_old (rx (Kd.R_mono (Kd.R_far (p := ⟨gb792, 3, none⟩) (Kd.R_far (p := ⟨gb792, 2, none⟩) (Kd.R_far (p := ⟨gb792, 1, none⟩) (Kd.R_far (p := ⟨gb792, 0, none⟩) (Kd.R_types HO753.out BK792.out (by decide)) (fun _ hk => hk.2) (.int .i64 t781)) (fun _ hk => hk.2) (.slice Ao71 t782.length co71)) (fun _ hk => hk.2) (.slice Ao72 t785.length co72)) (fun _ hk => hk.2) (.slice Ao73 t788.length co73)) (fun _ h_ => h_.1))) hb) (Kd.R_base ho1)) (Kd.R_base ho2)) (fun _ h_ => h_.1)); replace HO756 := Aside0.mk (Kd.R_mono (Kd.R_told (Kd.R_told (Kd.R_old (rx (Kd.R_mono (Kd.R_far (p := ⟨gb792, 3, none⟩) (Kd.R_far (p := ⟨gb792, 2, none⟩) (Kd.R_far (p := ⟨gb792, 1, none⟩) (Kd.R_far (p := ⟨gb792, 0, none⟩) (Kd.R_types HO756.out BK792.out (by decide)) (fun _ hk => hk.2) (.int .i64 t781)) (fun _ hk => hk.2) (.slice Ao71 t782.length co71)) (fun _ hk => hk.2) (.slice Ao72 t785.length co72)) (fun _ hk => hk.2) (.slice Ao73 t788.length co73)) (fun _ h_ => h_.1))) hb) (Kd.R_base ho1)) (Kd.R_base ho2)) (fun _ h_ => h_.1)); replace HO763 := Aside0.mk (Kd.R_mono (Kd.R_told (Kd.R_told (Kd.R_old (rx (Kd.R_mono (Kd.R_far (p := ⟨gb792, 3, none⟩) (Kd.R_far (p := ⟨gb792, 2, none⟩) (Kd.R_far (p := ⟨gb792, 1, none⟩) (Kd.R_far (p := ⟨gb792, 0, none⟩) (Kd.R_types HO763.out BK792.out (by decide)) (fun _ hk => hk.2) (.int .i64 t781)) (fun _ hk => hk.2) (.slice Ao71 t782.length co71)) (fun _ hk => hk.2) (.slice Ao72 t785.length co72)) (fun _ hk => hk.2) (.slice Ao73 t788.length co73)) (fun _ h_ => h_.1))) hb) (Kd.R_base ho1)) (Kd.R_base ho2)) (fun _ h_ => h_.1)); replace HO766 := Aside0.mk (Kd.R_mono (Kd.R_told (Kd.R_told (Kd.R_old (rx (Kd.R_mono (Kd.R_far (p := ⟨gb792, 3, none⟩) (Kd.R_far (p := ⟨gb792, 2, none⟩) (Kd.R_far (p := ⟨gb792, 1, none⟩) (Kd.R_far (p := ⟨gb792, 0, none⟩) (Kd.R_types HO766.out BK792.out (by decide)) (fun _ hk => hk.2) (.int .i64 t781)) (fun _ hk => hk.2) (.slice Ao71 t782.length co71)) (fun _ hk => hk.2) (.slice Ao72 t785.length co72)) (fun _ hk => hk.2) (.slice Ao73 t788.length co73)) (fun _ h_ => h_.1))) hb) (Kd.R_base ho1)) (Kd.R_base ho2)) (fun _ h_ => h_.1)); replace HO775 := Aside0.mk (Kd.R_mono (Kd.R_told (Kd.R_told (Kd.R_old (rx (Kd.R_mono (Kd.R_far (p := ⟨gb792, 3, none⟩) (Kd.R_far (p := ⟨gb792, 2, none⟩) (Kd.R_far (p := ⟨gb792, 1, none⟩) (Kd.R_far (p := ⟨gb792, 0, none⟩) (Kd.R_types HO775.out BK792.out (by decide)) (fun _ hk => hk.2) (.int .i64 t781)) (fun _ hk => hk.2) (.slice Ao71 t782.length co71)) (fun _ hk => hk.2) (.slice Ao72 t785.length co72)) (fun _ hk => hk.2) (.slice Ao73 t788.length co73)) (fun _ h_ => h_.1))) hb) (Kd.R_base ho1)) (Kd.R_base ho2)) (fun _ h_ => h_.1)); replace HO778 := Aside0.mk (Kd.R_mono (Kd.R_told (Kd.R_told (Kd.R_old (rx (Kd.R_mono (Kd.R_far (p := ⟨gb792, 3, none⟩) (Kd.R_far (p := ⟨gb792, 2, none⟩) (Kd.R_far (p := ⟨gb792, 1, none⟩) (Kd.R_far (p := ⟨gb792, 0, none⟩) (Kd.R_types HO778.out BK792.out (by decide)) (fun _ hk => hk.2) (.int .i64 t781)) (fun _ hk => hk.2) (.slice Ao71 t782.length co71)) (fun _ hk => hk.2) (.slice Ao72 t785.length co72)) (fun _ hk => hk.2) (.slice Ao73 t788.length co73)) (fun _ h_ => h_.1))) hb) (Kd.R_base ho1)) (Kd.R_base ho2)) (fun _ h_ => h_.1)); replace HO787 := Aside0.mk (Kd.R_mono (Kd.R_told (Kd.R_told (Kd.R_old (rx (Kd.R_mono (Kd.R_far (p := ⟨gb792, 3, none⟩) (Kd.R_far (p := ⟨gb792, 2, none⟩) (Kd.R_far (p := ⟨gb792, 1, none⟩) (Kd.R_far (p := ⟨gb792, 0, none⟩) (Kd.R_types HO787.out BK792.out (by decide)) (fun _ hk => hk.2) (.int .i64 t781)) (fun _ hk => hk.2) (.slice Ao71 t782.length co71)) (fun _ hk => hk.2) (.slice Ao72 t785.length co72)) (fun _ hk => hk.2) (.slice Ao73 t788.length co73)) (fun _ h_ => h_.1))) hb) (Kd.R_base ho1)) (Kd.R_base ho2)) (fun _ h_ => h_.1)); replace HO790 := Aside0.mk (Kd.R_mono (Kd.R_told (Kd.R_told (Kd.R_old (rx (Kd.R_mono (Kd.R_far (p := ⟨gb792, 3, none⟩) (Kd.R_far (p := ⟨gb792, 2, none⟩) (Kd.R_far (p := ⟨gb792, 1, none⟩) (Kd.R_far (p := ⟨gb792, 0, none⟩) (Kd.R_types HO790.out BK792.out (by decide)) (fun _ hk => hk.2) (.int .i64 t781)) (fun _ hk => hk.2) (.slice Ao71 t782.length co71)) (fun _ hk => hk.2) (.slice Ao72 t785.length co72)) (fun _ hk => hk.2) (.slice Ao73 t788.length co73)) (fun _ h_ => h_.1))) hb) (Kd.R_base ho1)) (Kd.R_base ho2)) (fun _ h_ => h_.1)); replace BK743 := bkfB BK743 hb; replace BK744 := bkfB BK744 hb; replace BK768 := bkfB BK768 hb; replace BK780 := bkfB BK780 hb; replace BK792 := Aside0.mk (blk_below (o := .cells #[.int .i64 t781, .slice Ao71 t782.length co71, .slice Ao72 t785.length co72, .slice Ao73 t788.length co73] 25 (0, 0)) (bkp BK792) hb); replace HB := hbS HB hb; (try clear hb); (try clear hb2); (try clear hk); (try clear hi); (try clear ho0); (try clear ho1); (try clear ho2)) | ((with_reducible refine gate_dst (N := 13) rfl ?_); refine boxE 13 #[.int .i64 0, .slice none 0 0, .slice none 0 0, .slice none 0 0] 25 ?_; intro gb804 hg w77 hbox hb; replace HO750 := rB HO750 hb; replace HO753 := rB HO753 hb; replace HO756 := rB HO756 hb; replace HO760 := rB HO760 hb; replace HO763 := rB HO763 hb; replace HO766 := rB HO766 hb; replace HO772 := rB HO772 hb; replace HO775 := rB HO775 hb; replace HO778 := rB HO778 hb; replace HO784 := rB HO784 hb; replace HO787 := rB HO787 hb; replace HO790 := rB HO790 hb; replace HO796 := rB HO796 hb; replace HO799 := rB HO799 hb; replace HO802 := rB HO802 hb; have BK804 := Aside0.mk (hbox); have GW804 := gw hg HB; have GE804 := gw hg HB; replace HB := hbS HB hb; have NB743_804 := nbl hg BK743; have NB804_743 := nbg hg BK743; replace BK743 := bkB BK743 hb; have NB744_804 := nbl hg BK744; have NB804_744 := nbg hg BK744; replace BK744 := bkB BK744 hb; have NB768_804 := nbl hg BK768; have NB804_768 := nbg hg BK768; replace BK768 := bkB BK768 hb; have NB780_804 := nbl hg BK780; have NB804_780 := nbg hg BK780; replace BK780 := bkB BK780 hb; have NB792_804 := nbl hg BK792; have NB804_792 := nbg hg BK792; replace BK792 := bkB BK792 hb; clear hb hbox hg; have hnb78 := NB804_743.out; have hnc78 := NB743_804.out; have hnb79 := NB804_744.out; have hnc79 := NB744_804.out; have hnb80 := NB804_768.out; have hnc80 := NB768_804.out; have hnb81 := NB804_780.out; have hnc81 := NB780_804.out; have hnb82 := NB804_792.out; have hnc82 := NB792_804.out; obtain ⟨z0, z1, z2, z3, y0, y1, y2, y3⟩ := bc4 BK804; obtain ⟨Ao84, co84, eo84⟩ := Kd.R_slice HO796.out; subst eo84; obtain ⟨Ao85, co85, eo85⟩ := Kd.R_slice HO799.out; subst eo85; obtain ⟨Ao86, co86, eo86⟩ := Kd.R_slice HO802.out; subst eo86; obtain ⟨z0, z1, z2, z3, y0, y1, y2, y3⟩ := bc4 BK743) | ((with_reducible refine gate_callee (f := 13) rfl ?_); refine goesL_ (some 66) rfl rfl Try.func13 (by kernel_rfl) rfl #[.agg #[.int .i64 a0_0, .slice A0_1 l0_1.length c0_1, .slice A0_2 l0_2.length c0_2, .slice A0_3 l0_3.length c0_3]] rfl sma ?_; (with_reducible refine (hopmeshref12_Copy.calls a0_0 _ _ l0_1 _ _ l0_2 _ _ l0_3 t805 t806 t809 t812 _ ?side1 HC0_1.out ?side3 HC0_2.out ?side5 HC0_3.out A13.out).mono ?_); (case side1 => exact Kd.C_below HR0_1.out (hbx HB)); (case side3 => exact Kd.C_below HR0_2.out (hbx HB)); (case side5 => exact Kd.C_below HR0_3.out (hbx HB)); rintro e w88 ⟨v807, v810, v813, rfl, ho0, ho1, ho2, hb⟩; refine ⟨_, rfl, ?_⟩; have HO808 := Aside0.mk (Kd.R_lower (Kd.R_new' (Kd.R_new' (Kd.R_new' (Kd.R_new' (Kd.R_new' ho0 (Kd.R_lt (rx (Kd.R_mono (Kd.R_far (p := ⟨gb804, 3, none⟩) (Kd.R_far (p := ⟨gb804, 2, none⟩) (Kd.R_far (p := ⟨gb804, 1, none⟩) (Kd.R_far (p := ⟨gb804, 0, none⟩) (Kd.R_types HO750.out BK804.out (by decide)) (fun _ hk => hk.2) (.int .i64 t793)) (fun _ hk => hk.2) (.slice Ao84 t794.length co84)) (fun _ hk => hk.2) (.slice Ao85 t797.length co85)) (fun _ hk => hk.2) (.slice Ao86 t800.length co86)) (fun _ h_ => h_.1))))) (Kd.R_lt (rx (Kd.R_mono (Kd.R_far (p := ⟨gb804, 3, none⟩) (Kd.R_far (p := ⟨gb804, 2, none⟩) (Kd.R_far (p := ⟨gb804, 1, none⟩) (Kd.R_far (p := ⟨gb804, 0, none⟩) (Kd.R_types HO760.out BK804.out (by decide)) (fun _ hk => hk.2) (.int .i64 t793)) (fun _ hk => hk.2) (.slice Ao84 t794.length co84)) (fun _ hk => hk.2) (.slice Ao85 t797.length co85)) (fun _ hk => hk.2) (.slice Ao86 t800.length co86)) (fun _ h_ => h_.1))))) (Kd.R_lt (rx (Kd.R_mono (Kd.R_far (p := ⟨gb804, 3, none⟩) (Kd.R_far (p := ⟨gb804, 2, none⟩) (Kd.R_far (p := ⟨gb804, 1, none⟩) (Kd.R_far (p := ⟨gb804, 0, none⟩) (Kd.R_types HO772.out BK804.out (by decide)) (fun _ hk => hk.2) (.int .i64 t793)) (fun _ hk => hk.2) (.slice Ao84 t794.length co84)) (fun _ hk => hk.2) (.slice Ao85 t797.length co85)) (fun _ hk => hk.2) (.slice Ao86 t800.length co86)) (fun _ h_ => h_.1))))) (Kd.R_lt (rx (Kd.R_mono (Kd.R_far (p := ⟨gb804, 3, none⟩) (Kd.R_far (p := ⟨gb804, 2, none⟩) (Kd.R_far (p := ⟨gb804, 1, none⟩) (Kd.R_far (p := ⟨gb804, 0, none⟩) (Kd.R_types HO784.out BK804.out (by decide)) (fun _ hk => hk.2) (.int .i64 t793)) (fun _ hk => hk.2) (.slice Ao84 t794.length co84)) (fun _ hk => hk.2) (.slice Ao85 t797.length co85)) (fun _ hk => hk.2) (.slice Ao86 t800.length co86)) (fun _ h_ => h_.1))))) (Kd.R_lt (rx (Kd.R_mono (Kd.R_far (p := ⟨gb804, 3, none⟩) (Kd.R_far (p := ⟨gb804, 2, none⟩) (Kd.R_far (p := ⟨gb804, 1, none⟩) (Kd.R_far (p := ⟨gb804, 0, none⟩) (Kd.R_types HO796.out BK804.out (by decide)) (fun _ hk => hk.2) (.int .i64 t793)) (fun _ hk => hk.2) (.slice Ao84 t794.length co84)) (fun _ hk => hk.2) (.slice Ao85 t797.length co85)) (fun _ hk => hk.2) (.slice Ao86 t800.length co86)) (fun _ h_ => h_.1))))) (below_size (hbx HB))); replace HO750 := Aside0.mk (Kd.R_elder' (rx (Kd.R_mono (Kd.R_far (p := ⟨gb804, 3, none⟩) (Kd.R_far (p := ⟨gb804, 2, none⟩) (Kd.R_far (p := ⟨gb804, 1, none⟩) (Kd.R_far (p := ⟨gb804, 0, none⟩) (Kd.R_types HO750.out BK804.out (by decide)) (fun _ hk => hk.2) (.int .i64 t793)) (fun _ hk => hk.2) (.slice Ao84 t794.length co84)) (fun _ hk => hk.2) (.slice Ao85 t797.length co85)) (fun _ hk => hk.2) (.slice Ao86 t800.length co86)) (fun _ h_ => h_.1))) (Kd.R_base ho0) hb); replace HO760 := Aside0.mk (Kd.R_elder' (rx (Kd.R_mono (Kd.R_far (p := ⟨gb804, 3, none⟩) (Kd.R_far (p := ⟨gb804, 2, none⟩) (Kd.R_far (p := ⟨gb804, 1, none⟩) (Kd.R_far (p := ⟨gb804, 0, none⟩) (Kd.R_types HO760.out BK804.out (by decide)) (fun _ hk => hk.2) (.int .i64 t793)) (fun _ hk => hk.2) (.slice Ao84 t794.length co84)) (fun _ hk => hk.2) (.slice Ao85 t797.length co85)) (fun _ hk => hk.2) (.slice Ao86 t800.length co86)) (fun _ h_ => h_.1))) (Kd.R_base ho0) hb); replace HO772 := Aside0.mk (Kd.R_elder' (rx (Kd.R_mono (Kd.R_far (p := ⟨gb804, 3, none⟩) (Kd.R_far (p := ⟨gb804, 2, none⟩) (Kd.R_far (p := ⟨gb804, 1, none⟩) (Kd.R_far (p := ⟨gb804, 0, none⟩) (Kd.R_types HO772.out BK804.out (by decide)) (fun _ hk => hk.2) (.int .i64 t793)) (fun _ hk => hk.2) (.slice Ao84 t794.length co84)) (fun _ hk => hk.2) (.slice Ao85 t797.length co85)) (fun _ hk => hk.2) (.slice Ao86 t800.length co86)) (fun _ h_ => h_.1))) (Kd.R_base ho0) hb); replace HO784 := Aside0.mk (Kd.R_elder' (rx (Kd.R_mono (Kd.R_far (p := ⟨gb804, 3, none⟩) (Kd.R_far (p := ⟨gb804, 2, none⟩) (Kd.R_far (p := ⟨gb804, 1, none⟩) (Kd.R_far (p := ⟨gb804, 0, none⟩) (Kd.R_types HO784.out BK804.out (by decide)) (fun _ hk => hk.2) (.int .i64 t793)) (fun _ hk => hk.2) (.slice Ao84 t794.length co84)) (fun _ hk => hk.2) (.slice Ao85 t797.length co85)) (fun _ hk => hk.2) (.slice Ao86 t800.length co86)) (fun _ h_ => h_.1))) (Kd.R_base ho0) hb); replace HO796 := Aside0.mk (Kd.R_elder' (rx (Kd.R_mono (Kd.R_far (p := ⟨gb804, 3, none⟩) (Kd.R_far (p := ⟨gb804, 2, none⟩) (Kd.R_far (p := ⟨gb804, 1, none⟩) (Kd.R_far (p := ⟨gb804, 0, none⟩) (Kd.R_types HO796.out BK804.out (by decide)) (fun _ hk => hk.2) (.int .i64 t793)) (fun _ hk => hk.2) (.slice Ao84 t794.length co84)) (fun _ hk => hk.2) (.slice Ao85 t797.length co85)) (fun _ hk => hk.2) (.slice Ao86 t800.length co86)) (fun _ h_ => h_.1))) (Kd.R_base ho0) hb); have HO811 := Aside0.mk (Kd.R_lower (Kd.R_new' (Kd.R_new' (Kd.R_new' (Kd.R_new' (Kd.R_new' (Kd.R_new' (Kd.R_new' (Kd.R_new' (Kd.R_new' (Kd.R_new' ho1 (Kd.R_lt (rx (Kd.R_mono (Kd.R_far (p := ⟨gb804, 3, none⟩) (Kd.R_far (p := ⟨gb804, 2, none⟩) (Kd.R_far (p := ⟨gb804, 1, none⟩) (Kd.R_far (p := ⟨gb804, 0, none⟩) (Kd.R_types HO753.out BK804.out (by decide)) (fun _ hk => hk.2) (.int .i64 t793)) (fun _ hk => hk.2) (.slice Ao84 t794.length co84)) (fun _ hk => hk.2) (.slice Ao85 t797.length co85)) (fun _ hk => hk.2) (.slice Ao86 t800.length co86)) (fun _ h_ => h_.1))))) (Kd.R_lt (rx (Kd.R_mono (Kd.R_far (p := ⟨gb804, 3, none⟩) (Kd.R_far (p := ⟨gb804, 2, none⟩) (Kd.R_far (p := ⟨gb804, 1, none⟩) (Kd.R_far (p := ⟨gb804, 0, none⟩) (Kd.R_types HO756.out BK804.out (by decide)) (fun _ hk => hk.2) (.int .i64 t793)) (fun _ hk => hk.2) (.slice Ao84 t794.length co84)) (fun _ hk => hk.2) (.slice Ao85 t797.length co85)) (fun _ hk => hk.2) (.slice Ao86 t800.length co86)) (fun _ h_ => h_.1))))) (Kd.R_lt (rx (Kd.R_mono (Kd.R_far (p := ⟨gb804, 3, none⟩) (Kd.R_far (p := ⟨gb804, 2, none⟩) (Kd.R_far (p := ⟨gb804, 1, none⟩) (Kd.R_far (p := ⟨gb804, 0, none⟩) (Kd.R_types HO763.out BK804.out (by decide)) (fun _ hk => hk.2) (.int .i64 t793)) (fun _ hk => hk.2) (.slice Ao84 t794.length co84)) (fun _ hk => hk.2) (.slice Ao85 t797.length co85)) (fun _ hk => hk.2) (.slice Ao86 t800.length co86)) (fun _ h_ => h_.1))))) (Kd.R_lt (rx (Kd.R_mono (Kd.R_far (p := ⟨gb804, 3, none⟩) (Kd.R_far (p := ⟨gb804, 2, none⟩) (Kd.R_far (p := ⟨gb804, 1, none⟩) (Kd.R_far (p := ⟨gb804, 0, none⟩) (Kd.R_types HO766.out BK804.out (by decide)) (fun _ hk => hk.2) (.int .i64 t793)) (fun _ hk => hk.2) (.slice Ao84 t794.length co84)) (fun _ hk => hk.2) (.slice Ao85 t797.length co85)) (fun _ hk => hk.2) (.slice Ao86 t800.length co86)) (fun _ h_ => h_.1))))) (Kd.R_lt (rx (Kd.R_mono (Kd.R_far (p := ⟨gb804, 3, none⟩) (Kd.R_far (p := ⟨gb804, 2, none⟩) (Kd.R_far (p := ⟨gb804, 1, none⟩) (Kd.R_far (p := ⟨gb804, 0, none⟩) (Kd.R_types HO775.out BK804.out (by decide)) (fun _ hk => hk.2) (.int .i64 t793)) (fun _ hk => hk.2) (.slice Ao84 t794.length co84)) (fun _ hk => hk.2) (.slice Ao85 t797.length co85)) (fun _ hk => hk.2) (.slice Ao86 t800.length co86)) (fun _ h_ => h_.1))))) (Kd.R_lt (rx (Kd.R_mono (Kd.R_far (p := ⟨gb804, 3, none⟩) (Kd.R_far (p := ⟨gb804, 2, none⟩) (Kd.R_far (p := ⟨gb804, 1, none⟩) (Kd.R_far (p := ⟨gb804, 0, none⟩) (Kd.R_types HO778.out BK804.out (by decide)) (fun _ hk => hk.2) (.int .i64 t793)) (fun _ hk => hk.2) (.slice Ao84 t794.length co84)) (fun _ hk => hk.2) (.slice Ao85 t797.length co85)) (fun _ hk => hk.2) (.slice Ao86 t800.length co86)) (fun _ h_ => h_.1))))) (Kd.R_lt (rx (Kd.R_mono (Kd.R_far (p := ⟨gb804, 3, none⟩) (Kd.R_far (p := ⟨gb804, 2, none⟩) (Kd.R_far (p := ⟨gb804, 1, none⟩) (Kd.R_far (p := ⟨gb804, 0, none⟩) (Kd.R_types HO787.out BK804.out (by decide)) (fun _ hk => hk.2) (.int .i64 t793)) (fun _ hk => hk.2) (.slice Ao84 t794.length co84)) (fun _ hk => hk.2) (.slice Ao85 t797.length co85)) (fun _ hk => hk.2) (.slice Ao86 t800.length co86)) (fun _ h_ => h_.1))))) (Kd.R_lt (rx (Kd.R_mono (Kd.R_far (p := ⟨gb804, 3, none⟩) (Kd.R_far (p := ⟨gb804, 2, none⟩) (Kd.R_far (p := ⟨gb804, 1, none⟩) (Kd.R_far (p := ⟨gb804, 0, none⟩) (Kd.R_types HO790.out BK804.out (by decide)) (fun _ hk => hk.2) (.int .i64 t793)) (fun _ hk => hk.2) (.slice Ao84 t794.length co84)) (fun _ hk => hk.2) (.slice Ao85 t797.length co85)) (fun _ hk => hk.2) (.slice Ao86 t800.length co86)) (fun _ h_ => h_.1))))) (Kd.R_lt (rx (Kd.R_mono (Kd.R_far (p := ⟨gb804, 3, none⟩) (Kd.R_far (p := ⟨gb804, 2, none⟩) (Kd.R_far (p := ⟨gb804, 1, none⟩) (Kd.R_far (p := ⟨gb804, 0, none⟩) (Kd.R_types HO799.out BK804.out (by decide)) (fun _ hk => hk.2) (.int .i64 t793)) (fun _ hk => hk.2) (.slice Ao84 t794.length co84)) (fun _ hk => hk.2) (.slice Ao85 t797.length co85)) (fun _ hk => hk.2) (.slice Ao86 t800.length co86)) (fun _ h_ => h_.1))))) (Kd.R_lt (rx (Kd.R_mono (Kd.R_far (p := ⟨gb804, 3, none⟩) (Kd.R_far (p := ⟨gb804, 2, none⟩) (Kd.R_far (p := ⟨gb804, 1, none⟩) (Kd.R_far (p := ⟨gb804, 0, none⟩) (Kd.R_types HO802.out BK804.out (by decide)) (fun _ hk => hk.2) (.int .i64 t793)) (fun _ hk => hk.2) (.slice Ao84 t794.length co84)) (fun _ hk => hk.2) (.slice Ao85 t797.length co85)) (fun _ hk => hk.2) (.slice Ao86 t800.length co86)) (fun _ h_ => h_.1))))) (below_size (hbx HB))); have HO814 := Aside0.mk (Kd.R_lower (Kd.R_new' (Kd.R_new' (Kd.R_new' (Kd.R_new' (Kd.R_new' (Kd.R_new' (Kd.R_new' (Kd.R_new' (Kd.R_new' (Kd.R_new' ho2 (Kd.R_lt (rx (Kd.R_mono (Kd.R_far (p := ⟨gb804, 3, none⟩) (Kd.R_far (p := ⟨gb804, 2, none⟩) (Kd.R_far (p := ⟨gb804, 1, none⟩) (Kd.R_far (p := ⟨gb804, 0, none⟩) (Kd.R_types HO753.out BK804.out (by decide)) (fun _ hk => hk.2) (.int .i64 t793)) (fun _ hk => hk.2) (.slice Ao84 t794.length co84)) (fun _ hk => hk.2) (.slice Ao85 t797.length co85)) (fun _ hk => hk.2) (.slice Ao86 t800.length co86)) (fun _ h_ => h_.1))))) (Kd.R_lt (rx (Kd.R_mono (Kd.R_far (p := ⟨gb804, 3, none⟩) (Kd.R_far (p := ⟨gb804, 2, none⟩) (Kd.R_far (p := ⟨gb804, 1, none⟩) (Kd.R_far (p := ⟨gb804, 0, none⟩) (Kd.R_types HO756.out BK804.out (by decide)) (fun _ hk => hk.2) (.int .i64 t793)) (fun _ hk => hk.2) (.slice Ao84 t794.length co84)) (fun _ hk => hk.2) (.slice Ao85 t797.length co85)) (fun _ hk => hk.2) (.slice Ao86 t800.length co86)) (fun _ h_ => h_.1))))) (Kd.R_lt (rx (Kd.R_mono (Kd.R_far (p := ⟨gb804, 3, none⟩) (Kd.R_far (p := ⟨gb804, 2, none⟩) (Kd.R_far (p := ⟨gb804, 1, none⟩) (Kd.R_far (p := ⟨gb804, 0, none⟩) (Kd.R_types HO763.out BK804.out (by decide)) (fun _ hk => hk.2) (.int .i64 t793)) (fun _ hk => hk.2) (.slice Ao84 t794.length co84)) (fun _ hk => hk.2) (.slice Ao85 t797.length co85)) (fun _ hk => hk.2) (.slice Ao86 t800.length co86)) (fun _ h_ => h_.1))))) (Kd.R_lt (rx (Kd.R_mono (Kd.R_far (p := ⟨gb804, 3, none⟩) (Kd.R_far (p := ⟨gb804, 2, none⟩) (Kd.R_far (p := ⟨gb804, 1, none⟩) (Kd.R_far (p := ⟨gb804, 0, none⟩) (Kd.R_types HO766.out BK804.out (by decide)) (fun _ hk => hk.2) (.int .i64 t793)) (fun _ hk => hk.2) (.slice Ao84 t794.length co84)) (fun _ hk => hk.2) (.slice Ao85 t797.length co85)) (fun _ hk => hk.2) (.slice Ao86 t800.length co86)) (fun _ h_ => h_.1))))) (Kd.R_lt (rx (Kd.R_mono (Kd.R_far (p := ⟨gb804, 3, none⟩) (Kd.R_far (p := ⟨gb804, 2, none⟩) (Kd.R_far (p := ⟨gb804, 1, none⟩) (Kd.R_far (p := ⟨gb804, 0, none⟩) (Kd.R_types HO775.out BK804.out (by decide)) (fun _ hk => hk.2) (.int .i64 t793)) (fun _ hk => hk.2) (.slice Ao84 t794.length co84)) (fun _ hk => hk.2) (.slice Ao85 t797.length co85)) (fun _ hk => hk.2) (.slice Ao86 t800.length co86)) (fun _ h_ => h_.1))))) (Kd.R_lt (rx (Kd.R_mono (Kd.R_far (p := ⟨gb804, 3, none⟩) (Kd.R_far (p := ⟨gb804, 2, none⟩) (Kd.R_far (p := ⟨gb804, 1, none⟩) (Kd.R_far (p := ⟨gb804, 0, none⟩) (Kd.R_types HO778.out BK804.out (by decide)) (fun _ hk => hk.2) (.int .i64 t793)) (fun _ hk => hk.2) (.slice Ao84 t794.length co84)) (fun _ hk => hk.2) (.slice Ao85 t797.length co85)) (fun _ hk => hk.2) (.slice Ao86 t800.length co86)) (fun _ h_ => h_.1))))) (Kd.R_lt (rx (Kd.R_mono (Kd.R_far (p := ⟨gb804, 3, none⟩) (Kd.R_far (p := ⟨gb804, 2, none⟩) (Kd.R_far (p := ⟨gb804, 1, none⟩) (Kd.R_far (p := ⟨gb804, 0, none⟩) (Kd.R_types HO787.out BK804.out (by decide)) (fun _ hk => hk.2) (.int .i64 t793)) (fun _ hk => hk.2) (.slice Ao84 t794.length co84)) (fun _ hk => hk.2) (.slice Ao85 t797.length co85)) (fun _ hk => hk.2) (.slice Ao86 t800.length co86)) (fun _ h_ => h_.1))))) (Kd.R_lt (rx (Kd.R_mono (Kd.R_far (p := ⟨gb804, 3, none⟩) (Kd.R_far (p := ⟨gb804, 2, none⟩) (Kd.R_far (p := ⟨gb804, 1, none⟩) (Kd.R_far (p := ⟨gb804, 0, none⟩) (Kd.R_types HO790.out BK804.out (by decide)) (fun _ hk => hk.2) (.int .i64 t793)) (fun _ hk => hk.2) (.slice Ao84 t794.length co84)) (fun _ hk => hk.2) (.slice Ao85 t797.length co85)) (fun _ hk => hk.2) (.slice Ao86 t800.length co86)) (fun _ h_ => h_.1))))) (Kd.R_lt (rx (Kd.R_mono (Kd.R_far (p := ⟨gb804, 3, none⟩) (Kd.R_far (p := ⟨gb804, 2, none⟩) (Kd.R_far (p := ⟨gb804, 1, none⟩) (Kd.R_far (p := ⟨gb804, 0, none⟩) (Kd.R_types HO799.out BK804.out (by decide)) (fun _ hk => hk.2) (.int .i64 t793)) (fun _ hk => hk.2) (.slice Ao84 t794.length co84)) (fun _ hk => hk.2) (.slice Ao85 t797.length co85)) (fun _ hk => hk.2) (.slice Ao86 t800.length co86)) (fun _ h_ => h_.1))))) (Kd.R_lt (rx (Kd.R_mono (Kd.R_far (p := ⟨gb804, 3, none⟩) (Kd.R_far (p := ⟨gb804, 2, none⟩) (Kd.R_far (p := ⟨gb804, 1, none⟩) (Kd.R_far (p := ⟨gb804, 0, none⟩) (Kd.R_types HO802.out BK804.out (by decide)) (fun _ hk => hk.2) (.int .i64 t793)) (fun _ hk => hk.2) (.slice Ao84 t794.length co84)) (fun _ hk => hk.2) (.slice Ao85 t797.length co85)) (fun _ hk => hk.2) (.slice Ao86 t800.length co86)) (fun _ h_ => h_.1))))) (below_size (hbx HB))); replace HO753 := Aside0.mk (Kd.R_mono (Kd.R_told (Kd.R_told (Kd.R_old (rx (Kd.R_mono (Kd.R_far (p := ⟨gb804, 3, none⟩) (Kd.R_far (p := ⟨gb804, 2, none⟩) (Kd.R_far (p := ⟨gb804, 1, none⟩) (Kd.R_far (p := ⟨gb804, 0, none⟩) (Kd.R_types HO753.out BK804.out (by decide)) (fun _ hk => hk.2) (.int .i64 t793)) (fun _ hk => hk.2) (.slice Ao84 t794.length co84)) (fun _ hk => hk.2) (.slice Ao85 t797.length co85)) (fun _ hk => hk.2) (.slice Ao86 t800.length co86)) (fun _ h_ => h_.1))) hb) (Kd.R_base ho1)) (Kd.R_base ho2)) (fun _ h_ => h_.1)); replace HO756 := Aside0.mk (Kd.R_mono (Kd.R_told (Kd.R_told (Kd.R_old (rx (Kd.R_mono (Kd.R_far (p := ⟨gb804, 3, none⟩) (Kd.R_far (p := ⟨gb804, 2, none⟩) (Kd.R_far (p := ⟨gb804, 1, none⟩) (Kd.R_far (p := ⟨gb804, 0, none⟩) (Kd.R_types HO756.out BK804.out (by decide)) (fun _ hk => hk.2) (.int .i64 t793)) (fun _ hk => hk.2) (.slice Ao84 t794.length co84)) (fun _ hk => hk.2) (.slice Ao85 t797.length co85)) (fun _ hk => hk.2) (.slice Ao86 t800.length co86)) (fun _ h_ => h_.1))) hb) (Kd.R_base ho1)) (Kd.R_base ho2)) (fun _ h_ => h_.1)); replace HO763 := Aside0.mk (Kd.R_mono (Kd.R_told (Kd.R_told (Kd.R_old (rx (Kd.R_mono (Kd.R_far (p := ⟨gb804, 3, none⟩) (Kd.R_far (p := ⟨gb804, 2, none⟩) (Kd.R_far (p := ⟨gb804, 1, none⟩) (Kd.R_far (p := ⟨gb804, 0, none⟩) (Kd.R_types HO763.out BK804.out (by decide)) (fun _ hk => hk.2) (.int .i64 t793)) (fun _ hk => hk.2) (.slice Ao84 t794.length co84)) (fun _ hk => hk.2) (.slice Ao85 t797.length co85)) (fun _ hk => hk.2) (.slice Ao86 t800.length co86)) (fun _ h_ => h_.1))) hb) (Kd.R_base ho1)) (Kd.R_base ho2)) (fun _ h_ => h_.1)); replace HO766 := Aside0.mk (Kd.R_mono (Kd.R_told (Kd.R_told (Kd.R_old (rx (Kd.R_mono (Kd.R_far (p := ⟨gb804, 3, none⟩) (Kd.R_far (p := ⟨gb804, 2, none⟩) (Kd.R_far (p := ⟨gb804, 1, none⟩) (Kd.R_far (p := ⟨gb804, 0, none⟩) (Kd.R_types HO766.out BK804.out (by decide)) (fun _ hk => hk.2) (.int .i64 t793)) (fun _ hk => hk.2) (.slice Ao84 t794.length co84)) (fun _ hk => hk.2) (.slice Ao85 t797.length co85)) (fun _ hk => hk.2) (.slice Ao86 t800.length co86)) (fun _ h_ => h_.1))) hb) (Kd.R_base ho1)) (Kd.R_base ho2)) (fun _ h_ => h_.1)); replace HO775 := Aside0.mk (Kd.R_mono (Kd.R_told (Kd.R_told (Kd.R_old (rx (Kd.R_mono (Kd.R_far (p := ⟨gb804, 3, none⟩) (Kd.R_far (p := ⟨gb804, 2, none⟩) (Kd.R_far (p := ⟨gb804, 1, none⟩) (Kd.R_far (p := ⟨gb804, 0, none⟩) (Kd.R_types HO775.out BK804.out (by decide)) (fun _ hk => hk.2) (.int .i64 t793)) (fun _ hk => hk.2) (.slice Ao84 t794.length co84)) (fun _ hk => hk.2) (.slice Ao85 t797.length co85)) (fun _ hk => hk.2) (.slice Ao86 t800.length co86)) (fun _ h_ => h_.1))) hb) (Kd.R_base ho1)) (Kd.R_base ho2)) (fun _ h_ => h_.1)); replace HO778 := Aside0.mk (Kd.R_mono (Kd.R_told (Kd.R_told (Kd.R_old (rx (Kd.R_mono (Kd.R_far (p := ⟨gb804, 3, none⟩) (Kd.R_far (p := ⟨gb804, 2, none⟩) (Kd.R_far (p := ⟨gb804, 1, none⟩) (Kd.R_far (p := ⟨gb804, 0, none⟩) (Kd.R_types HO778.out BK804.out (by decide)) (fun _ hk => hk.2) (.int .i64 t793)) (fun _ hk => hk.2) (.slice Ao84 t794.length co84)) (fun _ hk => hk.2) (.slice Ao85 t797.length co85)) (fun _ hk => hk.2) (.slice Ao86 t800.length co86)) (fun _ h_ => h_.1))) hb) (Kd.R_base ho1)) (Kd.R_base ho2)) (fun _ h_ => h_.1)); replace HO787 := Aside0.mk (Kd.R_mono (Kd.R_told (Kd.R_told (Kd.R_old (rx (Kd.R_mono (Kd.R_far (p := ⟨gb804, 3, none⟩) (Kd.R_far (p := ⟨gb804, 2, none⟩) (Kd.R_far (p := ⟨gb804, 1, none⟩) (Kd.R_far (p := ⟨gb804, 0, none⟩) (Kd.R_types HO787.out BK804.out (by decide)) (fun _ hk => hk.2) (.int .i64 t793)) (fun _ hk => hk.2) (.slice Ao84 t794.length co84)) (fun _ hk => hk.2) (.slice Ao85 t797.length co85)) (fun _ hk => hk.2) (.slice Ao86 t800.length co86)) (fun _ h_ => h_.1))) hb) (Kd.R_base ho1)) (Kd.R_base ho2)) (fun _ h_ => h_.1)); replace HO790 := Aside0.mk (Kd.R_mono (Kd.R_told (Kd.R_told (Kd.R_old (rx (Kd.R_mono (Kd.R_far (p := ⟨gb804, 3, none⟩) (Kd.R_far (p := ⟨gb804, 2, none⟩) (Kd.R_far (p := ⟨gb804, 1, none⟩) (Kd.R_far (p := ⟨gb804, 0, none⟩) (Kd.R_types HO790.out BK804.out (by decide)) (fun _ hk => hk.2) (.int .i64 t793)) (fun _ hk => hk.2) (.slice Ao84 t794.length co84)) (fun _ hk => hk.2) (.slice Ao85 t797.length co85)) (fun _ hk => hk.2) (.slice Ao86 t800.length co86)) (fun _ h_ => h_.1))) hb) (Kd.R_base ho1)) (Kd.R_base ho2)) (fun _ h_ => h_.1)); replace HO799 := Aside0.mk (Kd.R_mono (Kd.R_told (Kd.R_told (Kd.R_old (rx (Kd.R_mono (Kd.R_far (p := ⟨gb804, 3, none⟩) (Kd.R_far (p := ⟨gb804, 2, none⟩) (Kd.R_far (p := ⟨gb804, 1, none⟩) (Kd.R_far (p := ⟨gb804, 0, none⟩) (Kd.R_types HO799.out BK804.out (by decide)) (fun _ hk => hk.2) (.int .i64 t793)) (fun _ hk => hk.2) (.slice Ao84 t794.length co84)) (fun _ hk => hk.2) (.slice Ao85 t797.length co85)) (fun _ hk => hk.2) (.slice Ao86 t800.length co86)) (fun _ h_ => h_.1))) hb) (Kd.R_base ho1)) (Kd.R_base ho2)) (fun _ h_ => h_.1)); replace HO802 := Aside0.mk (Kd.R_mono (Kd.R_told (Kd.R_told (Kd.R_old (rx (Kd.R_mono (Kd.R_far (p := ⟨gb804, 3, none⟩) (Kd.R_far (p := ⟨gb804, 2, none⟩) (Kd.R_far (p := ⟨gb804, 1, none⟩) (Kd.R_far (p := ⟨gb804, 0, none⟩) (Kd.R_types HO802.out BK804.out (by decide)) (fun _ hk => hk.2) (.int .i64 t793)) (fun _ hk => hk.2) (.slice Ao84 t794.length co84)) (fun _ hk => hk.2) (.slice Ao85 t797.length co85)) (fun _ hk => hk.2) (.slice Ao86 t800.length co86)) (fun _ h_ => h_.1))) hb) (Kd.R_base ho1)) (Kd.R_base ho2)) (fun _ h_ => h_.1)); replace BK743 := bkfB BK743 hb; replace BK744 := bkfB BK744 hb; replace BK768 := bkfB BK768 hb; replace BK780 := bkfB BK780 hb; replace BK792 := bkfB BK792 hb; replace BK804 := Aside0.mk (blk_below (o := .cells #[.int .i64 t793, .slice Ao84 t794.length co84, .slice Ao85 t797.length co85, .slice Ao86 t800.length co86] 25 (0, 0)) (bkp BK804) hb); replace HB := hbS HB hb; (try clear hb); (try clear hb2); (try clear hk); (try clear hi); (try clear ho0); (try clear ho1); (try clear ho2); obtain ⟨Ao89, co89, eo89⟩ := Kd.R_slice HO808.out; subst eo89; obtain ⟨Ao90, co90, eo90⟩ := Kd.R_slice HO811.out; subst eo90; obtain ⟨Ao91, co91, eo91⟩ := Kd.R_slice HO814.out; subst eo91) | ((with_reducible refine gate_callee (f := 15) rfl ?_); refine goesL_ (some 67) rfl rfl Try.func15 (by kernel_rfl) rfl #[.agg #[.int .i64 t805, .slice Ao89 t806.length co89, .slice Ao90 t809.length co90, .slice Ao91 t812.length co91]] rfl sma ?_; (with_reducible refine (quality_Black.calls k t805 _ _ t806 _ _ t809 _ _ t812 t815 t818 _ ?side1 ?side2 ?side3 ?side4 ?side5 ?side6 A14.out).mono ?_); (case side1 => repeat (first | exact (Kd.R_reads' HO808.out).2.2 | (with_reducible refine Kd.C_alloc ?_ _) | (with_reducible refine Kd.C_drewN ?_ _) | (with_reducible refine Kd.C_drew ?_))); (case side2 => exact (Kd.R_reads' HO808.out).2.1); (case side3 => repeat (first | exact (Kd.R_reads' HO811.out).2.2 | (with_reducible refine Kd.C_alloc ?_ _) | (with_reducible refine Kd.C_drewN ?_ _) | (with_reducible refine Kd.C_drew ?_))); (case side4 => exact (Kd.R_reads' HO811.out).2.1); (case side5 => repeat (first | exact (Kd.R_reads' HO814.out).2.2 | (with_reducible refine Kd.C_alloc ?_ _) | (with_reducible refine Kd.C_drewN ?_ _) | (with_reducible refine Kd.C_drew ?_))); (case side6 => exact (Kd.R_reads' HO814.out).2.1); rintro e w92 ⟨v816, rfl, ho0, hb⟩; refine ⟨_, rfl, ?_⟩; replace HO750 := rB HO750 hb; replace HO760 := rB HO760 hb; replace HO772 := rB HO772 hb; replace HO784 := rB HO784 hb; replace HO796 := rB HO796 hb; replace HO808 := rB HO808 hb; have HO817 := Aside0.mk (Kd.R_lower (Kd.R_new' (Kd.R_new' (Kd.R_new' (Kd.R_new' (Kd.R_new' (Kd.R_new' (Kd.R_new' (Kd.R_new' (Kd.R_new' (Kd.R_new' (Kd.R_new' (Kd.R_new' ho0 (Kd.R_lt (ro HO753))) (Kd.R_lt (ro HO756))) (Kd.R_lt (ro HO763))) (Kd.R_lt (ro HO766))) (Kd.R_lt (ro HO775))) (Kd.R_lt (ro HO778))) (Kd.R_lt (ro HO787))) (Kd.R_lt (ro HO790))) (Kd.R_lt (ro HO799))) (Kd.R_lt (ro HO802))) (Kd.R_lt (ro HO811))) (Kd.R_lt (ro HO814))) (below_size (hbx HB))); replace HO753 := Aside0.mk (Kd.R_elder' (ro HO753) (Kd.R_base ho0) hb); replace HO756 := Aside0.mk (Kd.R_elder' (ro HO756) (Kd.R_base ho0) hb); replace HO763 := Aside0.mk (Kd.R_elder' (ro HO763) (Kd.R_base ho0) hb); replace HO766 := Aside0.mk (Kd.R_elder' (ro HO766) (Kd.R_base ho0) hb); replace HO775 := Aside0.mk (Kd.R_elder' (ro HO775) (Kd.R_base ho0) hb); replace HO778 := Aside0.mk (Kd.R_elder' (ro HO778) (Kd.R_base ho0) hb); replace HO787 := Aside0.mk (Kd.R_elder' (ro HO787) (Kd.R_base ho0) hb); replace HO790 := Aside0.mk (Kd.R_elder' (ro HO790) (Kd.R_base ho0) hb); replace HO799 := Aside0.mk (Kd.R_elder' (ro HO799) (Kd.R_base ho0) hb); replace HO802 := Aside0.mk (Kd.R_elder' (ro HO802) (Kd.R_base ho0) hb); replace HO811 := Aside0.mk (Kd.R_elder' (ro HO811) (Kd.R_base ho0) hb); replace HO814 := Aside0.mk (Kd.R_elder' (ro HO814) (Kd.R_base ho0) hb); replace BK743 := bkB BK743 hb; replace BK744 := bkB BK744 hb; replace BK768 := bkB BK768 hb; replace BK780 := bkB BK780 hb; replace BK792 := bkB BK792 hb; replace BK804 := bkB BK804 hb; replace HB := hbS HB hb; (try clear hb); (try clear hb2); (try clear hk); (try clear hi); (try clear ho0); obtain ⟨z0, z1, z2, z3, y0, y1, y2, y3⟩ := bc4 BK743) | ((with_reducible refine gate_callee (f := 38) rfl ?_); refine goesL_ (some 72) rfl rfl Try.func38 (by kernel_rfl) rfl #[.agg #[.int .i64 a0_0, .slice A0_1 l0_1.length c0_1, .slice A0_2 l0_2.length c0_2, .slice A0_3 l0_3.length c0_3]] rfl sma ?_; (with_reducible refine (hopmeshref12_Black.calls k a0_0 _ _ l0_1 _ _ l0_2 _ _ l0_3 t819 t822 _ (cb HR0_1 HB) HC0_1.out (cb HR0_2 HB) HC0_2.out (cb HR0_3 HB) HC0_3.out A15.out).mono ?_); rintro e w94 ⟨v820, rfl, ho0, hb⟩; refine ⟨_, rfl, ?_⟩; replace HO750 := rB HO750 hb; replace HO760 := rB HO760 hb; replace HO772 := rB HO772 hb; replace HO784 := rB HO784 hb; replace HO796 := rB HO796 hb; replace HO808 := rB HO808 hb; have HO821 := Aside0.mk (Kd.R_lower (Kd.R_new' (Kd.R_new' (Kd.R_new' (Kd.R_new' (Kd.R_new' (Kd.R_new' (Kd.R_new' (Kd.R_new' (Kd.R_new' (Kd.R_new' (Kd.R_new' (Kd.R_new' (Kd.R_new' ho0 (Kd.R_lt (ro HO753))) (Kd.R_lt (ro HO756))) (Kd.R_lt (ro HO763))) (Kd.R_lt (ro HO766))) (Kd.R_lt (ro HO775))) (Kd.R_lt (ro HO778))) (Kd.R_lt (ro HO787))) (Kd.R_lt (ro HO790))) (Kd.R_lt (ro HO799))) (Kd.R_lt (ro HO802))) (Kd.R_lt (ro HO811))) (Kd.R_lt (ro HO814))) (Kd.R_lt (ro HO817))) (below_size (hbx HB))); replace HO753 := Aside0.mk (Kd.R_elder' (ro HO753) (Kd.R_base ho0) hb); replace HO756 := Aside0.mk (Kd.R_elder' (ro HO756) (Kd.R_base ho0) hb); replace HO763 := Aside0.mk (Kd.R_elder' (ro HO763) (Kd.R_base ho0) hb); replace HO766 := Aside0.mk (Kd.R_elder' (ro HO766) (Kd.R_base ho0) hb); replace HO775 := Aside0.mk (Kd.R_elder' (ro HO775) (Kd.R_base ho0) hb); replace HO778 := Aside0.mk (Kd.R_elder' (ro HO778) (Kd.R_base ho0) hb); replace HO787 := Aside0.mk (Kd.R_elder' (ro HO787) (Kd.R_base ho0) hb); replace HO790 := Aside0.mk (Kd.R_elder' (ro HO790) (Kd.R_base ho0) hb); replace HO799 := Aside0.mk (Kd.R_elder' (ro HO799) (Kd.R_base ho0) hb); replace HO802 := Aside0.mk (Kd.R_elder' (ro HO802) (Kd.R_base ho0) hb); replace HO811 := Aside0.mk (Kd.R_elder' (ro HO811) (Kd.R_base ho0) hb); replace HO814 := Aside0.mk (Kd.R_elder' (ro HO814) (Kd.R_base ho0) hb); replace HO817 := Aside0.mk (Kd.R_elder' (ro HO817) (Kd.R_base ho0) hb); replace BK743 := bkB BK743 hb; replace BK744 := bkB BK744 hb; replace BK768 := bkB BK768 hb; replace BK780 := bkB BK780 hb; replace BK792 := bkB BK792 hb; replace BK804 := bkB BK804 hb; replace HB := hbS HB hb; (try clear hb); (try clear hb2); (try clear hk); (try clear hi); (try clear ho0)))
         replace HO750 := Aside0.mk (Kd.R_drew HO750.out)
         replace HO753 := Aside0.mk (Kd.R_drew HO753.out)
         replace HO756 := Aside0.mk (Kd.R_drew HO756.out)
         replace HO760 := Aside0.mk (Kd.R_drew HO760.out)
         replace HO763 := Aside0.mk (Kd.R_drew HO763.out)
         replace HO766 := Aside0.mk (Kd.R_drew HO766.out)
         replace HO772 := Aside0.mk (Kd.R_drew HO772.out)
         replace HO775 := Aside0.mk (Kd.R_drew HO775.out)
         replace HO778 := Aside0.mk (Kd.R_drew HO778.out)
         replace HO784 := Aside0.mk (Kd.R_drew HO784.out)
         replace HO787 := Aside0.mk (Kd.R_drew HO787.out)
         replace HO790 := Aside0.mk (Kd.R_drew HO790.out)
         replace HO796 := Aside0.mk (Kd.R_drew HO796.out)
         replace HO799 := Aside0.mk (Kd.R_drew HO799.out)
         replace HO802 := Aside0.mk (Kd.R_drew HO802.out)
         replace HO808 := Aside0.mk (Kd.R_drew HO808.out)
         replace HO811 := Aside0.mk (Kd.R_drew HO811.out)
         replace HO814 := Aside0.mk (Kd.R_drew HO814.out)
         replace HO817 := Aside0.mk (Kd.R_drew HO817.out)
         replace HO821 := Aside0.mk (Kd.R_drew HO821.out)
         replace BK743 := Aside0.mk (blk_drew BK743.out)
         replace BK744 := Aside0.mk (blk_drew BK744.out)
         replace BK768 := Aside0.mk (blk_drew BK768.out)
         replace BK780 := Aside0.mk (blk_drew BK780.out)
         replace BK792 := Aside0.mk (blk_drew BK792.out)
         replace BK804 := Aside0.mk (blk_drew BK804.out)
         replace HB := Aside0.mk (below_drew1 HB.out)
         refine start_ (n := 37) (S := fun w' => w'.cell? ⟨gb743, 0, none⟩ = some (.int .i64 a0_0) ∧ w'.cell? ⟨gb743, 1, none⟩ = some (.slice A0_1 l0_1.length c0_1) ∧ w'.cell? ⟨gb743, 2, none⟩ = some (.slice A0_2 l0_2.length c0_2) ∧ w'.cell? ⟨gb743, 3, none⟩ = some (.slice A0_3 l0_3.length c0_3) ∧ w'.cell? ⟨gb768, 0, none⟩ = some (.int .i64 t757) ∧ w'.cell? ⟨gb768, 1, none⟩ = some (.slice Ao43 t758.length co43) ∧ w'.cell? ⟨gb768, 2, none⟩ = some (.slice Ao45 t761.length co45) ∧ w'.cell? ⟨gb768, 3, none⟩ = some (.slice Ao47 t764.length co47) ∧ w'.cell? ⟨gb780, 0, none⟩ = some (.int .i64 t769) ∧ w'.cell? ⟨gb780, 1, none⟩ = some (.slice Ao59 t770.length co59) ∧ w'.cell? ⟨gb780, 2, none⟩ = some (.slice Ao60 t773.length co60) ∧ w'.cell? ⟨gb780, 3, none⟩ = some (.slice Ao61 t776.length co61) ∧ w'.cell? ⟨gb792, 0, none⟩ = some (.int .i64 t781) ∧ w'.cell? ⟨gb792, 1, none⟩ = some (.slice Ao71 t782.length co71) ∧ w'.cell? ⟨gb792, 2, none⟩ = some (.slice Ao72 t785.length co72) ∧ w'.cell? ⟨gb792, 3, none⟩ = some (.slice Ao73 t788.length co73) ∧ w'.cell? ⟨gb804, 0, none⟩ = some (.int .i64 t793) ∧ w'.cell? ⟨gb804, 1, none⟩ = some (.slice Ao84 t794.length co84) ∧ w'.cell? ⟨gb804, 2, none⟩ = some (.slice Ao85 t797.length co85) ∧ w'.cell? ⟨gb804, 3, none⟩ = some (.slice Ao86 t800.length co86)) (ds := []) #[false, false, false, false, false, false, false, false, false, false, false, false, false, false, false, false, false, false, false, false, false, false, false, false, false, false, false, false, false, false, false, false, false, false, false, false, false] (by kernel_rfl) rfl rfl ⟨(blk_cell BK743.out 0).trans rfl, (blk_cell BK743.out 1).trans rfl, (blk_cell BK743.out 2).trans rfl, (blk_cell BK743.out 3).trans rfl, (blk_cell BK768.out 0).trans rfl, (blk_cell BK768.out 1).trans rfl, (blk_cell BK768.out 2).trans rfl, (blk_cell BK768.out 3).trans rfl, (blk_cell BK780.out 0).trans rfl, (blk_cell BK780.out 1).trans rfl, (blk_cell BK780.out 2).trans rfl, (blk_cell BK780.out 3).trans rfl, (blk_cell BK792.out 0).trans rfl, (blk_cell BK792.out 1).trans rfl, (blk_cell BK792.out 2).trans rfl, (blk_cell BK792.out 3).trans rfl, (blk_cell BK804.out 0).trans rfl, (blk_cell BK804.out 1).trans rfl, (blk_cell BK804.out 2).trans rfl, (blk_cell BK804.out 3).trans rfl⟩ (fun hHeld => ?_); refine with_tabW hopmeshlaw12_QualityLearns.tab11 hopmeshlaw12_QualityLearns.bits11 (fun HT_ HW_ => ?_)
         generalize w94.drew = w95 at HO750 HO753 HO756 HO760 HO763 HO766 HO772 HO775 HO778 HO784 HO787 HO790 HO796 HO799 HO802 HO808 HO811 HO814 HO817 HO821 BK743 BK744 BK768 BK780 BK792 BK804 HB hHeld ⊢
         refine tak 0 (some 75) #[true, false, false, false, false, false, false, false, false, false, false, false, false, false, false, false, false, false, false, false, false, false, false, false, false, false, false, false, false, false, false, false, false, false, false, false, false] HT_ HW_ hHeld rfl (Or.inl ⟨by rfl, by rintro w' ⟨s0, s1, s2, s3, s4, s5, s6, s7, s8, s9, s10, s11, s12, s13, s14, s15, s16, s17, s18, s19⟩; go_simp; with_reducible rfl⟩) ?_
         refine tak 3 (some 78) #[true, false, false, true, false, false, false, false, false, false, false, false, false, false, false, false, false, false, false, false, false, false, false, false, false, false, false, false, false, false, false, false, false, false, false, false, false] HT_ HW_ hHeld rfl (Or.inl ⟨by rfl, by rintro w' ⟨s0, s1, s2, s3, s4, s5, s6, s7, s8, s9, s10, s11, s12, s13, s14, s15, s16, s17, s18, s19⟩; go_simp; with_reducible rfl⟩) ?_
         refine one_ (i := 1) (N := some 76) #[true, true, false, true, false, false, false, false, false, false, false, false, false, false, false, false, false, false, false, false, false, false, false, false, false, false, false, false, false, false, false, false, false, false, false, false, false] rfl rfl (one_of HT_.out (by kernel_rfl)) (by decide) (fun K hK => ?_)
         refine goes_ Try.func13 (by kernel_rfl) rfl #[.agg #[.int .i64 a0_0, .slice A0_1 l0_1.length c0_1, .slice A0_2 l0_2.length c0_2, .slice A0_3 l0_3.length c0_3]] (by rfl) rfl rfl sma ?_
         with_reducible refine (hopmeshref12_Copy.calls a0_0 _ _ l0_1 _ _ l0_2 _ _ l0_3 t823 t824 t827 t830 _ ?side1 ?side2 ?side3 ?side4 ?side5 ?side6 A16.out).mono ?_
         (case side1 => repeat (first | exact (Kd.C_below HR0_1.out HB.out) | (with_reducible refine Kd.C_alloc ?_ _) | (with_reducible refine Kd.C_drewN ?_ _) | (with_reducible refine Kd.C_drew ?_)))
         (case side2 => exact HC0_1.out)
         (case side3 => repeat (first | exact (Kd.C_below HR0_2.out HB.out) | (with_reducible refine Kd.C_alloc ?_ _) | (with_reducible refine Kd.C_drewN ?_ _) | (with_reducible refine Kd.C_drew ?_)))
         (case side4 => exact HC0_2.out)
         (case side5 => repeat (first | exact (Kd.C_below HR0_3.out HB.out) | (with_reducible refine Kd.C_alloc ?_ _) | (with_reducible refine Kd.C_drewN ?_ _) | (with_reducible refine Kd.C_drew ?_)))
         (case side6 => exact HC0_3.out)
         rintro e w96 ⟨v825, v828, v831, rfl, ho0, ho1, ho2, hb⟩
         refine ⟨_, rfl, ?_⟩
         have HO826 := Aside0.mk (Kd.R_lower (Kd.R_new' (Kd.R_new' (Kd.R_new' (Kd.R_new' (Kd.R_new' (Kd.R_new' ho0 (Kd.R_lt (ro HO750))) (Kd.R_lt (ro HO760))) (Kd.R_lt (ro HO772))) (Kd.R_lt (ro HO784))) (Kd.R_lt (ro HO796))) (Kd.R_lt (ro HO808))) (below_size (hbx HB)))
         replace HO750 := Aside0.mk (Kd.R_elder' (ro HO750) (Kd.R_base ho0) hb)
         replace HO760 := Aside0.mk (Kd.R_elder' (ro HO760) (Kd.R_base ho0) hb)
         replace HO772 := Aside0.mk (Kd.R_elder' (ro HO772) (Kd.R_base ho0) hb)
         replace HO784 := Aside0.mk (Kd.R_elder' (ro HO784) (Kd.R_base ho0) hb)
         replace HO796 := Aside0.mk (Kd.R_elder' (ro HO796) (Kd.R_base ho0) hb)
         replace HO808 := Aside0.mk (Kd.R_elder' (ro HO808) (Kd.R_base ho0) hb)
         have HO829 := Aside0.mk (Kd.R_lower (Kd.R_new' (Kd.R_new' (Kd.R_new' (Kd.R_new' (Kd.R_new' (Kd.R_new' (Kd.R_new' (Kd.R_new' (Kd.R_new' (Kd.R_new' (Kd.R_new' (Kd.R_new' (Kd.R_new' (Kd.R_new' ho1 (Kd.R_lt (ro HO753))) (Kd.R_lt (ro HO756))) (Kd.R_lt (ro HO763))) (Kd.R_lt (ro HO766))) (Kd.R_lt (ro HO775))) (Kd.R_lt (ro HO778))) (Kd.R_lt (ro HO787))) (Kd.R_lt (ro HO790))) (Kd.R_lt (ro HO799))) (Kd.R_lt (ro HO802))) (Kd.R_lt (ro HO811))) (Kd.R_lt (ro HO814))) (Kd.R_lt (ro HO817))) (Kd.R_lt (ro HO821))) (below_size (hbx HB)))
         have HO832 := Aside0.mk (Kd.R_lower (Kd.R_new' (Kd.R_new' (Kd.R_new' (Kd.R_new' (Kd.R_new' (Kd.R_new' (Kd.R_new' (Kd.R_new' (Kd.R_new' (Kd.R_new' (Kd.R_new' (Kd.R_new' (Kd.R_new' (Kd.R_new' ho2 (Kd.R_lt (ro HO753))) (Kd.R_lt (ro HO756))) (Kd.R_lt (ro HO763))) (Kd.R_lt (ro HO766))) (Kd.R_lt (ro HO775))) (Kd.R_lt (ro HO778))) (Kd.R_lt (ro HO787))) (Kd.R_lt (ro HO790))) (Kd.R_lt (ro HO799))) (Kd.R_lt (ro HO802))) (Kd.R_lt (ro HO811))) (Kd.R_lt (ro HO814))) (Kd.R_lt (ro HO817))) (Kd.R_lt (ro HO821))) (below_size (hbx HB)))
         replace HO753 := Aside0.mk (Kd.R_mono (Kd.R_told (Kd.R_told (Kd.R_old (ro HO753) hb) (Kd.R_base ho1)) (Kd.R_base ho2)) (fun _ h_ => h_.1))
         replace HO756 := Aside0.mk (Kd.R_mono (Kd.R_told (Kd.R_told (Kd.R_old (ro HO756) hb) (Kd.R_base ho1)) (Kd.R_base ho2)) (fun _ h_ => h_.1))
         replace HO763 := Aside0.mk (Kd.R_mono (Kd.R_told (Kd.R_told (Kd.R_old (ro HO763) hb) (Kd.R_base ho1)) (Kd.R_base ho2)) (fun _ h_ => h_.1))
         replace HO766 := Aside0.mk (Kd.R_mono (Kd.R_told (Kd.R_told (Kd.R_old (ro HO766) hb) (Kd.R_base ho1)) (Kd.R_base ho2)) (fun _ h_ => h_.1))
         replace HO775 := Aside0.mk (Kd.R_mono (Kd.R_told (Kd.R_told (Kd.R_old (ro HO775) hb) (Kd.R_base ho1)) (Kd.R_base ho2)) (fun _ h_ => h_.1))
         replace HO778 := Aside0.mk (Kd.R_mono (Kd.R_told (Kd.R_told (Kd.R_old (ro HO778) hb) (Kd.R_base ho1)) (Kd.R_base ho2)) (fun _ h_ => h_.1))
         replace HO787 := Aside0.mk (Kd.R_mono (Kd.R_told (Kd.R_told (Kd.R_old (ro HO787) hb) (Kd.R_base ho1)) (Kd.R_base ho2)) (fun _ h_ => h_.1))
         replace HO790 := Aside0.mk (Kd.R_mono (Kd.R_told (Kd.R_told (Kd.R_old (ro HO790) hb) (Kd.R_base ho1)) (Kd.R_base ho2)) (fun _ h_ => h_.1))
         replace HO799 := Aside0.mk (Kd.R_mono (Kd.R_told (Kd.R_told (Kd.R_old (ro HO799) hb) (Kd.R_base ho1)) (Kd.R_base ho2)) (fun _ h_ => h_.1))
         replace HO802 := Aside0.mk (Kd.R_mono (Kd.R_told (Kd.R_told (Kd.R_old (ro HO802) hb) (Kd.R_base ho1)) (Kd.R_base ho2)) (fun _ h_ => h_.1))
         replace HO811 := Aside0.mk (Kd.R_mono (Kd.R_told (Kd.R_told (Kd.R_old (ro HO811) hb) (Kd.R_base ho1)) (Kd.R_base ho2)) (fun _ h_ => h_.1))
         replace HO814 := Aside0.mk (Kd.R_mono (Kd.R_told (Kd.R_told (Kd.R_old (ro HO814) hb) (Kd.R_base ho1)) (Kd.R_base ho2)) (fun _ h_ => h_.1))
         replace HO817 := Aside0.mk (Kd.R_mono (Kd.R_told (Kd.R_told (Kd.R_old (ro HO817) hb) (Kd.R_base ho1)) (Kd.R_base ho2)) (fun _ h_ => h_.1))
         replace HO821 := Aside0.mk (Kd.R_mono (Kd.R_told (Kd.R_told (Kd.R_old (ro HO821) hb) (Kd.R_base ho1)) (Kd.R_base ho2)) (fun _ h_ => h_.1))
         replace BK743 := bkB BK743 hb
         replace BK744 := bkB BK744 hb
         replace BK768 := bkB BK768 hb
         replace BK780 := bkB BK780 hb
         replace BK792 := bkB BK792 hb
         replace BK804 := bkB BK804 hb
         replace HB := hbS HB hb
         (try clear hb)
         (try clear hb2)
         (try clear hk)
         (try clear hi)
         (try clear ho0)
         (try clear ho1)
         (try clear ho2)
         obtain ⟨Ao97, co97, eo97⟩ := Kd.R_slice HO826.out
         (first | subst eo97 | (injection eo97 with f1_ f2_ f3_; have f4_ := f1_.symm; have f5_ := f3_.symm; clear f1_ f2_ f3_; subst f4_; subst f5_))
         obtain ⟨Ao98, co98, eo98⟩ := Kd.R_slice HO829.out
         (first | subst eo98 | (injection eo98 with f1_ f2_ f3_; have f4_ := f1_.symm; have f5_ := f3_.symm; clear f1_ f2_ f3_; subst f4_; subst f5_))
         obtain ⟨Ao99, co99, eo99⟩ := Kd.R_slice HO832.out
         (first | subst eo99 | (injection eo99 with f1_ f2_ f3_; have f4_ := f1_.symm; have f5_ := f3_.symm; clear f1_ f2_ f3_; subst f4_; subst f5_))
         refine hK.out _ _ ⟨(blk_cell BK743.out 0).trans rfl, (blk_cell BK743.out 1).trans rfl, (blk_cell BK743.out 2).trans rfl, (blk_cell BK743.out 3).trans rfl, (blk_cell BK768.out 0).trans rfl, (blk_cell BK768.out 1).trans rfl, (blk_cell BK768.out 2).trans rfl, (blk_cell BK768.out 3).trans rfl, (blk_cell BK780.out 0).trans rfl, (blk_cell BK780.out 1).trans rfl, (blk_cell BK780.out 2).trans rfl, (blk_cell BK780.out 3).trans rfl, (blk_cell BK792.out 0).trans rfl, (blk_cell BK792.out 1).trans rfl, (blk_cell BK792.out 2).trans rfl, (blk_cell BK792.out 3).trans rfl, (blk_cell BK804.out 0).trans rfl, (blk_cell BK804.out 1).trans rfl, (blk_cell BK804.out 2).trans rfl, (blk_cell BK804.out 3).trans rfl⟩ (fun hHeld => ?_)
         clear hK K
         refine nrm (some 76) ?_
         refine one_ (i := 2) (N := some 77) #[true, true, true, true, false, false, false, false, false, false, false, false, false, false, false, false, false, false, false, false, false, false, false, false, false, false, false, false, false, false, false, false, false, false, false, false, false] rfl rfl (one_of HT_.out (by kernel_rfl)) (by decide) (fun K hK => ?_)
         refine goes_ Try.func12 (by kernel_rfl) rfl #[.agg #[.int .i64 t823, .slice Ao97 t824.length co97, .slice Ao98 t827.length co98, .slice Ao99 t830.length co99]] (by rfl) rfl rfl sma ?_
         with_reducible refine (quality_Valid.calls k t823 _ _ t824 _ _ t827 _ _ t830 t833 _ ?side1 ?side2 ?side3 ?side4 ?side5 ?side6 A17.out).mono ?_
         (case side1 => repeat (first | exact (Kd.R_reads' HO826.out).2.2 | (with_reducible refine Kd.C_alloc ?_ _) | (with_reducible refine Kd.C_drewN ?_ _) | (with_reducible refine Kd.C_drew ?_)))
         (case side2 => exact (Kd.R_reads' HO826.out).2.1)
         (case side3 => repeat (first | exact (Kd.R_reads' HO829.out).2.2 | (with_reducible refine Kd.C_alloc ?_ _) | (with_reducible refine Kd.C_drewN ?_ _) | (with_reducible refine Kd.C_drew ?_)))
         (case side4 => exact (Kd.R_reads' HO829.out).2.1)
         (case side5 => repeat (first | exact (Kd.R_reads' HO832.out).2.2 | (with_reducible refine Kd.C_alloc ?_ _) | (with_reducible refine Kd.C_drewN ?_ _) | (with_reducible refine Kd.C_drew ?_)))
         (case side6 => exact (Kd.R_reads' HO832.out).2.1)
         rintro e w100 ⟨rfl, hb⟩
         refine ⟨_, rfl, ?_⟩
         replace HO750 := rB HO750 hb
         replace HO753 := rB HO753 hb
         replace HO756 := rB HO756 hb
         replace HO760 := rB HO760 hb
         replace HO763 := rB HO763 hb
         replace HO766 := rB HO766 hb
         replace HO772 := rB HO772 hb
         replace HO775 := rB HO775 hb
         replace HO778 := rB HO778 hb
         replace HO784 := rB HO784 hb
         replace HO787 := rB HO787 hb
         replace HO790 := rB HO790 hb
         replace HO796 := rB HO796 hb
         replace HO799 := rB HO799 hb
         replace HO802 := rB HO802 hb
         replace HO808 := rB HO808 hb
         replace HO811 := rB HO811 hb
         replace HO814 := rB HO814 hb
         replace HO817 := rB HO817 hb
         replace HO821 := rB HO821 hb
         replace HO826 := rB HO826 hb
         replace HO829 := rB HO829 hb
         replace HO832 := rB HO832 hb
         replace BK743 := bkB BK743 hb
         replace BK744 := bkB BK744 hb
         replace BK768 := bkB BK768 hb
         replace BK780 := bkB BK780 hb
         replace BK792 := bkB BK792 hb
         replace BK804 := bkB BK804 hb
         replace HB := hbS HB hb
         (try clear hb)
         (try clear hb2)
         (try clear hk)
         (try clear hi)
         refine hK.out _ _ ⟨(blk_cell BK743.out 0).trans rfl, (blk_cell BK743.out 1).trans rfl, (blk_cell BK743.out 2).trans rfl, (blk_cell BK743.out 3).trans rfl, (blk_cell BK768.out 0).trans rfl, (blk_cell BK768.out 1).trans rfl, (blk_cell BK768.out 2).trans rfl, (blk_cell BK768.out 3).trans rfl, (blk_cell BK780.out 0).trans rfl, (blk_cell BK780.out 1).trans rfl, (blk_cell BK780.out 2).trans rfl, (blk_cell BK780.out 3).trans rfl, (blk_cell BK792.out 0).trans rfl, (blk_cell BK792.out 1).trans rfl, (blk_cell BK792.out 2).trans rfl, (blk_cell BK792.out 3).trans rfl, (blk_cell BK804.out 0).trans rfl, (blk_cell BK804.out 1).trans rfl, (blk_cell BK804.out 2).trans rfl, (blk_cell BK804.out 3).trans rfl⟩ (fun hHeld => ?_)
         clear hK K
         refine nrm (some 77) ?_
         refine one_ (i := 4) (N := some 79) #[true, true, true, true, true, false, false, false, false, false, false, false, false, false, false, false, false, false, false, false, false, false, false, false, false, false, false, false, false, false, false, false, false, false, false, false, false] rfl rfl (one_of HT_.out (by kernel_rfl)) (by decide) (fun K hK => ?_)
         refine goes_ Try.func39 (by kernel_rfl) rfl #[.agg #[.int .i64 a0_0, .slice A0_1 l0_1.length c0_1, .slice A0_2 l0_2.length c0_2, .slice A0_3 l0_3.length c0_3]] (by rfl) rfl rfl sma ?_
         with_reducible refine (hopmeshref12_Valid.calls k a0_0 _ _ l0_1 _ _ l0_2 _ _ l0_3 t834 _ ?side1 ?side2 ?side3 ?side4 ?side5 ?side6 A18.out).mono ?_
         (case side1 => repeat (first | exact (Kd.C_below HR0_1.out HB.out) | (with_reducible refine Kd.C_alloc ?_ _) | (with_reducible refine Kd.C_drewN ?_ _) | (with_reducible refine Kd.C_drew ?_)))
         (case side2 => exact HC0_1.out)
         (case side3 => repeat (first | exact (Kd.C_below HR0_2.out HB.out) | (with_reducible refine Kd.C_alloc ?_ _) | (with_reducible refine Kd.C_drewN ?_ _) | (with_reducible refine Kd.C_drew ?_)))
         (case side4 => exact HC0_2.out)
         (case side5 => repeat (first | exact (Kd.C_below HR0_3.out HB.out) | (with_reducible refine Kd.C_alloc ?_ _) | (with_reducible refine Kd.C_drewN ?_ _) | (with_reducible refine Kd.C_drew ?_)))
         (case side6 => exact HC0_3.out)
         rintro e w101 ⟨rfl, hb⟩
         refine ⟨_, rfl, ?_⟩
         replace HO750 := rB HO750 hb
         replace HO753 := rB HO753 hb
         replace HO756 := rB HO756 hb
         replace HO760 := rB HO760 hb
         replace HO763 := rB HO763 hb
         replace HO766 := rB HO766 hb
         replace HO772 := rB HO772 hb
         replace HO775 := rB HO775 hb
         replace HO778 := rB HO778 hb
         replace HO784 := rB HO784 hb
         replace HO787 := rB HO787 hb
         replace HO790 := rB HO790 hb
         replace HO796 := rB HO796 hb
         replace HO799 := rB HO799 hb
         replace HO802 := rB HO802 hb
         replace HO808 := rB HO808 hb
         replace HO811 := rB HO811 hb
         replace HO814 := rB HO814 hb
         replace HO817 := rB HO817 hb
         replace HO821 := rB HO821 hb
         replace HO826 := rB HO826 hb
         replace HO829 := rB HO829 hb
         replace HO832 := rB HO832 hb
         replace BK743 := bkB BK743 hb
         replace BK744 := bkB BK744 hb
         replace BK768 := bkB BK768 hb
         replace BK780 := bkB BK780 hb
         replace BK792 := bkB BK792 hb
         replace BK804 := bkB BK804 hb
         replace HB := hbS HB hb
         (try clear hb)
         (try clear hb2)
         (try clear hk)
         (try clear hi)
         refine hK.out _ _ ⟨(blk_cell BK743.out 0).trans rfl, (blk_cell BK743.out 1).trans rfl, (blk_cell BK743.out 2).trans rfl, (blk_cell BK743.out 3).trans rfl, (blk_cell BK768.out 0).trans rfl, (blk_cell BK768.out 1).trans rfl, (blk_cell BK768.out 2).trans rfl, (blk_cell BK768.out 3).trans rfl, (blk_cell BK780.out 0).trans rfl, (blk_cell BK780.out 1).trans rfl, (blk_cell BK780.out 2).trans rfl, (blk_cell BK780.out 3).trans rfl, (blk_cell BK792.out 0).trans rfl, (blk_cell BK792.out 1).trans rfl, (blk_cell BK792.out 2).trans rfl, (blk_cell BK792.out 3).trans rfl, (blk_cell BK804.out 0).trans rfl, (blk_cell BK804.out 1).trans rfl, (blk_cell BK804.out 2).trans rfl, (blk_cell BK804.out 3).trans rfl⟩ (fun hHeld => ?_)
         clear hK K
         refine nrm (some 79) ?_
         refine pur 5 (some 80) #[true, true, true, true, true, true, false, false, false, false, false, false, false, false, false, false, false, false, false, false, false, false, false, false, false, false, false, false, false, false, false, false, false, false, false, false, false] HT_ ?_
         refine pur 6 (some 81) #[true, true, true, true, true, true, true, false, false, false, false, false, false, false, false, false, false, false, false, false, false, false, false, false, false, false, false, false, false, false, false, false, false, false, false, false, false] HT_ ?_
         refine tak 7 (some 82) #[true, true, true, true, true, true, true, true, false, false, false, false, false, false, false, false, false, false, false, false, false, false, false, false, false, false, false, false, false, false, false, false, false, false, false, false, false] HT_ HW_ hHeld rfl (Or.inl ⟨by rfl, by rintro w' ⟨s0, s1, s2, s3, s4, s5, s6, s7, s8, s9, s10, s11, s12, s13, s14, s15, s16, s17, s18, s19⟩; go_simp; with_reducible rfl⟩) ?_
         refine tak 8 (some 83) #[true, true, true, true, true, true, true, true, true, false, false, false, false, false, false, false, false, false, false, false, false, false, false, false, false, false, false, false, false, false, false, false, false, false, false, false, false] HT_ HW_ hHeld rfl (Or.inl ⟨by rfl, by rintro w' ⟨s0, s1, s2, s3, s4, s5, s6, s7, s8, s9, s10, s11, s12, s13, s14, s15, s16, s17, s18, s19⟩; go_simp; with_reducible rfl⟩) ?_
         refine one_ (i := 9) (N := some 84) #[true, true, true, true, true, true, true, true, true, true, false, false, false, false, false, false, false, false, false, false, false, false, false, false, false, false, false, false, false, false, false, false, false, false, false, false, false] rfl rfl (one_of HT_.out (by kernel_rfl)) (by decide) (fun K hK => ?_)
         refine goes_ Try.func30 (by kernel_rfl) rfl #[.agg #[.int .i64 t757, .slice Ao43 t758.length co43, .slice Ao45 t761.length co45, .slice Ao47 t764.length co47], .agg #[.int .i64 t769, .slice Ao59 t770.length co59, .slice Ao60 t773.length co60, .slice Ao61 t776.length co61]] (by rfl) rfl rfl sma ?_
         with_reducible refine (hopmeshref12_Same.calls k t757 _ _ t758 _ _ t761 _ _ t764 t769 _ _ t770 _ _ t773 _ _ t776 true _ ?side1 ?side2 ?side3 ?side4 ?side5 ?side6 ?side7 ?side8 ?side9 ?side10 ?side11 ?side12 A20.out).mono ?_
         (case side1 => repeat (first | exact (Kd.R_reads' HO760.out).2.2 | (with_reducible refine Kd.C_alloc ?_ _) | (with_reducible refine Kd.C_drewN ?_ _) | (with_reducible refine Kd.C_drew ?_)))
         (case side2 => exact (Kd.R_reads' HO760.out).2.1)
         (case side3 => repeat (first | exact (Kd.R_reads' HO763.out).2.2 | (with_reducible refine Kd.C_alloc ?_ _) | (with_reducible refine Kd.C_drewN ?_ _) | (with_reducible refine Kd.C_drew ?_)))
         (case side4 => exact (Kd.R_reads' HO763.out).2.1)
         (case side5 => repeat (first | exact (Kd.R_reads' HO766.out).2.2 | (with_reducible refine Kd.C_alloc ?_ _) | (with_reducible refine Kd.C_drewN ?_ _) | (with_reducible refine Kd.C_drew ?_)))
         (case side6 => exact (Kd.R_reads' HO766.out).2.1)
         (case side7 => repeat (first | exact (Kd.R_reads' HO772.out).2.2 | (with_reducible refine Kd.C_alloc ?_ _) | (with_reducible refine Kd.C_drewN ?_ _) | (with_reducible refine Kd.C_drew ?_)))
         (case side8 => exact (Kd.R_reads' HO772.out).2.1)
         (case side9 => repeat (first | exact (Kd.R_reads' HO775.out).2.2 | (with_reducible refine Kd.C_alloc ?_ _) | (with_reducible refine Kd.C_drewN ?_ _) | (with_reducible refine Kd.C_drew ?_)))
         (case side10 => exact (Kd.R_reads' HO775.out).2.1)
         (case side11 => repeat (first | exact (Kd.R_reads' HO778.out).2.2 | (with_reducible refine Kd.C_alloc ?_ _) | (with_reducible refine Kd.C_drewN ?_ _) | (with_reducible refine Kd.C_drew ?_)))
         (case side12 => exact (Kd.R_reads' HO778.out).2.1)
         rintro e w102 ⟨rfl, hb⟩
         refine ⟨_, rfl, ?_⟩
         replace HO750 := rB HO750 hb
         replace HO753 := rB HO753 hb
         replace HO756 := rB HO756 hb
         replace HO760 := rB HO760 hb
         replace HO763 := rB HO763 hb
         replace HO766 := rB HO766 hb
         replace HO772 := rB HO772 hb
         replace HO775 := rB HO775 hb
         replace HO778 := rB HO778 hb
         replace HO784 := rB HO784 hb
         replace HO787 := rB HO787 hb
         replace HO790 := rB HO790 hb
         replace HO796 := rB HO796 hb
         replace HO799 := rB HO799 hb
         replace HO802 := rB HO802 hb
         replace HO808 := rB HO808 hb
         replace HO811 := rB HO811 hb
         replace HO814 := rB HO814 hb
         replace HO817 := rB HO817 hb
         replace HO821 := rB HO821 hb
         replace HO826 := rB HO826 hb
         replace HO829 := rB HO829 hb
         replace HO832 := rB HO832 hb
         replace BK743 := bkB BK743 hb
         replace BK744 := bkB BK744 hb
         replace BK768 := bkB BK768 hb
         replace BK780 := bkB BK780 hb
         replace BK792 := bkB BK792 hb
         replace BK804 := bkB BK804 hb
         replace HB := hbS HB hb
         (try clear hb)
         (try clear hb2)
         (try clear hk)
         (try clear hi)
         refine hK.out _ _ ⟨(blk_cell BK743.out 0).trans rfl, (blk_cell BK743.out 1).trans rfl, (blk_cell BK743.out 2).trans rfl, (blk_cell BK743.out 3).trans rfl, (blk_cell BK768.out 0).trans rfl, (blk_cell BK768.out 1).trans rfl, (blk_cell BK768.out 2).trans rfl, (blk_cell BK768.out 3).trans rfl, (blk_cell BK780.out 0).trans rfl, (blk_cell BK780.out 1).trans rfl, (blk_cell BK780.out 2).trans rfl, (blk_cell BK780.out 3).trans rfl, (blk_cell BK792.out 0).trans rfl, (blk_cell BK792.out 1).trans rfl, (blk_cell BK792.out 2).trans rfl, (blk_cell BK792.out 3).trans rfl, (blk_cell BK804.out 0).trans rfl, (blk_cell BK804.out 1).trans rfl, (blk_cell BK804.out 2).trans rfl, (blk_cell BK804.out 3).trans rfl⟩ (fun hHeld => ?_)
         clear hK K
         refine nrm (some 84) ?_
         refine pur 10 (some 85) #[true, true, true, true, true, true, true, true, true, true, true, false, false, false, false, false, false, false, false, false, false, false, false, false, false, false, false, false, false, false, false, false, false, false, false, false, false] HT_ ?_
         refine pur 11 (some 86) #[true, true, true, true, true, true, true, true, true, true, true, true, false, false, false, false, false, false, false, false, false, false, false, false, false, false, false, false, false, false, false, false, false, false, false, false, false] HT_ ?_
         refine pur 12 (some 87) #[true, true, true, true, true, true, true, true, true, true, true, true, true, false, false, false, false, false, false, false, false, false, false, false, false, false, false, false, false, false, false, false, false, false, false, false, false] HT_ ?_
         refine pur 13 (some 88) #[true, true, true, true, true, true, true, true, true, true, true, true, true, true, false, false, false, false, false, false, false, false, false, false, false, false, false, false, false, false, false, false, false, false, false, false, false] HT_ ?_
         refine pur 14 (some 89) #[true, true, true, true, true, true, true, true, true, true, true, true, true, true, true, false, false, false, false, false, false, false, false, false, false, false, false, false, false, false, false, false, false, false, false, false, false] HT_ ?_
         refine pur 15 (some 90) #[true, true, true, true, true, true, true, true, true, true, true, true, true, true, true, true, false, false, false, false, false, false, false, false, false, false, false, false, false, false, false, false, false, false, false, false, false] HT_ ?_
         refine pur 16 (some 91) #[true, true, true, true, true, true, true, true, true, true, true, true, true, true, true, true, true, false, false, false, false, false, false, false, false, false, false, false, false, false, false, false, false, false, false, false, false] HT_ ?_
         refine tak 17 (some 92) #[true, true, true, true, true, true, true, true, true, true, true, true, true, true, true, true, true, true, false, false, false, false, false, false, false, false, false, false, false, false, false, false, false, false, false, false, false] HT_ HW_ hHeld rfl (Or.inl ⟨by rfl, by rintro w' ⟨s0, s1, s2, s3, s4, s5, s6, s7, s8, s9, s10, s11, s12, s13, s14, s15, s16, s17, s18, s19⟩; go_simp; with_reducible rfl⟩) ?_
         refine tak 18 (some 93) #[true, true, true, true, true, true, true, true, true, true, true, true, true, true, true, true, true, true, true, false, false, false, false, false, false, false, false, false, false, false, false, false, false, false, false, false, false] HT_ HW_ hHeld rfl (Or.inl ⟨by rfl, by rintro w' ⟨s0, s1, s2, s3, s4, s5, s6, s7, s8, s9, s10, s11, s12, s13, s14, s15, s16, s17, s18, s19⟩; go_simp; with_reducible rfl⟩) ?_
         refine one_ (i := 19) (N := some 94) #[true, true, true, true, true, true, true, true, true, true, true, true, true, true, true, true, true, true, true, true, false, false, false, false, false, false, false, false, false, false, false, false, false, false, false, false, false] rfl rfl (one_of HT_.out (by kernel_rfl)) (by decide) (fun K hK => ?_)
         refine goes_ Try.func30 (by kernel_rfl) rfl #[.agg #[.int .i64 t781, .slice Ao71 t782.length co71, .slice Ao72 t785.length co72, .slice Ao73 t788.length co73], .agg #[.int .i64 t793, .slice Ao84 t794.length co84, .slice Ao85 t797.length co85, .slice Ao86 t800.length co86]] (by rfl) rfl rfl sma ?_
         with_reducible refine (hopmeshref12_Same.calls k t781 _ _ t782 _ _ t785 _ _ t788 t793 _ _ t794 _ _ t797 _ _ t800 true _ ?side1 ?side2 ?side3 ?side4 ?side5 ?side6 ?side7 ?side8 ?side9 ?side10 ?side11 ?side12 A23.out).mono ?_
         (case side1 => repeat (first | exact (Kd.R_reads' HO784.out).2.2 | (with_reducible refine Kd.C_alloc ?_ _) | (with_reducible refine Kd.C_drewN ?_ _) | (with_reducible refine Kd.C_drew ?_)))
         (case side2 => exact (Kd.R_reads' HO784.out).2.1)
         (case side3 => repeat (first | exact (Kd.R_reads' HO787.out).2.2 | (with_reducible refine Kd.C_alloc ?_ _) | (with_reducible refine Kd.C_drewN ?_ _) | (with_reducible refine Kd.C_drew ?_)))
         (case side4 => exact (Kd.R_reads' HO787.out).2.1)
         (case side5 => repeat (first | exact (Kd.R_reads' HO790.out).2.2 | (with_reducible refine Kd.C_alloc ?_ _) | (with_reducible refine Kd.C_drewN ?_ _) | (with_reducible refine Kd.C_drew ?_)))
         (case side6 => exact (Kd.R_reads' HO790.out).2.1)
         (case side7 => repeat (first | exact (Kd.R_reads' HO796.out).2.2 | (with_reducible refine Kd.C_alloc ?_ _) | (with_reducible refine Kd.C_drewN ?_ _) | (with_reducible refine Kd.C_drew ?_)))
         (case side8 => exact (Kd.R_reads' HO796.out).2.1)
         (case side9 => repeat (first | exact (Kd.R_reads' HO799.out).2.2 | (with_reducible refine Kd.C_alloc ?_ _) | (with_reducible refine Kd.C_drewN ?_ _) | (with_reducible refine Kd.C_drew ?_)))
         (case side10 => exact (Kd.R_reads' HO799.out).2.1)
         (case side11 => repeat (first | exact (Kd.R_reads' HO802.out).2.2 | (with_reducible refine Kd.C_alloc ?_ _) | (with_reducible refine Kd.C_drewN ?_ _) | (with_reducible refine Kd.C_drew ?_)))
         (case side12 => exact (Kd.R_reads' HO802.out).2.1)
         rintro e w103 ⟨rfl, hb⟩
         refine ⟨_, rfl, ?_⟩
         replace HO750 := rB HO750 hb
         replace HO753 := rB HO753 hb
         replace HO756 := rB HO756 hb
         replace HO760 := rB HO760 hb
         replace HO763 := rB HO763 hb
         replace HO766 := rB HO766 hb
         replace HO772 := rB HO772 hb
         replace HO775 := rB HO775 hb
         replace HO778 := rB HO778 hb
         replace HO784 := rB HO784 hb
         replace HO787 := rB HO787 hb
         replace HO790 := rB HO790 hb
         replace HO796 := rB HO796 hb
         replace HO799 := rB HO799 hb
         replace HO802 := rB HO802 hb
         replace HO808 := rB HO808 hb
         replace HO811 := rB HO811 hb
         replace HO814 := rB HO814 hb
         replace HO817 := rB HO817 hb
         replace HO821 := rB HO821 hb
         replace HO826 := rB HO826 hb
         replace HO829 := rB HO829 hb
         replace HO832 := rB HO832 hb
         replace BK743 := bkB BK743 hb
         replace BK744 := bkB BK744 hb
         replace BK768 := bkB BK768 hb
         replace BK780 := bkB BK780 hb
         replace BK792 := bkB BK792 hb
         replace BK804 := bkB BK804 hb
         replace HB := hbS HB hb
         (try clear hb)
         (try clear hb2)
         (try clear hk)
         (try clear hi)
         obtain ⟨Ao104, co104, eo104⟩ := Kd.R_slice HO817.out
         (first | subst eo104 | (injection eo104 with f1_ f2_ f3_; have f4_ := f1_.symm; have f5_ := f3_.symm; clear f1_ f2_ f3_; subst f4_; subst f5_))
         obtain ⟨Ao105, co105, eo105⟩ := Kd.R_slice HO821.out
         (first | subst eo105 | (injection eo105 with f1_ f2_ f3_; have f4_ := f1_.symm; have f5_ := f3_.symm; clear f1_ f2_ f3_; subst f4_; subst f5_))
         refine hK.out _ _ ⟨(blk_cell BK743.out 0).trans rfl, (blk_cell BK743.out 1).trans rfl, (blk_cell BK743.out 2).trans rfl, (blk_cell BK743.out 3).trans rfl, (blk_cell BK768.out 0).trans rfl, (blk_cell BK768.out 1).trans rfl, (blk_cell BK768.out 2).trans rfl, (blk_cell BK768.out 3).trans rfl, (blk_cell BK780.out 0).trans rfl, (blk_cell BK780.out 1).trans rfl, (blk_cell BK780.out 2).trans rfl, (blk_cell BK780.out 3).trans rfl, (blk_cell BK792.out 0).trans rfl, (blk_cell BK792.out 1).trans rfl, (blk_cell BK792.out 2).trans rfl, (blk_cell BK792.out 3).trans rfl, (blk_cell BK804.out 0).trans rfl, (blk_cell BK804.out 1).trans rfl, (blk_cell BK804.out 2).trans rfl, (blk_cell BK804.out 3).trans rfl⟩ (fun hHeld => ?_)
         clear hK K
         refine nrm (some 94) ?_
         refine pur 20 (some 95) #[true, true, true, true, true, true, true, true, true, true, true, true, true, true, true, true, true, true, true, true, true, false, false, false, false, false, false, false, false, false, false, false, false, false, false, false, false] HT_ ?_
         refine pur 21 (some 96) #[true, true, true, true, true, true, true, true, true, true, true, true, true, true, true, true, true, true, true, true, true, true, false, false, false, false, false, false, false, false, false, false, false, false, false, false, false] HT_ ?_
         refine pur 22 (some 97) #[true, true, true, true, true, true, true, true, true, true, true, true, true, true, true, true, true, true, true, true, true, true, true, false, false, false, false, false, false, false, false, false, false, false, false, false, false] HT_ ?_
         refine pur 23 (some 98) #[true, true, true, true, true, true, true, true, true, true, true, true, true, true, true, true, true, true, true, true, true, true, true, true, false, false, false, false, false, false, false, false, false, false, false, false, false] HT_ ?_
         refine pur 24 (some 99) #[true, true, true, true, true, true, true, true, true, true, true, true, true, true, true, true, true, true, true, true, true, true, true, true, true, false, false, false, false, false, false, false, false, false, false, false, false] HT_ ?_
         refine pur 25 (some 100) #[true, true, true, true, true, true, true, true, true, true, true, true, true, true, true, true, true, true, true, true, true, true, true, true, true, true, false, false, false, false, false, false, false, false, false, false, false] HT_ ?_
         refine pur 26 (some 101) #[true, true, true, true, true, true, true, true, true, true, true, true, true, true, true, true, true, true, true, true, true, true, true, true, true, true, true, false, false, false, false, false, false, false, false, false, false] HT_ ?_
         refine pur 27 (some 102) #[true, true, true, true, true, true, true, true, true, true, true, true, true, true, true, true, true, true, true, true, true, true, true, true, true, true, true, true, false, false, false, false, false, false, false, false, false] HT_ ?_
         refine pur 28 (some 103) #[true, true, true, true, true, true, true, true, true, true, true, true, true, true, true, true, true, true, true, true, true, true, true, true, true, true, true, true, true, false, false, false, false, false, false, false, false] HT_ ?_
         refine one_ (i := 29) (N := some 104) #[true, true, true, true, true, true, true, true, true, true, true, true, true, true, true, true, true, true, true, true, true, true, true, true, true, true, true, true, true, true, false, false, false, false, false, false, false] rfl rfl (one_of HT_.out (by kernel_rfl)) (by decide) (fun K hK => ?_)
         refine goes_ Try.func17 (by kernel_rfl) rfl #[.slice Ao104 t815.length co104, .slice Ao105 t819.length co105] (by rfl) rfl rfl sma ?_
         with_reducible refine (slices_Equal_int_int.calls k _ _ t815 _ _ t819 true _ ?side1 ?side2 ?side3 ?side4 A26.out).mono ?_
         (case side1 => repeat (first | exact (Kd.R_reads' HO817.out).2.2 | (with_reducible refine Kd.C_alloc ?_ _) | (with_reducible refine Kd.C_drewN ?_ _) | (with_reducible refine Kd.C_drew ?_)))
         (case side2 => exact (Kd.R_reads' HO817.out).2.1)
         (case side3 => repeat (first | exact (Kd.R_reads' HO821.out).2.2 | (with_reducible refine Kd.C_alloc ?_ _) | (with_reducible refine Kd.C_drewN ?_ _) | (with_reducible refine Kd.C_drew ?_)))
         (case side4 => exact (Kd.R_reads' HO821.out).2.1)
         rintro e w' ⟨rfl, ⟨nd, rfl⟩⟩
         refine ⟨_, rfl, ?_⟩
         refine hK.out _ _ ⟨(blk_cell BK743.out 0).trans rfl, (blk_cell BK743.out 1).trans rfl, (blk_cell BK743.out 2).trans rfl, (blk_cell BK743.out 3).trans rfl, (blk_cell BK768.out 0).trans rfl, (blk_cell BK768.out 1).trans rfl, (blk_cell BK768.out 2).trans rfl, (blk_cell BK768.out 3).trans rfl, (blk_cell BK780.out 0).trans rfl, (blk_cell BK780.out 1).trans rfl, (blk_cell BK780.out 2).trans rfl, (blk_cell BK780.out 3).trans rfl, (blk_cell BK792.out 0).trans rfl, (blk_cell BK792.out 1).trans rfl, (blk_cell BK792.out 2).trans rfl, (blk_cell BK792.out 3).trans rfl, (blk_cell BK804.out 0).trans rfl, (blk_cell BK804.out 1).trans rfl, (blk_cell BK804.out 2).trans rfl, (blk_cell BK804.out 3).trans rfl⟩ (fun hHeld => ?_)
         clear hK K
         refine nrm (some 104) ?_
         refine pur 30 (some 105) #[true, true, true, true, true, true, true, true, true, true, true, true, true, true, true, true, true, true, true, true, true, true, true, true, true, true, true, true, true, true, true, false, false, false, false, false, false] HT_ ?_
         refine pur 31 (some 106) #[true, true, true, true, true, true, true, true, true, true, true, true, true, true, true, true, true, true, true, true, true, true, true, true, true, true, true, true, true, true, true, true, false, false, false, false, false] HT_ ?_
         refine pur 32 (some 107) #[true, true, true, true, true, true, true, true, true, true, true, true, true, true, true, true, true, true, true, true, true, true, true, true, true, true, true, true, true, true, true, true, true, false, false, false, false] HT_ ?_
         refine pur 33 (some 108) #[true, true, true, true, true, true, true, true, true, true, true, true, true, true, true, true, true, true, true, true, true, true, true, true, true, true, true, true, true, true, true, true, true, true, false, false, false] HT_ ?_
         refine pur 34 (some 109) #[true, true, true, true, true, true, true, true, true, true, true, true, true, true, true, true, true, true, true, true, true, true, true, true, true, true, true, true, true, true, true, true, true, true, true, false, false] HT_ ?_
         refine pur 35 (some 110) #[true, true, true, true, true, true, true, true, true, true, true, true, true, true, true, true, true, true, true, true, true, true, true, true, true, true, true, true, true, true, true, true, true, true, true, true, false] HT_ ?_
         refine pur 36 (some 6) #[true, true, true, true, true, true, true, true, true, true, true, true, true, true, true, true, true, true, true, true, true, true, true, true, true, true, true, true, true, true, true, true, true, true, true, true, true] HT_ ?_
         refine done_ (done_of HT_.out (by kernel_rfl)) ?_
         try go_wp2
         go_ret
         exact ⟨rerr, hbx HB⟩
        ·replace c27 := Bool.eq_false_iff.mpr c27
         subst c27
         rw [if_neg (show ¬ (false = true) by decide)] at H
         exact absurd H (by simp)
       ·rw [if_neg c25] at H
        have c25b0 : (t791 == t803) = false := beq_eq_false_iff_ne.mpr c25
        have c25b1 : (t791 != t803) = true := bne_iff_ne.mpr c25
        exact absurd H (by simp)
      ·replace c24 := Bool.eq_false_iff.mpr c24
       subst c24
       rw [if_neg (show ¬ (false = true) by decide)] at H
       exact absurd H (by simp)
     ·rw [if_neg c22] at H
      have c22b0 : (t767 == t779) = false := beq_eq_false_iff_ne.mpr c22
      have c22b1 : (t767 != t779) = true := bne_iff_ne.mpr c22
      exact absurd H (by simp)
    ·replace c21 := Bool.eq_false_iff.mpr c21
     subst c21
     rw [if_neg (show ¬ (false = true) by decide)] at H
     exact absurd H (by simp)
   ·rw [if_neg c19] at H
    have c19b0 : (t833 == t834) = false := beq_eq_false_iff_ne.mpr c19
    have c19b1 : (t833 != t834) = true := bne_iff_ne.mpr c19
    exact absurd H (by simp)
  ·replace c7 := Bool.eq_false_iff.mpr c7
   subst c7
   rw [if_neg (show ¬ (false = true) by decide)] at H
   obtain rfl := Option.some.inj H
   go_enter Try.func8, Try.ntmps8
   go_wp2_with (first | ((with_reducible refine gate_dst (N := 3) rfl ?_); refine boxE 3 #[.int .i64 a0_0, .slice A0_1 l0_1.length c0_1, .slice A0_2 l0_2.length c0_2, .slice A0_3 l0_3.length c0_3] 25 ?_; intro gb743 hg w106 hbox hb; have BK743 := Aside0.mk (hbox); have GW743 := gw hg HB; have GE743 := gw hg HB; replace HB := hbS HB hb; clear hb hbox hg) | ((with_reducible refine gate_dst (N := 4) rfl ?_); refine boxE 4 #[.int .i64 a1_0, .int .i64 a1_1, .int .i64 a1_2, .int .i64 a1_3] 27 ?_; intro gb744 hg w107 hbox hb; have BK744 := Aside0.mk (hbox); have GW744 := gw hg HB; have GE744 := gw hg HB; replace HB := hbS HB hb; have NB743_744 := nbl hg BK743; have NB744_743 := nbg hg BK743; replace BK743 := bkB BK743 hb; clear hb hbox hg) | ((with_reducible refine gate_callee (f := 10) rfl ?_); refine goesL_ (some 19) rfl rfl Try.func10 (by kernel_rfl) rfl #[] rfl sma ?_; (with_reducible refine (hopmeshlaw12_awake.calls k  true _ A4.out).mono ?_); rintro e w108 ⟨rfl, hb⟩; refine ⟨_, rfl, ?_⟩; replace BK743 := bkB BK743 hb; replace BK744 := bkB BK744 hb; replace HB := hbS HB hb; (try clear hb); (try clear hb2); (try clear hk); (try clear hi); have hnb109 := NB743_744.out; have hnc109 := NB744_743.out; obtain ⟨z0, z1, z2, z3, y0, y1, y2, y3⟩ := bc4 BK743) | ((with_reducible refine gate_callee (f := 11) rfl ?_); refine goesL_ (some 22) rfl rfl Try.func11 (by kernel_rfl) rfl #[.agg #[.int .i64 a0_0, .slice A0_1 l0_1.length c0_1, .slice A0_2 l0_2.length c0_2, .slice A0_3 l0_3.length c0_3]] rfl sma ?_; (with_reducible refine (hopmeshref12_Few.calls a0_0 _ _ l0_1 _ _ l0_2 _ _ l0_3 false _ (cb HR0_1 HB) HC0_1.out (cb HR0_2 HB) HC0_2.out (cb HR0_3 HB) HC0_3.out A6.out).mono ?_); rintro e w111 ⟨rfl, hb⟩; refine ⟨_, rfl, ?_⟩; replace BK743 := bkB BK743 hb; replace BK744 := bkB BK744 hb; replace HB := hbS HB hb; (try clear hb); (try clear hb2); (try clear hk); (try clear hi)))
   go_ret
   exact ⟨rerr, hbx HB⟩
 ·replace c5 := Bool.eq_false_iff.mpr c5
  subst c5
  rw [if_neg (show ¬ (false = true) by decide)] at H
  exact absurd H (by simp)
end Go.Proofs.Ytnipgplobipeeaa.PQ
