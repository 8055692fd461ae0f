-- Printed by fprint.py and zip.py, programs of this session's, over the kit's print; Lean checks it.
import Derived.Test.YtdigplhjfjchnaaZ0
import Derived.Test.YtdigplhjfjchnaaZf57
import Derived.Test.YtdigplhjfjchnaaZf58
namespace Go.Proofs.Ytdigplhjfjchnaa.PQ
open Go.RowKit Go.Proofs.YtdigplhjfjchnaaW.PrintWords Go.Proofs.YtdigplhjfjchnaaW.PrintLast Go.Proofs.YtdigplhjfjchnaaW.PrintMore
attribute [local go_sem] max2_int min2_int max_two min_two max_three min_three max_four min_four   -- for this text's walks alone
set_option linter.unusedVariables false
set_option linter.unusedSimpArgs false
def hopmeshref49_Encode.l0 : Nat → Int → Int → Int → Int → Int → ByteArray → List Int → Option (ByteArray × Int)
 | 0, _, _, _, _, _, _, _ => none
 | k + 1, x4, x5, x608000, x608001, x608002, x608003, x608004 => if x5 < (x608004.length : Int) then (if 0 ≤ x5 then (if 0 ≤ (rd x608004 x5) then (hopmeshref49_Encode.l0 k (Go.bits .or .i64 x4 (shl .i64 1 (rd x608004 x5))) (wrap64 (x5 + 1)) x608000 x608001 x608002 x608003 x608004) else (none)) else (none)) else ((hopmeshref49_bytes.f k x608001 1).bind fun t610 => ((hopmeshref49_bytes.f k x608000 3).bind fun t611 => (if t610.size + t611.size ≤ 9223372036854775807 then ((hopmeshref49_bytes.f k x608002 4).bind fun t612 => (if (t610 ++ t611).size + t612.size ≤ 9223372036854775807 then (if ((t610 ++ t611) ++ t612).size + x608003.size ≤ 9223372036854775807 then ((hopmeshref49_bytes.f k x4 4).bind fun t613 => (if (((t610 ++ t611) ++ t612) ++ x608003).size + t613.size ≤ 9223372036854775807 then (some ((((t610 ++ t611) ++ t612) ++ x608003) ++ t613, 0)) else (none))) else (none)) else (none))) else (none))))
def hopmeshref49_Encode.f (k : Nat) (a0_0 : Int) (a0_1 : Int) (a0_2 : Int) (a0_3 : ByteArray) (l0_4 : List Int) : Option (ByteArray × Int) := (hopmeshref49_Command.f k a0_0 a0_1 a0_2 a0_3 l0_4).bind fun t608 => (if t608 = true then (hopmeshref49_Encode.l0 k 0 0 a0_0 a0_1 a0_2 a0_3 l0_4) else (some ((⟨#[]⟩ : ByteArray), 1)))
theorem hopmeshref49_Encode.mono_l : ∀ k, (∀ y0 y1 y2 y3 y4 y5 y6, LeO (hopmeshref49_Encode.l0 k y0 y1 y2 y3 y4 y5 y6) (hopmeshref49_Encode.l0 (k + 1) y0 y1 y2 y3 y4 y5 y6))
 | 0 => fun _ _ _ _ _ _ _ r h => by simp [hopmeshref49_Encode.l0] at h
 | k + 1 => by
  have ih0 := hopmeshref49_Encode.mono_l k
  ·intro y0 y1 y2 y3 y4 y5 y6
   unfold hopmeshref49_Encode.l0
   repeat' first
   | (with_reducible exact ih0 _ _ _ _ _ _ _)
   | (with_reducible exact hopmeshref49_Command.mono _ _ _ _ _ _)
   | (with_reducible exact hopmeshref49_bytes.mono _ _ _)
   | (with_reducible exact LeO.refl _)
   | (with_reducible exact LeO.none _)
   | (with_reducible refine LeO.ite ?_ ?_)
   | (with_reducible refine LeO.bind ?_ (fun _ => ?_))
   | exact ih0 _ _ _ _ _ _ _
   | exact hopmeshref49_Command.mono _ _ _ _ _ _
   | exact hopmeshref49_bytes.mono _ _ _
   | exact LeO.none _
   | refine LeO.ite ?_ ?_
   | refine LeO.bind ?_ (fun _ => ?_)
theorem hopmeshref49_Encode.mono : ∀ a0 a1 a2 a3 a4 k, LeO (hopmeshref49_Encode.f k a0 a1 a2 a3 a4) (hopmeshref49_Encode.f (k + 1) a0 a1 a2 a3 a4) := by
 intro a0 a1 a2 a3 a4 k
 have ih0 := hopmeshref49_Encode.mono_l k
 unfold hopmeshref49_Encode.f
 repeat' first
  | (with_reducible exact ih0 _ _ _ _ _ _ _)
  | (with_reducible exact hopmeshref49_Command.mono _ _ _ _ _ _)
  | (with_reducible exact hopmeshref49_bytes.mono _ _ _)
  | (with_reducible exact LeO.refl _)
  | (with_reducible exact LeO.none _)
  | (with_reducible refine LeO.ite ?_ ?_)
  | (with_reducible refine LeO.bind ?_ (fun _ => ?_))
  | exact ih0 _ _ _ _ _ _ _
  | exact hopmeshref49_Command.mono _ _ _ _ _ _
  | exact hopmeshref49_bytes.mono _ _ _
  | exact LeO.none _
  | refine LeO.ite ?_ ?_
  | refine LeO.bind ?_ (fun _ => ?_)
def hopmeshref49_Encode.T8 : Bool × List (List Nat × List Nat) := (true, [([], []), ([0], [0]), ([1], [1]), ([], []), ([3], [3]), ([4, 2], [4]), ([2, 5], [2, 5]), ([], []), ([7], [7]), ([8, 5], [8]), ([6, 9], [6, 9]), ([], []), ([11], [11]), ([10, 12], [10, 12]), ([], []), ([14, 9], [14]), ([13, 15], [13, 15]), ([16, 15, 0, 1, 2, 3, 4, 5, 6, 7, 8, 9, 10, 11, 12, 13, 14, 15, 16], [16]), ([17, 0, 1, 2, 3, 4, 5, 6, 7, 8, 9, 10, 11, 12, 13, 14, 15, 16, 17], [])])
def hopmeshref49_Encode.B8 : List Nat := [0, 1, 3, 0, 8, 31, 63, 0, 128, 447, 1023, 0, 2048, 8191, 0, 17343, 65535, 131071, 262143]
theorem hopmeshref49_Encode.tab8 : rtab .any (opsOf Try.f25 8) = hopmeshref49_Encode.T8 := by kernel_rfl
theorem hopmeshref49_Encode.bits8 : waitsOk hopmeshref49_Encode.T8.2 hopmeshref49_Encode.B8 = true := by kernel_rfl
set_option maxHeartbeats 8000000 in
set_option maxRecDepth 100000 in
theorem hopmeshref49_Encode.calls (k : Nat) (a0_0 : Int) (a0_1 : Int) (a0_2 : Int) (a0_3 : ByteArray) (A0_4 : Option Addr) (c0_4 : Nat) (l0_4 : List Int) (r1 : ByteArray) (r2 : Int) (w : World) (hr0_4 : Kd.C (Kd.int .i64) w A0_4 l0_4.length l0_4) (hc0_4 : l0_4.length ≤ c0_4) (h : hopmeshref49_Encode.f k a0_0 a0_1 a0_2 a0_3 l0_4 = some (r1, r2)) :
 Calls Try.prog 25 #[.agg #[.int .i64 a0_0, .int .i64 a0_1, .int .i64 a0_2, .string a0_3, .slice A0_4 l0_4.length c0_4]] w fun e w' => e = .returned (.tuple #[.string r1, .int .i64 r2]) ∧ Below w.heap.size w w' := by
 have hu36 := Try.underlying36
 have HR0_4 := Aside0.mk hr0_4
 have HC0_4 := Aside0.mk hc0_4
 clear hr0_4 hc0_4
 have HB := Aside0.mk (Below.refl w.heap.size w)
 have H : ((hopmeshref49_Command.f k a0_0 a0_1 a0_2 a0_3 l0_4).bind fun t608 => (if t608 = true then (hopmeshref49_Encode.l0 k 0 0 a0_0 a0_1 a0_2 a0_3 l0_4) else (some ((⟨#[]⟩ : ByteArray), 1)))) = some (r1, r2) := h
 clear h
 replace H := Option.bind_eq_some_iff.mp H
 obtain ⟨t608, A20, H⟩ := H
 (try dsimp only at H)
 have A2 := Aside0.mk A20
 clear A20
 by_cases c3 : t608 = true
 ·subst c3
  rw [if_pos rfl] at H
  have H' := Aside0.mk H
  clear H
  go_enter Try.func25, Try.ntmps25
  go_wp2_with (first | ((with_reducible refine gate_dst (N := 1) rfl ?_); refine boxE 1 #[.int .i64 a0_0, .int .i64 a0_1, .int .i64 a0_2, .string a0_3, .slice A0_4 l0_4.length c0_4] 36 ?_; intro gb607 hg w4 hbox hb; have BK607 := Aside0.mk (hbox); have GW607 := gw hg HB; have GE607 := gw hg HB; replace HB := hbS HB hb; clear hb hbox hg; obtain ⟨z0, z1, z2, z3, z4, y0, y1, y2, y3, y4⟩ := bc5 BK607) | ((with_reducible refine gate_callee (f := 57) rfl ?_); refine goesL_ (some 7) rfl rfl Try.func57 (by kernel_rfl) rfl #[.agg #[.int .i64 a0_0, .int .i64 a0_1, .int .i64 a0_2, .string a0_3, .slice A0_4 l0_4.length c0_4]] rfl sma ?_; (with_reducible refine (hopmeshref49_Command.calls k a0_0 a0_1 a0_2 a0_3 _ _ l0_4 true _ (cb HR0_4 HB) HC0_4.out A2.out).mono ?_); rintro e w6 ⟨rfl, hb⟩; refine ⟨_, rfl, ?_⟩; replace BK607 := bkB BK607 hb; replace HB := hbS HB hb; (try clear hb); (try clear hb2); (try clear hk); (try clear hi)))
  go_loopg [4, 5] k (fun kq v4 v5 w' => ∃ (x4_1 : Int) (x5_1 : Int), v4 = .int .i64 x4_1 ∧ v5 = .int .i64 x5_1 ∧ Aside0 (hopmeshref49_Encode.l0 kq x4_1 x5_1 a0_0 a0_1 a0_2 a0_3 l0_4 = some (r1, r2)) ∧ Aside0 (kq ≤ k) ∧ Aside0 (w'.heap[gb607]? = some (.cells #[.int .i64 a0_0, .int .i64 a0_1, .int .i64 a0_2, .string a0_3, (.slice A0_4 l0_4.length c0_4)] 36 (0, 0))) ∧ Aside0 (Below w.heap.size w w'))
  case atStart => exact ⟨(0), (0), rfs, rfs, H', ⟨Nat.le_refl _⟩, bkA BK607, hbA HB⟩
  case round =>
   clear H'
   try clear c3
   try clear hcz5_0
   try clear hcz5_1
   try clear hcz5_2
   try clear hcz5_3
   try clear hcz5_4
   try clear hfz5_0
   try clear hfz5_1
   try clear hfz5_2
   try clear hfz5_3
   try clear hfz5_4
   obtain ⟨x4_1, x5_1, rfl, rfl, HA, HK1, BK607, HB⟩ := hrel
   cases gk with
   | zero => exact absurd HA.out (by simp [hopmeshref49_Encode.l0])
   | succ k1 =>
    have H := HA.out
    clear HA
    simp only [hopmeshref49_Encode.l0] at H
    by_cases c7 : x5_1 < (l0_4.length : Int)
    ·rw [if_pos c7] at H
     have c7b0 : decide (x5_1 < (l0_4.length : Int)) = true := decide_eq_true c7
     clear c7
     by_cases c8 : 0 ≤ x5_1
     ·rw [if_pos c8] at H
      have c8b0 : decide (0 ≤ x5_1) = true := decide_eq_true c8
      clear c8
      by_cases c9 : 0 ≤ (rd l0_4 x5_1)
      ·rw [if_pos c9] at H
       have c9b0 := eq_true c9
       have c9b1 : decide (0 ≤ (rd l0_4 x5_1)) = true := decide_eq_true c9
       clear c9
       obtain ⟨ji10, hji10⟩ : ∃ j_ : Int, (shl .i64 1 (rd l0_4 x5_1)) = j_ := ⟨_, rfl⟩
       replace H : (hopmeshref49_Encode.l0 k1 (Go.bits .or .i64 x4_1 (ji10)) (wrap64 (x5_1 + 1)) a0_0 a0_1 a0_2 a0_3 l0_4) = some (r1, r2) := by first | (rw [hji10] at H; exact H) | (simp only [hji10] at H ⊢; exact H)
       have hji10_ : (IntKind.i64.wrap (1 * 2 ^ min (rd l0_4 x5_1).toNat 64)) = ji10 := hji10
       have hji10z : (rd l0_4 x5_1) ≤ 64 → (IntKind.i64.wrap (1 * 2 ^ (rd l0_4 x5_1).toNat)) = ji10 := shl_small hji10
       have hji10u : (IntKind.i64.wrap (2 ^ min (rd l0_4 x5_1).toNat 64)) = ji10 := by have h_ := hji10_; rw [Int.one_mul] at h_; exact h_
       have hji10v : (rd l0_4 x5_1) ≤ 64 → (IntKind.i64.wrap (2 ^ (rd l0_4 x5_1).toNat)) = ji10 := fun hle_ => by have h_ := hji10z hle_; rw [Int.one_mul] at h_; exact h_
       have hji10y : (wrap64 (1 * 2 ^ min (rd l0_4 x5_1).toNat 64)) = ji10 := (i64_w _).symm.trans hji10_
       have hji10x : (rd l0_4 x5_1) ≤ 64 → (wrap64 (1 * 2 ^ (rd l0_4 x5_1).toNat)) = ji10 := fun h_ => (i64_w _).symm.trans (hji10z h_)
       have H' := Aside0.mk H
       clear H
       obtain ⟨z0, z1, z2, z3, z4, y0, y1, y2, y3, y4⟩ := bc5 BK607
       have p609 : 0 ≤ (x5_1 : Int) := pos_
       have q609 : x5_1 < (l0_4.length : Int) := pos_
       obtain ⟨ad609, e609, hx609_0⟩ := Kd.at_int HR0_4.out x5_1 p609 q609
       cases e609
       replace hx609_0 := (HB.out.cell (World.block_lt_of_cell? w _ hx609_0)).trans hx609_0
       replace p609 := eq_true p609
       replace q609 := eq_true q609
       go_wp2
       go_roundg k1
       case measure => have := HK1.out; omega
       case rel => exact ⟨(Go.bits .or .i64 x4_1 (ji10)), (wrap64 (x5_1 + 1)), (by first | rfl | (simp; done) | (simp only [← hji10] <;> (first | rfl | simp)) | (simp [*]; done)), rfs, H', ⟨by have := HK1.out; omega⟩, bkA BK607, hbA HB⟩
      ·rw [if_neg c9] at H
       exact absurd H (by simp)
     ·rw [if_neg c8] at H
      exact absurd H (by simp)
    ·rw [if_neg c7] at H
     have c7b0 : decide (x5_1 < (l0_4.length : Int)) = false := decide_eq_false c7
     clear c7
     replace H := Option.bind_eq_some_iff.mp H
     obtain ⟨t610, A120, H⟩ := H
     (try dsimp only at H)
     have A12 := Aside0.mk A120
     clear A120
     replace H := Option.bind_eq_some_iff.mp H
     obtain ⟨t611, A130, H⟩ := H
     (try dsimp only at H)
     have A13 := Aside0.mk A130
     clear A130
     by_cases c14 : t610.size + t611.size ≤ 9223372036854775807
     ·rw [if_pos c14] at H
      have c14b0 := eq_true c14
      have c14b1 : decide (t610.size + t611.size ≤ 9223372036854775807) = true := decide_eq_true c14
      try have c14b2 : (9223372036854775807 < t610.size + t611.size) = False := eq_false (Nat.not_lt.2 c14)
      replace H := Option.bind_eq_some_iff.mp H
      obtain ⟨t612, A150, H⟩ := H
      (try dsimp only at H)
      have A15 := Aside0.mk A150
      clear A150
      by_cases c16 : (t610 ++ t611).size + t612.size ≤ 9223372036854775807
      ·rw [if_pos c16] at H
       have c16b0 := eq_true c16
       have c16b1 : decide ((t610 ++ t611).size + t612.size ≤ 9223372036854775807) = true := decide_eq_true c16
       try have c16b2 : (9223372036854775807 < (t610 ++ t611).size + t612.size) = False := eq_false (Nat.not_lt.2 c16)
       (try (have c16b3 := c16b2; simp only [ByteArray.size_append] at c16b3))
       by_cases c17 : ((t610 ++ t611) ++ t612).size + a0_3.size ≤ 9223372036854775807
       ·rw [if_pos c17] at H
        have c17b0 := eq_true c17
        have c17b1 : decide (((t610 ++ t611) ++ t612).size + a0_3.size ≤ 9223372036854775807) = true := decide_eq_true c17
        try have c17b2 : (9223372036854775807 < ((t610 ++ t611) ++ t612).size + a0_3.size) = False := eq_false (Nat.not_lt.2 c17)
        (try (have c17b3 := c17b2; simp only [ByteArray.size_append] at c17b3))
        replace H := Option.bind_eq_some_iff.mp H
        obtain ⟨t613, A180, H⟩ := H
        (try dsimp only at H)
        have A18 := Aside0.mk A180
        clear A180
        by_cases c19 : (((t610 ++ t611) ++ t612) ++ a0_3).size + t613.size ≤ 9223372036854775807
        ·rw [if_pos c19] at H
         have c19b0 := eq_true c19
         have c19b1 : decide ((((t610 ++ t611) ++ t612) ++ a0_3).size + t613.size ≤ 9223372036854775807) = true := decide_eq_true c19
         try have c19b2 : (9223372036854775807 < (((t610 ++ t611) ++ t612) ++ a0_3).size + t613.size) = False := eq_false (Nat.not_lt.2 c19)
         (try (have c19b3 := c19b2; simp only [ByteArray.size_append] at c19b3))
         simp only [Option.some.injEq, Prod.mk.injEq] at H
         obtain ⟨rfl, rfl⟩ := H
         obtain ⟨z0, z1, z2, z3, z4, y0, y1, y2, y3, y4⟩ := bc5 BK607
         try go_wp2
         replace BK607 := Aside0.mk (blk_drew BK607.out)
         replace HB := Aside0.mk (below_drew1 HB.out)
         refine start_ (n := 19) (S := fun w' => w'.cell? ⟨gb607, 0, none⟩ = some (.int .i64 a0_0) ∧ w'.cell? ⟨gb607, 1, none⟩ = some (.int .i64 a0_1) ∧ w'.cell? ⟨gb607, 2, none⟩ = some (.int .i64 a0_2) ∧ w'.cell? ⟨gb607, 3, none⟩ = some (.string a0_3) ∧ w'.cell? ⟨gb607, 4, none⟩ = some (.slice A0_4 l0_4.length c0_4)) (ds := []) #[false, false, false, false, false, false, false, false, false, false, false, false, false, false, false, false, false, false, false] (by kernel_rfl) rfl rfl ⟨(blk_cell BK607.out 0).trans rfl, (blk_cell BK607.out 1).trans rfl, (blk_cell BK607.out 2).trans rfl, (blk_cell BK607.out 3).trans rfl, (blk_cell BK607.out 4).trans rfl⟩ (fun hHeld => ?_); refine with_tabW hopmeshref49_Encode.tab8 hopmeshref49_Encode.bits8 (fun HT_ HW_ => ?_)
         generalize wr.drew = w21 at BK607 HB hHeld ⊢
         refine pur 0 (some 24) #[true, false, false, false, false, false, false, false, false, false, false, false, false, false, false, false, false, false, false] HT_ ?_
         refine pur 3 (some 27) #[true, false, false, true, false, false, false, false, false, false, false, false, false, false, false, false, false, false, false] HT_ ?_
         refine pur 7 (some 31) #[true, false, false, true, false, false, false, true, false, false, false, false, false, false, false, false, false, false, false] HT_ ?_
         refine pur 11 (some 35) #[true, false, false, true, false, false, false, true, false, false, false, true, false, false, false, false, false, false, false] HT_ ?_
         refine pur 14 (some 38) #[true, false, false, true, false, false, false, true, false, false, false, true, false, false, true, false, false, false, false] HT_ ?_
         refine tak 1 (some 25) #[true, true, false, true, false, false, false, true, false, false, false, true, false, false, true, false, false, false, false] HT_ HW_ hHeld rfl (Or.inl ⟨by rfl, by rintro w' ⟨s0, s1, s2, s3, s4⟩; go_simp; with_reducible rfl⟩) ?_
         refine tak 4 (some 28) #[true, true, false, true, true, false, false, true, false, false, false, true, false, false, true, false, false, false, false] HT_ HW_ hHeld rfl (Or.inl ⟨by rfl, by rintro w' ⟨s0, s1, s2, s3, s4⟩; go_simp; with_reducible rfl⟩) ?_
         refine tak 8 (some 32) #[true, true, false, true, true, false, false, true, true, false, false, true, false, false, true, false, false, false, false] HT_ HW_ hHeld rfl (Or.inl ⟨by rfl, by rintro w' ⟨s0, s1, s2, s3, s4⟩; go_simp; with_reducible rfl⟩) ?_
         refine tak 12 (some 36) #[true, true, false, true, true, false, false, true, true, false, false, true, true, false, true, false, false, false, false] HT_ HW_ hHeld rfl (Or.inl ⟨by rfl, by rintro w' ⟨s0, s1, s2, s3, s4⟩; go_simp; with_reducible rfl⟩) ?_
         refine one_ (i := 2) (N := some 26) #[true, true, true, true, true, false, false, true, true, false, false, true, true, false, true, false, false, false, false] rfl rfl (one_of HT_.out (by kernel_rfl)) (by decide) (fun K hK => ?_)
         refine goes_ Try.func58 (by kernel_rfl) rfl #[.int .i64 a0_1, .int .i64 1] (by rfl) rfl rfl sma ?_
         with_reducible refine (hopmeshref49_bytes.calls k1 a0_1 1 t610 _ A12.out).mono ?_
         rintro e w22 ⟨rfl, hb⟩
         refine ⟨_, rfl, ?_⟩
         replace BK607 := bkB BK607 hb
         replace HB := hbS HB hb
         (try clear hb)
         (try clear hb2)
         (try clear hk)
         (try clear hi)
         refine hK.out _ _ ⟨(blk_cell BK607.out 0).trans rfl, (blk_cell BK607.out 1).trans rfl, (blk_cell BK607.out 2).trans rfl, (blk_cell BK607.out 3).trans rfl, (blk_cell BK607.out 4).trans rfl⟩ (fun hHeld => ?_)
         clear hK K
         refine nrm (some 26) ?_
         refine one_ (i := 5) (N := some 29) #[true, true, true, true, true, true, false, true, true, false, false, true, true, false, true, false, false, false, false] rfl rfl (one_of HT_.out (by kernel_rfl)) (by decide) (fun K hK => ?_)
         refine goes_ Try.func58 (by kernel_rfl) rfl #[.int .i64 a0_0, .int .i64 3] (by rfl) rfl rfl sma ?_
         with_reducible refine (hopmeshref49_bytes.calls k1 a0_0 3 t611 _ A13.out).mono ?_
         rintro e w23 ⟨rfl, hb⟩
         refine ⟨_, rfl, ?_⟩
         replace BK607 := bkB BK607 hb
         replace HB := hbS HB hb
         (try clear hb)
         (try clear hb2)
         (try clear hk)
         (try clear hi)
         refine hK.out _ _ ⟨(blk_cell BK607.out 0).trans rfl, (blk_cell BK607.out 1).trans rfl, (blk_cell BK607.out 2).trans rfl, (blk_cell BK607.out 3).trans rfl, (blk_cell BK607.out 4).trans rfl⟩ (fun hHeld => ?_)
         clear hK K
         refine nrm (some 29) ?_
         refine pur 6 (some 30) #[true, true, true, true, true, true, true, true, true, false, false, true, true, false, true, false, false, false, false] HT_ ?_
         refine one_ (i := 9) (N := some 33) #[true, true, true, true, true, true, true, true, true, true, false, true, true, false, true, false, false, false, false] rfl rfl (one_of HT_.out (by kernel_rfl)) (by decide) (fun K hK => ?_)
         refine goes_ Try.func58 (by kernel_rfl) rfl #[.int .i64 a0_2, .int .i64 4] (by rfl) rfl rfl sma ?_
         with_reducible refine (hopmeshref49_bytes.calls k1 a0_2 4 t612 _ A15.out).mono ?_
         rintro e w24 ⟨rfl, hb⟩
         refine ⟨_, rfl, ?_⟩
         replace BK607 := bkB BK607 hb
         replace HB := hbS HB hb
         (try clear hb)
         (try clear hb2)
         (try clear hk)
         (try clear hi)
         refine hK.out _ _ ⟨(blk_cell BK607.out 0).trans rfl, (blk_cell BK607.out 1).trans rfl, (blk_cell BK607.out 2).trans rfl, (blk_cell BK607.out 3).trans rfl, (blk_cell BK607.out 4).trans rfl⟩ (fun hHeld => ?_)
         clear hK K
         refine nrm (some 33) ?_
         refine pur 10 (some 34) #[true, true, true, true, true, true, true, true, true, true, true, true, true, false, true, false, false, false, false] HT_ ?_
         refine pur 13 (some 37) #[true, true, true, true, true, true, true, true, true, true, true, true, true, true, true, false, false, false, false] HT_ ?_
         refine one_ (i := 15) (N := some 39) #[true, true, true, true, true, true, true, true, true, true, true, true, true, true, true, true, false, false, false] rfl rfl (one_of HT_.out (by kernel_rfl)) (by decide) (fun K hK => ?_)
         refine goes_ Try.func58 (by kernel_rfl) rfl #[.int .i64 x4_1, .int .i64 4] (by rfl) rfl rfl sma ?_
         with_reducible refine (hopmeshref49_bytes.calls k1 x4_1 4 t613 _ A18.out).mono ?_
         rintro e w25 ⟨rfl, hb⟩
         refine ⟨_, rfl, ?_⟩
         replace BK607 := bkB BK607 hb
         replace HB := hbS HB hb
         (try clear hb)
         (try clear hb2)
         (try clear hk)
         (try clear hi)
         refine hK.out _ _ ⟨(blk_cell BK607.out 0).trans rfl, (blk_cell BK607.out 1).trans rfl, (blk_cell BK607.out 2).trans rfl, (blk_cell BK607.out 3).trans rfl, (blk_cell BK607.out 4).trans rfl⟩ (fun hHeld => ?_)
         clear hK K
         refine nrm (some 39) ?_
         refine pur 16 (some 40) #[true, true, true, true, true, true, true, true, true, true, true, true, true, true, true, true, true, false, false] HT_ ?_
         refine pur 17 (some 2) #[true, true, true, true, true, true, true, true, true, true, true, true, true, true, true, true, true, true, false] HT_ ?_
         refine pur 18 (some 3) #[true, true, true, true, true, true, true, true, true, true, true, true, true, true, true, true, true, true, true] HT_ ?_
         refine done_ (done_of HT_.out (by kernel_rfl)) ?_
         try go_wp2
         go_ret2
         exact ⟨rerr, hbx HB⟩
        ·rw [if_neg c19] at H
         exact absurd H (by simp)
       ·rw [if_neg c17] at H
        exact absurd H (by simp)
      ·rw [if_neg c16] at H
       exact absurd H (by simp)
     ·rw [if_neg c14] at H
      exact absurd H (by simp)
 ·replace c3 := Bool.eq_false_iff.mpr c3
  subst c3
  rw [if_neg (show ¬ (false = true) by decide)] at H
  simp only [Option.some.injEq, Prod.mk.injEq] at H
  obtain ⟨rfl, rfl⟩ := H
  go_enter Try.func25, Try.ntmps25
  go_wp2_with (first | ((with_reducible refine gate_dst (N := 1) rfl ?_); refine boxE 1 #[.int .i64 a0_0, .int .i64 a0_1, .int .i64 a0_2, .string a0_3, .slice A0_4 l0_4.length c0_4] 36 ?_; intro gb607 hg w26 hbox hb; have BK607 := Aside0.mk (hbox); have GW607 := gw hg HB; have GE607 := gw hg HB; replace HB := hbS HB hb; clear hb hbox hg; obtain ⟨z0, z1, z2, z3, z4, y0, y1, y2, y3, y4⟩ := bc5 BK607) | ((with_reducible refine gate_callee (f := 57) rfl ?_); refine goesL_ (some 7) rfl rfl Try.func57 (by kernel_rfl) rfl #[.agg #[.int .i64 a0_0, .int .i64 a0_1, .int .i64 a0_2, .string a0_3, .slice A0_4 l0_4.length c0_4]] rfl sma ?_; (with_reducible refine (hopmeshref49_Command.calls k a0_0 a0_1 a0_2 a0_3 _ _ l0_4 false _ (cb HR0_4 HB) HC0_4.out A2.out).mono ?_); rintro e w28 ⟨rfl, hb⟩; refine ⟨_, rfl, ?_⟩; replace BK607 := bkB BK607 hb; replace HB := hbS HB hb; (try clear hb); (try clear hb2); (try clear hk); (try clear hi)))
  go_ret2
  exact ⟨rerr, hbx HB⟩
end Go.Proofs.Ytdigplhjfjchnaa.PQ
