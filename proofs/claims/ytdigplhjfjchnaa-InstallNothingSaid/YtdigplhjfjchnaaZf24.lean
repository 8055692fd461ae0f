-- Printed by fprint.py and zip.py, programs of this session's, over the kit's print; Lean checks it.
import Derived.Test.YtdigplhjfjchnaaZ0
import Derived.Test.YtdigplhjfjchnaaZf44
import Derived.Test.YtdigplhjfjchnaaZf56
namespace Go.Proofs.Ytdigplhjfjchnaa.PQ
open Go.RowKit Go.Proofs.YtdigplhjfjchnaaW.PrintWords Go.Proofs.YtdigplhjfjchnaaW.PrintLast Go.Proofs.YtdigplhjfjchnaaW.PrintMore
attribute [local go_sem] max2_int min2_int max_two min_two max_three min_three max_four min_four   -- for this text's walks alone
set_option linter.unusedVariables false
set_option linter.unusedSimpArgs false
def install_Encode.l0 : Nat → Int → List Int → Int → Int → Int → Int → Int → ByteArray → List Int → Option (ByteArray × Int)
 | 0, _, _, _, _, _, _, _, _, _ => none
 | k + 1, x4, x11, x12, x13, x178000, x178001, x178002, x178003, x178004 => if x13 < x12 then (if 0 ≤ x13 then (if x13 < (x11.length : Int) then (if 0 ≤ (rd x11 x13) then (install_Encode.l0 k (Go.bits .or .i64 x4 (shl .i64 1 (rd x11 x13))) x11 x12 (wrap64 (x13 + 1)) x178000 x178001 x178002 x178003 x178004) else (none)) else (none)) else (none)) else ((install_number.f k x178001 1).bind fun t180 => ((install_number.f k x178000 3).bind fun t181 => (if t180.size + t181.size ≤ 9223372036854775807 then ((install_number.f k x178002 4).bind fun t182 => (if (t180 ++ t181).size + t182.size ≤ 9223372036854775807 then (if ((t180 ++ t181) ++ t182).size + x178003.size ≤ 9223372036854775807 then ((install_number.f k x4 4).bind fun t183 => (if (((t180 ++ t181) ++ t182) ++ x178003).size + t183.size ≤ 9223372036854775807 then (some ((((t180 ++ t181) ++ t182) ++ x178003) ++ t183, 0)) else (none))) else (none)) else (none))) else (none))))
def install_Encode.f (k : Nat) (a0_0 : Int) (a0_1 : Int) (a0_2 : Int) (a0_3 : ByteArray) (l0_4 : List Int) : Option (ByteArray × Int) := (install_command.f k a0_0 a0_1 a0_2 a0_3 l0_4).bind fun t178 => (if t178 = true then (install_Encode.l0 k 0 l0_4 (l0_4.length : Int) 0 a0_0 a0_1 a0_2 a0_3 l0_4) else (some ((⟨#[]⟩ : ByteArray), 1)))
theorem install_Encode.mono_l : ∀ k, (∀ y0 y1 y2 y3 y4 y5 y6 y7 y8, LeO (install_Encode.l0 k y0 y1 y2 y3 y4 y5 y6 y7 y8) (install_Encode.l0 (k + 1) y0 y1 y2 y3 y4 y5 y6 y7 y8))
 | 0 => fun _ _ _ _ _ _ _ _ _ r h => by simp [install_Encode.l0] at h
 | k + 1 => by
  have ih0 := install_Encode.mono_l k
  ·intro y0 y1 y2 y3 y4 y5 y6 y7 y8
   unfold install_Encode.l0
   repeat' first
   | (with_reducible exact ih0 _ _ _ _ _ _ _ _ _)
   | (with_reducible exact install_command.mono _ _ _ _ _ _)
   | (with_reducible exact install_number.mono _ _ _)
   | (with_reducible exact LeO.refl _)
   | (with_reducible exact LeO.none _)
   | (with_reducible refine LeO.ite ?_ ?_)
   | (with_reducible refine LeO.bind ?_ (fun _ => ?_))
   | exact ih0 _ _ _ _ _ _ _ _ _
   | exact install_command.mono _ _ _ _ _ _
   | exact install_number.mono _ _ _
   | exact LeO.none _
   | refine LeO.ite ?_ ?_
   | refine LeO.bind ?_ (fun _ => ?_)
theorem install_Encode.mono : ∀ a0 a1 a2 a3 a4 k, LeO (install_Encode.f k a0 a1 a2 a3 a4) (install_Encode.f (k + 1) a0 a1 a2 a3 a4) := by
 intro a0 a1 a2 a3 a4 k
 have ih0 := install_Encode.mono_l k
 unfold install_Encode.f
 repeat' first
  | (with_reducible exact ih0 _ _ _ _ _ _ _ _ _)
  | (with_reducible exact install_command.mono _ _ _ _ _ _)
  | (with_reducible exact install_number.mono _ _ _)
  | (with_reducible exact LeO.refl _)
  | (with_reducible exact LeO.none _)
  | (with_reducible refine LeO.ite ?_ ?_)
  | (with_reducible refine LeO.bind ?_ (fun _ => ?_))
  | exact ih0 _ _ _ _ _ _ _ _ _
  | exact install_command.mono _ _ _ _ _ _
  | exact install_number.mono _ _ _
  | exact LeO.none _
  | refine LeO.ite ?_ ?_
  | refine LeO.bind ?_ (fun _ => ?_)
def install_Encode.T9 : Bool × List (List Nat × List Nat) := (true, [([], []), ([0], [0]), ([1], [1]), ([], []), ([3], [3]), ([4, 2], [4]), ([2, 5], [2, 5]), ([], []), ([7], [7]), ([8, 5], [8]), ([6, 9], [6, 9]), ([], []), ([11], [11]), ([10, 12], [10, 12]), ([], []), ([14, 9], [14]), ([13, 15], [13, 15]), ([16, 15, 0, 1, 2, 3, 4, 5, 6, 7, 8, 9, 10, 11, 12, 13, 14, 15, 16], [16]), ([17, 0, 1, 2, 3, 4, 5, 6, 7, 8, 9, 10, 11, 12, 13, 14, 15, 16, 17], [])])
def install_Encode.B9 : List Nat := [0, 1, 3, 0, 8, 31, 63, 0, 128, 447, 1023, 0, 2048, 8191, 0, 17343, 65535, 131071, 262143]
theorem install_Encode.tab9 : rtab .any (opsOf Try.f24 9) = install_Encode.T9 := by kernel_rfl
theorem install_Encode.bits9 : waitsOk install_Encode.T9.2 install_Encode.B9 = true := by kernel_rfl
set_option maxHeartbeats 8000000 in
set_option maxRecDepth 100000 in
theorem install_Encode.calls (k : Nat) (a0_0 : Int) (a0_1 : Int) (a0_2 : Int) (a0_3 : ByteArray) (A0_4 : Option Addr) (c0_4 : Nat) (l0_4 : List Int) (r1 : ByteArray) (r2 : Int) (w : World) (hr0_4 : Kd.C (Kd.int .i64) w A0_4 l0_4.length l0_4) (hc0_4 : l0_4.length ≤ c0_4) (h : install_Encode.f k a0_0 a0_1 a0_2 a0_3 l0_4 = some (r1, r2)) :
 Calls Try.prog 24 #[.agg #[.int .i64 a0_0, .int .i64 a0_1, .int .i64 a0_2, .string a0_3, .slice A0_4 l0_4.length c0_4]] w fun e w' => e = .returned (.tuple #[.string r1, .int .i64 r2]) ∧ Below w.heap.size w w' := by
 have hu36 := Try.underlying36
 have HR0_4 := Aside0.mk hr0_4
 have HC0_4 := Aside0.mk hc0_4
 clear hr0_4 hc0_4
 have HB := Aside0.mk (Below.refl w.heap.size w)
 have H : ((install_command.f k a0_0 a0_1 a0_2 a0_3 l0_4).bind fun t178 => (if t178 = true then (install_Encode.l0 k 0 l0_4 (l0_4.length : Int) 0 a0_0 a0_1 a0_2 a0_3 l0_4) else (some ((⟨#[]⟩ : ByteArray), 1)))) = some (r1, r2) := h
 clear h
 replace H := Option.bind_eq_some_iff.mp H
 obtain ⟨t178, A20, H⟩ := H
 (try dsimp only at H)
 have A2 := Aside0.mk A20
 clear A20
 by_cases c3 : t178 = true
 ·subst c3
  rw [if_pos rfl] at H
  have H' := Aside0.mk H
  clear H
  go_enter Try.func24, Try.ntmps24
  go_wp2_with (first | ((with_reducible refine gate_dst (N := 1) rfl ?_); refine boxE 1 #[.int .i64 a0_0, .int .i64 a0_1, .int .i64 a0_2, .string a0_3, .slice A0_4 l0_4.length c0_4] 36 ?_; intro gb177 hg w4 hbox hb; have BK177 := Aside0.mk (hbox); have GW177 := gw hg HB; have GE177 := gw hg HB; replace HB := hbS HB hb; clear hb hbox hg; obtain ⟨z0, z1, z2, z3, z4, y0, y1, y2, y3, y4⟩ := bc5 BK177) | ((with_reducible refine gate_callee (f := 44) rfl ?_); refine goesL_ (some 8) rfl rfl Try.func44 (by kernel_rfl) rfl #[.agg #[.int .i64 a0_0, .int .i64 a0_1, .int .i64 a0_2, .string a0_3, .slice A0_4 l0_4.length c0_4]] rfl sma ?_; (with_reducible refine (install_command.calls k a0_0 a0_1 a0_2 a0_3 _ _ l0_4 true _ (cb HR0_4 HB) HC0_4.out A2.out).mono ?_); rintro e w6 ⟨rfl, hb⟩; refine ⟨_, rfl, ?_⟩; replace BK177 := bkB BK177 hb; replace HB := hbS HB hb; (try clear hb); (try clear hb2); (try clear hk); (try clear hi); obtain ⟨z0, z1, z2, z3, z4, y0, y1, y2, y3, y4⟩ := bc5 BK177))
  go_loopg [4, 13] k (fun kq v4 v13 w' => ∃ (x4_1 : Int) (x13_1 : Int), v4 = .int .i64 x4_1 ∧ v13 = .int .i64 x13_1 ∧ Aside0 (install_Encode.l0 kq x4_1 l0_4 (l0_4.length : Int) x13_1 a0_0 a0_1 a0_2 a0_3 l0_4 = some (r1, r2)) ∧ Aside0 (kq ≤ k) ∧ Aside0 (w'.heap[gb177]? = some (.cells #[.int .i64 a0_0, .int .i64 a0_1, .int .i64 a0_2, .string a0_3, (.slice A0_4 l0_4.length c0_4)] 36 (0, 0))) ∧ Aside0 (Below w.heap.size w w'))
  case atStart => exact ⟨(0), (0), rfs, rfs, H', ⟨Nat.le_refl _⟩, bkA BK177, hbA HB⟩
  case round =>
   clear H'
   try clear c3
   try clear hcz5_0
   try clear hcz5_1
   try clear hcz5_2
   try clear hcz5_3
   try clear hcz5_4
   try clear hcz7_0
   try clear hcz7_1
   try clear hcz7_2
   try clear hcz7_3
   try clear hcz7_4
   try clear hfz5_0
   try clear hfz5_1
   try clear hfz5_2
   try clear hfz5_3
   try clear hfz5_4
   try clear hfz7_0
   try clear hfz7_1
   try clear hfz7_2
   try clear hfz7_3
   try clear hfz7_4
   obtain ⟨x4_1, x13_1, rfl, rfl, HA, HK1, BK177, HB⟩ := hrel
   cases gk with
   | zero => exact absurd HA.out (by simp [install_Encode.l0])
   | succ k1 =>
    have H := HA.out
    clear HA
    simp only [install_Encode.l0] at H
    by_cases c8 : x13_1 < (l0_4.length : Int)
    ·rw [if_pos c8] at H
     have c8b0 : decide (x13_1 < (l0_4.length : Int)) = true := decide_eq_true c8
     clear c8
     by_cases c9 : 0 ≤ x13_1
     ·rw [if_pos c9] at H
      have c9b0 : decide (0 ≤ x13_1) = true := decide_eq_true c9
      clear c9
      by_cases c10 : x13_1 < (l0_4.length : Int)
      ·rw [if_pos c10] at H
       have c10b0 : decide (x13_1 < (l0_4.length : Int)) = true := decide_eq_true c10
       clear c10
       by_cases c11 : 0 ≤ (rd l0_4 x13_1)
       ·rw [if_pos c11] at H
        have c11b0 := eq_true c11
        have c11b1 : decide (0 ≤ (rd l0_4 x13_1)) = true := decide_eq_true c11
        clear c11
        obtain ⟨ji12, hji12⟩ : ∃ j_ : Int, (shl .i64 1 (rd l0_4 x13_1)) = j_ := ⟨_, rfl⟩
        replace H : (install_Encode.l0 k1 (Go.bits .or .i64 x4_1 (ji12)) l0_4 (l0_4.length : Int) (wrap64 (x13_1 + 1)) a0_0 a0_1 a0_2 a0_3 l0_4) = some (r1, r2) := by first | (rw [hji12] at H; exact H) | (simp only [hji12] at H ⊢; exact H)
        have hji12_ : (IntKind.i64.wrap (1 * 2 ^ min (rd l0_4 x13_1).toNat 64)) = ji12 := hji12
        have hji12z : (rd l0_4 x13_1) ≤ 64 → (IntKind.i64.wrap (1 * 2 ^ (rd l0_4 x13_1).toNat)) = ji12 := shl_small hji12
        have hji12u : (IntKind.i64.wrap (2 ^ min (rd l0_4 x13_1).toNat 64)) = ji12 := by have h_ := hji12_; rw [Int.one_mul] at h_; exact h_
        have hji12v : (rd l0_4 x13_1) ≤ 64 → (IntKind.i64.wrap (2 ^ (rd l0_4 x13_1).toNat)) = ji12 := fun hle_ => by have h_ := hji12z hle_; rw [Int.one_mul] at h_; exact h_
        have hji12y : (wrap64 (1 * 2 ^ min (rd l0_4 x13_1).toNat 64)) = ji12 := (i64_w _).symm.trans hji12_
        have hji12x : (rd l0_4 x13_1) ≤ 64 → (wrap64 (1 * 2 ^ (rd l0_4 x13_1).toNat)) = ji12 := fun h_ => (i64_w _).symm.trans (hji12z h_)
        have H' := Aside0.mk H
        clear H
        have p179 : 0 ≤ (x13_1 : Int) := pos_
        have q179 : x13_1 < (l0_4.length : Int) := pos_
        obtain ⟨ad179, e179, hx179_0⟩ := Kd.at_int HR0_4.out x13_1 p179 q179
        cases e179
        replace hx179_0 := (HB.out.cell (World.block_lt_of_cell? w _ hx179_0)).trans hx179_0
        replace p179 := eq_true p179
        replace q179 := eq_true q179
        go_wp2
        go_roundg k1
        case measure => have := HK1.out; omega
        case rel => exact ⟨(Go.bits .or .i64 x4_1 (ji12)), (wrap64 (x13_1 + 1)), (by first | rfl | (simp; done) | (simp only [← hji12] <;> (first | rfl | simp)) | (simp [*]; done)), rfs, H', ⟨by have := HK1.out; omega⟩, bkA BK177, hbA HB⟩
       ·rw [if_neg c11] at H
        exact absurd H (by simp)
      ·rw [if_neg c10] at H
       exact absurd H (by simp)
     ·rw [if_neg c9] at H
      exact absurd H (by simp)
    ·rw [if_neg c8] at H
     have c8b0 : decide (x13_1 < (l0_4.length : Int)) = false := decide_eq_false c8
     clear c8
     replace H := Option.bind_eq_some_iff.mp H
     obtain ⟨t180, A130, H⟩ := H
     (try dsimp only at H)
     have A13 := Aside0.mk A130
     clear A130
     replace H := Option.bind_eq_some_iff.mp H
     obtain ⟨t181, A140, H⟩ := H
     (try dsimp only at H)
     have A14 := Aside0.mk A140
     clear A140
     by_cases c15 : t180.size + t181.size ≤ 9223372036854775807
     ·rw [if_pos c15] at H
      have c15b0 := eq_true c15
      have c15b1 : decide (t180.size + t181.size ≤ 9223372036854775807) = true := decide_eq_true c15
      try have c15b2 : (9223372036854775807 < t180.size + t181.size) = False := eq_false (Nat.not_lt.2 c15)
      replace H := Option.bind_eq_some_iff.mp H
      obtain ⟨t182, A160, H⟩ := H
      (try dsimp only at H)
      have A16 := Aside0.mk A160
      clear A160
      by_cases c17 : (t180 ++ t181).size + t182.size ≤ 9223372036854775807
      ·rw [if_pos c17] at H
       have c17b0 := eq_true c17
       have c17b1 : decide ((t180 ++ t181).size + t182.size ≤ 9223372036854775807) = true := decide_eq_true c17
       try have c17b2 : (9223372036854775807 < (t180 ++ t181).size + t182.size) = False := eq_false (Nat.not_lt.2 c17)
       (try (have c17b3 := c17b2; simp only [ByteArray.size_append] at c17b3))
       by_cases c18 : ((t180 ++ t181) ++ t182).size + a0_3.size ≤ 9223372036854775807
       ·rw [if_pos c18] at H
        have c18b0 := eq_true c18
        have c18b1 : decide (((t180 ++ t181) ++ t182).size + a0_3.size ≤ 9223372036854775807) = true := decide_eq_true c18
        try have c18b2 : (9223372036854775807 < ((t180 ++ t181) ++ t182).size + a0_3.size) = False := eq_false (Nat.not_lt.2 c18)
        (try (have c18b3 := c18b2; simp only [ByteArray.size_append] at c18b3))
        replace H := Option.bind_eq_some_iff.mp H
        obtain ⟨t183, A190, H⟩ := H
        (try dsimp only at H)
        have A19 := Aside0.mk A190
        clear A190
        by_cases c20 : (((t180 ++ t181) ++ t182) ++ a0_3).size + t183.size ≤ 9223372036854775807
        ·rw [if_pos c20] at H
         have c20b0 := eq_true c20
         have c20b1 : decide ((((t180 ++ t181) ++ t182) ++ a0_3).size + t183.size ≤ 9223372036854775807) = true := decide_eq_true c20
         try have c20b2 : (9223372036854775807 < (((t180 ++ t181) ++ t182) ++ a0_3).size + t183.size) = False := eq_false (Nat.not_lt.2 c20)
         (try (have c20b3 := c20b2; simp only [ByteArray.size_append] at c20b3))
         simp only [Option.some.injEq, Prod.mk.injEq] at H
         obtain ⟨rfl, rfl⟩ := H
         try go_wp2
         replace BK177 := Aside0.mk (blk_drew BK177.out)
         replace HB := Aside0.mk (below_drew1 HB.out)
         refine start_ (n := 19) (S := fun w' => w'.cell? ⟨gb177, 0, none⟩ = some (.int .i64 a0_0) ∧ w'.cell? ⟨gb177, 1, none⟩ = some (.int .i64 a0_1) ∧ w'.cell? ⟨gb177, 2, none⟩ = some (.int .i64 a0_2) ∧ w'.cell? ⟨gb177, 3, none⟩ = some (.string a0_3) ∧ w'.cell? ⟨gb177, 4, none⟩ = some (.slice A0_4 l0_4.length c0_4)) (ds := []) #[false, false, false, false, false, false, false, false, false, false, false, false, false, false, false, false, false, false, false] (by kernel_rfl) rfl rfl ⟨(blk_cell BK177.out 0).trans rfl, (blk_cell BK177.out 1).trans rfl, (blk_cell BK177.out 2).trans rfl, (blk_cell BK177.out 3).trans rfl, (blk_cell BK177.out 4).trans rfl⟩ (fun hHeld => ?_); refine with_tabW install_Encode.tab9 install_Encode.bits9 (fun HT_ HW_ => ?_)
         generalize wr.drew = w21 at BK177 HB hHeld ⊢
         refine pur 0 (some 22) #[true, false, false, false, false, false, false, false, false, false, false, false, false, false, false, false, false, false, false] HT_ ?_
         refine pur 3 (some 25) #[true, false, false, true, false, false, false, false, false, false, false, false, false, false, false, false, false, false, false] HT_ ?_
         refine pur 7 (some 29) #[true, false, false, true, false, false, false, true, false, false, false, false, false, false, false, false, false, false, false] HT_ ?_
         refine pur 11 (some 33) #[true, false, false, true, false, false, false, true, false, false, false, true, false, false, false, false, false, false, false] HT_ ?_
         refine pur 14 (some 36) #[true, false, false, true, false, false, false, true, false, false, false, true, false, false, true, false, false, false, false] HT_ ?_
         refine tak 1 (some 23) #[true, true, false, true, false, false, false, true, false, false, false, true, false, false, true, false, false, false, false] HT_ HW_ hHeld rfl (Or.inl ⟨by rfl, by rintro w' ⟨s0, s1, s2, s3, s4⟩; go_simp; with_reducible rfl⟩) ?_
         refine tak 4 (some 26) #[true, true, false, true, true, false, false, true, false, false, false, true, false, false, true, false, false, false, false] HT_ HW_ hHeld rfl (Or.inl ⟨by rfl, by rintro w' ⟨s0, s1, s2, s3, s4⟩; go_simp; with_reducible rfl⟩) ?_
         refine tak 8 (some 30) #[true, true, false, true, true, false, false, true, true, false, false, true, false, false, true, false, false, false, false] HT_ HW_ hHeld rfl (Or.inl ⟨by rfl, by rintro w' ⟨s0, s1, s2, s3, s4⟩; go_simp; with_reducible rfl⟩) ?_
         refine tak 12 (some 34) #[true, true, false, true, true, false, false, true, true, false, false, true, true, false, true, false, false, false, false] HT_ HW_ hHeld rfl (Or.inl ⟨by rfl, by rintro w' ⟨s0, s1, s2, s3, s4⟩; go_simp; with_reducible rfl⟩) ?_
         refine one_ (i := 2) (N := some 24) #[true, true, true, true, true, false, false, true, true, false, false, true, true, false, true, false, false, false, false] rfl rfl (one_of HT_.out (by kernel_rfl)) (by decide) (fun K hK => ?_)
         refine goes_ Try.func56 (by kernel_rfl) rfl #[.int .i64 a0_1, .int .i64 1] (by rfl) rfl rfl sma ?_
         with_reducible refine (install_number.calls k1 a0_1 1 t180 _ A13.out).mono ?_
         rintro e w22 ⟨rfl, hb⟩
         refine ⟨_, rfl, ?_⟩
         replace BK177 := bkB BK177 hb
         replace HB := hbS HB hb
         (try clear hb)
         (try clear hb2)
         (try clear hk)
         (try clear hi)
         refine hK.out _ _ ⟨(blk_cell BK177.out 0).trans rfl, (blk_cell BK177.out 1).trans rfl, (blk_cell BK177.out 2).trans rfl, (blk_cell BK177.out 3).trans rfl, (blk_cell BK177.out 4).trans rfl⟩ (fun hHeld => ?_)
         clear hK K
         refine nrm (some 24) ?_
         refine one_ (i := 5) (N := some 27) #[true, true, true, true, true, true, false, true, true, false, false, true, true, false, true, false, false, false, false] rfl rfl (one_of HT_.out (by kernel_rfl)) (by decide) (fun K hK => ?_)
         refine goes_ Try.func56 (by kernel_rfl) rfl #[.int .i64 a0_0, .int .i64 3] (by rfl) rfl rfl sma ?_
         with_reducible refine (install_number.calls k1 a0_0 3 t181 _ A14.out).mono ?_
         rintro e w23 ⟨rfl, hb⟩
         refine ⟨_, rfl, ?_⟩
         replace BK177 := bkB BK177 hb
         replace HB := hbS HB hb
         (try clear hb)
         (try clear hb2)
         (try clear hk)
         (try clear hi)
         refine hK.out _ _ ⟨(blk_cell BK177.out 0).trans rfl, (blk_cell BK177.out 1).trans rfl, (blk_cell BK177.out 2).trans rfl, (blk_cell BK177.out 3).trans rfl, (blk_cell BK177.out 4).trans rfl⟩ (fun hHeld => ?_)
         clear hK K
         refine nrm (some 27) ?_
         refine pur 6 (some 28) #[true, true, true, true, true, true, true, true, true, false, false, true, true, false, true, false, false, false, false] HT_ ?_
         refine one_ (i := 9) (N := some 31) #[true, true, true, true, true, true, true, true, true, true, false, true, true, false, true, false, false, false, false] rfl rfl (one_of HT_.out (by kernel_rfl)) (by decide) (fun K hK => ?_)
         refine goes_ Try.func56 (by kernel_rfl) rfl #[.int .i64 a0_2, .int .i64 4] (by rfl) rfl rfl sma ?_
         with_reducible refine (install_number.calls k1 a0_2 4 t182 _ A16.out).mono ?_
         rintro e w24 ⟨rfl, hb⟩
         refine ⟨_, rfl, ?_⟩
         replace BK177 := bkB BK177 hb
         replace HB := hbS HB hb
         (try clear hb)
         (try clear hb2)
         (try clear hk)
         (try clear hi)
         refine hK.out _ _ ⟨(blk_cell BK177.out 0).trans rfl, (blk_cell BK177.out 1).trans rfl, (blk_cell BK177.out 2).trans rfl, (blk_cell BK177.out 3).trans rfl, (blk_cell BK177.out 4).trans rfl⟩ (fun hHeld => ?_)
         clear hK K
         refine nrm (some 31) ?_
         refine pur 10 (some 32) #[true, true, true, true, true, true, true, true, true, true, true, true, true, false, true, false, false, false, false] HT_ ?_
         refine pur 13 (some 35) #[true, true, true, true, true, true, true, true, true, true, true, true, true, true, true, false, false, false, false] HT_ ?_
         refine one_ (i := 15) (N := some 37) #[true, true, true, true, true, true, true, true, true, true, true, true, true, true, true, true, false, false, false] rfl rfl (one_of HT_.out (by kernel_rfl)) (by decide) (fun K hK => ?_)
         refine goes_ Try.func56 (by kernel_rfl) rfl #[.int .i64 x4_1, .int .i64 4] (by rfl) rfl rfl sma ?_
         with_reducible refine (install_number.calls k1 x4_1 4 t183 _ A19.out).mono ?_
         rintro e w25 ⟨rfl, hb⟩
         refine ⟨_, rfl, ?_⟩
         replace BK177 := bkB BK177 hb
         replace HB := hbS HB hb
         (try clear hb)
         (try clear hb2)
         (try clear hk)
         (try clear hi)
         refine hK.out _ _ ⟨(blk_cell BK177.out 0).trans rfl, (blk_cell BK177.out 1).trans rfl, (blk_cell BK177.out 2).trans rfl, (blk_cell BK177.out 3).trans rfl, (blk_cell BK177.out 4).trans rfl⟩ (fun hHeld => ?_)
         clear hK K
         refine nrm (some 37) ?_
         refine pur 16 (some 38) #[true, true, true, true, true, true, true, true, true, true, true, true, true, true, true, true, true, false, false] HT_ ?_
         refine pur 17 (some 2) #[true, true, true, true, true, true, true, true, true, true, true, true, true, true, true, true, true, true, false] HT_ ?_
         refine pur 18 (some 3) #[true, true, true, true, true, true, true, true, true, true, true, true, true, true, true, true, true, true, true] HT_ ?_
         refine done_ (done_of HT_.out (by kernel_rfl)) ?_
         try go_wp2
         go_ret2
         exact ⟨rerr, hbx HB⟩
        ·rw [if_neg c20] at H
         exact absurd H (by simp)
       ·rw [if_neg c18] at H
        exact absurd H (by simp)
      ·rw [if_neg c17] at H
       exact absurd H (by simp)
     ·rw [if_neg c15] at H
      exact absurd H (by simp)
 ·replace c3 := Bool.eq_false_iff.mpr c3
  subst c3
  rw [if_neg (show ¬ (false = true) by decide)] at H
  simp only [Option.some.injEq, Prod.mk.injEq] at H
  obtain ⟨rfl, rfl⟩ := H
  go_enter Try.func24, Try.ntmps24
  go_wp2_with (first | ((with_reducible refine gate_dst (N := 1) rfl ?_); refine boxE 1 #[.int .i64 a0_0, .int .i64 a0_1, .int .i64 a0_2, .string a0_3, .slice A0_4 l0_4.length c0_4] 36 ?_; intro gb177 hg w26 hbox hb; have BK177 := Aside0.mk (hbox); have GW177 := gw hg HB; have GE177 := gw hg HB; replace HB := hbS HB hb; clear hb hbox hg; obtain ⟨z0, z1, z2, z3, z4, y0, y1, y2, y3, y4⟩ := bc5 BK177) | ((with_reducible refine gate_callee (f := 44) rfl ?_); refine goesL_ (some 8) rfl rfl Try.func44 (by kernel_rfl) rfl #[.agg #[.int .i64 a0_0, .int .i64 a0_1, .int .i64 a0_2, .string a0_3, .slice A0_4 l0_4.length c0_4]] rfl sma ?_; (with_reducible refine (install_command.calls k a0_0 a0_1 a0_2 a0_3 _ _ l0_4 false _ (cb HR0_4 HB) HC0_4.out A2.out).mono ?_); rintro e w28 ⟨rfl, hb⟩; refine ⟨_, rfl, ?_⟩; replace BK177 := bkB BK177 hb; replace HB := hbS HB hb; (try clear hb); (try clear hb2); (try clear hk); (try clear hi)))
  go_ret2
  exact ⟨rerr, hbx HB⟩
end Go.Proofs.Ytdigplhjfjchnaa.PQ
