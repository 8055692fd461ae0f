-- Printed by fprint.py and zip.py, programs of this session's, over the kit's print; Lean checks it.
import Derived.Test.YtdigplhjfjchnaaZ0
import Derived.Test.YtdigplhjfjchnaaZf11
import Derived.Test.YtdigplhjfjchnaaZf12
import Derived.Test.YtdigplhjfjchnaaZf14
import Derived.Test.YtdigplhjfjchnaaZf15
import Derived.Test.YtdigplhjfjchnaaZf10
import Derived.Test.YtdigplhjfjchnaaZf17
import Derived.Test.YtdigplhjfjchnaaZT
import Derived.Test.YtdigplhjfjchnaaZf5d
import Derived.Test.YtdigplhjfjchnaaZC2
import Derived.Test.YtdigplhjfjchnaaZf5p28
import Derived.Test.YtdigplhjfjchnaaZf5p37
namespace Go.Proofs.Ytdigplhjfjchnaa.PQ
open Go.RowKit Go.Proofs.YtdigplhjfjchnaaW.PrintWords Go.Proofs.YtdigplhjfjchnaaW.PrintLast Go.Proofs.YtdigplhjfjchnaaW.PrintMore
attribute [local go_sem] max2_int min2_int max_two min_two max_three min_three max_four min_four   -- for this text's walks alone
set_option linter.unusedVariables false
set_option linter.unusedSimpArgs false
set_option maxHeartbeats 8000000 in
set_option maxRecDepth 100000 in
theorem hopmeshlaw49_InstallTogether.part14 (k : Nat) (a0 : Int) (a1 : Int) (A2 : Option Addr) (c2 : Nat) (l2 : List S47) (r : Bool) (w : World) (kj3 : Nat) (ji14 : Int) (v341 : Value) (wr : World) (u8 : Value) (x8_2 : List Int) (x9_2 : List S28) (x45_2 : Int) (k2 : Nat) (t357 : ByteArray) (y359 : List Bool) (t362 : List S47) (U6 U10 U11 U12 U26 U27 U28 U29 U30 U31 U32 U33 U34 U35 U37 U47 U48 U49 U50 U51 U52 U53 U54 U55 U56 U57 U58 U59 U60 U61 U62 U63 U64 U65 U66 U67 U68 U69 U70 U71 U72 U73 U74 U76 U77 U78 U81 U82 U83 U84 U85 U86 U87 U88 U89 U90 U91 U92 U93 U94 U95 U96 U97 U98 U99 U100 U101 U102 U103 U104 U105 U106 U107 U108 U109 U110 U111 U112 U113 U114 U115 U116 U117 U118 U119 U120 U121 U122 U123 U124 U125 U126 U127 U128 U129 U130 U131 U132 U133 U134 U135 U136 U137 U138 U139 U140 U141 U142 U143 U144 U145 U146 U147 U148 U149 U150 U151 U152 U153 U154 U155 U156 U157 U158 U159 U160 U161 U162 U163 U164 U165 U166 U167 U168 U169 U170 U174 U175 U176 U177 U178 U179 U180 U181 U182 U183 U184 U185 U186 U187 U188 U189 U190 U191 : Value) (HR2 : Aside0 (Kd.C k47 w A2 (List.length l2) l2)) (HC2 : Aside0 (List.length l2 ≤ c2)) (HJ3 : Aside0 (kj3 + (1 : Nat) ≤ k)) (hji14 : wrap64 ((1 : Int) + wrap64 (Int.tmod a0 (8 : Int))) = ji14) (hji14w : IntKind.wrap IntKind.i64 ((1 : Int) + wrap64 (Int.tmod a0 (8 : Int))) = ji14) (HO_8 : Aside0 (Kd.R (Kd.int IntKind.i64) (3 : Nat) wr (Array.size (World.heap w)) (fun (x : Nat) => True) u8 x8_2)) (HO_9 : Aside0 (Kd.R k28 (28 : Nat) wr (Array.size (World.heap w)) (fun (x : Nat) => True) v341 x9_2)) (HB : Aside0 (Below (Array.size (World.heap w)) w wr)) (HK2 : Aside0 (k2 + (1 : Nat) ≤ kj3)) (c19b0 : decide (x45_2 < ji14) = false) (A37 : Aside0 (hopmeshlaw49_id.f { data := #[(120 : UInt8)] } = some t357)) (c38b0 : ((0 : Int) ≤ ji14) = True) (c38b1 : decide ((0 : Int) ≤ ji14) = true) (c39b0 : (Int.toNat ji14 ≤ (281474976710656 : Nat)) = True) (c39b1 : decide (Int.toNat ji14 ≤ (281474976710656 : Nat)) = true) (Ny359 : Aside0 (y359 = List.replicate (Int.toNat ji14) false)) (A40 : Aside0 (hopmeshlaw49_order.f k2 l2 = some t362)) (H' : Aside0 (l1 k2 a1 ji14 x9_2 y359 t362 (0 : Int) (1 : Int) (1 : Int) (wrap64 a1) t357 x8_2 = some r)) (z236_ : Act → World → Prop) (cc0_ cc2_ : Code) :
 let z13_ : Exit → Act → World → Prop := bodyPost Try.prog Try.f5 fun (e : Ending) (w' : World) => e = Ending.returned (Value.bool r) ∧ Below (Array.size (World.heap w)) w w'; (∀ (a : Act) (w : World), Code.wp Try.prog cc2_ z13_ a w → z236_ a w) → Option.bind Try.f5.body (codeAt [1, 1, 1, 1, 1, 1, 0]) = some cc0_ → Option.bind Try.f5.body (codeAt [1, 1, 1, 1, 1, 1, 1]) = some cc2_ → Code.wp Try.prog cc0_ (Exit.then z236_ z13_) ⟨#[Value.int IntKind.u8 a0, Value.int IntKind.u8 a1, Value.slice A2 (List.length l2) c2, undef, undef, undef, U6, Value.int IntKind.i64 ji14, u8, v341, U10, U11, U12, undef, undef, undef, undef, undef, undef, undef, undef, undef, undef, undef, undef, undef, U26, U27, U28, U29, U30, U31, U32, U33, U34, U35, Value.bool false, U37, Value.int IntKind.u8 a0, Value.int IntKind.u8 (Int.tmod a0 (8 : Int)), Value.int IntKind.i64 (wrap64 (Int.tmod a0 (8 : Int))), Value.int IntKind.i64 ji14, Value.int IntKind.i64 ji14, v341, Value.int IntKind.i64 ji14, Value.int IntKind.i64 x45_2, Value.bool false, U47, U48, U49, U50, U51, U52, U53, U54, U55, U56, U57, U58, U59, U60, U61, U62, U63, U64, U65, U66, U67, U68, U69, U70, U71, U72, U73, U74, undef, U76, U77, U78, undef, undef, U81, U82, U83, U84, U85, U86, U87, U88, U89, U90, U91, U92, U93, U94, U95, U96, U97, U98, U99, U100, U101, U102, U103, U104, U105, U106, U107, U108, U109, U110, U111, U112, U113, U114, U115, U116, U117, U118, U119, U120, U121, U122, U123, U124, U125, U126, U127, U128, U129, U130, U131, U132, U133, U134, U135, U136, U137, U138, U139, U140, U141, U142, U143, U144, U145, U146, U147, U148, U149, U150, U151, U152, U153, U154, U155, U156, U157, U158, U159, U160, U161, U162, U163, U164, U165, U166, U167, U168, U169, U170, undef, undef, undef, U174, U175, U176, U177, U178, U179, U180, U181, U182, U183, U184, U185, U186, U187, U188, U189, U190, U191], []⟩ (wr) := by
 intro z13_ hk0_ hc0_ hc1_
 conv at hc0_ => lhs; whnf
 replace hc0_ := Option.some.inj hc0_
 subst hc0_
 conv at hc1_ => lhs; whnf
 replace hc1_ := Option.some.inj hc1_
 subst hc1_
 have hu28 := Try.underlying28
 have hu36 := Try.underlying36
 go_wp2_with (first | ((with_reducible refine gate_callee (f := 11) rfl ?_); refine goesL_ (some 68) rfl rfl Try.func11 (by kernel_rfl) rfl #[.string (⟨#[120]⟩ : ByteArray)] rfl sma ?_; (with_reducible refine (hopmeshlaw49_id.calls (⟨#[120]⟩ : ByteArray) t357 _ A37.out).mono ?_); rintro e w41 ⟨rfl, hb⟩; refine ⟨_, rfl, ?_⟩; replace HO_8 := rB HO_8 hb; replace HO_9 := rB HO_9 hb; replace HB := hbS HB hb; (try clear hb); (try clear hb2); (try clear hk); (try clear hi); obtain ⟨Ao42, co42, eo42⟩ := Kd.R_slice HO_8.out; subst eo42) | ((with_reducible refine gate_dst (N := 13) rfl ?_); (try (refine gate_guard (by rfl) ?_; dsimp only)); refine boxE 13 #[.int .i64 0, .int .i64 0, .int .i64 0, .string (⟨#[]⟩ : ByteArray), .slice none 0 0] 36 ?_; intro gb358 hg w43 hbox hb; replace HO_8 := rB HO_8 hb; replace HO_9 := rB HO_9 hb; have BK358 := Aside0.mk (hbox); have GW358 := gw hg HB; have GE358 := gw hg HB; replace HB := hbS HB hb; clear hb hbox hg; obtain ⟨z0, z1, z2, z3, z4, y0, y1, y2, y3, y4⟩ := bc5 BK358) | ((with_reducible refine gate_dst (N := 72) rfl ?_); (try (refine gate_guard (by rfl) ?_; dsimp only)); refine Kd.R_make Kd.bool _ 4 rfl (N := 72) rfl 22 _ _ rfl ji14 rfl rfl Try.underlying22 (.bool false) 1 info4 rfl (by decide) (by omega) false (ok := fun _ => True) (okp := fun _ => True) rfl (fun _ hk => hk) trivial (pos_) (Nat.le_trans (Nat.mul_le_mul_right _ (pos_ : ji14.toNat ≤ 281474976710656)) (by omega)) (Below.refl _ _) (Nat.le_refl _) ?_; intro v360 w45 ho46 hb hg_ hnew_; clear hg_ hnew_; (first | rw [← Ny359.out] at ho46 | (simp only [Int.reduceToNat] at ho46; rw [← Ny359.out] at ho46)); replace HO_8 := Aside0.mk (Kd.R_below (rfo HO_8) hb); replace HO_9 := Aside0.mk (Kd.R_below (rfo HO_9) hb); have HO361 := Aside0.mk (Kd.R_lower ho46 (below_size (hbx HB))); replace BK358 := Aside0.mk (blk_below (o := .cells #[.int .i64 1, .int .i64 1, .int .i64 (wrap64 (a1)), .string t357, .slice Ao42 x8_2.length co42] 36 (0, 0)) (bkp BK358) hb); replace HB := hbS HB hb; clear hb ho46) | ((with_reducible refine gate_callee (f := 17) rfl ?_); refine goesL_ (some 74) rfl rfl Try.func17 (by kernel_rfl) rfl #[.slice A2 l2.length c2] rfl sma ?_; (with_reducible refine (hopmeshlaw49_order.calls k2 _ _ l2 t362 _ (cb HR2 HB) HC2.out A40.out).mono ?_); rintro e w47 ⟨v363, rfl, ho0, hb⟩; refine ⟨_, rfl, ?_⟩; replace HO_8 := rB HO_8 hb; replace HO_9 := rB HO_9 hb; replace HO361 := rB HO361 hb; have HO364 := Aside0.mk (Kd.R_lower ho0 (below_size (hbx HB))); replace BK358 := bkB BK358 hb; replace HB := hbS HB hb; (try clear hb); (try clear hb2); (try clear hk); (try clear hi); (try clear ho0)))
 go_loopg [15, 75] k2 (fun kq v15 v75 w' => ∃ (x9_3 : List (S28)) (x14_3 : List Bool) (x15_3 : List (S47)) (x75_3 : Int), v75 = .int .i64 x75_3 ∧ Aside0 (hopmeshlaw49_InstallTogether.l1 kq a1 ji14 x9_3 x14_3 x15_3 x75_3 1 1 (wrap64 (a1)) t357 x8_2 = some r) ∧ Aside0 (kq ≤ k2) ∧ Aside0 (Kd.R k28 28 w' w.heap.size (fun _ => True) v341 x9_3) ∧ Aside0 (Kd.R Kd.bool 4 w' w.heap.size (fun _ => True) v360 x14_3) ∧ Aside0 (Kd.Q k47 47 w' w.heap.size (fun _ => True) v15 x15_3) ∧ Aside0 (Kd.R (Kd.int .i64) 3 w' w.heap.size (fun _ => True) (.slice Ao42 x8_2.length co42) x8_2) ∧ Aside0 (w'.heap[gb358]? = some (.cells #[.int .i64 1, .int .i64 1, .int .i64 (wrap64 (a1)), .string t357, (.slice Ao42 x8_2.length co42)] 36 (0, 0))) ∧ Aside0 (Below w.heap.size w w'))
 case atStart => exact ⟨(x9_2), (y359), (t362), (0), rfs, H', ⟨Nat.le_refl _⟩, roA HO_9, roA HO361, ⟨Kd.Q_of_R (ro HO364)⟩, roA HO_8, bkA BK358, hbA HB⟩
 case round =>
  clear H'
  try clear c2
  try clear c11
  try clear c15
  try clear c15b0
  try clear c15b1
  try clear c16
  try clear c16b0
  try clear c16b1
  try clear c19
  try clear c19b0
  try clear c38
  try clear c38b0
  try clear c38b1
  try clear c39
  try clear c39b0
  try clear c39b1
  try clear hcz44_0
  try clear hcz44_1
  try clear hcz44_2
  try clear hcz44_3
  try clear hcz44_4
  try clear hfz44_0
  try clear hfz44_1
  try clear hfz44_2
  try clear hfz44_3
  try clear hfz44_4
  obtain ⟨x9_3, x14_3, x15_3, x75_3, rfl, HA, HK3, HO_9, HO_14, HO_15, HO_359004, BK358, HB⟩ := hrel
  cases gk with
  | zero => exact absurd HA.out (by simp [hopmeshlaw49_InstallTogether.l1])
  | succ k3 =>
   have H := HA.out
   clear HA
   simp only [hopmeshlaw49_InstallTogether.l1] at H
   by_cases c48 : x75_3 < 260
   ·rw [if_pos c48] at H
    have c48b0 : decide (x75_3 < 260) = true := decide_eq_true c48
    clear c48
    have H' := Aside0.mk H
    clear H
    obtain ⟨Ao49, co49, eo49⟩ := Kd.R_slice HO_9.out
    subst eo49
    go_wp2
    go_loopg [80] k3 (fun kq v80 w' => ∃ (x9_4 : List (S28)) (x80_4 : Int), v80 = .int .i64 x80_4 ∧ Aside0 (hopmeshlaw49_InstallTogether.l2 kq a1 ji14 x9_4 x14_3 x15_3 x75_3 x75_3 (x9_3.length : Int) x80_4 1 1 (wrap64 (a1)) t357 x8_2 = some r) ∧ Aside0 (kq ≤ k3) ∧ Aside0 (Kd.R k28 28 w' w.heap.size (fun _ => True) (.slice Ao49 x9_3.length co49) x9_4) ∧ Aside0 (Kd.R Kd.bool 4 w' w.heap.size (fun _ => True) v360 x14_3) ∧ Aside0 (Kd.Q k47 47 w' w.heap.size (fun _ => True) u15 x15_3) ∧ Aside0 (Kd.R (Kd.int .i64) 3 w' w.heap.size (fun _ => True) (.slice Ao42 x8_2.length co42) x8_2) ∧ Aside0 (w'.heap[gb358]? = some (.cells #[.int .i64 1, .int .i64 1, .int .i64 (wrap64 (a1)), .string t357, (.slice Ao42 x8_2.length co42)] 36 (0, 0))) ∧ Aside0 (Below w.heap.size w w'))
    case atStart => exact ⟨(x9_3), (0), rfs, H', ⟨Nat.le_refl _⟩, roA HO_9, roA HO_14, ⟨by (with_reducible repeat (first | apply Kd.Q_alloc | apply Kd.Q_drewN | apply Kd.Q_drew)); exact HO_15.out⟩, roA HO_359004, bkA BK358, hbA HB⟩
    case round =>
     clear H'
     try clear c2
     try clear c11
     try clear c15
     try clear c15b0
     try clear c15b1
     try clear c16
     try clear c16b0
     try clear c16b1
     try clear c19
     try clear c19b0
     try clear c38
     try clear c38b0
     try clear c38b1
     try clear c39
     try clear c39b0
     try clear c39b1
     try clear c48
     try clear c48b0
     try clear hcz44_0
     try clear hcz44_1
     try clear hcz44_2
     try clear hcz44_3
     try clear hcz44_4
     try clear hfz44_0
     try clear hfz44_1
     try clear hfz44_2
     try clear hfz44_3
     try clear hfz44_4
     obtain ⟨x9_4, x80_4, rfl, HA, HK4, HO_9, HO_14, HO_15, HO_359004, BK358, HB⟩ := hrel
     have hl9_4 := (Kd.R_reads' HO_9.out).1
     rw [hl9_4] at HO_9
     (try simp only [hl9_4])
     (try simp only [hl9_4] at BK358)
     (try simp only [hl9_4] at HO_14)
     (try simp only [hl9_4] at HO_15)
     (try simp only [hl9_4] at HO_359004)
     cases gk with
     | zero => exact absurd HA.out (by simp [hopmeshlaw49_InstallTogether.l2])
     | succ k4 =>
      have H := HA.out
      clear HA
      simp only [hopmeshlaw49_InstallTogether.l2] at H
      by_cases c50 : x80_4 < (x9_3.length : Int)
      ·rw [if_pos c50] at H
       have c50b0 : decide (x80_4 < (x9_3.length : Int)) = true := decide_eq_true c50
       (try (have c50b0h := c50b0; simp only [hl9_4] at c50b0h))
       clear c50
       by_cases c51 : 0 ≤ x80_4
       ·rw [if_pos c51] at H
        have c51b0 : decide (0 ≤ x80_4) = true := decide_eq_true c51
        (try (have c51b0h := c51b0; simp only [hl9_4] at c51b0h))
        clear c51
        by_cases c52 : x80_4 < (x9_4.length : Int)
        ·rw [if_pos c52] at H
         have c52b0 : decide (x80_4 < (x9_4.length : Int)) = true := decide_eq_true c52
         (try (have c52b0h := c52b0; simp only [hl9_4] at c52b0h))
         clear c52
         replace H := Option.bind_eq_some_iff.mp H
         obtain ⟨⟨t366, t367, t368, t369, t370, t371, t372, t373⟩, A530, H⟩ := H
         (try dsimp only at H)
         have A53 := Aside0.mk A530
         clear A530
         by_cases c54 : t373 = 0
         ·rw [if_pos c54] at H
          have c54b0 : (t373 == 0) = true := beq_iff_eq.mpr c54
          have c54b1 : (t373 != 0) = false := bne_eq_false_iff_eq.mpr c54
          (try (have c54b0h := c54b0; simp only [hl9_4] at c54b0h))
          (try (have c54b1h := c54b1; simp only [hl9_4] at c54b1h))
          clear c54
          by_cases c55 : x80_4 < (x14_3.length : Int)
          ·rw [if_pos c55] at H
           have c55b0 : decide (x80_4 < (x14_3.length : Int)) = true := decide_eq_true c55
           (try (have c55b0h := c55b0; simp only [hl9_4] at c55b0h))
           clear c55
           obtain ⟨bq56, hbq56⟩ : ∃ b_ : Bool, b_ = (rdOf false x14_3 x80_4) := ⟨_, rfl⟩
           replace H : (if bq56 = true then (if (t372 != (x75_3 == (wrap64 (a1)))) = true then (none) else (hopmeshlaw49_InstallTogether.l2 k4 a1 ji14 (x9_4.set (x80_4 : Int).toNat (⟨t366, t367, t368, t369, t370, t371⟩ : S28)) x14_3 x15_3 x75_3 x75_3 (x9_3.length : Int) (wrap64 (x80_4 + 1)) 1 1 (wrap64 (a1)) t357 x8_2)) else (if (t372 != false) = true then (none) else (hopmeshlaw49_InstallTogether.l2 k4 a1 ji14 (x9_4.set (x80_4 : Int).toNat (⟨t366, t367, t368, t369, t370, t371⟩ : S28)) x14_3 x15_3 x75_3 x75_3 (x9_3.length : Int) (wrap64 (x80_4 + 1)) 1 1 (wrap64 (a1)) t357 x8_2))) = some r := by rw [← hbq56] at H; exact H
           have Nbq56 := Aside0.mk hbq56
           clear hbq56
           by_cases c57 : bq56 = true
           ·subst c57
            rw [if_pos rfl] at H
            by_cases c58 : (t372 != (x75_3 == (wrap64 (a1)))) = true
            ·rw [if_pos c58] at H
             exact absurd H (by simp)
            ·rw [if_neg c58] at H
             have c58b0 : (t372 != (x75_3 == (wrap64 (a1)))) = false := by simpa using c58
             (try (have c58b1 : decide (t372 = (x75_3 == (wrap64 (a1)))) = true := by simpa using c58))
             (try (have c58b2 : (t372 == (x75_3 == (wrap64 (a1)))) = true := by simpa using c58))
             (try (have c58b0h := c58b0; simp only [hl9_4] at c58b0h))
             (try (have c58b1h := c58b1; simp only [hl9_4] at c58b1h))
             (try (have c58b2h := c58b2; simp only [hl9_4] at c58b2h))
             clear c58
             obtain ⟨y376, hy376⟩ : ∃ y_ : List (S28), y_ = (x9_4.set (x80_4 : Int).toNat (⟨t366, t367, t368, t369, t370, t371⟩ : S28)) := ⟨_, rfl⟩
             replace H : (hopmeshlaw49_InstallTogether.l2 k4 a1 ji14 y376 x14_3 x15_3 x75_3 x75_3 (x9_3.length : Int) (wrap64 (x80_4 + 1)) 1 1 (wrap64 (a1)) t357 x8_2) = some r := by first | (rw [hy376]; with_reducible exact H) | (have H2_ := (Option.bind_some _ _).symm.trans H; rw [hy376]; with_reducible exact H2_) | (have H2_ := (Option.bind_some _ _).symm.trans H; with_reducible exact H2_) | with_reducible exact H | (rw [hy376]; exact H) | exact H
             have Ny376 := Aside0.mk hy376
             clear hy376
             have H' := Aside0.mk H
             clear H
             have p365 : 0 ≤ (x80_4 : Int) := pos_
             have q365 : x80_4 < (x9_4.length : Int) := pos_
             obtain ⟨ad365, e365, hx365_0, hx365_1, hx365_2, hx365_3, hx365_4, hx365_5⟩ := at_T28 (Kd.R_reads' HO_9.out).2.2 x80_4 p365 q365
             (try rw [← Nbq56.out] at hx365_2)
             cases e365
             replace p365 := eq_true p365
             replace q365 := eq_true q365
             go_wp2_with (first | ((with_reducible refine gate_callee (f := 15) rfl ?_); refine goesL_ (some 89) rfl rfl Try.func15 (by kernel_rfl) rfl #[.agg #[.string ((rd_T28 x9_4 x80_4).f0), .string ((rd_T28 x9_4 x80_4).f1), .bool ((rd_T28 x9_4 x80_4).f2), .string ((rd_T28 x9_4 x80_4).f3), .int .i64 ((rd_T28 x9_4 x80_4).f4), .int .i64 ((rd_T28 x9_4 x80_4).f5)], .int .i64 x75_3] rfl sma ?_; (with_reducible refine (install_Step.calls k4 ((rd_T28 x9_4 x80_4).f0) ((rd_T28 x9_4 x80_4).f1) ((rd_T28 x9_4 x80_4).f2) ((rd_T28 x9_4 x80_4).f3) ((rd_T28 x9_4 x80_4).f4) ((rd_T28 x9_4 x80_4).f5) x75_3 t366 t367 t368 t369 t370 t371 t372 t373 _ A53.out).mono ?_); rintro e w60 ⟨rfl, hb⟩; refine ⟨_, rfl, ?_⟩; replace HO_9 := rB HO_9 hb; replace HO_14 := rB HO_14 hb; replace HO_15 := Aside0.mk (Kd.Q_below (by (with_reducible repeat (first | apply Kd.Q_alloc | apply Kd.Q_drewN | apply Kd.Q_drew)); exact HO_15.out) hb); replace HO_359004 := rB HO_359004 hb; replace BK358 := bkB BK358 hb; replace HB := hbS HB hb; (try clear hb); (try clear hb2); (try clear hk); (try clear hi)) | ((with_reducible refine gate_dst (N := 18) rfl ?_); (try (refine gate_guard (by rfl) ?_; dsimp only)); refine boxE 18 #[.string (⟨#[]⟩ : ByteArray), .string (⟨#[]⟩ : ByteArray), .bool false, .string (⟨#[]⟩ : ByteArray), .int .i64 0, .int .i64 0] 28 ?_; intro gb374 hg w61 hbox hb; replace HO_9 := Aside0.mk (Kd.R_below (Kd.R_elderB (ro HO_9) gb374 (Nat.le_of_eq hg.symm)) hb); replace HO_14 := rB HO_14 hb; replace HO_15 := Aside0.mk (Kd.Q_below (by (with_reducible repeat (first | apply Kd.Q_alloc | apply Kd.Q_drewN | apply Kd.Q_drew)); exact HO_15.out) hb); replace HO_359004 := rB HO_359004 hb; have BK374 := Aside0.mk (hbox); have GW374 := gw hg HB; have GE374 := gw hg HB; replace HB := hbS HB hb; have NB358_374 := nbl hg BK358; have NB374_358 := nbg hg BK358; replace BK358 := bkB BK358 hb; clear hb hbox hg; have hnb62 := NB374_358.out; have hnc62 := NB358_374.out; obtain ⟨z0, z1, z2, z3, z4, z5, y0, y1, y2, y3, y4, y5⟩ := bc6 BK374) | ((with_reducible refine gate_store (t := 28) (p := 18) rfl ?_); refine store_event (t := 28) (p := 18) (v := ?vo_w64) (w1 := ((((((w61.setCell ⟨gb374, 0, none⟩ (.string t366)).setCell ⟨gb374, 1, none⟩ (.string t367)).setCell ⟨gb374, 2, none⟩ (.bool t368)).setCell ⟨gb374, 3, none⟩ (.string t369)).setCell ⟨gb374, 4, none⟩ (.int .i64 t370)).setCell ⟨gb374, 5, none⟩ (.int .i64 t371))) ?hg ?ho ?hn ?hr ?_; (case ho => rfl); (case hg => rfl); (case hn => rfl); (case hr => first | (go_simp; done) | (go_simp; rfl)); intro w64 hw; have n0_ : Aside0 (Kd.R k28 28 w64 w.heap.size (fun k_ => k_ ≠ gb374) (.slice (some ad365) x9_4.length co49) x9_4) := ⟨(by rw [hw]; exact (by (with_reducible repeat (first | apply Kd.R_alloc | apply Kd.R_drewN | apply Kd.R_drew)); exact Kd.R_mono (Kd.R_far (p := ⟨gb374, 5, none⟩) (Kd.R_far (p := ⟨gb374, 4, none⟩) (Kd.R_far (p := ⟨gb374, 3, none⟩) (Kd.R_far (p := ⟨gb374, 2, none⟩) (Kd.R_far (p := ⟨gb374, 1, none⟩) (Kd.R_far (p := ⟨gb374, 0, none⟩) (Kd.R_mono HO_9.out (fun k_ hk => (⟨hk, hk.2⟩ : _ ∧ k_ ≠ gb374))) (fun _ hk => hk.2) (.string t366)) (fun _ hk => hk.2) (.string t367)) (fun _ hk => hk.2) (.bool t368)) (fun _ hk => hk.2) (.string t369)) (fun _ hk => hk.2) (.int .i64 t370)) (fun _ hk => hk.2) (.int .i64 t371)) (fun _ hk => hk.1.2)))⟩; have n1_ : Aside0 (Kd.R Kd.bool 4 w64 w.heap.size (fun _ => True) v360 x14_3) := ⟨(by rw [hw]; exact (Kd.R_mono (rty (rfo HO_14) BK374) (fun _ hk => trivial)))⟩; have n2_ : Aside0 (Kd.Q k47 47 w64 w.heap.size (fun _ => True) u15 x15_3) := ⟨(by rw [hw]; exact (by (with_reducible repeat (first | apply Kd.Q_alloc | apply Kd.Q_drewN | apply Kd.Q_drew)); exact Kd.Q_mono (Kd.Q_far (p := ⟨gb374, 5, none⟩) (Kd.Q_far (p := ⟨gb374, 4, none⟩) (Kd.Q_far (p := ⟨gb374, 3, none⟩) (Kd.Q_far (p := ⟨gb374, 2, none⟩) (Kd.Q_far (p := ⟨gb374, 1, none⟩) (Kd.Q_far (p := ⟨gb374, 0, none⟩) (Kd.Q_types HO_15.out BK374.out (by decide)) (fun _ hk => hk.2) (.string t366)) (fun _ hk => hk.2) (.string t367)) (fun _ hk => hk.2) (.bool t368)) (fun _ hk => hk.2) (.string t369)) (fun _ hk => hk.2) (.int .i64 t370)) (fun _ hk => hk.2) (.int .i64 t371)) (fun _ hk => trivial)))⟩; have n3_ : Aside0 (Kd.R (Kd.int .i64) 3 w64 w.heap.size (fun _ => True) (.slice Ao42 x8_2.length co42) x8_2) := ⟨(by rw [hw]; exact (Kd.R_mono (rty (rfo HO_359004) BK374) (fun _ hk => trivial)))⟩; have n4_ := bsw BK358 hw; have n5_ : Aside0 (w64.heap[gb374]? = some (.cells #[.string t366, .string t367, .bool t368, .string t369, .int .i64 t370, .int .i64 t371] 28 (0, 0))) := ⟨(by rw [hw]; exact (bkp BK374))⟩; have n6_ := hsw HB hw; clear hw; clear HO_9; clear HO_14; clear HO_15; clear HO_359004; clear BK358; clear BK374; clear HB; have HO_9 := n0_; have HO_14 := n1_; have HO_15 := n2_; have HO_359004 := n3_; have BK358 := n4_; have BK374 := n5_; have HB := n6_; clear n0_ n1_ n2_ n3_ n4_ n5_ n6_; obtain ⟨Ao65, co65, eo65⟩ := Kd.R_slice HO_14.out; subst eo65; have p375 : 0 ≤ (x80_4 : Int) := pos_; have q375 : x80_4 < (x14_3.length : Int) := pos_; obtain ⟨ad375, e375, hx375_0⟩ := Kd.at_bool (Kd.R_reads' HO_14.out).2.2 x80_4 p375 q375; (try rw [← Nbq56.out] at hx375_0); cases e375; replace p375 := eq_true p375; replace q375 := eq_true q375; obtain ⟨z0, z1, z2, z3, z4, z5, y0, y1, y2, y3, y4, y5⟩ := bc6 BK374; have p59 : 0 ≤ (x80_4 : Int) := pos_; have q59 : (x80_4 : Int) < ((x9_4.length : Int) : Int) := pos_; obtain ⟨go59, co59, eo59, gb59, gl59, cl59, HG59⟩ := Kd.R_form HO_9.out (by omega); (first | cases eo59 | (injection eo59 with ea_ en_ ec_; (first | subst ea_ | (injection ea_ with ea_; subst ea_)); subst ec_; clear en_)); have GB59 := Aside0.mk gb59; have GG59 := Aside0.mk HG59; clear gb59 gl59 HG59; (first | simp only [add_plain] at hx365_0 | skip); (first | simp only [add_plain] at hx365_1 | skip); (first | simp only [add_plain] at hx365_2 | skip); (first | simp only [add_plain] at hx365_3 | skip); (first | simp only [add_plain] at hx365_4 | skip); (first | simp only [add_plain] at hx365_5 | skip); obtain ⟨ce59, hcl59, hM59, hcc59, hfr59⟩ := Kd.R_elem HO_9.out z28 (x80_4 : Int) p59 q59; obtain rfl := k28_openM hM59; have hx59_0 : w64.cell? ⟨go59, (x80_4 : Int).toNat * 6, none⟩ = some (.string ((rd_T28 x9_4 x80_4).f0)) := hcc59 0 _ rfl; have hx59_1 : w64.cell? ⟨go59, (x80_4 : Int).toNat * 6 + 1, none⟩ = some (.string ((rd_T28 x9_4 x80_4).f1)) := hcc59 1 _ rfl; have hx59_2 : w64.cell? ⟨go59, (x80_4 : Int).toNat * 6 + 2, none⟩ = some (.bool ((rd_T28 x9_4 x80_4).f2)) := hcc59 2 _ rfl; have hx59_3 : w64.cell? ⟨go59, (x80_4 : Int).toNat * 6 + 3, none⟩ = some (.string ((rd_T28 x9_4 x80_4).f3)) := hcc59 3 _ rfl; have hx59_4 : w64.cell? ⟨go59, (x80_4 : Int).toNat * 6 + 4, none⟩ = some (.int .i64 ((rd_T28 x9_4 x80_4).f4)) := hcc59 4 _ rfl; have hx59_5 : w64.cell? ⟨go59, (x80_4 : Int).toNat * 6 + 5, none⟩ = some (.int .i64 ((rd_T28 x9_4 x80_4).f5)) := hcc59 5 _ rfl; have hf59_0 : w64.frozen? ⟨go59, (x80_4 : Int).toNat * 6, none⟩ = false := hfr59 0; have hf59_1 : w64.frozen? ⟨go59, (x80_4 : Int).toNat * 6 + 1, none⟩ = false := hfr59 1; have hf59_2 : w64.frozen? ⟨go59, (x80_4 : Int).toNat * 6 + 2, none⟩ = false := hfr59 2; have hf59_3 : w64.frozen? ⟨go59, (x80_4 : Int).toNat * 6 + 3, none⟩ = false := hfr59 3; have hf59_4 : w64.frozen? ⟨go59, (x80_4 : Int).toNat * 6 + 4, none⟩ = false := hfr59 4; have hf59_5 : w64.frozen? ⟨go59, (x80_4 : Int).toNat * 6 + 5, none⟩ = false := hfr59 5; clear hcl59 hcc59 hfr59 hM59; replace p59 := eq_true p59; replace q59 := eq_true q59; have HX67 := Aside0.mk (show Kd.R k28 28 w64 w.heap.size (fun k_ => k_ ≠ gb374) (.slice (some ⟨go59, 0, none⟩) x9_4.length co49) x9_4 from (ro HO_9)); obtain ⟨ce67, hcl67, hM67, hcc67, hfr67⟩ := Kd.R_elem HX67.out z28 (x80_4 : Int) (pos_) (by have h_ : (x80_4 : Int) < ((x9_4.length : Int) : Int) := pos_; first | exact h_ | (have e_ := (Kd.R_reads' HO_9.out).1; omega) | simpa using h_); obtain rfl := k28_openM hM67; have HP67 := Kd.R_seg HX67.out (x80_4 : Int) (pos_) (by have h_ : (x80_4 : Int) < ((x9_4.length : Int) : Int) := pos_; first | exact h_ | (have e_ := (Kd.R_reads' HO_9.out).1; omega) | simpa using h_) (seg := [.string t366, .string t367, .bool t368, .string t369, .int .i64 t370, .int .i64 t371]) (j := 0) hcl67 hcc67 (show 6 ≤ 6 from by decide) (x' := (⟨t366, t367, t368, t369, t370, t371⟩ : S28)) (k28_mkM _ _ _ (⟨t366, t367, t368, t369, t370, t371⟩ : S28) ) (fun _ hk => hk); have hx67_0 := hcc67 0 _ rfl; (try simp only [show (k28).sz = 6 from rfl, Nat.mul_one, Nat.add_zero] at hx67_0); have hf67_0 := hfr67 0; (try simp only [show (k28).sz = 6 from rfl, Nat.mul_one, Nat.add_zero] at hf67_0); have hx67_1 := hcc67 1 _ rfl; (try simp only [show (k28).sz = 6 from rfl, Nat.mul_one, Nat.add_zero] at hx67_1); have hf67_1 := hfr67 1; (try simp only [show (k28).sz = 6 from rfl, Nat.mul_one, Nat.add_zero] at hf67_1); have hx67_2 := hcc67 2 _ rfl; (try simp only [show (k28).sz = 6 from rfl, Nat.mul_one, Nat.add_zero] at hx67_2); have hf67_2 := hfr67 2; (try simp only [show (k28).sz = 6 from rfl, Nat.mul_one, Nat.add_zero] at hf67_2); have hx67_3 := hcc67 3 _ rfl; (try simp only [show (k28).sz = 6 from rfl, Nat.mul_one, Nat.add_zero] at hx67_3); have hf67_3 := hfr67 3; (try simp only [show (k28).sz = 6 from rfl, Nat.mul_one, Nat.add_zero] at hf67_3); have hx67_4 := hcc67 4 _ rfl; (try simp only [show (k28).sz = 6 from rfl, Nat.mul_one, Nat.add_zero] at hx67_4); have hf67_4 := hfr67 4; (try simp only [show (k28).sz = 6 from rfl, Nat.mul_one, Nat.add_zero] at hf67_4); have hx67_5 := hcc67 5 _ rfl; (try simp only [show (k28).sz = 6 from rfl, Nat.mul_one, Nat.add_zero] at hx67_5); have hf67_5 := hfr67 5; (try simp only [show (k28).sz = 6 from rfl, Nat.mul_one, Nat.add_zero] at hf67_5); clear hcl67 hcc67 hfr67 hM67) | ((with_reducible refine gate_store (t := 28) (p := 112) rfl ?_); refine store_event (t := 28) (p := 112) (v := ?vo_w68) (w1 := ((((((w64.setCell ⟨go59, (x80_4 : Int).toNat * 6, none⟩ (.string t366)).setCell ⟨go59, (x80_4 : Int).toNat * 6 + 1, none⟩ (.string t367)).setCell ⟨go59, (x80_4 : Int).toNat * 6 + 2, none⟩ (.bool t368)).setCell ⟨go59, (x80_4 : Int).toNat * 6 + 3, none⟩ (.string t369)).setCell ⟨go59, (x80_4 : Int).toNat * 6 + 4, none⟩ (.int .i64 t370)).setCell ⟨go59, (x80_4 : Int).toNat * 6 + 5, none⟩ (.int .i64 t371))) ?hg ?ho ?hn ?hr ?_; (case ho => rfl); (case hg => rfl); (case hn => rfl); (case hr => first | (go_simp; done) | (go_simp; rfl)); intro w68 hw; have hg : w64.grownBy w68 (some go59) := (by rw [hw]; exact HP67.2); have hp_ : Kd.R k28 28 w68 w.heap.size (fun k_ => k_ ≠ gb374) (.slice (some ⟨go59, 0, none⟩) x9_4.length co49) y376 := (by rw [hw, Ny376.out]; exact HP67.1); clear HP67; replace HO_14 := Aside0.mk (Kd.R_over' (v := (.slice (some ⟨go59, 0, none⟩) x9_4.length co49)) (ro HO_14) (Kd.R_typed HO_9.out) (by decide) hg); replace HO_15 := Aside0.mk (Kd.Q_over' (v := (.slice (some ⟨go59, 0, none⟩) x9_4.length co49)) (by (with_reducible repeat (first | apply Kd.Q_alloc | apply Kd.Q_drewN | apply Kd.Q_drew)); exact HO_15.out) (Kd.R_typed HO_9.out) (by decide) hg); replace HO_359004 := Aside0.mk (Kd.R_over' (v := (.slice (some ⟨go59, 0, none⟩) x9_4.length co49)) (ro HO_359004) (Kd.R_typed HO_9.out) (by decide) hg); replace BK358 := Aside0.mk (blk_grown (bk BK358) hg (Kd.R_ne HO_9.out BK358.out (by decide))); replace BK374 := Aside0.mk (blk_grown (bk BK374) hg (Kd.R_away HO_9.out (fun _ hk => hk))); replace HO_9 := Aside0.mk (hp_); replace HB := Aside0.mk ((by rw [hw]; exact below_set (below_set (below_set (below_set (below_set (below_set (HB.out) GB59.out) GB59.out) GB59.out) GB59.out) GB59.out) GB59.out : Below w.heap.size w w68)); clear hg hw hp_))
             (try simp only [← hl9_4])
             go_roundg k4
             case measure => have := HJ3.out; have := HK2.out; have := HK3.out; have := HK4.out; omega
             case rel => exact ⟨(y376), (wrap64 (x80_4 + 1)), rfs, H', ⟨by have := HJ3.out; have := HK2.out; have := HK3.out; have := HK4.out; omega⟩, ⟨by (try simp only [hl9_4]); (with_reducible repeat (first | apply Kd.R_alloc | apply Kd.R_drewN | apply Kd.R_drew)); exact Kd.R_mono HO_9.out (fun _ hk => trivial)⟩, ⟨by (try simp only [hl9_4]); (with_reducible repeat (first | apply Kd.R_alloc | apply Kd.R_drewN | apply Kd.R_drew)); exact HO_14.out⟩, ⟨by (try simp only [hl9_4]); (with_reducible repeat (first | apply Kd.Q_alloc | apply Kd.Q_drewN | apply Kd.Q_drew)); exact HO_15.out⟩, ⟨by (try simp only [hl9_4]); (with_reducible repeat (first | apply Kd.R_alloc | apply Kd.R_drewN | apply Kd.R_drew)); exact HO_359004.out⟩, ⟨by (try simp only [hl9_4]); (with_reducible repeat (first | refine blk_drewN ?_ _ | refine blk_drew ?_ | refine blk_alloc ?_ _)); exact BK358.out⟩, hbA HB⟩
           ·replace c57 := Bool.eq_false_iff.mpr c57
            subst c57
            rw [if_neg (show ¬ (false = true) by decide)] at H
            by_cases c69 : (t372 != false) = true
            ·rw [if_pos c69] at H
             exact absurd H (by simp)
            ·rw [if_neg c69] at H
             have c69b0 : (t372 != false) = false := by simpa using c69
             (try (have c69b1 : decide (t372 = false) = true := by simpa using c69))
             (try (have c69b2 : (t372 == false) = true := by simpa using c69))
             (try (have c69b0h := c69b0; simp only [hl9_4] at c69b0h))
             (try (have c69b1h := c69b1; simp only [hl9_4] at c69b1h))
             (try (have c69b2h := c69b2; simp only [hl9_4] at c69b2h))
             clear c69
             obtain ⟨y377, hy377⟩ : ∃ y_ : List (S28), y_ = (x9_4.set (x80_4 : Int).toNat (⟨t366, t367, t368, t369, t370, t371⟩ : S28)) := ⟨_, rfl⟩
             replace H : (hopmeshlaw49_InstallTogether.l2 k4 a1 ji14 y377 x14_3 x15_3 x75_3 x75_3 (x9_3.length : Int) (wrap64 (x80_4 + 1)) 1 1 (wrap64 (a1)) t357 x8_2) = some r := by first | (rw [hy377]; with_reducible exact H) | (have H2_ := (Option.bind_some _ _).symm.trans H; rw [hy377]; with_reducible exact H2_) | (have H2_ := (Option.bind_some _ _).symm.trans H; with_reducible exact H2_) | with_reducible exact H | (rw [hy377]; exact H) | exact H
             have Ny377 := Aside0.mk hy377
             clear hy377
             have H' := Aside0.mk H
             clear H
             have p365 : 0 ≤ (x80_4 : Int) := pos_
             have q365 : x80_4 < (x9_4.length : Int) := pos_
             obtain ⟨ad365, e365, hx365_0, hx365_1, hx365_2, hx365_3, hx365_4, hx365_5⟩ := at_T28 (Kd.R_reads' HO_9.out).2.2 x80_4 p365 q365
             (try rw [← Nbq56.out] at hx365_2)
             cases e365
             replace p365 := eq_true p365
             replace q365 := eq_true q365
             go_wp2_with (first | ((with_reducible refine gate_callee (f := 15) rfl ?_); refine goesL_ (some 89) rfl rfl Try.func15 (by kernel_rfl) rfl #[.agg #[.string ((rd_T28 x9_4 x80_4).f0), .string ((rd_T28 x9_4 x80_4).f1), .bool ((rd_T28 x9_4 x80_4).f2), .string ((rd_T28 x9_4 x80_4).f3), .int .i64 ((rd_T28 x9_4 x80_4).f4), .int .i64 ((rd_T28 x9_4 x80_4).f5)], .int .i64 x75_3] rfl sma ?_; (with_reducible refine (install_Step.calls k4 ((rd_T28 x9_4 x80_4).f0) ((rd_T28 x9_4 x80_4).f1) ((rd_T28 x9_4 x80_4).f2) ((rd_T28 x9_4 x80_4).f3) ((rd_T28 x9_4 x80_4).f4) ((rd_T28 x9_4 x80_4).f5) x75_3 t366 t367 t368 t369 t370 t371 t372 t373 _ A53.out).mono ?_); rintro e w71 ⟨rfl, hb⟩; refine ⟨_, rfl, ?_⟩; replace HO_9 := rB HO_9 hb; replace HO_14 := rB HO_14 hb; replace HO_15 := Aside0.mk (Kd.Q_below (by (with_reducible repeat (first | apply Kd.Q_alloc | apply Kd.Q_drewN | apply Kd.Q_drew)); exact HO_15.out) hb); replace HO_359004 := rB HO_359004 hb; replace BK358 := bkB BK358 hb; replace HB := hbS HB hb; (try clear hb); (try clear hb2); (try clear hk); (try clear hi)) | ((with_reducible refine gate_dst (N := 18) rfl ?_); (try (refine gate_guard (by rfl) ?_; dsimp only)); refine boxE 18 #[.string (⟨#[]⟩ : ByteArray), .string (⟨#[]⟩ : ByteArray), .bool false, .string (⟨#[]⟩ : ByteArray), .int .i64 0, .int .i64 0] 28 ?_; intro gb374 hg w72 hbox hb; replace HO_9 := Aside0.mk (Kd.R_below (Kd.R_elderB (ro HO_9) gb374 (Nat.le_of_eq hg.symm)) hb); replace HO_14 := rB HO_14 hb; replace HO_15 := Aside0.mk (Kd.Q_below (by (with_reducible repeat (first | apply Kd.Q_alloc | apply Kd.Q_drewN | apply Kd.Q_drew)); exact HO_15.out) hb); replace HO_359004 := rB HO_359004 hb; have BK374 := Aside0.mk (hbox); have GW374 := gw hg HB; have GE374 := gw hg HB; replace HB := hbS HB hb; have NB358_374 := nbl hg BK358; have NB374_358 := nbg hg BK358; replace BK358 := bkB BK358 hb; clear hb hbox hg; have hnb73 := NB374_358.out; have hnc73 := NB358_374.out; obtain ⟨z0, z1, z2, z3, z4, z5, y0, y1, y2, y3, y4, y5⟩ := bc6 BK374) | ((with_reducible refine gate_store (t := 28) (p := 18) rfl ?_); refine store_event (t := 28) (p := 18) (v := ?vo_w75) (w1 := ((((((w72.setCell ⟨gb374, 0, none⟩ (.string t366)).setCell ⟨gb374, 1, none⟩ (.string t367)).setCell ⟨gb374, 2, none⟩ (.bool t368)).setCell ⟨gb374, 3, none⟩ (.string t369)).setCell ⟨gb374, 4, none⟩ (.int .i64 t370)).setCell ⟨gb374, 5, none⟩ (.int .i64 t371))) ?hg ?ho ?hn ?hr ?_; (case ho => rfl); (case hg => rfl); (case hn => rfl); (case hr => first | (go_simp; done) | (go_simp; rfl)); intro w75 hw; have n0_ : Aside0 (Kd.R k28 28 w75 w.heap.size (fun k_ => k_ ≠ gb374) (.slice (some ad365) x9_4.length co49) x9_4) := ⟨(by rw [hw]; exact (by (with_reducible repeat (first | apply Kd.R_alloc | apply Kd.R_drewN | apply Kd.R_drew)); exact Kd.R_mono (Kd.R_far (p := ⟨gb374, 5, none⟩) (Kd.R_far (p := ⟨gb374, 4, none⟩) (Kd.R_far (p := ⟨gb374, 3, none⟩) (Kd.R_far (p := ⟨gb374, 2, none⟩) (Kd.R_far (p := ⟨gb374, 1, none⟩) (Kd.R_far (p := ⟨gb374, 0, none⟩) (Kd.R_mono HO_9.out (fun k_ hk => (⟨hk, hk.2⟩ : _ ∧ k_ ≠ gb374))) (fun _ hk => hk.2) (.string t366)) (fun _ hk => hk.2) (.string t367)) (fun _ hk => hk.2) (.bool t368)) (fun _ hk => hk.2) (.string t369)) (fun _ hk => hk.2) (.int .i64 t370)) (fun _ hk => hk.2) (.int .i64 t371)) (fun _ hk => hk.1.2)))⟩; have n1_ : Aside0 (Kd.R Kd.bool 4 w75 w.heap.size (fun _ => True) v360 x14_3) := ⟨(by rw [hw]; exact (Kd.R_mono (rty (rfo HO_14) BK374) (fun _ hk => trivial)))⟩; have n2_ : Aside0 (Kd.Q k47 47 w75 w.heap.size (fun _ => True) u15 x15_3) := ⟨(by rw [hw]; exact (by (with_reducible repeat (first | apply Kd.Q_alloc | apply Kd.Q_drewN | apply Kd.Q_drew)); exact Kd.Q_mono (Kd.Q_far (p := ⟨gb374, 5, none⟩) (Kd.Q_far (p := ⟨gb374, 4, none⟩) (Kd.Q_far (p := ⟨gb374, 3, none⟩) (Kd.Q_far (p := ⟨gb374, 2, none⟩) (Kd.Q_far (p := ⟨gb374, 1, none⟩) (Kd.Q_far (p := ⟨gb374, 0, none⟩) (Kd.Q_types HO_15.out BK374.out (by decide)) (fun _ hk => hk.2) (.string t366)) (fun _ hk => hk.2) (.string t367)) (fun _ hk => hk.2) (.bool t368)) (fun _ hk => hk.2) (.string t369)) (fun _ hk => hk.2) (.int .i64 t370)) (fun _ hk => hk.2) (.int .i64 t371)) (fun _ hk => trivial)))⟩; have n3_ : Aside0 (Kd.R (Kd.int .i64) 3 w75 w.heap.size (fun _ => True) (.slice Ao42 x8_2.length co42) x8_2) := ⟨(by rw [hw]; exact (Kd.R_mono (rty (rfo HO_359004) BK374) (fun _ hk => trivial)))⟩; have n4_ := bsw BK358 hw; have n5_ : Aside0 (w75.heap[gb374]? = some (.cells #[.string t366, .string t367, .bool t368, .string t369, .int .i64 t370, .int .i64 t371] 28 (0, 0))) := ⟨(by rw [hw]; exact (bkp BK374))⟩; have n6_ := hsw HB hw; clear hw; clear HO_9; clear HO_14; clear HO_15; clear HO_359004; clear BK358; clear BK374; clear HB; have HO_9 := n0_; have HO_14 := n1_; have HO_15 := n2_; have HO_359004 := n3_; have BK358 := n4_; have BK374 := n5_; have HB := n6_; clear n0_ n1_ n2_ n3_ n4_ n5_ n6_; obtain ⟨Ao76, co76, eo76⟩ := Kd.R_slice HO_14.out; subst eo76; have p375 : 0 ≤ (x80_4 : Int) := pos_; have q375 : x80_4 < (x14_3.length : Int) := pos_; obtain ⟨ad375, e375, hx375_0⟩ := Kd.at_bool (Kd.R_reads' HO_14.out).2.2 x80_4 p375 q375; (try rw [← Nbq56.out] at hx375_0); cases e375; replace p375 := eq_true p375; replace q375 := eq_true q375; obtain ⟨z0, z1, z2, z3, z4, z5, y0, y1, y2, y3, y4, y5⟩ := bc6 BK374; have p70 : 0 ≤ (x80_4 : Int) := pos_; have q70 : (x80_4 : Int) < ((x9_4.length : Int) : Int) := pos_; obtain ⟨go70, co70, eo70, gb70, gl70, cl70, HG70⟩ := Kd.R_form HO_9.out (by omega); (first | cases eo70 | (injection eo70 with ea_ en_ ec_; (first | subst ea_ | (injection ea_ with ea_; subst ea_)); subst ec_; clear en_)); have GB70 := Aside0.mk gb70; have GG70 := Aside0.mk HG70; clear gb70 gl70 HG70; (first | simp only [add_plain] at hx365_0 | skip); (first | simp only [add_plain] at hx365_1 | skip); (first | simp only [add_plain] at hx365_2 | skip); (first | simp only [add_plain] at hx365_3 | skip); (first | simp only [add_plain] at hx365_4 | skip); (first | simp only [add_plain] at hx365_5 | skip); obtain ⟨ce70, hcl70, hM70, hcc70, hfr70⟩ := Kd.R_elem HO_9.out z28 (x80_4 : Int) p70 q70; obtain rfl := k28_openM hM70; have hx70_0 : w75.cell? ⟨go70, (x80_4 : Int).toNat * 6, none⟩ = some (.string ((rd_T28 x9_4 x80_4).f0)) := hcc70 0 _ rfl; have hx70_1 : w75.cell? ⟨go70, (x80_4 : Int).toNat * 6 + 1, none⟩ = some (.string ((rd_T28 x9_4 x80_4).f1)) := hcc70 1 _ rfl; have hx70_2 : w75.cell? ⟨go70, (x80_4 : Int).toNat * 6 + 2, none⟩ = some (.bool ((rd_T28 x9_4 x80_4).f2)) := hcc70 2 _ rfl; have hx70_3 : w75.cell? ⟨go70, (x80_4 : Int).toNat * 6 + 3, none⟩ = some (.string ((rd_T28 x9_4 x80_4).f3)) := hcc70 3 _ rfl; have hx70_4 : w75.cell? ⟨go70, (x80_4 : Int).toNat * 6 + 4, none⟩ = some (.int .i64 ((rd_T28 x9_4 x80_4).f4)) := hcc70 4 _ rfl; have hx70_5 : w75.cell? ⟨go70, (x80_4 : Int).toNat * 6 + 5, none⟩ = some (.int .i64 ((rd_T28 x9_4 x80_4).f5)) := hcc70 5 _ rfl; have hf70_0 : w75.frozen? ⟨go70, (x80_4 : Int).toNat * 6, none⟩ = false := hfr70 0; have hf70_1 : w75.frozen? ⟨go70, (x80_4 : Int).toNat * 6 + 1, none⟩ = false := hfr70 1; have hf70_2 : w75.frozen? ⟨go70, (x80_4 : Int).toNat * 6 + 2, none⟩ = false := hfr70 2; have hf70_3 : w75.frozen? ⟨go70, (x80_4 : Int).toNat * 6 + 3, none⟩ = false := hfr70 3; have hf70_4 : w75.frozen? ⟨go70, (x80_4 : Int).toNat * 6 + 4, none⟩ = false := hfr70 4; have hf70_5 : w75.frozen? ⟨go70, (x80_4 : Int).toNat * 6 + 5, none⟩ = false := hfr70 5; clear hcl70 hcc70 hfr70 hM70; replace p70 := eq_true p70; replace q70 := eq_true q70; have HX78 := Aside0.mk (show Kd.R k28 28 w75 w.heap.size (fun k_ => k_ ≠ gb374) (.slice (some ⟨go70, 0, none⟩) x9_4.length co49) x9_4 from (ro HO_9)); obtain ⟨ce78, hcl78, hM78, hcc78, hfr78⟩ := Kd.R_elem HX78.out z28 (x80_4 : Int) (pos_) (by have h_ : (x80_4 : Int) < ((x9_4.length : Int) : Int) := pos_; first | exact h_ | (have e_ := (Kd.R_reads' HO_9.out).1; omega) | simpa using h_); obtain rfl := k28_openM hM78; have HP78 := Kd.R_seg HX78.out (x80_4 : Int) (pos_) (by have h_ : (x80_4 : Int) < ((x9_4.length : Int) : Int) := pos_; first | exact h_ | (have e_ := (Kd.R_reads' HO_9.out).1; omega) | simpa using h_) (seg := [.string t366, .string t367, .bool t368, .string t369, .int .i64 t370, .int .i64 t371]) (j := 0) hcl78 hcc78 (show 6 ≤ 6 from by decide) (x' := (⟨t366, t367, t368, t369, t370, t371⟩ : S28)) (k28_mkM _ _ _ (⟨t366, t367, t368, t369, t370, t371⟩ : S28) ) (fun _ hk => hk); have hx78_0 := hcc78 0 _ rfl; (try simp only [show (k28).sz = 6 from rfl, Nat.mul_one, Nat.add_zero] at hx78_0); have hf78_0 := hfr78 0; (try simp only [show (k28).sz = 6 from rfl, Nat.mul_one, Nat.add_zero] at hf78_0); have hx78_1 := hcc78 1 _ rfl; (try simp only [show (k28).sz = 6 from rfl, Nat.mul_one, Nat.add_zero] at hx78_1); have hf78_1 := hfr78 1; (try simp only [show (k28).sz = 6 from rfl, Nat.mul_one, Nat.add_zero] at hf78_1); have hx78_2 := hcc78 2 _ rfl; (try simp only [show (k28).sz = 6 from rfl, Nat.mul_one, Nat.add_zero] at hx78_2); have hf78_2 := hfr78 2; (try simp only [show (k28).sz = 6 from rfl, Nat.mul_one, Nat.add_zero] at hf78_2); have hx78_3 := hcc78 3 _ rfl; (try simp only [show (k28).sz = 6 from rfl, Nat.mul_one, Nat.add_zero] at hx78_3); have hf78_3 := hfr78 3; (try simp only [show (k28).sz = 6 from rfl, Nat.mul_one, Nat.add_zero] at hf78_3); have hx78_4 := hcc78 4 _ rfl; (try simp only [show (k28).sz = 6 from rfl, Nat.mul_one, Nat.add_zero] at hx78_4); have hf78_4 := hfr78 4; (try simp only [show (k28).sz = 6 from rfl, Nat.mul_one, Nat.add_zero] at hf78_4); have hx78_5 := hcc78 5 _ rfl; (try simp only [show (k28).sz = 6 from rfl, Nat.mul_one, Nat.add_zero] at hx78_5); have hf78_5 := hfr78 5; (try simp only [show (k28).sz = 6 from rfl, Nat.mul_one, Nat.add_zero] at hf78_5); clear hcl78 hcc78 hfr78 hM78) | ((with_reducible refine gate_store (t := 28) (p := 112) rfl ?_); refine store_event (t := 28) (p := 112) (v := ?vo_w79) (w1 := ((((((w75.setCell ⟨go70, (x80_4 : Int).toNat * 6, none⟩ (.string t366)).setCell ⟨go70, (x80_4 : Int).toNat * 6 + 1, none⟩ (.string t367)).setCell ⟨go70, (x80_4 : Int).toNat * 6 + 2, none⟩ (.bool t368)).setCell ⟨go70, (x80_4 : Int).toNat * 6 + 3, none⟩ (.string t369)).setCell ⟨go70, (x80_4 : Int).toNat * 6 + 4, none⟩ (.int .i64 t370)).setCell ⟨go70, (x80_4 : Int).toNat * 6 + 5, none⟩ (.int .i64 t371))) ?hg ?ho ?hn ?hr ?_; (case ho => rfl); (case hg => rfl); (case hn => rfl); (case hr => first | (go_simp; done) | (go_simp; rfl)); intro w79 hw; have hg : w75.grownBy w79 (some go70) := (by rw [hw]; exact HP78.2); have hp_ : Kd.R k28 28 w79 w.heap.size (fun k_ => k_ ≠ gb374) (.slice (some ⟨go70, 0, none⟩) x9_4.length co49) y377 := (by rw [hw, Ny377.out]; exact HP78.1); clear HP78; replace HO_14 := Aside0.mk (Kd.R_over' (v := (.slice (some ⟨go70, 0, none⟩) x9_4.length co49)) (ro HO_14) (Kd.R_typed HO_9.out) (by decide) hg); replace HO_15 := Aside0.mk (Kd.Q_over' (v := (.slice (some ⟨go70, 0, none⟩) x9_4.length co49)) (by (with_reducible repeat (first | apply Kd.Q_alloc | apply Kd.Q_drewN | apply Kd.Q_drew)); exact HO_15.out) (Kd.R_typed HO_9.out) (by decide) hg); replace HO_359004 := Aside0.mk (Kd.R_over' (v := (.slice (some ⟨go70, 0, none⟩) x9_4.length co49)) (ro HO_359004) (Kd.R_typed HO_9.out) (by decide) hg); replace BK358 := Aside0.mk (blk_grown (bk BK358) hg (Kd.R_ne HO_9.out BK358.out (by decide))); replace BK374 := Aside0.mk (blk_grown (bk BK374) hg (Kd.R_away HO_9.out (fun _ hk => hk))); replace HO_9 := Aside0.mk (hp_); replace HB := Aside0.mk ((by rw [hw]; exact below_set (below_set (below_set (below_set (below_set (below_set (HB.out) GB70.out) GB70.out) GB70.out) GB70.out) GB70.out) GB70.out : Below w.heap.size w w79)); clear hg hw hp_))
             (try simp only [← hl9_4])
             go_roundg k4
             case measure => have := HJ3.out; have := HK2.out; have := HK3.out; have := HK4.out; omega
             case rel => exact ⟨(y377), (wrap64 (x80_4 + 1)), rfs, H', ⟨by have := HJ3.out; have := HK2.out; have := HK3.out; have := HK4.out; omega⟩, ⟨by (try simp only [hl9_4]); (with_reducible repeat (first | apply Kd.R_alloc | apply Kd.R_drewN | apply Kd.R_drew)); exact Kd.R_mono HO_9.out (fun _ hk => trivial)⟩, ⟨by (try simp only [hl9_4]); (with_reducible repeat (first | apply Kd.R_alloc | apply Kd.R_drewN | apply Kd.R_drew)); exact HO_14.out⟩, ⟨by (try simp only [hl9_4]); (with_reducible repeat (first | apply Kd.Q_alloc | apply Kd.Q_drewN | apply Kd.Q_drew)); exact HO_15.out⟩, ⟨by (try simp only [hl9_4]); (with_reducible repeat (first | apply Kd.R_alloc | apply Kd.R_drewN | apply Kd.R_drew)); exact HO_359004.out⟩, ⟨by (try simp only [hl9_4]); (with_reducible repeat (first | refine blk_drewN ?_ _ | refine blk_drew ?_ | refine blk_alloc ?_ _)); exact BK358.out⟩, hbA HB⟩
          ·rw [if_neg c55] at H
           exact absurd H (by simp)
         ·rw [if_neg c54] at H
          exact absurd H (by simp)
        ·rw [if_neg c52] at H
         exact absurd H (by simp)
       ·rw [if_neg c51] at H
        exact absurd H (by simp)
      ·rw [if_neg c50] at H
       have c50b0 : decide (x80_4 < (x9_3.length : Int)) = false := decide_eq_false c50
       (try (have c50b0h := c50b0; simp only [hl9_4] at c50b0h))
       clear c50
       have H' := Aside0.mk H
       clear H
       go_upto_block 6 with (fail)
       exact hopmeshlaw49_InstallTogether.part28 _ _ _ _ _ _ _ _ _ _ _ _ _ _ _ _ _ _ _ _ _ _ _ _ _ _ _ _ _ _ _ _ _ _ _ _ _ _ _ _ _ _ _ _ _ _ _ _ _ _ _ _ _ _ _ _ _ _ _ _ _ _ _ _ _ _ _ _ _ _ _ _ _ _ _ _ _ _ _ _ _ _ _ _ _ _ _ _ _ _ _ _ _ _ _ _ _ _ _ _ _ _ _ _ _ _ _ _ _ _ _ _ _ _ _ _ _ _ _ _ _ _ _ _ _ _ _ _ _ _ _ _ _ _ _ _ _ _ _ _ _ _ _ _ _ _ _ _ _ _ _ _ _ _ _ _ _ _ _ _ _ _ _ _ _ _ _ _ _ _ _ _ _ _ _ _ _ _ _ _ HJ3 hji14 hji14w HK2 GE358 z0 z1 z2 z3 z4 y0 y1 y2 y3 y4 HK3 HO_9 HO_14 HO_15 HO_359004 BK358 HB hl9_4 HK4 c50b0 c50b0h H' _ _ _ _ _ _ ‹_› ‹_› ‹_› (by kernel_rfl) (by kernel_rfl)
   ·rw [if_neg c48] at H
    have c48b0 : decide (x75_3 < 260) = false := decide_eq_false c48
    clear c48
    have H' := Aside0.mk H
    clear H
    obtain ⟨Ao173, co173, eo173⟩ := Kd.R_slice HO_9.out
    subst eo173
    go_upto_region 37 with (fail)
    exact hopmeshlaw49_InstallTogether.part37 _ _ _ _ _ _ _ _ _ _ _ _ _ _ _ _ _ _ _ _ _ _ _ _ _ _ _ _ _ _ _ _ _ _ _ _ _ _ _ _ _ _ _ _ _ _ _ _ _ _ _ _ _ _ _ _ _ _ _ _ _ _ _ _ _ _ _ _ _ _ _ _ _ _ _ _ _ _ _ _ _ _ _ _ _ _ _ _ _ _ _ _ _ _ _ _ _ _ _ _ _ _ _ _ _ _ _ _ _ _ _ _ _ _ _ _ _ _ _ _ _ _ _ _ _ _ _ _ _ _ _ _ _ _ _ _ _ _ _ _ _ _ _ _ _ _ _ _ _ _ _ _ _ _ _ _ _ _ _ _ _ _ _ _ _ _ _ _ _ _ _ _ _ _ _ _ _ _ _ _ _ _ HJ3 hji14 hji14w HK2 z0 z1 z2 z3 z4 y0 y1 y2 y3 y4 HO_14 HO_359004 BK358 HB HK3 c48b0 H' HO_9 _ _ _ _ _ ‹_› ‹_› (by kernel_rfl) (by kernel_rfl) (by kernel_rfl)
end Go.Proofs.Ytdigplhjfjchnaa.PQ
