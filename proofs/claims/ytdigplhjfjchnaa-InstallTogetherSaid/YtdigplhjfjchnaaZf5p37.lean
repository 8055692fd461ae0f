-- Printed by fprint.py and zip.py, programs of this session's, over the kit's print; Lean checks it.
import Derived.Test.YtdigplhjfjchnaaZ0
import Derived.Test.YtdigplhjfjchnaaZf11
import Derived.Test.YtdigplhjfjchnaaZf12
import Derived.Test.YtdigplhjfjchnaaZf14
import Derived.Test.YtdigplhjfjchnaaZf15
import Derived.Test.YtdigplhjfjchnaaZf10
import Derived.Test.YtdigplhjfjchnaaZf17
import Derived.Test.YtdigplhjfjchnaaZT
import Derived.Test.YtdigplhjfjchnaaZf5d
import Derived.Test.YtdigplhjfjchnaaZC2
namespace Go.Proofs.Ytdigplhjfjchnaa.PQ
open Go.RowKit Go.Proofs.YtdigplhjfjchnaaW.PrintWords Go.Proofs.YtdigplhjfjchnaaW.PrintLast Go.Proofs.YtdigplhjfjchnaaW.PrintMore
attribute [local go_sem] max2_int min2_int max_two min_two max_three min_three max_four min_four   -- for this text's walks alone
set_option linter.unusedVariables false
set_option linter.unusedSimpArgs false
def hopmeshlaw49_InstallTogether.T40_part37 : Bool × List (List Nat × List Nat) := (true, [([], []), ([0], [0]), ([], []), ([1, 2], [1, 2]), ([], []), ([], []), ([4, 5], [4, 5]), ([6], [6]), ([3, 7], [3, 7]), ([8, 2], [8]), ([9], [9]), ([10, 9], [9, 10]), ([9, 11], [9, 11])])
def hopmeshlaw49_InstallTogether.B40_part37 : List Nat := [0, 1, 0, 7, 0, 0, 48, 112, 255, 511, 1023, 2047, 4095]
theorem hopmeshlaw49_InstallTogether.tab40_part37 : rtab .any (opsOf Try.f5 40) = hopmeshlaw49_InstallTogether.T40_part37 := by kernel_rfl
theorem hopmeshlaw49_InstallTogether.bits40_part37 : waitsOk hopmeshlaw49_InstallTogether.T40_part37.2 hopmeshlaw49_InstallTogether.B40_part37 = true := by kernel_rfl
set_option maxHeartbeats 8000000 in
set_option maxRecDepth 100000 in
theorem hopmeshlaw49_InstallTogether.part37 (k : Nat) (a0 : Int) (a1 : Int) (A2 : Option Addr) (c2 : Nat) (l2 : List S47) (r : Bool) (w : World) (kj3 : Nat) (ji14 : Int) (x8_2 : List Int) (x45_2 : Int) (k2 : Nat) (t357 : ByteArray) (Ao42 : Option Addr) (co42 : Nat) (gb358 : Nat) (w43 : World) (v360 : Value) (wr : World) (x9_3 : List S28) (x14_3 : List Bool) (x75_3 : Int) (k3 : Nat) (Ao173 : Option Addr) (co173 : Nat) (U6 U10 U11 U12 U15 U16 U17 U18 U19 U20 U21 U22 U23 U26 U27 U28 U29 U30 U31 U32 U33 U34 U35 U37 U47 U48 U49 U50 U51 U52 U53 U54 U55 U56 U57 U58 U59 U60 U61 U62 U63 U64 U65 U74 U77 U78 U79 U80 U81 U82 U83 U84 U85 U86 U87 U88 U89 U90 U91 U92 U93 U94 U95 U96 U97 U98 U99 U100 U101 U102 U103 U104 U105 U106 U107 U108 U109 U110 U111 U112 U113 U114 U115 U116 U117 U118 U119 U120 U121 U122 U123 U124 U125 U126 U127 U128 U129 U130 U131 U132 U133 U134 U135 U136 U137 U138 U139 U140 U141 U142 U143 U144 U145 U146 U147 U148 U149 U150 U151 U152 U153 U154 U155 U156 U157 U158 U159 U160 U161 U162 U163 U164 U165 U166 U167 U168 U169 U170 U174 U175 U176 U177 U178 U179 U180 U181 U182 U183 U184 U185 U186 U187 U188 U189 U190 U191 : Value) (HJ3 : Aside0 (kj3 + (1 : Nat) ≤ k)) (hji14 : wrap64 ((1 : Int) + wrap64 (Int.tmod a0 (8 : Int))) = ji14) (hji14w : IntKind.wrap IntKind.i64 ((1 : Int) + wrap64 (Int.tmod a0 (8 : Int))) = ji14) (HK2 : Aside0 (k2 + (1 : Nat) ≤ kj3)) (z0 : World.cell? w43 { block := gb358, off := (0 : Nat) } = some (Value.int IntKind.i64 (0 : Int))) (z1 : World.cell? w43 { block := gb358, off := (1 : Nat) } = some (Value.int IntKind.i64 (0 : Int))) (z2 : World.cell? w43 { block := gb358, off := (2 : Nat) } = some (Value.int IntKind.i64 (0 : Int))) (z3 : World.cell? w43 { block := gb358, off := (3 : Nat) } = some (Value.string { data := #[] })) (z4 : World.cell? w43 { block := gb358, off := (4 : Nat) } = some (Value.slice none (0 : Nat) (0 : Nat))) (y0 : World.frozen? w43 { block := gb358, off := (0 : Nat) } = false) (y1 : World.frozen? w43 { block := gb358, off := (1 : Nat) } = false) (y2 : World.frozen? w43 { block := gb358, off := (2 : Nat) } = false) (y3 : World.frozen? w43 { block := gb358, off := (3 : Nat) } = false) (y4 : World.frozen? w43 { block := gb358, off := (4 : Nat) } = false) (HO_14 : Aside0 (Kd.R Kd.bool (4 : Nat) wr (Array.size (World.heap w)) (fun (x : Nat) => True) v360 x14_3)) (HO_359004 : Aside0 (Kd.R (Kd.int IntKind.i64) (3 : Nat) wr (Array.size (World.heap w)) (fun (x : Nat) => True) (Value.slice Ao42 (List.length x8_2) co42) x8_2)) (BK358 : Aside0 ((World.heap wr)[gb358]? = some (Obj.cells #[Value.int IntKind.i64 (1 : Int), Value.int IntKind.i64 (1 : Int), Value.int IntKind.i64 (wrap64 a1), Value.string t357, Value.slice Ao42 (List.length x8_2) co42] (36 : TypeId)))) (HB : Aside0 (Below (Array.size (World.heap w)) w wr)) (HK3 : Aside0 (k3 + (1 : Nat) ≤ k2)) (c48b0 : decide (x75_3 < (260 : Int)) = false) (H' : Aside0 (l4 k3 x14_3 x9_3 (↑(List.length x9_3) : Int) (0 : Int) = some r)) (HO_9 : Aside0 (Kd.R k28 (28 : Nat) wr (Array.size (World.heap w)) (fun (x : Nat) => True) (Value.slice Ao173 (List.length x9_3) co173) x9_3)) (z383_ : Act → World → Prop) (z381_ : Act → World → Prop) (cc0_ cc3_ cc4_ : Code) :
 let z13_ : Exit → Act → World → Prop := bodyPost Try.prog Try.f5 fun (e : Ending) (w' : World) => e = Ending.returned (Value.bool r) ∧ Below (Array.size (World.heap w)) w w'; (∀ (a : Act) (w : World), Code.wp Try.prog cc4_ (Exit.then z381_ z13_) a w → z383_ a w) → (∀ (a : Act) (w : World), Code.wp Try.prog cc3_ z13_ a w → z381_ a w) → Option.bind Try.f5.body (codeAt [1, 1, 1, 1, 1, 1, 1, 1, 1, 1, 0, 0]) = some cc0_ → Option.bind Try.f5.body (codeAt [1, 1, 1, 1, 1, 1, 1, 1, 1, 1, 1]) = some cc3_ → Option.bind Try.f5.body (codeAt [1, 1, 1, 1, 1, 1, 1, 1, 1, 1, 0, 1]) = some cc4_ → Code.wp Try.prog cc0_ (Exit.then z383_ (Exit.then z381_ z13_)) ⟨#[Value.int IntKind.u8 a0, Value.int IntKind.u8 a1, Value.slice A2 (List.length l2) c2, undef, undef, undef, U6, Value.int IntKind.i64 ji14, Value.slice Ao42 (List.length x8_2) co42, Value.slice Ao173 (List.length x9_3) co173, U10, U11, U12, Value.pointer (some { block := gb358, off := (0 : Nat) }), v360, U15, U16, U17, U18, U19, U20, U21, U22, U23, undef, undef, U26, U27, U28, U29, U30, U31, U32, U33, U34, U35, Value.bool false, U37, Value.int IntKind.u8 a0, Value.int IntKind.u8 (Int.tmod a0 (8 : Int)), Value.int IntKind.i64 (wrap64 (Int.tmod a0 (8 : Int))), Value.int IntKind.i64 ji14, Value.int IntKind.i64 ji14, Value.slice Ao173 (List.length x9_3) co173, Value.int IntKind.i64 ji14, Value.int IntKind.i64 x45_2, Value.bool false, U47, U48, U49, U50, U51, U52, U53, U54, U55, U56, U57, U58, U59, U60, U61, U62, U63, U64, U65, Value.int IntKind.u8 a1, Value.int IntKind.i64 (wrap64 a1), Value.string t357, Value.slice Ao42 (List.length x8_2) co42, Value.agg #[Value.int IntKind.i64 (1 : Int), Value.int IntKind.i64 (1 : Int), Value.int IntKind.i64 (wrap64 a1), Value.string t357, Value.slice Ao42 (List.length x8_2) co42], Value.int IntKind.i64 ji14, v360, Value.slice A2 (List.length l2) c2, U74, Value.int IntKind.i64 x75_3, Value.bool false, U77, U78, U79, U80, U81, U82, U83, U84, U85, U86, U87, U88, U89, U90, U91, U92, U93, U94, U95, U96, U97, U98, U99, U100, U101, U102, U103, U104, U105, U106, U107, U108, U109, U110, U111, U112, U113, U114, U115, U116, U117, U118, U119, U120, U121, U122, U123, U124, U125, U126, U127, U128, U129, U130, U131, U132, U133, U134, U135, U136, U137, U138, U139, U140, U141, U142, U143, U144, U145, U146, U147, U148, U149, U150, U151, U152, U153, U154, U155, U156, U157, U158, U159, U160, U161, U162, U163, U164, U165, U166, U167, U168, U169, U170, undef, undef, undef, U174, U175, U176, U177, U178, U179, U180, U181, U182, U183, U184, U185, U186, U187, U188, U189, U190, U191], []⟩ (wr) := by
 intro z13_ hk0_ hk1_ hc0_ hc1_ hc2_
 conv at hc0_ => lhs; whnf
 replace hc0_ := Option.some.inj hc0_
 subst hc0_
 conv at hc1_ => lhs; whnf
 replace hc1_ := Option.some.inj hc1_
 subst hc1_
 conv at hc2_ => lhs; whnf
 replace hc2_ := Option.some.inj hc2_
 subst hc2_
 have hu28 := Try.underlying28
 have hu36 := Try.underlying36
 go_wp2
 go_loopg [173] k3 (fun kq v173 w' => ∃ (x173_4 : Int), v173 = .int .i64 x173_4 ∧ Aside0 (hopmeshlaw49_InstallTogether.l4 kq x14_3 x9_3 (x9_3.length : Int) x173_4 = some r) ∧ Aside0 (kq ≤ k3) ∧ Aside0 (Kd.R Kd.bool 4 w' w.heap.size (fun _ => True) v360 x14_3) ∧ Aside0 (Kd.R k28 28 w' w.heap.size (fun _ => True) (.slice Ao173 x9_3.length co173) x9_3) ∧ Aside0 (Kd.R (Kd.int .i64) 3 w' w.heap.size (fun _ => True) (.slice Ao42 x8_2.length co42) x8_2) ∧ Aside0 (w'.heap[gb358]? = some (.cells #[.int .i64 1, .int .i64 1, .int .i64 (wrap64 (a1)), .string t357, (.slice Ao42 x8_2.length co42)] 36 (0, 0))) ∧ Aside0 (Below w.heap.size w w'))
 case atStart => exact ⟨(0), rfs, H', ⟨Nat.le_refl _⟩, roA HO_14, roA HO_9, roA HO_359004, bkA BK358, hbA HB⟩
 case round =>
  clear H'
  try clear c15
  try clear c48
  try clear c48b0
  obtain ⟨x173_4, rfl, HA, HK4, HO_14, HO_171, HO_359004, BK358, HB⟩ := hrel
  cases gk with
  | zero => exact absurd HA.out (by simp [hopmeshlaw49_InstallTogether.l4])
  | succ k4 =>
   have H := HA.out
   clear HA
   simp only [hopmeshlaw49_InstallTogether.l4] at H
   by_cases c174 : x173_4 < (x9_3.length : Int)
   ·rw [if_pos c174] at H
    have c174b0 : decide (x173_4 < (x9_3.length : Int)) = true := decide_eq_true c174
    clear c174
    by_cases c175 : 0 ≤ x173_4
    ·rw [if_pos c175] at H
     have c175b0 : decide (0 ≤ x173_4) = true := decide_eq_true c175
     clear c175
     by_cases c176 : x173_4 < (x9_3.length : Int)
     ·rw [if_pos c176] at H
      have c176b0 : decide (x173_4 < (x9_3.length : Int)) = true := decide_eq_true c176
      clear c176
      replace H := Option.bind_eq_some_iff.mp H
      obtain ⟨t410, A1770, H⟩ := H
      (try dsimp only at H)
      have A177 := Aside0.mk A1770
      clear A1770
      by_cases c178 : x173_4 < (x14_3.length : Int)
      ·rw [if_pos c178] at H
       have c178b0 : decide (x173_4 < (x14_3.length : Int)) = true := decide_eq_true c178
       clear c178
       by_cases c179 : ((((rd_T28 x9_3 x173_4).f0).toList == t410.toList) != (rdOf false x14_3 x173_4)) = true
       ·rw [if_pos c179] at H
        have c179b0 : ((((rd_T28 x9_3 x173_4).f0).toList == t410.toList) != (rdOf false x14_3 x173_4)) = true := c179
        (try (have c179b1 : decide ((((rd_T28 x9_3 x173_4).f0).toList == t410.toList) = (rdOf false x14_3 x173_4)) = false := by simpa using c179))
        (try (have c179b2 : ((((rd_T28 x9_3 x173_4).f0).toList == t410.toList) == (rdOf false x14_3 x173_4)) = false := by simpa using c179))
        (try (have c179b3 : ¬ ((((rd_T28 x9_3 x173_4).f0).toList == t410.toList) = (rdOf false x14_3 x173_4)) := by simpa using c179))
        clear c179
        exact absurd H (by simp)
       ·rw [if_neg c179] at H
        have c179b0 : ((((rd_T28 x9_3 x173_4).f0).toList == t410.toList) != (rdOf false x14_3 x173_4)) = false := by simpa using c179
        (try (have c179b1 : decide ((((rd_T28 x9_3 x173_4).f0).toList == t410.toList) = (rdOf false x14_3 x173_4)) = true := by simpa using c179))
        (try (have c179b2 : ((((rd_T28 x9_3 x173_4).f0).toList == t410.toList) == (rdOf false x14_3 x173_4)) = true := by simpa using c179))
        clear c179
        obtain ⟨bq180, hbq180⟩ : ∃ b_ : Bool, b_ = ((rd_T28 x9_3 x173_4).f2) := ⟨_, rfl⟩
        replace H : (if bq180 = true then (none) else (hopmeshlaw49_InstallTogether.l4 k4 x14_3 x9_3 (x9_3.length : Int) (wrap64 (x173_4 + 1)))) = some r := by rw [← hbq180] at H; exact H
        have Nbq180 := Aside0.mk hbq180
        clear hbq180
        by_cases c181 : bq180 = true
        ·subst c181
         rw [if_pos rfl] at H
         exact absurd H (by simp)
        ·replace c181 := Bool.eq_false_iff.mpr c181
         subst c181
         rw [if_neg (show ¬ (false = true) by decide)] at H
         have H' := Aside0.mk H
         clear H
         have p408 : 0 ≤ (x173_4 : Int) := pos_
         have q408 : x173_4 < (x9_3.length : Int) := pos_
         obtain ⟨ad408, e408, hx408_0, hx408_1, hx408_2, hx408_3, hx408_4, hx408_5⟩ := at_T28 (Kd.R_reads' HO_171.out).2.2 x173_4 p408 q408
         (try rw [← Nbq180.out] at hx408_2)
         cases e408
         replace p408 := eq_true p408
         replace q408 := eq_true q408
         try go_wp2_with (first | ((with_reducible refine gate_dst (N := 25) rfl ?_); (try (refine gate_guard (by rfl) ?_; dsimp only)); refine boxE 25 #[.string (⟨#[]⟩ : ByteArray), .string (⟨#[]⟩ : ByteArray), .bool false, .string (⟨#[]⟩ : ByteArray), .int .i64 0, .int .i64 0] 28 ?_; intro gb409 hg w182 hbox hb; replace HO_14 := rB HO_14 hb; replace HO_171 := Aside0.mk (Kd.R_below (Kd.R_elderB (ro HO_171) gb409 (Nat.le_of_eq hg.symm)) hb); replace HO_359004 := rB HO_359004 hb; have BK409 := Aside0.mk (hbox); have GW409 := gw hg HB; have GE409 := gw hg HB; replace HB := hbS HB hb; have NB358_409 := nbl hg BK358; have NB409_358 := nbg hg BK358; replace BK358 := bkB BK358 hb; clear hb hbox hg; have hnb183 := NB409_358.out; have hnc183 := NB358_409.out; obtain ⟨z0, z1, z2, z3, z4, z5, y0, y1, y2, y3, y4, y5⟩ := bc6 BK409))
         have n0_ : Aside0 (Kd.R Kd.bool 4 ((((((w182.setCell ⟨gb409, 0, none⟩ (.string ((rd_T28 x9_3 x173_4).f0))).setCell ⟨gb409, 1, none⟩ (.string ((rd_T28 x9_3 x173_4).f1))).setCell ⟨gb409, 2, none⟩ (.bool false)).setCell ⟨gb409, 3, none⟩ (.string ((rd_T28 x9_3 x173_4).f3))).setCell ⟨gb409, 4, none⟩ (.int .i64 ((rd_T28 x9_3 x173_4).f4))).setCell ⟨gb409, 5, none⟩ (.int .i64 ((rd_T28 x9_3 x173_4).f5))) w.heap.size (fun _ => True) v360 x14_3) := ⟨Kd.R_mono (rty (rfo HO_14) BK409) (fun _ hk => trivial)⟩
         have n1_ : Aside0 (Kd.R k28 28 ((((((w182.setCell ⟨gb409, 0, none⟩ (.string ((rd_T28 x9_3 x173_4).f0))).setCell ⟨gb409, 1, none⟩ (.string ((rd_T28 x9_3 x173_4).f1))).setCell ⟨gb409, 2, none⟩ (.bool false)).setCell ⟨gb409, 3, none⟩ (.string ((rd_T28 x9_3 x173_4).f3))).setCell ⟨gb409, 4, none⟩ (.int .i64 ((rd_T28 x9_3 x173_4).f4))).setCell ⟨gb409, 5, none⟩ (.int .i64 ((rd_T28 x9_3 x173_4).f5))) w.heap.size (fun k_ => k_ ≠ gb409) (.slice (some ad408) x9_3.length co173) x9_3) := ⟨by (with_reducible repeat (first | apply Kd.R_alloc | apply Kd.R_drewN | apply Kd.R_drew)); exact Kd.R_mono (Kd.R_far (p := ⟨gb409, 5, none⟩) (Kd.R_far (p := ⟨gb409, 4, none⟩) (Kd.R_far (p := ⟨gb409, 3, none⟩) (Kd.R_far (p := ⟨gb409, 2, none⟩) (Kd.R_far (p := ⟨gb409, 1, none⟩) (Kd.R_far (p := ⟨gb409, 0, none⟩) (Kd.R_mono HO_171.out (fun k_ hk => (⟨hk, hk.2⟩ : _ ∧ k_ ≠ gb409))) (fun _ hk => hk.2) (.string ((rd_T28 x9_3 x173_4).f0))) (fun _ hk => hk.2) (.string ((rd_T28 x9_3 x173_4).f1))) (fun _ hk => hk.2) (.bool false)) (fun _ hk => hk.2) (.string ((rd_T28 x9_3 x173_4).f3))) (fun _ hk => hk.2) (.int .i64 ((rd_T28 x9_3 x173_4).f4))) (fun _ hk => hk.2) (.int .i64 ((rd_T28 x9_3 x173_4).f5))) (fun _ hk => hk.1.2)⟩
         have n2_ : Aside0 (Kd.R (Kd.int .i64) 3 ((((((w182.setCell ⟨gb409, 0, none⟩ (.string ((rd_T28 x9_3 x173_4).f0))).setCell ⟨gb409, 1, none⟩ (.string ((rd_T28 x9_3 x173_4).f1))).setCell ⟨gb409, 2, none⟩ (.bool false)).setCell ⟨gb409, 3, none⟩ (.string ((rd_T28 x9_3 x173_4).f3))).setCell ⟨gb409, 4, none⟩ (.int .i64 ((rd_T28 x9_3 x173_4).f4))).setCell ⟨gb409, 5, none⟩ (.int .i64 ((rd_T28 x9_3 x173_4).f5))) w.heap.size (fun _ => True) (.slice Ao42 x8_2.length co42) x8_2) := ⟨Kd.R_mono (rty (rfo HO_359004) BK409) (fun _ hk => trivial)⟩
         have n3_ : Aside0 (((((((w182.setCell ⟨gb409, 0, none⟩ (.string ((rd_T28 x9_3 x173_4).f0))).setCell ⟨gb409, 1, none⟩ (.string ((rd_T28 x9_3 x173_4).f1))).setCell ⟨gb409, 2, none⟩ (.bool false)).setCell ⟨gb409, 3, none⟩ (.string ((rd_T28 x9_3 x173_4).f3))).setCell ⟨gb409, 4, none⟩ (.int .i64 ((rd_T28 x9_3 x173_4).f4))).setCell ⟨gb409, 5, none⟩ (.int .i64 ((rd_T28 x9_3 x173_4).f5))).heap[gb358]? = some (.cells #[.int .i64 1, .int .i64 1, .int .i64 (wrap64 (a1)), .string t357, .slice Ao42 x8_2.length co42] 36 (0, 0))) := bkfA BK358
         have n4_ : Aside0 (((((((w182.setCell ⟨gb409, 0, none⟩ (.string ((rd_T28 x9_3 x173_4).f0))).setCell ⟨gb409, 1, none⟩ (.string ((rd_T28 x9_3 x173_4).f1))).setCell ⟨gb409, 2, none⟩ (.bool false)).setCell ⟨gb409, 3, none⟩ (.string ((rd_T28 x9_3 x173_4).f3))).setCell ⟨gb409, 4, none⟩ (.int .i64 ((rd_T28 x9_3 x173_4).f4))).setCell ⟨gb409, 5, none⟩ (.int .i64 ((rd_T28 x9_3 x173_4).f5))).heap[gb409]? = some (.cells #[.string ((rd_T28 x9_3 x173_4).f0), .string ((rd_T28 x9_3 x173_4).f1), .bool false, .string ((rd_T28 x9_3 x173_4).f3), .int .i64 ((rd_T28 x9_3 x173_4).f4), .int .i64 ((rd_T28 x9_3 x173_4).f5)] 28 (0, 0))) := bkpA BK409
         have n5_ : Aside0 (Below w.heap.size w ((((((w182.setCell ⟨gb409, 0, none⟩ (.string ((rd_T28 x9_3 x173_4).f0))).setCell ⟨gb409, 1, none⟩ (.string ((rd_T28 x9_3 x173_4).f1))).setCell ⟨gb409, 2, none⟩ (.bool false)).setCell ⟨gb409, 3, none⟩ (.string ((rd_T28 x9_3 x173_4).f3))).setCell ⟨gb409, 4, none⟩ (.int .i64 ((rd_T28 x9_3 x173_4).f4))).setCell ⟨gb409, 5, none⟩ (.int .i64 ((rd_T28 x9_3 x173_4).f5)))) := hbA HB
         (try clear HO_14)
         (try clear HO_171)
         (try clear HO_359004)
         (try clear BK358)
         (try clear BK409)
         (try clear HB)
         generalize ((((((w182.setCell ⟨gb409, 0, none⟩ (.string ((rd_T28 x9_3 x173_4).f0))).setCell ⟨gb409, 1, none⟩ (.string ((rd_T28 x9_3 x173_4).f1))).setCell ⟨gb409, 2, none⟩ (.bool false)).setCell ⟨gb409, 3, none⟩ (.string ((rd_T28 x9_3 x173_4).f3))).setCell ⟨gb409, 4, none⟩ (.int .i64 ((rd_T28 x9_3 x173_4).f4))).setCell ⟨gb409, 5, none⟩ (.int .i64 ((rd_T28 x9_3 x173_4).f5))) = w185 at n0_ n1_ n2_ n3_ n4_ n5_ ⊢
         have HO_14 := n0_
         have HO_171 := n1_
         have HO_359004 := n2_
         have BK358 := n3_
         have BK409 := n4_
         have HB := n5_
         clear n0_ n1_ n2_ n3_ n4_ n5_
         replace HO_14 := Aside0.mk (Kd.R_drew HO_14.out)
         replace HO_171 := Aside0.mk (Kd.R_drew HO_171.out)
         replace HO_359004 := Aside0.mk (Kd.R_drew HO_359004.out)
         replace BK358 := Aside0.mk (blk_drew BK358.out)
         replace BK409 := Aside0.mk (blk_drew BK409.out)
         replace HB := Aside0.mk (below_drew1 HB.out)
         obtain ⟨Ao187, co187, eo187⟩ := Kd.R_slice HO_14.out
         (first | subst eo187 | (injection eo187 with f1_ f2_ f3_; have f4_ := f1_.symm; have f5_ := f3_.symm; clear f1_ f2_ f3_; subst f4_; subst f5_))
         have p411 : 0 ≤ (x173_4 : Int) := pos_
         have q411 : x173_4 < (x14_3.length : Int) := pos_
         obtain ⟨ad411, e411, hx411_0⟩ := Kd.at_bool (Kd.R_reads' HO_14.out).2.2 x173_4 p411 q411
         (try rw [← Nbq180.out] at hx411_0)
         cases e411
         replace p411 := eq_true p411
         replace q411 := eq_true q411
         refine start_ (n := 13) (S := fun w' => w'.cell? ⟨gb409, 0, none⟩ = some (.string ((rd_T28 x9_3 x173_4).f0)) ∧ w'.cell? ⟨gb409, 1, none⟩ = some (.string ((rd_T28 x9_3 x173_4).f1)) ∧ w'.cell? ⟨gb409, 2, none⟩ = some (.bool false) ∧ w'.cell? ⟨gb409, 3, none⟩ = some (.string ((rd_T28 x9_3 x173_4).f3)) ∧ w'.cell? ⟨gb409, 4, none⟩ = some (.int .i64 ((rd_T28 x9_3 x173_4).f4)) ∧ w'.cell? ⟨gb409, 5, none⟩ = some (.int .i64 ((rd_T28 x9_3 x173_4).f5)) ∧ w'.cell? (ad411.add (x173_4).toNat) = some (.bool (rdOf false x14_3 x173_4))) (ds := []) #[false, false, false, false, false, false, false, false, false, false, false, false, false] (by kernel_rfl) rfl rfl ⟨(blk_cell BK409.out 0).trans rfl, (blk_cell BK409.out 1).trans rfl, (blk_cell BK409.out 2).trans rfl, (blk_cell BK409.out 3).trans rfl, (blk_cell BK409.out 4).trans rfl, (blk_cell BK409.out 5).trans rfl, hx411_0⟩ (fun hHeld => ?_); refine with_tabW hopmeshlaw49_InstallTogether.tab40_part37 hopmeshlaw49_InstallTogether.bits40_part37 (fun HT_ HW_ => ?_)
         generalize w185.drew = w186 at HO_14 HO_171 HO_359004 BK358 BK409 HB hx411_0 hHeld ⊢
         refine pur 0 (some 178) #[true, false, false, false, false, false, false, false, false, false, false, false, false] HT_ ?_
         refine pur 4 (some 182) #[true, false, false, false, true, false, false, false, false, false, false, false, false] HT_ ?_
         refine pur 5 (some 183) #[true, false, false, false, true, true, false, false, false, false, false, false, false] HT_ ?_
         refine pur 6 (some 184) #[true, false, false, false, true, true, true, false, false, false, false, false, false] HT_ ?_
         refine tak 1 (some 179) #[true, true, false, false, true, true, true, false, false, false, false, false, false] HT_ HW_ hHeld rfl (Or.inl ⟨by rfl, by rintro w' ⟨s0, s1, s2, s3, s4, s5, s6⟩; go_simp; with_reducible rfl⟩) ?_
         refine tak 7 (some 185) #[true, true, false, false, true, true, true, true, false, false, false, false, false] HT_ HW_ hHeld rfl (Or.inl ⟨by rfl, by rintro w' ⟨s0, s1, s2, s3, s4, s5, s6⟩; go_simp; with_reducible rfl⟩) ?_
         refine one_ (i := 2) (N := some 180) #[true, true, true, false, true, true, true, true, false, false, false, false, false] rfl rfl (one_of HT_.out (by kernel_rfl)) (by decide) (fun K hK => ?_)
         refine goes_ Try.func11 (by kernel_rfl) rfl #[.string (⟨#[120]⟩ : ByteArray)] (by rfl) rfl rfl sma ?_
         with_reducible refine (hopmeshlaw49_id.calls (⟨#[120]⟩ : ByteArray) t410 _ A177.out).mono ?_
         rintro e w188 ⟨rfl, hb⟩
         have HS6_ := (hb.cell (World.block_lt_of_cell? _ _ (hHeld.2.2.2.2.2.2))).trans (hHeld.2.2.2.2.2.2)
         refine ⟨_, rfl, ?_⟩
         replace HO_14 := rB HO_14 hb
         replace HO_171 := rB HO_171 hb
         replace HO_359004 := rB HO_359004 hb
         replace BK358 := bkB BK358 hb
         replace BK409 := bkB BK409 hb
         replace HB := hbS HB hb
         (try clear hb)
         (try clear hb2)
         (try clear hk)
         (try clear hi)
         refine hK.out _ _ ⟨(blk_cell BK409.out 0).trans rfl, (blk_cell BK409.out 1).trans rfl, (blk_cell BK409.out 2).trans rfl, (blk_cell BK409.out 3).trans rfl, (blk_cell BK409.out 4).trans rfl, (blk_cell BK409.out 5).trans rfl, HS6_⟩ (fun hHeld => ?_)
         clear hK K
         refine nrm (some 180) ?_
         refine pur 3 (some 181) #[true, true, true, true, true, true, true, true, false, false, false, false, false] HT_ ?_
         refine pur 8 (some 186) #[true, true, true, true, true, true, true, true, true, false, false, false, false] HT_ ?_
         refine pur 9 (some 187) #[true, true, true, true, true, true, true, true, true, true, false, false, false] HT_ ?_
         refine pur 10 (some 188) #[true, true, true, true, true, true, true, true, true, true, true, false, false] HT_ ?_
         refine tak 11 (some 189) #[true, true, true, true, true, true, true, true, true, true, true, true, false] HT_ HW_ hHeld rfl (Or.inl ⟨by rfl, by rintro w' ⟨s0, s1, s2, s3, s4, s5, s6⟩; go_simp; with_reducible rfl⟩) ?_
         refine pur 12 (some 190) #[true, true, true, true, true, true, true, true, true, true, true, true, true] HT_ ?_
         refine done_ (done_of HT_.out (by kernel_rfl)) ?_
         try go_wp2
         go_roundg k4
         case measure => have := HJ3.out; have := HK2.out; have := HK3.out; have := HK4.out; omega
         case rel => exact ⟨(wrap64 (x173_4 + 1)), rfs, H', ⟨by have := HJ3.out; have := HK2.out; have := HK3.out; have := HK4.out; omega⟩, roA HO_14, ⟨by (with_reducible repeat (first | apply Kd.R_alloc | apply Kd.R_drewN | apply Kd.R_drew)); exact Kd.R_mono HO_171.out (fun _ hk => trivial)⟩, roA HO_359004, bkA BK358, hbA HB⟩
      ·rw [if_neg c178] at H
       exact absurd H (by simp)
     ·rw [if_neg c176] at H
      exact absurd H (by simp)
    ·rw [if_neg c175] at H
     exact absurd H (by simp)
   ·rw [if_neg c174] at H
    have c174b0 : decide (x173_4 < (x9_3.length : Int)) = false := decide_eq_false c174
    clear c174
    obtain rfl := Option.some.inj H
    go_wp2
    go_ret
    exact ⟨by first | rfl | (simp [errW_none, errW_some] <;> rfl) | (simp only [← hji14]; first | rfl | (simp [errW_none, errW_some] <;> rfl)) | (simp [*, errW_none, errW_some] <;> rfl), hbx HB⟩
end Go.Proofs.Ytdigplhjfjchnaa.PQ
