-- Printed by fprint.py and zip.py, programs of this session's, over the kit's print; Lean checks it.
import Derived.Test.YtdigplhjfjchnaaZ0
import Derived.Test.YtdigplhjfjchnaaZf11
import Derived.Test.YtdigplhjfjchnaaZf12
import Derived.Test.YtdigplhjfjchnaaZf14
import Derived.Test.YtdigplhjfjchnaaZf15
import Derived.Test.YtdigplhjfjchnaaZf10
import Derived.Test.YtdigplhjfjchnaaZf17
import Derived.Test.YtdigplhjfjchnaaZT
import Derived.Test.YtdigplhjfjchnaaZf5d
import Derived.Test.YtdigplhjfjchnaaZC2
import Derived.Test.YtdigplhjfjchnaaZf5p29a
import Derived.Test.YtdigplhjfjchnaaZf5p29c
import Derived.Test.YtdigplhjfjchnaaZf5p29d
namespace Go.Proofs.Ytdigplhjfjchnaa.PQ
open Go.RowKit Go.Proofs.YtdigplhjfjchnaaW.PrintWords Go.Proofs.YtdigplhjfjchnaaW.PrintLast Go.Proofs.YtdigplhjfjchnaaW.PrintMore
attribute [local go_sem] max2_int min2_int max_two min_two max_three min_three max_four min_four   -- for this text's walks alone
set_option linter.unusedVariables false
set_option linter.unusedSimpArgs false
set_option maxHeartbeats 8000000 in
set_option maxRecDepth 100000 in
theorem hopmeshlaw49_InstallTogether.part28 (k : Nat) (a0 : Int) (a1 : Int) (A2 : Option Addr) (c2 : Nat) (l2 : List S47) (r : Bool) (w : World) (u26 : Value) (u27 : Value) (u28 : Value) (u29 : Value) (u30 : Value) (u31 : Value) (u32 : Value) (u33 : Value) (u34 : Value) (u35 : Value) (u37 : Value) (u174 : Value) (u175 : Value) (u176 : Value) (u177 : Value) (u178 : Value) (u179 : Value) (u180 : Value) (u181 : Value) (u182 : Value) (u183 : Value) (u184 : Value) (u185 : Value) (u186 : Value) (u187 : Value) (u188 : Value) (u189 : Value) (u190 : Value) (u191 : Value) (kj3 : Nat) (ji14 : Int) (u10 : Value) (u11 : Value) (u12 : Value) (u47 : Value) (u48 : Value) (u49 : Value) (u50 : Value) (u51 : Value) (u52 : Value) (u53 : Value) (u54 : Value) (u55 : Value) (u56 : Value) (u57 : Value) (u58 : Value) (u59 : Value) (u60 : Value) (u61 : Value) (u62 : Value) (u63 : Value) (u64 : Value) (u65 : Value) (x8_2 : List Int) (x45_2 : Int) (k2 : Nat) (t357 : ByteArray) (Ao42 : Option Addr) (co42 : Nat) (gb358 : Nat) (w43 : World) (v360 : Value) (v363 : Value) (u15 : Value) (x9_3 : List S28) (x14_3 : List Bool) (x15_3 : List S47) (x75_3 : Int) (k3 : Nat) (Ao49 : Option Addr) (co49 : Nat) (wr : World) (x9_4 : List S28) (x80_4 : Int) (k4 : Nat) (U6 U17 U18 U19 U20 U21 U22 U23 U82 U83 U84 U85 U86 U87 U88 U89 U90 U91 U92 U93 U94 U95 U96 U97 U98 U99 U100 U101 U102 U103 U104 U105 U106 U107 U108 U109 U110 U111 U112 U113 U114 U115 U116 U117 U118 U119 U120 U121 U122 U123 U124 U125 U126 U127 U128 U129 U130 U131 U132 U133 U134 U135 U136 U137 U138 U139 U140 U141 U142 U143 U144 U145 U146 U147 U148 U149 U150 U151 U152 U153 U154 U155 U156 U157 U158 U159 U160 U161 U162 U163 U164 U165 U166 U167 U168 U169 U170 : Value) (HJ3 : Aside0 (kj3 + (1 : Nat) ≤ k)) (hji14 : wrap64 ((1 : Int) + wrap64 (Int.tmod a0 (8 : Int))) = ji14) (hji14w : IntKind.wrap IntKind.i64 ((1 : Int) + wrap64 (Int.tmod a0 (8 : Int))) = ji14) (HK2 : Aside0 (k2 + (1 : Nat) ≤ kj3)) (GE358 : Aside0 (Array.size (World.heap w) ≤ gb358)) (z0 : World.cell? w43 { block := gb358, off := (0 : Nat) } = some (Value.int IntKind.i64 (0 : Int))) (z1 : World.cell? w43 { block := gb358, off := (1 : Nat) } = some (Value.int IntKind.i64 (0 : Int))) (z2 : World.cell? w43 { block := gb358, off := (2 : Nat) } = some (Value.int IntKind.i64 (0 : Int))) (z3 : World.cell? w43 { block := gb358, off := (3 : Nat) } = some (Value.string { data := #[] })) (z4 : World.cell? w43 { block := gb358, off := (4 : Nat) } = some (Value.slice none (0 : Nat) (0 : Nat))) (y0 : World.frozen? w43 { block := gb358, off := (0 : Nat) } = false) (y1 : World.frozen? w43 { block := gb358, off := (1 : Nat) } = false) (y2 : World.frozen? w43 { block := gb358, off := (2 : Nat) } = false) (y3 : World.frozen? w43 { block := gb358, off := (3 : Nat) } = false) (y4 : World.frozen? w43 { block := gb358, off := (4 : Nat) } = false) (HK3 : Aside0 (k3 + (1 : Nat) ≤ k2)) (HO_9 : Aside0 (Kd.R k28 (28 : Nat) wr (Array.size (World.heap w)) (fun (x : Nat) => True) (Value.slice Ao49 (List.length x9_4) co49) x9_4)) (HO_14 : Aside0 (Kd.R Kd.bool (4 : Nat) wr (Array.size (World.heap w)) (fun (x : Nat) => True) v360 x14_3)) (HO_15 : Aside0 (Kd.Q k47 (47 : Nat) wr (Array.size (World.heap w)) (fun (x : Nat) => True) u15 x15_3)) (HO_359004 : Aside0 (Kd.R (Kd.int IntKind.i64) (3 : Nat) wr (Array.size (World.heap w)) (fun (x : Nat) => True) (Value.slice Ao42 (List.length x8_2) co42) x8_2)) (BK358 : Aside0 ((World.heap wr)[gb358]? = some (Obj.cells #[Value.int IntKind.i64 (1 : Int), Value.int IntKind.i64 (1 : Int), Value.int IntKind.i64 (wrap64 a1), Value.string t357, Value.slice Ao42 (List.length x8_2) co42] (36 : TypeId)))) (HB : Aside0 (Below (Array.size (World.heap w)) w wr)) (hl9_4 : List.length x9_3 = List.length x9_4) (HK4 : Aside0 (k4 + (1 : Nat) ≤ k3)) (c50b0 : decide (x80_4 < (↑(List.length x9_3) : Int)) = false) (c50b0h : decide (x80_4 < (↑(List.length x9_4) : Int)) = false) (H' : Aside0 (l3 k4 a1 ji14 x9_4 x14_3 x15_3 x75_3 x75_3 (1 : Int) (1 : Int) (wrap64 a1) t357 x8_2 = some r)) (z378_ : Act → World → Prop) (z358_ : Act → World → Prop) (z249_ : Act → World → Prop) (z357_ : Nat → Act → World → Prop) (cc0_ cc3_ : Code) :
 let z13_ : Exit → Act → World → Prop := bodyPost Try.prog Try.f5 fun (e : Ending) (w' : World) => e = Ending.returned (Value.bool r) ∧ Below (Array.size (World.heap w)) w w'; (∀ (a : Act) (w : World), Code.wp Try.prog cc3_ (Exit.then z358_ (Exit.inBlock (2 : Nat) (Exit.then z249_ z13_))) a w → z378_ a w) → (∀ (a' : Act) (w' : World), Handed z357_ (k3 + (1 : Nat)) a' w' → z358_ a' w') → (∀ (k : Nat) (a' : Act) (w' : World), (∃ (u6 : Value), ∃ (u15 : Value), ∃ (u16 : Value), ∃ (u17 : Value), ∃ (u18 : Value), ∃ (u19 : Value), ∃ (u20 : Value), ∃ (u21 : Value), ∃ (u22 : Value), ∃ (u23 : Value), ∃ (u75 : Value), ∃ (u76 : Value), ∃ (u77 : Value), ∃ (u78 : Value), ∃ (u79 : Value), ∃ (u80 : Value), ∃ (u81 : Value), ∃ (u82 : Value), ∃ (u83 : Value), ∃ (u84 : Value), ∃ (u85 : Value), ∃ (u86 : Value), ∃ (u87 : Value), ∃ (u88 : Value), ∃ (u89 : Value), ∃ (u90 : Value), ∃ (u91 : Value), ∃ (u92 : Value), ∃ (u93 : Value), ∃ (u94 : Value), ∃ (u95 : Value), ∃ (u96 : Value), ∃ (u97 : Value), ∃ (u98 : Value), ∃ (u99 : Value), ∃ (u100 : Value), ∃ (u101 : Value), ∃ (u102 : Value), ∃ (u103 : Value), ∃ (u104 : Value), ∃ (u105 : Value), ∃ (u106 : Value), ∃ (u107 : Value), ∃ (u108 : Value), ∃ (u109 : Value), ∃ (u110 : Value), ∃ (u111 : Value), ∃ (u112 : Value), ∃ (u113 : Value), ∃ (u114 : Value), ∃ (u115 : Value), ∃ (u116 : Value), ∃ (u117 : Value), ∃ (u118 : Value), ∃ (u119 : Value), ∃ (u120 : Value), ∃ (u121 : Value), ∃ (u122 : Value), ∃ (u123 : Value), ∃ (u124 : Value), ∃ (u125 : Value), ∃ (u126 : Value), ∃ (u127 : Value), ∃ (u128 : Value), ∃ (u129 : Value), ∃ (u130 : Value), ∃ (u131 : Value), ∃ (u132 : Value), ∃ (u133 : Value), ∃ (u134 : Value), ∃ (u135 : Value), ∃ (u136 : Value), ∃ (u137 : Value), ∃ (u138 : Value), ∃ (u139 : Value), ∃ (u140 : Value), ∃ (u141 : Value), ∃ (u142 : Value), ∃ (u143 : Value), ∃ (u144 : Value), ∃ (u145 : Value), ∃ (u146 : Value), ∃ (u147 : Value), ∃ (u148 : Value), ∃ (u149 : Value), ∃ (u150 : Value), ∃ (u151 : Value), ∃ (u152 : Value), ∃ (u153 : Value), ∃ (u154 : Value), ∃ (u155 : Value), ∃ (u156 : Value), ∃ (u157 : Value), ∃ (u158 : Value), ∃ (u159 : Value), ∃ (u160 : Value), ∃ (u161 : Value), ∃ (u162 : Value), ∃ (u163 : Value), ∃ (u164 : Value), ∃ (u165 : Value), ∃ (u166 : Value), ∃ (u167 : Value), ∃ (u168 : Value), ∃ (u169 : Value), ∃ (u170 : Value), (∃ (x9_3_1 : List S28), ∃ (x14_3 : List Bool), ∃ (x15_3 : List S47), ∃ (x75_3 : Int), u75 = Value.int IntKind.i64 x75_3 ∧ Aside0 (l1 k a1 ji14 x9_3_1 x14_3 x15_3 x75_3 (1 : Int) (1 : Int) (wrap64 a1) t357 x8_2 = some r) ∧ Aside0 (k ≤ k2) ∧ Aside0 (Kd.R k28 (28 : Nat) w' (Array.size (World.heap w)) (fun (x : Nat) => True) (Value.slice Ao49 (List.length x9_3) co49) x9_3_1) ∧ Aside0 (Kd.R Kd.bool (4 : Nat) w' (Array.size (World.heap w)) (fun (x : Nat) => True) v360 x14_3) ∧ Aside0 (Kd.Q k47 (47 : Nat) w' (Array.size (World.heap w)) (fun (x : Nat) => True) u15 x15_3) ∧ Aside0 (Kd.R (Kd.int IntKind.i64) (3 : Nat) w' (Array.size (World.heap w)) (fun (x : Nat) => True) (Value.slice Ao42 (List.length x8_2) co42) x8_2) ∧ Aside0 ((World.heap w')[gb358]? = some (Obj.cells #[Value.int IntKind.i64 (1 : Int), Value.int IntKind.i64 (1 : Int), Value.int IntKind.i64 (wrap64 a1), Value.string t357, Value.slice Ao42 (List.length x8_2) co42] (36 : TypeId))) ∧ Aside0 (Below (Array.size (World.heap w)) w w')) ∧ a' = { tmps := #[Value.int IntKind.u8 a0, Value.int IntKind.u8 a1, Value.slice A2 (List.length l2) c2, undef, undef, undef, u6, Value.int IntKind.i64 ji14, Value.slice Ao42 (List.length x8_2) co42, Value.slice Ao49 (List.length x9_3) co49, u10, u11, u12, Value.pointer (some { block := gb358, off := (0 : Nat) }), v360, u15, u16, u17, u18, u19, u20, u21, u22, u23, undef, undef, u26, u27, u28, u29, u30, u31, u32, u33, u34, u35, Value.bool false, u37, Value.int IntKind.u8 a0, Value.int IntKind.u8 (Int.tmod a0 (8 : Int)), Value.int IntKind.i64 (wrap64 (Int.tmod a0 (8 : Int))), Value.int IntKind.i64 ji14, Value.int IntKind.i64 ji14, Value.slice Ao49 (List.length x9_3) co49, Value.int IntKind.i64 ji14, Value.int IntKind.i64 x45_2, Value.bool false, u47, u48, u49, u50, u51, u52, u53, u54, u55, u56, u57, u58, u59, u60, u61, u62, u63, u64, u65, Value.int IntKind.u8 a1, Value.int IntKind.i64 (wrap64 a1), Value.string t357, Value.slice Ao42 (List.length x8_2) co42, Value.agg #[Value.int IntKind.i64 (1 : Int), Value.int IntKind.i64 (1 : Int), Value.int IntKind.i64 (wrap64 a1), Value.string t357, Value.slice Ao42 (List.length x8_2) co42], Value.int IntKind.i64 ji14, v360, Value.slice A2 (List.length l2) c2, v363, u75, u76, u77, u78, u79, u80, u81, u82, u83, u84, u85, u86, u87, u88, u89, u90, u91, u92, u93, u94, u95, u96, u97, u98, u99, u100, u101, u102, u103, u104, u105, u106, u107, u108, u109, u110, u111, u112, u113, u114, u115, u116, u117, u118, u119, u120, u121, u122, u123, u124, u125, u126, u127, u128, u129, u130, u131, u132, u133, u134, u135, u136, u137, u138, u139, u140, u141, u142, u143, u144, u145, u146, u147, u148, u149, u150, u151, u152, u153, u154, u155, u156, u157, u158, u159, u160, u161, u162, u163, u164, u165, u166, u167, u168, u169, u170, undef, undef, undef, u174, u175, u176, u177, u178, u179, u180, u181, u182, u183, u184, u185, u186, u187, u188, u189, u190, u191], defers := [] }) → z357_ k a' w') → Option.bind Try.f5.body (codeAt [1, 1, 1, 1, 1, 1, 1, 1, 1, 0, 1, 0, 0, 1, 1, 0, 0, 1, 1]) = some cc0_ → Option.bind Try.f5.body (codeAt [1, 1, 1, 1, 1, 1, 1, 1, 1, 0, 1, 0, 0, 1, 1, 1]) = some cc3_ → Code.wp Try.prog cc0_ (Exit.inBlock (3 : Nat) (Exit.then z378_ (Exit.then z358_ (Exit.inBlock (2 : Nat) (Exit.then z249_ z13_))))) ⟨#[Value.int IntKind.u8 a0, Value.int IntKind.u8 a1, Value.slice A2 (List.length l2) c2, undef, undef, undef, U6, Value.int IntKind.i64 ji14, Value.slice Ao42 (List.length x8_2) co42, Value.slice Ao49 (List.length x9_4) co49, u10, u11, u12, Value.pointer (some { block := gb358, off := (0 : Nat) }), v360, u15, Value.int IntKind.i64 x75_3, U17, U18, U19, U20, U21, U22, U23, undef, undef, u26, u27, u28, u29, u30, u31, u32, u33, u34, u35, Value.bool false, u37, Value.int IntKind.u8 a0, Value.int IntKind.u8 (Int.tmod a0 (8 : Int)), Value.int IntKind.i64 (wrap64 (Int.tmod a0 (8 : Int))), Value.int IntKind.i64 ji14, Value.int IntKind.i64 ji14, Value.slice Ao49 (List.length x9_4) co49, Value.int IntKind.i64 ji14, Value.int IntKind.i64 x45_2, Value.bool false, u47, u48, u49, u50, u51, u52, u53, u54, u55, u56, u57, u58, u59, u60, u61, u62, u63, u64, u65, Value.int IntKind.u8 a1, Value.int IntKind.i64 (wrap64 a1), Value.string t357, Value.slice Ao42 (List.length x8_2) co42, Value.agg #[Value.int IntKind.i64 (1 : Int), Value.int IntKind.i64 (1 : Int), Value.int IntKind.i64 (wrap64 a1), Value.string t357, Value.slice Ao42 (List.length x8_2) co42], Value.int IntKind.i64 ji14, v360, Value.slice A2 (List.length l2) c2, v363, Value.int IntKind.i64 x75_3, Value.bool true, Value.int IntKind.i64 x75_3, Value.slice Ao49 (List.length x9_4) co49, Value.int IntKind.i64 (↑(List.length x9_4) : Int), Value.int IntKind.i64 x80_4, Value.bool false, U82, U83, U84, U85, U86, U87, U88, U89, U90, U91, U92, U93, U94, U95, U96, U97, U98, U99, U100, U101, U102, U103, U104, U105, U106, U107, U108, U109, U110, U111, U112, U113, U114, U115, U116, U117, U118, U119, U120, U121, U122, U123, U124, U125, U126, U127, U128, U129, U130, U131, U132, U133, U134, U135, U136, U137, U138, U139, U140, U141, U142, U143, U144, U145, U146, U147, U148, U149, U150, U151, U152, U153, U154, U155, U156, U157, U158, U159, U160, U161, U162, U163, U164, U165, U166, U167, U168, U169, U170, undef, undef, undef, u174, u175, u176, u177, u178, u179, u180, u181, u182, u183, u184, u185, u186, u187, u188, u189, u190, u191], []⟩ (wr) := by
 intro z13_ hk0_ hk1_ hk2_ hc0_ hc1_
 conv at hc0_ => lhs; whnf
 replace hc0_ := Option.some.inj hc0_
 subst hc0_
 conv at hc1_ => lhs; whnf
 replace hc1_ := Option.some.inj hc1_
 subst hc1_
 have hu28 := Try.underlying28
 have hu36 := Try.underlying36
 go_wp2
 go_loopg [15] k4 (fun kq v15 w' => ∃ (x9_5 : List (S28)) (x14_5 : List Bool) (x15_5 : List (S47)), Aside0 (hopmeshlaw49_InstallTogether.l3 kq a1 ji14 x9_5 x14_5 x15_5 x75_3 x75_3 1 1 (wrap64 (a1)) t357 x8_2 = some r) ∧ Aside0 (kq ≤ k4) ∧ Aside0 (Kd.R k28 28 w' w.heap.size (fun _ => True) (.slice Ao49 x9_4.length co49) x9_5) ∧ Aside0 (Kd.R Kd.bool 4 w' w.heap.size (fun _ => True) v360 x14_5) ∧ Aside0 (Kd.Q k47 47 w' w.heap.size (fun _ => True) v15 x15_5) ∧ Aside0 (Kd.R (Kd.int .i64) 3 w' w.heap.size (fun _ => True) (.slice Ao42 x8_2.length co42) x8_2) ∧ Aside0 (w'.heap[gb358]? = some (.cells #[.int .i64 1, .int .i64 1, .int .i64 (wrap64 (a1)), .string t357, (.slice Ao42 x8_2.length co42)] 36 (0, 0))) ∧ Aside0 (Below w.heap.size w w'))
 case atStart => exact ⟨(x9_4), (x14_3), (x15_3), H', ⟨Nat.le_refl _⟩, ⟨by (try simp only [hl9_4]); (with_reducible repeat (first | apply Kd.R_alloc | apply Kd.R_drewN | apply Kd.R_drew)); exact HO_9.out⟩, ⟨by (try simp only [hl9_4]); (with_reducible repeat (first | apply Kd.R_alloc | apply Kd.R_drewN | apply Kd.R_drew)); exact HO_14.out⟩, ⟨by (try simp only [hl9_4]); (with_reducible repeat (first | apply Kd.Q_alloc | apply Kd.Q_drewN | apply Kd.Q_drew)); exact HO_15.out⟩, ⟨by (try simp only [hl9_4]); (with_reducible repeat (first | apply Kd.R_alloc | apply Kd.R_drewN | apply Kd.R_drew)); exact HO_359004.out⟩, ⟨by (try simp only [hl9_4]); (with_reducible repeat (first | refine blk_drewN ?_ _ | refine blk_drew ?_ | refine blk_alloc ?_ _)); exact BK358.out⟩, hbA HB⟩
 case round =>
  clear H'
  try clear c2
  try clear c11
  try clear c15
  try clear c15b0
  try clear c15b1
  try clear c16
  try clear c16b0
  try clear c16b1
  try clear c19
  try clear c19b0
  try clear c38
  try clear c38b0
  try clear c38b1
  try clear c39
  try clear c39b0
  try clear c39b1
  try clear c48
  try clear c48b0
  try clear c50
  try clear c50b0
  try clear hcz44_0
  try clear hcz44_1
  try clear hcz44_2
  try clear hcz44_3
  try clear hcz44_4
  try clear hfz44_0
  try clear hfz44_1
  try clear hfz44_2
  try clear hfz44_3
  try clear hfz44_4
  obtain ⟨x9_5, x14_5, x15_5, HA, HK5, HO_9, HO_14, HO_15, HO_359004, BK358, HB⟩ := hrel
  have hl9_5 := (Kd.R_reads' HO_9.out).1
  rw [hl9_5] at HO_9
  (try simp only [hl9_5])
  (try simp only [hl9_5] at BK358)
  (try simp only [hl9_5] at HO_14)
  (try simp only [hl9_5] at HO_15)
  (try simp only [hl9_5] at HO_359004)
  cases gk with
  | zero => exact absurd HA.out (by simp [hopmeshlaw49_InstallTogether.l3])
  | succ k5 =>
   have H := HA.out
   clear HA
   simp only [hopmeshlaw49_InstallTogether.l3] at H
   have HC80 := Aside0.mk H
   clear H
   go_upto_region 28 with (fail)
   go_cut [125] (fun v125 wc => ∃ (kq : Nat) (x125_79 : Bool), v125 = .bool x125_79 ∧ Aside0 (hopmeshlaw49_InstallTogether.j5 kq a1 ji14 x9_5 x14_5 x15_5 x75_3 x75_3 x125_79 1 1 (wrap64 (a1)) t357 x8_2 = some r) ∧ Aside0 (kq ≤ k5) ∧ Aside0 (Kd.R k28 28 wc w.heap.size (fun _ => True) (.slice Ao49 x9_5.length co49) x9_5) ∧ Aside0 (Kd.R Kd.bool 4 wc w.heap.size (fun _ => True) v360 x14_5) ∧ Aside0 (Kd.Q k47 47 wc w.heap.size (fun _ => True) u15 x15_5) ∧ Aside0 (Kd.R (Kd.int .i64) 3 wc w.heap.size (fun _ => True) (.slice Ao42 x8_2.length co42) x8_2) ∧ Aside0 (wc.heap[gb358]? = some (.cells #[.int .i64 1, .int .i64 1, .int .i64 (wrap64 (a1)), .string t357, (.slice Ao42 x8_2.length co42)] 36 (0, 0))) ∧ Aside0 (Below w.heap.size w wc))
   case first =>
    have H := HC80.out
    clear HC80
    by_cases c81 : (x15_5.length : Int) > 0
    ·rw [if_pos c81] at H
     have c81b0 : decide (0 < (x15_5.length : Int)) = true := decide_eq_true c81
     have c81b1 : decide (0 < x15_5.length) = true := decide_eq_true (by omega)
     (try (have c81b0h := c81b0; simp only [hl9_4] at c81b0h))
     (try (have c81b0h := c81b0; simp only [hl9_5] at c81b0h))
     (try (have c81b1h := c81b1; simp only [hl9_4] at c81b1h))
     (try (have c81b1h := c81b1; simp only [hl9_5] at c81b1h))
     clear c81
     (first | rw [c81b0] | (simp only [i64_w, i32_w]; rw [c81b0]) | skip)
     by_cases c82 : 0 < (x15_5.length : Int)
     ·rw [if_pos c82] at H
      have c82b0 : decide (0 < (x15_5.length : Int)) = true := decide_eq_true c82
      have c82b1 : decide (0 < x15_5.length) = true := decide_eq_true (by omega)
      (try (have c82b0h := c82b0; simp only [hl9_4] at c82b0h))
      (try (have c82b0h := c82b0; simp only [hl9_5] at c82b0h))
      (try (have c82b1h := c82b1; simp only [hl9_4] at c82b1h))
      (try (have c82b1h := c82b1; simp only [hl9_5] at c82b1h))
      clear c82
      have H' := Aside0.mk H
      clear H
      obtain ⟨Ao83, co83, eo83, _⟩ := Kd.Q_slice HO_15.out
      subst eo83
      have p378 : 0 ≤ (0 : Int) := (by omega)
      have q378 : 0 < (x15_5.length : Int) := pos_
      obtain ⟨ad378, e378, hx378_0, hx378_1, hx378_2⟩ := at_T47 (Kd.Q_reads' HO_15.out).2.2 0 p378 q378
      cases e378
      have qi378 : (0 < x15_5.length) = True := eq_true (by omega)
      (try rw [show ((0 : Int)).toNat = 0 from rfl] at hx378_0)
      (try rw [show 0 * 3 = 0 from rfl] at hx378_0)
      (try rw [Addr.add_zero'] at hx378_0)
      (try rw [show ((0 : Int)).toNat = 0 from rfl] at hx378_1)
      (try rw [show 0 * 3 = 0 from rfl] at hx378_1)
      (try rw [Addr.add_zero'] at hx378_1)
      (try rw [show ((0 : Int)).toNat = 0 from rfl] at hx378_2)
      (try rw [show 0 * 3 = 0 from rfl] at hx378_2)
      (try rw [Addr.add_zero'] at hx378_2)
      replace p378 := eq_true p378
      replace q378 := eq_true q378
      go_wp2
      go_meet
      case rel => exact ⟨_, (((wrap64 ((rd_T47 x15_5 0).f2)) == x75_3)), rfs, H', ⟨by have := HJ3.out; have := HK2.out; have := HK3.out; have := HK4.out; have := HK5.out; first | omega | exact Nat.le_refl _⟩, ⟨by (try simp only [hl9_4]); (try simp only [hl9_5]); (with_reducible repeat (first | apply Kd.R_alloc | apply Kd.R_drewN | apply Kd.R_drew)); exact HO_9.out⟩, ⟨by (try simp only [hl9_4]); (try simp only [hl9_5]); (with_reducible repeat (first | apply Kd.R_alloc | apply Kd.R_drewN | apply Kd.R_drew)); exact HO_14.out⟩, ⟨by (try simp only [hl9_4]); (try simp only [hl9_5]); (with_reducible repeat (first | apply Kd.Q_alloc | apply Kd.Q_drewN | apply Kd.Q_drew)); exact HO_15.out⟩, ⟨by (try simp only [hl9_4]); (try simp only [hl9_5]); (with_reducible repeat (first | apply Kd.R_alloc | apply Kd.R_drewN | apply Kd.R_drew)); exact HO_359004.out⟩, ⟨by (try simp only [hl9_4]); (try simp only [hl9_5]); (with_reducible repeat (first | refine blk_drewN ?_ _ | refine blk_drew ?_ | refine blk_alloc ?_ _)); exact BK358.out⟩, hbA HB⟩
     ·rw [if_neg c82] at H
      exact absurd H (by simp)
    ·rw [if_neg c81] at H
     have c81b0 : decide (0 < (x15_5.length : Int)) = false := decide_eq_false c81
     have c81b1 : decide (0 < x15_5.length) = false := decide_eq_false (by omega)
     (try (have c81b0h := c81b0; simp only [hl9_4] at c81b0h))
     (try (have c81b0h := c81b0; simp only [hl9_5] at c81b0h))
     (try (have c81b1h := c81b1; simp only [hl9_4] at c81b1h))
     (try (have c81b1h := c81b1; simp only [hl9_5] at c81b1h))
     clear c81
     (first | rw [c81b0] | (simp only [i64_w, i32_w]; rw [c81b0]) | skip)
     have H' := Aside0.mk H
     clear H
     obtain ⟨Ao84, co84, eo84, _⟩ := Kd.Q_slice HO_15.out
     subst eo84
     go_wp2
     go_meet
     case rel => exact ⟨_, (false), rfs, H', ⟨by have := HJ3.out; have := HK2.out; have := HK3.out; have := HK4.out; have := HK5.out; first | omega | exact Nat.le_refl _⟩, ⟨by (try simp only [hl9_4]); (try simp only [hl9_5]); (with_reducible repeat (first | apply Kd.R_alloc | apply Kd.R_drewN | apply Kd.R_drew)); exact HO_9.out⟩, ⟨by (try simp only [hl9_4]); (try simp only [hl9_5]); (with_reducible repeat (first | apply Kd.R_alloc | apply Kd.R_drewN | apply Kd.R_drew)); exact HO_14.out⟩, ⟨by (try simp only [hl9_4]); (try simp only [hl9_5]); (with_reducible repeat (first | apply Kd.Q_alloc | apply Kd.Q_drewN | apply Kd.Q_drew)); exact HO_15.out⟩, ⟨by (try simp only [hl9_4]); (try simp only [hl9_5]); (with_reducible repeat (first | apply Kd.R_alloc | apply Kd.R_drewN | apply Kd.R_drew)); exact HO_359004.out⟩, ⟨by (try simp only [hl9_4]); (try simp only [hl9_5]); (with_reducible repeat (first | refine blk_drewN ?_ _ | refine blk_drew ?_ | refine blk_alloc ?_ _)); exact BK358.out⟩, hbA HB⟩
   case rest =>
    clear HC80
    try clear c2
    try clear c11
    try clear c15
    try clear c15b0
    try clear c15b1
    try clear c16
    try clear c16b0
    try clear c16b1
    try clear c19
    try clear c19b0
    try clear c38
    try clear c38b0
    try clear c38b1
    try clear c39
    try clear c39b0
    try clear c39b1
    try clear c48
    try clear c48b0
    try clear c50
    try clear c50b0
    try clear hcz44_0
    try clear hcz44_1
    try clear hcz44_2
    try clear hcz44_3
    try clear hcz44_4
    try clear hfz44_0
    try clear hfz44_1
    try clear hfz44_2
    try clear hfz44_3
    try clear hfz44_4
    obtain ⟨kq, x125_79, rfl, HA, HJ79, HO_9, HO_14, HO_15, HO_359004, BK358, HB⟩ := hcut
    cases kq with
    | zero => exact absurd HA.out (by simp [hopmeshlaw49_InstallTogether.j5])
    | succ kj79 =>
     have H := HA.out
     clear HA
     simp only [hopmeshlaw49_InstallTogether.j5] at H
     by_cases c85 : x125_79 = true
     ·subst c85
      rw [if_pos rfl] at H
      by_cases c86 : 0 < (x15_5.length : Int)
      ·rw [if_pos c86] at H
       have c86b0 : decide (0 < (x15_5.length : Int)) = true := decide_eq_true c86
       have c86b1 : decide (0 < x15_5.length) = true := decide_eq_true (by omega)
       (try (have c86b0h := c86b0; simp only [hl9_4] at c86b0h))
       (try (have c86b0h := c86b0; simp only [hl9_5] at c86b0h))
       (try (have c86b1h := c86b1; simp only [hl9_4] at c86b1h))
       (try (have c86b1h := c86b1; simp only [hl9_5] at c86b1h))
       clear c86
       by_cases c87 : ji14 = 0
       ·rw [if_pos c87] at H
        exact absurd H (by simp)
       ·rw [if_neg c87] at H
        have c87b0 : (ji14 == 0) = false := beq_eq_false_iff_ne.mpr c87
        have c87b1 : (ji14 != 0) = true := bne_iff_ne.mpr c87
        (try (have c87b0h := c87b0; simp only [hl9_4] at c87b0h))
        (try (have c87b0h := c87b0; simp only [hl9_5] at c87b0h))
        (try (have c87b1h := c87b1; simp only [hl9_4] at c87b1h))
        (try (have c87b1h := c87b1; simp only [hl9_5] at c87b1h))
        obtain ⟨ji88, hji88⟩ : ∃ j_ : Int, (Int.tmod (wrap64 ((rd_T47 x15_5 0).f0)) ji14) = j_ := ⟨_, rfl⟩
        replace H : (if 0 ≤ (ji88) then (if (ji88) < (x9_5.length : Int) then ((install_Take.f kj79 ((rd_T28 x9_5 (ji88)).f0) ((rd_T28 x9_5 (ji88)).f1) ((rd_T28 x9_5 (ji88)).f2) ((rd_T28 x9_5 (ji88)).f3) ((rd_T28 x9_5 (ji88)).f4) ((rd_T28 x9_5 (ji88)).f5) 1 1 (wrap64 (a1)) t357 x8_2 (ji88) x75_3).bind fun bt381 => (if bt381.2.2.2.2.2.2 = 0 then (if (ji88) < (x14_5.length : Int) then ((some (x14_5.set ((ji88) : Int).toNat true : List Bool)).bind fun y389 => (if x75_3 < (wrap64 (a1)) then (if ((bt381.2.2.2.2.2.2 == 0) != (((rd_T28 x9_5 (ji88)).f5) == 0)) = true then (none) else (if 1 ≤ (x15_5.length : Int) then (hopmeshlaw49_InstallTogether.l3 kj79 a1 ji14 (x9_5.set ((ji88) : Int).toNat (⟨bt381.1, bt381.2.1, bt381.2.2.1, bt381.2.2.2.1, bt381.2.2.2.2.1, bt381.2.2.2.2.2.1⟩ : S28)) y389 (x15_5.drop (1 : Int).toNat) x75_3 x75_3 1 1 (wrap64 (a1)) t357 x8_2) else (none))) else (if ((bt381.2.2.2.2.2.2 == 0) != false) = true then (none) else (if 1 ≤ (x15_5.length : Int) then (hopmeshlaw49_InstallTogether.l3 kj79 a1 ji14 (x9_5.set ((ji88) : Int).toNat (⟨bt381.1, bt381.2.1, bt381.2.2.1, bt381.2.2.2.1, bt381.2.2.2.2.1, bt381.2.2.2.2.2.1⟩ : S28)) y389 (x15_5.drop (1 : Int).toNat) x75_3 x75_3 1 1 (wrap64 (a1)) t357 x8_2) else (none))))) else (none)) else (if x75_3 < (wrap64 (a1)) then (if ((bt381.2.2.2.2.2.2 == 0) != (((rd_T28 x9_5 (ji88)).f5) == 0)) = true then (none) else (if 1 ≤ (x15_5.length : Int) then (hopmeshlaw49_InstallTogether.l3 kj79 a1 ji14 (x9_5.set ((ji88) : Int).toNat (⟨bt381.1, bt381.2.1, bt381.2.2.1, bt381.2.2.2.1, bt381.2.2.2.2.1, bt381.2.2.2.2.2.1⟩ : S28)) x14_5 (x15_5.drop (1 : Int).toNat) x75_3 x75_3 1 1 (wrap64 (a1)) t357 x8_2) else (none))) else (if ((bt381.2.2.2.2.2.2 == 0) != false) = true then (none) else (if 1 ≤ (x15_5.length : Int) then (hopmeshlaw49_InstallTogether.l3 kj79 a1 ji14 (x9_5.set ((ji88) : Int).toNat (⟨bt381.1, bt381.2.1, bt381.2.2.1, bt381.2.2.2.1, bt381.2.2.2.2.1, bt381.2.2.2.2.2.1⟩ : S28)) x14_5 (x15_5.drop (1 : Int).toNat) x75_3 x75_3 1 1 (wrap64 (a1)) t357 x8_2) else (none)))))) else (none)) else (none)) = some r := by first | (rw [hji88] at H; exact H) | (simp only [hji88] at H ⊢; exact H)
        by_cases c89 : 0 ≤ (ji88)
        ·rw [if_pos c89] at H
         have c89b0 : decide (0 ≤ (ji88)) = true := decide_eq_true c89
         (try (have c89b0h := c89b0; simp only [hl9_4] at c89b0h))
         (try (have c89b0h := c89b0; simp only [hl9_5] at c89b0h))
         clear c89
         by_cases c90 : (ji88) < (x9_5.length : Int)
         ·rw [if_pos c90] at H
          have c90b0 : decide ((ji88) < (x9_5.length : Int)) = true := decide_eq_true c90
          (try (have c90b0h := c90b0; simp only [hl9_4] at c90b0h))
          (try (have c90b0h := c90b0; simp only [hl9_5] at c90b0h))
          clear c90
          replace H := Option.bind_eq_some_iff.mp H
          obtain ⟨⟨t381, t382, t383, t384, t385, t386, t387⟩, A910, H⟩ := H
          (try dsimp only at H)
          have A91 := Aside0.mk A910
          clear A910
          by_cases c92 : t387 = 0
          ·rw [if_pos c92] at H
           have c92b0 : (t387 == 0) = true := beq_iff_eq.mpr c92
           have c92b1 : (t387 != 0) = false := bne_eq_false_iff_eq.mpr c92
           (try (have c92b0h := c92b0; simp only [hl9_4] at c92b0h))
           (try (have c92b0h := c92b0; simp only [hl9_5] at c92b0h))
           (try (have c92b1h := c92b1; simp only [hl9_4] at c92b1h))
           (try (have c92b1h := c92b1; simp only [hl9_5] at c92b1h))
           clear c92
           by_cases c93 : (ji88) < (x14_5.length : Int)
           ·rw [if_pos c93] at H
            have c93b0 : decide ((ji88) < (x14_5.length : Int)) = true := decide_eq_true c93
            (try (have c93b0h := c93b0; simp only [hl9_4] at c93b0h))
            (try (have c93b0h := c93b0; simp only [hl9_5] at c93b0h))
            clear c93
            obtain ⟨y389, hy389⟩ : ∃ y_ : List Bool, y_ = (x14_5.set ((ji88) : Int).toNat true) := ⟨_, rfl⟩
            replace H : (if x75_3 < (wrap64 (a1)) then (if ((t387 == 0) != (((rd_T28 x9_5 (ji88)).f5) == 0)) = true then (none) else (if 1 ≤ (x15_5.length : Int) then (hopmeshlaw49_InstallTogether.l3 kj79 a1 ji14 (x9_5.set ((ji88) : Int).toNat (⟨t381, t382, t383, t384, t385, t386⟩ : S28)) y389 (x15_5.drop (1 : Int).toNat) x75_3 x75_3 1 1 (wrap64 (a1)) t357 x8_2) else (none))) else (if ((t387 == 0) != false) = true then (none) else (if 1 ≤ (x15_5.length : Int) then (hopmeshlaw49_InstallTogether.l3 kj79 a1 ji14 (x9_5.set ((ji88) : Int).toNat (⟨t381, t382, t383, t384, t385, t386⟩ : S28)) y389 (x15_5.drop (1 : Int).toNat) x75_3 x75_3 1 1 (wrap64 (a1)) t357 x8_2) else (none)))) = some r := by first | (rw [hy389]; with_reducible exact H) | (have H2_ := (Option.bind_some _ _).symm.trans H; rw [hy389]; with_reducible exact H2_) | (have H2_ := (Option.bind_some _ _).symm.trans H; with_reducible exact H2_) | with_reducible exact H | (rw [hy389]; exact H) | exact H
            have Ny389 := Aside0.mk hy389
            clear hy389
            by_cases c95 : x75_3 < (wrap64 (a1))
            ·rw [if_pos c95] at H
             have c95b0 : decide (x75_3 < (wrap64 (a1))) = true := decide_eq_true c95
             (try (have c95b0h := c95b0; simp only [hl9_4] at c95b0h))
             (try (have c95b0h := c95b0; simp only [hl9_5] at c95b0h))
             clear c95
             by_cases c96 : ((t387 == 0) != (((rd_T28 x9_5 (ji88)).f5) == 0)) = true
             ·rw [if_pos c96] at H
              exact absurd H (by simp)
             ·rw [if_neg c96] at H
              have c96b0 : ((t387 == 0) != (((rd_T28 x9_5 (ji88)).f5) == 0)) = false := by simpa using c96
              (try (have c96b1 : decide ((t387 == 0) = (((rd_T28 x9_5 (ji88)).f5) == 0)) = true := by simpa using c96))
              (try (have c96b2 : ((t387 == 0) == (((rd_T28 x9_5 (ji88)).f5) == 0)) = true := by simpa using c96))
              (try (have c96b0h := c96b0; simp only [hl9_4] at c96b0h))
              (try (have c96b0h := c96b0; simp only [hl9_5] at c96b0h))
              (try (have c96b1h := c96b1; simp only [hl9_4] at c96b1h))
              (try (have c96b1h := c96b1; simp only [hl9_5] at c96b1h))
              (try (have c96b2h := c96b2; simp only [hl9_4] at c96b2h))
              (try (have c96b2h := c96b2; simp only [hl9_5] at c96b2h))
              clear c96
              by_cases c97 : 1 ≤ (x15_5.length : Int)
              ·rw [if_pos c97] at H
               have c97b0 := eq_true c97
               have c97b1 : decide (1 ≤ (x15_5.length : Int)) = true := decide_eq_true c97
               clear c97
               obtain ⟨y391, hy391⟩ : ∃ y_ : List (S47), y_ = (x15_5.drop (1 : Int).toNat) := ⟨_, rfl⟩
               replace H : (hopmeshlaw49_InstallTogether.l3 kj79 a1 ji14 (x9_5.set ((ji88) : Int).toNat (⟨t381, t382, t383, t384, t385, t386⟩ : S28)) y389 y391 x75_3 x75_3 1 1 (wrap64 (a1)) t357 x8_2) = some r := by first | (rw [hy391]; with_reducible exact H) | (have H2_ := (Option.bind_some _ _).symm.trans H; rw [hy391]; with_reducible exact H2_) | (have H2_ := (Option.bind_some _ _).symm.trans H; with_reducible exact H2_) | with_reducible exact H | (rw [hy391]; exact H) | exact H
               have Ny391 := Aside0.mk hy391
               clear hy391
               obtain ⟨y394, hy394⟩ : ∃ y_ : List (S28), y_ = (x9_5.set ((ji88) : Int).toNat (⟨t381, t382, t383, t384, t385, t386⟩ : S28)) := ⟨_, rfl⟩
               replace H : (hopmeshlaw49_InstallTogether.l3 kj79 a1 ji14 y394 y389 y391 x75_3 x75_3 1 1 (wrap64 (a1)) t357 x8_2) = some r := by first | (rw [hy394]; with_reducible exact H) | (have H2_ := (Option.bind_some _ _).symm.trans H; rw [hy394]; with_reducible exact H2_) | (have H2_ := (Option.bind_some _ _).symm.trans H; with_reducible exact H2_) | with_reducible exact H | (rw [hy394]; exact H) | exact H
               have Ny394 := Aside0.mk hy394
               clear hy394
               have H' := Aside0.mk H
               clear H
               go_upto_region 29 with (fail)
               exact hopmeshlaw49_InstallTogether.part29a _ _ _ _ _ _ _ _ _ _ _ _ _ _ _ _ _ _ _ _ _ _ _ _ _ _ _ _ _ _ _ _ _ _ _ _ _ _ _ _ _ _ _ _ _ _ _ _ _ _ _ _ _ _ _ _ _ _ _ _ _ _ _ _ _ _ _ _ _ _ _ _ _ _ _ _ _ _ _ _ _ _ _ _ _ _ _ _ _ _ _ _ _ _ _ _ _ _ _ _ _ _ _ _ _ _ _ _ _ _ _ _ _ _ _ _ _ _ _ _ _ _ _ _ _ _ _ _ _ _ _ _ _ _ _ _ _ _ _ _ _ _ _ _ _ _ _ _ _ _ _ _ _ _ _ _ _ _ _ _ _ _ _ _ _ _ _ _ _ _ _ _ _ _ _ _ _ _ _ _ _ _ _ _ _ _ _ _ _ _ _ _ _ HJ3 hji14 hji14w HK2 GE358 z0 z1 z2 z3 z4 y0 y1 y2 y3 y4 HK3 hl9_4 HK4 c50b0h hl9_5 HK5 HO_9 HO_14 HO_15 HO_359004 BK358 HB HJ79 c86b0 c86b1 c87 c87b0 c87b1 hji88 c89b0 c90b0 A91 c92b0 c92b1 c93b0 Ny389 c95b0 c96b0 c96b1 c96b2 c97b0 c97b1 Ny391 Ny394 H' _ _ _ _ _ _ _ _ ‹_› ‹_› ‹_› (by kernel_rfl) (by kernel_rfl)
              ·rw [if_neg c97] at H
               exact absurd H (by simp)
            ·rw [if_neg c95] at H
             have c95b0 : decide (x75_3 < (wrap64 (a1))) = false := decide_eq_false c95
             (try (have c95b0h := c95b0; simp only [hl9_4] at c95b0h))
             (try (have c95b0h := c95b0; simp only [hl9_5] at c95b0h))
             clear c95
             by_cases c116 : ((t387 == 0) != false) = true
             ·rw [if_pos c116] at H
              exact absurd H (by simp)
             ·rw [if_neg c116] at H
              have c116b0 : ((t387 == 0) != false) = false := by simpa using c116
              (try (have c116b1 : decide ((t387 == 0) = false) = true := by simpa using c116))
              (try (have c116b2 : ((t387 == 0) == false) = true := by simpa using c116))
              (try (have c116b0h := c116b0; simp only [hl9_4] at c116b0h))
              (try (have c116b0h := c116b0; simp only [hl9_5] at c116b0h))
              (try (have c116b1h := c116b1; simp only [hl9_4] at c116b1h))
              (try (have c116b1h := c116b1; simp only [hl9_5] at c116b1h))
              (try (have c116b2h := c116b2; simp only [hl9_4] at c116b2h))
              (try (have c116b2h := c116b2; simp only [hl9_5] at c116b2h))
              clear c116
              by_cases c117 : 1 ≤ (x15_5.length : Int)
              ·rw [if_pos c117] at H
               have c117b0 := eq_true c117
               have c117b1 : decide (1 ≤ (x15_5.length : Int)) = true := decide_eq_true c117
               clear c117
               obtain ⟨y395, hy395⟩ : ∃ y_ : List (S47), y_ = (x15_5.drop (1 : Int).toNat) := ⟨_, rfl⟩
               replace H : (hopmeshlaw49_InstallTogether.l3 kj79 a1 ji14 (x9_5.set ((ji88) : Int).toNat (⟨t381, t382, t383, t384, t385, t386⟩ : S28)) y389 y395 x75_3 x75_3 1 1 (wrap64 (a1)) t357 x8_2) = some r := by first | (rw [hy395]; with_reducible exact H) | (have H2_ := (Option.bind_some _ _).symm.trans H; rw [hy395]; with_reducible exact H2_) | (have H2_ := (Option.bind_some _ _).symm.trans H; with_reducible exact H2_) | with_reducible exact H | (rw [hy395]; exact H) | exact H
               have Ny395 := Aside0.mk hy395
               clear hy395
               obtain ⟨y398, hy398⟩ : ∃ y_ : List (S28), y_ = (x9_5.set ((ji88) : Int).toNat (⟨t381, t382, t383, t384, t385, t386⟩ : S28)) := ⟨_, rfl⟩
               replace H : (hopmeshlaw49_InstallTogether.l3 kj79 a1 ji14 y398 y389 y395 x75_3 x75_3 1 1 (wrap64 (a1)) t357 x8_2) = some r := by first | (rw [hy398]; with_reducible exact H) | (have H2_ := (Option.bind_some _ _).symm.trans H; rw [hy398]; with_reducible exact H2_) | (have H2_ := (Option.bind_some _ _).symm.trans H; with_reducible exact H2_) | with_reducible exact H | (rw [hy398]; exact H) | exact H
               have Ny398 := Aside0.mk hy398
               clear hy398
               have H' := Aside0.mk H
               clear H
               exact absurd c116b0 (by rw [c92b0]; decide)
              ·rw [if_neg c117] at H
               exact absurd H (by simp)
           ·rw [if_neg c93] at H
            exact absurd H (by simp)
          ·rw [if_neg c92] at H
           have c92b0 : (t387 == 0) = false := beq_eq_false_iff_ne.mpr c92
           have c92b1 : (t387 != 0) = true := bne_iff_ne.mpr c92
           (try (have c92b0h := c92b0; simp only [hl9_4] at c92b0h))
           (try (have c92b0h := c92b0; simp only [hl9_5] at c92b0h))
           (try (have c92b1h := c92b1; simp only [hl9_4] at c92b1h))
           (try (have c92b1h := c92b1; simp only [hl9_5] at c92b1h))
           by_cases c136 : x75_3 < (wrap64 (a1))
           ·rw [if_pos c136] at H
            have c136b0 : decide (x75_3 < (wrap64 (a1))) = true := decide_eq_true c136
            (try (have c136b0h := c136b0; simp only [hl9_4] at c136b0h))
            (try (have c136b0h := c136b0; simp only [hl9_5] at c136b0h))
            clear c136
            by_cases c137 : ((t387 == 0) != (((rd_T28 x9_5 (ji88)).f5) == 0)) = true
            ·rw [if_pos c137] at H
             exact absurd H (by simp)
            ·rw [if_neg c137] at H
             have c137b0 : ((t387 == 0) != (((rd_T28 x9_5 (ji88)).f5) == 0)) = false := by simpa using c137
             (try (have c137b1 : decide ((t387 == 0) = (((rd_T28 x9_5 (ji88)).f5) == 0)) = true := by simpa using c137))
             (try (have c137b2 : ((t387 == 0) == (((rd_T28 x9_5 (ji88)).f5) == 0)) = true := by simpa using c137))
             (try (have c137b0h := c137b0; simp only [hl9_4] at c137b0h))
             (try (have c137b0h := c137b0; simp only [hl9_5] at c137b0h))
             (try (have c137b1h := c137b1; simp only [hl9_4] at c137b1h))
             (try (have c137b1h := c137b1; simp only [hl9_5] at c137b1h))
             (try (have c137b2h := c137b2; simp only [hl9_4] at c137b2h))
             (try (have c137b2h := c137b2; simp only [hl9_5] at c137b2h))
             clear c137
             by_cases c138 : 1 ≤ (x15_5.length : Int)
             ·rw [if_pos c138] at H
              have c138b0 := eq_true c138
              have c138b1 : decide (1 ≤ (x15_5.length : Int)) = true := decide_eq_true c138
              clear c138
              obtain ⟨y400, hy400⟩ : ∃ y_ : List (S47), y_ = (x15_5.drop (1 : Int).toNat) := ⟨_, rfl⟩
              replace H : (hopmeshlaw49_InstallTogether.l3 kj79 a1 ji14 (x9_5.set ((ji88) : Int).toNat (⟨t381, t382, t383, t384, t385, t386⟩ : S28)) x14_5 y400 x75_3 x75_3 1 1 (wrap64 (a1)) t357 x8_2) = some r := by first | (rw [hy400]; with_reducible exact H) | (have H2_ := (Option.bind_some _ _).symm.trans H; rw [hy400]; with_reducible exact H2_) | (have H2_ := (Option.bind_some _ _).symm.trans H; with_reducible exact H2_) | with_reducible exact H | (rw [hy400]; exact H) | exact H
              have Ny400 := Aside0.mk hy400
              clear hy400
              obtain ⟨y403, hy403⟩ : ∃ y_ : List (S28), y_ = (x9_5.set ((ji88) : Int).toNat (⟨t381, t382, t383, t384, t385, t386⟩ : S28)) := ⟨_, rfl⟩
              replace H : (hopmeshlaw49_InstallTogether.l3 kj79 a1 ji14 y403 x14_5 y400 x75_3 x75_3 1 1 (wrap64 (a1)) t357 x8_2) = some r := by first | (rw [hy403]; with_reducible exact H) | (have H2_ := (Option.bind_some _ _).symm.trans H; rw [hy403]; with_reducible exact H2_) | (have H2_ := (Option.bind_some _ _).symm.trans H; with_reducible exact H2_) | with_reducible exact H | (rw [hy403]; exact H) | exact H
              have Ny403 := Aside0.mk hy403
              clear hy403
              have H' := Aside0.mk H
              clear H
              go_upto_region 29 with (fail)
              exact hopmeshlaw49_InstallTogether.part29c _ _ _ _ _ _ _ _ _ _ _ _ _ _ _ _ _ _ _ _ _ _ _ _ _ _ _ _ _ _ _ _ _ _ _ _ _ _ _ _ _ _ _ _ _ _ _ _ _ _ _ _ _ _ _ _ _ _ _ _ _ _ _ _ _ _ _ _ _ _ _ _ _ _ _ _ _ _ _ _ _ _ _ _ _ _ _ _ _ _ _ _ _ _ _ _ _ _ _ _ _ _ _ _ _ _ _ _ _ _ _ _ _ _ _ _ _ _ _ _ _ _ _ _ _ _ _ _ _ _ _ _ _ _ _ _ _ _ _ _ _ _ _ _ _ _ _ _ _ _ _ _ _ _ _ _ _ _ _ _ _ _ _ _ _ _ _ _ _ _ _ _ _ _ _ _ _ _ _ _ _ _ _ _ _ _ _ _ _ _ _ _ HJ3 hji14 hji14w HK2 GE358 z0 z1 z2 z3 z4 y0 y1 y2 y3 y4 HK3 hl9_4 HK4 c50b0h hl9_5 HK5 HO_9 HO_14 HO_15 HO_359004 BK358 HB HJ79 c86b0 c86b1 c87 c87b0 c87b1 hji88 c89b0 c90b0 A91 c92 c92b0 c92b1 c136b0 c137b0 c137b1 c137b2 c138b0 c138b1 Ny400 Ny403 H' _ _ _ _ _ _ _ _ ‹_› ‹_› ‹_› (by kernel_rfl) (by kernel_rfl)
             ·rw [if_neg c138] at H
              exact absurd H (by simp)
           ·rw [if_neg c136] at H
            have c136b0 : decide (x75_3 < (wrap64 (a1))) = false := decide_eq_false c136
            (try (have c136b0h := c136b0; simp only [hl9_4] at c136b0h))
            (try (have c136b0h := c136b0; simp only [hl9_5] at c136b0h))
            clear c136
            by_cases c155 : ((t387 == 0) != false) = true
            ·rw [if_pos c155] at H
             exact absurd H (by simp)
            ·rw [if_neg c155] at H
             have c155b0 : ((t387 == 0) != false) = false := by simpa using c155
             (try (have c155b1 : decide ((t387 == 0) = false) = true := by simpa using c155))
             (try (have c155b2 : ((t387 == 0) == false) = true := by simpa using c155))
             (try (have c155b0h := c155b0; simp only [hl9_4] at c155b0h))
             (try (have c155b0h := c155b0; simp only [hl9_5] at c155b0h))
             (try (have c155b1h := c155b1; simp only [hl9_4] at c155b1h))
             (try (have c155b1h := c155b1; simp only [hl9_5] at c155b1h))
             (try (have c155b2h := c155b2; simp only [hl9_4] at c155b2h))
             (try (have c155b2h := c155b2; simp only [hl9_5] at c155b2h))
             clear c155
             by_cases c156 : 1 ≤ (x15_5.length : Int)
             ·rw [if_pos c156] at H
              have c156b0 := eq_true c156
              have c156b1 : decide (1 ≤ (x15_5.length : Int)) = true := decide_eq_true c156
              clear c156
              obtain ⟨y404, hy404⟩ : ∃ y_ : List (S47), y_ = (x15_5.drop (1 : Int).toNat) := ⟨_, rfl⟩
              replace H : (hopmeshlaw49_InstallTogether.l3 kj79 a1 ji14 (x9_5.set ((ji88) : Int).toNat (⟨t381, t382, t383, t384, t385, t386⟩ : S28)) x14_5 y404 x75_3 x75_3 1 1 (wrap64 (a1)) t357 x8_2) = some r := by first | (rw [hy404]; with_reducible exact H) | (have H2_ := (Option.bind_some _ _).symm.trans H; rw [hy404]; with_reducible exact H2_) | (have H2_ := (Option.bind_some _ _).symm.trans H; with_reducible exact H2_) | with_reducible exact H | (rw [hy404]; exact H) | exact H
              have Ny404 := Aside0.mk hy404
              clear hy404
              obtain ⟨y407, hy407⟩ : ∃ y_ : List (S28), y_ = (x9_5.set ((ji88) : Int).toNat (⟨t381, t382, t383, t384, t385, t386⟩ : S28)) := ⟨_, rfl⟩
              replace H : (hopmeshlaw49_InstallTogether.l3 kj79 a1 ji14 y407 x14_5 y404 x75_3 x75_3 1 1 (wrap64 (a1)) t357 x8_2) = some r := by first | (rw [hy407]; with_reducible exact H) | (have H2_ := (Option.bind_some _ _).symm.trans H; rw [hy407]; with_reducible exact H2_) | (have H2_ := (Option.bind_some _ _).symm.trans H; with_reducible exact H2_) | with_reducible exact H | (rw [hy407]; exact H) | exact H
              have Ny407 := Aside0.mk hy407
              clear hy407
              have H' := Aside0.mk H
              clear H
              go_upto_region 29 with (fail)
              exact hopmeshlaw49_InstallTogether.part29d _ _ _ _ _ _ _ _ _ _ _ _ _ _ _ _ _ _ _ _ _ _ _ _ _ _ _ _ _ _ _ _ _ _ _ _ _ _ _ _ _ _ _ _ _ _ _ _ _ _ _ _ _ _ _ _ _ _ _ _ _ _ _ _ _ _ _ _ _ _ _ _ _ _ _ _ _ _ _ _ _ _ _ _ _ _ _ _ _ _ _ _ _ _ _ _ _ _ _ _ _ _ _ _ _ _ _ _ _ _ _ _ _ _ _ _ _ _ _ _ _ _ _ _ _ _ _ _ _ _ _ _ _ _ _ _ _ _ _ _ _ _ _ _ _ _ _ _ _ _ _ _ _ _ _ _ _ _ _ _ _ _ _ _ _ _ _ _ _ _ _ _ _ _ _ _ _ _ _ _ _ _ _ _ _ _ _ _ _ _ _ _ HJ3 hji14 hji14w HK2 GE358 z0 z1 z2 z3 z4 y0 y1 y2 y3 y4 HK3 hl9_4 HK4 c50b0h hl9_5 HK5 HO_9 HO_14 HO_15 HO_359004 BK358 HB HJ79 c86b0 c86b1 c87 c87b0 c87b1 hji88 c89b0 c90b0 A91 c92 c92b0 c92b1 c136b0 c155b0 c155b1 c155b2 c156b0 c156b1 Ny404 Ny407 H' _ _ _ _ _ _ _ _ ‹_› ‹_› ‹_› (by kernel_rfl) (by kernel_rfl)
             ·rw [if_neg c156] at H
              exact absurd H (by simp)
         ·rw [if_neg c90] at H
          exact absurd H (by simp)
        ·rw [if_neg c89] at H
         exact absurd H (by simp)
      ·rw [if_neg c86] at H
       exact absurd H (by simp)
     ·replace c85 := Bool.eq_false_iff.mpr c85
      subst c85
      rw [if_neg (show ¬ (false = true) by decide)] at H
      have H' := Aside0.mk H
      clear H
      go_wp2
      (try simp only [← hl9_4, ← hl9_5])
      go_roundg kj79
      case measure => have := HJ3.out; have := HK2.out; have := HK3.out; have := HK4.out; have := HK5.out; have := HJ79.out; omega
      case rel => exact ⟨(x9_5), (x14_5), (x15_5), (wrap64 (x75_3 + 1)), rfs, H', ⟨by have := HJ3.out; have := HK2.out; have := HK3.out; have := HK4.out; have := HK5.out; have := HJ79.out; omega⟩, ⟨by (try simp only [hl9_4]); (try simp only [hl9_5]); (with_reducible repeat (first | apply Kd.R_alloc | apply Kd.R_drewN | apply Kd.R_drew)); exact HO_9.out⟩, ⟨by (try simp only [hl9_4]); (try simp only [hl9_5]); (with_reducible repeat (first | apply Kd.R_alloc | apply Kd.R_drewN | apply Kd.R_drew)); exact HO_14.out⟩, ⟨by (try simp only [hl9_4]); (try simp only [hl9_5]); (with_reducible repeat (first | apply Kd.Q_alloc | apply Kd.Q_drewN | apply Kd.Q_drew)); exact HO_15.out⟩, ⟨by (try simp only [hl9_4]); (try simp only [hl9_5]); (with_reducible repeat (first | apply Kd.R_alloc | apply Kd.R_drewN | apply Kd.R_drew)); exact HO_359004.out⟩, ⟨by (try simp only [hl9_4]); (try simp only [hl9_5]); (with_reducible repeat (first | refine blk_drewN ?_ _ | refine blk_drew ?_ | refine blk_alloc ?_ _)); exact BK358.out⟩, hbA HB⟩
end Go.Proofs.Ytdigplhjfjchnaa.PQ
