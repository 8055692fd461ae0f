-- Printed by fprint.py and zip.py, programs of this session's, over the kit's print; Lean checks it.
import Derived.Test.YtdigplhjfjchnaaZ0
import Derived.Test.YtdigplhjfjchnaaZf11
import Derived.Test.YtdigplhjfjchnaaZf12
import Derived.Test.YtdigplhjfjchnaaZf14
import Derived.Test.YtdigplhjfjchnaaZf15
import Derived.Test.YtdigplhjfjchnaaZf10
import Derived.Test.YtdigplhjfjchnaaZf17
import Derived.Test.YtdigplhjfjchnaaZT
import Derived.Test.YtdigplhjfjchnaaZf5d
import Derived.Test.YtdigplhjfjchnaaZC2
namespace Go.Proofs.Ytdigplhjfjchnaa.PQ
open Go.RowKit Go.Proofs.YtdigplhjfjchnaaW.PrintWords Go.Proofs.YtdigplhjfjchnaaW.PrintLast Go.Proofs.YtdigplhjfjchnaaW.PrintMore
attribute [local go_sem] max2_int min2_int max_two min_two max_three min_three max_four min_four   -- for this text's walks alone
set_option linter.unusedVariables false
set_option linter.unusedSimpArgs false
def hopmeshlaw49_InstallTogether.T30_part29c : Bool × List (List Nat × List Nat) := (true, [([], []), ([], []), ([0, 1], [0, 1]), ([2], [2]), ([], []), ([], []), ([], []), ([3, 4, 5, 6], [3, 4, 5, 6]), ([7], [7]), ([8], [8]), ([8], [8]), ([], []), ([11, 9, 7, 0, 1, 2, 3, 4, 5, 6, 7, 8, 9, 11], [9, 11]), ([10, 12, 0, 1, 2, 3, 4, 5, 6, 7, 8, 9, 10, 11, 12], [10])])
def hopmeshlaw49_InstallTogether.B30_part29c : List Nat := [0, 0, 3, 7, 0, 0, 0, 127, 255, 511, 511, 0, 3071, 8191]
theorem hopmeshlaw49_InstallTogether.tab30_part29c : rtab .any (opsOf Try.f5 30) = hopmeshlaw49_InstallTogether.T30_part29c := by kernel_rfl
theorem hopmeshlaw49_InstallTogether.bits30_part29c : waitsOk hopmeshlaw49_InstallTogether.T30_part29c.2 hopmeshlaw49_InstallTogether.B30_part29c = true := by kernel_rfl
def hopmeshlaw49_InstallTogether.T35_part29c : Bool × List (List Nat × List Nat) := (true, [([], []), ([], []), ([], []), ([], []), ([3], [3]), ([0, 1, 0, 1, 2], [0, 1]), ([5, 2, 0, 1, 2], [2, 5]), ([4, 6, 0, 1, 2, 3, 4, 5, 6], [3, 4])])
def hopmeshlaw49_InstallTogether.B35_part29c : List Nat := [0, 0, 0, 0, 8, 7, 39, 127]
theorem hopmeshlaw49_InstallTogether.tab35_part29c : rtab .any (opsOf Try.f5 35) = hopmeshlaw49_InstallTogether.T35_part29c := by kernel_rfl
theorem hopmeshlaw49_InstallTogether.bits35_part29c : waitsOk hopmeshlaw49_InstallTogether.T35_part29c.2 hopmeshlaw49_InstallTogether.B35_part29c = true := by kernel_rfl
set_option maxHeartbeats 8000000 in
set_option maxRecDepth 100000 in
theorem hopmeshlaw49_InstallTogether.part29c (k : Nat) (a0 : Int) (a1 : Int) (A2 : Option Addr) (c2 : Nat) (l2 : List S47) (r : Bool) (w : World) (u26 : Value) (u27 : Value) (u28 : Value) (u29 : Value) (u30 : Value) (u31 : Value) (u32 : Value) (u33 : Value) (u34 : Value) (u35 : Value) (u37 : Value) (u174 : Value) (u175 : Value) (u176 : Value) (u177 : Value) (u178 : Value) (u179 : Value) (u180 : Value) (u181 : Value) (u182 : Value) (u183 : Value) (u184 : Value) (u185 : Value) (u186 : Value) (u187 : Value) (u188 : Value) (u189 : Value) (u190 : Value) (u191 : Value) (kj3 : Nat) (ji14 : Int) (u10 : Value) (u11 : Value) (u12 : Value) (u47 : Value) (u48 : Value) (u49 : Value) (u50 : Value) (u51 : Value) (u52 : Value) (u53 : Value) (u54 : Value) (u55 : Value) (u56 : Value) (u57 : Value) (u58 : Value) (u59 : Value) (u60 : Value) (u61 : Value) (u62 : Value) (u63 : Value) (u64 : Value) (u65 : Value) (x8_2 : List Int) (x45_2 : Int) (k2 : Nat) (t357 : ByteArray) (Ao42 : Option Addr) (co42 : Nat) (gb358 : Nat) (w43 : World) (v360 : Value) (v363 : Value) (u170 : Value) (x9_3 : List S28) (x75_3 : Int) (k3 : Nat) (Ao49 : Option Addr) (co49 : Nat) (u17 : Value) (u18 : Value) (u19 : Value) (u20 : Value) (u82 : Value) (u83 : Value) (u84 : Value) (u85 : Value) (u86 : Value) (u87 : Value) (u88 : Value) (u89 : Value) (u90 : Value) (u91 : Value) (u92 : Value) (u93 : Value) (u94 : Value) (u95 : Value) (u96 : Value) (u97 : Value) (u98 : Value) (u99 : Value) (u100 : Value) (u101 : Value) (u102 : Value) (u103 : Value) (u104 : Value) (u105 : Value) (u106 : Value) (u107 : Value) (u108 : Value) (u109 : Value) (u110 : Value) (u111 : Value) (u112 : Value) (u113 : Value) (x9_4 : List S28) (x80_4 : Int) (k4 : Nat) (u15 : Value) (x9_5 : List S28) (x14_5 : List Bool) (x15_5 : List S47) (k5 : Nat) (wc : World) (kj79 : Nat) (ji88 : Int) (t381 : ByteArray) (t382 : ByteArray) (t383 : Bool) (t384 : ByteArray) (t385 : Int) (t386 : Int) (t387 : Int) (y400 : List S47) (y403 : List S28) (U6 U21 U22 U23 U114 U115 U116 U117 U118 U119 U120 U121 U122 U123 U124 U126 U127 U128 U129 U130 U131 U132 U133 U134 U135 U136 U137 U138 U139 U140 U141 U142 U143 U144 U145 U146 U147 U148 U149 U150 U151 U152 U153 U154 U155 U156 U157 U158 U159 U160 U161 U162 U163 U164 U165 U166 U167 U168 U169 : Value) (HJ3 : Aside0 (kj3 + (1 : Nat) ≤ k)) (hji14 : wrap64 ((1 : Int) + wrap64 (Int.tmod a0 (8 : Int))) = ji14) (hji14w : IntKind.wrap IntKind.i64 ((1 : Int) + wrap64 (Int.tmod a0 (8 : Int))) = ji14) (HK2 : Aside0 (k2 + (1 : Nat) ≤ kj3)) (GE358 : Aside0 (Array.size (World.heap w) ≤ gb358)) (z0 : World.cell? w43 { block := gb358, off := (0 : Nat) } = some (Value.int IntKind.i64 (0 : Int))) (z1 : World.cell? w43 { block := gb358, off := (1 : Nat) } = some (Value.int IntKind.i64 (0 : Int))) (z2 : World.cell? w43 { block := gb358, off := (2 : Nat) } = some (Value.int IntKind.i64 (0 : Int))) (z3 : World.cell? w43 { block := gb358, off := (3 : Nat) } = some (Value.string { data := #[] })) (z4 : World.cell? w43 { block := gb358, off := (4 : Nat) } = some (Value.slice none (0 : Nat) (0 : Nat))) (y0 : World.frozen? w43 { block := gb358, off := (0 : Nat) } = false) (y1 : World.frozen? w43 { block := gb358, off := (1 : Nat) } = false) (y2 : World.frozen? w43 { block := gb358, off := (2 : Nat) } = false) (y3 : World.frozen? w43 { block := gb358, off := (3 : Nat) } = false) (y4 : World.frozen? w43 { block := gb358, off := (4 : Nat) } = false) (HK3 : Aside0 (k3 + (1 : Nat) ≤ k2)) (hl9_4 : List.length x9_3 = List.length x9_4) (HK4 : Aside0 (k4 + (1 : Nat) ≤ k3)) (c50b0h : decide (x80_4 < (↑(List.length x9_4) : Int)) = false) (hl9_5 : List.length x9_4 = List.length x9_5) (HK5 : Aside0 (k5 + (1 : Nat) ≤ k4)) (HO_9 : Aside0 (Kd.R k28 (28 : Nat) wc (Array.size (World.heap w)) (fun (x : Nat) => True) (Value.slice Ao49 (List.length x9_5) co49) x9_5)) (HO_14 : Aside0 (Kd.R Kd.bool (4 : Nat) wc (Array.size (World.heap w)) (fun (x : Nat) => True) v360 x14_5)) (HO_15 : Aside0 (Kd.Q k47 (47 : Nat) wc (Array.size (World.heap w)) (fun (x : Nat) => True) u15 x15_5)) (HO_359004 : Aside0 (Kd.R (Kd.int IntKind.i64) (3 : Nat) wc (Array.size (World.heap w)) (fun (x : Nat) => True) (Value.slice Ao42 (List.length x8_2) co42) x8_2)) (BK358 : Aside0 ((World.heap wc)[gb358]? = some (Obj.cells #[Value.int IntKind.i64 (1 : Int), Value.int IntKind.i64 (1 : Int), Value.int IntKind.i64 (wrap64 a1), Value.string t357, Value.slice Ao42 (List.length x8_2) co42] (36 : TypeId)))) (HB : Aside0 (Below (Array.size (World.heap w)) w wc)) (HJ79 : Aside0 (kj79 + (1 : Nat) ≤ k5)) (c86b0 : decide ((0 : Int) < (↑(List.length x15_5) : Int)) = true) (c86b1 : decide ((0 : Nat) < List.length x15_5) = true) (c87 : ¬ji14 = (0 : Int)) (c87b0 : (ji14 == (0 : Int)) = false) (c87b1 : (ji14 != (0 : Int)) = true) (hji88 : Int.tmod (wrap64 (S47.f0 (rd_T47 x15_5 (0 : Int)))) ji14 = ji88) (c89b0 : decide ((0 : Int) ≤ ji88) = true) (c90b0 : decide (ji88 < (↑(List.length x9_5) : Int)) = true) (A91 : Aside0 (install_Take.f kj79 (S28.f0 (rd_T28 x9_5 ji88)) (S28.f1 (rd_T28 x9_5 ji88)) (S28.f2 (rd_T28 x9_5 ji88)) (S28.f3 (rd_T28 x9_5 ji88)) (S28.f4 (rd_T28 x9_5 ji88)) (S28.f5 (rd_T28 x9_5 ji88)) (1 : Int) (1 : Int) (wrap64 a1) t357 x8_2 ji88 x75_3 = some (t381, t382, t383, t384, t385, t386, t387))) (c92 : ¬t387 = (0 : Int)) (c92b0 : (t387 == (0 : Int)) = false) (c92b1 : (t387 != (0 : Int)) = true) (c136b0 : decide (x75_3 < wrap64 a1) = true) (c137b0 : ((t387 == (0 : Int)) != (S28.f5 (rd_T28 x9_5 ji88) == (0 : Int))) = false) (c137b1 : decide ((t387 == (0 : Int)) = (S28.f5 (rd_T28 x9_5 ji88) == (0 : Int))) = true) (c137b2 : ((t387 == (0 : Int)) == (S28.f5 (rd_T28 x9_5 ji88) == (0 : Int))) = true) (c138b0 : ((1 : Int) ≤ (↑(List.length x15_5) : Int)) = True) (c138b1 : decide ((1 : Int) ≤ (↑(List.length x15_5) : Int)) = true) (Ny400 : Aside0 (y400 = List.drop (Int.toNat (1 : Int)) x15_5)) (Ny403 : Aside0 (y403 = List.set x9_5 (Int.toNat ji88) { f0 := t381, f1 := t382, f2 := t383, f3 := t384, f4 := t385, f5 := t386 })) (H' : Aside0 (l3 kj79 a1 ji14 y403 x14_5 y400 x75_3 x75_3 (1 : Int) (1 : Int) (wrap64 a1) t357 x8_2 = some r)) (z611_ : Act → World → Prop) (z501_ : Act → World → Prop) (z378_ : Act → World → Prop) (z358_ : Act → World → Prop) (z249_ : Act → World → Prop) (z500_ : Nat → Act → World → Prop) (cc0_ cc5_ : Code) :
 let z13_ : Exit → Act → World → Prop := bodyPost Try.prog Try.f5 fun (e : Ending) (w' : World) => e = Ending.returned (Value.bool r) ∧ Below (Array.size (World.heap w)) w w'; (∀ (a : Act) (w : World), Code.wp Try.prog cc5_ (Exit.inBlock (7 : Nat) (Exit.then z501_ (Exit.inBlock (6 : Nat) (Exit.inBlock (3 : Nat) (Exit.then z378_ (Exit.then z358_ (Exit.inBlock (2 : Nat) (Exit.then z249_ z13_)))))))) a w → z611_ a w) → (∀ (a' : Act) (w' : World), Handed z500_ (k5 + (1 : Nat)) a' w' → z501_ a' w') → (∀ (k : Nat) (a' : Act) (w' : World), (∃ (u6 : Value), ∃ (u15 : Value), ∃ (u21 : Value), ∃ (u22 : Value), ∃ (u23 : Value), ∃ (u114 : Value), ∃ (u115 : Value), ∃ (u116 : Value), ∃ (u117 : Value), ∃ (u118 : Value), ∃ (u119 : Value), ∃ (u120 : Value), ∃ (u121 : Value), ∃ (u122 : Value), ∃ (u123 : Value), ∃ (u124 : Value), ∃ (u125 : Value), ∃ (u126 : Value), ∃ (u127 : Value), ∃ (u128 : Value), ∃ (u129 : Value), ∃ (u130 : Value), ∃ (u131 : Value), ∃ (u132 : Value), ∃ (u133 : Value), ∃ (u134 : Value), ∃ (u135 : Value), ∃ (u136 : Value), ∃ (u137 : Value), ∃ (u138 : Value), ∃ (u139 : Value), ∃ (u140 : Value), ∃ (u141 : Value), ∃ (u142 : Value), ∃ (u143 : Value), ∃ (u144 : Value), ∃ (u145 : Value), ∃ (u146 : Value), ∃ (u147 : Value), ∃ (u148 : Value), ∃ (u149 : Value), ∃ (u150 : Value), ∃ (u151 : Value), ∃ (u152 : Value), ∃ (u153 : Value), ∃ (u154 : Value), ∃ (u155 : Value), ∃ (u156 : Value), ∃ (u157 : Value), ∃ (u158 : Value), ∃ (u159 : Value), ∃ (u160 : Value), ∃ (u161 : Value), ∃ (u162 : Value), ∃ (u163 : Value), ∃ (u164 : Value), ∃ (u165 : Value), ∃ (u166 : Value), ∃ (u167 : Value), ∃ (u168 : Value), ∃ (u169 : Value), (∃ (x9_5 : List S28), ∃ (x14_5 : List Bool), ∃ (x15_5 : List S47), Aside0 (l3 k a1 ji14 x9_5 x14_5 x15_5 x75_3 x75_3 (1 : Int) (1 : Int) (wrap64 a1) t357 x8_2 = some r) ∧ Aside0 (k ≤ k4) ∧ Aside0 (Kd.R k28 (28 : Nat) w' (Array.size (World.heap w)) (fun (x : Nat) => True) (Value.slice Ao49 (List.length x9_4) co49) x9_5) ∧ Aside0 (Kd.R Kd.bool (4 : Nat) w' (Array.size (World.heap w)) (fun (x : Nat) => True) v360 x14_5) ∧ Aside0 (Kd.Q k47 (47 : Nat) w' (Array.size (World.heap w)) (fun (x : Nat) => True) u15 x15_5) ∧ Aside0 (Kd.R (Kd.int IntKind.i64) (3 : Nat) w' (Array.size (World.heap w)) (fun (x : Nat) => True) (Value.slice Ao42 (List.length x8_2) co42) x8_2) ∧ Aside0 ((World.heap w')[gb358]? = some (Obj.cells #[Value.int IntKind.i64 (1 : Int), Value.int IntKind.i64 (1 : Int), Value.int IntKind.i64 (wrap64 a1), Value.string t357, Value.slice Ao42 (List.length x8_2) co42] (36 : TypeId))) ∧ Aside0 (Below (Array.size (World.heap w)) w w')) ∧ a' = { tmps := #[Value.int IntKind.u8 a0, Value.int IntKind.u8 a1, Value.slice A2 (List.length l2) c2, undef, undef, undef, u6, Value.int IntKind.i64 ji14, Value.slice Ao42 (List.length x8_2) co42, Value.slice Ao49 (List.length x9_4) co49, u10, u11, u12, Value.pointer (some { block := gb358, off := (0 : Nat) }), v360, u15, Value.int IntKind.i64 x75_3, u17, u18, u19, u20, u21, u22, u23, undef, undef, u26, u27, u28, u29, u30, u31, u32, u33, u34, u35, Value.bool false, u37, Value.int IntKind.u8 a0, Value.int IntKind.u8 (Int.tmod a0 (8 : Int)), Value.int IntKind.i64 (wrap64 (Int.tmod a0 (8 : Int))), Value.int IntKind.i64 ji14, Value.int IntKind.i64 ji14, Value.slice Ao49 (List.length x9_4) co49, Value.int IntKind.i64 ji14, Value.int IntKind.i64 x45_2, Value.bool false, u47, u48, u49, u50, u51, u52, u53, u54, u55, u56, u57, u58, u59, u60, u61, u62, u63, u64, u65, Value.int IntKind.u8 a1, Value.int IntKind.i64 (wrap64 a1), Value.string t357, Value.slice Ao42 (List.length x8_2) co42, Value.agg #[Value.int IntKind.i64 (1 : Int), Value.int IntKind.i64 (1 : Int), Value.int IntKind.i64 (wrap64 a1), Value.string t357, Value.slice Ao42 (List.length x8_2) co42], Value.int IntKind.i64 ji14, v360, Value.slice A2 (List.length l2) c2, v363, Value.int IntKind.i64 x75_3, Value.bool true, Value.int IntKind.i64 x75_3, Value.slice Ao49 (List.length x9_4) co49, Value.int IntKind.i64 (↑(List.length x9_4) : Int), Value.int IntKind.i64 x80_4, Value.bool false, u82, u83, u84, u85, u86, u87, u88, u89, u90, u91, u92, u93, u94, u95, u96, u97, u98, u99, u100, u101, u102, u103, u104, u105, u106, u107, u108, u109, u110, u111, u112, u113, u114, u115, u116, u117, u118, u119, u120, u121, u122, u123, u124, u125, u126, u127, u128, u129, u130, u131, u132, u133, u134, u135, u136, u137, u138, u139, u140, u141, u142, u143, u144, u145, u146, u147, u148, u149, u150, u151, u152, u153, u154, u155, u156, u157, u158, u159, u160, u161, u162, u163, u164, u165, u166, u167, u168, u169, u170, undef, undef, undef, u174, u175, u176, u177, u178, u179, u180, u181, u182, u183, u184, u185, u186, u187, u188, u189, u190, u191], defers := [] }) → z500_ k a' w') → Option.bind Try.f5.body (codeAt [1, 1, 1, 1, 1, 1, 1, 1, 1, 0, 1, 0, 0, 1, 1, 0, 0, 1, 1, 0, 0, 1, 0, 0]) = some cc0_ → Option.bind Try.f5.body (codeAt [1, 1, 1, 1, 1, 1, 1, 1, 1, 0, 1, 0, 0, 1, 1, 0, 0, 1, 1, 0, 0, 1, 0, 1]) = some cc5_ → Code.wp Try.prog cc0_ (Exit.then z611_ (Exit.inBlock (7 : Nat) (Exit.then z501_ (Exit.inBlock (6 : Nat) (Exit.inBlock (3 : Nat) (Exit.then z378_ (Exit.then z358_ (Exit.inBlock (2 : Nat) (Exit.then z249_ z13_))))))))) ⟨#[Value.int IntKind.u8 a0, Value.int IntKind.u8 a1, Value.slice A2 (List.length l2) c2, undef, undef, undef, U6, Value.int IntKind.i64 ji14, Value.slice Ao42 (List.length x8_2) co42, Value.slice Ao49 (List.length x9_5) co49, u10, u11, u12, Value.pointer (some { block := gb358, off := (0 : Nat) }), v360, u15, Value.int IntKind.i64 x75_3, u17, u18, u19, u20, U21, U22, U23, undef, undef, u26, u27, u28, u29, u30, u31, u32, u33, u34, u35, Value.bool false, u37, Value.int IntKind.u8 a0, Value.int IntKind.u8 (Int.tmod a0 (8 : Int)), Value.int IntKind.i64 (wrap64 (Int.tmod a0 (8 : Int))), Value.int IntKind.i64 ji14, Value.int IntKind.i64 ji14, Value.slice Ao49 (List.length x9_5) co49, Value.int IntKind.i64 ji14, Value.int IntKind.i64 x45_2, Value.bool false, u47, u48, u49, u50, u51, u52, u53, u54, u55, u56, u57, u58, u59, u60, u61, u62, u63, u64, u65, Value.int IntKind.u8 a1, Value.int IntKind.i64 (wrap64 a1), Value.string t357, Value.slice Ao42 (List.length x8_2) co42, Value.agg #[Value.int IntKind.i64 (1 : Int), Value.int IntKind.i64 (1 : Int), Value.int IntKind.i64 (wrap64 a1), Value.string t357, Value.slice Ao42 (List.length x8_2) co42], Value.int IntKind.i64 ji14, v360, Value.slice A2 (List.length l2) c2, v363, Value.int IntKind.i64 x75_3, Value.bool true, Value.int IntKind.i64 x75_3, Value.slice Ao49 (List.length x9_5) co49, Value.int IntKind.i64 (↑(List.length x9_5) : Int), Value.int IntKind.i64 x80_4, Value.bool false, u82, u83, u84, u85, u86, u87, u88, u89, u90, u91, u92, u93, u94, u95, u96, u97, u98, u99, u100, u101, u102, u103, u104, u105, u106, u107, u108, u109, u110, u111, u112, u113, U114, U115, U116, U117, U118, U119, U120, U121, U122, U123, U124, Value.bool true, U126, U127, U128, U129, U130, U131, U132, U133, U134, U135, U136, U137, U138, U139, U140, U141, U142, U143, U144, U145, U146, U147, U148, U149, U150, U151, U152, U153, U154, U155, U156, U157, U158, U159, U160, U161, U162, U163, U164, U165, U166, U167, U168, U169, u170, undef, undef, undef, u174, u175, u176, u177, u178, u179, u180, u181, u182, u183, u184, u185, u186, u187, u188, u189, u190, u191], []⟩ (wc) := by
 intro z13_ hk0_ hk1_ hk2_ hc0_ hc1_
 conv at hc0_ => lhs; whnf
 replace hc0_ := Option.some.inj hc0_
 subst hc0_
 conv at hc1_ => lhs; whnf
 replace hc1_ := Option.some.inj hc1_
 subst hc1_
 have hu28 := Try.underlying28
 have hu36 := Try.underlying36
 have c137y : ((rd_T28 x9_5 ji88).f5 == 0) = false := by have h_ := c137b0; rw [c92b0] at h_; simpa using h_
 obtain ⟨Ao140, co140, eo140, _⟩ := Kd.Q_slice HO_15.out
 subst eo140
 have p379 : 0 ≤ (0 : Int) := (by omega)
 have q379 : 0 < (x15_5.length : Int) := pos_
 obtain ⟨ad379, e379, hx379_0, hx379_1, hx379_2⟩ := at_T47 (Kd.Q_reads' HO_15.out).2.2 0 p379 q379
 cases e379
 have qi379 : (0 < x15_5.length) = True := eq_true (by omega)
 (try rw [show ((0 : Int)).toNat = 0 from rfl] at hx379_0)
 (try rw [show 0 * 3 = 0 from rfl] at hx379_0)
 (try rw [Addr.add_zero'] at hx379_0)
 (try rw [show ((0 : Int)).toNat = 0 from rfl] at hx379_1)
 (try rw [show 0 * 3 = 0 from rfl] at hx379_1)
 (try rw [Addr.add_zero'] at hx379_1)
 (try rw [show ((0 : Int)).toNat = 0 from rfl] at hx379_2)
 (try rw [show 0 * 3 = 0 from rfl] at hx379_2)
 (try rw [Addr.add_zero'] at hx379_2)
 replace p379 := eq_true p379
 replace q379 := eq_true q379
 try go_wp2
 replace HO_9 := Aside0.mk (Kd.R_drew HO_9.out)
 replace HO_14 := Aside0.mk (Kd.R_drew HO_14.out)
 replace HO_15 := Aside0.mk (Kd.Q_drew HO_15.out)
 replace HO_359004 := Aside0.mk (Kd.R_drew HO_359004.out)
 replace BK358 := Aside0.mk (blk_drew BK358.out)
 replace HB := Aside0.mk (below_drew1 HB.out)
 have p380 : 0 ≤ ((ji88) : Int) := pos_
 have q380 : (ji88) < (x9_5.length : Int) := pos_
 obtain ⟨ad380, e380, hx380_0, hx380_1, hx380_2, hx380_3, hx380_4, hx380_5⟩ := at_T28 (Kd.R_reads' HO_9.out).2.2 (ji88) p380 q380
 cases e380
 replace p380 := eq_true p380
 replace q380 := eq_true q380
 refine start_ (n := 14) (S := fun w' => w'.cell? ⟨gb358, 0, none⟩ = some (.int .i64 1) ∧ w'.cell? ⟨gb358, 1, none⟩ = some (.int .i64 1) ∧ w'.cell? ⟨gb358, 2, none⟩ = some (.int .i64 (wrap64 (a1))) ∧ w'.cell? ⟨gb358, 3, none⟩ = some (.string t357) ∧ w'.cell? ⟨gb358, 4, none⟩ = some (.slice Ao42 x8_2.length co42) ∧ w'.cell? (ad380.add (((ji88)).toNat * 6)) = some (.string ((rd_T28 x9_5 (ji88)).f0)) ∧ w'.cell? ⟨(ad380.add (((ji88)).toNat * 6)).block, (ad380.add (((ji88)).toNat * 6)).off + 1, none⟩ = some (.string ((rd_T28 x9_5 (ji88)).f1)) ∧ w'.cell? ⟨(ad380.add (((ji88)).toNat * 6)).block, (ad380.add (((ji88)).toNat * 6)).off + 2, none⟩ = some (.bool ((rd_T28 x9_5 (ji88)).f2)) ∧ w'.cell? ⟨(ad380.add (((ji88)).toNat * 6)).block, (ad380.add (((ji88)).toNat * 6)).off + 3, none⟩ = some (.string ((rd_T28 x9_5 (ji88)).f3)) ∧ w'.cell? ⟨(ad380.add (((ji88)).toNat * 6)).block, (ad380.add (((ji88)).toNat * 6)).off + 4, none⟩ = some (.int .i64 ((rd_T28 x9_5 (ji88)).f4)) ∧ w'.cell? ⟨(ad380.add (((ji88)).toNat * 6)).block, (ad380.add (((ji88)).toNat * 6)).off + 5, none⟩ = some (.int .i64 ((rd_T28 x9_5 (ji88)).f5))) (ds := []) #[false, false, false, false, false, false, false, false, false, false, false, false, false, false] (by kernel_rfl) rfl rfl ⟨(blk_cell BK358.out 0).trans rfl, (blk_cell BK358.out 1).trans rfl, (blk_cell BK358.out 2).trans rfl, (blk_cell BK358.out 3).trans rfl, (blk_cell BK358.out 4).trans rfl, hx380_0, hx380_1, hx380_2, hx380_3, hx380_4, hx380_5⟩ (fun hHeld => ?_); refine with_tabW hopmeshlaw49_InstallTogether.tab30_part29c hopmeshlaw49_InstallTogether.bits30_part29c (fun HT_ HW_ => ?_)
 generalize wc.drew = w141 at HO_9 HO_14 HO_15 HO_359004 BK358 HB hx380_0 hx380_1 hx380_2 hx380_3 hx380_4 hx380_5 hHeld ⊢
 refine pur 0 (some 134) #[true, false, false, false, false, false, false, false, false, false, false, false, false, false] HT_ ?_
 refine pur 1 (some 135) #[true, true, false, false, false, false, false, false, false, false, false, false, false, false] HT_ ?_
 refine pur 2 (some 136) #[true, true, true, false, false, false, false, false, false, false, false, false, false, false] HT_ ?_
 refine pur 5 (some 139) #[true, true, true, false, false, true, false, false, false, false, false, false, false, false] HT_ ?_
 refine pur 6 (some 140) #[true, true, true, false, false, true, true, false, false, false, false, false, false, false] HT_ ?_
 refine tak 3 (some 137) #[true, true, true, true, false, true, true, false, false, false, false, false, false, false] HT_ HW_ hHeld rfl (Or.inl ⟨by rfl, by rintro w' ⟨s0, s1, s2, s3, s4, s5, s6, s7, s8, s9, s10⟩; go_simp; with_reducible rfl⟩) ?_
 refine tak 4 (some 138) #[true, true, true, true, true, true, true, false, false, false, false, false, false, false] HT_ HW_ hHeld rfl (Or.inl ⟨by rfl, by rintro w' ⟨s0, s1, s2, s3, s4, s5, s6, s7, s8, s9, s10⟩; go_simp; with_reducible rfl⟩) ?_
 refine join_ (σ := Nat) 2 #[true, true, true, true, true, true, true, true, true, true, true, true, false, false] (fun s_ => [(141, .tuple #[.agg #[.string t381, .string t382, .bool t383, .string t384, .int .i64 t385, .int .i64 t386], .int .i64 t387]), (22, .pointer (some ⟨s_, 0, none⟩)), (133, .tuple #[.agg #[.string t381, .string t382, .bool t383, .string t384, .int .i64 t385, .int .i64 t386], .int .i64 t387]), (142, .agg #[.string t381, .string t382, .bool t383, .string t384, .int .i64 t385, .int .i64 t386]), (143, .int .i64 t387)]) (fun s_ w' => (w'.cell? ⟨gb358, 0, none⟩ = some (.int .i64 1) ∧ w'.cell? ⟨gb358, 1, none⟩ = some (.int .i64 1) ∧ w'.cell? ⟨gb358, 2, none⟩ = some (.int .i64 (wrap64 (a1))) ∧ w'.cell? ⟨gb358, 3, none⟩ = some (.string t357) ∧ w'.cell? ⟨gb358, 4, none⟩ = some (.slice Ao42 x8_2.length co42) ∧ w'.cell? (ad380.add (((ji88)).toNat * 6)) = some (.string ((rd_T28 x9_5 (ji88)).f0)) ∧ w'.cell? ⟨(ad380.add (((ji88)).toNat * 6)).block, (ad380.add (((ji88)).toNat * 6)).off + 1, none⟩ = some (.string ((rd_T28 x9_5 (ji88)).f1)) ∧ w'.cell? ⟨(ad380.add (((ji88)).toNat * 6)).block, (ad380.add (((ji88)).toNat * 6)).off + 2, none⟩ = some (.bool ((rd_T28 x9_5 (ji88)).f2)) ∧ w'.cell? ⟨(ad380.add (((ji88)).toNat * 6)).block, (ad380.add (((ji88)).toNat * 6)).off + 3, none⟩ = some (.string ((rd_T28 x9_5 (ji88)).f3)) ∧ w'.cell? ⟨(ad380.add (((ji88)).toNat * 6)).block, (ad380.add (((ji88)).toNat * 6)).off + 4, none⟩ = some (.int .i64 ((rd_T28 x9_5 (ji88)).f4)) ∧ w'.cell? ⟨(ad380.add (((ji88)).toNat * 6)).block, (ad380.add (((ji88)).toNat * 6)).off + 5, none⟩ = some (.int .i64 ((rd_T28 x9_5 (ji88)).f5))) ∧ (Kd.R Kd.bool 4 w' w.heap.size (fun _ => True) v360 x14_5) ∧ (Kd.Q k47 47 w' w.heap.size (fun _ => True) (.slice (some ad379) x15_5.length co140) x15_5) ∧ (Kd.R (Kd.int .i64) 3 w' w.heap.size (fun _ => True) (.slice Ao42 x8_2.length co42) x8_2) ∧ (Kd.R k28 28 w' w.heap.size (fun k_ => k_ ≠ s_) (.slice (some ad380) x9_5.length co49) x9_5) ∧ (w'.heap[gb358]? = some (.cells #[.int .i64 1, .int .i64 1, .int .i64 (wrap64 (a1)), .string t357, .slice Ao42 x8_2.length co42] 36 (0, 0))) ∧ (w'.heap[s_]? = some (.cells #[.string (⟨#[]⟩ : ByteArray), .string (⟨#[]⟩ : ByteArray), .bool false, .string (⟨#[]⟩ : ByteArray), .int .i64 0, .int .i64 0] 28 (0, 0))) ∧ (w.heap.size ≤ s_) ∧ (w.heap.size ≤ s_) ∧ (gb358 ≠ s_) ∧ (s_ ≠ gb358) ∧ (Below w.heap.size w w')) ?_ ?_
 rotate_left
 ·intro hCont
  refine two_ (i := 7) (j := 11) (Ni := some 141) (Nj := some 22) #[true, true, true, true, true, true, true, true, false, false, false, false, false, false] #[true, true, true, true, true, true, true, false, false, false, false, true, false, false] rfl rfl rfl rfl (two_of HT_.out (by kernel_rfl)) (by decide) (by decide) (fun K hK => ?_) (fun K hK => ?_)
  ·skip
   refine goes_ Try.func14 (by kernel_rfl) rfl #[.agg #[.string ((rd_T28 x9_5 (ji88)).f0), .string ((rd_T28 x9_5 (ji88)).f1), .bool ((rd_T28 x9_5 (ji88)).f2), .string ((rd_T28 x9_5 (ji88)).f3), .int .i64 ((rd_T28 x9_5 (ji88)).f4), .int .i64 ((rd_T28 x9_5 (ji88)).f5)], .agg #[.int .i64 1, .int .i64 1, .int .i64 (wrap64 (a1)), .string t357, .slice Ao42 x8_2.length co42], .int .i64 ji88, .int .i64 x75_3] (by rfl) rfl rfl (by (try simp only [List.map_toArray, List.map_cons, List.map_nil]); first | done | (simp only [hji88]; rfl) | rfl | (simp only [List.length_drop, List.length_take]; rfl)) ?_
   with_reducible refine (install_Take.calls kj79 ((rd_T28 x9_5 (ji88)).f0) ((rd_T28 x9_5 (ji88)).f1) ((rd_T28 x9_5 (ji88)).f2) ((rd_T28 x9_5 (ji88)).f3) ((rd_T28 x9_5 (ji88)).f4) ((rd_T28 x9_5 (ji88)).f5) 1 1 (wrap64 (a1)) t357 _ _ x8_2 ji88 x75_3 t381 t382 t383 t384 t385 t386 t387 _ ?side1 ?side2 A91.out).mono ?_
   (case side1 => repeat (first | exact (Kd.R_reads' HO_359004.out).2.2 | (with_reducible refine Kd.C_alloc ?_ _) | (with_reducible refine Kd.C_drewN ?_ _) | (with_reducible refine Kd.C_drew ?_)))
   (case side2 => exact (Kd.R_reads' HO_359004.out).2.1)
   rintro e w142 ⟨rfl, hb⟩
   have HS5_ := (hb.cell (World.block_lt_of_cell? _ _ (hHeld.2.2.2.2.2.1))).trans (hHeld.2.2.2.2.2.1)
   have HS6_ := (hb.cell (World.block_lt_of_cell? _ _ (hHeld.2.2.2.2.2.2.1))).trans (hHeld.2.2.2.2.2.2.1)
   have HS7_ := (hb.cell (World.block_lt_of_cell? _ _ (hHeld.2.2.2.2.2.2.2.1))).trans (hHeld.2.2.2.2.2.2.2.1)
   have HS8_ := (hb.cell (World.block_lt_of_cell? _ _ (hHeld.2.2.2.2.2.2.2.2.1))).trans (hHeld.2.2.2.2.2.2.2.2.1)
   have HS9_ := (hb.cell (World.block_lt_of_cell? _ _ (hHeld.2.2.2.2.2.2.2.2.2.1))).trans (hHeld.2.2.2.2.2.2.2.2.2.1)
   have HS10_ := (hb.cell (World.block_lt_of_cell? _ _ (hHeld.2.2.2.2.2.2.2.2.2.2))).trans (hHeld.2.2.2.2.2.2.2.2.2.2)
   refine ⟨_, rfl, ?_⟩
   replace HO_9 := rB HO_9 hb
   replace HO_14 := rB HO_14 hb
   replace HO_15 := Aside0.mk (Kd.Q_below (by (with_reducible repeat (first | apply Kd.Q_alloc | apply Kd.Q_drewN | apply Kd.Q_drew)); exact HO_15.out) hb)
   replace HO_359004 := rB HO_359004 hb
   replace BK358 := bkB BK358 hb
   replace HB := hbS HB hb
   (try clear hb)
   (try clear hb2)
   (try clear hk)
   (try clear hi)
   refine hK.out _ _ ⟨(blk_cell BK358.out 0).trans rfl, (blk_cell BK358.out 1).trans rfl, (blk_cell BK358.out 2).trans rfl, (blk_cell BK358.out 3).trans rfl, (blk_cell BK358.out 4).trans rfl, HS5_, HS6_, HS7_, HS8_, HS9_, HS10_⟩ (fun hHeld => ?_)
   clear hK K
   refine nrm (some 141) ?_
   refine pur 8 (some 133) #[true, true, true, true, true, true, true, true, true, false, false, false, false, false] HT_ ?_
   refine pur 9 (some 142) #[true, true, true, true, true, true, true, true, true, true, false, false, false, false] HT_ ?_
   refine pur 10 (some 143) #[true, true, true, true, true, true, true, true, true, true, true, false, false, false] HT_ ?_
   refine one_ (i := 11) (N := some 22) #[true, true, true, true, true, true, true, true, true, true, true, true, false, false] rfl rfl (one_of HT_.out (by kernel_rfl)) (by decide) (fun K hK => ?_)
   refine boxS 22 #[.string (⟨#[]⟩ : ByteArray), .string (⟨#[]⟩ : ByteArray), .bool false, .string (⟨#[]⟩ : ByteArray), .int .i64 0, .int .i64 0] 28 ?_
   intro gb388 hg w143 hbox hb
   have HS5_ := (hb.cell (World.block_lt_of_cell? _ _ (hHeld.2.2.2.2.2.1))).trans (hHeld.2.2.2.2.2.1)
   have HS6_ := (hb.cell (World.block_lt_of_cell? _ _ (hHeld.2.2.2.2.2.2.1))).trans (hHeld.2.2.2.2.2.2.1)
   have HS7_ := (hb.cell (World.block_lt_of_cell? _ _ (hHeld.2.2.2.2.2.2.2.1))).trans (hHeld.2.2.2.2.2.2.2.1)
   have HS8_ := (hb.cell (World.block_lt_of_cell? _ _ (hHeld.2.2.2.2.2.2.2.2.1))).trans (hHeld.2.2.2.2.2.2.2.2.1)
   have HS9_ := (hb.cell (World.block_lt_of_cell? _ _ (hHeld.2.2.2.2.2.2.2.2.2.1))).trans (hHeld.2.2.2.2.2.2.2.2.2.1)
   have HS10_ := (hb.cell (World.block_lt_of_cell? _ _ (hHeld.2.2.2.2.2.2.2.2.2.2))).trans (hHeld.2.2.2.2.2.2.2.2.2.2)
   replace HO_9 := Aside0.mk (Kd.R_below (Kd.R_elderB (ro HO_9) gb388 (Nat.le_of_eq hg.symm)) hb)
   replace HO_14 := rB HO_14 hb
   replace HO_15 := Aside0.mk (Kd.Q_below (by (with_reducible repeat (first | apply Kd.Q_alloc | apply Kd.Q_drewN | apply Kd.Q_drew)); exact HO_15.out) hb)
   replace HO_359004 := rB HO_359004 hb
   have BK388 := Aside0.mk (hbox)
   have GW388 := gw hg HB
   have GE388 := gw hg HB
   replace HB := hbS HB hb
   have NB358_388 := nbl hg BK358
   have NB388_358 := nbg hg BK358
   replace BK358 := bkB BK358 hb
   clear hb hbox hg
   refine hK.out _ _ ⟨(blk_cell BK358.out 0).trans rfl, (blk_cell BK358.out 1).trans rfl, (blk_cell BK358.out 2).trans rfl, (blk_cell BK358.out 3).trans rfl, (blk_cell BK358.out 4).trans rfl, HS5_, HS6_, HS7_, HS8_, HS9_, HS10_⟩ (fun hHeld => ?_)
   clear hK K
   refine nrm (some 22) ?_
   exact npu (hCont (gb388) _ ⟨hHeld, (ro HO_14), (by (with_reducible repeat (first | apply Kd.Q_alloc | apply Kd.Q_drewN | apply Kd.Q_drew)); exact HO_15.out), (ro HO_359004), (by (with_reducible repeat (first | apply Kd.R_alloc | apply Kd.R_drewN | apply Kd.R_drew)); exact Kd.R_mono HO_9.out (fun _ hk => hk.2)), (bk BK358), (bk BK388), GW388.out, GE388.out, NB358_388.out, NB388_358.out, (hbx HB)⟩)
  ·skip
   refine boxS 22 #[.string (⟨#[]⟩ : ByteArray), .string (⟨#[]⟩ : ByteArray), .bool false, .string (⟨#[]⟩ : ByteArray), .int .i64 0, .int .i64 0] 28 ?_
   intro gb388 hg w142 hbox hb
   have HS5_ := (hb.cell (World.block_lt_of_cell? _ _ (hHeld.2.2.2.2.2.1))).trans (hHeld.2.2.2.2.2.1)
   have HS6_ := (hb.cell (World.block_lt_of_cell? _ _ (hHeld.2.2.2.2.2.2.1))).trans (hHeld.2.2.2.2.2.2.1)
   have HS7_ := (hb.cell (World.block_lt_of_cell? _ _ (hHeld.2.2.2.2.2.2.2.1))).trans (hHeld.2.2.2.2.2.2.2.1)
   have HS8_ := (hb.cell (World.block_lt_of_cell? _ _ (hHeld.2.2.2.2.2.2.2.2.1))).trans (hHeld.2.2.2.2.2.2.2.2.1)
   have HS9_ := (hb.cell (World.block_lt_of_cell? _ _ (hHeld.2.2.2.2.2.2.2.2.2.1))).trans (hHeld.2.2.2.2.2.2.2.2.2.1)
   have HS10_ := (hb.cell (World.block_lt_of_cell? _ _ (hHeld.2.2.2.2.2.2.2.2.2.2))).trans (hHeld.2.2.2.2.2.2.2.2.2.2)
   replace HO_9 := Aside0.mk (Kd.R_below (Kd.R_elderB (ro HO_9) gb388 (Nat.le_of_eq hg.symm)) hb)
   replace HO_14 := rB HO_14 hb
   replace HO_15 := Aside0.mk (Kd.Q_below (by (with_reducible repeat (first | apply Kd.Q_alloc | apply Kd.Q_drewN | apply Kd.Q_drew)); exact HO_15.out) hb)
   replace HO_359004 := rB HO_359004 hb
   have BK388 := Aside0.mk (hbox)
   have GW388 := gw hg HB
   have GE388 := gw hg HB
   replace HB := hbS HB hb
   have NB358_388 := nbl hg BK358
   have NB388_358 := nbg hg BK358
   replace BK358 := bkB BK358 hb
   clear hb hbox hg
   refine hK.out _ _ ⟨(blk_cell BK358.out 0).trans rfl, (blk_cell BK358.out 1).trans rfl, (blk_cell BK358.out 2).trans rfl, (blk_cell BK358.out 3).trans rfl, (blk_cell BK358.out 4).trans rfl, HS5_, HS6_, HS7_, HS8_, HS9_, HS10_⟩ (fun hHeld => ?_)
   clear hK K
   refine nrm (some 22) ?_
   refine one_ (i := 7) (N := some 141) #[true, true, true, true, true, true, true, true, false, false, false, true, false, false] rfl rfl (one_of HT_.out (by kernel_rfl)) (by decide) (fun K hK => ?_)
   refine goes_ Try.func14 (by kernel_rfl) rfl #[.agg #[.string ((rd_T28 x9_5 (ji88)).f0), .string ((rd_T28 x9_5 (ji88)).f1), .bool ((rd_T28 x9_5 (ji88)).f2), .string ((rd_T28 x9_5 (ji88)).f3), .int .i64 ((rd_T28 x9_5 (ji88)).f4), .int .i64 ((rd_T28 x9_5 (ji88)).f5)], .agg #[.int .i64 1, .int .i64 1, .int .i64 (wrap64 (a1)), .string t357, .slice Ao42 x8_2.length co42], .int .i64 ji88, .int .i64 x75_3] (by rfl) rfl rfl (by (try simp only [List.map_toArray, List.map_cons, List.map_nil]); first | done | (simp only [hji88]; rfl) | rfl | (simp only [List.length_drop, List.length_take]; rfl)) ?_
   with_reducible refine (install_Take.calls kj79 ((rd_T28 x9_5 (ji88)).f0) ((rd_T28 x9_5 (ji88)).f1) ((rd_T28 x9_5 (ji88)).f2) ((rd_T28 x9_5 (ji88)).f3) ((rd_T28 x9_5 (ji88)).f4) ((rd_T28 x9_5 (ji88)).f5) 1 1 (wrap64 (a1)) t357 _ _ x8_2 ji88 x75_3 t381 t382 t383 t384 t385 t386 t387 _ ?side1 ?side2 A91.out).mono ?_
   (case side1 => repeat (first | exact (Kd.R_reads' HO_359004.out).2.2 | (with_reducible refine Kd.C_alloc ?_ _) | (with_reducible refine Kd.C_drewN ?_ _) | (with_reducible refine Kd.C_drew ?_)))
   (case side2 => exact (Kd.R_reads' HO_359004.out).2.1)
   rintro e w143 ⟨rfl, hb⟩
   have HS5_ := (hb.cell (World.block_lt_of_cell? _ _ (hHeld.2.2.2.2.2.1))).trans (hHeld.2.2.2.2.2.1)
   have HS6_ := (hb.cell (World.block_lt_of_cell? _ _ (hHeld.2.2.2.2.2.2.1))).trans (hHeld.2.2.2.2.2.2.1)
   have HS7_ := (hb.cell (World.block_lt_of_cell? _ _ (hHeld.2.2.2.2.2.2.2.1))).trans (hHeld.2.2.2.2.2.2.2.1)
   have HS8_ := (hb.cell (World.block_lt_of_cell? _ _ (hHeld.2.2.2.2.2.2.2.2.1))).trans (hHeld.2.2.2.2.2.2.2.2.1)
   have HS9_ := (hb.cell (World.block_lt_of_cell? _ _ (hHeld.2.2.2.2.2.2.2.2.2.1))).trans (hHeld.2.2.2.2.2.2.2.2.2.1)
   have HS10_ := (hb.cell (World.block_lt_of_cell? _ _ (hHeld.2.2.2.2.2.2.2.2.2.2))).trans (hHeld.2.2.2.2.2.2.2.2.2.2)
   refine ⟨_, rfl, ?_⟩
   replace HO_9 := rB HO_9 hb
   replace HO_14 := rB HO_14 hb
   replace HO_15 := Aside0.mk (Kd.Q_below (by (with_reducible repeat (first | apply Kd.Q_alloc | apply Kd.Q_drewN | apply Kd.Q_drew)); exact HO_15.out) hb)
   replace HO_359004 := rB HO_359004 hb
   replace BK358 := bkB BK358 hb
   replace BK388 := bkB BK388 hb
   replace HB := hbS HB hb
   (try clear hb)
   (try clear hb2)
   (try clear hk)
   (try clear hi)
   refine hK.out _ _ ⟨(blk_cell BK358.out 0).trans rfl, (blk_cell BK358.out 1).trans rfl, (blk_cell BK358.out 2).trans rfl, (blk_cell BK358.out 3).trans rfl, (blk_cell BK358.out 4).trans rfl, HS5_, HS6_, HS7_, HS8_, HS9_, HS10_⟩ (fun hHeld => ?_)
   clear hK K
   refine nrm (some 141) ?_
   refine pur 8 (some 133) #[true, true, true, true, true, true, true, true, true, false, false, true, false, false] HT_ ?_
   refine pur 9 (some 142) #[true, true, true, true, true, true, true, true, true, true, false, true, false, false] HT_ ?_
   refine pur 10 (some 143) #[true, true, true, true, true, true, true, true, true, true, true, true, false, false] HT_ ?_
   exact npu (hCont (gb388) _ ⟨hHeld, (ro HO_14), (by (with_reducible repeat (first | apply Kd.Q_alloc | apply Kd.Q_drewN | apply Kd.Q_drew)); exact HO_15.out), (ro HO_359004), (by (with_reducible repeat (first | apply Kd.R_alloc | apply Kd.R_drewN | apply Kd.R_drew)); exact Kd.R_mono HO_9.out (fun _ hk => hk.2)), (bk BK358), (bk BK388), GW388.out, GE388.out, NB358_388.out, NB388_358.out, (hbx HB)⟩)
 rintro gb388 w144 ⟨hS_, h0_, h1_, h2_, h3_, h4_, h5_, h6_, h7_, h8_, h9_, h10_⟩
 have n0_ : Aside0 (Kd.R Kd.bool 4 w144 w.heap.size (fun _ => True) v360 x14_5) := ⟨h0_⟩
 have n1_ : Aside0 (Kd.Q k47 47 w144 w.heap.size (fun _ => True) (.slice (some ad379) x15_5.length co140) x15_5) := ⟨h1_⟩
 have n2_ : Aside0 (Kd.R (Kd.int .i64) 3 w144 w.heap.size (fun _ => True) (.slice Ao42 x8_2.length co42) x8_2) := ⟨h2_⟩
 have n3_ : Aside0 (Kd.R k28 28 w144 w.heap.size (fun k_ => k_ ≠ gb388) (.slice (some ad380) x9_5.length co49) x9_5) := ⟨h3_⟩
 have n4_ : Aside0 (w144.heap[gb358]? = some (.cells #[.int .i64 1, .int .i64 1, .int .i64 (wrap64 (a1)), .string t357, .slice Ao42 x8_2.length co42] 36 (0, 0))) := ⟨h4_⟩
 have n5_ : Aside0 (w144.heap[gb388]? = some (.cells #[.string (⟨#[]⟩ : ByteArray), .string (⟨#[]⟩ : ByteArray), .bool false, .string (⟨#[]⟩ : ByteArray), .int .i64 0, .int .i64 0] 28 (0, 0))) := ⟨h5_⟩
 have n6_ : Aside0 (w.heap.size ≤ gb388) := ⟨h6_⟩
 have n7_ : Aside0 (w.heap.size ≤ gb388) := ⟨h7_⟩
 have n8_ : Aside0 (gb358 ≠ gb388) := ⟨h8_⟩
 have n9_ : Aside0 (gb388 ≠ gb358) := ⟨h9_⟩
 have n10_ : Aside0 (Below w.heap.size w w144) := ⟨h10_⟩
 clear HO_9
 clear HO_14
 clear HO_15
 clear HO_359004
 clear BK358
 clear HB
 clear h0_ h1_ h2_ h3_ h4_ h5_ h6_ h7_ h8_ h9_ h10_
 have HO_14 := n0_
 have HO_15 := n1_
 have HO_359004 := n2_
 have HO_9 := n3_
 have BK358 := n4_
 have BK388 := n5_
 have GW388 := n6_
 have GE388 := n7_
 have NB358_388 := n8_
 have NB388_358 := n9_
 have HB := n10_
 clear n0_ n1_ n2_ n3_ n4_ n5_ n6_ n7_ n8_ n9_ n10_
 have hHeld : w144.cell? ⟨gb358, 0, none⟩ = some (.int .i64 1) ∧ w144.cell? ⟨gb358, 1, none⟩ = some (.int .i64 1) ∧ w144.cell? ⟨gb358, 2, none⟩ = some (.int .i64 (wrap64 (a1))) ∧ w144.cell? ⟨gb358, 3, none⟩ = some (.string t357) ∧ w144.cell? ⟨gb358, 4, none⟩ = some (.slice Ao42 x8_2.length co42) ∧ w144.cell? (ad380.add (((ji88)).toNat * 6)) = some (.string ((rd_T28 x9_5 (ji88)).f0)) ∧ w144.cell? ⟨(ad380.add (((ji88)).toNat * 6)).block, (ad380.add (((ji88)).toNat * 6)).off + 1, none⟩ = some (.string ((rd_T28 x9_5 (ji88)).f1)) ∧ w144.cell? ⟨(ad380.add (((ji88)).toNat * 6)).block, (ad380.add (((ji88)).toNat * 6)).off + 2, none⟩ = some (.bool ((rd_T28 x9_5 (ji88)).f2)) ∧ w144.cell? ⟨(ad380.add (((ji88)).toNat * 6)).block, (ad380.add (((ji88)).toNat * 6)).off + 3, none⟩ = some (.string ((rd_T28 x9_5 (ji88)).f3)) ∧ w144.cell? ⟨(ad380.add (((ji88)).toNat * 6)).block, (ad380.add (((ji88)).toNat * 6)).off + 4, none⟩ = some (.int .i64 ((rd_T28 x9_5 (ji88)).f4)) ∧ w144.cell? ⟨(ad380.add (((ji88)).toNat * 6)).block, (ad380.add (((ji88)).toNat * 6)).off + 5, none⟩ = some (.int .i64 ((rd_T28 x9_5 (ji88)).f5)) := hS_
 refine norm_ (a' := ?_) ?_ ?_
 rotate_left
 ·simp only [putAll, Act.put, List.setIfInBounds_toArray, List.set_cons_zero, List.set_cons_succ]
  rfl
 refine one_ (i := 12) (N := none) #[true, true, true, true, true, true, true, true, true, true, true, true, true, false] rfl rfl (one_of HT_.out (by kernel_rfl)) (by decide) (fun K hK => ?_)
 have hs145 : w144.cell? ⟨gb388, 0, none⟩ = some (.string (⟨#[]⟩ : ByteArray)) := (blk_cell BK388.out 0).trans rfl
 have hfs145 := blk_frozen BK388.out 0
 have hns145_0 := NB358_388.out
 have hms145_0 := NB388_358.out
 have hs146 : w144.cell? ⟨gb388, 1, none⟩ = some (.string (⟨#[]⟩ : ByteArray)) := (blk_cell BK388.out 1).trans rfl
 have hfs146 := blk_frozen BK388.out 1
 have hns146_0 := NB358_388.out
 have hms146_0 := NB388_358.out
 have hs147 : w144.cell? ⟨gb388, 2, none⟩ = some (.bool false) := (blk_cell BK388.out 2).trans rfl
 have hfs147 := blk_frozen BK388.out 2
 have hns147_0 := NB358_388.out
 have hms147_0 := NB388_358.out
 have hs148 : w144.cell? ⟨gb388, 3, none⟩ = some (.string (⟨#[]⟩ : ByteArray)) := (blk_cell BK388.out 3).trans rfl
 have hfs148 := blk_frozen BK388.out 3
 have hns148_0 := NB358_388.out
 have hms148_0 := NB388_358.out
 have hs149 : w144.cell? ⟨gb388, 4, none⟩ = some (.int .i64 0) := (blk_cell BK388.out 4).trans rfl
 have hfs149 := blk_frozen BK388.out 4
 have hns149_0 := NB358_388.out
 have hms149_0 := NB388_358.out
 have hs150 : w144.cell? ⟨gb388, 5, none⟩ = some (.int .i64 0) := (blk_cell BK388.out 5).trans rfl
 have hfs150 := blk_frozen BK388.out 5
 have hns150_0 := NB358_388.out
 have hms150_0 := NB388_358.out
 refine skip_ (w1 := ?_) (by rfl) rfl ?_ ?_
 rotate_left
 ·go_simp
  rfl
 refine hK.out _ _ ⟨((cell_far (p := ⟨gb388, _, none⟩) NB358_388.out _).trans (((cell_far (p := ⟨gb388, _, none⟩) NB358_388.out _).trans (((cell_far (p := ⟨gb388, _, none⟩) NB358_388.out _).trans (((cell_far (p := ⟨gb388, _, none⟩) NB358_388.out _).trans (((cell_far (p := ⟨gb388, _, none⟩) NB358_388.out _).trans (((cell_far (p := ⟨gb388, _, none⟩) NB358_388.out _).trans (hHeld.1)))))))))))), ((cell_far (p := ⟨gb388, _, none⟩) NB358_388.out _).trans (((cell_far (p := ⟨gb388, _, none⟩) NB358_388.out _).trans (((cell_far (p := ⟨gb388, _, none⟩) NB358_388.out _).trans (((cell_far (p := ⟨gb388, _, none⟩) NB358_388.out _).trans (((cell_far (p := ⟨gb388, _, none⟩) NB358_388.out _).trans (((cell_far (p := ⟨gb388, _, none⟩) NB358_388.out _).trans (hHeld.2.1)))))))))))), ((cell_far (p := ⟨gb388, _, none⟩) NB358_388.out _).trans (((cell_far (p := ⟨gb388, _, none⟩) NB358_388.out _).trans (((cell_far (p := ⟨gb388, _, none⟩) NB358_388.out _).trans (((cell_far (p := ⟨gb388, _, none⟩) NB358_388.out _).trans (((cell_far (p := ⟨gb388, _, none⟩) NB358_388.out _).trans (((cell_far (p := ⟨gb388, _, none⟩) NB358_388.out _).trans (hHeld.2.2.1)))))))))))), ((cell_far (p := ⟨gb388, _, none⟩) NB358_388.out _).trans (((cell_far (p := ⟨gb388, _, none⟩) NB358_388.out _).trans (((cell_far (p := ⟨gb388, _, none⟩) NB358_388.out _).trans (((cell_far (p := ⟨gb388, _, none⟩) NB358_388.out _).trans (((cell_far (p := ⟨gb388, _, none⟩) NB358_388.out _).trans (((cell_far (p := ⟨gb388, _, none⟩) NB358_388.out _).trans (hHeld.2.2.2.1)))))))))))), ((cell_far (p := ⟨gb388, _, none⟩) NB358_388.out _).trans (((cell_far (p := ⟨gb388, _, none⟩) NB358_388.out _).trans (((cell_far (p := ⟨gb388, _, none⟩) NB358_388.out _).trans (((cell_far (p := ⟨gb388, _, none⟩) NB358_388.out _).trans (((cell_far (p := ⟨gb388, _, none⟩) NB358_388.out _).trans (((cell_far (p := ⟨gb388, _, none⟩) NB358_388.out _).trans (hHeld.2.2.2.2.1)))))))))))), ((cell_far (p := ⟨gb388, _, none⟩) (by first | exact Kd.own_blk (Kd.R_away HO_9.out (fun _ hk => hk)) | (rw [add_block]; exact Kd.own_blk (Kd.R_away HO_9.out (fun _ hk => hk))) | (show (Addr.add _ _).block ≠ _; rw [add_block]; exact Kd.own_blk (Kd.R_away HO_9.out (fun _ hk => hk))) | (dsimp only; exact Kd.own_blk (Kd.R_away HO_9.out (fun _ hk => hk)))) _).trans (((cell_far (p := ⟨gb388, _, none⟩) (by first | exact Kd.own_blk (Kd.R_away HO_9.out (fun _ hk => hk)) | (rw [add_block]; exact Kd.own_blk (Kd.R_away HO_9.out (fun _ hk => hk))) | (show (Addr.add _ _).block ≠ _; rw [add_block]; exact Kd.own_blk (Kd.R_away HO_9.out (fun _ hk => hk))) | (dsimp only; exact Kd.own_blk (Kd.R_away HO_9.out (fun _ hk => hk)))) _).trans (((cell_far (p := ⟨gb388, _, none⟩) (by first | exact Kd.own_blk (Kd.R_away HO_9.out (fun _ hk => hk)) | (rw [add_block]; exact Kd.own_blk (Kd.R_away HO_9.out (fun _ hk => hk))) | (show (Addr.add _ _).block ≠ _; rw [add_block]; exact Kd.own_blk (Kd.R_away HO_9.out (fun _ hk => hk))) | (dsimp only; exact Kd.own_blk (Kd.R_away HO_9.out (fun _ hk => hk)))) _).trans (((cell_far (p := ⟨gb388, _, none⟩) (by first | exact Kd.own_blk (Kd.R_away HO_9.out (fun _ hk => hk)) | (rw [add_block]; exact Kd.own_blk (Kd.R_away HO_9.out (fun _ hk => hk))) | (show (Addr.add _ _).block ≠ _; rw [add_block]; exact Kd.own_blk (Kd.R_away HO_9.out (fun _ hk => hk))) | (dsimp only; exact Kd.own_blk (Kd.R_away HO_9.out (fun _ hk => hk)))) _).trans (((cell_far (p := ⟨gb388, _, none⟩) (by first | exact Kd.own_blk (Kd.R_away HO_9.out (fun _ hk => hk)) | (rw [add_block]; exact Kd.own_blk (Kd.R_away HO_9.out (fun _ hk => hk))) | (show (Addr.add _ _).block ≠ _; rw [add_block]; exact Kd.own_blk (Kd.R_away HO_9.out (fun _ hk => hk))) | (dsimp only; exact Kd.own_blk (Kd.R_away HO_9.out (fun _ hk => hk)))) _).trans (((cell_far (p := ⟨gb388, _, none⟩) (by first | exact Kd.own_blk (Kd.R_away HO_9.out (fun _ hk => hk)) | (rw [add_block]; exact Kd.own_blk (Kd.R_away HO_9.out (fun _ hk => hk))) | (show (Addr.add _ _).block ≠ _; rw [add_block]; exact Kd.own_blk (Kd.R_away HO_9.out (fun _ hk => hk))) | (dsimp only; exact Kd.own_blk (Kd.R_away HO_9.out (fun _ hk => hk)))) _).trans (hHeld.2.2.2.2.2.1)))))))))))), ((cell_far (p := ⟨gb388, _, none⟩) (by first | exact Kd.own_blk (Kd.R_away HO_9.out (fun _ hk => hk)) | (rw [add_block]; exact Kd.own_blk (Kd.R_away HO_9.out (fun _ hk => hk))) | (show (Addr.add _ _).block ≠ _; rw [add_block]; exact Kd.own_blk (Kd.R_away HO_9.out (fun _ hk => hk))) | (dsimp only; exact Kd.own_blk (Kd.R_away HO_9.out (fun _ hk => hk)))) _).trans (((cell_far (p := ⟨gb388, _, none⟩) (by first | exact Kd.own_blk (Kd.R_away HO_9.out (fun _ hk => hk)) | (rw [add_block]; exact Kd.own_blk (Kd.R_away HO_9.out (fun _ hk => hk))) | (show (Addr.add _ _).block ≠ _; rw [add_block]; exact Kd.own_blk (Kd.R_away HO_9.out (fun _ hk => hk))) | (dsimp only; exact Kd.own_blk (Kd.R_away HO_9.out (fun _ hk => hk)))) _).trans (((cell_far (p := ⟨gb388, _, none⟩) (by first | exact Kd.own_blk (Kd.R_away HO_9.out (fun _ hk => hk)) | (rw [add_block]; exact Kd.own_blk (Kd.R_away HO_9.out (fun _ hk => hk))) | (show (Addr.add _ _).block ≠ _; rw [add_block]; exact Kd.own_blk (Kd.R_away HO_9.out (fun _ hk => hk))) | (dsimp only; exact Kd.own_blk (Kd.R_away HO_9.out (fun _ hk => hk)))) _).trans (((cell_far (p := ⟨gb388, _, none⟩) (by first | exact Kd.own_blk (Kd.R_away HO_9.out (fun _ hk => hk)) | (rw [add_block]; exact Kd.own_blk (Kd.R_away HO_9.out (fun _ hk => hk))) | (show (Addr.add _ _).block ≠ _; rw [add_block]; exact Kd.own_blk (Kd.R_away HO_9.out (fun _ hk => hk))) | (dsimp only; exact Kd.own_blk (Kd.R_away HO_9.out (fun _ hk => hk)))) _).trans (((cell_far (p := ⟨gb388, _, none⟩) (by first | exact Kd.own_blk (Kd.R_away HO_9.out (fun _ hk => hk)) | (rw [add_block]; exact Kd.own_blk (Kd.R_away HO_9.out (fun _ hk => hk))) | (show (Addr.add _ _).block ≠ _; rw [add_block]; exact Kd.own_blk (Kd.R_away HO_9.out (fun _ hk => hk))) | (dsimp only; exact Kd.own_blk (Kd.R_away HO_9.out (fun _ hk => hk)))) _).trans (((cell_far (p := ⟨gb388, _, none⟩) (by first | exact Kd.own_blk (Kd.R_away HO_9.out (fun _ hk => hk)) | (rw [add_block]; exact Kd.own_blk (Kd.R_away HO_9.out (fun _ hk => hk))) | (show (Addr.add _ _).block ≠ _; rw [add_block]; exact Kd.own_blk (Kd.R_away HO_9.out (fun _ hk => hk))) | (dsimp only; exact Kd.own_blk (Kd.R_away HO_9.out (fun _ hk => hk)))) _).trans (hHeld.2.2.2.2.2.2.1)))))))))))), ((cell_far (p := ⟨gb388, _, none⟩) (by first | exact Kd.own_blk (Kd.R_away HO_9.out (fun _ hk => hk)) | (rw [add_block]; exact Kd.own_blk (Kd.R_away HO_9.out (fun _ hk => hk))) | (show (Addr.add _ _).block ≠ _; rw [add_block]; exact Kd.own_blk (Kd.R_away HO_9.out (fun _ hk => hk))) | (dsimp only; exact Kd.own_blk (Kd.R_away HO_9.out (fun _ hk => hk)))) _).trans (((cell_far (p := ⟨gb388, _, none⟩) (by first | exact Kd.own_blk (Kd.R_away HO_9.out (fun _ hk => hk)) | (rw [add_block]; exact Kd.own_blk (Kd.R_away HO_9.out (fun _ hk => hk))) | (show (Addr.add _ _).block ≠ _; rw [add_block]; exact Kd.own_blk (Kd.R_away HO_9.out (fun _ hk => hk))) | (dsimp only; exact Kd.own_blk (Kd.R_away HO_9.out (fun _ hk => hk)))) _).trans (((cell_far (p := ⟨gb388, _, none⟩) (by first | exact Kd.own_blk (Kd.R_away HO_9.out (fun _ hk => hk)) | (rw [add_block]; exact Kd.own_blk (Kd.R_away HO_9.out (fun _ hk => hk))) | (show (Addr.add _ _).block ≠ _; rw [add_block]; exact Kd.own_blk (Kd.R_away HO_9.out (fun _ hk => hk))) | (dsimp only; exact Kd.own_blk (Kd.R_away HO_9.out (fun _ hk => hk)))) _).trans (((cell_far (p := ⟨gb388, _, none⟩) (by first | exact Kd.own_blk (Kd.R_away HO_9.out (fun _ hk => hk)) | (rw [add_block]; exact Kd.own_blk (Kd.R_away HO_9.out (fun _ hk => hk))) | (show (Addr.add _ _).block ≠ _; rw [add_block]; exact Kd.own_blk (Kd.R_away HO_9.out (fun _ hk => hk))) | (dsimp only; exact Kd.own_blk (Kd.R_away HO_9.out (fun _ hk => hk)))) _).trans (((cell_far (p := ⟨gb388, _, none⟩) (by first | exact Kd.own_blk (Kd.R_away HO_9.out (fun _ hk => hk)) | (rw [add_block]; exact Kd.own_blk (Kd.R_away HO_9.out (fun _ hk => hk))) | (show (Addr.add _ _).block ≠ _; rw [add_block]; exact Kd.own_blk (Kd.R_away HO_9.out (fun _ hk => hk))) | (dsimp only; exact Kd.own_blk (Kd.R_away HO_9.out (fun _ hk => hk)))) _).trans (((cell_far (p := ⟨gb388, _, none⟩) (by first | exact Kd.own_blk (Kd.R_away HO_9.out (fun _ hk => hk)) | (rw [add_block]; exact Kd.own_blk (Kd.R_away HO_9.out (fun _ hk => hk))) | (show (Addr.add _ _).block ≠ _; rw [add_block]; exact Kd.own_blk (Kd.R_away HO_9.out (fun _ hk => hk))) | (dsimp only; exact Kd.own_blk (Kd.R_away HO_9.out (fun _ hk => hk)))) _).trans (hHeld.2.2.2.2.2.2.2.1)))))))))))), ((cell_far (p := ⟨gb388, _, none⟩) (by first | exact Kd.own_blk (Kd.R_away HO_9.out (fun _ hk => hk)) | (rw [add_block]; exact Kd.own_blk (Kd.R_away HO_9.out (fun _ hk => hk))) | (show (Addr.add _ _).block ≠ _; rw [add_block]; exact Kd.own_blk (Kd.R_away HO_9.out (fun _ hk => hk))) | (dsimp only; exact Kd.own_blk (Kd.R_away HO_9.out (fun _ hk => hk)))) _).trans (((cell_far (p := ⟨gb388, _, none⟩) (by first | exact Kd.own_blk (Kd.R_away HO_9.out (fun _ hk => hk)) | (rw [add_block]; exact Kd.own_blk (Kd.R_away HO_9.out (fun _ hk => hk))) | (show (Addr.add _ _).block ≠ _; rw [add_block]; exact Kd.own_blk (Kd.R_away HO_9.out (fun _ hk => hk))) | (dsimp only; exact Kd.own_blk (Kd.R_away HO_9.out (fun _ hk => hk)))) _).trans (((cell_far (p := ⟨gb388, _, none⟩) (by first | exact Kd.own_blk (Kd.R_away HO_9.out (fun _ hk => hk)) | (rw [add_block]; exact Kd.own_blk (Kd.R_away HO_9.out (fun _ hk => hk))) | (show (Addr.add _ _).block ≠ _; rw [add_block]; exact Kd.own_blk (Kd.R_away HO_9.out (fun _ hk => hk))) | (dsimp only; exact Kd.own_blk (Kd.R_away HO_9.out (fun _ hk => hk)))) _).trans (((cell_far (p := ⟨gb388, _, none⟩) (by first | exact Kd.own_blk (Kd.R_away HO_9.out (fun _ hk => hk)) | (rw [add_block]; exact Kd.own_blk (Kd.R_away HO_9.out (fun _ hk => hk))) | (show (Addr.add _ _).block ≠ _; rw [add_block]; exact Kd.own_blk (Kd.R_away HO_9.out (fun _ hk => hk))) | (dsimp only; exact Kd.own_blk (Kd.R_away HO_9.out (fun _ hk => hk)))) _).trans (((cell_far (p := ⟨gb388, _, none⟩) (by first | exact Kd.own_blk (Kd.R_away HO_9.out (fun _ hk => hk)) | (rw [add_block]; exact Kd.own_blk (Kd.R_away HO_9.out (fun _ hk => hk))) | (show (Addr.add _ _).block ≠ _; rw [add_block]; exact Kd.own_blk (Kd.R_away HO_9.out (fun _ hk => hk))) | (dsimp only; exact Kd.own_blk (Kd.R_away HO_9.out (fun _ hk => hk)))) _).trans (((cell_far (p := ⟨gb388, _, none⟩) (by first | exact Kd.own_blk (Kd.R_away HO_9.out (fun _ hk => hk)) | (rw [add_block]; exact Kd.own_blk (Kd.R_away HO_9.out (fun _ hk => hk))) | (show (Addr.add _ _).block ≠ _; rw [add_block]; exact Kd.own_blk (Kd.R_away HO_9.out (fun _ hk => hk))) | (dsimp only; exact Kd.own_blk (Kd.R_away HO_9.out (fun _ hk => hk)))) _).trans (hHeld.2.2.2.2.2.2.2.2.1)))))))))))), ((cell_far (p := ⟨gb388, _, none⟩) (by first | exact Kd.own_blk (Kd.R_away HO_9.out (fun _ hk => hk)) | (rw [add_block]; exact Kd.own_blk (Kd.R_away HO_9.out (fun _ hk => hk))) | (show (Addr.add _ _).block ≠ _; rw [add_block]; exact Kd.own_blk (Kd.R_away HO_9.out (fun _ hk => hk))) | (dsimp only; exact Kd.own_blk (Kd.R_away HO_9.out (fun _ hk => hk)))) _).trans (((cell_far (p := ⟨gb388, _, none⟩) (by first | exact Kd.own_blk (Kd.R_away HO_9.out (fun _ hk => hk)) | (rw [add_block]; exact Kd.own_blk (Kd.R_away HO_9.out (fun _ hk => hk))) | (show (Addr.add _ _).block ≠ _; rw [add_block]; exact Kd.own_blk (Kd.R_away HO_9.out (fun _ hk => hk))) | (dsimp only; exact Kd.own_blk (Kd.R_away HO_9.out (fun _ hk => hk)))) _).trans (((cell_far (p := ⟨gb388, _, none⟩) (by first | exact Kd.own_blk (Kd.R_away HO_9.out (fun _ hk => hk)) | (rw [add_block]; exact Kd.own_blk (Kd.R_away HO_9.out (fun _ hk => hk))) | (show (Addr.add _ _).block ≠ _; rw [add_block]; exact Kd.own_blk (Kd.R_away HO_9.out (fun _ hk => hk))) | (dsimp only; exact Kd.own_blk (Kd.R_away HO_9.out (fun _ hk => hk)))) _).trans (((cell_far (p := ⟨gb388, _, none⟩) (by first | exact Kd.own_blk (Kd.R_away HO_9.out (fun _ hk => hk)) | (rw [add_block]; exact Kd.own_blk (Kd.R_away HO_9.out (fun _ hk => hk))) | (show (Addr.add _ _).block ≠ _; rw [add_block]; exact Kd.own_blk (Kd.R_away HO_9.out (fun _ hk => hk))) | (dsimp only; exact Kd.own_blk (Kd.R_away HO_9.out (fun _ hk => hk)))) _).trans (((cell_far (p := ⟨gb388, _, none⟩) (by first | exact Kd.own_blk (Kd.R_away HO_9.out (fun _ hk => hk)) | (rw [add_block]; exact Kd.own_blk (Kd.R_away HO_9.out (fun _ hk => hk))) | (show (Addr.add _ _).block ≠ _; rw [add_block]; exact Kd.own_blk (Kd.R_away HO_9.out (fun _ hk => hk))) | (dsimp only; exact Kd.own_blk (Kd.R_away HO_9.out (fun _ hk => hk)))) _).trans (((cell_far (p := ⟨gb388, _, none⟩) (by first | exact Kd.own_blk (Kd.R_away HO_9.out (fun _ hk => hk)) | (rw [add_block]; exact Kd.own_blk (Kd.R_away HO_9.out (fun _ hk => hk))) | (show (Addr.add _ _).block ≠ _; rw [add_block]; exact Kd.own_blk (Kd.R_away HO_9.out (fun _ hk => hk))) | (dsimp only; exact Kd.own_blk (Kd.R_away HO_9.out (fun _ hk => hk)))) _).trans (hHeld.2.2.2.2.2.2.2.2.2.1)))))))))))), ((cell_far (p := ⟨gb388, _, none⟩) (by first | exact Kd.own_blk (Kd.R_away HO_9.out (fun _ hk => hk)) | (rw [add_block]; exact Kd.own_blk (Kd.R_away HO_9.out (fun _ hk => hk))) | (show (Addr.add _ _).block ≠ _; rw [add_block]; exact Kd.own_blk (Kd.R_away HO_9.out (fun _ hk => hk))) | (dsimp only; exact Kd.own_blk (Kd.R_away HO_9.out (fun _ hk => hk)))) _).trans (((cell_far (p := ⟨gb388, _, none⟩) (by first | exact Kd.own_blk (Kd.R_away HO_9.out (fun _ hk => hk)) | (rw [add_block]; exact Kd.own_blk (Kd.R_away HO_9.out (fun _ hk => hk))) | (show (Addr.add _ _).block ≠ _; rw [add_block]; exact Kd.own_blk (Kd.R_away HO_9.out (fun _ hk => hk))) | (dsimp only; exact Kd.own_blk (Kd.R_away HO_9.out (fun _ hk => hk)))) _).trans (((cell_far (p := ⟨gb388, _, none⟩) (by first | exact Kd.own_blk (Kd.R_away HO_9.out (fun _ hk => hk)) | (rw [add_block]; exact Kd.own_blk (Kd.R_away HO_9.out (fun _ hk => hk))) | (show (Addr.add _ _).block ≠ _; rw [add_block]; exact Kd.own_blk (Kd.R_away HO_9.out (fun _ hk => hk))) | (dsimp only; exact Kd.own_blk (Kd.R_away HO_9.out (fun _ hk => hk)))) _).trans (((cell_far (p := ⟨gb388, _, none⟩) (by first | exact Kd.own_blk (Kd.R_away HO_9.out (fun _ hk => hk)) | (rw [add_block]; exact Kd.own_blk (Kd.R_away HO_9.out (fun _ hk => hk))) | (show (Addr.add _ _).block ≠ _; rw [add_block]; exact Kd.own_blk (Kd.R_away HO_9.out (fun _ hk => hk))) | (dsimp only; exact Kd.own_blk (Kd.R_away HO_9.out (fun _ hk => hk)))) _).trans (((cell_far (p := ⟨gb388, _, none⟩) (by first | exact Kd.own_blk (Kd.R_away HO_9.out (fun _ hk => hk)) | (rw [add_block]; exact Kd.own_blk (Kd.R_away HO_9.out (fun _ hk => hk))) | (show (Addr.add _ _).block ≠ _; rw [add_block]; exact Kd.own_blk (Kd.R_away HO_9.out (fun _ hk => hk))) | (dsimp only; exact Kd.own_blk (Kd.R_away HO_9.out (fun _ hk => hk)))) _).trans (((cell_far (p := ⟨gb388, _, none⟩) (by first | exact Kd.own_blk (Kd.R_away HO_9.out (fun _ hk => hk)) | (rw [add_block]; exact Kd.own_blk (Kd.R_away HO_9.out (fun _ hk => hk))) | (show (Addr.add _ _).block ≠ _; rw [add_block]; exact Kd.own_blk (Kd.R_away HO_9.out (fun _ hk => hk))) | (dsimp only; exact Kd.own_blk (Kd.R_away HO_9.out (fun _ hk => hk)))) _).trans (hHeld.2.2.2.2.2.2.2.2.2.2))))))))))))⟩ (fun hHeld => ?_)
 clear hK K
 refine pur 13 (some 23) #[true, true, true, true, true, true, true, true, true, true, true, true, true, true] HT_ ?_
 refine done_ (done_of HT_.out (by kernel_rfl)) ?_
 have p399 : 0 ≤ ((ji88) : Int) := pos_
 have q399 : (ji88) < (x9_5.length : Int) := pos_
 obtain ⟨ad399, e399, hx399_0, hx399_1, hx399_2, hx399_3, hx399_4, hx399_5⟩ := at_T28 (Kd.R_reads' HO_9.out).2.2 (ji88) p399 q399
 obtain rfl : ad380 = ad399 := (by injection e399)
 have hn399_0 : ad380.block ≠ gb388 := Kd.own_blk (Kd.R_away HO_9.out (fun _ hk => hk))
 have hn399_1 : ad380.block ≠ gb388 := Kd.own_blk (Kd.R_away HO_9.out (fun _ hk => hk))
 have hn399_2 : ad380.block ≠ gb388 := Kd.own_blk (Kd.R_away HO_9.out (fun _ hk => hk))
 have hn399_3 : ad380.block ≠ gb388 := Kd.own_blk (Kd.R_away HO_9.out (fun _ hk => hk))
 have hn399_4 : ad380.block ≠ gb388 := Kd.own_blk (Kd.R_away HO_9.out (fun _ hk => hk))
 have hn399_5 : ad380.block ≠ gb388 := Kd.own_blk (Kd.R_away HO_9.out (fun _ hk => hk))
 replace hx399_0 := (cell_far (p := ⟨gb388, 0, none⟩) (by first | (rw [add_block]; exact hn399_0) | (show (Addr.add _ _).block ≠ _; rw [add_block]; exact hn399_0) | exact hn399_0) (.string t381)).trans hx399_0
 replace hx399_1 := (cell_far (p := ⟨gb388, 0, none⟩) (by first | (rw [add_block]; exact hn399_0) | (show (Addr.add _ _).block ≠ _; rw [add_block]; exact hn399_0) | exact hn399_0) (.string t381)).trans hx399_1
 replace hx399_2 := (cell_far (p := ⟨gb388, 0, none⟩) (by first | (rw [add_block]; exact hn399_0) | (show (Addr.add _ _).block ≠ _; rw [add_block]; exact hn399_0) | exact hn399_0) (.string t381)).trans hx399_2
 replace hx399_3 := (cell_far (p := ⟨gb388, 0, none⟩) (by first | (rw [add_block]; exact hn399_0) | (show (Addr.add _ _).block ≠ _; rw [add_block]; exact hn399_0) | exact hn399_0) (.string t381)).trans hx399_3
 replace hx399_4 := (cell_far (p := ⟨gb388, 0, none⟩) (by first | (rw [add_block]; exact hn399_0) | (show (Addr.add _ _).block ≠ _; rw [add_block]; exact hn399_0) | exact hn399_0) (.string t381)).trans hx399_4
 replace hx399_5 := (cell_far (p := ⟨gb388, 0, none⟩) (by first | (rw [add_block]; exact hn399_0) | (show (Addr.add _ _).block ≠ _; rw [add_block]; exact hn399_0) | exact hn399_0) (.string t381)).trans hx399_5
 replace hx399_0 := (cell_far (p := ⟨gb388, 1, none⟩) (by first | (rw [add_block]; exact hn399_1) | (show (Addr.add _ _).block ≠ _; rw [add_block]; exact hn399_1) | exact hn399_1) (.string t382)).trans hx399_0
 replace hx399_1 := (cell_far (p := ⟨gb388, 1, none⟩) (by first | (rw [add_block]; exact hn399_1) | (show (Addr.add _ _).block ≠ _; rw [add_block]; exact hn399_1) | exact hn399_1) (.string t382)).trans hx399_1
 replace hx399_2 := (cell_far (p := ⟨gb388, 1, none⟩) (by first | (rw [add_block]; exact hn399_1) | (show (Addr.add _ _).block ≠ _; rw [add_block]; exact hn399_1) | exact hn399_1) (.string t382)).trans hx399_2
 replace hx399_3 := (cell_far (p := ⟨gb388, 1, none⟩) (by first | (rw [add_block]; exact hn399_1) | (show (Addr.add _ _).block ≠ _; rw [add_block]; exact hn399_1) | exact hn399_1) (.string t382)).trans hx399_3
 replace hx399_4 := (cell_far (p := ⟨gb388, 1, none⟩) (by first | (rw [add_block]; exact hn399_1) | (show (Addr.add _ _).block ≠ _; rw [add_block]; exact hn399_1) | exact hn399_1) (.string t382)).trans hx399_4
 replace hx399_5 := (cell_far (p := ⟨gb388, 1, none⟩) (by first | (rw [add_block]; exact hn399_1) | (show (Addr.add _ _).block ≠ _; rw [add_block]; exact hn399_1) | exact hn399_1) (.string t382)).trans hx399_5
 replace hx399_0 := (cell_far (p := ⟨gb388, 2, none⟩) (by first | (rw [add_block]; exact hn399_2) | (show (Addr.add _ _).block ≠ _; rw [add_block]; exact hn399_2) | exact hn399_2) (.bool t383)).trans hx399_0
 replace hx399_1 := (cell_far (p := ⟨gb388, 2, none⟩) (by first | (rw [add_block]; exact hn399_2) | (show (Addr.add _ _).block ≠ _; rw [add_block]; exact hn399_2) | exact hn399_2) (.bool t383)).trans hx399_1
 replace hx399_2 := (cell_far (p := ⟨gb388, 2, none⟩) (by first | (rw [add_block]; exact hn399_2) | (show (Addr.add _ _).block ≠ _; rw [add_block]; exact hn399_2) | exact hn399_2) (.bool t383)).trans hx399_2
 replace hx399_3 := (cell_far (p := ⟨gb388, 2, none⟩) (by first | (rw [add_block]; exact hn399_2) | (show (Addr.add _ _).block ≠ _; rw [add_block]; exact hn399_2) | exact hn399_2) (.bool t383)).trans hx399_3
 replace hx399_4 := (cell_far (p := ⟨gb388, 2, none⟩) (by first | (rw [add_block]; exact hn399_2) | (show (Addr.add _ _).block ≠ _; rw [add_block]; exact hn399_2) | exact hn399_2) (.bool t383)).trans hx399_4
 replace hx399_5 := (cell_far (p := ⟨gb388, 2, none⟩) (by first | (rw [add_block]; exact hn399_2) | (show (Addr.add _ _).block ≠ _; rw [add_block]; exact hn399_2) | exact hn399_2) (.bool t383)).trans hx399_5
 replace hx399_0 := (cell_far (p := ⟨gb388, 3, none⟩) (by first | (rw [add_block]; exact hn399_3) | (show (Addr.add _ _).block ≠ _; rw [add_block]; exact hn399_3) | exact hn399_3) (.string t384)).trans hx399_0
 replace hx399_1 := (cell_far (p := ⟨gb388, 3, none⟩) (by first | (rw [add_block]; exact hn399_3) | (show (Addr.add _ _).block ≠ _; rw [add_block]; exact hn399_3) | exact hn399_3) (.string t384)).trans hx399_1
 replace hx399_2 := (cell_far (p := ⟨gb388, 3, none⟩) (by first | (rw [add_block]; exact hn399_3) | (show (Addr.add _ _).block ≠ _; rw [add_block]; exact hn399_3) | exact hn399_3) (.string t384)).trans hx399_2
 replace hx399_3 := (cell_far (p := ⟨gb388, 3, none⟩) (by first | (rw [add_block]; exact hn399_3) | (show (Addr.add _ _).block ≠ _; rw [add_block]; exact hn399_3) | exact hn399_3) (.string t384)).trans hx399_3
 replace hx399_4 := (cell_far (p := ⟨gb388, 3, none⟩) (by first | (rw [add_block]; exact hn399_3) | (show (Addr.add _ _).block ≠ _; rw [add_block]; exact hn399_3) | exact hn399_3) (.string t384)).trans hx399_4
 replace hx399_5 := (cell_far (p := ⟨gb388, 3, none⟩) (by first | (rw [add_block]; exact hn399_3) | (show (Addr.add _ _).block ≠ _; rw [add_block]; exact hn399_3) | exact hn399_3) (.string t384)).trans hx399_5
 replace hx399_0 := (cell_far (p := ⟨gb388, 4, none⟩) (by first | (rw [add_block]; exact hn399_4) | (show (Addr.add _ _).block ≠ _; rw [add_block]; exact hn399_4) | exact hn399_4) (.int .i64 t385)).trans hx399_0
 replace hx399_1 := (cell_far (p := ⟨gb388, 4, none⟩) (by first | (rw [add_block]; exact hn399_4) | (show (Addr.add _ _).block ≠ _; rw [add_block]; exact hn399_4) | exact hn399_4) (.int .i64 t385)).trans hx399_1
 replace hx399_2 := (cell_far (p := ⟨gb388, 4, none⟩) (by first | (rw [add_block]; exact hn399_4) | (show (Addr.add _ _).block ≠ _; rw [add_block]; exact hn399_4) | exact hn399_4) (.int .i64 t385)).trans hx399_2
 replace hx399_3 := (cell_far (p := ⟨gb388, 4, none⟩) (by first | (rw [add_block]; exact hn399_4) | (show (Addr.add _ _).block ≠ _; rw [add_block]; exact hn399_4) | exact hn399_4) (.int .i64 t385)).trans hx399_3
 replace hx399_4 := (cell_far (p := ⟨gb388, 4, none⟩) (by first | (rw [add_block]; exact hn399_4) | (show (Addr.add _ _).block ≠ _; rw [add_block]; exact hn399_4) | exact hn399_4) (.int .i64 t385)).trans hx399_4
 replace hx399_5 := (cell_far (p := ⟨gb388, 4, none⟩) (by first | (rw [add_block]; exact hn399_4) | (show (Addr.add _ _).block ≠ _; rw [add_block]; exact hn399_4) | exact hn399_4) (.int .i64 t385)).trans hx399_5
 replace hx399_0 := (cell_far (p := ⟨gb388, 5, none⟩) (by first | (rw [add_block]; exact hn399_5) | (show (Addr.add _ _).block ≠ _; rw [add_block]; exact hn399_5) | exact hn399_5) (.int .i64 t386)).trans hx399_0
 replace hx399_1 := (cell_far (p := ⟨gb388, 5, none⟩) (by first | (rw [add_block]; exact hn399_5) | (show (Addr.add _ _).block ≠ _; rw [add_block]; exact hn399_5) | exact hn399_5) (.int .i64 t386)).trans hx399_1
 replace hx399_2 := (cell_far (p := ⟨gb388, 5, none⟩) (by first | (rw [add_block]; exact hn399_5) | (show (Addr.add _ _).block ≠ _; rw [add_block]; exact hn399_5) | exact hn399_5) (.int .i64 t386)).trans hx399_2
 replace hx399_3 := (cell_far (p := ⟨gb388, 5, none⟩) (by first | (rw [add_block]; exact hn399_5) | (show (Addr.add _ _).block ≠ _; rw [add_block]; exact hn399_5) | exact hn399_5) (.int .i64 t386)).trans hx399_3
 replace hx399_4 := (cell_far (p := ⟨gb388, 5, none⟩) (by first | (rw [add_block]; exact hn399_5) | (show (Addr.add _ _).block ≠ _; rw [add_block]; exact hn399_5) | exact hn399_5) (.int .i64 t386)).trans hx399_4
 replace hx399_5 := (cell_far (p := ⟨gb388, 5, none⟩) (by first | (rw [add_block]; exact hn399_5) | (show (Addr.add _ _).block ≠ _; rw [add_block]; exact hn399_5) | exact hn399_5) (.int .i64 t386)).trans hx399_5
 clear hn399_0
 clear hn399_1
 clear hn399_2
 clear hn399_3
 clear hn399_4
 clear hn399_5
 replace p399 := eq_true p399
 replace q399 := eq_true q399
 try go_wp2
 have n0_ : Aside0 (Kd.R k28 28 ((((((w144.setCell ⟨gb388, 0, none⟩ (.string t381)).setCell ⟨gb388, 1, none⟩ (.string t382)).setCell ⟨gb388, 2, none⟩ (.bool t383)).setCell ⟨gb388, 3, none⟩ (.string t384)).setCell ⟨gb388, 4, none⟩ (.int .i64 t385)).setCell ⟨gb388, 5, none⟩ (.int .i64 t386)) w.heap.size (fun k_ => k_ ≠ gb388) (.slice (some ad380) x9_5.length co49) x9_5) := ⟨by (with_reducible repeat (first | apply Kd.R_alloc | apply Kd.R_drewN | apply Kd.R_drew)); exact Kd.R_mono (Kd.R_far (p := ⟨gb388, 5, none⟩) (Kd.R_far (p := ⟨gb388, 4, none⟩) (Kd.R_far (p := ⟨gb388, 3, none⟩) (Kd.R_far (p := ⟨gb388, 2, none⟩) (Kd.R_far (p := ⟨gb388, 1, none⟩) (Kd.R_far (p := ⟨gb388, 0, none⟩) (Kd.R_mono HO_9.out (fun k_ hk => (⟨hk, hk⟩ : _ ∧ k_ ≠ gb388))) (fun _ hk => hk.2) (.string t381)) (fun _ hk => hk.2) (.string t382)) (fun _ hk => hk.2) (.bool t383)) (fun _ hk => hk.2) (.string t384)) (fun _ hk => hk.2) (.int .i64 t385)) (fun _ hk => hk.2) (.int .i64 t386)) (fun _ hk => hk.1)⟩
 have n1_ : Aside0 (Kd.R Kd.bool 4 ((((((w144.setCell ⟨gb388, 0, none⟩ (.string t381)).setCell ⟨gb388, 1, none⟩ (.string t382)).setCell ⟨gb388, 2, none⟩ (.bool t383)).setCell ⟨gb388, 3, none⟩ (.string t384)).setCell ⟨gb388, 4, none⟩ (.int .i64 t385)).setCell ⟨gb388, 5, none⟩ (.int .i64 t386)) w.heap.size (fun _ => True) v360 x14_5) := ⟨Kd.R_mono (rty (rfo HO_14) BK388) (fun _ hk => trivial)⟩
 have n2_ : Aside0 (Kd.Q k47 47 ((((((w144.setCell ⟨gb388, 0, none⟩ (.string t381)).setCell ⟨gb388, 1, none⟩ (.string t382)).setCell ⟨gb388, 2, none⟩ (.bool t383)).setCell ⟨gb388, 3, none⟩ (.string t384)).setCell ⟨gb388, 4, none⟩ (.int .i64 t385)).setCell ⟨gb388, 5, none⟩ (.int .i64 t386)) w.heap.size (fun _ => True) (.slice (some ad379) x15_5.length co140) x15_5) := ⟨by (with_reducible repeat (first | apply Kd.Q_alloc | apply Kd.Q_drewN | apply Kd.Q_drew)); exact Kd.Q_mono (Kd.Q_far (p := ⟨gb388, 5, none⟩) (Kd.Q_far (p := ⟨gb388, 4, none⟩) (Kd.Q_far (p := ⟨gb388, 3, none⟩) (Kd.Q_far (p := ⟨gb388, 2, none⟩) (Kd.Q_far (p := ⟨gb388, 1, none⟩) (Kd.Q_far (p := ⟨gb388, 0, none⟩) (Kd.Q_types HO_15.out BK388.out (by decide)) (fun _ hk => hk.2) (.string t381)) (fun _ hk => hk.2) (.string t382)) (fun _ hk => hk.2) (.bool t383)) (fun _ hk => hk.2) (.string t384)) (fun _ hk => hk.2) (.int .i64 t385)) (fun _ hk => hk.2) (.int .i64 t386)) (fun _ hk => trivial)⟩
 have n3_ : Aside0 (Kd.R (Kd.int .i64) 3 ((((((w144.setCell ⟨gb388, 0, none⟩ (.string t381)).setCell ⟨gb388, 1, none⟩ (.string t382)).setCell ⟨gb388, 2, none⟩ (.bool t383)).setCell ⟨gb388, 3, none⟩ (.string t384)).setCell ⟨gb388, 4, none⟩ (.int .i64 t385)).setCell ⟨gb388, 5, none⟩ (.int .i64 t386)) w.heap.size (fun _ => True) (.slice Ao42 x8_2.length co42) x8_2) := ⟨Kd.R_mono (rty (rfo HO_359004) BK388) (fun _ hk => trivial)⟩
 have n4_ : Aside0 (((((((w144.setCell ⟨gb388, 0, none⟩ (.string t381)).setCell ⟨gb388, 1, none⟩ (.string t382)).setCell ⟨gb388, 2, none⟩ (.bool t383)).setCell ⟨gb388, 3, none⟩ (.string t384)).setCell ⟨gb388, 4, none⟩ (.int .i64 t385)).setCell ⟨gb388, 5, none⟩ (.int .i64 t386)).heap[gb358]? = some (.cells #[.int .i64 1, .int .i64 1, .int .i64 (wrap64 (a1)), .string t357, .slice Ao42 x8_2.length co42] 36 (0, 0))) := bkfA BK358
 have n5_ : Aside0 (((((((w144.setCell ⟨gb388, 0, none⟩ (.string t381)).setCell ⟨gb388, 1, none⟩ (.string t382)).setCell ⟨gb388, 2, none⟩ (.bool t383)).setCell ⟨gb388, 3, none⟩ (.string t384)).setCell ⟨gb388, 4, none⟩ (.int .i64 t385)).setCell ⟨gb388, 5, none⟩ (.int .i64 t386)).heap[gb388]? = some (.cells #[.string t381, .string t382, .bool t383, .string t384, .int .i64 t385, .int .i64 t386] 28 (0, 0))) := bkpA BK388
 have n6_ : Aside0 (Below w.heap.size w ((((((w144.setCell ⟨gb388, 0, none⟩ (.string t381)).setCell ⟨gb388, 1, none⟩ (.string t382)).setCell ⟨gb388, 2, none⟩ (.bool t383)).setCell ⟨gb388, 3, none⟩ (.string t384)).setCell ⟨gb388, 4, none⟩ (.int .i64 t385)).setCell ⟨gb388, 5, none⟩ (.int .i64 t386))) := hbA HB
 (try clear HO_9)
 (try clear HO_14)
 (try clear HO_15)
 (try clear HO_359004)
 (try clear BK358)
 (try clear BK388)
 (try clear HB)
 generalize ((((((w144.setCell ⟨gb388, 0, none⟩ (.string t381)).setCell ⟨gb388, 1, none⟩ (.string t382)).setCell ⟨gb388, 2, none⟩ (.bool t383)).setCell ⟨gb388, 3, none⟩ (.string t384)).setCell ⟨gb388, 4, none⟩ (.int .i64 t385)).setCell ⟨gb388, 5, none⟩ (.int .i64 t386)) = w151 at n0_ n1_ n2_ n3_ n4_ n5_ n6_ ⊢
 have HO_9 := n0_
 have HO_14 := n1_
 have HO_15 := n2_
 have HO_359004 := n3_
 have BK358 := n4_
 have BK388 := n5_
 have HB := n6_
 clear n0_ n1_ n2_ n3_ n4_ n5_ n6_
 replace HO_9 := Aside0.mk (Kd.R_drew HO_9.out)
 replace HO_14 := Aside0.mk (Kd.R_drew HO_14.out)
 replace HO_15 := Aside0.mk (Kd.Q_drew HO_15.out)
 replace HO_359004 := Aside0.mk (Kd.R_drew HO_359004.out)
 replace BK358 := Aside0.mk (blk_drew BK358.out)
 replace BK388 := Aside0.mk (blk_drew BK388.out)
 replace HB := Aside0.mk (below_drew1 HB.out)
 have q153 : (1 : Int) ≤ ((x15_5.length : Int) : Int) := pos_
 obtain ⟨i0153, hi0153, _, hsz153, _⟩ := info_parts info47
 have hcut153 := cut_from (P := Try.prog) 43 47 .i64 Try.underlying43 hi0153 3 hsz153 (some ad379) x15_5.length co140 1 (by omega) q153
 have hr153 := Kd.Q_drop (k := (1 : Int).toNat) HO_15.out (by omega)
 obtain ⟨A153, hA153⟩ : ∃ A1, A1 = (if co140 = (1 : Int).toNat then (some ad379) else ((some ad379) : Option Addr).map (·.add ((1 : Int).toNat * 3))) := ⟨_, rfl⟩
 obtain ⟨c153, hc153⟩ : ∃ c1, c1 = co140 - (1 : Int).toNat := ⟨_, rfl⟩
 have hy153 : y400.length = x15_5.length - (1 : Int).toNat := (by rw [Ny400.out, List.length_drop])
 rw [← Ny400.out] at hr153
 rw [← hy153, ← hA153, ← hc153] at hcut153
 replace hr153 : Kd.Q k47 47 _ w.heap.size (fun _ => True) (.slice A153 y400.length c153) y400 := (by rw [hA153, hc153, hy153]; exact hr153)
 have HE153 : Aside0 ((Value.slice A153 y400.length c153).ownBlock = (.slice (some ad379) x15_5.length co140 : Value).ownBlock) := ⟨by rw [hA153]; split <;> (cases ((some ad379) : Option Addr) <;> rfl)⟩
 clear hy153 hi0153 hsz153 HO_15 hA153 hc153
 have HO402 := Aside0.mk hr153
 clear hr153
 replace q153 := eq_true q153
 have p139 : 0 ≤ ((ji88) : Int) := pos_
 have q139 : ((ji88) : Int) < ((x9_5.length : Int) : Int) := pos_
 obtain ⟨go139, co139, eo139, gb139, gl139, cl139, HG139⟩ := Kd.R_form HO_9.out (by omega)
 (first | cases eo139 | (injection eo139 with ea_ en_ ec_; (first | subst ea_ | (injection ea_ with ea_; subst ea_)); subst ec_; clear en_))
 have GB139 := Aside0.mk gb139
 have GG139 := Aside0.mk HG139
 clear gb139 gl139 HG139
 (first | simp only [add_plain] at hx380_0 | skip)
 (first | simp only [add_plain] at hx380_1 | skip)
 (first | simp only [add_plain] at hx380_2 | skip)
 (first | simp only [add_plain] at hx380_3 | skip)
 (first | simp only [add_plain] at hx380_4 | skip)
 (first | simp only [add_plain] at hx380_5 | skip)
 (first | simp only [add_plain] at hx399_0 | skip)
 (first | simp only [add_plain] at hx399_1 | skip)
 (first | simp only [add_plain] at hx399_2 | skip)
 (first | simp only [add_plain] at hx399_3 | skip)
 (first | simp only [add_plain] at hx399_4 | skip)
 (first | simp only [add_plain] at hx399_5 | skip)
 obtain ⟨ce139, hcl139, hM139, hcc139, hfr139⟩ := Kd.R_elem HO_9.out z28 ((ji88) : Int) p139 q139
 obtain rfl := k28_openM hM139
 have hx139_0 : World.cell? _ ⟨go139, ((ji88) : Int).toNat * 6, none⟩ = some (.string ((rd_T28 x9_5 (ji88)).f0)) := hcc139 0 _ rfl
 have hx139_1 : World.cell? _ ⟨go139, ((ji88) : Int).toNat * 6 + 1, none⟩ = some (.string ((rd_T28 x9_5 (ji88)).f1)) := hcc139 1 _ rfl
 have hx139_2 : World.cell? _ ⟨go139, ((ji88) : Int).toNat * 6 + 2, none⟩ = some (.bool ((rd_T28 x9_5 (ji88)).f2)) := hcc139 2 _ rfl
 have hx139_3 : World.cell? _ ⟨go139, ((ji88) : Int).toNat * 6 + 3, none⟩ = some (.string ((rd_T28 x9_5 (ji88)).f3)) := hcc139 3 _ rfl
 have hx139_4 : World.cell? _ ⟨go139, ((ji88) : Int).toNat * 6 + 4, none⟩ = some (.int .i64 ((rd_T28 x9_5 (ji88)).f4)) := hcc139 4 _ rfl
 have hx139_5 : World.cell? _ ⟨go139, ((ji88) : Int).toNat * 6 + 5, none⟩ = some (.int .i64 ((rd_T28 x9_5 (ji88)).f5)) := hcc139 5 _ rfl
 have hf139_0 : World.frozen? _ ⟨go139, ((ji88) : Int).toNat * 6, none⟩ = false := hfr139 0
 have hf139_1 : World.frozen? _ ⟨go139, ((ji88) : Int).toNat * 6 + 1, none⟩ = false := hfr139 1
 have hf139_2 : World.frozen? _ ⟨go139, ((ji88) : Int).toNat * 6 + 2, none⟩ = false := hfr139 2
 have hf139_3 : World.frozen? _ ⟨go139, ((ji88) : Int).toNat * 6 + 3, none⟩ = false := hfr139 3
 have hf139_4 : World.frozen? _ ⟨go139, ((ji88) : Int).toNat * 6 + 4, none⟩ = false := hfr139 4
 have hf139_5 : World.frozen? _ ⟨go139, ((ji88) : Int).toNat * 6 + 5, none⟩ = false := hfr139 5
 clear hcl139 hcc139 hfr139 hM139
 replace p139 := eq_true p139
 replace q139 := eq_true q139
 obtain ⟨ce154, hcl154, hM154, hcc154, hfr154⟩ := Kd.R_elem HO_9.out z28 ((ji88) : Int) (pos_) (by have h_ : ((ji88) : Int) < ((x9_5.length : Int) : Int) := pos_; first | exact h_ | (have e_ := (Kd.R_reads' HO_9.out).1; omega) | simpa using h_)
 obtain rfl := k28_openM hM154
 have HP154 := (Kd.R_seg HO_9.out ((ji88) : Int) (pos_) (by have h_ : ((ji88) : Int) < ((x9_5.length : Int) : Int) := pos_; first | exact h_ | (have e_ := (Kd.R_reads' HO_9.out).1; omega) | simpa using h_) (seg := [.string t381, .string t382, .bool t383, .string t384, .int .i64 t385, .int .i64 t386]) (j := 0) hcl154 hcc154 (show 6 ≤ 6 from by decide) (x' := (⟨t381, t382, t383, t384, t385, t386⟩ : S28)) (k28_mkM _ _ _ (⟨t381, t382, t383, t384, t385, t386⟩ : S28) ) (fun _ hk => hk)).1
 rw [← Ny403.out] at HP154
 have HQ154 := Aside0.mk HP154
 clear hcl154 hcc154 hfr154 hM154 HP154
 refine start_ (n := 8) (S := fun w' => w'.cell? ⟨gb388, 0, none⟩ = some (.string t381) ∧ w'.cell? ⟨gb388, 1, none⟩ = some (.string t382) ∧ w'.cell? ⟨gb388, 2, none⟩ = some (.bool t383) ∧ w'.cell? ⟨gb388, 3, none⟩ = some (.string t384) ∧ w'.cell? ⟨gb388, 4, none⟩ = some (.int .i64 t385) ∧ w'.cell? ⟨gb388, 5, none⟩ = some (.int .i64 t386)) (ds := [6]) #[false, false, false, false, false, false, false, false] (by kernel_rfl) rfl rfl ⟨(blk_cell BK388.out 0).trans rfl, (blk_cell BK388.out 1).trans rfl, (blk_cell BK388.out 2).trans rfl, (blk_cell BK388.out 3).trans rfl, (blk_cell BK388.out 4).trans rfl, (blk_cell BK388.out 5).trans rfl⟩ (fun hHeld => ?_); refine with_tabW hopmeshlaw49_InstallTogether.tab35_part29c hopmeshlaw49_InstallTogether.bits35_part29c (fun HT_ HW_ => ?_)
 generalize w151.drew = w152 at HO_9 HO_14 HO_359004 BK358 BK388 HB GG139 HO402 HQ154 hf139_0 hf139_1 hf139_2 hf139_3 hf139_4 hf139_5 hx139_0 hx139_1 hx139_2 hx139_3 hx139_4 hx139_5 hx380_0 hx380_1 hx380_2 hx380_3 hx380_4 hx380_5 hx399_0 hx399_1 hx399_2 hx399_3 hx399_4 hx399_5 hHeld ⊢
 refine pur 0 (some 164) #[true, false, false, false, false, false, false, false] HT_ ?_
 refine pur 1 (some 165) #[true, true, false, false, false, false, false, false] HT_ ?_
 refine pur 3 (some 167) #[true, true, false, true, false, false, false, false] HT_ ?_
 refine pur 4 (some 168) #[true, true, false, true, true, false, false, false] HT_ ?_
 refine tak 2 (some 166) #[true, true, true, true, true, false, false, false] HT_ HW_ hHeld rfl (Or.inl ⟨by rfl, by rintro w' ⟨s0, s1, s2, s3, s4, s5⟩; go_simp; with_reducible rfl⟩) ?_
 refine pur 5 (some 169) #[true, true, true, true, true, true, false, false] HT_ ?_
 refine last_ (i := 6) (N := none) #[true, true, true, true, true, true, true, false] rfl rfl (one_of HT_.out (by kernel_rfl)) (by decide) (fun K hK => ?_)
 refine skip_ (w1 := ?_) (by rfl) rfl ?_ ?_
 rotate_left
 ·go_simp
  rfl
 refine hK.out _ _ ?_
 clear hK K
 refine pur 7 (some 15) #[true, true, true, true, true, true, true, true] HT_ ?_
 refine done_ (done_of HT_.out (by kernel_rfl)) ?_
 try go_wp2
 (try simp only [← hl9_5])
 go_roundg kj79
 case measure => have := HJ3.out; have := HK2.out; have := HK3.out; have := HK4.out; have := HK5.out; have := HJ79.out; omega
 case rel => exact ⟨(y403), (x14_5), (y400), H', ⟨by have := HJ3.out; have := HK2.out; have := HK3.out; have := HK4.out; have := HK5.out; have := HJ79.out; omega⟩, ⟨by (try simp only [hl9_4]); (try simp only [hl9_5]); (with_reducible repeat (first | apply Kd.R_alloc | apply Kd.R_drewN | apply Kd.R_drew)); exact Kd.R_mono HQ154.out (fun _ hk => trivial)⟩, ⟨by (try simp only [hl9_4]); (try simp only [hl9_5]); (with_reducible repeat (first | apply Kd.R_alloc | apply Kd.R_drewN | apply Kd.R_drew)); exact Kd.R_mono (Kd.R_far (p := ⟨go139, ((ji88) : Int).toNat * 6 + 5, none⟩) (Kd.R_far (p := ⟨go139, ((ji88) : Int).toNat * 6 + 4, none⟩) (Kd.R_far (p := ⟨go139, ((ji88) : Int).toNat * 6 + 3, none⟩) (Kd.R_far (p := ⟨go139, ((ji88) : Int).toNat * 6 + 2, none⟩) (Kd.R_far (p := ⟨go139, ((ji88) : Int).toNat * 6 + 1, none⟩) (Kd.R_far (p := ⟨go139, ((ji88) : Int).toNat * 6, none⟩) (Kd.R_types HO_14.out GG139.out (by decide)) (fun _ hk => hk.2) (.string t381)) (fun _ hk => hk.2) (.string t382)) (fun _ hk => hk.2) (.bool t383)) (fun _ hk => hk.2) (.string t384)) (fun _ hk => hk.2) (.int .i64 t385)) (fun _ hk => hk.2) (.int .i64 t386)) (fun _ hk => trivial)⟩, ⟨by (try simp only [hl9_4]); (try simp only [hl9_5]); (with_reducible repeat (first | apply Kd.Q_alloc | apply Kd.Q_drewN | apply Kd.Q_drew)); exact Kd.Q_mono (Kd.Q_far (p := ⟨go139, ((ji88) : Int).toNat * 6 + 5, none⟩) (Kd.Q_far (p := ⟨go139, ((ji88) : Int).toNat * 6 + 4, none⟩) (Kd.Q_far (p := ⟨go139, ((ji88) : Int).toNat * 6 + 3, none⟩) (Kd.Q_far (p := ⟨go139, ((ji88) : Int).toNat * 6 + 2, none⟩) (Kd.Q_far (p := ⟨go139, ((ji88) : Int).toNat * 6 + 1, none⟩) (Kd.Q_far (p := ⟨go139, ((ji88) : Int).toNat * 6, none⟩) (Kd.Q_types HO402.out GG139.out (by decide)) (fun _ hk => hk.2) (.string t381)) (fun _ hk => hk.2) (.string t382)) (fun _ hk => hk.2) (.bool t383)) (fun _ hk => hk.2) (.string t384)) (fun _ hk => hk.2) (.int .i64 t385)) (fun _ hk => hk.2) (.int .i64 t386)) (fun _ hk => trivial)⟩, ⟨by (try simp only [hl9_4]); (try simp only [hl9_5]); (with_reducible repeat (first | apply Kd.R_alloc | apply Kd.R_drewN | apply Kd.R_drew)); exact Kd.R_mono (Kd.R_far (p := ⟨go139, ((ji88) : Int).toNat * 6 + 5, none⟩) (Kd.R_far (p := ⟨go139, ((ji88) : Int).toNat * 6 + 4, none⟩) (Kd.R_far (p := ⟨go139, ((ji88) : Int).toNat * 6 + 3, none⟩) (Kd.R_far (p := ⟨go139, ((ji88) : Int).toNat * 6 + 2, none⟩) (Kd.R_far (p := ⟨go139, ((ji88) : Int).toNat * 6 + 1, none⟩) (Kd.R_far (p := ⟨go139, ((ji88) : Int).toNat * 6, none⟩) (Kd.R_types HO_359004.out GG139.out (by decide)) (fun _ hk => hk.2) (.string t381)) (fun _ hk => hk.2) (.string t382)) (fun _ hk => hk.2) (.bool t383)) (fun _ hk => hk.2) (.string t384)) (fun _ hk => hk.2) (.int .i64 t385)) (fun _ hk => hk.2) (.int .i64 t386)) (fun _ hk => trivial)⟩, ⟨by (try simp only [hl9_4]); (try simp only [hl9_5]); (with_reducible repeat (first | refine blk_drewN ?_ _ | refine blk_drew ?_ | refine blk_alloc ?_ _)); refine blk_far ?_ (by have h_ := Kd.R_ne HO_9.out BK358.out (by decide); intro e_; exact h_ (by rw [e_]; rfl)) _; (with_reducible repeat (first | refine blk_drewN ?_ _ | refine blk_drew ?_ | refine blk_alloc ?_ _)); refine blk_far ?_ (by have h_ := Kd.R_ne HO_9.out BK358.out (by decide); intro e_; exact h_ (by rw [e_]; rfl)) _; (with_reducible repeat (first | refine blk_drewN ?_ _ | refine blk_drew ?_ | refine blk_alloc ?_ _)); refine blk_far ?_ (by have h_ := Kd.R_ne HO_9.out BK358.out (by decide); intro e_; exact h_ (by rw [e_]; rfl)) _; (with_reducible repeat (first | refine blk_drewN ?_ _ | refine blk_drew ?_ | refine blk_alloc ?_ _)); refine blk_far ?_ (by have h_ := Kd.R_ne HO_9.out BK358.out (by decide); intro e_; exact h_ (by rw [e_]; rfl)) _; (with_reducible repeat (first | refine blk_drewN ?_ _ | refine blk_drew ?_ | refine blk_alloc ?_ _)); refine blk_far ?_ (by have h_ := Kd.R_ne HO_9.out BK358.out (by decide); intro e_; exact h_ (by rw [e_]; rfl)) _; (with_reducible repeat (first | refine blk_drewN ?_ _ | refine blk_drew ?_ | refine blk_alloc ?_ _)); refine blk_far ?_ (by have h_ := Kd.R_ne HO_9.out BK358.out (by decide); intro e_; exact h_ (by rw [e_]; rfl)) _; (with_reducible repeat (first | refine blk_drewN ?_ _ | refine blk_drew ?_ | refine blk_alloc ?_ _)); exact BK358.out⟩, ⟨by repeat (first | (with_reducible first | exact HB.out | apply below_alloc | apply pw_below_drewN | apply below_drew1 | refine below_set ?_ GB139.out | refine below_set ?_ GB139.out | refine below_set ?_ GB139.out | refine below_set ?_ GB139.out | refine below_set ?_ GB139.out | refine below_set ?_ GB139.out | refine below_set ?_ GE358.out | refine below_set ?_ GE388.out) | exact HB.out)⟩⟩
end Go.Proofs.Ytdigplhjfjchnaa.PQ
