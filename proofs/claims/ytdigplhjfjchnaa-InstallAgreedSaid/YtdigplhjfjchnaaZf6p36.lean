-- Printed by fprint.py and zip.py, programs of this session's, over the kit's print; Lean checks it.
import Derived.Test.YtdigplhjfjchnaaZ0
import Derived.Test.YtdigplhjfjchnaaZf11
import Derived.Test.YtdigplhjfjchnaaZf12
import Derived.Test.YtdigplhjfjchnaaZf14
import Derived.Test.YtdigplhjfjchnaaZf15
import Derived.Test.YtdigplhjfjchnaaZf18
import Derived.Test.YtdigplhjfjchnaaZf20
import Derived.Test.YtdigplhjfjchnaaZf10
import Derived.Test.YtdigplhjfjchnaaZf17
import Derived.Test.YtdigplhjfjchnaaZf19
import Derived.Test.YtdigplhjfjchnaaZf21
import Derived.Test.YtdigplhjfjchnaaZf22
import Derived.Test.YtdigplhjfjchnaaZf23
import Derived.Test.YtdigplhjfjchnaaZf6d
import Derived.Test.YtdigplhjfjchnaaZC
namespace Go.Proofs.Ytdigplhjfjchnaa.PQ
open Go.RowKit Go.Proofs.YtdigplhjfjchnaaW.PrintWords Go.Proofs.YtdigplhjfjchnaaW.PrintLast Go.Proofs.YtdigplhjfjchnaaW.PrintMore
attribute [local go_sem] max2_int min2_int max_two min_two max_three min_three max_four min_four   -- for this text's walks alone
set_option linter.unusedVariables false
set_option linter.unusedSimpArgs false
def hopmeshlaw49_InstallAgreed.T42_part36 : Bool × List (List Nat × List Nat) := (true, [([], []), ([0], [0]), ([1], [1]), ([2], [2]), ([3, 2], [2, 3]), ([2, 4], [2, 4]), ([5, 2], [5]), ([6], [6]), ([7, 6], [6, 7]), ([6, 6], [6]), ([8, 9, 6], [6, 8, 9]), ([6, 10], [6, 10])])
def hopmeshlaw49_InstallAgreed.B42_part36 : List Nat := [0, 1, 3, 7, 15, 31, 63, 127, 255, 127, 1023, 2047]
theorem hopmeshlaw49_InstallAgreed.tab42_part36 : rtab .any (opsOf Try.f6 42) = hopmeshlaw49_InstallAgreed.T42_part36 := by kernel_rfl
theorem hopmeshlaw49_InstallAgreed.bits42_part36 : waitsOk hopmeshlaw49_InstallAgreed.T42_part36.2 hopmeshlaw49_InstallAgreed.B42_part36 = true := by kernel_rfl
set_option maxHeartbeats 8000000 in
set_option maxRecDepth 100000 in
theorem hopmeshlaw49_InstallAgreed.part36 (k : Nat) (a0 : Int) (a1 : Int) (A2 : Option Addr) (c2 : Nat) (l2 : List S47) (r : Bool) (w : World) (kj3 : Nat) (ji14 : Int) (v528 : Value) (x8_2 : List Int) (x9_2 : List S28) (x41_2 : Int) (k2 : Nat) (Ao37 : Option Addr) (co37 : Nat) (gb558 : Nat) (x72_3 : Int) (x559000_3 : ByteArray) (x559001_3 : List Int) (x559002_3 : List Bool) (x559003_3 : List Bool) (x559004_3 : Int) (x559005_3 : Int) (k3 : Nat) (kj63 : Nat) (t575 : ByteArray) (t576 : List Int) (t579 : List Bool) (t582 : List Bool) (t585 : Int) (t586 : Int) (t587 : Int) (t588 : Int) (t589 : Int) (t590 : ByteArray) (t591 : List Int) (t594 : Int) (t596 : List S47) (Ao87 : Option Addr) (co87 : Nat) (Ao88 : Option Addr) (co88 : Nat) (Ao89 : Option Addr) (co89 : Nat) (gb595 : Nat) (w91 : World) (Ao94 : Option Addr) (co94 : Nat) (Ao95 : Option Addr) (co95 : Nat) (Ao96 : Option Addr) (co96 : Nat) (Ao98 : Option Addr) (co98 : Nat) (w99 : World) (Ao100 : Option Addr) (co100 : Nat) (wc : World) (U3 U4 U5 U6 U10 U12 U13 U15 U16 U17 U18 U19 U20 U21 U22 U23 U24 U25 U26 U27 U28 U29 U30 U31 U32 U33 U34 U35 U36 U37 U38 U39 U42 U43 U44 U45 U46 U47 U48 U49 U50 U51 U52 U53 U54 U55 U56 U57 U58 U59 U60 U61 U62 U63 U64 U65 U66 U67 U68 U69 U70 U73 U74 U75 U76 U77 U78 U79 U80 U81 U82 U83 U84 U85 U86 U87 U88 U89 U90 U91 U92 U93 U94 U95 U96 U97 U98 U113 U114 U115 U116 U117 U118 U119 U120 U121 U122 U123 U124 U125 U126 U127 U128 U129 U130 U131 U132 U133 U134 U135 U136 U137 U138 U139 U140 U141 U142 U143 U144 U145 U146 U147 U148 U149 U150 U151 U152 U153 U154 U155 U156 U157 U158 U159 U160 U161 U162 U163 U164 U165 U166 U167 U168 U169 U170 U171 U172 U173 U174 U175 U176 U177 U178 U179 U180 U181 U182 U183 U184 U185 U186 U187 U188 U189 U190 U191 U192 U193 U194 U195 U196 U197 U198 U199 U200 U201 : Value) (HJ3 : Aside0 (kj3 + (1 : Nat) ≤ k)) (hji14 : wrap64 ((1 : Int) + wrap64 (Int.tmod a0 (6 : Int))) = ji14) (hji14w : IntKind.wrap IntKind.i64 ((1 : Int) + wrap64 (Int.tmod a0 (6 : Int))) = ji14) (HK2 : Aside0 (k2 + (1 : Nat) ≤ kj3)) (HK3 : Aside0 (k3 + (1 : Nat) ≤ k2)) (HJ63 : Aside0 (kj63 + (1 : Nat) ≤ k3)) (c83b0 : (t594 == (0 : Int)) = true) (c83b1 : (t594 != (0 : Int)) = false) (HC85 : Aside0 (hopmeshlaw49_InstallAgreed.l2 kj63 a1 ji14 x9_2 t596 (↑(List.length t596) : Int) (0 : Int) t575 t576 t579 t582 t585 t586 t587 t588 t589 t590 t591 = some r)) (NB558_595 : Aside0 (gb558 ≠ gb595)) (NB595_558 : Aside0 (gb595 ≠ gb558)) (hnb92 : gb558 ≠ gb595) (hnc92 : gb595 ≠ gb558) (z5 : World.cell? w91 { block := gb558, off := (5 : Nat) } = some (Value.int IntKind.i64 x559005_3)) (y5 : World.frozen? w91 { block := gb558, off := (5 : Nat) } = false) (z0 : World.cell? w91 { block := gb595, off := (0 : Nat) } = some (Value.int IntKind.i64 (0 : Int))) (z1 : World.cell? w91 { block := gb595, off := (1 : Nat) } = some (Value.int IntKind.i64 (0 : Int))) (z2 : World.cell? w91 { block := gb595, off := (2 : Nat) } = some (Value.int IntKind.i64 (0 : Int))) (z3 : World.cell? w91 { block := gb595, off := (3 : Nat) } = some (Value.string { data := #[] })) (z4 : World.cell? w91 { block := gb595, off := (4 : Nat) } = some (Value.slice none (0 : Nat) (0 : Nat))) (y0 : World.frozen? w91 { block := gb595, off := (0 : Nat) } = false) (y1 : World.frozen? w91 { block := gb595, off := (1 : Nat) } = false) (y2 : World.frozen? w91 { block := gb595, off := (2 : Nat) } = false) (y3 : World.frozen? w91 { block := gb595, off := (3 : Nat) } = false) (y4 : World.frozen? w91 { block := gb595, off := (4 : Nat) } = false) (HO_9 : Aside0 (Kd.R k28 (28 : Nat) w99 (Array.size (World.heap w)) (fun (x : Nat) => True) v528 x9_2)) (HO_559001 : Aside0 (Kd.R (Kd.int IntKind.i64) (3 : Nat) w99 (Array.size (World.heap w)) (fun (x : Nat) => (True ∧ some x ≠ Value.ownBlock (Value.slice Ao94 (List.length t576) co94)) ∧ some x ≠ Value.ownBlock (Value.slice Ao98 (List.length t591) co98)) (Value.slice Ao87 (List.length x559001_3) co87) x559001_3)) (HO_559002 : Aside0 (Kd.R Kd.bool (4 : Nat) w99 (Array.size (World.heap w)) (fun (x : Nat) => (some x ≠ Value.ownBlock (Value.slice Ao89 (List.length x559003_3) co89) ∧ some x ≠ Value.ownBlock (Value.slice Ao95 (List.length t579) co95)) ∧ some x ≠ Value.ownBlock (Value.slice Ao96 (List.length t582) co96)) (Value.slice Ao88 (List.length x559002_3) co88) x559002_3)) (HO_559003 : Aside0 (Kd.R Kd.bool (4 : Nat) w99 (Array.size (World.heap w)) (fun (x : Nat) => (some x ≠ Value.ownBlock (Value.slice Ao88 (List.length x559002_3) co88) ∧ some x ≠ Value.ownBlock (Value.slice Ao95 (List.length t579) co95)) ∧ some x ≠ Value.ownBlock (Value.slice Ao96 (List.length t582) co96)) (Value.slice Ao89 (List.length x559003_3) co89) x559003_3)) (BK558 : Aside0 ((World.heap w99)[gb558]? = some (Obj.cells #[Value.string t575, Value.slice Ao94 (List.length t576) co94, Value.slice Ao95 (List.length t579) co95, Value.slice Ao96 (List.length t582) co96, Value.int IntKind.i64 t585, Value.int IntKind.i64 t586] (50 : TypeId)))) (BK595 : Aside0 ((World.heap w99)[gb595]? = some (Obj.cells #[Value.int IntKind.i64 t587, Value.int IntKind.i64 t588, Value.int IntKind.i64 t589, Value.string t590, Value.slice Ao98 (List.length t591) co98] (36 : TypeId)))) (HB : Aside0 (Below (Array.size (World.heap w)) w w99)) (hcut : ∃ (kq : Nat), ∃ (x9_84 : List S28), ∃ (x559000_84 : ByteArray), ∃ (x559001_84 : List Int), ∃ (x559002_84 : List Bool), ∃ (x559003_84 : List Bool), ∃ (x559004_84 : Int), ∃ (x559005_84 : Int), ∃ (u559001 : Value), ∃ (u559002 : Value), ∃ (u559003 : Value), Aside0 (j5 kq a1 x9_84 x559000_84 x559001_84 x559002_84 x559003_84 x559004_84 x559005_84 = some r) ∧ Aside0 (kq ≤ kj63) ∧ Aside0 (Kd.R k28 (28 : Nat) wc (Array.size (World.heap w)) (fun (x : Nat) => True) v528 x9_84) ∧ Aside0 (Kd.R (Kd.int IntKind.i64) (3 : Nat) wc (Array.size (World.heap w)) (fun (k_ : Nat) => some k_ ≠ Value.ownBlock (Value.slice Ao98 (List.length t591) co98)) u559001 x559001_84) ∧ Aside0 (Kd.R Kd.bool (4 : Nat) wc (Array.size (World.heap w)) (fun (k_ : Nat) => some k_ ≠ Value.ownBlock u559003) u559002 x559002_84) ∧ Aside0 (Kd.R Kd.bool (4 : Nat) wc (Array.size (World.heap w)) (fun (k_ : Nat) => some k_ ≠ Value.ownBlock u559002) u559003 x559003_84) ∧ Aside0 (Kd.R (Kd.int IntKind.i64) (3 : Nat) wc (Array.size (World.heap w)) (fun (k_ : Nat) => some k_ ≠ Value.ownBlock u559001) (Value.slice Ao98 (List.length t591) co98) t591) ∧ Aside0 ((World.heap wc)[gb558]? = some (Obj.cells #[Value.string x559000_84, u559001, u559002, u559003, Value.int IntKind.i64 x559004_84, Value.int IntKind.i64 x559005_84] (50 : TypeId))) ∧ Aside0 ((World.heap wc)[gb595]? = some (Obj.cells #[Value.int IntKind.i64 t587, Value.int IntKind.i64 t588, Value.int IntKind.i64 t589, Value.string t590, Value.slice Ao98 (List.length t591) co98] (36 : TypeId))) ∧ Aside0 (Below (Array.size (World.heap w)) w wc)) (c1_ c2_ c3_ : Code) :
 let Q' : Exit → Act → World → Prop := bodyPost Try.prog Try.f6 fun (e : Ending) (w' : World) => e = Ending.returned (Value.bool r) ∧ Below (Array.size (World.heap w)) w w'
 ∀ (K2 K : Act → World → Prop), (∀ (a : Act) (w : World), Code.wp Try.prog c3_ Q' a w → K2 a w) → (∀ (a : Act) (w : World), Code.wp Try.prog c2_ (Exit.then K2 Q') a w → K a w) → Option.bind Try.f6.body (seqAt2 36) = some (c1_, c2_, c3_) → Code.wp Try.prog c1_ (Exit.then K (Exit.then K2 Q')) ⟨#[Value.int IntKind.u8 a0, Value.int IntKind.u8 a1, Value.slice A2 (List.length l2) c2, U3, U4, U5, U6, Value.int IntKind.i64 ji14, Value.slice Ao37 (List.length x8_2) co37, v528, U10, Value.pointer (some { block := gb558, off := (0 : Nat) }), U12, U13, Value.pointer (some { block := gb595, off := (0 : Nat) }), U15, U16, U17, U18, U19, U20, U21, U22, U23, U24, U25, U26, U27, U28, U29, U30, U31, U32, U33, U34, U35, U36, U37, U38, U39, Value.int IntKind.i64 ji14, Value.int IntKind.i64 x41_2, U42, U43, U44, U45, U46, U47, U48, U49, U50, U51, U52, U53, U54, U55, U56, U57, U58, U59, U60, U61, U62, U63, U64, U65, U66, U67, U68, U69, U70, Value.int IntKind.i64 ji14, Value.int IntKind.i64 x72_3, U73, U74, U75, U76, U77, U78, U79, U80, U81, U82, U83, U84, U85, U86, U87, U88, U89, U90, U91, U92, U93, U94, U95, U96, U97, U98, Value.bool false, Value.tuple #[Value.agg #[Value.string t575, Value.slice Ao94 (List.length t576) co94, Value.slice Ao95 (List.length t579) co95, Value.slice Ao96 (List.length t582) co96, Value.int IntKind.i64 t585, Value.int IntKind.i64 t586], Value.agg #[Value.int IntKind.i64 t587, Value.int IntKind.i64 t588, Value.int IntKind.i64 t589, Value.string t590, Value.slice Ao98 (List.length t591) co98], Value.int IntKind.i64 t594], Value.agg #[Value.string x559000_3, Value.slice Ao87 (List.length x559001_3) co87, Value.slice Ao88 (List.length x559002_3) co88, Value.slice Ao89 (List.length x559003_3) co89, Value.int IntKind.i64 x559004_3, Value.int IntKind.i64 x559005_3], Value.int IntKind.u8 a1, Value.int IntKind.i64 (wrap64 a1), Value.tuple #[Value.agg #[Value.string t575, Value.slice Ao94 (List.length t576) co94, Value.slice Ao95 (List.length t579) co95, Value.slice Ao96 (List.length t582) co96, Value.int IntKind.i64 t585, Value.int IntKind.i64 t586], Value.agg #[Value.int IntKind.i64 t587, Value.int IntKind.i64 t588, Value.int IntKind.i64 t589, Value.string t590, Value.slice Ao98 (List.length t591) co98], Value.int IntKind.i64 t594], Value.agg #[Value.string t575, Value.slice Ao94 (List.length t576) co94, Value.slice Ao95 (List.length t579) co95, Value.slice Ao96 (List.length t582) co96, Value.int IntKind.i64 t585, Value.int IntKind.i64 t586], Value.agg #[Value.int IntKind.i64 t587, Value.int IntKind.i64 t588, Value.int IntKind.i64 t589, Value.string t590, Value.slice Ao98 (List.length t591) co98], Value.int IntKind.i64 t594, Value.int IntKind.i64 t594, Value.bool false, Value.slice A2 (List.length l2) c2, Value.slice Ao100 (List.length t596) co100, Value.int IntKind.i64 (↑(List.length t596) : Int), U113, U114, U115, U116, U117, U118, U119, U120, U121, U122, U123, U124, U125, U126, U127, U128, U129, U130, U131, U132, U133, U134, U135, U136, U137, U138, U139, U140, U141, U142, U143, U144, U145, U146, U147, U148, U149, U150, U151, U152, U153, U154, U155, U156, U157, U158, U159, U160, U161, U162, U163, U164, U165, U166, U167, U168, U169, U170, U171, U172, U173, U174, U175, U176, U177, U178, U179, U180, U181, U182, U183, U184, U185, U186, U187, U188, U189, U190, U191, U192, U193, U194, U195, U196, U197, U198, U199, U200, U201], []⟩ (wc) := by
 intro Q' K2 K hK2_ hK_ hc_
 conv at hc_ => lhs; whnf
 obtain ⟨h1_, h23_⟩ := Prod.mk.inj (Option.some.inj hc_)
 obtain ⟨h2_, h3_⟩ := Prod.mk.inj h23_
 subst h1_ h2_ h3_
 clear hc_ h23_
 have hu28 := Try.underlying28
 have hu50 := Try.underlying50
 have hu36 := Try.underlying36
 have hu47 := Try.underlying47
 clear HC85
 try clear c2
 try clear c15
 obtain ⟨kq, x9_84, x559000_84, x559001_84, x559002_84, x559003_84, x559004_84, x559005_84, u559001, u559002, u559003, HA, HJ84, HO_9, HO_559001, HO_559002, HO_559003, HO_596004, BK558, BK595, HB⟩ := hcut
 cases kq with
 | zero => exact absurd HA.out (by simp [hopmeshlaw49_InstallAgreed.j5])
 | succ kj84 =>
  have H := HA.out
  clear HA
  simp only [hopmeshlaw49_InstallAgreed.j5] at H
  replace H := Option.bind_eq_some_iff.mp H
  obtain ⟨t625, A1590, H⟩ := H
  (try dsimp only at H)
  have A159 := Aside0.mk A1590
  clear A1590
  by_cases c160 : t625 = true
  ·subst c160
   rw [if_pos rfl] at H
   have H' := Aside0.mk H
   clear H
   have hnb161 := NB558_595.out
   have hnc161 := NB595_558.out
   obtain ⟨z0, z1, z2, z3, z4, z5, y0, y1, y2, y3, y4, y5⟩ := bc6 BK558
   obtain ⟨Ao163, co163, eo163⟩ := Kd.R_slice HO_559001.out
   subst eo163
   obtain ⟨Ao164, co164, eo164⟩ := Kd.R_slice HO_559002.out
   subst eo164
   obtain ⟨Ao165, co165, eo165⟩ := Kd.R_slice HO_559003.out
   subst eo165
   go_wp2_with (first | ((with_reducible refine gate_callee (f := 21) rfl ?_); refine goesL_ (some 171) rfl rfl Try.func21 (by kernel_rfl) rfl #[.agg #[.string x559000_84, .slice Ao163 x559001_84.length co163, .slice Ao164 x559002_84.length co164, .slice Ao165 x559003_84.length co165, .int .i64 x559004_84, .int .i64 x559005_84]] rfl sma ?_; (with_reducible refine (install_Agreed.calls kj84 x559000_84 _ _ x559001_84 _ _ x559002_84 _ _ x559003_84 x559004_84 x559005_84 true _ ?side1 ?side2 ?side3 ?side4 ?side5 ?side6 A159.out).mono ?_); (case side1 => repeat (first | exact (Kd.R_reads' HO_559001.out).2.2 | (with_reducible refine Kd.C_alloc ?_ _) | (with_reducible refine Kd.C_drewN ?_ _) | (with_reducible refine Kd.C_drew ?_))); (case side2 => exact (Kd.R_reads' HO_559001.out).2.1); (case side3 => repeat (first | exact (Kd.R_reads' HO_559002.out).2.2 | (with_reducible refine Kd.C_alloc ?_ _) | (with_reducible refine Kd.C_drewN ?_ _) | (with_reducible refine Kd.C_drew ?_))); (case side4 => exact (Kd.R_reads' HO_559002.out).2.1); (case side5 => repeat (first | exact (Kd.R_reads' HO_559003.out).2.2 | (with_reducible refine Kd.C_alloc ?_ _) | (with_reducible refine Kd.C_drewN ?_ _) | (with_reducible refine Kd.C_drew ?_))); (case side6 => exact (Kd.R_reads' HO_559003.out).2.1); rintro e w166 ⟨rfl, hb⟩; refine ⟨_, rfl, ?_⟩; replace HO_9 := rB HO_9 hb; replace HO_559001 := rB HO_559001 hb; replace HO_559002 := rB HO_559002 hb; replace HO_559003 := rB HO_559003 hb; replace HO_596004 := rB HO_596004 hb; replace BK558 := bkB BK558 hb; replace BK595 := bkB BK595 hb; replace HB := hbS HB hb; (try clear hb); (try clear hb2); (try clear hk); (try clear hi); obtain ⟨Ao167, co167, eo167⟩ := Kd.R_slice HO_9.out; subst eo167))
   go_loopg [175] kj84 (fun kq v175 w' => ∃ (x175_6 : Int), v175 = .int .i64 x175_6 ∧ Aside0 (hopmeshlaw49_InstallAgreed.l3 kq a1 x9_84 (x9_84.length : Int) x175_6 = some r) ∧ Aside0 (kq ≤ kj84) ∧ Aside0 (Kd.R k28 28 w' w.heap.size (fun _ => True) (.slice Ao167 x9_84.length co167) x9_84) ∧ Aside0 (Kd.R (Kd.int .i64) 3 w' w.heap.size (fun k_ => some k_ ≠ ((.slice Ao98 t591.length co98) : Value).ownBlock) (.slice Ao163 x559001_84.length co163) x559001_84) ∧ Aside0 (Kd.R Kd.bool 4 w' w.heap.size (fun k_ => some k_ ≠ ((.slice Ao165 x559003_84.length co165) : Value).ownBlock) (.slice Ao164 x559002_84.length co164) x559002_84) ∧ Aside0 (Kd.R Kd.bool 4 w' w.heap.size (fun k_ => some k_ ≠ ((.slice Ao164 x559002_84.length co164) : Value).ownBlock) (.slice Ao165 x559003_84.length co165) x559003_84) ∧ Aside0 (Kd.R (Kd.int .i64) 3 w' w.heap.size (fun k_ => some k_ ≠ ((.slice Ao163 x559001_84.length co163) : Value).ownBlock) (.slice Ao98 t591.length co98) t591) ∧ Aside0 (w'.heap[gb558]? = some (.cells #[.string x559000_84, (.slice Ao163 x559001_84.length co163), (.slice Ao164 x559002_84.length co164), (.slice Ao165 x559003_84.length co165), .int .i64 x559004_84, .int .i64 x559005_84] 50 (0, 0))) ∧ Aside0 (w'.heap[gb595]? = some (.cells #[.int .i64 t587, .int .i64 t588, .int .i64 t589, .string t590, (.slice Ao98 t591.length co98)] 36 (0, 0))) ∧ Aside0 (Below w.heap.size w w'))
   case atStart => exact ⟨(0), rfs, H', ⟨Nat.le_refl _⟩, roA HO_9, roA HO_559001, roA HO_559002, roA HO_559003, roA HO_596004, bkA BK558, bkA BK595, hbA HB⟩
   case round =>
    clear H'
    try clear c2
    try clear c15
    try clear c16
    try clear c160
    try clear hcz162_0
    try clear hcz162_1
    try clear hcz162_2
    try clear hcz162_3
    try clear hcz162_4
    try clear hcz162_5
    try clear hfz162_0
    try clear hfz162_1
    try clear hfz162_2
    try clear hfz162_3
    try clear hfz162_4
    try clear hfz162_5
    obtain ⟨x175_6, rfl, HA, HK6, HO_9, HO_559001, HO_559002, HO_559003, HO_596004, BK558, BK595, HB⟩ := hrel
    cases gk with
    | zero => exact absurd HA.out (by simp [hopmeshlaw49_InstallAgreed.l3])
    | succ k6 =>
     have H := HA.out
     clear HA
     simp only [hopmeshlaw49_InstallAgreed.l3] at H
     by_cases c168 : x175_6 < (x9_84.length : Int)
     ·rw [if_pos c168] at H
      have c168b0 : decide (x175_6 < (x9_84.length : Int)) = true := decide_eq_true c168
      clear c168
      by_cases c169 : 0 ≤ x175_6
      ·rw [if_pos c169] at H
       have c169b0 : decide (0 ≤ x175_6) = true := decide_eq_true c169
       clear c169
       by_cases c170 : x175_6 < (x9_84.length : Int)
       ·rw [if_pos c170] at H
        have c170b0 : decide (x175_6 < (x9_84.length : Int)) = true := decide_eq_true c170
        clear c170
        replace H := Option.bind_eq_some_iff.mp H
        obtain ⟨⟨t627, t628, t629, t630, t631, t632, t633, t634⟩, A1710, H⟩ := H
        (try dsimp only at H)
        have A171 := Aside0.mk A1710
        clear A1710
        by_cases c172 : t634 = 0
        ·rw [if_pos c172] at H
         have c172b0 : (t634 == 0) = true := beq_iff_eq.mpr c172
         have c172b1 : (t634 != 0) = false := bne_eq_false_iff_eq.mpr c172
         clear c172
         by_cases c173 : t633 = true
         ·subst c173
          rw [if_pos rfl] at H
          replace H := Option.bind_eq_some_iff.mp H
          obtain ⟨t636, A1740, H⟩ := H
          (try dsimp only at H)
          have A174 := Aside0.mk A1740
          clear A1740
          by_cases c175 : t627.toList = t636.toList
          ·rw [if_pos c175] at H
           have c175b0 : (t627.toList == t636.toList) = true := beq_iff_eq.mpr c175
           have c175b1 : (t627.toList != t636.toList) = false := bne_eq_false_iff_eq.mpr c175
           clear c175
           have H' := Aside0.mk H
           clear H
           have p626 : 0 ≤ (x175_6 : Int) := pos_
           have q626 : x175_6 < (x9_84.length : Int) := pos_
           obtain ⟨ad626, e626, hx626_0, hx626_1, hx626_2, hx626_3, hx626_4, hx626_5⟩ := at_T28 (Kd.R_reads' HO_9.out).2.2 x175_6 p626 q626
           cases e626
           replace p626 := eq_true p626
           replace q626 := eq_true q626
           try go_wp2_with (first | ((with_reducible refine gate_callee (f := 15) rfl ?_); refine goesL_ (some 185) rfl rfl Try.func15 (by kernel_rfl) rfl #[.agg #[.string ((rd_T28 x9_84 x175_6).f0), .string ((rd_T28 x9_84 x175_6).f1), .bool ((rd_T28 x9_84 x175_6).f2), .string ((rd_T28 x9_84 x175_6).f3), .int .i64 ((rd_T28 x9_84 x175_6).f4), .int .i64 ((rd_T28 x9_84 x175_6).f5)], .int .i64 (wrap64 (a1))] rfl sma ?_; (with_reducible refine (install_Step.calls k6 ((rd_T28 x9_84 x175_6).f0) ((rd_T28 x9_84 x175_6).f1) ((rd_T28 x9_84 x175_6).f2) ((rd_T28 x9_84 x175_6).f3) ((rd_T28 x9_84 x175_6).f4) ((rd_T28 x9_84 x175_6).f5) (wrap64 (a1)) t627 t628 t629 t630 t631 t632 true t634 _ A171.out).mono ?_); rintro e w176 ⟨rfl, hb⟩; refine ⟨_, rfl, ?_⟩; replace HO_9 := rB HO_9 hb; replace HO_559001 := rB HO_559001 hb; replace HO_559002 := rB HO_559002 hb; replace HO_559003 := rB HO_559003 hb; replace HO_596004 := rB HO_596004 hb; replace BK558 := bkB BK558 hb; replace BK595 := bkB BK595 hb; replace HB := hbS HB hb; (try clear hb); (try clear hb2); (try clear hk); (try clear hi)) | ((with_reducible refine gate_dst (N := 19) rfl ?_); (try (refine gate_guard (by rfl) ?_; dsimp only)); refine boxE 19 #[.string (⟨#[]⟩ : ByteArray), .string (⟨#[]⟩ : ByteArray), .bool false, .string (⟨#[]⟩ : ByteArray), .int .i64 0, .int .i64 0] 28 ?_; intro gb635 hg w177 hbox hb; replace HO_9 := Aside0.mk (Kd.R_below (Kd.R_elderB (ro HO_9) gb635 (Nat.le_of_eq hg.symm)) hb); replace HO_559001 := rB HO_559001 hb; replace HO_559002 := rB HO_559002 hb; replace HO_559003 := rB HO_559003 hb; replace HO_596004 := rB HO_596004 hb; have BK635 := Aside0.mk (hbox); have GW635 := gw hg HB; have GE635 := gw hg HB; replace HB := hbS HB hb; have NB558_635 := nbl hg BK558; have NB635_558 := nbg hg BK558; replace BK558 := bkB BK558 hb; have NB595_635 := nbl hg BK595; have NB635_595 := nbg hg BK595; replace BK595 := bkB BK595 hb; clear hb hbox hg; have hnb178 := NB635_558.out; have hnc178 := NB558_635.out; have hnb179 := NB635_595.out; have hnc179 := NB595_635.out; obtain ⟨z0, z1, z2, z3, z4, z5, y0, y1, y2, y3, y4, y5⟩ := bc6 BK635))
           have n0_ : Aside0 (Kd.R k28 28 ((((((w177.setCell ⟨gb635, 0, none⟩ (.string t627)).setCell ⟨gb635, 1, none⟩ (.string t628)).setCell ⟨gb635, 2, none⟩ (.bool t629)).setCell ⟨gb635, 3, none⟩ (.string t630)).setCell ⟨gb635, 4, none⟩ (.int .i64 t631)).setCell ⟨gb635, 5, none⟩ (.int .i64 t632)) w.heap.size (fun k_ => k_ ≠ gb635) (.slice (some ad626) x9_84.length co167) x9_84) := ⟨by (with_reducible repeat (first | apply Kd.R_alloc | apply Kd.R_drewN | apply Kd.R_drew)); exact Kd.R_mono (Kd.R_far (p := ⟨gb635, 5, none⟩) (Kd.R_far (p := ⟨gb635, 4, none⟩) (Kd.R_far (p := ⟨gb635, 3, none⟩) (Kd.R_far (p := ⟨gb635, 2, none⟩) (Kd.R_far (p := ⟨gb635, 1, none⟩) (Kd.R_far (p := ⟨gb635, 0, none⟩) (Kd.R_mono HO_9.out (fun k_ hk => (⟨hk, hk.2⟩ : _ ∧ k_ ≠ gb635))) (fun _ hk => hk.2) (.string t627)) (fun _ hk => hk.2) (.string t628)) (fun _ hk => hk.2) (.bool t629)) (fun _ hk => hk.2) (.string t630)) (fun _ hk => hk.2) (.int .i64 t631)) (fun _ hk => hk.2) (.int .i64 t632)) (fun _ hk => hk.1.2)⟩
           have n1_ : Aside0 (Kd.R (Kd.int .i64) 3 ((((((w177.setCell ⟨gb635, 0, none⟩ (.string t627)).setCell ⟨gb635, 1, none⟩ (.string t628)).setCell ⟨gb635, 2, none⟩ (.bool t629)).setCell ⟨gb635, 3, none⟩ (.string t630)).setCell ⟨gb635, 4, none⟩ (.int .i64 t631)).setCell ⟨gb635, 5, none⟩ (.int .i64 t632)) w.heap.size (fun k_ => some k_ ≠ (.slice Ao98 t591.length co98 : Value).ownBlock) (.slice Ao163 x559001_84.length co163) x559001_84) := rfA HO_559001
           have n2_ : Aside0 (Kd.R Kd.bool 4 ((((((w177.setCell ⟨gb635, 0, none⟩ (.string t627)).setCell ⟨gb635, 1, none⟩ (.string t628)).setCell ⟨gb635, 2, none⟩ (.bool t629)).setCell ⟨gb635, 3, none⟩ (.string t630)).setCell ⟨gb635, 4, none⟩ (.int .i64 t631)).setCell ⟨gb635, 5, none⟩ (.int .i64 t632)) w.heap.size (fun k_ => some k_ ≠ (.slice Ao165 x559003_84.length co165 : Value).ownBlock) (.slice Ao164 x559002_84.length co164) x559002_84) := rfA HO_559002
           have n3_ : Aside0 (Kd.R Kd.bool 4 ((((((w177.setCell ⟨gb635, 0, none⟩ (.string t627)).setCell ⟨gb635, 1, none⟩ (.string t628)).setCell ⟨gb635, 2, none⟩ (.bool t629)).setCell ⟨gb635, 3, none⟩ (.string t630)).setCell ⟨gb635, 4, none⟩ (.int .i64 t631)).setCell ⟨gb635, 5, none⟩ (.int .i64 t632)) w.heap.size (fun k_ => some k_ ≠ (.slice Ao164 x559002_84.length co164 : Value).ownBlock) (.slice Ao165 x559003_84.length co165) x559003_84) := rfA HO_559003
           have n4_ : Aside0 (Kd.R (Kd.int .i64) 3 ((((((w177.setCell ⟨gb635, 0, none⟩ (.string t627)).setCell ⟨gb635, 1, none⟩ (.string t628)).setCell ⟨gb635, 2, none⟩ (.bool t629)).setCell ⟨gb635, 3, none⟩ (.string t630)).setCell ⟨gb635, 4, none⟩ (.int .i64 t631)).setCell ⟨gb635, 5, none⟩ (.int .i64 t632)) w.heap.size (fun k_ => some k_ ≠ (.slice Ao163 x559001_84.length co163 : Value).ownBlock) (.slice Ao98 t591.length co98) t591) := rfA HO_596004
           have n5_ : Aside0 (((((((w177.setCell ⟨gb635, 0, none⟩ (.string t627)).setCell ⟨gb635, 1, none⟩ (.string t628)).setCell ⟨gb635, 2, none⟩ (.bool t629)).setCell ⟨gb635, 3, none⟩ (.string t630)).setCell ⟨gb635, 4, none⟩ (.int .i64 t631)).setCell ⟨gb635, 5, none⟩ (.int .i64 t632)).heap[gb558]? = some (.cells #[.string x559000_84, .slice Ao163 x559001_84.length co163, .slice Ao164 x559002_84.length co164, .slice Ao165 x559003_84.length co165, .int .i64 x559004_84, .int .i64 x559005_84] 50 (0, 0))) := bkfA BK558
           have n6_ : Aside0 (((((((w177.setCell ⟨gb635, 0, none⟩ (.string t627)).setCell ⟨gb635, 1, none⟩ (.string t628)).setCell ⟨gb635, 2, none⟩ (.bool t629)).setCell ⟨gb635, 3, none⟩ (.string t630)).setCell ⟨gb635, 4, none⟩ (.int .i64 t631)).setCell ⟨gb635, 5, none⟩ (.int .i64 t632)).heap[gb595]? = some (.cells #[.int .i64 t587, .int .i64 t588, .int .i64 t589, .string t590, .slice Ao98 t591.length co98] 36 (0, 0))) := bkfA BK595
           have n7_ : Aside0 (((((((w177.setCell ⟨gb635, 0, none⟩ (.string t627)).setCell ⟨gb635, 1, none⟩ (.string t628)).setCell ⟨gb635, 2, none⟩ (.bool t629)).setCell ⟨gb635, 3, none⟩ (.string t630)).setCell ⟨gb635, 4, none⟩ (.int .i64 t631)).setCell ⟨gb635, 5, none⟩ (.int .i64 t632)).heap[gb635]? = some (.cells #[.string t627, .string t628, .bool t629, .string t630, .int .i64 t631, .int .i64 t632] 28 (0, 0))) := bkpA BK635
           have n8_ : Aside0 (Below w.heap.size w ((((((w177.setCell ⟨gb635, 0, none⟩ (.string t627)).setCell ⟨gb635, 1, none⟩ (.string t628)).setCell ⟨gb635, 2, none⟩ (.bool t629)).setCell ⟨gb635, 3, none⟩ (.string t630)).setCell ⟨gb635, 4, none⟩ (.int .i64 t631)).setCell ⟨gb635, 5, none⟩ (.int .i64 t632))) := hbA HB
           (try clear HO_9)
           (try clear HO_559001)
           (try clear HO_559002)
           (try clear HO_559003)
           (try clear HO_596004)
           (try clear BK558)
           (try clear BK595)
           (try clear BK635)
           (try clear HB)
           generalize ((((((w177.setCell ⟨gb635, 0, none⟩ (.string t627)).setCell ⟨gb635, 1, none⟩ (.string t628)).setCell ⟨gb635, 2, none⟩ (.bool t629)).setCell ⟨gb635, 3, none⟩ (.string t630)).setCell ⟨gb635, 4, none⟩ (.int .i64 t631)).setCell ⟨gb635, 5, none⟩ (.int .i64 t632)) = w181 at n0_ n1_ n2_ n3_ n4_ n5_ n6_ n7_ n8_ ⊢
           have HO_9 := n0_
           have HO_559001 := n1_
           have HO_559002 := n2_
           have HO_559003 := n3_
           have HO_596004 := n4_
           have BK558 := n5_
           have BK595 := n6_
           have BK635 := n7_
           have HB := n8_
           clear n0_ n1_ n2_ n3_ n4_ n5_ n6_ n7_ n8_
           replace HO_9 := Aside0.mk (Kd.R_drew HO_9.out)
           replace HO_559001 := Aside0.mk (Kd.R_drew HO_559001.out)
           replace HO_559002 := Aside0.mk (Kd.R_drew HO_559002.out)
           replace HO_559003 := Aside0.mk (Kd.R_drew HO_559003.out)
           replace HO_596004 := Aside0.mk (Kd.R_drew HO_596004.out)
           replace BK558 := Aside0.mk (blk_drew BK558.out)
           replace BK595 := Aside0.mk (blk_drew BK595.out)
           replace BK635 := Aside0.mk (blk_drew BK635.out)
           replace HB := Aside0.mk (below_drew1 HB.out)
           refine start_ (n := 12) (S := fun w' => w'.cell? ⟨gb635, 0, none⟩ = some (.string t627) ∧ w'.cell? ⟨gb635, 1, none⟩ = some (.string t628) ∧ w'.cell? ⟨gb635, 2, none⟩ = some (.bool t629) ∧ w'.cell? ⟨gb635, 3, none⟩ = some (.string t630) ∧ w'.cell? ⟨gb635, 4, none⟩ = some (.int .i64 t631) ∧ w'.cell? ⟨gb635, 5, none⟩ = some (.int .i64 t632)) (ds := []) #[false, false, false, false, false, false, false, false, false, false, false, false] (by kernel_rfl) rfl rfl ⟨(blk_cell BK635.out 0).trans rfl, (blk_cell BK635.out 1).trans rfl, (blk_cell BK635.out 2).trans rfl, (blk_cell BK635.out 3).trans rfl, (blk_cell BK635.out 4).trans rfl, (blk_cell BK635.out 5).trans rfl⟩ (fun hHeld => ?_); refine with_tabW hopmeshlaw49_InstallAgreed.tab42_part36 hopmeshlaw49_InstallAgreed.bits42_part36 (fun HT_ HW_ => ?_)
           generalize w181.drew = w182 at HO_9 HO_559001 HO_559002 HO_559003 HO_596004 BK558 BK595 BK635 HB hHeld ⊢
           refine pur 0 (some 189) #[true, false, false, false, false, false, false, false, false, false, false, false] HT_ ?_
           refine pur 1 (some 190) #[true, true, false, false, false, false, false, false, false, false, false, false] HT_ ?_
           refine pur 2 (some 191) #[true, true, true, false, false, false, false, false, false, false, false, false] HT_ ?_
           refine pur 3 (some 192) #[true, true, true, true, false, false, false, false, false, false, false, false] HT_ ?_
           refine pur 4 (some 193) #[true, true, true, true, true, false, false, false, false, false, false, false] HT_ ?_
           refine pur 5 (some 194) #[true, true, true, true, true, true, false, false, false, false, false, false] HT_ ?_
           refine pur 6 (some 195) #[true, true, true, true, true, true, true, false, false, false, false, false] HT_ ?_
           refine pur 7 (some 196) #[true, true, true, true, true, true, true, true, false, false, false, false] HT_ ?_
           refine tak 8 (some 197) #[true, true, true, true, true, true, true, true, true, false, false, false] HT_ HW_ hHeld rfl (Or.inl ⟨by rfl, by rintro w' ⟨s0, s1, s2, s3, s4, s5⟩; go_simp; with_reducible rfl⟩) ?_
           refine one_ (i := 9) (N := some 198) #[true, true, true, true, true, true, true, true, true, true, false, false] rfl rfl (one_of HT_.out (by kernel_rfl)) (by decide) (fun K hK => ?_)
           refine goes_ Try.func11 (by kernel_rfl) rfl #[.string (⟨#[120]⟩ : ByteArray)] (by rfl) rfl rfl sma ?_
           with_reducible refine (hopmeshlaw49_id.calls (⟨#[120]⟩ : ByteArray) t636 _ A174.out).mono ?_
           rintro e w183 ⟨rfl, hb⟩
           refine ⟨_, rfl, ?_⟩
           replace HO_9 := rB HO_9 hb
           replace HO_559001 := rB HO_559001 hb
           replace HO_559002 := rB HO_559002 hb
           replace HO_559003 := rB HO_559003 hb
           replace HO_596004 := rB HO_596004 hb
           replace BK558 := bkB BK558 hb
           replace BK595 := bkB BK595 hb
           replace BK635 := bkB BK635 hb
           replace HB := hbS HB hb
           (try clear hb)
           (try clear hb2)
           (try clear hk)
           (try clear hi)
           refine hK.out _ _ ⟨(blk_cell BK635.out 0).trans rfl, (blk_cell BK635.out 1).trans rfl, (blk_cell BK635.out 2).trans rfl, (blk_cell BK635.out 3).trans rfl, (blk_cell BK635.out 4).trans rfl, (blk_cell BK635.out 5).trans rfl⟩ (fun hHeld => ?_)
           clear hK K
           refine nrm (some 198) ?_
           refine pur 10 (some 199) #[true, true, true, true, true, true, true, true, true, true, true, false] HT_ ?_
           refine pur 11 (some 200) #[true, true, true, true, true, true, true, true, true, true, true, true] HT_ ?_
           refine done_ (done_of HT_.out (by kernel_rfl)) ?_
           try go_wp2
           go_roundg k6
           case measure => have := HJ3.out; have := HK2.out; have := HK3.out; have := HJ63.out; have := HJ84.out; have := HK6.out; omega
           case rel => exact ⟨(wrap64 (x175_6 + 1)), rfs, H', ⟨by have := HJ3.out; have := HK2.out; have := HK3.out; have := HJ63.out; have := HJ84.out; have := HK6.out; omega⟩, ⟨by (with_reducible repeat (first | apply Kd.R_alloc | apply Kd.R_drewN | apply Kd.R_drew)); exact Kd.R_mono HO_9.out (fun _ hk => trivial)⟩, roA HO_559001, roA HO_559002, roA HO_559003, roA HO_596004, bkA BK558, bkA BK595, hbA HB⟩
          ·rw [if_neg c175] at H
           exact absurd H (by simp)
         ·replace c173 := Bool.eq_false_iff.mpr c173
          subst c173
          rw [if_neg (show ¬ (false = true) by decide)] at H
          exact absurd H (by simp)
        ·rw [if_neg c172] at H
         have c172b0 : (t634 == 0) = false := beq_eq_false_iff_ne.mpr c172
         have c172b1 : (t634 != 0) = true := bne_iff_ne.mpr c172
         exact absurd H (by simp)
       ·rw [if_neg c170] at H
        exact absurd H (by simp)
      ·rw [if_neg c169] at H
       exact absurd H (by simp)
     ·rw [if_neg c168] at H
      have c168b0 : decide (x175_6 < (x9_84.length : Int)) = false := decide_eq_false c168
      clear c168
      obtain rfl := Option.some.inj H
      go_wp2
      go_ret
      exact ⟨by first | rfl | (simp [errW_none, errW_some] <;> rfl) | (simp only [← hji14]; first | rfl | (simp [errW_none, errW_some] <;> rfl)) | (simp [*, errW_none, errW_some] <;> rfl), hbx HB⟩
  ·replace c160 := Bool.eq_false_iff.mpr c160
   subst c160
   rw [if_neg (show ¬ (false = true) by decide)] at H
   obtain rfl := Option.some.inj H
   have hnb184 := NB558_595.out
   have hnc184 := NB595_558.out
   obtain ⟨z0, z1, z2, z3, z4, z5, y0, y1, y2, y3, y4, y5⟩ := bc6 BK558
   obtain ⟨Ao186, co186, eo186⟩ := Kd.R_slice HO_559001.out
   subst eo186
   obtain ⟨Ao187, co187, eo187⟩ := Kd.R_slice HO_559002.out
   subst eo187
   obtain ⟨Ao188, co188, eo188⟩ := Kd.R_slice HO_559003.out
   subst eo188
   go_wp2_with (first | ((with_reducible refine gate_callee (f := 21) rfl ?_); refine goesL_ (some 171) rfl rfl Try.func21 (by kernel_rfl) rfl #[.agg #[.string x559000_84, .slice Ao186 x559001_84.length co186, .slice Ao187 x559002_84.length co187, .slice Ao188 x559003_84.length co188, .int .i64 x559004_84, .int .i64 x559005_84]] rfl sma ?_; (with_reducible refine (install_Agreed.calls kj84 x559000_84 _ _ x559001_84 _ _ x559002_84 _ _ x559003_84 x559004_84 x559005_84 false _ ?side1 ?side2 ?side3 ?side4 ?side5 ?side6 A159.out).mono ?_); (case side1 => repeat (first | exact (Kd.R_reads' HO_559001.out).2.2 | (with_reducible refine Kd.C_alloc ?_ _) | (with_reducible refine Kd.C_drewN ?_ _) | (with_reducible refine Kd.C_drew ?_))); (case side2 => exact (Kd.R_reads' HO_559001.out).2.1); (case side3 => repeat (first | exact (Kd.R_reads' HO_559002.out).2.2 | (with_reducible refine Kd.C_alloc ?_ _) | (with_reducible refine Kd.C_drewN ?_ _) | (with_reducible refine Kd.C_drew ?_))); (case side4 => exact (Kd.R_reads' HO_559002.out).2.1); (case side5 => repeat (first | exact (Kd.R_reads' HO_559003.out).2.2 | (with_reducible refine Kd.C_alloc ?_ _) | (with_reducible refine Kd.C_drewN ?_ _) | (with_reducible refine Kd.C_drew ?_))); (case side6 => exact (Kd.R_reads' HO_559003.out).2.1); rintro e w189 ⟨rfl, hb⟩; refine ⟨_, rfl, ?_⟩; replace HO_9 := rB HO_9 hb; replace HO_559001 := rB HO_559001 hb; replace HO_559002 := rB HO_559002 hb; replace HO_559003 := rB HO_559003 hb; replace HO_596004 := rB HO_596004 hb; replace BK558 := bkB BK558 hb; replace BK595 := bkB BK595 hb; replace HB := hbS HB hb; (try clear hb); (try clear hb2); (try clear hk); (try clear hi)))
   go_ret
   exact ⟨by first | rfl | (simp [errW_none, errW_some] <;> rfl) | (simp only [← hji14]; first | rfl | (simp [errW_none, errW_some] <;> rfl)) | (simp [*, errW_none, errW_some] <;> rfl), hbx HB⟩
end Go.Proofs.Ytdigplhjfjchnaa.PQ
