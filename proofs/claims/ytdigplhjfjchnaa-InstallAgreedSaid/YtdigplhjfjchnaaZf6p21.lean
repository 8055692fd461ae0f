-- Printed by fprint.py and zip.py, programs of this session's, over the kit's print; Lean checks it.
import Derived.Test.YtdigplhjfjchnaaZ0
import Derived.Test.YtdigplhjfjchnaaZf11
import Derived.Test.YtdigplhjfjchnaaZf12
import Derived.Test.YtdigplhjfjchnaaZf14
import Derived.Test.YtdigplhjfjchnaaZf15
import Derived.Test.YtdigplhjfjchnaaZf18
import Derived.Test.YtdigplhjfjchnaaZf20
import Derived.Test.YtdigplhjfjchnaaZf10
import Derived.Test.YtdigplhjfjchnaaZf17
import Derived.Test.YtdigplhjfjchnaaZf19
import Derived.Test.YtdigplhjfjchnaaZf21
import Derived.Test.YtdigplhjfjchnaaZf22
import Derived.Test.YtdigplhjfjchnaaZf23
import Derived.Test.YtdigplhjfjchnaaZf6d
import Derived.Test.YtdigplhjfjchnaaZC
import Derived.Test.YtdigplhjfjchnaaZf6p36
namespace Go.Proofs.Ytdigplhjfjchnaa.PQ
open Go.RowKit Go.Proofs.YtdigplhjfjchnaaW.PrintWords Go.Proofs.YtdigplhjfjchnaaW.PrintLast Go.Proofs.YtdigplhjfjchnaaW.PrintMore
attribute [local go_sem] max2_int min2_int max_two min_two max_three min_three max_four min_four   -- for this text's walks alone
set_option linter.unusedVariables false
set_option linter.unusedSimpArgs false
def hopmeshlaw49_InstallAgreed.T30_part21 : Bool × List (List Nat × List Nat) := (true, [([], []), ([], []), ([], []), ([], []), ([2, 3], [2, 3]), ([4], [4]), ([], []), ([], []), ([], []), ([8], [8]), ([9], [9]), ([5, 6, 7, 10], [5, 6, 7, 10]), ([11], [11]), ([12], [12]), ([12], [12]), ([0, 1, 0, 1, 2, 3, 4, 5, 6, 7, 8, 9, 10, 11, 12, 13], [0, 1]), ([15, 13, 11, 0, 1, 2, 3, 4, 5, 6, 7, 8, 9, 10, 11, 12, 13], [13, 15])])
def hopmeshlaw49_InstallAgreed.B30_part21 : List Nat := [0, 0, 0, 0, 12, 28, 0, 0, 0, 256, 768, 2044, 4092, 8188, 8188, 16383, 49151]
theorem hopmeshlaw49_InstallAgreed.tab30_part21 : rtab .any (opsOf Try.f6 30) = hopmeshlaw49_InstallAgreed.T30_part21 := by kernel_rfl
theorem hopmeshlaw49_InstallAgreed.bits30_part21 : waitsOk hopmeshlaw49_InstallAgreed.T30_part21.2 hopmeshlaw49_InstallAgreed.B30_part21 = true := by kernel_rfl
def hopmeshlaw49_InstallAgreed.T31_part21 : Bool × List (List Nat × List Nat) := (true, [([], []), ([], []), ([0, 1], [0, 1]), ([2], [2]), ([3], [3]), ([], []), ([5], [5]), ([4, 6], [4, 6])])
def hopmeshlaw49_InstallAgreed.B31_part21 : List Nat := [0, 0, 3, 7, 15, 0, 32, 127]
theorem hopmeshlaw49_InstallAgreed.tab31_part21 : rtab .any (opsOf Try.f6 31) = hopmeshlaw49_InstallAgreed.T31_part21 := by kernel_rfl
theorem hopmeshlaw49_InstallAgreed.bits31_part21 : waitsOk hopmeshlaw49_InstallAgreed.T31_part21.2 hopmeshlaw49_InstallAgreed.B31_part21 = true := by kernel_rfl
def hopmeshlaw49_InstallAgreed.T32_part21 : Bool × List (List Nat × List Nat) := (true, [([], []), ([], []), ([], []), ([], []), ([2, 3], [2, 3]), ([4], [4]), ([5], [5]), ([0, 1, 6], [0, 1, 6]), ([7], [7]), ([8], [8]), ([8], [8]), ([9, 7, 0, 1, 2, 3, 4, 5, 6, 7, 8, 9], [9]), ([10, 11, 0, 1, 2, 3, 4, 5, 6, 7, 8, 9, 10, 11], [10])])
def hopmeshlaw49_InstallAgreed.B32_part21 : List Nat := [0, 0, 0, 0, 12, 28, 60, 127, 255, 511, 511, 1023, 4095]
theorem hopmeshlaw49_InstallAgreed.tab32_part21 : rtab .any (opsOf Try.f6 32) = hopmeshlaw49_InstallAgreed.T32_part21 := by kernel_rfl
theorem hopmeshlaw49_InstallAgreed.bits32_part21 : waitsOk hopmeshlaw49_InstallAgreed.T32_part21.2 hopmeshlaw49_InstallAgreed.B32_part21 = true := by kernel_rfl
set_option maxHeartbeats 8000000 in
set_option maxRecDepth 100000 in
theorem hopmeshlaw49_InstallAgreed.part21 (k : Nat) (a0 : Int) (a1 : Int) (A2 : Option Addr) (c2 : Nat) (l2 : List S47) (r : Bool) (w : World) (kj3 : Nat) (ji14 : Int) (v528 : Value) (x8_2 : List Int) (x9_2 : List S28) (x41_2 : Int) (k2 : Nat) (Ao37 : Option Addr) (co37 : Nat) (gb558 : Nat) (w39 : World) (x12_3 : Int) (x72_3 : Int) (x559000_3 : ByteArray) (x559001_3 : List Int) (x559002_3 : List Bool) (x559003_3 : List Bool) (x559004_3 : Int) (x559005_3 : Int) (u559001 : Value) (u559002 : Value) (u559003 : Value) (k3 : Nat) (wc : World) (kj63 : Nat) (t575 : ByteArray) (t576 : List Int) (t579 : List Bool) (t582 : List Bool) (t585 : Int) (t586 : Int) (t587 : Int) (t588 : Int) (t589 : Int) (t590 : ByteArray) (t591 : List Int) (t594 : Int) (t596 : List S47) (U3 U4 U5 U10 U13 U14 U15 U16 U17 U18 U19 U20 U21 U22 U23 U24 U25 U26 U27 U28 U29 U30 U31 U32 U33 U34 U35 U36 U37 U38 U39 U42 U43 U44 U45 U46 U47 U48 U49 U50 U51 U52 U53 U54 U55 U56 U57 U58 U59 U60 U61 U62 U63 U64 U65 U66 U67 U68 U69 U70 U73 U74 U75 U76 U77 U78 U79 U80 U81 U82 U83 U84 U85 U86 U87 U88 U89 U90 U91 U92 U93 U94 U95 U96 U97 U98 U100 U101 U102 U103 U104 U105 U106 U107 U108 U109 U110 U111 U112 U113 U114 U115 U116 U117 U118 U119 U120 U121 U122 U123 U124 U125 U126 U127 U128 U129 U130 U131 U132 U133 U134 U135 U136 U137 U138 U139 U140 U141 U142 U143 U144 U145 U146 U147 U148 U149 U150 U151 U152 U153 U154 U155 U156 U157 U158 U159 U160 U161 U162 U163 U164 U165 U166 U167 U168 U169 U170 U171 U172 U173 U174 U175 U176 U177 U178 U179 U180 U181 U182 U183 U184 U185 U186 U187 U188 U189 U190 U191 U192 U193 U194 U195 U196 U197 U198 U199 U200 U201 : Value) (HR2 : Aside0 (Kd.C k47 w A2 (List.length l2) l2)) (HC2 : Aside0 (List.length l2 ≤ c2)) (HJ3 : Aside0 (kj3 + (1 : Nat) ≤ k)) (hji14 : wrap64 ((1 : Int) + wrap64 (Int.tmod a0 (6 : Int))) = ji14) (hji14w : IntKind.wrap IntKind.i64 ((1 : Int) + wrap64 (Int.tmod a0 (6 : Int))) = ji14) (HK2 : Aside0 (k2 + (1 : Nat) ≤ kj3)) (GE558 : Aside0 (Array.size (World.heap w) ≤ gb558)) (z0 : World.cell? w39 { block := gb558, off := (0 : Nat) } = some (Value.string { data := #[] })) (z1 : World.cell? w39 { block := gb558, off := (1 : Nat) } = some (Value.slice none (0 : Nat) (0 : Nat))) (z2 : World.cell? w39 { block := gb558, off := (2 : Nat) } = some (Value.slice none (0 : Nat) (0 : Nat))) (z3 : World.cell? w39 { block := gb558, off := (3 : Nat) } = some (Value.slice none (0 : Nat) (0 : Nat))) (z4 : World.cell? w39 { block := gb558, off := (4 : Nat) } = some (Value.int IntKind.i64 (0 : Int))) (z5 : World.cell? w39 { block := gb558, off := (5 : Nat) } = some (Value.int IntKind.i64 (0 : Int))) (y0 : World.frozen? w39 { block := gb558, off := (0 : Nat) } = false) (y1 : World.frozen? w39 { block := gb558, off := (1 : Nat) } = false) (y2 : World.frozen? w39 { block := gb558, off := (2 : Nat) } = false) (y3 : World.frozen? w39 { block := gb558, off := (3 : Nat) } = false) (y4 : World.frozen? w39 { block := gb558, off := (4 : Nat) } = false) (y5 : World.frozen? w39 { block := gb558, off := (5 : Nat) } = false) (HK3 : Aside0 (k3 + (1 : Nat) ≤ k2)) (HO_9 : Aside0 (Kd.R k28 (28 : Nat) wc (Array.size (World.heap w)) (fun (x : Nat) => True) v528 x9_2)) (HO_559001 : Aside0 (Kd.R (Kd.int IntKind.i64) (3 : Nat) wc (Array.size (World.heap w)) (fun (x : Nat) => True) u559001 x559001_3)) (HO_559002 : Aside0 (Kd.R Kd.bool (4 : Nat) wc (Array.size (World.heap w)) (fun (k_ : Nat) => some k_ ≠ Value.ownBlock u559003) u559002 x559002_3)) (HO_559003 : Aside0 (Kd.R Kd.bool (4 : Nat) wc (Array.size (World.heap w)) (fun (k_ : Nat) => some k_ ≠ Value.ownBlock u559002) u559003 x559003_3)) (BK558 : Aside0 ((World.heap wc)[gb558]? = some (Obj.cells #[Value.string x559000_3, u559001, u559002, u559003, Value.int IntKind.i64 x559004_3, Value.int IntKind.i64 x559005_3] (50 : TypeId)))) (HB : Aside0 (Below (Array.size (World.heap w)) w wc)) (HJ63 : Aside0 (kj63 + (1 : Nat) ≤ k3)) (A82 : Aside0 (install_Order.f kj63 x559000_3 x559001_3 x559002_3 x559003_3 x559004_3 x559005_3 (wrap64 a1) = some (t575, t576, t579, t582, t585, t586, t587, t588, t589, t590, t591, t594))) (c83b0 : (t594 == (0 : Int)) = true) (c83b1 : (t594 != (0 : Int)) = false) (A84 : Aside0 (hopmeshlaw49_order.f kj63 l2 = some t596)) (HC85 : Aside0 (hopmeshlaw49_InstallAgreed.l2 kj63 a1 ji14 x9_2 t596 (↑(List.length t596) : Int) (0 : Int) t575 t576 t579 t582 t585 t586 t587 t588 t589 t590 t591 = some r)) (c1_ c2_ : Code) :
 let Q' : Exit → Act → World → Prop := bodyPost Try.prog Try.f6 fun (e : Ending) (w' : World) => e = Ending.returned (Value.bool r) ∧ Below (Array.size (World.heap w)) w w'
 ∀ (K : Act → World → Prop), (∀ (a : Act) (w : World), Code.wp Try.prog c2_ Q' a w → K a w) → Option.bind Try.f6.body (seqAt 21) = some (c1_, c2_) → Code.wp Try.prog c1_ (Exit.then K Q') ⟨#[Value.int IntKind.u8 a0, Value.int IntKind.u8 a1, Value.slice A2 (List.length l2) c2, U3, U4, U5, Value.bool false, Value.int IntKind.i64 ji14, Value.slice Ao37 (List.length x8_2) co37, v528, U10, Value.pointer (some { block := gb558, off := (0 : Nat) }), Value.int IntKind.i64 x12_3, U13, U14, U15, U16, U17, U18, U19, U20, U21, U22, U23, U24, U25, U26, U27, U28, U29, U30, U31, U32, U33, U34, U35, U36, U37, U38, U39, Value.int IntKind.i64 ji14, Value.int IntKind.i64 x41_2, U42, U43, U44, U45, U46, U47, U48, U49, U50, U51, U52, U53, U54, U55, U56, U57, U58, U59, U60, U61, U62, U63, U64, U65, U66, U67, U68, U69, U70, Value.int IntKind.i64 ji14, Value.int IntKind.i64 x72_3, U73, U74, U75, U76, U77, U78, U79, U80, U81, U82, U83, U84, U85, U86, U87, U88, U89, U90, U91, U92, U93, U94, U95, U96, U97, U98, Value.bool false, U100, U101, U102, U103, U104, U105, U106, U107, U108, U109, U110, U111, U112, U113, U114, U115, U116, U117, U118, U119, U120, U121, U122, U123, U124, U125, U126, U127, U128, U129, U130, U131, U132, U133, U134, U135, U136, U137, U138, U139, U140, U141, U142, U143, U144, U145, U146, U147, U148, U149, U150, U151, U152, U153, U154, U155, U156, U157, U158, U159, U160, U161, U162, U163, U164, U165, U166, U167, U168, U169, U170, U171, U172, U173, U174, U175, U176, U177, U178, U179, U180, U181, U182, U183, U184, U185, U186, U187, U188, U189, U190, U191, U192, U193, U194, U195, U196, U197, U198, U199, U200, U201], []⟩ (wc) := by
 intro Q' K hK_ hc_
 conv at hc_ => lhs; whnf
 obtain ⟨h1_, h2_⟩ := Prod.mk.inj (Option.some.inj hc_)
 subst h1_ h2_
 clear hc_
 have hu28 := Try.underlying28
 have hu50 := Try.underlying50
 have hu36 := Try.underlying36
 have hu47 := Try.underlying47
 obtain ⟨z0, z1, z2, z3, z4, z5, y0, y1, y2, y3, y4, y5⟩ := bc6 BK558
 obtain ⟨Ao87, co87, eo87⟩ := Kd.R_slice HO_559001.out
 subst eo87
 obtain ⟨Ao88, co88, eo88⟩ := Kd.R_slice HO_559002.out
 subst eo88
 obtain ⟨Ao89, co89, eo89⟩ := Kd.R_slice HO_559003.out
 subst eo89
 go_upto_block 4 with (first | ((with_reducible refine gate_callee (f := 22) rfl ?_); refine goesL_ (some 104) rfl rfl Try.func22 (by kernel_rfl) rfl #[.agg #[.string x559000_3, .slice Ao87 x559001_3.length co87, .slice Ao88 x559002_3.length co88, .slice Ao89 x559003_3.length co89, .int .i64 x559004_3, .int .i64 x559005_3], .int .i64 (wrap64 (a1))] rfl sma ?_; (with_reducible refine (install_Order.calls kj63 x559000_3 _ _ x559001_3 _ _ x559002_3 _ _ x559003_3 x559004_3 x559005_3 (wrap64 (a1)) t575 t576 t579 t582 t585 t586 t587 t588 t589 t590 t591 t594 _ ?side1 ?side2 ?side3 ?side4 ?side5 ?side6 A82.out).mono ?_); (case side1 => repeat (first | exact (Kd.R_reads' HO_559001.out).2.2 | (with_reducible refine Kd.C_alloc ?_ _) | (with_reducible refine Kd.C_drewN ?_ _) | (with_reducible refine Kd.C_drew ?_))); (case side2 => exact (Kd.R_reads' HO_559001.out).2.1); (case side3 => repeat (first | exact (Kd.R_reads' HO_559002.out).2.2 | (with_reducible refine Kd.C_alloc ?_ _) | (with_reducible refine Kd.C_drewN ?_ _) | (with_reducible refine Kd.C_drew ?_))); (case side4 => exact (Kd.R_reads' HO_559002.out).2.1); (case side5 => repeat (first | exact (Kd.R_reads' HO_559003.out).2.2 | (with_reducible refine Kd.C_alloc ?_ _) | (with_reducible refine Kd.C_drewN ?_ _) | (with_reducible refine Kd.C_drew ?_))); (case side6 => exact (Kd.R_reads' HO_559003.out).2.1); rintro e w90 ⟨v577, v580, v583, v592, rfl, ho0, ho1, ho2, ho3, hb⟩; refine ⟨_, rfl, ?_⟩; replace HO_9 := rB HO_9 hb; have HO578 := Aside0.mk (Kd.R_lower (Kd.R_new' ho0 (Kd.R_lt (ro HO_559001))) (below_size (hbx HB))); have HO581 := Aside0.mk (Kd.R_lower (Kd.R_new' (Kd.R_new' ho1 (Kd.R_lt (ro HO_559002))) (Kd.R_lt (ro HO_559003))) (below_size (hbx HB))); have HO584 := Aside0.mk (Kd.R_lower (Kd.R_new' (Kd.R_new' ho2 (Kd.R_lt (ro HO_559002))) (Kd.R_lt (ro HO_559003))) (below_size (hbx HB))); replace HO_559002 := Aside0.mk (Kd.R_mono (Kd.R_told (Kd.R_told (Kd.R_old (ro HO_559002) hb) (Kd.R_base ho1)) (Kd.R_base ho2)) (fun _ h_ => h_.1)); replace HO_559003 := Aside0.mk (Kd.R_mono (Kd.R_told (Kd.R_told (Kd.R_old (ro HO_559003) hb) (Kd.R_base ho1)) (Kd.R_base ho2)) (fun _ h_ => h_.1)); have HO593 := Aside0.mk (Kd.R_lower (Kd.R_new' ho3 (Kd.R_lt (ro HO_559001))) (below_size (hbx HB))); replace HO_559001 := Aside0.mk (Kd.R_mono (Kd.R_told (Kd.R_told (Kd.R_old (ro HO_559001) hb) (Kd.R_base ho0)) (Kd.R_base ho3)) (fun _ h_ => h_.1)); replace BK558 := bkB BK558 hb; replace HB := hbS HB hb; (try clear hb); (try clear hb2); (try clear hk); (try clear hi); (try clear ho0); (try clear ho1); (try clear ho2); (try clear ho3)) | ((with_reducible refine gate_dst (N := 14) rfl ?_); (try (refine gate_guard (by rfl) ?_; dsimp only)); refine boxE 14 #[.int .i64 0, .int .i64 0, .int .i64 0, .string (⟨#[]⟩ : ByteArray), .slice none 0 0] 36 ?_; intro gb595 hg w91 hbox hb; replace HO_9 := rB HO_9 hb; replace HO_559001 := rB HO_559001 hb; replace HO_559002 := rB HO_559002 hb; replace HO_559003 := rB HO_559003 hb; replace HO578 := rB HO578 hb; replace HO581 := rB HO581 hb; replace HO584 := rB HO584 hb; replace HO593 := rB HO593 hb; have BK595 := Aside0.mk (hbox); have GW595 := gw hg HB; have GE595 := gw hg HB; replace HB := hbS HB hb; have NB558_595 := nbl hg BK558; have NB595_558 := nbg hg BK558; replace BK558 := bkB BK558 hb; clear hb hbox hg; have hnb92 := NB558_595.out; have hnc92 := NB595_558.out; obtain ⟨z0, z1, z2, z3, z4, z5, y0, y1, y2, y3, y4, y5⟩ := bc6 BK558; obtain ⟨Ao94, co94, eo94⟩ := Kd.R_slice HO578.out; subst eo94; obtain ⟨Ao95, co95, eo95⟩ := Kd.R_slice HO581.out; subst eo95; obtain ⟨Ao96, co96, eo96⟩ := Kd.R_slice HO584.out; subst eo96; obtain ⟨z0, z1, z2, z3, z4, y0, y1, y2, y3, y4⟩ := bc5 BK595; obtain ⟨Ao98, co98, eo98⟩ := Kd.R_slice HO593.out; subst eo98) | ((with_reducible refine gate_callee (f := 17) rfl ?_); refine goesL_ (some 111) rfl rfl Try.func17 (by kernel_rfl) rfl #[.slice A2 l2.length c2] rfl sma ?_; (with_reducible refine (hopmeshlaw49_order.calls kj63 _ _ l2 t596 _ ?side1 HC2.out A84.out).mono ?_); (case side1 => exact Kd.C_below HR2.out (hbx HB)); rintro e w99 ⟨v597, rfl, ho0, hb⟩; refine ⟨_, rfl, ?_⟩; replace HO_9 := Aside0.mk (Kd.R_below (rfo HO_9) hb); replace HO_559001 := Aside0.mk (Kd.R_below (rfo HO_559001) hb); replace HO_559002 := Aside0.mk (Kd.R_below (rfo HO_559002) hb); replace HO_559003 := Aside0.mk (Kd.R_below (rfo HO_559003) hb); replace HO578 := Aside0.mk (Kd.R_below (rfo HO578) hb); replace HO581 := Aside0.mk (Kd.R_below (rfo HO581) hb); replace HO584 := Aside0.mk (Kd.R_below (rfo HO584) hb); replace HO593 := Aside0.mk (Kd.R_below (rfo HO593) hb); have HO598 := Aside0.mk (Kd.R_lower ho0 (below_size (hbx HB))); replace BK558 := Aside0.mk (blk_below (o := .cells #[.string t575, .slice Ao94 t576.length co94, .slice Ao95 t579.length co95, .slice Ao96 t582.length co96, .int .i64 t585, .int .i64 t586] 50 (0, 0)) (bkp BK558) hb); replace BK595 := Aside0.mk (blk_below (o := .cells #[.int .i64 t587, .int .i64 t588, .int .i64 t589, .string t590, .slice Ao98 t591.length co98] 36 (0, 0)) (bkp BK595) hb); replace HB := hbS HB hb; (try clear hb); (try clear hb2); (try clear hk); (try clear hi); (try clear ho0); obtain ⟨Ao100, co100, eo100⟩ := Kd.R_slice HO598.out; subst eo100))
 (try simp only [Act.put, List.setIfInBounds_toArray, List.set_cons_zero, List.set_cons_succ])
 go_cut [] (fun wc => ∃ (kq : Nat) (x9_84 : List (S28)) (x559000_84 : ByteArray) (x559001_84 : List Int) (x559002_84 : List Bool) (x559003_84 : List Bool) (x559004_84 : Int) (x559005_84 : Int) (u559001 : Value) (u559002 : Value) (u559003 : Value), Aside0 (hopmeshlaw49_InstallAgreed.j5 kq a1 x9_84 x559000_84 x559001_84 x559002_84 x559003_84 x559004_84 x559005_84 = some r) ∧ Aside0 (kq ≤ kj63) ∧ Aside0 (Kd.R k28 28 wc w.heap.size (fun _ => True) v528 x9_84) ∧ Aside0 (Kd.R (Kd.int .i64) 3 wc w.heap.size (fun k_ => some k_ ≠ ((.slice Ao98 t591.length co98) : Value).ownBlock) u559001 x559001_84) ∧ Aside0 (Kd.R Kd.bool 4 wc w.heap.size (fun k_ => some k_ ≠ (u559003 : Value).ownBlock) u559002 x559002_84) ∧ Aside0 (Kd.R Kd.bool 4 wc w.heap.size (fun k_ => some k_ ≠ (u559002 : Value).ownBlock) u559003 x559003_84) ∧ Aside0 (Kd.R (Kd.int .i64) 3 wc w.heap.size (fun k_ => some k_ ≠ (u559001 : Value).ownBlock) (.slice Ao98 t591.length co98) t591) ∧ Aside0 (wc.heap[gb558]? = some (.cells #[.string x559000_84, u559001, u559002, u559003, .int .i64 x559004_84, .int .i64 x559005_84] 50 (0, 0))) ∧ Aside0 (wc.heap[gb595]? = some (.cells #[.int .i64 t587, .int .i64 t588, .int .i64 t589, .string t590, (.slice Ao98 t591.length co98)] 36 (0, 0))) ∧ Aside0 (Below w.heap.size w wc))
 case first =>
  have H := HC85.out
  clear HC85
  have H' := Aside0.mk H
  clear H
  go_wp2
  go_loopg [113] kj63 (fun kq v113 w' => ∃ (x9_5 : List (S28)) (x113_5 : Int) (x559000_5 : ByteArray) (x559001_5 : List Int) (x559002_5 : List Bool) (x559003_5 : List Bool) (x559004_5 : Int) (x559005_5 : Int) (u559001 : Value) (u559002 : Value) (u559003 : Value), v113 = .int .i64 x113_5 ∧ Aside0 (hopmeshlaw49_InstallAgreed.l2 kq a1 ji14 x9_5 t596 (t596.length : Int) x113_5 x559000_5 x559001_5 x559002_5 x559003_5 x559004_5 x559005_5 t587 t588 t589 t590 t591 = some r) ∧ Aside0 (kq ≤ kj63) ∧ Aside0 (Kd.R k28 28 w' w.heap.size (fun _ => True) v528 x9_5) ∧ Aside0 (Kd.R k47 47 w' w.heap.size (fun _ => True) (.slice Ao100 t596.length co100) t596) ∧ Aside0 (Kd.R (Kd.int .i64) 3 w' w.heap.size (fun k_ => some k_ ≠ ((.slice Ao98 t591.length co98) : Value).ownBlock) u559001 x559001_5) ∧ Aside0 (Kd.R Kd.bool 4 w' w.heap.size (fun k_ => some k_ ≠ (u559003 : Value).ownBlock) u559002 x559002_5) ∧ Aside0 (Kd.R Kd.bool 4 w' w.heap.size (fun k_ => some k_ ≠ (u559002 : Value).ownBlock) u559003 x559003_5) ∧ Aside0 (Kd.R (Kd.int .i64) 3 w' w.heap.size (fun k_ => some k_ ≠ (u559001 : Value).ownBlock) (.slice Ao98 t591.length co98) t591) ∧ Aside0 (w'.heap[gb558]? = some (.cells #[.string x559000_5, u559001, u559002, u559003, .int .i64 x559004_5, .int .i64 x559005_5] 50 (0, 0))) ∧ Aside0 (w'.heap[gb595]? = some (.cells #[.int .i64 t587, .int .i64 t588, .int .i64 t589, .string t590, (.slice Ao98 t591.length co98)] 36 (0, 0))) ∧ Aside0 (Below w.heap.size w w'))
  case atStart => exact ⟨(x9_2), (0), (t575), (t576), (t579), (t582), (t585), (t586), (.slice Ao94 t576.length co94), (.slice Ao95 t579.length co95), (.slice Ao96 t582.length co96), rfs, H', ⟨Nat.le_refl _⟩, roA HO_9, roA HO598, ⟨by (with_reducible repeat (first | apply Kd.R_alloc | apply Kd.R_drewN | apply Kd.R_drew)); exact Kd.R_mono HO578.out (fun _ hk => hk.1)⟩, ⟨by (with_reducible repeat (first | apply Kd.R_alloc | apply Kd.R_drewN | apply Kd.R_drew)); exact Kd.R_mono HO581.out (fun _ hk => hk.1.1)⟩, ⟨by (with_reducible repeat (first | apply Kd.R_alloc | apply Kd.R_drewN | apply Kd.R_drew)); exact Kd.R_mono HO584.out (fun _ hk => hk.1.1)⟩, ⟨by (with_reducible repeat (first | apply Kd.R_alloc | apply Kd.R_drewN | apply Kd.R_drew)); exact Kd.R_mono HO593.out (fun _ hk => hk.1)⟩, bkA BK558, bkA BK595, hbA HB⟩
  case round =>
   clear H'
   try clear c2
   try clear c11
   try clear c15
   try clear c15b0
   try clear c15b1
   try clear c16
   try clear c16b0
   try clear c16b1
   try clear c19
   try clear c19b0
   try clear c44
   try clear c44b0
   try clear c81
   try clear c83
   try clear c83b0
   try clear c83b1
   try clear hcz40_0
   try clear hcz40_1
   try clear hcz40_2
   try clear hcz40_3
   try clear hcz40_4
   try clear hcz40_5
   try clear hcz86_0
   try clear hcz86_1
   try clear hcz86_2
   try clear hcz86_3
   try clear hcz86_4
   try clear hcz86_5
   try clear hcz93_0
   try clear hcz93_1
   try clear hcz93_2
   try clear hcz93_3
   try clear hcz93_4
   try clear hcz93_5
   try clear hcz97_0
   try clear hcz97_1
   try clear hcz97_2
   try clear hcz97_3
   try clear hcz97_4
   try clear hfz40_0
   try clear hfz40_1
   try clear hfz40_2
   try clear hfz40_3
   try clear hfz40_4
   try clear hfz40_5
   try clear hfz86_0
   try clear hfz86_1
   try clear hfz86_2
   try clear hfz86_3
   try clear hfz86_4
   try clear hfz86_5
   try clear hfz93_0
   try clear hfz93_1
   try clear hfz93_2
   try clear hfz93_3
   try clear hfz93_4
   try clear hfz93_5
   try clear hfz97_0
   try clear hfz97_1
   try clear hfz97_2
   try clear hfz97_3
   try clear hfz97_4
   obtain ⟨x9_5, x113_5, x559000_5, x559001_5, x559002_5, x559003_5, x559004_5, x559005_5, u559001, u559002, u559003, rfl, HA, HK5, HO_9, HO_111, HO_559001, HO_559002, HO_559003, HO_596004, BK558, BK595, HB⟩ := hrel
   cases gk with
   | zero => exact absurd HA.out (by simp [hopmeshlaw49_InstallAgreed.l2])
   | succ k5 =>
    have H := HA.out
    clear HA
    simp only [hopmeshlaw49_InstallAgreed.l2] at H
    by_cases c101 : x113_5 < (t596.length : Int)
    ·rw [if_pos c101] at H
     have c101b0 : decide (x113_5 < (t596.length : Int)) = true := decide_eq_true c101
     clear c101
     (first | rw [c101b0] | (simp only [i64_w, i32_w]; rw [c101b0]) | skip)
     by_cases c102 : 0 ≤ x113_5
     ·rw [if_pos c102] at H
      have c102b0 : decide (0 ≤ x113_5) = true := decide_eq_true c102
      clear c102
      by_cases c103 : x113_5 < (t596.length : Int)
      ·rw [if_pos c103] at H
       have c103b0 : decide (x113_5 < (t596.length : Int)) = true := decide_eq_true c103
       clear c103
       by_cases c104 : ji14 = 0
       ·rw [if_pos c104] at H
        exact absurd H (by simp)
       ·rw [if_neg c104] at H
        have c104b0 : (ji14 == 0) = false := beq_eq_false_iff_ne.mpr c104
        have c104b1 : (ji14 != 0) = true := bne_iff_ne.mpr c104
        by_cases c105 : (wrap64 ((rd_T47 t596 x113_5).f2)) ≥ (wrap64 (a1))
        ·rw [if_pos c105] at H
         have c105b0 : decide ((wrap64 (a1)) ≤ (wrap64 ((rd_T47 t596 x113_5).f2))) = true := decide_eq_true c105
         clear c105
         have H' := Aside0.mk H
         clear H
         have p599 : 0 ≤ (x113_5 : Int) := pos_
         have q599 : x113_5 < (t596.length : Int) := pos_
         obtain ⟨ad599, e599, hx599_0, hx599_1, hx599_2⟩ := at_T47 (Kd.R_reads' HO_111.out).2.2 x113_5 p599 q599
         cases e599
         replace p599 := eq_true p599
         replace q599 := eq_true q599
         go_wp2_with (first | ((with_reducible refine gate_dst (N := 16) rfl ?_); (try (refine gate_guard (by rfl) ?_; dsimp only)); refine boxE 16 #[.int .u8 0, .int .u8 0, .int .u8 0] 47 ?_; intro gb600 hg w106 hbox hb; replace HO_9 := rB HO_9 hb; replace HO_111 := Aside0.mk (Kd.R_below (Kd.R_elderB (ro HO_111) gb600 (Nat.le_of_eq hg.symm)) hb); replace HO_559001 := rB HO_559001 hb; replace HO_559002 := rB HO_559002 hb; replace HO_559003 := rB HO_559003 hb; replace HO_596004 := rB HO_596004 hb; have BK600 := Aside0.mk (hbox); have GW600 := gw hg HB; have GE600 := gw hg HB; replace HB := hbS HB hb; have NB558_600 := nbl hg BK558; have NB600_558 := nbg hg BK558; replace BK558 := bkB BK558 hb; have NB595_600 := nbl hg BK595; have NB600_595 := nbg hg BK595; replace BK595 := bkB BK595 hb; clear hb hbox hg; have hnb107 := NB600_558.out; have hnc107 := NB558_600.out; have hnb108 := NB600_595.out; have hnc108 := NB595_600.out; obtain ⟨z0, z1, z2, y0, y1, y2⟩ := bc3 BK600))
         go_meet
         case rel => exact ⟨_, (x9_5), (x559000_5), (x559001_5), (x559002_5), (x559003_5), (x559004_5), (x559005_5), (u559001), (u559002), (u559003), H', ⟨by have := HJ3.out; have := HK2.out; have := HK3.out; have := HJ63.out; have := HK5.out; first | omega | exact Nat.le_refl _⟩, ⟨Kd.R_mono (rty (rfo HO_9) BK600) (fun _ hk => trivial)⟩, rfA HO_559001, rfA HO_559002, rfA HO_559003, rfA HO_596004, bkfA BK558, bkfA BK595, hbA HB⟩
        ·rw [if_neg c105] at H
         have c105b0 : decide ((wrap64 (a1)) ≤ (wrap64 ((rd_T47 t596 x113_5).f2))) = false := decide_eq_false c105
         clear c105
         by_cases c110 : (Int.tmod ((rd_T47 t596 x113_5).f1) 2) = 0
         ·rw [if_pos c110] at H
          have c110b0 : ((Int.tmod ((rd_T47 t596 x113_5).f1) 2) == 0) = true := beq_iff_eq.mpr c110
          have c110b1 : ((Int.tmod ((rd_T47 t596 x113_5).f1) 2) != 0) = false := bne_eq_false_iff_eq.mpr c110
          clear c110
          obtain ⟨ji111, hji111⟩ : ∃ j_ : Int, (Int.tmod (wrap64 ((rd_T47 t596 x113_5).f0)) ji14) = j_ := ⟨_, rfl⟩
          replace H : (if 0 ≤ (ji111) then (if (ji111) < (x9_5.length : Int) then ((install_Take.f k5 ((rd_T28 x9_5 (ji111)).f0) ((rd_T28 x9_5 (ji111)).f1) ((rd_T28 x9_5 (ji111)).f2) ((rd_T28 x9_5 (ji111)).f3) ((rd_T28 x9_5 (ji111)).f4) ((rd_T28 x9_5 (ji111)).f5) t587 t588 t589 t590 t591 (ji111) (wrap64 ((rd_T47 t596 x113_5).f2))).bind fun bt602 => (hopmeshlaw49_InstallAgreed.l2 k5 a1 ji14 (x9_5.set ((ji111) : Int).toNat (⟨bt602.1, bt602.2.1, bt602.2.2.1, bt602.2.2.2.1, bt602.2.2.2.2.1, bt602.2.2.2.2.2.1⟩ : S28)) t596 (t596.length : Int) (wrap64 (x113_5 + 1)) x559000_5 x559001_5 x559002_5 x559003_5 x559004_5 x559005_5 t587 t588 t589 t590 t591)) else (none)) else (none)) = some r := by first | (rw [hji111] at H; exact H) | (simp only [hji111] at H ⊢; exact H)
          by_cases c112 : 0 ≤ (ji111)
          ·rw [if_pos c112] at H
           have c112b0 : decide (0 ≤ (ji111)) = true := decide_eq_true c112
           clear c112
           by_cases c113 : (ji111) < (x9_5.length : Int)
           ·rw [if_pos c113] at H
            have c113b0 : decide ((ji111) < (x9_5.length : Int)) = true := decide_eq_true c113
            clear c113
            replace H := Option.bind_eq_some_iff.mp H
            obtain ⟨⟨t602, t603, t604, t605, t606, t607, t608⟩, A1140, H⟩ := H
            (try dsimp only at H)
            have A114 := Aside0.mk A1140
            clear A1140
            obtain ⟨y609, hy609⟩ : ∃ y_ : List (S28), y_ = (x9_5.set ((ji111) : Int).toNat (⟨t602, t603, t604, t605, t606, t607⟩ : S28)) := ⟨_, rfl⟩
            replace H : (hopmeshlaw49_InstallAgreed.l2 k5 a1 ji14 y609 t596 (t596.length : Int) (wrap64 (x113_5 + 1)) x559000_5 x559001_5 x559002_5 x559003_5 x559004_5 x559005_5 t587 t588 t589 t590 t591) = some r := by first | (rw [hy609]; with_reducible exact H) | (have H2_ := (Option.bind_some _ _).symm.trans H; rw [hy609]; with_reducible exact H2_) | (have H2_ := (Option.bind_some _ _).symm.trans H; with_reducible exact H2_) | with_reducible exact H | (rw [hy609]; exact H) | exact H
            have Ny609 := Aside0.mk hy609
            clear hy609
            have H' := Aside0.mk H
            clear H
            have p599 : 0 ≤ (x113_5 : Int) := pos_
            have q599 : x113_5 < (t596.length : Int) := pos_
            obtain ⟨ad599, e599, hx599_0, hx599_1, hx599_2⟩ := at_T47 (Kd.R_reads' HO_111.out).2.2 x113_5 p599 q599
            cases e599
            replace p599 := eq_true p599
            replace q599 := eq_true q599
            try go_wp2_with (first | ((with_reducible refine gate_dst (N := 16) rfl ?_); (try (refine gate_guard (by rfl) ?_; dsimp only)); refine boxE 16 #[.int .u8 0, .int .u8 0, .int .u8 0] 47 ?_; intro gb600 hg w116 hbox hb; replace HO_9 := rB HO_9 hb; replace HO_111 := Aside0.mk (Kd.R_below (Kd.R_elderB (ro HO_111) gb600 (Nat.le_of_eq hg.symm)) hb); replace HO_559001 := rB HO_559001 hb; replace HO_559002 := rB HO_559002 hb; replace HO_559003 := rB HO_559003 hb; replace HO_596004 := rB HO_596004 hb; have BK600 := Aside0.mk (hbox); have GW600 := gw hg HB; have GE600 := gw hg HB; replace HB := hbS HB hb; have NB558_600 := nbl hg BK558; have NB600_558 := nbg hg BK558; replace BK558 := bkB BK558 hb; have NB595_600 := nbl hg BK595; have NB600_595 := nbg hg BK595; replace BK595 := bkB BK595 hb; clear hb hbox hg; have hnb117 := NB600_558.out; have hnc117 := NB558_600.out; have hnb118 := NB600_595.out; have hnc118 := NB595_600.out; obtain ⟨z0, z1, z2, y0, y1, y2⟩ := bc3 BK600))
            have n0_ : Aside0 (Kd.R k28 28 (((w116.setCell ⟨gb600, 0, none⟩ (.int .u8 ((rd_T47 t596 x113_5).f0))).setCell ⟨gb600, 1, none⟩ (.int .u8 ((rd_T47 t596 x113_5).f1))).setCell ⟨gb600, 2, none⟩ (.int .u8 ((rd_T47 t596 x113_5).f2))) w.heap.size (fun _ => True) v528 x9_5) := ⟨Kd.R_mono (rty (rfo HO_9) BK600) (fun _ hk => trivial)⟩
            have n1_ : Aside0 (Kd.R k47 47 (((w116.setCell ⟨gb600, 0, none⟩ (.int .u8 ((rd_T47 t596 x113_5).f0))).setCell ⟨gb600, 1, none⟩ (.int .u8 ((rd_T47 t596 x113_5).f1))).setCell ⟨gb600, 2, none⟩ (.int .u8 ((rd_T47 t596 x113_5).f2))) w.heap.size (fun k_ => k_ ≠ gb600) (.slice (some ad599) t596.length co100) t596) := ⟨by (with_reducible repeat (first | apply Kd.R_alloc | apply Kd.R_drewN | apply Kd.R_drew)); exact Kd.R_mono (Kd.R_far (p := ⟨gb600, 2, none⟩) (Kd.R_far (p := ⟨gb600, 1, none⟩) (Kd.R_far (p := ⟨gb600, 0, none⟩) (Kd.R_mono HO_111.out (fun k_ hk => (⟨hk, hk.2⟩ : _ ∧ k_ ≠ gb600))) (fun _ hk => hk.2) (.int .u8 ((rd_T47 t596 x113_5).f0))) (fun _ hk => hk.2) (.int .u8 ((rd_T47 t596 x113_5).f1))) (fun _ hk => hk.2) (.int .u8 ((rd_T47 t596 x113_5).f2))) (fun _ hk => hk.1.2)⟩
            have n2_ : Aside0 (Kd.R (Kd.int .i64) 3 (((w116.setCell ⟨gb600, 0, none⟩ (.int .u8 ((rd_T47 t596 x113_5).f0))).setCell ⟨gb600, 1, none⟩ (.int .u8 ((rd_T47 t596 x113_5).f1))).setCell ⟨gb600, 2, none⟩ (.int .u8 ((rd_T47 t596 x113_5).f2))) w.heap.size (fun k_ => some k_ ≠ (.slice Ao98 t591.length co98 : Value).ownBlock) u559001 x559001_5) := rfA HO_559001
            have n3_ : Aside0 (Kd.R Kd.bool 4 (((w116.setCell ⟨gb600, 0, none⟩ (.int .u8 ((rd_T47 t596 x113_5).f0))).setCell ⟨gb600, 1, none⟩ (.int .u8 ((rd_T47 t596 x113_5).f1))).setCell ⟨gb600, 2, none⟩ (.int .u8 ((rd_T47 t596 x113_5).f2))) w.heap.size (fun k_ => some k_ ≠ (u559003 : Value).ownBlock) u559002 x559002_5) := rfA HO_559002
            have n4_ : Aside0 (Kd.R Kd.bool 4 (((w116.setCell ⟨gb600, 0, none⟩ (.int .u8 ((rd_T47 t596 x113_5).f0))).setCell ⟨gb600, 1, none⟩ (.int .u8 ((rd_T47 t596 x113_5).f1))).setCell ⟨gb600, 2, none⟩ (.int .u8 ((rd_T47 t596 x113_5).f2))) w.heap.size (fun k_ => some k_ ≠ (u559002 : Value).ownBlock) u559003 x559003_5) := rfA HO_559003
            have n5_ : Aside0 (Kd.R (Kd.int .i64) 3 (((w116.setCell ⟨gb600, 0, none⟩ (.int .u8 ((rd_T47 t596 x113_5).f0))).setCell ⟨gb600, 1, none⟩ (.int .u8 ((rd_T47 t596 x113_5).f1))).setCell ⟨gb600, 2, none⟩ (.int .u8 ((rd_T47 t596 x113_5).f2))) w.heap.size (fun k_ => some k_ ≠ (u559001 : Value).ownBlock) (.slice Ao98 t591.length co98) t591) := rfA HO_596004
            have n6_ : Aside0 ((((w116.setCell ⟨gb600, 0, none⟩ (.int .u8 ((rd_T47 t596 x113_5).f0))).setCell ⟨gb600, 1, none⟩ (.int .u8 ((rd_T47 t596 x113_5).f1))).setCell ⟨gb600, 2, none⟩ (.int .u8 ((rd_T47 t596 x113_5).f2))).heap[gb558]? = some (.cells #[.string x559000_5, u559001, u559002, u559003, .int .i64 x559004_5, .int .i64 x559005_5] 50 (0, 0))) := bkfA BK558
            have n7_ : Aside0 ((((w116.setCell ⟨gb600, 0, none⟩ (.int .u8 ((rd_T47 t596 x113_5).f0))).setCell ⟨gb600, 1, none⟩ (.int .u8 ((rd_T47 t596 x113_5).f1))).setCell ⟨gb600, 2, none⟩ (.int .u8 ((rd_T47 t596 x113_5).f2))).heap[gb595]? = some (.cells #[.int .i64 t587, .int .i64 t588, .int .i64 t589, .string t590, .slice Ao98 t591.length co98] 36 (0, 0))) := bkfA BK595
            have n8_ : Aside0 ((((w116.setCell ⟨gb600, 0, none⟩ (.int .u8 ((rd_T47 t596 x113_5).f0))).setCell ⟨gb600, 1, none⟩ (.int .u8 ((rd_T47 t596 x113_5).f1))).setCell ⟨gb600, 2, none⟩ (.int .u8 ((rd_T47 t596 x113_5).f2))).heap[gb600]? = some (.cells #[.int .u8 ((rd_T47 t596 x113_5).f0), .int .u8 ((rd_T47 t596 x113_5).f1), .int .u8 ((rd_T47 t596 x113_5).f2)] 47 (0, 0))) := bkpA BK600
            have n9_ : Aside0 (Below w.heap.size w (((w116.setCell ⟨gb600, 0, none⟩ (.int .u8 ((rd_T47 t596 x113_5).f0))).setCell ⟨gb600, 1, none⟩ (.int .u8 ((rd_T47 t596 x113_5).f1))).setCell ⟨gb600, 2, none⟩ (.int .u8 ((rd_T47 t596 x113_5).f2)))) := hbA HB
            (try clear HO_9)
            (try clear HO_111)
            (try clear HO_559001)
            (try clear HO_559002)
            (try clear HO_559003)
            (try clear HO_596004)
            (try clear BK558)
            (try clear BK595)
            (try clear BK600)
            (try clear HB)
            generalize (((w116.setCell ⟨gb600, 0, none⟩ (.int .u8 ((rd_T47 t596 x113_5).f0))).setCell ⟨gb600, 1, none⟩ (.int .u8 ((rd_T47 t596 x113_5).f1))).setCell ⟨gb600, 2, none⟩ (.int .u8 ((rd_T47 t596 x113_5).f2))) = w120 at n0_ n1_ n2_ n3_ n4_ n5_ n6_ n7_ n8_ n9_ ⊢
            have HO_9 := n0_
            have HO_111 := n1_
            have HO_559001 := n2_
            have HO_559002 := n3_
            have HO_559003 := n4_
            have HO_596004 := n5_
            have BK558 := n6_
            have BK595 := n7_
            have BK600 := n8_
            have HB := n9_
            clear n0_ n1_ n2_ n3_ n4_ n5_ n6_ n7_ n8_ n9_
            replace HO_9 := Aside0.mk (Kd.R_drew HO_9.out)
            replace HO_111 := Aside0.mk (Kd.R_drew HO_111.out)
            replace HO_559001 := Aside0.mk (Kd.R_drew HO_559001.out)
            replace HO_559002 := Aside0.mk (Kd.R_drew HO_559002.out)
            replace HO_559003 := Aside0.mk (Kd.R_drew HO_559003.out)
            replace HO_596004 := Aside0.mk (Kd.R_drew HO_596004.out)
            replace BK558 := Aside0.mk (blk_drew BK558.out)
            replace BK595 := Aside0.mk (blk_drew BK595.out)
            replace BK600 := Aside0.mk (blk_drew BK600.out)
            replace HB := Aside0.mk (below_drew1 HB.out)
            obtain ⟨Ao122, co122, eo122⟩ := Kd.R_slice HO_9.out
            (first | subst eo122 | (injection eo122 with f1_ f2_ f3_; have f4_ := f1_.symm; have f5_ := f3_.symm; clear f1_ f2_ f3_; subst f4_; subst f5_))
            have p601 : 0 ≤ ((ji111) : Int) := pos_
            have q601 : (ji111) < (x9_5.length : Int) := pos_
            obtain ⟨ad601, e601, hx601_0, hx601_1, hx601_2, hx601_3, hx601_4, hx601_5⟩ := at_T28 (Kd.R_reads' HO_9.out).2.2 (ji111) p601 q601
            cases e601
            replace p601 := eq_true p601
            replace q601 := eq_true q601
            refine start_ (n := 17) (S := fun w' => w'.cell? ⟨gb595, 0, none⟩ = some (.int .i64 t587) ∧ w'.cell? ⟨gb595, 1, none⟩ = some (.int .i64 t588) ∧ w'.cell? ⟨gb595, 2, none⟩ = some (.int .i64 t589) ∧ w'.cell? ⟨gb595, 3, none⟩ = some (.string t590) ∧ w'.cell? ⟨gb595, 4, none⟩ = some (.slice Ao98 t591.length co98) ∧ w'.cell? ⟨gb600, 0, none⟩ = some (.int .u8 ((rd_T47 t596 x113_5).f0)) ∧ w'.cell? ⟨gb600, 1, none⟩ = some (.int .u8 ((rd_T47 t596 x113_5).f1)) ∧ w'.cell? ⟨gb600, 2, none⟩ = some (.int .u8 ((rd_T47 t596 x113_5).f2)) ∧ w'.cell? (ad601.add (((ji111)).toNat * 6)) = some (.string ((rd_T28 x9_5 (ji111)).f0)) ∧ w'.cell? ⟨(ad601.add (((ji111)).toNat * 6)).block, (ad601.add (((ji111)).toNat * 6)).off + 1, none⟩ = some (.string ((rd_T28 x9_5 (ji111)).f1)) ∧ w'.cell? ⟨(ad601.add (((ji111)).toNat * 6)).block, (ad601.add (((ji111)).toNat * 6)).off + 2, none⟩ = some (.bool ((rd_T28 x9_5 (ji111)).f2)) ∧ w'.cell? ⟨(ad601.add (((ji111)).toNat * 6)).block, (ad601.add (((ji111)).toNat * 6)).off + 3, none⟩ = some (.string ((rd_T28 x9_5 (ji111)).f3)) ∧ w'.cell? ⟨(ad601.add (((ji111)).toNat * 6)).block, (ad601.add (((ji111)).toNat * 6)).off + 4, none⟩ = some (.int .i64 ((rd_T28 x9_5 (ji111)).f4)) ∧ w'.cell? ⟨(ad601.add (((ji111)).toNat * 6)).block, (ad601.add (((ji111)).toNat * 6)).off + 5, none⟩ = some (.int .i64 ((rd_T28 x9_5 (ji111)).f5))) (ds := [16]) #[false, false, false, false, false, false, false, false, false, false, false, false, false, false, false, false, false] (by kernel_rfl) rfl rfl ⟨(blk_cell BK595.out 0).trans rfl, (blk_cell BK595.out 1).trans rfl, (blk_cell BK595.out 2).trans rfl, (blk_cell BK595.out 3).trans rfl, (blk_cell BK595.out 4).trans rfl, (blk_cell BK600.out 0).trans rfl, (blk_cell BK600.out 1).trans rfl, (blk_cell BK600.out 2).trans rfl, hx601_0, hx601_1, hx601_2, hx601_3, hx601_4, hx601_5⟩ (fun hHeld => ?_); refine with_tabW hopmeshlaw49_InstallAgreed.tab30_part21 hopmeshlaw49_InstallAgreed.bits30_part21 (fun HT_ HW_ => ?_)
            generalize w120.drew = w121 at HO_9 HO_111 HO_559001 HO_559002 HO_559003 HO_596004 BK558 BK595 BK600 HB hx601_0 hx601_1 hx601_2 hx601_3 hx601_4 hx601_5 hHeld ⊢
            refine pur 0 (some 133) #[true, false, false, false, false, false, false, false, false, false, false, false, false, false, false, false, false] HT_ ?_
            refine pur 1 (some 134) #[true, true, false, false, false, false, false, false, false, false, false, false, false, false, false, false, false] HT_ ?_
            refine pur 2 (some 135) #[true, true, true, false, false, false, false, false, false, false, false, false, false, false, false, false, false] HT_ ?_
            refine pur 3 (some 136) #[true, true, true, true, false, false, false, false, false, false, false, false, false, false, false, false, false] HT_ ?_
            refine pur 4 (some 137) #[true, true, true, true, true, false, false, false, false, false, false, false, false, false, false, false, false] HT_ ?_
            refine pur 7 (some 140) #[true, true, true, true, true, false, false, true, false, false, false, false, false, false, false, false, false] HT_ ?_
            refine pur 8 (some 141) #[true, true, true, true, true, false, false, true, true, false, false, false, false, false, false, false, false] HT_ ?_
            refine tak 5 (some 138) #[true, true, true, true, true, true, false, true, true, false, false, false, false, false, false, false, false] HT_ HW_ hHeld rfl (Or.inl ⟨by rfl, by rintro w' ⟨s0, s1, s2, s3, s4, s5, s6, s7, s8, s9, s10, s11, s12, s13⟩; go_simp; with_reducible rfl⟩) ?_
            refine tak 6 (some 139) #[true, true, true, true, true, true, true, true, true, false, false, false, false, false, false, false, false] HT_ HW_ hHeld rfl (Or.inl ⟨by rfl, by rintro w' ⟨s0, s1, s2, s3, s4, s5, s6, s7, s8, s9, s10, s11, s12, s13⟩; go_simp; with_reducible rfl⟩) ?_
            refine tak 9 (some 142) #[true, true, true, true, true, true, true, true, true, true, false, false, false, false, false, false, false] HT_ HW_ hHeld rfl (Or.inl ⟨by rfl, by rintro w' ⟨s0, s1, s2, s3, s4, s5, s6, s7, s8, s9, s10, s11, s12, s13⟩; go_simp; with_reducible rfl⟩) ?_
            refine pur 10 (some 143) #[true, true, true, true, true, true, true, true, true, true, true, false, false, false, false, false, false] HT_ ?_
            refine one_ (i := 11) (N := some 144) #[true, true, true, true, true, true, true, true, true, true, true, true, false, false, false, false, false] rfl rfl (one_of HT_.out (by kernel_rfl)) (by decide) (fun K hK => ?_)
            refine goes_ Try.func14 (by kernel_rfl) rfl #[.agg #[.string ((rd_T28 x9_5 (ji111)).f0), .string ((rd_T28 x9_5 (ji111)).f1), .bool ((rd_T28 x9_5 (ji111)).f2), .string ((rd_T28 x9_5 (ji111)).f3), .int .i64 ((rd_T28 x9_5 (ji111)).f4), .int .i64 ((rd_T28 x9_5 (ji111)).f5)], .agg #[.int .i64 t587, .int .i64 t588, .int .i64 t589, .string t590, .slice Ao98 t591.length co98], .int .i64 ji111, .int .i64 (wrap64 ((rd_T47 t596 x113_5).f2))] (by rfl) rfl rfl (by (try simp only [List.map_toArray, List.map_cons, List.map_nil]); first | done | (simp only [hji111]; rfl) | rfl | (simp only [List.length_drop, List.length_take]; rfl)) ?_
            with_reducible refine (install_Take.calls k5 ((rd_T28 x9_5 (ji111)).f0) ((rd_T28 x9_5 (ji111)).f1) ((rd_T28 x9_5 (ji111)).f2) ((rd_T28 x9_5 (ji111)).f3) ((rd_T28 x9_5 (ji111)).f4) ((rd_T28 x9_5 (ji111)).f5) t587 t588 t589 t590 _ _ t591 ji111 (wrap64 ((rd_T47 t596 x113_5).f2)) t602 t603 t604 t605 t606 t607 t608 _ ?side1 ?side2 A114.out).mono ?_
            (case side1 => repeat (first | exact (Kd.R_reads' HO_596004.out).2.2 | (with_reducible refine Kd.C_alloc ?_ _) | (with_reducible refine Kd.C_drewN ?_ _) | (with_reducible refine Kd.C_drew ?_)))
            (case side2 => exact (Kd.R_reads' HO_596004.out).2.1)
            rintro e w123 ⟨rfl, hb⟩
            have HS8_ := (hb.cell (World.block_lt_of_cell? _ _ (hHeld.2.2.2.2.2.2.2.2.1))).trans (hHeld.2.2.2.2.2.2.2.2.1)
            have HS9_ := (hb.cell (World.block_lt_of_cell? _ _ (hHeld.2.2.2.2.2.2.2.2.2.1))).trans (hHeld.2.2.2.2.2.2.2.2.2.1)
            have HS10_ := (hb.cell (World.block_lt_of_cell? _ _ (hHeld.2.2.2.2.2.2.2.2.2.2.1))).trans (hHeld.2.2.2.2.2.2.2.2.2.2.1)
            have HS11_ := (hb.cell (World.block_lt_of_cell? _ _ (hHeld.2.2.2.2.2.2.2.2.2.2.2.1))).trans (hHeld.2.2.2.2.2.2.2.2.2.2.2.1)
            have HS12_ := (hb.cell (World.block_lt_of_cell? _ _ (hHeld.2.2.2.2.2.2.2.2.2.2.2.2.1))).trans (hHeld.2.2.2.2.2.2.2.2.2.2.2.2.1)
            have HS13_ := (hb.cell (World.block_lt_of_cell? _ _ (hHeld.2.2.2.2.2.2.2.2.2.2.2.2.2))).trans (hHeld.2.2.2.2.2.2.2.2.2.2.2.2.2)
            refine ⟨_, rfl, ?_⟩
            replace HO_9 := rB HO_9 hb
            replace HO_111 := rB HO_111 hb
            replace HO_559001 := rB HO_559001 hb
            replace HO_559002 := rB HO_559002 hb
            replace HO_559003 := rB HO_559003 hb
            replace HO_596004 := rB HO_596004 hb
            replace BK558 := bkB BK558 hb
            replace BK595 := bkB BK595 hb
            replace BK600 := bkB BK600 hb
            replace HB := hbS HB hb
            (try clear hb)
            (try clear hb2)
            (try clear hk)
            (try clear hi)
            have p115 : 0 ≤ ((ji111) : Int) := pos_
            have q115 : ((ji111) : Int) < ((x9_5.length : Int) : Int) := pos_
            obtain ⟨go115, co115, eo115, gb115, gl115, cl115, HG115⟩ := Kd.R_form HO_9.out (by omega)
            (first | cases eo115 | (injection eo115 with ea_ en_ ec_; (first | subst ea_ | (injection ea_ with ea_; subst ea_)); subst ec_; clear en_))
            have GB115 := Aside0.mk gb115
            have GG115 := Aside0.mk HG115
            clear gb115 gl115 HG115
            (first | simp only [add_plain] at hx601_0 | skip)
            (first | simp only [add_plain] at hx601_1 | skip)
            (first | simp only [add_plain] at hx601_2 | skip)
            (first | simp only [add_plain] at hx601_3 | skip)
            (first | simp only [add_plain] at hx601_4 | skip)
            (first | simp only [add_plain] at hx601_5 | skip)
            obtain ⟨ce115, hcl115, hM115, hcc115, hfr115⟩ := Kd.R_elem HO_9.out z28 ((ji111) : Int) p115 q115
            obtain rfl := k28_openM hM115
            have hx115_0 : World.cell? _ ⟨go115, ((ji111) : Int).toNat * 6, none⟩ = some (.string ((rd_T28 x9_5 (ji111)).f0)) := hcc115 0 _ rfl
            have hx115_1 : World.cell? _ ⟨go115, ((ji111) : Int).toNat * 6 + 1, none⟩ = some (.string ((rd_T28 x9_5 (ji111)).f1)) := hcc115 1 _ rfl
            have hx115_2 : World.cell? _ ⟨go115, ((ji111) : Int).toNat * 6 + 2, none⟩ = some (.bool ((rd_T28 x9_5 (ji111)).f2)) := hcc115 2 _ rfl
            have hx115_3 : World.cell? _ ⟨go115, ((ji111) : Int).toNat * 6 + 3, none⟩ = some (.string ((rd_T28 x9_5 (ji111)).f3)) := hcc115 3 _ rfl
            have hx115_4 : World.cell? _ ⟨go115, ((ji111) : Int).toNat * 6 + 4, none⟩ = some (.int .i64 ((rd_T28 x9_5 (ji111)).f4)) := hcc115 4 _ rfl
            have hx115_5 : World.cell? _ ⟨go115, ((ji111) : Int).toNat * 6 + 5, none⟩ = some (.int .i64 ((rd_T28 x9_5 (ji111)).f5)) := hcc115 5 _ rfl
            have hf115_0 : World.frozen? _ ⟨go115, ((ji111) : Int).toNat * 6, none⟩ = false := hfr115 0
            have hf115_1 : World.frozen? _ ⟨go115, ((ji111) : Int).toNat * 6 + 1, none⟩ = false := hfr115 1
            have hf115_2 : World.frozen? _ ⟨go115, ((ji111) : Int).toNat * 6 + 2, none⟩ = false := hfr115 2
            have hf115_3 : World.frozen? _ ⟨go115, ((ji111) : Int).toNat * 6 + 3, none⟩ = false := hfr115 3
            have hf115_4 : World.frozen? _ ⟨go115, ((ji111) : Int).toNat * 6 + 4, none⟩ = false := hfr115 4
            have hf115_5 : World.frozen? _ ⟨go115, ((ji111) : Int).toNat * 6 + 5, none⟩ = false := hfr115 5
            clear hcl115 hcc115 hfr115 hM115
            replace p115 := eq_true p115
            replace q115 := eq_true q115
            obtain ⟨ce124, hcl124, hM124, hcc124, hfr124⟩ := Kd.R_elem HO_9.out z28 ((ji111) : Int) (pos_) (by have h_ : ((ji111) : Int) < ((x9_5.length : Int) : Int) := pos_; first | exact h_ | (have e_ := (Kd.R_reads' HO_9.out).1; omega) | simpa using h_)
            obtain rfl := k28_openM hM124
            have HP124 := (Kd.R_seg HO_9.out ((ji111) : Int) (pos_) (by have h_ : ((ji111) : Int) < ((x9_5.length : Int) : Int) := pos_; first | exact h_ | (have e_ := (Kd.R_reads' HO_9.out).1; omega) | simpa using h_) (seg := [.string t602, .string t603, .bool t604, .string t605, .int .i64 t606, .int .i64 t607]) (j := 0) hcl124 hcc124 (show 6 ≤ 6 from by decide) (x' := (⟨t602, t603, t604, t605, t606, t607⟩ : S28)) (k28_mkM _ _ _ (⟨t602, t603, t604, t605, t606, t607⟩ : S28) ) (fun _ hk => hk)).1
            rw [← Ny609.out] at HP124
            have HQ124 := Aside0.mk HP124
            clear hcl124 hcc124 hfr124 hM124 HP124
            refine hK.out _ _ ⟨(blk_cell BK595.out 0).trans rfl, (blk_cell BK595.out 1).trans rfl, (blk_cell BK595.out 2).trans rfl, (blk_cell BK595.out 3).trans rfl, (blk_cell BK595.out 4).trans rfl, (blk_cell BK600.out 0).trans rfl, (blk_cell BK600.out 1).trans rfl, (blk_cell BK600.out 2).trans rfl, HS8_, HS9_, HS10_, HS11_, HS12_, HS13_⟩ (fun hHeld => ?_)
            clear hK K
            refine nrm (some 144) ?_
            refine pur 12 (some 132) #[true, true, true, true, true, true, true, true, true, true, true, true, true, false, false, false, false] HT_ ?_
            refine pur 13 (some 145) #[true, true, true, true, true, true, true, true, true, true, true, true, true, true, false, false, false] HT_ ?_
            refine pur 14 (some 146) #[true, true, true, true, true, true, true, true, true, true, true, true, true, true, true, false, false] HT_ ?_
            refine pur 15 (some 147) #[true, true, true, true, true, true, true, true, true, true, true, true, true, true, true, true, false] HT_ ?_
            refine last_ (i := 16) (N := none) #[true, true, true, true, true, true, true, true, true, true, true, true, true, true, true, true, true] rfl rfl (one_of HT_.out (by kernel_rfl)) (by decide) (fun K hK => ?_)
            refine skip_ (w1 := ?_) (by rfl) rfl ?_ ?_
            rotate_left
            ·go_simp
             rfl
            refine hK.out _ _ ?_
            clear hK K
            refine done_ (done_of HT_.out (by kernel_rfl)) ?_
            try go_wp2
            go_roundg k5
            case measure => have := HJ3.out; have := HK2.out; have := HK3.out; have := HJ63.out; have := HK5.out; omega
            case rel => exact ⟨(y609), (wrap64 (x113_5 + 1)), (x559000_5), (x559001_5), (x559002_5), (x559003_5), (x559004_5), (x559005_5), (u559001), (u559002), (u559003), rfs, H', ⟨by have := HJ3.out; have := HK2.out; have := HK3.out; have := HJ63.out; have := HK5.out; omega⟩, ⟨by (with_reducible repeat (first | apply Kd.R_alloc | apply Kd.R_drewN | apply Kd.R_drew)); exact HQ124.out⟩, ⟨by (with_reducible repeat (first | apply Kd.R_alloc | apply Kd.R_drewN | apply Kd.R_drew)); exact Kd.R_mono (Kd.R_far (p := ⟨go115, ((ji111) : Int).toNat * 6 + 5, none⟩) (Kd.R_far (p := ⟨go115, ((ji111) : Int).toNat * 6 + 4, none⟩) (Kd.R_far (p := ⟨go115, ((ji111) : Int).toNat * 6 + 3, none⟩) (Kd.R_far (p := ⟨go115, ((ji111) : Int).toNat * 6 + 2, none⟩) (Kd.R_far (p := ⟨go115, ((ji111) : Int).toNat * 6 + 1, none⟩) (Kd.R_far (p := ⟨go115, ((ji111) : Int).toNat * 6, none⟩) (Kd.R_types HO_111.out GG115.out (by decide)) (fun _ hk => hk.2) (.string t602)) (fun _ hk => hk.2) (.string t603)) (fun _ hk => hk.2) (.bool t604)) (fun _ hk => hk.2) (.string t605)) (fun _ hk => hk.2) (.int .i64 t606)) (fun _ hk => hk.2) (.int .i64 t607)) (fun _ hk => trivial)⟩, ⟨by (with_reducible repeat (first | apply Kd.R_alloc | apply Kd.R_drewN | apply Kd.R_drew)); exact Kd.R_mono (Kd.R_far (p := ⟨go115, ((ji111) : Int).toNat * 6 + 5, none⟩) (Kd.R_far (p := ⟨go115, ((ji111) : Int).toNat * 6 + 4, none⟩) (Kd.R_far (p := ⟨go115, ((ji111) : Int).toNat * 6 + 3, none⟩) (Kd.R_far (p := ⟨go115, ((ji111) : Int).toNat * 6 + 2, none⟩) (Kd.R_far (p := ⟨go115, ((ji111) : Int).toNat * 6 + 1, none⟩) (Kd.R_far (p := ⟨go115, ((ji111) : Int).toNat * 6, none⟩) (Kd.R_types HO_559001.out GG115.out (by decide)) (fun _ hk => hk.2) (.string t602)) (fun _ hk => hk.2) (.string t603)) (fun _ hk => hk.2) (.bool t604)) (fun _ hk => hk.2) (.string t605)) (fun _ hk => hk.2) (.int .i64 t606)) (fun _ hk => hk.2) (.int .i64 t607)) (fun _ hk => hk.1)⟩, ⟨by (with_reducible repeat (first | apply Kd.R_alloc | apply Kd.R_drewN | apply Kd.R_drew)); exact Kd.R_mono (Kd.R_far (p := ⟨go115, ((ji111) : Int).toNat * 6 + 5, none⟩) (Kd.R_far (p := ⟨go115, ((ji111) : Int).toNat * 6 + 4, none⟩) (Kd.R_far (p := ⟨go115, ((ji111) : Int).toNat * 6 + 3, none⟩) (Kd.R_far (p := ⟨go115, ((ji111) : Int).toNat * 6 + 2, none⟩) (Kd.R_far (p := ⟨go115, ((ji111) : Int).toNat * 6 + 1, none⟩) (Kd.R_far (p := ⟨go115, ((ji111) : Int).toNat * 6, none⟩) (Kd.R_types HO_559002.out GG115.out (by decide)) (fun _ hk => hk.2) (.string t602)) (fun _ hk => hk.2) (.string t603)) (fun _ hk => hk.2) (.bool t604)) (fun _ hk => hk.2) (.string t605)) (fun _ hk => hk.2) (.int .i64 t606)) (fun _ hk => hk.2) (.int .i64 t607)) (fun _ hk => hk.1)⟩, ⟨by (with_reducible repeat (first | apply Kd.R_alloc | apply Kd.R_drewN | apply Kd.R_drew)); exact Kd.R_mono (Kd.R_far (p := ⟨go115, ((ji111) : Int).toNat * 6 + 5, none⟩) (Kd.R_far (p := ⟨go115, ((ji111) : Int).toNat * 6 + 4, none⟩) (Kd.R_far (p := ⟨go115, ((ji111) : Int).toNat * 6 + 3, none⟩) (Kd.R_far (p := ⟨go115, ((ji111) : Int).toNat * 6 + 2, none⟩) (Kd.R_far (p := ⟨go115, ((ji111) : Int).toNat * 6 + 1, none⟩) (Kd.R_far (p := ⟨go115, ((ji111) : Int).toNat * 6, none⟩) (Kd.R_types HO_559003.out GG115.out (by decide)) (fun _ hk => hk.2) (.string t602)) (fun _ hk => hk.2) (.string t603)) (fun _ hk => hk.2) (.bool t604)) (fun _ hk => hk.2) (.string t605)) (fun _ hk => hk.2) (.int .i64 t606)) (fun _ hk => hk.2) (.int .i64 t607)) (fun _ hk => hk.1)⟩, ⟨by (with_reducible repeat (first | apply Kd.R_alloc | apply Kd.R_drewN | apply Kd.R_drew)); exact Kd.R_mono (Kd.R_far (p := ⟨go115, ((ji111) : Int).toNat * 6 + 5, none⟩) (Kd.R_far (p := ⟨go115, ((ji111) : Int).toNat * 6 + 4, none⟩) (Kd.R_far (p := ⟨go115, ((ji111) : Int).toNat * 6 + 3, none⟩) (Kd.R_far (p := ⟨go115, ((ji111) : Int).toNat * 6 + 2, none⟩) (Kd.R_far (p := ⟨go115, ((ji111) : Int).toNat * 6 + 1, none⟩) (Kd.R_far (p := ⟨go115, ((ji111) : Int).toNat * 6, none⟩) (Kd.R_types HO_596004.out GG115.out (by decide)) (fun _ hk => hk.2) (.string t602)) (fun _ hk => hk.2) (.string t603)) (fun _ hk => hk.2) (.bool t604)) (fun _ hk => hk.2) (.string t605)) (fun _ hk => hk.2) (.int .i64 t606)) (fun _ hk => hk.2) (.int .i64 t607)) (fun _ hk => hk.1)⟩, ⟨by (with_reducible repeat (first | refine blk_drewN ?_ _ | refine blk_drew ?_ | refine blk_alloc ?_ _)); refine blk_far ?_ (by have h_ := Kd.R_ne HO_9.out BK558.out (by decide); intro e_; exact h_ (by rw [e_]; rfl)) _; (with_reducible repeat (first | refine blk_drewN ?_ _ | refine blk_drew ?_ | refine blk_alloc ?_ _)); refine blk_far ?_ (by have h_ := Kd.R_ne HO_9.out BK558.out (by decide); intro e_; exact h_ (by rw [e_]; rfl)) _; (with_reducible repeat (first | refine blk_drewN ?_ _ | refine blk_drew ?_ | refine blk_alloc ?_ _)); refine blk_far ?_ (by have h_ := Kd.R_ne HO_9.out BK558.out (by decide); intro e_; exact h_ (by rw [e_]; rfl)) _; (with_reducible repeat (first | refine blk_drewN ?_ _ | refine blk_drew ?_ | refine blk_alloc ?_ _)); refine blk_far ?_ (by have h_ := Kd.R_ne HO_9.out BK558.out (by decide); intro e_; exact h_ (by rw [e_]; rfl)) _; (with_reducible repeat (first | refine blk_drewN ?_ _ | refine blk_drew ?_ | refine blk_alloc ?_ _)); refine blk_far ?_ (by have h_ := Kd.R_ne HO_9.out BK558.out (by decide); intro e_; exact h_ (by rw [e_]; rfl)) _; (with_reducible repeat (first | refine blk_drewN ?_ _ | refine blk_drew ?_ | refine blk_alloc ?_ _)); refine blk_far ?_ (by have h_ := Kd.R_ne HO_9.out BK558.out (by decide); intro e_; exact h_ (by rw [e_]; rfl)) _; (with_reducible repeat (first | refine blk_drewN ?_ _ | refine blk_drew ?_ | refine blk_alloc ?_ _)); exact BK558.out⟩, ⟨by (with_reducible repeat (first | refine blk_drewN ?_ _ | refine blk_drew ?_ | refine blk_alloc ?_ _)); refine blk_far ?_ (by have h_ := Kd.R_ne HO_9.out BK595.out (by decide); intro e_; exact h_ (by rw [e_]; rfl)) _; (with_reducible repeat (first | refine blk_drewN ?_ _ | refine blk_drew ?_ | refine blk_alloc ?_ _)); refine blk_far ?_ (by have h_ := Kd.R_ne HO_9.out BK595.out (by decide); intro e_; exact h_ (by rw [e_]; rfl)) _; (with_reducible repeat (first | refine blk_drewN ?_ _ | refine blk_drew ?_ | refine blk_alloc ?_ _)); refine blk_far ?_ (by have h_ := Kd.R_ne HO_9.out BK595.out (by decide); intro e_; exact h_ (by rw [e_]; rfl)) _; (with_reducible repeat (first | refine blk_drewN ?_ _ | refine blk_drew ?_ | refine blk_alloc ?_ _)); refine blk_far ?_ (by have h_ := Kd.R_ne HO_9.out BK595.out (by decide); intro e_; exact h_ (by rw [e_]; rfl)) _; (with_reducible repeat (first | refine blk_drewN ?_ _ | refine blk_drew ?_ | refine blk_alloc ?_ _)); refine blk_far ?_ (by have h_ := Kd.R_ne HO_9.out BK595.out (by decide); intro e_; exact h_ (by rw [e_]; rfl)) _; (with_reducible repeat (first | refine blk_drewN ?_ _ | refine blk_drew ?_ | refine blk_alloc ?_ _)); refine blk_far ?_ (by have h_ := Kd.R_ne HO_9.out BK595.out (by decide); intro e_; exact h_ (by rw [e_]; rfl)) _; (with_reducible repeat (first | refine blk_drewN ?_ _ | refine blk_drew ?_ | refine blk_alloc ?_ _)); exact BK595.out⟩, ⟨by repeat (first | (with_reducible first | exact HB.out | apply below_alloc | apply pw_below_drewN | apply below_drew1 | refine below_set ?_ GB115.out | refine below_set ?_ GB115.out | refine below_set ?_ GB115.out | refine below_set ?_ GB115.out | refine below_set ?_ GB115.out | refine below_set ?_ GB115.out | refine below_set ?_ GE558.out | refine below_set ?_ GE595.out | refine below_set ?_ GE600.out) | exact HB.out)⟩⟩
           ·rw [if_neg c113] at H
            exact absurd H (by simp)
          ·rw [if_neg c112] at H
           exact absurd H (by simp)
         ·rw [if_neg c110] at H
          have c110b0 : ((Int.tmod ((rd_T47 t596 x113_5).f1) 2) == 0) = false := beq_eq_false_iff_ne.mpr c110
          have c110b1 : ((Int.tmod ((rd_T47 t596 x113_5).f1) 2) != 0) = true := bne_iff_ne.mpr c110
          obtain ⟨ji125, hji125⟩ : ∃ j_ : Int, (Int.tmod (wrap64 ((rd_T47 t596 x113_5).f0)) ji14) = j_ := ⟨_, rfl⟩
          replace H : (if 0 ≤ (ji125) then (if (ji125) < (x9_5.length : Int) then (if ((rd_T28 x9_5 (ji125)).f5) = t587 then ((install_Acknowledge.f k5 x559000_5 x559001_5 x559002_5 x559003_5 x559004_5 x559005_5 (ji125) ((rd_T28 x9_5 (ji125)).f5)).bind fun bt612 => (if bt612.2.2.2.2.2.2 = 0 then (hopmeshlaw49_InstallAgreed.l2 k5 a1 ji14 x9_5 t596 (t596.length : Int) (wrap64 (x113_5 + 1)) bt612.1 bt612.2.1 bt612.2.2.1 bt612.2.2.2.1 bt612.2.2.2.2.1 bt612.2.2.2.2.2.1 t587 t588 t589 t590 t591) else (none))) else (hopmeshlaw49_InstallAgreed.l2 k5 a1 ji14 x9_5 t596 (t596.length : Int) (wrap64 (x113_5 + 1)) x559000_5 x559001_5 x559002_5 x559003_5 x559004_5 x559005_5 t587 t588 t589 t590 t591)) else (none)) else (none)) = some r := by first | (rw [hji125] at H; exact H) | (simp only [hji125] at H ⊢; exact H)
          by_cases c126 : 0 ≤ (ji125)
          ·rw [if_pos c126] at H
           have c126b0 : decide (0 ≤ (ji125)) = true := decide_eq_true c126
           clear c126
           by_cases c127 : (ji125) < (x9_5.length : Int)
           ·rw [if_pos c127] at H
            have c127b0 : decide ((ji125) < (x9_5.length : Int)) = true := decide_eq_true c127
            clear c127
            by_cases c128 : ((rd_T28 x9_5 (ji125)).f5) = t587
            ·rw [if_pos c128] at H
             have c128b0 : (((rd_T28 x9_5 (ji125)).f5) == t587) = true := beq_iff_eq.mpr c128
             have c128b1 : (((rd_T28 x9_5 (ji125)).f5) != t587) = false := bne_eq_false_iff_eq.mpr c128
             clear c128
             replace H := Option.bind_eq_some_iff.mp H
             obtain ⟨⟨t612, t613, t616, t619, t622, t623, t624⟩, A1290, H⟩ := H
             (try dsimp only at H)
             have A129 := Aside0.mk A1290
             clear A1290
             by_cases c130 : t624 = 0
             ·rw [if_pos c130] at H
              have c130b0 : (t624 == 0) = true := beq_iff_eq.mpr c130
              have c130b1 : (t624 != 0) = false := bne_eq_false_iff_eq.mpr c130
              clear c130
              have H' := Aside0.mk H
              clear H
              have p599 : 0 ≤ (x113_5 : Int) := pos_
              have q599 : x113_5 < (t596.length : Int) := pos_
              obtain ⟨ad599, e599, hx599_0, hx599_1, hx599_2⟩ := at_T47 (Kd.R_reads' HO_111.out).2.2 x113_5 p599 q599
              cases e599
              replace p599 := eq_true p599
              replace q599 := eq_true q599
              try go_wp2_with (first | ((with_reducible refine gate_dst (N := 16) rfl ?_); (try (refine gate_guard (by rfl) ?_; dsimp only)); refine boxE 16 #[.int .u8 0, .int .u8 0, .int .u8 0] 47 ?_; intro gb600 hg w131 hbox hb; replace HO_9 := rB HO_9 hb; replace HO_111 := Aside0.mk (Kd.R_below (Kd.R_elderB (ro HO_111) gb600 (Nat.le_of_eq hg.symm)) hb); replace HO_559001 := rB HO_559001 hb; replace HO_559002 := rB HO_559002 hb; replace HO_559003 := rB HO_559003 hb; replace HO_596004 := rB HO_596004 hb; have BK600 := Aside0.mk (hbox); have GW600 := gw hg HB; have GE600 := gw hg HB; replace HB := hbS HB hb; have NB558_600 := nbl hg BK558; have NB600_558 := nbg hg BK558; replace BK558 := bkB BK558 hb; have NB595_600 := nbl hg BK595; have NB600_595 := nbg hg BK595; replace BK595 := bkB BK595 hb; clear hb hbox hg; have hnb132 := NB600_558.out; have hnc132 := NB558_600.out; have hnb133 := NB600_595.out; have hnc133 := NB595_600.out; obtain ⟨z0, z1, z2, y0, y1, y2⟩ := bc3 BK600))
              have n0_ : Aside0 (Kd.R k28 28 (((w131.setCell ⟨gb600, 0, none⟩ (.int .u8 ((rd_T47 t596 x113_5).f0))).setCell ⟨gb600, 1, none⟩ (.int .u8 ((rd_T47 t596 x113_5).f1))).setCell ⟨gb600, 2, none⟩ (.int .u8 ((rd_T47 t596 x113_5).f2))) w.heap.size (fun _ => True) v528 x9_5) := ⟨Kd.R_mono (rty (rfo HO_9) BK600) (fun _ hk => trivial)⟩
              have n1_ : Aside0 (Kd.R k47 47 (((w131.setCell ⟨gb600, 0, none⟩ (.int .u8 ((rd_T47 t596 x113_5).f0))).setCell ⟨gb600, 1, none⟩ (.int .u8 ((rd_T47 t596 x113_5).f1))).setCell ⟨gb600, 2, none⟩ (.int .u8 ((rd_T47 t596 x113_5).f2))) w.heap.size (fun k_ => k_ ≠ gb600) (.slice (some ad599) t596.length co100) t596) := ⟨by (with_reducible repeat (first | apply Kd.R_alloc | apply Kd.R_drewN | apply Kd.R_drew)); exact Kd.R_mono (Kd.R_far (p := ⟨gb600, 2, none⟩) (Kd.R_far (p := ⟨gb600, 1, none⟩) (Kd.R_far (p := ⟨gb600, 0, none⟩) (Kd.R_mono HO_111.out (fun k_ hk => (⟨hk, hk.2⟩ : _ ∧ k_ ≠ gb600))) (fun _ hk => hk.2) (.int .u8 ((rd_T47 t596 x113_5).f0))) (fun _ hk => hk.2) (.int .u8 ((rd_T47 t596 x113_5).f1))) (fun _ hk => hk.2) (.int .u8 ((rd_T47 t596 x113_5).f2))) (fun _ hk => hk.1.2)⟩
              have n2_ : Aside0 (Kd.R (Kd.int .i64) 3 (((w131.setCell ⟨gb600, 0, none⟩ (.int .u8 ((rd_T47 t596 x113_5).f0))).setCell ⟨gb600, 1, none⟩ (.int .u8 ((rd_T47 t596 x113_5).f1))).setCell ⟨gb600, 2, none⟩ (.int .u8 ((rd_T47 t596 x113_5).f2))) w.heap.size (fun k_ => some k_ ≠ (.slice Ao98 t591.length co98 : Value).ownBlock) u559001 x559001_5) := rfA HO_559001
              have n3_ : Aside0 (Kd.R Kd.bool 4 (((w131.setCell ⟨gb600, 0, none⟩ (.int .u8 ((rd_T47 t596 x113_5).f0))).setCell ⟨gb600, 1, none⟩ (.int .u8 ((rd_T47 t596 x113_5).f1))).setCell ⟨gb600, 2, none⟩ (.int .u8 ((rd_T47 t596 x113_5).f2))) w.heap.size (fun k_ => some k_ ≠ (u559003 : Value).ownBlock) u559002 x559002_5) := rfA HO_559002
              have n4_ : Aside0 (Kd.R Kd.bool 4 (((w131.setCell ⟨gb600, 0, none⟩ (.int .u8 ((rd_T47 t596 x113_5).f0))).setCell ⟨gb600, 1, none⟩ (.int .u8 ((rd_T47 t596 x113_5).f1))).setCell ⟨gb600, 2, none⟩ (.int .u8 ((rd_T47 t596 x113_5).f2))) w.heap.size (fun k_ => some k_ ≠ (u559002 : Value).ownBlock) u559003 x559003_5) := rfA HO_559003
              have n5_ : Aside0 (Kd.R (Kd.int .i64) 3 (((w131.setCell ⟨gb600, 0, none⟩ (.int .u8 ((rd_T47 t596 x113_5).f0))).setCell ⟨gb600, 1, none⟩ (.int .u8 ((rd_T47 t596 x113_5).f1))).setCell ⟨gb600, 2, none⟩ (.int .u8 ((rd_T47 t596 x113_5).f2))) w.heap.size (fun k_ => some k_ ≠ (u559001 : Value).ownBlock) (.slice Ao98 t591.length co98) t591) := rfA HO_596004
              have n6_ : Aside0 ((((w131.setCell ⟨gb600, 0, none⟩ (.int .u8 ((rd_T47 t596 x113_5).f0))).setCell ⟨gb600, 1, none⟩ (.int .u8 ((rd_T47 t596 x113_5).f1))).setCell ⟨gb600, 2, none⟩ (.int .u8 ((rd_T47 t596 x113_5).f2))).heap[gb558]? = some (.cells #[.string x559000_5, u559001, u559002, u559003, .int .i64 x559004_5, .int .i64 x559005_5] 50 (0, 0))) := bkfA BK558
              have n7_ : Aside0 ((((w131.setCell ⟨gb600, 0, none⟩ (.int .u8 ((rd_T47 t596 x113_5).f0))).setCell ⟨gb600, 1, none⟩ (.int .u8 ((rd_T47 t596 x113_5).f1))).setCell ⟨gb600, 2, none⟩ (.int .u8 ((rd_T47 t596 x113_5).f2))).heap[gb595]? = some (.cells #[.int .i64 t587, .int .i64 t588, .int .i64 t589, .string t590, .slice Ao98 t591.length co98] 36 (0, 0))) := bkfA BK595
              have n8_ : Aside0 ((((w131.setCell ⟨gb600, 0, none⟩ (.int .u8 ((rd_T47 t596 x113_5).f0))).setCell ⟨gb600, 1, none⟩ (.int .u8 ((rd_T47 t596 x113_5).f1))).setCell ⟨gb600, 2, none⟩ (.int .u8 ((rd_T47 t596 x113_5).f2))).heap[gb600]? = some (.cells #[.int .u8 ((rd_T47 t596 x113_5).f0), .int .u8 ((rd_T47 t596 x113_5).f1), .int .u8 ((rd_T47 t596 x113_5).f2)] 47 (0, 0))) := bkpA BK600
              have n9_ : Aside0 (Below w.heap.size w (((w131.setCell ⟨gb600, 0, none⟩ (.int .u8 ((rd_T47 t596 x113_5).f0))).setCell ⟨gb600, 1, none⟩ (.int .u8 ((rd_T47 t596 x113_5).f1))).setCell ⟨gb600, 2, none⟩ (.int .u8 ((rd_T47 t596 x113_5).f2)))) := hbA HB
              (try clear HO_9)
              (try clear HO_111)
              (try clear HO_559001)
              (try clear HO_559002)
              (try clear HO_559003)
              (try clear HO_596004)
              (try clear BK558)
              (try clear BK595)
              (try clear BK600)
              (try clear HB)
              generalize (((w131.setCell ⟨gb600, 0, none⟩ (.int .u8 ((rd_T47 t596 x113_5).f0))).setCell ⟨gb600, 1, none⟩ (.int .u8 ((rd_T47 t596 x113_5).f1))).setCell ⟨gb600, 2, none⟩ (.int .u8 ((rd_T47 t596 x113_5).f2))) = w135 at n0_ n1_ n2_ n3_ n4_ n5_ n6_ n7_ n8_ n9_ ⊢
              have HO_9 := n0_
              have HO_111 := n1_
              have HO_559001 := n2_
              have HO_559002 := n3_
              have HO_559003 := n4_
              have HO_596004 := n5_
              have BK558 := n6_
              have BK595 := n7_
              have BK600 := n8_
              have HB := n9_
              clear n0_ n1_ n2_ n3_ n4_ n5_ n6_ n7_ n8_ n9_
              replace HO_9 := Aside0.mk (Kd.R_drew HO_9.out)
              replace HO_111 := Aside0.mk (Kd.R_drew HO_111.out)
              replace HO_559001 := Aside0.mk (Kd.R_drew HO_559001.out)
              replace HO_559002 := Aside0.mk (Kd.R_drew HO_559002.out)
              replace HO_559003 := Aside0.mk (Kd.R_drew HO_559003.out)
              replace HO_596004 := Aside0.mk (Kd.R_drew HO_596004.out)
              replace BK558 := Aside0.mk (blk_drew BK558.out)
              replace BK595 := Aside0.mk (blk_drew BK595.out)
              replace BK600 := Aside0.mk (blk_drew BK600.out)
              replace HB := Aside0.mk (below_drew1 HB.out)
              obtain ⟨Ao137, co137, eo137⟩ := Kd.R_slice HO_9.out
              (first | subst eo137 | (injection eo137 with f1_ f2_ f3_; have f4_ := f1_.symm; have f5_ := f3_.symm; clear f1_ f2_ f3_; subst f4_; subst f5_))
              have p610 : 0 ≤ ((ji125) : Int) := pos_
              have q610 : (ji125) < (x9_5.length : Int) := pos_
              obtain ⟨ad610, e610, hx610_0, hx610_1, hx610_2, hx610_3, hx610_4, hx610_5⟩ := at_T28 (Kd.R_reads' HO_9.out).2.2 (ji125) p610 q610
              cases e610
              replace p610 := eq_true p610
              replace q610 := eq_true q610
              refine start_ (n := 8) (S := fun w' => w'.cell? ⟨gb595, 0, none⟩ = some (.int .i64 t587) ∧ w'.cell? ⟨gb595, 1, none⟩ = some (.int .i64 t588) ∧ w'.cell? ⟨gb595, 2, none⟩ = some (.int .i64 t589) ∧ w'.cell? ⟨gb595, 3, none⟩ = some (.string t590) ∧ w'.cell? ⟨gb595, 4, none⟩ = some (.slice Ao98 t591.length co98) ∧ w'.cell? (ad610.add (((ji125)).toNat * 6)) = some (.string ((rd_T28 x9_5 (ji125)).f0)) ∧ w'.cell? ⟨(ad610.add (((ji125)).toNat * 6)).block, (ad610.add (((ji125)).toNat * 6)).off + 1, none⟩ = some (.string ((rd_T28 x9_5 (ji125)).f1)) ∧ w'.cell? ⟨(ad610.add (((ji125)).toNat * 6)).block, (ad610.add (((ji125)).toNat * 6)).off + 2, none⟩ = some (.bool ((rd_T28 x9_5 (ji125)).f2)) ∧ w'.cell? ⟨(ad610.add (((ji125)).toNat * 6)).block, (ad610.add (((ji125)).toNat * 6)).off + 3, none⟩ = some (.string ((rd_T28 x9_5 (ji125)).f3)) ∧ w'.cell? ⟨(ad610.add (((ji125)).toNat * 6)).block, (ad610.add (((ji125)).toNat * 6)).off + 4, none⟩ = some (.int .i64 ((rd_T28 x9_5 (ji125)).f4)) ∧ w'.cell? ⟨(ad610.add (((ji125)).toNat * 6)).block, (ad610.add (((ji125)).toNat * 6)).off + 5, none⟩ = some (.int .i64 ((rd_T28 x9_5 (ji125)).f5))) (ds := []) #[false, false, false, false, false, false, false, false] (by kernel_rfl) rfl rfl ⟨(blk_cell BK595.out 0).trans rfl, (blk_cell BK595.out 1).trans rfl, (blk_cell BK595.out 2).trans rfl, (blk_cell BK595.out 3).trans rfl, (blk_cell BK595.out 4).trans rfl, hx610_0, hx610_1, hx610_2, hx610_3, hx610_4, hx610_5⟩ (fun hHeld => ?_); refine with_tabW hopmeshlaw49_InstallAgreed.tab31_part21 hopmeshlaw49_InstallAgreed.bits31_part21 (fun HT_ HW_ => ?_)
              generalize w135.drew = w136 at HO_9 HO_111 HO_559001 HO_559002 HO_559003 HO_596004 BK558 BK595 BK600 HB hx610_0 hx610_1 hx610_2 hx610_3 hx610_4 hx610_5 hHeld ⊢
              refine pur 0 (some 148) #[true, false, false, false, false, false, false, false] HT_ ?_
              refine pur 1 (some 149) #[true, true, false, false, false, false, false, false] HT_ ?_
              refine pur 2 (some 150) #[true, true, true, false, false, false, false, false] HT_ ?_
              refine pur 3 (some 151) #[true, true, true, true, false, false, false, false] HT_ ?_
              refine pur 5 (some 153) #[true, true, true, true, false, true, false, false] HT_ ?_
              refine tak 4 (some 152) #[true, true, true, true, true, true, false, false] HT_ HW_ hHeld rfl (Or.inl ⟨by rfl, by rintro w' ⟨s0, s1, s2, s3, s4, s5, s6, s7, s8, s9, s10⟩; go_simp; with_reducible rfl⟩) ?_
              refine tak 6 (some 154) #[true, true, true, true, true, true, true, false] HT_ HW_ hHeld rfl (Or.inl ⟨by rfl, by rintro w' ⟨s0, s1, s2, s3, s4, s5, s6, s7, s8, s9, s10⟩; go_simp; with_reducible rfl⟩) ?_
              refine pur 7 (some 155) #[true, true, true, true, true, true, true, true] HT_ ?_
              refine done_ (done_of HT_.out (by kernel_rfl)) ?_
              try go_wp2
              replace HO_9 := Aside0.mk (Kd.R_drew HO_9.out)
              replace HO_111 := Aside0.mk (Kd.R_drew HO_111.out)
              replace HO_559001 := Aside0.mk (Kd.R_drew HO_559001.out)
              replace HO_559002 := Aside0.mk (Kd.R_drew HO_559002.out)
              replace HO_559003 := Aside0.mk (Kd.R_drew HO_559003.out)
              replace HO_596004 := Aside0.mk (Kd.R_drew HO_596004.out)
              replace BK558 := Aside0.mk (blk_drew BK558.out)
              replace BK595 := Aside0.mk (blk_drew BK595.out)
              replace BK600 := Aside0.mk (blk_drew BK600.out)
              replace HB := Aside0.mk (below_drew1 HB.out)
              have p611 : 0 ≤ ((ji125) : Int) := pos_
              have q611 : (ji125) < (x9_5.length : Int) := pos_
              obtain ⟨ad611, e611, hx611_0, hx611_1, hx611_2, hx611_3, hx611_4, hx611_5⟩ := at_T28 (Kd.R_reads' HO_9.out).2.2 (ji125) p611 q611
              obtain rfl : ad610 = ad611 := (by injection e611)
              replace p611 := eq_true p611
              replace q611 := eq_true q611
              obtain ⟨Ao139, co139, eo139⟩ := Kd.R_slice HO_559001.out
              (first | subst eo139 | (injection eo139 with f1_ f2_ f3_; have f4_ := f1_.symm; have f5_ := f3_.symm; clear f1_ f2_ f3_; subst f4_; subst f5_))
              obtain ⟨Ao140, co140, eo140⟩ := Kd.R_slice HO_559002.out
              (first | subst eo140 | (injection eo140 with f1_ f2_ f3_; have f4_ := f1_.symm; have f5_ := f3_.symm; clear f1_ f2_ f3_; subst f4_; subst f5_))
              obtain ⟨Ao141, co141, eo141⟩ := Kd.R_slice HO_559003.out
              (first | subst eo141 | (injection eo141 with f1_ f2_ f3_; have f4_ := f1_.symm; have f5_ := f3_.symm; clear f1_ f2_ f3_; subst f4_; subst f5_))
              refine start_ (n := 13) (S := fun w' => w'.cell? ⟨gb558, 0, none⟩ = some (.string x559000_5) ∧ w'.cell? ⟨gb558, 1, none⟩ = some (.slice Ao139 x559001_5.length co139) ∧ w'.cell? ⟨gb558, 2, none⟩ = some (.slice Ao140 x559002_5.length co140) ∧ w'.cell? ⟨gb558, 3, none⟩ = some (.slice Ao141 x559003_5.length co141) ∧ w'.cell? ⟨gb558, 4, none⟩ = some (.int .i64 x559004_5) ∧ w'.cell? ⟨gb558, 5, none⟩ = some (.int .i64 x559005_5) ∧ w'.cell? (ad610.add (((ji125)).toNat * 6)) = some (.string ((rd_T28 x9_5 (ji125)).f0)) ∧ w'.cell? ⟨(ad610.add (((ji125)).toNat * 6)).block, (ad610.add (((ji125)).toNat * 6)).off + 1, none⟩ = some (.string ((rd_T28 x9_5 (ji125)).f1)) ∧ w'.cell? ⟨(ad610.add (((ji125)).toNat * 6)).block, (ad610.add (((ji125)).toNat * 6)).off + 2, none⟩ = some (.bool ((rd_T28 x9_5 (ji125)).f2)) ∧ w'.cell? ⟨(ad610.add (((ji125)).toNat * 6)).block, (ad610.add (((ji125)).toNat * 6)).off + 3, none⟩ = some (.string ((rd_T28 x9_5 (ji125)).f3)) ∧ w'.cell? ⟨(ad610.add (((ji125)).toNat * 6)).block, (ad610.add (((ji125)).toNat * 6)).off + 4, none⟩ = some (.int .i64 ((rd_T28 x9_5 (ji125)).f4)) ∧ w'.cell? ⟨(ad610.add (((ji125)).toNat * 6)).block, (ad610.add (((ji125)).toNat * 6)).off + 5, none⟩ = some (.int .i64 ((rd_T28 x9_5 (ji125)).f5))) (ds := [11]) #[false, false, false, false, false, false, false, false, false, false, false, false, false] (by kernel_rfl) rfl rfl ⟨(blk_cell BK558.out 0).trans rfl, (blk_cell BK558.out 1).trans rfl, (blk_cell BK558.out 2).trans rfl, (blk_cell BK558.out 3).trans rfl, (blk_cell BK558.out 4).trans rfl, (blk_cell BK558.out 5).trans rfl, hx611_0, hx611_1, hx611_2, hx611_3, hx611_4, hx611_5⟩ (fun hHeld => ?_); refine with_tabW hopmeshlaw49_InstallAgreed.tab32_part21 hopmeshlaw49_InstallAgreed.bits32_part21 (fun HT_ HW_ => ?_)
              generalize w136.drew = w138 at HO_9 HO_111 HO_559001 HO_559002 HO_559003 HO_596004 BK558 BK595 BK600 HB hx611_0 hx611_1 hx611_2 hx611_3 hx611_4 hx611_5 hHeld ⊢
              refine pur 1 (some 158) #[false, true, false, false, false, false, false, false, false, false, false, false, false] HT_ ?_
              refine pur 2 (some 159) #[false, true, true, false, false, false, false, false, false, false, false, false, false] HT_ ?_
              refine pur 3 (some 160) #[false, true, true, true, false, false, false, false, false, false, false, false, false] HT_ ?_
              refine pur 4 (some 161) #[false, true, true, true, true, false, false, false, false, false, false, false, false] HT_ ?_
              refine pur 5 (some 162) #[false, true, true, true, true, true, false, false, false, false, false, false, false] HT_ ?_
              refine tak 0 (some 157) #[true, true, true, true, true, true, false, false, false, false, false, false, false] HT_ HW_ hHeld rfl (Or.inl ⟨by rfl, by rintro w' ⟨s0, s1, s2, s3, s4, s5, s6, s7, s8, s9, s10, s11⟩; go_simp; with_reducible rfl⟩) ?_
              refine tak 6 (some 163) #[true, true, true, true, true, true, true, false, false, false, false, false, false] HT_ HW_ hHeld rfl (Or.inl ⟨by rfl, by rintro w' ⟨s0, s1, s2, s3, s4, s5, s6, s7, s8, s9, s10, s11⟩; go_simp; with_reducible rfl⟩) ?_
              refine one_ (i := 7) (N := some 164) #[true, true, true, true, true, true, true, true, false, false, false, false, false] rfl rfl (one_of HT_.out (by kernel_rfl)) (by decide) (fun K hK => ?_)
              refine goes_ Try.func23 (by kernel_rfl) rfl #[.agg #[.string x559000_5, .slice Ao139 x559001_5.length co139, .slice Ao140 x559002_5.length co140, .slice Ao141 x559003_5.length co141, .int .i64 x559004_5, .int .i64 x559005_5], .int .i64 ji125, .int .i64 ((rd_T28 x9_5 (ji125)).f5)] (by rfl) rfl rfl (by (try simp only [List.map_toArray, List.map_cons, List.map_nil]); first | done | (simp only [hji125]; rfl) | rfl | (simp only [List.length_drop, List.length_take]; rfl)) ?_
              with_reducible refine (install_Acknowledge.calls k5 x559000_5 _ _ x559001_5 _ _ x559002_5 _ _ x559003_5 x559004_5 x559005_5 ji125 ((rd_T28 x9_5 (ji125)).f5) t612 t613 t616 t619 t622 t623 t624 _ ?side1 ?side2 ?side3 ?side4 ?side5 ?side6 A129.out).mono ?_
              (case side1 => repeat (first | exact (Kd.R_reads' HO_559001.out).2.2 | (with_reducible refine Kd.C_alloc ?_ _) | (with_reducible refine Kd.C_drewN ?_ _) | (with_reducible refine Kd.C_drew ?_)))
              (case side2 => exact (Kd.R_reads' HO_559001.out).2.1)
              (case side3 => repeat (first | exact (Kd.R_reads' HO_559002.out).2.2 | (with_reducible refine Kd.C_alloc ?_ _) | (with_reducible refine Kd.C_drewN ?_ _) | (with_reducible refine Kd.C_drew ?_)))
              (case side4 => exact (Kd.R_reads' HO_559002.out).2.1)
              (case side5 => repeat (first | exact (Kd.R_reads' HO_559003.out).2.2 | (with_reducible refine Kd.C_alloc ?_ _) | (with_reducible refine Kd.C_drewN ?_ _) | (with_reducible refine Kd.C_drew ?_)))
              (case side6 => exact (Kd.R_reads' HO_559003.out).2.1)
              rintro e w142 ⟨v614, v617, v620, rfl, ho0, ho1, ho2, hb⟩
              have HS6_ := (hb.cell (World.block_lt_of_cell? _ _ (hHeld.2.2.2.2.2.2.1))).trans (hHeld.2.2.2.2.2.2.1)
              have HS7_ := (hb.cell (World.block_lt_of_cell? _ _ (hHeld.2.2.2.2.2.2.2.1))).trans (hHeld.2.2.2.2.2.2.2.1)
              have HS8_ := (hb.cell (World.block_lt_of_cell? _ _ (hHeld.2.2.2.2.2.2.2.2.1))).trans (hHeld.2.2.2.2.2.2.2.2.1)
              have HS9_ := (hb.cell (World.block_lt_of_cell? _ _ (hHeld.2.2.2.2.2.2.2.2.2.1))).trans (hHeld.2.2.2.2.2.2.2.2.2.1)
              have HS10_ := (hb.cell (World.block_lt_of_cell? _ _ (hHeld.2.2.2.2.2.2.2.2.2.2.1))).trans (hHeld.2.2.2.2.2.2.2.2.2.2.1)
              have HS11_ := (hb.cell (World.block_lt_of_cell? _ _ (hHeld.2.2.2.2.2.2.2.2.2.2.2))).trans (hHeld.2.2.2.2.2.2.2.2.2.2.2)
              refine ⟨_, rfl, ?_⟩
              replace HO_9 := rB HO_9 hb
              replace HO_111 := rB HO_111 hb
              have HO615 := Aside0.mk (Kd.R_lower (Kd.R_new' (Kd.R_new' ho0 (Kd.R_lt (ro HO_559001))) (Kd.R_lt (ro HO_596004))) (below_size (hbx HB)))
              replace HO_559001 := Aside0.mk (Kd.R_elder' (ro HO_559001) (Kd.R_base ho0) hb)
              replace HO_596004 := Aside0.mk (Kd.R_elder' (ro HO_596004) (Kd.R_base ho0) hb)
              have HO618 := Aside0.mk (Kd.R_lower (Kd.R_new' (Kd.R_new' ho1 (Kd.R_lt (ro HO_559002))) (Kd.R_lt (ro HO_559003))) (below_size (hbx HB)))
              have HO621 := Aside0.mk (Kd.R_lower (Kd.R_new' (Kd.R_new' ho2 (Kd.R_lt (ro HO_559002))) (Kd.R_lt (ro HO_559003))) (below_size (hbx HB)))
              replace HO_559002 := Aside0.mk (Kd.R_mono (Kd.R_told (Kd.R_told (Kd.R_old (ro HO_559002) hb) (Kd.R_base ho1)) (Kd.R_base ho2)) (fun _ h_ => h_.1))
              replace HO_559003 := Aside0.mk (Kd.R_mono (Kd.R_told (Kd.R_told (Kd.R_old (ro HO_559003) hb) (Kd.R_base ho1)) (Kd.R_base ho2)) (fun _ h_ => h_.1))
              replace BK558 := bkB BK558 hb
              replace BK595 := bkB BK595 hb
              replace BK600 := bkB BK600 hb
              replace HB := hbS HB hb
              (try clear hb)
              (try clear hb2)
              (try clear hk)
              (try clear hi)
              (try clear ho0)
              (try clear ho1)
              (try clear ho2)
              obtain ⟨Ao144, co144, eo144⟩ := Kd.R_slice HO615.out
              (first | subst eo144 | (injection eo144 with f1_ f2_ f3_; have f4_ := f1_.symm; have f5_ := f3_.symm; clear f1_ f2_ f3_; subst f4_; subst f5_))
              obtain ⟨Ao146, co146, eo146⟩ := Kd.R_slice HO618.out
              (first | subst eo146 | (injection eo146 with f1_ f2_ f3_; have f4_ := f1_.symm; have f5_ := f3_.symm; clear f1_ f2_ f3_; subst f4_; subst f5_))
              obtain ⟨Ao148, co148, eo148⟩ := Kd.R_slice HO621.out
              (first | subst eo148 | (injection eo148 with f1_ f2_ f3_; have f4_ := f1_.symm; have f5_ := f3_.symm; clear f1_ f2_ f3_; subst f4_; subst f5_))
              refine hK.out _ _ ⟨(blk_cell BK558.out 0).trans rfl, (blk_cell BK558.out 1).trans rfl, (blk_cell BK558.out 2).trans rfl, (blk_cell BK558.out 3).trans rfl, (blk_cell BK558.out 4).trans rfl, (blk_cell BK558.out 5).trans rfl, HS6_, HS7_, HS8_, HS9_, HS10_, HS11_⟩ (fun hHeld => ?_)
              clear hK K
              refine nrm (some 164) ?_
              refine pur 8 (some 156) #[true, true, true, true, true, true, true, true, true, false, false, false, false] HT_ ?_
              refine pur 9 (some 165) #[true, true, true, true, true, true, true, true, true, true, false, false, false] HT_ ?_
              refine pur 10 (some 166) #[true, true, true, true, true, true, true, true, true, true, true, false, false] HT_ ?_
              refine last_ (i := 11) (N := none) #[true, true, true, true, true, true, true, true, true, true, true, true, false] rfl rfl (one_of HT_.out (by kernel_rfl)) (by decide) (fun K hK => ?_)
              have hs143 : w142.cell? ⟨gb558, 0, none⟩ = some (.string x559000_5) := (blk_cell BK558.out 0).trans rfl
              have hfs143 := blk_frozen BK558.out 0
              have hns143_1 := NB595_558.out
              have hns143_2 := NB600_558.out
              have hms143_1 := NB558_595.out
              have hms143_2 := NB558_600.out
              have hs145 : w142.cell? ⟨gb558, 1, none⟩ = some (.slice Ao139 x559001_5.length co139) := (blk_cell BK558.out 1).trans rfl
              have hfs145 := blk_frozen BK558.out 1
              have hns145_1 := NB595_558.out
              have hns145_2 := NB600_558.out
              have hms145_1 := NB558_595.out
              have hms145_2 := NB558_600.out
              have hs147 : w142.cell? ⟨gb558, 2, none⟩ = some (.slice Ao140 x559002_5.length co140) := (blk_cell BK558.out 2).trans rfl
              have hfs147 := blk_frozen BK558.out 2
              have hns147_1 := NB595_558.out
              have hns147_2 := NB600_558.out
              have hms147_1 := NB558_595.out
              have hms147_2 := NB558_600.out
              have hs149 : w142.cell? ⟨gb558, 3, none⟩ = some (.slice Ao141 x559003_5.length co141) := (blk_cell BK558.out 3).trans rfl
              have hfs149 := blk_frozen BK558.out 3
              have hns149_1 := NB595_558.out
              have hns149_2 := NB600_558.out
              have hms149_1 := NB558_595.out
              have hms149_2 := NB558_600.out
              have hs150 : w142.cell? ⟨gb558, 4, none⟩ = some (.int .i64 x559004_5) := (blk_cell BK558.out 4).trans rfl
              have hfs150 := blk_frozen BK558.out 4
              have hns150_1 := NB595_558.out
              have hns150_2 := NB600_558.out
              have hms150_1 := NB558_595.out
              have hms150_2 := NB558_600.out
              have hs151 : w142.cell? ⟨gb558, 5, none⟩ = some (.int .i64 x559005_5) := (blk_cell BK558.out 5).trans rfl
              have hfs151 := blk_frozen BK558.out 5
              have hns151_1 := NB595_558.out
              have hns151_2 := NB600_558.out
              have hms151_1 := NB558_595.out
              have hms151_2 := NB558_600.out
              refine skip_ (w1 := ?_) (by rfl) rfl ?_ ?_
              rotate_left
              ·go_simp
               rfl
              refine hK.out _ _ ?_
              clear hK K
              refine pur 12 (some 12) #[true, true, true, true, true, true, true, true, true, true, true, true, true] HT_ ?_
              refine done_ (done_of HT_.out (by kernel_rfl)) ?_
              try go_wp2
              go_roundg k5
              case measure => have := HJ3.out; have := HK2.out; have := HK3.out; have := HJ63.out; have := HK5.out; omega
              case rel => exact ⟨(x9_5), (wrap64 (x113_5 + 1)), (t612), (t613), (t616), (t619), (t622), (t623), (.slice Ao144 t613.length co144), (.slice Ao146 t616.length co146), (.slice Ao148 t619.length co148), rfs, H', ⟨by have := HJ3.out; have := HK2.out; have := HK3.out; have := HJ63.out; have := HK5.out; omega⟩, ⟨Kd.R_mono (rty (rfo HO_9) BK558) (fun _ hk => trivial)⟩, ⟨Kd.R_mono (rty (rfo HO_111) BK558) (fun _ hk => trivial)⟩, ⟨Kd.R_mono (rty (rfo HO615) BK558) (fun _ hk => hk.1.2)⟩, ⟨Kd.R_mono (rty (rfo HO618) BK558) (fun _ hk => hk.1.1.1)⟩, ⟨Kd.R_mono (rty (rfo HO621) BK558) (fun _ hk => hk.1.1.1)⟩, ⟨Kd.R_mono (rty (rfo HO_596004) BK558) (fun _ hk => hk.1.2)⟩, bkpA BK558, bkfA BK595, hbA HB⟩
             ·rw [if_neg c130] at H
              exact absurd H (by simp)
            ·rw [if_neg c128] at H
             have c128b0 : (((rd_T28 x9_5 (ji125)).f5) == t587) = false := beq_eq_false_iff_ne.mpr c128
             have c128b1 : (((rd_T28 x9_5 (ji125)).f5) != t587) = true := bne_iff_ne.mpr c128
             have H' := Aside0.mk H
             clear H
             have p599 : 0 ≤ (x113_5 : Int) := pos_
             have q599 : x113_5 < (t596.length : Int) := pos_
             obtain ⟨ad599, e599, hx599_0, hx599_1, hx599_2⟩ := at_T47 (Kd.R_reads' HO_111.out).2.2 x113_5 p599 q599
             cases e599
             replace p599 := eq_true p599
             replace q599 := eq_true q599
             try go_wp2_with (first | ((with_reducible refine gate_dst (N := 16) rfl ?_); (try (refine gate_guard (by rfl) ?_; dsimp only)); refine boxE 16 #[.int .u8 0, .int .u8 0, .int .u8 0] 47 ?_; intro gb600 hg w152 hbox hb; replace HO_9 := rB HO_9 hb; replace HO_111 := Aside0.mk (Kd.R_below (Kd.R_elderB (ro HO_111) gb600 (Nat.le_of_eq hg.symm)) hb); replace HO_559001 := rB HO_559001 hb; replace HO_559002 := rB HO_559002 hb; replace HO_559003 := rB HO_559003 hb; replace HO_596004 := rB HO_596004 hb; have BK600 := Aside0.mk (hbox); have GW600 := gw hg HB; have GE600 := gw hg HB; replace HB := hbS HB hb; have NB558_600 := nbl hg BK558; have NB600_558 := nbg hg BK558; replace BK558 := bkB BK558 hb; have NB595_600 := nbl hg BK595; have NB600_595 := nbg hg BK595; replace BK595 := bkB BK595 hb; clear hb hbox hg; have hnb153 := NB600_558.out; have hnc153 := NB558_600.out; have hnb154 := NB600_595.out; have hnc154 := NB595_600.out; obtain ⟨z0, z1, z2, y0, y1, y2⟩ := bc3 BK600))
             have n0_ : Aside0 (Kd.R k28 28 (((w152.setCell ⟨gb600, 0, none⟩ (.int .u8 ((rd_T47 t596 x113_5).f0))).setCell ⟨gb600, 1, none⟩ (.int .u8 ((rd_T47 t596 x113_5).f1))).setCell ⟨gb600, 2, none⟩ (.int .u8 ((rd_T47 t596 x113_5).f2))) w.heap.size (fun _ => True) v528 x9_5) := ⟨Kd.R_mono (rty (rfo HO_9) BK600) (fun _ hk => trivial)⟩
             have n1_ : Aside0 (Kd.R k47 47 (((w152.setCell ⟨gb600, 0, none⟩ (.int .u8 ((rd_T47 t596 x113_5).f0))).setCell ⟨gb600, 1, none⟩ (.int .u8 ((rd_T47 t596 x113_5).f1))).setCell ⟨gb600, 2, none⟩ (.int .u8 ((rd_T47 t596 x113_5).f2))) w.heap.size (fun k_ => k_ ≠ gb600) (.slice (some ad599) t596.length co100) t596) := ⟨by (with_reducible repeat (first | apply Kd.R_alloc | apply Kd.R_drewN | apply Kd.R_drew)); exact Kd.R_mono (Kd.R_far (p := ⟨gb600, 2, none⟩) (Kd.R_far (p := ⟨gb600, 1, none⟩) (Kd.R_far (p := ⟨gb600, 0, none⟩) (Kd.R_mono HO_111.out (fun k_ hk => (⟨hk, hk.2⟩ : _ ∧ k_ ≠ gb600))) (fun _ hk => hk.2) (.int .u8 ((rd_T47 t596 x113_5).f0))) (fun _ hk => hk.2) (.int .u8 ((rd_T47 t596 x113_5).f1))) (fun _ hk => hk.2) (.int .u8 ((rd_T47 t596 x113_5).f2))) (fun _ hk => hk.1.2)⟩
             have n2_ : Aside0 (Kd.R (Kd.int .i64) 3 (((w152.setCell ⟨gb600, 0, none⟩ (.int .u8 ((rd_T47 t596 x113_5).f0))).setCell ⟨gb600, 1, none⟩ (.int .u8 ((rd_T47 t596 x113_5).f1))).setCell ⟨gb600, 2, none⟩ (.int .u8 ((rd_T47 t596 x113_5).f2))) w.heap.size (fun k_ => some k_ ≠ (.slice Ao98 t591.length co98 : Value).ownBlock) u559001 x559001_5) := rfA HO_559001
             have n3_ : Aside0 (Kd.R Kd.bool 4 (((w152.setCell ⟨gb600, 0, none⟩ (.int .u8 ((rd_T47 t596 x113_5).f0))).setCell ⟨gb600, 1, none⟩ (.int .u8 ((rd_T47 t596 x113_5).f1))).setCell ⟨gb600, 2, none⟩ (.int .u8 ((rd_T47 t596 x113_5).f2))) w.heap.size (fun k_ => some k_ ≠ (u559003 : Value).ownBlock) u559002 x559002_5) := rfA HO_559002
             have n4_ : Aside0 (Kd.R Kd.bool 4 (((w152.setCell ⟨gb600, 0, none⟩ (.int .u8 ((rd_T47 t596 x113_5).f0))).setCell ⟨gb600, 1, none⟩ (.int .u8 ((rd_T47 t596 x113_5).f1))).setCell ⟨gb600, 2, none⟩ (.int .u8 ((rd_T47 t596 x113_5).f2))) w.heap.size (fun k_ => some k_ ≠ (u559002 : Value).ownBlock) u559003 x559003_5) := rfA HO_559003
             have n5_ : Aside0 (Kd.R (Kd.int .i64) 3 (((w152.setCell ⟨gb600, 0, none⟩ (.int .u8 ((rd_T47 t596 x113_5).f0))).setCell ⟨gb600, 1, none⟩ (.int .u8 ((rd_T47 t596 x113_5).f1))).setCell ⟨gb600, 2, none⟩ (.int .u8 ((rd_T47 t596 x113_5).f2))) w.heap.size (fun k_ => some k_ ≠ (u559001 : Value).ownBlock) (.slice Ao98 t591.length co98) t591) := rfA HO_596004
             have n6_ : Aside0 ((((w152.setCell ⟨gb600, 0, none⟩ (.int .u8 ((rd_T47 t596 x113_5).f0))).setCell ⟨gb600, 1, none⟩ (.int .u8 ((rd_T47 t596 x113_5).f1))).setCell ⟨gb600, 2, none⟩ (.int .u8 ((rd_T47 t596 x113_5).f2))).heap[gb558]? = some (.cells #[.string x559000_5, u559001, u559002, u559003, .int .i64 x559004_5, .int .i64 x559005_5] 50 (0, 0))) := bkfA BK558
             have n7_ : Aside0 ((((w152.setCell ⟨gb600, 0, none⟩ (.int .u8 ((rd_T47 t596 x113_5).f0))).setCell ⟨gb600, 1, none⟩ (.int .u8 ((rd_T47 t596 x113_5).f1))).setCell ⟨gb600, 2, none⟩ (.int .u8 ((rd_T47 t596 x113_5).f2))).heap[gb595]? = some (.cells #[.int .i64 t587, .int .i64 t588, .int .i64 t589, .string t590, .slice Ao98 t591.length co98] 36 (0, 0))) := bkfA BK595
             have n8_ : Aside0 ((((w152.setCell ⟨gb600, 0, none⟩ (.int .u8 ((rd_T47 t596 x113_5).f0))).setCell ⟨gb600, 1, none⟩ (.int .u8 ((rd_T47 t596 x113_5).f1))).setCell ⟨gb600, 2, none⟩ (.int .u8 ((rd_T47 t596 x113_5).f2))).heap[gb600]? = some (.cells #[.int .u8 ((rd_T47 t596 x113_5).f0), .int .u8 ((rd_T47 t596 x113_5).f1), .int .u8 ((rd_T47 t596 x113_5).f2)] 47 (0, 0))) := bkpA BK600
             have n9_ : Aside0 (Below w.heap.size w (((w152.setCell ⟨gb600, 0, none⟩ (.int .u8 ((rd_T47 t596 x113_5).f0))).setCell ⟨gb600, 1, none⟩ (.int .u8 ((rd_T47 t596 x113_5).f1))).setCell ⟨gb600, 2, none⟩ (.int .u8 ((rd_T47 t596 x113_5).f2)))) := hbA HB
             (try clear HO_9)
             (try clear HO_111)
             (try clear HO_559001)
             (try clear HO_559002)
             (try clear HO_559003)
             (try clear HO_596004)
             (try clear BK558)
             (try clear BK595)
             (try clear BK600)
             (try clear HB)
             generalize (((w152.setCell ⟨gb600, 0, none⟩ (.int .u8 ((rd_T47 t596 x113_5).f0))).setCell ⟨gb600, 1, none⟩ (.int .u8 ((rd_T47 t596 x113_5).f1))).setCell ⟨gb600, 2, none⟩ (.int .u8 ((rd_T47 t596 x113_5).f2))) = w156 at n0_ n1_ n2_ n3_ n4_ n5_ n6_ n7_ n8_ n9_ ⊢
             have HO_9 := n0_
             have HO_111 := n1_
             have HO_559001 := n2_
             have HO_559002 := n3_
             have HO_559003 := n4_
             have HO_596004 := n5_
             have BK558 := n6_
             have BK595 := n7_
             have BK600 := n8_
             have HB := n9_
             clear n0_ n1_ n2_ n3_ n4_ n5_ n6_ n7_ n8_ n9_
             replace HO_9 := Aside0.mk (Kd.R_drew HO_9.out)
             replace HO_111 := Aside0.mk (Kd.R_drew HO_111.out)
             replace HO_559001 := Aside0.mk (Kd.R_drew HO_559001.out)
             replace HO_559002 := Aside0.mk (Kd.R_drew HO_559002.out)
             replace HO_559003 := Aside0.mk (Kd.R_drew HO_559003.out)
             replace HO_596004 := Aside0.mk (Kd.R_drew HO_596004.out)
             replace BK558 := Aside0.mk (blk_drew BK558.out)
             replace BK595 := Aside0.mk (blk_drew BK595.out)
             replace BK600 := Aside0.mk (blk_drew BK600.out)
             replace HB := Aside0.mk (below_drew1 HB.out)
             obtain ⟨Ao158, co158, eo158⟩ := Kd.R_slice HO_9.out
             (first | subst eo158 | (injection eo158 with f1_ f2_ f3_; have f4_ := f1_.symm; have f5_ := f3_.symm; clear f1_ f2_ f3_; subst f4_; subst f5_))
             have p610 : 0 ≤ ((ji125) : Int) := pos_
             have q610 : (ji125) < (x9_5.length : Int) := pos_
             obtain ⟨ad610, e610, hx610_0, hx610_1, hx610_2, hx610_3, hx610_4, hx610_5⟩ := at_T28 (Kd.R_reads' HO_9.out).2.2 (ji125) p610 q610
             cases e610
             replace p610 := eq_true p610
             replace q610 := eq_true q610
             refine start_ (n := 8) (S := fun w' => w'.cell? ⟨gb595, 0, none⟩ = some (.int .i64 t587) ∧ w'.cell? ⟨gb595, 1, none⟩ = some (.int .i64 t588) ∧ w'.cell? ⟨gb595, 2, none⟩ = some (.int .i64 t589) ∧ w'.cell? ⟨gb595, 3, none⟩ = some (.string t590) ∧ w'.cell? ⟨gb595, 4, none⟩ = some (.slice Ao98 t591.length co98) ∧ w'.cell? (ad610.add (((ji125)).toNat * 6)) = some (.string ((rd_T28 x9_5 (ji125)).f0)) ∧ w'.cell? ⟨(ad610.add (((ji125)).toNat * 6)).block, (ad610.add (((ji125)).toNat * 6)).off + 1, none⟩ = some (.string ((rd_T28 x9_5 (ji125)).f1)) ∧ w'.cell? ⟨(ad610.add (((ji125)).toNat * 6)).block, (ad610.add (((ji125)).toNat * 6)).off + 2, none⟩ = some (.bool ((rd_T28 x9_5 (ji125)).f2)) ∧ w'.cell? ⟨(ad610.add (((ji125)).toNat * 6)).block, (ad610.add (((ji125)).toNat * 6)).off + 3, none⟩ = some (.string ((rd_T28 x9_5 (ji125)).f3)) ∧ w'.cell? ⟨(ad610.add (((ji125)).toNat * 6)).block, (ad610.add (((ji125)).toNat * 6)).off + 4, none⟩ = some (.int .i64 ((rd_T28 x9_5 (ji125)).f4)) ∧ w'.cell? ⟨(ad610.add (((ji125)).toNat * 6)).block, (ad610.add (((ji125)).toNat * 6)).off + 5, none⟩ = some (.int .i64 ((rd_T28 x9_5 (ji125)).f5))) (ds := []) #[false, false, false, false, false, false, false, false] (by kernel_rfl) rfl rfl ⟨(blk_cell BK595.out 0).trans rfl, (blk_cell BK595.out 1).trans rfl, (blk_cell BK595.out 2).trans rfl, (blk_cell BK595.out 3).trans rfl, (blk_cell BK595.out 4).trans rfl, hx610_0, hx610_1, hx610_2, hx610_3, hx610_4, hx610_5⟩ (fun hHeld => ?_); refine with_tabW hopmeshlaw49_InstallAgreed.tab31_part21 hopmeshlaw49_InstallAgreed.bits31_part21 (fun HT_ HW_ => ?_)
             generalize w156.drew = w157 at HO_9 HO_111 HO_559001 HO_559002 HO_559003 HO_596004 BK558 BK595 BK600 HB hx610_0 hx610_1 hx610_2 hx610_3 hx610_4 hx610_5 hHeld ⊢
             refine pur 0 (some 148) #[true, false, false, false, false, false, false, false] HT_ ?_
             refine pur 1 (some 149) #[true, true, false, false, false, false, false, false] HT_ ?_
             refine pur 2 (some 150) #[true, true, true, false, false, false, false, false] HT_ ?_
             refine pur 3 (some 151) #[true, true, true, true, false, false, false, false] HT_ ?_
             refine pur 5 (some 153) #[true, true, true, true, false, true, false, false] HT_ ?_
             refine tak 4 (some 152) #[true, true, true, true, true, true, false, false] HT_ HW_ hHeld rfl (Or.inl ⟨by rfl, by rintro w' ⟨s0, s1, s2, s3, s4, s5, s6, s7, s8, s9, s10⟩; go_simp; with_reducible rfl⟩) ?_
             refine tak 6 (some 154) #[true, true, true, true, true, true, true, false] HT_ HW_ hHeld rfl (Or.inl ⟨by rfl, by rintro w' ⟨s0, s1, s2, s3, s4, s5, s6, s7, s8, s9, s10⟩; go_simp; with_reducible rfl⟩) ?_
             refine pur 7 (some 155) #[true, true, true, true, true, true, true, true] HT_ ?_
             refine done_ (done_of HT_.out (by kernel_rfl)) ?_
             try go_wp2
             go_roundg k5
             case measure => have := HJ3.out; have := HK2.out; have := HK3.out; have := HJ63.out; have := HK5.out; omega
             case rel => exact ⟨(x9_5), (wrap64 (x113_5 + 1)), (x559000_5), (x559001_5), (x559002_5), (x559003_5), (x559004_5), (x559005_5), (u559001), (u559002), (u559003), rfs, H', ⟨by have := HJ3.out; have := HK2.out; have := HK3.out; have := HJ63.out; have := HK5.out; omega⟩, roA HO_9, ⟨by (with_reducible repeat (first | apply Kd.R_alloc | apply Kd.R_drewN | apply Kd.R_drew)); exact Kd.R_mono HO_111.out (fun _ hk => trivial)⟩, roA HO_559001, roA HO_559002, roA HO_559003, roA HO_596004, bkA BK558, bkA BK595, hbA HB⟩
           ·rw [if_neg c127] at H
            exact absurd H (by simp)
          ·rw [if_neg c126] at H
           exact absurd H (by simp)
      ·rw [if_neg c103] at H
       exact absurd H (by simp)
     ·rw [if_neg c102] at H
      exact absurd H (by simp)
    ·rw [if_neg c101] at H
     have c101b0 : decide (x113_5 < (t596.length : Int)) = false := decide_eq_false c101
     clear c101
     (first | rw [c101b0] | (simp only [i64_w, i32_w]; rw [c101b0]) | skip)
     have H' := Aside0.mk H
     clear H
     go_wp2
     go_meet
     case rel => exact ⟨_, (x9_5), (x559000_5), (x559001_5), (x559002_5), (x559003_5), (x559004_5), (x559005_5), (u559001), (u559002), (u559003), H', ⟨by have := HJ3.out; have := HK2.out; have := HK3.out; have := HJ63.out; have := HK5.out; first | omega | exact Nat.le_refl _⟩, roA HO_9, roA HO_559001, roA HO_559002, roA HO_559003, roA HO_596004, bkA BK558, bkA BK595, hbA HB⟩
 case rest =>
  go_upto_region 36 with (fail)
  exact hopmeshlaw49_InstallAgreed.part36 _ _ _ _ _ _ _ _ _ _ _ _ _ _ _ _ _ _ _ _ _ _ _ _ _ _ _ _ _ _ _ _ _ _ _ _ _ _ _ _ _ _ _ _ _ _ _ _ _ _ _ _ _ _ _ _ _ _ _ _ _ _ _ _ _ _ _ _ _ _ _ _ _ _ _ _ _ _ _ _ _ _ _ _ _ _ _ _ _ _ _ _ _ _ _ _ _ _ _ _ _ _ _ _ _ _ _ _ _ _ _ _ _ _ _ _ _ _ _ _ _ _ _ _ _ _ _ _ _ _ _ _ _ _ _ _ _ _ _ _ _ _ _ _ _ _ _ _ _ _ _ _ _ _ _ _ _ _ _ _ _ _ _ _ _ _ _ _ _ _ _ _ _ _ _ _ _ _ _ _ _ _ _ _ _ _ _ _ _ _ _ _ _ _ _ _ _ _ _ _ _ _ _ _ _ _ _ _ _ _ _ _ _ _ _ _ _ _ _ _ _ _ _ _ _ _ _ _ _ _ _ _ _ _ _ _ HJ3 hji14 hji14w HK2 HK3 HJ63 c83b0 c83b1 HC85 NB558_595 NB595_558 hnb92 hnc92 z5 y5 z0 z1 z2 z3 z4 y0 y1 y2 y3 y4 HO_9 HO_559001 HO_559002 HO_559003 BK558 BK595 HB hcut _ _ _ _ _ ‹_› ‹_› (by kernel_rfl)
end Go.Proofs.Ytdigplhjfjchnaa.PQ
