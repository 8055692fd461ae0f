-- Printed by fprint.py and zip.py, programs of this session's, over the kit's print; Lean checks it.
import Derived.Test.YtdigplhjfjchnaaZ0
import Derived.Test.YtdigplhjfjchnaaZf11
import Derived.Test.YtdigplhjfjchnaaZf12
import Derived.Test.YtdigplhjfjchnaaZf14
import Derived.Test.YtdigplhjfjchnaaZf15
import Derived.Test.YtdigplhjfjchnaaZf18
import Derived.Test.YtdigplhjfjchnaaZf20
import Derived.Test.YtdigplhjfjchnaaZf10
import Derived.Test.YtdigplhjfjchnaaZf17
import Derived.Test.YtdigplhjfjchnaaZf19
import Derived.Test.YtdigplhjfjchnaaZf21
import Derived.Test.YtdigplhjfjchnaaZf22
import Derived.Test.YtdigplhjfjchnaaZf23
import Derived.Test.YtdigplhjfjchnaaZf6d
import Derived.Test.YtdigplhjfjchnaaZC
import Derived.Test.YtdigplhjfjchnaaZf6p21
namespace Go.Proofs.Ytdigplhjfjchnaa.PQ
open Go.RowKit Go.Proofs.YtdigplhjfjchnaaW.PrintWords Go.Proofs.YtdigplhjfjchnaaW.PrintLast Go.Proofs.YtdigplhjfjchnaaW.PrintMore
attribute [local go_sem] max2_int min2_int max_two min_two max_three min_three max_four min_four   -- for this text's walks alone
set_option linter.unusedVariables false
set_option linter.unusedSimpArgs false
def hopmeshlaw49_InstallAgreed.T17_part12 : Bool × List (List Nat × List Nat) := (true, [([], []), ([], []), ([], []), ([], []), ([2, 3], [2, 3]), ([4], [4]), ([5], [5]), ([0, 1, 6], [0, 1, 6]), ([7], [7]), ([8], [8]), ([8], [8]), ([9, 7, 0, 1, 2, 3, 4, 5, 6, 7, 8, 9], [9]), ([10, 11, 0, 1, 2, 3, 4, 5, 6, 7, 8, 9, 10, 11], [10])])
def hopmeshlaw49_InstallAgreed.B17_part12 : List Nat := [0, 0, 0, 0, 12, 28, 60, 127, 255, 511, 511, 1023, 4095]
theorem hopmeshlaw49_InstallAgreed.tab17_part12 : rtab .any (opsOf Try.f6 17) = hopmeshlaw49_InstallAgreed.T17_part12 := by kernel_rfl
theorem hopmeshlaw49_InstallAgreed.bits17_part12 : waitsOk hopmeshlaw49_InstallAgreed.T17_part12.2 hopmeshlaw49_InstallAgreed.B17_part12 = true := by kernel_rfl
set_option maxHeartbeats 8000000 in
set_option maxRecDepth 100000 in
theorem hopmeshlaw49_InstallAgreed.part12 (k : Nat) (a0 : Int) (a1 : Int) (A2 : Option Addr) (c2 : Nat) (l2 : List S47) (r : Bool) (w : World) (kj3 : Nat) (ji14 : Int) (v528 : Value) (wr : World) (u8 : Value) (x8_2 : List Int) (x9_2 : List S28) (x41_2 : Int) (k2 : Nat) (t544 : ByteArray) (t545 : ByteArray) (t546 : List Int) (t549 : List Bool) (t552 : List Bool) (t555 : Int) (t556 : Int) (t557 : Int) (U3 U4 U5 U10 U11 U12 U13 U14 U15 U16 U17 U18 U19 U20 U21 U22 U23 U24 U25 U26 U27 U28 U29 U30 U31 U33 U43 U44 U45 U46 U47 U48 U49 U50 U51 U52 U53 U54 U55 U56 U57 U58 U59 U60 U61 U62 U63 U64 U65 U66 U67 U68 U69 U70 U71 U72 U73 U74 U75 U76 U77 U78 U79 U80 U81 U82 U83 U84 U85 U86 U87 U88 U89 U90 U91 U92 U93 U94 U95 U96 U97 U98 U99 U100 U101 U102 U103 U104 U105 U106 U107 U108 U109 U110 U111 U112 U113 U114 U115 U116 U117 U118 U119 U120 U121 U122 U123 U124 U125 U126 U127 U128 U129 U130 U131 U132 U133 U134 U135 U136 U137 U138 U139 U140 U141 U142 U143 U144 U145 U146 U147 U148 U149 U150 U151 U152 U153 U154 U155 U156 U157 U158 U159 U160 U161 U162 U163 U164 U165 U166 U167 U168 U169 U170 U171 U172 U173 U174 U175 U176 U177 U178 U179 U180 U181 U182 U183 U184 U185 U186 U187 U188 U189 U190 U191 U192 U193 U194 U195 U196 U197 U198 U199 U200 U201 : Value) (HR2 : Aside0 (Kd.C k47 w A2 (List.length l2) l2)) (HC2 : Aside0 (List.length l2 ≤ c2)) (HJ3 : Aside0 (kj3 + (1 : Nat) ≤ k)) (hji14 : wrap64 ((1 : Int) + wrap64 (Int.tmod a0 (6 : Int))) = ji14) (hji14w : IntKind.wrap IntKind.i64 ((1 : Int) + wrap64 (Int.tmod a0 (6 : Int))) = ji14) (HO_8 : Aside0 (Kd.R (Kd.int IntKind.i64) (3 : Nat) wr (Array.size (World.heap w)) (fun (x : Nat) => True) u8 x8_2)) (HO_9 : Aside0 (Kd.R k28 (28 : Nat) wr (Array.size (World.heap w)) (fun (x : Nat) => True) v528 x9_2)) (HB : Aside0 (Below (Array.size (World.heap w)) w wr)) (HK2 : Aside0 (k2 + (1 : Nat) ≤ kj3)) (c19b0 : decide (x41_2 < ji14) = false) (A34 : Aside0 (hopmeshlaw49_id.f { data := #[(120 : UInt8)] } = some t544)) (A35 : Aside0 (install_New.f k2 t544 x8_2 = some (t545, t546, t549, t552, t555, t556, t557))) (H' : Aside0 (l1 k2 a1 l2 ji14 x9_2 t557 ji14 (0 : Int) t545 t546 t549 t552 t555 t556 = some r)) (c1_ c2_ : Code) :
 let Q' : Exit → Act → World → Prop := bodyPost Try.prog Try.f6 fun (e : Ending) (w' : World) => e = Ending.returned (Value.bool r) ∧ Below (Array.size (World.heap w)) w w'
 ∀ (K : Act → World → Prop), (∀ (a : Act) (w : World), Code.wp Try.prog c2_ Q' a w → K a w) → Option.bind Try.f6.body (seqAt 12) = some (c1_, c2_) → Code.wp Try.prog c1_ (Exit.then K Q') ⟨#[Value.int IntKind.u8 a0, Value.int IntKind.u8 a1, Value.slice A2 (List.length l2) c2, U3, U4, U5, Value.bool false, Value.int IntKind.i64 ji14, u8, v528, U10, U11, U12, U13, U14, U15, U16, U17, U18, U19, U20, U21, U22, U23, U24, U25, U26, U27, U28, U29, U30, U31, Value.bool false, U33, Value.int IntKind.u8 a0, Value.int IntKind.u8 (Int.tmod a0 (6 : Int)), Value.int IntKind.i64 (wrap64 (Int.tmod a0 (6 : Int))), Value.int IntKind.i64 ji14, Value.int IntKind.i64 ji14, v528, Value.int IntKind.i64 ji14, Value.int IntKind.i64 x41_2, Value.bool false, U43, U44, U45, U46, U47, U48, U49, U50, U51, U52, U53, U54, U55, U56, U57, U58, U59, U60, U61, U62, U63, U64, U65, U66, U67, U68, U69, U70, U71, U72, U73, U74, U75, U76, U77, U78, U79, U80, U81, U82, U83, U84, U85, U86, U87, U88, U89, U90, U91, U92, U93, U94, U95, U96, U97, U98, U99, U100, U101, U102, U103, U104, U105, U106, U107, U108, U109, U110, U111, U112, U113, U114, U115, U116, U117, U118, U119, U120, U121, U122, U123, U124, U125, U126, U127, U128, U129, U130, U131, U132, U133, U134, U135, U136, U137, U138, U139, U140, U141, U142, U143, U144, U145, U146, U147, U148, U149, U150, U151, U152, U153, U154, U155, U156, U157, U158, U159, U160, U161, U162, U163, U164, U165, U166, U167, U168, U169, U170, U171, U172, U173, U174, U175, U176, U177, U178, U179, U180, U181, U182, U183, U184, U185, U186, U187, U188, U189, U190, U191, U192, U193, U194, U195, U196, U197, U198, U199, U200, U201], []⟩ (wr) := by
 intro Q' K hK_ hc_
 conv at hc_ => lhs; whnf
 obtain ⟨h1_, h2_⟩ := Prod.mk.inj (Option.some.inj hc_)
 subst h1_ h2_
 clear hc_
 have hu28 := Try.underlying28
 have hu50 := Try.underlying50
 have hu36 := Try.underlying36
 have hu47 := Try.underlying47
 go_wp2_with (first | ((with_reducible refine gate_callee (f := 11) rfl ?_); refine goesL_ (some 66) rfl rfl Try.func11 (by kernel_rfl) rfl #[.string (⟨#[120]⟩ : ByteArray)] rfl sma ?_; (with_reducible refine (hopmeshlaw49_id.calls (⟨#[120]⟩ : ByteArray) t544 _ A34.out).mono ?_); rintro e w36 ⟨rfl, hb⟩; refine ⟨_, rfl, ?_⟩; replace HO_8 := rB HO_8 hb; replace HO_9 := rB HO_9 hb; replace HB := hbS HB hb; (try clear hb); (try clear hb2); (try clear hk); (try clear hi); obtain ⟨Ao37, co37, eo37⟩ := Kd.R_slice HO_8.out; subst eo37) | ((with_reducible refine gate_callee (f := 18) rfl ?_); refine goesL_ (some 68) rfl rfl Try.func18 (by kernel_rfl) rfl #[.string t544, .slice Ao37 x8_2.length co37] rfl sma ?_; (with_reducible refine (install_New.calls k2 t544 _ _ x8_2 t545 t546 t549 t552 t555 t556 t557 _ ?side1 ?side2 A35.out).mono ?_); (case side1 => repeat (first | exact (Kd.R_reads' HO_8.out).2.2 | (with_reducible refine Kd.C_alloc ?_ _) | (with_reducible refine Kd.C_drewN ?_ _) | (with_reducible refine Kd.C_drew ?_))); (case side2 => exact (Kd.R_reads' HO_8.out).2.1); rintro e w38 ⟨v547, v550, v553, rfl, ho0, ho1, ho2, hb⟩; refine ⟨_, rfl, ?_⟩; replace HO_9 := rB HO_9 hb; have HO548 := Aside0.mk (Kd.R_lower (Kd.R_new' ho0 (Kd.R_lt (ro HO_8))) (below_size (hbx HB))); replace HO_8 := Aside0.mk (Kd.R_elder' (ro HO_8) (Kd.R_base ho0) hb); have HO551 := Aside0.mk (Kd.R_lower ho1 (below_size (hbx HB))); have HO554 := Aside0.mk (Kd.R_lower ho2 (below_size (hbx HB))); replace HB := hbS HB hb; (try clear hb); (try clear hb2); (try clear hk); (try clear hi); (try clear ho0); (try clear ho1); (try clear ho2)) | ((with_reducible refine gate_dst (N := 11) rfl ?_); (try (refine gate_guard (by rfl) ?_; dsimp only)); refine boxE 11 #[.string (⟨#[]⟩ : ByteArray), .slice none 0 0, .slice none 0 0, .slice none 0 0, .int .i64 0, .int .i64 0] 50 ?_; intro gb558 hg w39 hbox hb; replace HO_8 := rB HO_8 hb; replace HO_9 := rB HO_9 hb; replace HO548 := rB HO548 hb; replace HO551 := rB HO551 hb; replace HO554 := rB HO554 hb; have BK558 := Aside0.mk (hbox); have GW558 := gw hg HB; have GE558 := gw hg HB; replace HB := hbS HB hb; clear hb hbox hg; obtain ⟨z0, z1, z2, z3, z4, z5, y0, y1, y2, y3, y4, y5⟩ := bc6 BK558; obtain ⟨Ao41, co41, eo41⟩ := Kd.R_slice HO548.out; subst eo41; obtain ⟨Ao42, co42, eo42⟩ := Kd.R_slice HO551.out; subst eo42; obtain ⟨Ao43, co43, eo43⟩ := Kd.R_slice HO554.out; subst eo43))
 go_loopg [12, 72] k2 (fun kq v12 v72 w' => ∃ (x12_3 : Int) (x72_3 : Int) (x559000_3 : ByteArray) (x559001_3 : List Int) (x559002_3 : List Bool) (x559003_3 : List Bool) (x559004_3 : Int) (x559005_3 : Int) (u559001 : Value) (u559002 : Value) (u559003 : Value), v12 = .int .i64 x12_3 ∧ v72 = .int .i64 x72_3 ∧ Aside0 (hopmeshlaw49_InstallAgreed.l1 kq a1 l2 ji14 x9_2 x12_3 ji14 x72_3 x559000_3 x559001_3 x559002_3 x559003_3 x559004_3 x559005_3 = some r) ∧ Aside0 (kq ≤ k2) ∧ Aside0 (Kd.R k28 28 w' w.heap.size (fun _ => True) v528 x9_2) ∧ Aside0 (Kd.R (Kd.int .i64) 3 w' w.heap.size (fun _ => True) u559001 x559001_3) ∧ Aside0 (Kd.R Kd.bool 4 w' w.heap.size (fun k_ => some k_ ≠ (u559003 : Value).ownBlock) u559002 x559002_3) ∧ Aside0 (Kd.R Kd.bool 4 w' w.heap.size (fun k_ => some k_ ≠ (u559002 : Value).ownBlock) u559003 x559003_3) ∧ Aside0 (w'.heap[gb558]? = some (.cells #[.string x559000_3, u559001, u559002, u559003, .int .i64 x559004_3, .int .i64 x559005_3] 50 (0, 0))) ∧ Aside0 (Below w.heap.size w w'))
 case atStart => exact ⟨(t557), (0), (t545), (t546), (t549), (t552), (t555), (t556), (.slice Ao41 t546.length co41), (.slice Ao42 t549.length co42), (.slice Ao43 t552.length co43), rfs, rfs, H', ⟨Nat.le_refl _⟩, ⟨Kd.R_mono (rty (rfo HO_9) BK558) (fun _ hk => trivial)⟩, ⟨Kd.R_mono (rty (rfo HO548) BK558) (fun _ hk => trivial)⟩, rfA HO551, rfA HO554, bkpA BK558, hbA HB⟩
 case round =>
  clear H'
  try clear c2
  try clear c11
  try clear c15
  try clear c15b0
  try clear c15b1
  try clear c16
  try clear c16b0
  try clear c16b1
  try clear c19
  try clear c19b0
  try clear hcz40_0
  try clear hcz40_1
  try clear hcz40_2
  try clear hcz40_3
  try clear hcz40_4
  try clear hcz40_5
  try clear hfz40_0
  try clear hfz40_1
  try clear hfz40_2
  try clear hfz40_3
  try clear hfz40_4
  try clear hfz40_5
  obtain ⟨x12_3, x72_3, x559000_3, x559001_3, x559002_3, x559003_3, x559004_3, x559005_3, u559001, u559002, u559003, rfl, rfl, HA, HK3, HO_9, HO_559001, HO_559002, HO_559003, BK558, HB⟩ := hrel
  cases gk with
  | zero => exact absurd HA.out (by simp [hopmeshlaw49_InstallAgreed.l1])
  | succ k3 =>
   have H := HA.out
   clear HA
   simp only [hopmeshlaw49_InstallAgreed.l1] at H
   by_cases c44 : x72_3 < ji14
   ·rw [if_pos c44] at H
    have c44b0 : decide (x72_3 < ji14) = true := decide_eq_true c44
    clear c44
    by_cases c45 : x12_3 = 0
    ·rw [if_pos c45] at H
     have c45b0 : (x12_3 == 0) = true := beq_iff_eq.mpr c45
     have c45b1 : (x12_3 != 0) = false := bne_eq_false_iff_eq.mpr c45
     clear c45
     by_cases c46 : 0 ≤ x72_3
     ·rw [if_pos c46] at H
      have c46b0 : decide (0 ≤ x72_3) = true := decide_eq_true c46
      clear c46
      by_cases c47 : x72_3 < (x9_2.length : Int)
      ·rw [if_pos c47] at H
       have c47b0 : decide (x72_3 < (x9_2.length : Int)) = true := decide_eq_true c47
       clear c47
       replace H := Option.bind_eq_some_iff.mp H
       obtain ⟨⟨t560, t561, t564, t567, t570, t571, t572⟩, A480, H⟩ := H
       (try dsimp only at H)
       have A48 := Aside0.mk A480
       clear A480
       have H' := Aside0.mk H
       clear H
       try go_wp2
       replace HO_9 := Aside0.mk (Kd.R_drew HO_9.out)
       replace HO_559001 := Aside0.mk (Kd.R_drew HO_559001.out)
       replace HO_559002 := Aside0.mk (Kd.R_drew HO_559002.out)
       replace HO_559003 := Aside0.mk (Kd.R_drew HO_559003.out)
       replace BK558 := Aside0.mk (blk_drew BK558.out)
       replace HB := Aside0.mk (below_drew1 HB.out)
       obtain ⟨Ao50, co50, eo50⟩ := Kd.R_slice HO_9.out
       (first | subst eo50 | (injection eo50 with f1_ f2_ f3_; have f4_ := f1_.symm; have f5_ := f3_.symm; clear f1_ f2_ f3_; subst f4_; subst f5_))
       have p559 : 0 ≤ (x72_3 : Int) := pos_
       have q559 : x72_3 < (x9_2.length : Int) := pos_
       obtain ⟨ad559, e559, hx559_0, hx559_1, hx559_2, hx559_3, hx559_4, hx559_5⟩ := at_T28 (Kd.R_reads' HO_9.out).2.2 x72_3 p559 q559
       cases e559
       replace p559 := eq_true p559
       replace q559 := eq_true q559
       obtain ⟨Ao51, co51, eo51⟩ := Kd.R_slice HO_559001.out
       (first | subst eo51 | (injection eo51 with f1_ f2_ f3_; have f4_ := f1_.symm; have f5_ := f3_.symm; clear f1_ f2_ f3_; subst f4_; subst f5_))
       obtain ⟨Ao52, co52, eo52⟩ := Kd.R_slice HO_559002.out
       (first | subst eo52 | (injection eo52 with f1_ f2_ f3_; have f4_ := f1_.symm; have f5_ := f3_.symm; clear f1_ f2_ f3_; subst f4_; subst f5_))
       obtain ⟨Ao53, co53, eo53⟩ := Kd.R_slice HO_559003.out
       (first | subst eo53 | (injection eo53 with f1_ f2_ f3_; have f4_ := f1_.symm; have f5_ := f3_.symm; clear f1_ f2_ f3_; subst f4_; subst f5_))
       refine start_ (n := 13) (S := fun w' => w'.cell? ⟨gb558, 0, none⟩ = some (.string x559000_3) ∧ w'.cell? ⟨gb558, 1, none⟩ = some (.slice Ao51 x559001_3.length co51) ∧ w'.cell? ⟨gb558, 2, none⟩ = some (.slice Ao52 x559002_3.length co52) ∧ w'.cell? ⟨gb558, 3, none⟩ = some (.slice Ao53 x559003_3.length co53) ∧ w'.cell? ⟨gb558, 4, none⟩ = some (.int .i64 x559004_3) ∧ w'.cell? ⟨gb558, 5, none⟩ = some (.int .i64 x559005_3) ∧ w'.cell? (ad559.add ((x72_3).toNat * 6)) = some (.string ((rd_T28 x9_2 x72_3).f0)) ∧ w'.cell? ⟨(ad559.add ((x72_3).toNat * 6)).block, (ad559.add ((x72_3).toNat * 6)).off + 1, none⟩ = some (.string ((rd_T28 x9_2 x72_3).f1)) ∧ w'.cell? ⟨(ad559.add ((x72_3).toNat * 6)).block, (ad559.add ((x72_3).toNat * 6)).off + 2, none⟩ = some (.bool ((rd_T28 x9_2 x72_3).f2)) ∧ w'.cell? ⟨(ad559.add ((x72_3).toNat * 6)).block, (ad559.add ((x72_3).toNat * 6)).off + 3, none⟩ = some (.string ((rd_T28 x9_2 x72_3).f3)) ∧ w'.cell? ⟨(ad559.add ((x72_3).toNat * 6)).block, (ad559.add ((x72_3).toNat * 6)).off + 4, none⟩ = some (.int .i64 ((rd_T28 x9_2 x72_3).f4)) ∧ w'.cell? ⟨(ad559.add ((x72_3).toNat * 6)).block, (ad559.add ((x72_3).toNat * 6)).off + 5, none⟩ = some (.int .i64 ((rd_T28 x9_2 x72_3).f5))) (ds := [11]) #[false, false, false, false, false, false, false, false, false, false, false, false, false] (by kernel_rfl) rfl rfl ⟨(blk_cell BK558.out 0).trans rfl, (blk_cell BK558.out 1).trans rfl, (blk_cell BK558.out 2).trans rfl, (blk_cell BK558.out 3).trans rfl, (blk_cell BK558.out 4).trans rfl, (blk_cell BK558.out 5).trans rfl, hx559_0, hx559_1, hx559_2, hx559_3, hx559_4, hx559_5⟩ (fun hHeld => ?_); refine with_tabW hopmeshlaw49_InstallAgreed.tab17_part12 hopmeshlaw49_InstallAgreed.bits17_part12 (fun HT_ HW_ => ?_)
       generalize wr.drew = w49 at HO_9 HO_559001 HO_559002 HO_559003 BK558 HB hx559_0 hx559_1 hx559_2 hx559_3 hx559_4 hx559_5 hHeld ⊢
       refine pur 1 (some 79) #[false, true, false, false, false, false, false, false, false, false, false, false, false] HT_ ?_
       refine pur 2 (some 80) #[false, true, true, false, false, false, false, false, false, false, false, false, false] HT_ ?_
       refine pur 3 (some 81) #[false, true, true, true, false, false, false, false, false, false, false, false, false] HT_ ?_
       refine pur 4 (some 82) #[false, true, true, true, true, false, false, false, false, false, false, false, false] HT_ ?_
       refine pur 5 (some 83) #[false, true, true, true, true, true, false, false, false, false, false, false, false] HT_ ?_
       refine tak 0 (some 78) #[true, true, true, true, true, true, false, false, false, false, false, false, false] HT_ HW_ hHeld rfl (Or.inl ⟨by rfl, by rintro w' ⟨s0, s1, s2, s3, s4, s5, s6, s7, s8, s9, s10, s11⟩; go_simp; with_reducible rfl⟩) ?_
       refine tak 6 (some 84) #[true, true, true, true, true, true, true, false, false, false, false, false, false] HT_ HW_ hHeld rfl (Or.inl ⟨by rfl, by rintro w' ⟨s0, s1, s2, s3, s4, s5, s6, s7, s8, s9, s10, s11⟩; go_simp; with_reducible rfl⟩) ?_
       refine one_ (i := 7) (N := some 85) #[true, true, true, true, true, true, true, true, false, false, false, false, false] rfl rfl (one_of HT_.out (by kernel_rfl)) (by decide) (fun K hK => ?_)
       refine goes_ Try.func19 (by kernel_rfl) rfl #[.agg #[.string x559000_3, .slice Ao51 x559001_3.length co51, .slice Ao52 x559002_3.length co52, .slice Ao53 x559003_3.length co53, .int .i64 x559004_3, .int .i64 x559005_3], .int .i64 x72_3, .string ((rd_T28 x9_2 x72_3).f1)] (by rfl) rfl rfl sma ?_
       with_reducible refine (install_Report.calls k3 x559000_3 _ _ x559001_3 _ _ x559002_3 _ _ x559003_3 x559004_3 x559005_3 x72_3 ((rd_T28 x9_2 x72_3).f1) t560 t561 t564 t567 t570 t571 t572 _ ?side1 ?side2 ?side3 ?side4 ?side5 ?side6 A48.out).mono ?_
       (case side1 => repeat (first | exact (Kd.R_reads' HO_559001.out).2.2 | (with_reducible refine Kd.C_alloc ?_ _) | (with_reducible refine Kd.C_drewN ?_ _) | (with_reducible refine Kd.C_drew ?_)))
       (case side2 => exact (Kd.R_reads' HO_559001.out).2.1)
       (case side3 => repeat (first | exact (Kd.R_reads' HO_559002.out).2.2 | (with_reducible refine Kd.C_alloc ?_ _) | (with_reducible refine Kd.C_drewN ?_ _) | (with_reducible refine Kd.C_drew ?_)))
       (case side4 => exact (Kd.R_reads' HO_559002.out).2.1)
       (case side5 => repeat (first | exact (Kd.R_reads' HO_559003.out).2.2 | (with_reducible refine Kd.C_alloc ?_ _) | (with_reducible refine Kd.C_drewN ?_ _) | (with_reducible refine Kd.C_drew ?_)))
       (case side6 => exact (Kd.R_reads' HO_559003.out).2.1)
       rintro e w54 ⟨v562, v565, v568, rfl, ho0, ho1, ho2, hb⟩
       have HS6_ := (hb.cell (World.block_lt_of_cell? _ _ (hHeld.2.2.2.2.2.2.1))).trans (hHeld.2.2.2.2.2.2.1)
       have HS7_ := (hb.cell (World.block_lt_of_cell? _ _ (hHeld.2.2.2.2.2.2.2.1))).trans (hHeld.2.2.2.2.2.2.2.1)
       have HS8_ := (hb.cell (World.block_lt_of_cell? _ _ (hHeld.2.2.2.2.2.2.2.2.1))).trans (hHeld.2.2.2.2.2.2.2.2.1)
       have HS9_ := (hb.cell (World.block_lt_of_cell? _ _ (hHeld.2.2.2.2.2.2.2.2.2.1))).trans (hHeld.2.2.2.2.2.2.2.2.2.1)
       have HS10_ := (hb.cell (World.block_lt_of_cell? _ _ (hHeld.2.2.2.2.2.2.2.2.2.2.1))).trans (hHeld.2.2.2.2.2.2.2.2.2.2.1)
       have HS11_ := (hb.cell (World.block_lt_of_cell? _ _ (hHeld.2.2.2.2.2.2.2.2.2.2.2))).trans (hHeld.2.2.2.2.2.2.2.2.2.2.2)
       refine ⟨_, rfl, ?_⟩
       replace HO_9 := rB HO_9 hb
       have HO563 := Aside0.mk (Kd.R_lower (Kd.R_new' ho0 (Kd.R_lt (ro HO_559001))) (below_size (hbx HB)))
       replace HO_559001 := Aside0.mk (Kd.R_elder' (ro HO_559001) (Kd.R_base ho0) hb)
       have HO566 := Aside0.mk (Kd.R_lower (Kd.R_new' (Kd.R_new' ho1 (Kd.R_lt (ro HO_559002))) (Kd.R_lt (ro HO_559003))) (below_size (hbx HB)))
       have HO569 := Aside0.mk (Kd.R_lower (Kd.R_new' (Kd.R_new' ho2 (Kd.R_lt (ro HO_559002))) (Kd.R_lt (ro HO_559003))) (below_size (hbx HB)))
       replace HO_559002 := Aside0.mk (Kd.R_mono (Kd.R_told (Kd.R_told (Kd.R_old (ro HO_559002) hb) (Kd.R_base ho1)) (Kd.R_base ho2)) (fun _ h_ => h_.1))
       replace HO_559003 := Aside0.mk (Kd.R_mono (Kd.R_told (Kd.R_told (Kd.R_old (ro HO_559003) hb) (Kd.R_base ho1)) (Kd.R_base ho2)) (fun _ h_ => h_.1))
       replace BK558 := bkB BK558 hb
       replace HB := hbS HB hb
       (try clear hb)
       (try clear hb2)
       (try clear hk)
       (try clear hi)
       (try clear ho0)
       (try clear ho1)
       (try clear ho2)
       obtain ⟨Ao56, co56, eo56⟩ := Kd.R_slice HO563.out
       (first | subst eo56 | (injection eo56 with f1_ f2_ f3_; have f4_ := f1_.symm; have f5_ := f3_.symm; clear f1_ f2_ f3_; subst f4_; subst f5_))
       obtain ⟨Ao58, co58, eo58⟩ := Kd.R_slice HO566.out
       (first | subst eo58 | (injection eo58 with f1_ f2_ f3_; have f4_ := f1_.symm; have f5_ := f3_.symm; clear f1_ f2_ f3_; subst f4_; subst f5_))
       obtain ⟨Ao60, co60, eo60⟩ := Kd.R_slice HO569.out
       (first | subst eo60 | (injection eo60 with f1_ f2_ f3_; have f4_ := f1_.symm; have f5_ := f3_.symm; clear f1_ f2_ f3_; subst f4_; subst f5_))
       refine hK.out _ _ ⟨(blk_cell BK558.out 0).trans rfl, (blk_cell BK558.out 1).trans rfl, (blk_cell BK558.out 2).trans rfl, (blk_cell BK558.out 3).trans rfl, (blk_cell BK558.out 4).trans rfl, (blk_cell BK558.out 5).trans rfl, HS6_, HS7_, HS8_, HS9_, HS10_, HS11_⟩ (fun hHeld => ?_)
       clear hK K
       refine nrm (some 85) ?_
       refine pur 8 (some 77) #[true, true, true, true, true, true, true, true, true, false, false, false, false] HT_ ?_
       refine pur 9 (some 86) #[true, true, true, true, true, true, true, true, true, true, false, false, false] HT_ ?_
       refine pur 10 (some 87) #[true, true, true, true, true, true, true, true, true, true, true, false, false] HT_ ?_
       refine last_ (i := 11) (N := none) #[true, true, true, true, true, true, true, true, true, true, true, true, false] rfl rfl (one_of HT_.out (by kernel_rfl)) (by decide) (fun K hK => ?_)
       have hs55 : w54.cell? ⟨gb558, 0, none⟩ = some (.string x559000_3) := (blk_cell BK558.out 0).trans rfl
       have hfs55 := blk_frozen BK558.out 0
       have hs57 : w54.cell? ⟨gb558, 1, none⟩ = some (.slice Ao51 x559001_3.length co51) := (blk_cell BK558.out 1).trans rfl
       have hfs57 := blk_frozen BK558.out 1
       have hs59 : w54.cell? ⟨gb558, 2, none⟩ = some (.slice Ao52 x559002_3.length co52) := (blk_cell BK558.out 2).trans rfl
       have hfs59 := blk_frozen BK558.out 2
       have hs61 : w54.cell? ⟨gb558, 3, none⟩ = some (.slice Ao53 x559003_3.length co53) := (blk_cell BK558.out 3).trans rfl
       have hfs61 := blk_frozen BK558.out 3
       have hs62 : w54.cell? ⟨gb558, 4, none⟩ = some (.int .i64 x559004_3) := (blk_cell BK558.out 4).trans rfl
       have hfs62 := blk_frozen BK558.out 4
       have hs63 : w54.cell? ⟨gb558, 5, none⟩ = some (.int .i64 x559005_3) := (blk_cell BK558.out 5).trans rfl
       have hfs63 := blk_frozen BK558.out 5
       refine skip_ (w1 := ?_) (by rfl) rfl ?_ ?_
       rotate_left
       ·go_simp
        rfl
       refine hK.out _ _ ?_
       clear hK K
       refine pur 12 (some 12) #[true, true, true, true, true, true, true, true, true, true, true, true, true] HT_ ?_
       refine done_ (done_of HT_.out (by kernel_rfl)) ?_
       try go_wp2
       go_roundg k3
       case measure => have := HJ3.out; have := HK2.out; have := HK3.out; omega
       case rel => exact ⟨(t572), (wrap64 (x72_3 + 1)), (t560), (t561), (t564), (t567), (t570), (t571), (.slice Ao56 t561.length co56), (.slice Ao58 t564.length co58), (.slice Ao60 t567.length co60), rfs, rfs, H', ⟨by have := HJ3.out; have := HK2.out; have := HK3.out; omega⟩, ⟨Kd.R_mono (rty (rfo HO_9) BK558) (fun _ hk => trivial)⟩, ⟨Kd.R_mono (rty (rfo HO563) BK558) (fun _ hk => trivial)⟩, ⟨Kd.R_mono (rty (rfo HO566) BK558) (fun _ hk => hk.1.1.1)⟩, ⟨Kd.R_mono (rty (rfo HO569) BK558) (fun _ hk => hk.1.1.1)⟩, bkpA BK558, hbA HB⟩
      ·rw [if_neg c47] at H
       exact absurd H (by simp)
     ·rw [if_neg c46] at H
      exact absurd H (by simp)
    ·rw [if_neg c45] at H
     have c45b0 : (x12_3 == 0) = false := beq_eq_false_iff_ne.mpr c45
     have c45b1 : (x12_3 != 0) = true := bne_iff_ne.mpr c45
     have H' := Aside0.mk H
     clear H
     go_wp2
     go_roundg k3
     case measure => have := HJ3.out; have := HK2.out; have := HK3.out; omega
     case rel => exact ⟨(x12_3), (wrap64 (x72_3 + 1)), (x559000_3), (x559001_3), (x559002_3), (x559003_3), (x559004_3), (x559005_3), (u559001), (u559002), (u559003), rfs, rfs, H', ⟨by have := HJ3.out; have := HK2.out; have := HK3.out; omega⟩, roA HO_9, roA HO_559001, roA HO_559002, roA HO_559003, bkA BK558, hbA HB⟩
   ·rw [if_neg c44] at H
    have c44b0 : decide (x72_3 < ji14) = false := decide_eq_false c44
    clear c44
    have HC64 := Aside0.mk H
    clear H
    go_upto_region 19 with (fail)
    go_cut [99] (fun v99 wc => ∃ (kq : Nat) (x99_63 : Bool), v99 = .bool x99_63 ∧ Aside0 (hopmeshlaw49_InstallAgreed.j3 kq a1 l2 ji14 x9_2 x99_63 x559000_3 x559001_3 x559002_3 x559003_3 x559004_3 x559005_3 = some r) ∧ Aside0 (kq ≤ k3) ∧ Aside0 (Kd.R k28 28 wc w.heap.size (fun _ => True) v528 x9_2) ∧ Aside0 (Kd.R (Kd.int .i64) 3 wc w.heap.size (fun _ => True) u559001 x559001_3) ∧ Aside0 (Kd.R Kd.bool 4 wc w.heap.size (fun k_ => some k_ ≠ (u559003 : Value).ownBlock) u559002 x559002_3) ∧ Aside0 (Kd.R Kd.bool 4 wc w.heap.size (fun k_ => some k_ ≠ (u559002 : Value).ownBlock) u559003 x559003_3) ∧ Aside0 (wc.heap[gb558]? = some (.cells #[.string x559000_3, u559001, u559002, u559003, .int .i64 x559004_3, .int .i64 x559005_3] 50 (0, 0))) ∧ Aside0 (Below w.heap.size w wc))
    case first =>
     have H := HC64.out
     clear HC64
     by_cases c65 : x12_3 = 0
     ·rw [if_pos c65] at H
      have c65b0 : (x12_3 == 0) = true := beq_iff_eq.mpr c65
      have c65b1 : (x12_3 != 0) = false := bne_eq_false_iff_eq.mpr c65
      clear c65
      (first | rw [c65b0] | (simp only [i64_w, i32_w]; rw [c65b0]) | skip)
      replace H := Option.bind_eq_some_iff.mp H
      obtain ⟨t573, A660, H⟩ := H
      (try dsimp only at H)
      have A66 := Aside0.mk A660
      clear A660
      by_cases c67 : t573 = true
      ·subst c67
       rw [if_pos rfl] at H
       replace H := Option.bind_eq_some_iff.mp H
       obtain ⟨t574, A680, H⟩ := H
       (try dsimp only at H)
       have A68 := Aside0.mk A680
       clear A680
       have H' := Aside0.mk H
       clear H
       obtain ⟨z0, z1, z2, z3, z4, z5, y0, y1, y2, y3, y4, y5⟩ := bc6 BK558
       obtain ⟨Ao70, co70, eo70⟩ := Kd.R_slice HO_559001.out
       subst eo70
       obtain ⟨Ao71, co71, eo71⟩ := Kd.R_slice HO_559002.out
       subst eo71
       obtain ⟨Ao72, co72, eo72⟩ := Kd.R_slice HO_559003.out
       subst eo72
       go_wp2_with (first | (go_at_call 20; (with_reducible refine (install_Ready.calls k3 x559000_3 _ _ x559001_3 _ _ x559002_3 _ _ x559003_3 x559004_3 x559005_3 true _ ?side1 ?side2 ?side3 ?side4 ?side5 ?side6 A66.out).mono ?_); (case side1 => repeat (first | exact (Kd.R_reads' HO_559001.out).2.2 | (with_reducible refine Kd.C_alloc ?_ _) | (with_reducible refine Kd.C_drewN ?_ _) | (with_reducible refine Kd.C_drew ?_))); (case side2 => exact (Kd.R_reads' HO_559001.out).2.1); (case side3 => repeat (first | exact (Kd.R_reads' HO_559002.out).2.2 | (with_reducible refine Kd.C_alloc ?_ _) | (with_reducible refine Kd.C_drewN ?_ _) | (with_reducible refine Kd.C_drew ?_))); (case side4 => exact (Kd.R_reads' HO_559002.out).2.1); (case side5 => repeat (first | exact (Kd.R_reads' HO_559003.out).2.2 | (with_reducible refine Kd.C_alloc ?_ _) | (with_reducible refine Kd.C_drewN ?_ _) | (with_reducible refine Kd.C_drew ?_))); (case side6 => exact (Kd.R_reads' HO_559003.out).2.1); rintro e w73 ⟨rfl, hb⟩; replace HO_9 := rB HO_9 hb; replace HO_559001 := rB HO_559001 hb; replace HO_559002 := rB HO_559002 hb; replace HO_559003 := rB HO_559003 hb; replace BK558 := bkB BK558 hb; replace HB := hbS HB hb; (try clear hb); (try clear hb2); (try clear hk); (try clear hi); obtain ⟨z0, z1, z2, z3, z4, z5, y0, y1, y2, y3, y4, y5⟩ := bc6 BK558) | (go_at_call 21; (with_reducible refine (install_Agreed.calls k3 x559000_3 _ _ x559001_3 _ _ x559002_3 _ _ x559003_3 x559004_3 x559005_3 t574 _ ?side1 ?side2 ?side3 ?side4 ?side5 ?side6 A68.out).mono ?_); (case side1 => repeat (first | exact (Kd.R_reads' HO_559001.out).2.2 | (with_reducible refine Kd.C_alloc ?_ _) | (with_reducible refine Kd.C_drewN ?_ _) | (with_reducible refine Kd.C_drew ?_))); (case side2 => exact (Kd.R_reads' HO_559001.out).2.1); (case side3 => repeat (first | exact (Kd.R_reads' HO_559002.out).2.2 | (with_reducible refine Kd.C_alloc ?_ _) | (with_reducible refine Kd.C_drewN ?_ _) | (with_reducible refine Kd.C_drew ?_))); (case side4 => exact (Kd.R_reads' HO_559002.out).2.1); (case side5 => repeat (first | exact (Kd.R_reads' HO_559003.out).2.2 | (with_reducible refine Kd.C_alloc ?_ _) | (with_reducible refine Kd.C_drewN ?_ _) | (with_reducible refine Kd.C_drew ?_))); (case side6 => exact (Kd.R_reads' HO_559003.out).2.1); rintro e w75 ⟨rfl, hb⟩; replace HO_9 := rB HO_9 hb; replace HO_559001 := rB HO_559001 hb; replace HO_559002 := rB HO_559002 hb; replace HO_559003 := rB HO_559003 hb; replace BK558 := bkB BK558 hb; replace HB := hbS HB hb; (try clear hb); (try clear hb2); (try clear hk); (try clear hi)))
       go_meet
       case rel => exact ⟨_, (t574), rfs, H', ⟨by have := HJ3.out; have := HK2.out; have := HK3.out; first | omega | exact Nat.le_refl _⟩, roA HO_9, roA HO_559001, roA HO_559002, roA HO_559003, bkA BK558, hbA HB⟩
      ·replace c67 := Bool.eq_false_iff.mpr c67
       subst c67
       rw [if_neg (show ¬ (false = true) by decide)] at H
       have H' := Aside0.mk H
       clear H
       obtain ⟨z0, z1, z2, z3, z4, z5, y0, y1, y2, y3, y4, y5⟩ := bc6 BK558
       obtain ⟨Ao77, co77, eo77⟩ := Kd.R_slice HO_559001.out
       subst eo77
       obtain ⟨Ao78, co78, eo78⟩ := Kd.R_slice HO_559002.out
       subst eo78
       obtain ⟨Ao79, co79, eo79⟩ := Kd.R_slice HO_559003.out
       subst eo79
       go_wp2_with (first | (go_at_call 20; (with_reducible refine (install_Ready.calls k3 x559000_3 _ _ x559001_3 _ _ x559002_3 _ _ x559003_3 x559004_3 x559005_3 false _ ?side1 ?side2 ?side3 ?side4 ?side5 ?side6 A66.out).mono ?_); (case side1 => repeat (first | exact (Kd.R_reads' HO_559001.out).2.2 | (with_reducible refine Kd.C_alloc ?_ _) | (with_reducible refine Kd.C_drewN ?_ _) | (with_reducible refine Kd.C_drew ?_))); (case side2 => exact (Kd.R_reads' HO_559001.out).2.1); (case side3 => repeat (first | exact (Kd.R_reads' HO_559002.out).2.2 | (with_reducible refine Kd.C_alloc ?_ _) | (with_reducible refine Kd.C_drewN ?_ _) | (with_reducible refine Kd.C_drew ?_))); (case side4 => exact (Kd.R_reads' HO_559002.out).2.1); (case side5 => repeat (first | exact (Kd.R_reads' HO_559003.out).2.2 | (with_reducible refine Kd.C_alloc ?_ _) | (with_reducible refine Kd.C_drewN ?_ _) | (with_reducible refine Kd.C_drew ?_))); (case side6 => exact (Kd.R_reads' HO_559003.out).2.1); rintro e w80 ⟨rfl, hb⟩; replace HO_9 := rB HO_9 hb; replace HO_559001 := rB HO_559001 hb; replace HO_559002 := rB HO_559002 hb; replace HO_559003 := rB HO_559003 hb; replace BK558 := bkB BK558 hb; replace HB := hbS HB hb; (try clear hb); (try clear hb2); (try clear hk); (try clear hi)))
       go_meet
       case rel => exact ⟨_, (true), rfs, H', ⟨by have := HJ3.out; have := HK2.out; have := HK3.out; first | omega | exact Nat.le_refl _⟩, roA HO_9, roA HO_559001, roA HO_559002, roA HO_559003, bkA BK558, hbA HB⟩
     ·rw [if_neg c65] at H
      have c65b0 : (x12_3 == 0) = false := beq_eq_false_iff_ne.mpr c65
      have c65b1 : (x12_3 != 0) = true := bne_iff_ne.mpr c65
      (first | rw [c65b0] | (simp only [i64_w, i32_w]; rw [c65b0]) | skip)
      have H' := Aside0.mk H
      clear H
      go_wp2
      go_meet
      case rel => exact ⟨_, (true), rfs, H', ⟨by have := HJ3.out; have := HK2.out; have := HK3.out; first | omega | exact Nat.le_refl _⟩, roA HO_9, roA HO_559001, roA HO_559002, roA HO_559003, bkA BK558, hbA HB⟩
    case rest =>
     clear HC64
     try clear c2
     try clear c11
     try clear c15
     try clear c15b0
     try clear c15b1
     try clear c16
     try clear c16b0
     try clear c16b1
     try clear c19
     try clear c19b0
     try clear c44
     try clear c44b0
     try clear hcz40_0
     try clear hcz40_1
     try clear hcz40_2
     try clear hcz40_3
     try clear hcz40_4
     try clear hcz40_5
     try clear hfz40_0
     try clear hfz40_1
     try clear hfz40_2
     try clear hfz40_3
     try clear hfz40_4
     try clear hfz40_5
     obtain ⟨kq, x99_63, rfl, HA, HJ63, HO_9, HO_559001, HO_559002, HO_559003, BK558, HB⟩ := hcut
     cases kq with
     | zero => exact absurd HA.out (by simp [hopmeshlaw49_InstallAgreed.j3])
     | succ kj63 =>
      have H := HA.out
      clear HA
      simp only [hopmeshlaw49_InstallAgreed.j3] at H
      by_cases c81 : x99_63 = true
      ·subst c81
       rw [if_pos rfl] at H
       exact absurd H (by simp)
      ·replace c81 := Bool.eq_false_iff.mpr c81
       subst c81
       rw [if_neg (show ¬ (false = true) by decide)] at H
       replace H := Option.bind_eq_some_iff.mp H
       obtain ⟨⟨t575, t576, t579, t582, t585, t586, t587, t588, t589, t590, t591, t594⟩, A820, H⟩ := H
       (try dsimp only at H)
       have A82 := Aside0.mk A820
       clear A820
       by_cases c83 : t594 = 0
       ·rw [if_pos c83] at H
        have c83b0 : (t594 == 0) = true := beq_iff_eq.mpr c83
        have c83b1 : (t594 != 0) = false := bne_eq_false_iff_eq.mpr c83
        clear c83
        replace H := Option.bind_eq_some_iff.mp H
        obtain ⟨t596, A840, H⟩ := H
        (try dsimp only at H)
        have A84 := Aside0.mk A840
        clear A840
        have HC85 := Aside0.mk H
        clear H
        go_upto_region 21 with (fail)
        exact hopmeshlaw49_InstallAgreed.part21 _ _ _ _ _ _ _ _ _ _ _ _ _ _ _ _ _ _ _ _ _ _ _ _ _ _ _ _ _ _ _ _ _ _ _ _ _ _ _ _ _ _ _ _ _ _ _ _ _ _ _ _ _ _ _ _ _ _ _ _ _ _ _ _ _ _ _ _ _ _ _ _ _ _ _ _ _ _ _ _ _ _ _ _ _ _ _ _ _ _ _ _ _ _ _ _ _ _ _ _ _ _ _ _ _ _ _ _ _ _ _ _ _ _ _ _ _ _ _ _ _ _ _ _ _ _ _ _ _ _ _ _ _ _ _ _ _ _ _ _ _ _ _ _ _ _ _ _ _ _ _ _ _ _ _ _ _ _ _ _ _ _ _ _ _ _ _ _ _ _ _ _ _ _ _ _ _ _ _ _ _ _ _ _ _ _ _ _ _ _ _ _ _ _ _ _ _ _ _ _ _ _ _ _ _ _ _ _ _ _ _ _ _ _ _ _ _ _ _ _ _ _ _ _ _ _ _ _ _ _ _ _ _ _ HR2 HC2 HJ3 hji14 hji14w HK2 GE558 z0 z1 z2 z3 z4 z5 y0 y1 y2 y3 y4 y5 HK3 HO_9 HO_559001 HO_559002 HO_559003 BK558 HB HJ63 A82 c83b0 c83b1 A84 HC85 _ _ _ ‹_› (by kernel_rfl)
       ·rw [if_neg c83] at H
        exact absurd H (by simp)
end Go.Proofs.Ytdigplhjfjchnaa.PQ
