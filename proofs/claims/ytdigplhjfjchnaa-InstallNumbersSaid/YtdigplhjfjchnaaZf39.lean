-- Printed by fprint.py and zip.py, programs of this session's, over the kit's print; Lean checks it.
import Derived.Test.YtdigplhjfjchnaaZ0
import Derived.Test.YtdigplhjfjchnaaZf32
import Derived.Test.YtdigplhjfjchnaaZf55
namespace Go.Proofs.Ytdigplhjfjchnaa.PQ
open Go.RowKit Go.Proofs.YtdigplhjfjchnaaW.PrintWords Go.Proofs.YtdigplhjfjchnaaW.PrintLast Go.Proofs.YtdigplhjfjchnaaW.PrintMore
attribute [local go_sem] max2_int min2_int max_two min_two max_three min_three max_four min_four   -- for this text's walks alone
set_option linter.unusedVariables false
set_option linter.unusedSimpArgs false
def install_Withdraw.f (k : Nat) (a0_0 : ByteArray) (l0_1 : List Int) (l0_2 : List Bool) (l0_3 : List Bool) (a0_4 : Int) (a0_5 : Int) : Option (ByteArray × List Int × List Bool × List Bool × Int × Int × Int × Int × Int × ByteArray × List Int × Int) := (install_Valid.f k a0_0 l0_1 l0_2 l0_3 a0_4 a0_5).bind fun t802 => (if t802 = 0 then (if a0_5 = 0 then (some ((⟨#[]⟩ : ByteArray), ([] : List Int), ([] : List Bool), ([] : List Bool), 0, 0, 0, 0, 0, (⟨#[]⟩ : ByteArray), ([] : List Int), 12)) else ((install_order.f a0_0 l0_1 l0_2 l0_3 a0_4 a0_5 2 0).bind fun bt803 => (some (bt803.1, bt803.2.1, bt803.2.2.1, bt803.2.2.2.1, bt803.2.2.2.2.1, bt803.2.2.2.2.2.1, bt803.2.2.2.2.2.2.1, bt803.2.2.2.2.2.2.2.1, bt803.2.2.2.2.2.2.2.2.1, bt803.2.2.2.2.2.2.2.2.2.1, bt803.2.2.2.2.2.2.2.2.2.2.1, bt803.2.2.2.2.2.2.2.2.2.2.2)))) else (some ((⟨#[]⟩ : ByteArray), ([] : List Int), ([] : List Bool), ([] : List Bool), 0, 0, 0, 0, 0, (⟨#[]⟩ : ByteArray), ([] : List Int), 1)))
theorem install_Withdraw.mono : ∀ a0 a1 a2 a3 a4 a5 k, LeO (install_Withdraw.f k a0 a1 a2 a3 a4 a5) (install_Withdraw.f (k + 1) a0 a1 a2 a3 a4 a5) := by
 intro a0 a1 a2 a3 a4 a5 k
 unfold install_Withdraw.f
 repeat' first
  | (with_reducible exact install_Valid.mono _ _ _ _ _ _ _)
  | (with_reducible exact LeO.refl _)
  | (with_reducible exact LeO.none _)
  | (with_reducible refine LeO.ite ?_ ?_)
  | (with_reducible refine LeO.bind ?_ (fun _ => ?_))
  | exact install_Valid.mono _ _ _ _ _ _ _
  | exact LeO.none _
  | refine LeO.ite ?_ ?_
  | refine LeO.bind ?_ (fun _ => ?_)
set_option maxHeartbeats 8000000 in
set_option maxRecDepth 100000 in
theorem install_Withdraw.calls (k : Nat) (a0_0 : ByteArray) (A0_1 : Option Addr) (c0_1 : Nat) (l0_1 : List Int) (A0_2 : Option Addr) (c0_2 : Nat) (l0_2 : List Bool) (A0_3 : Option Addr) (c0_3 : Nat) (l0_3 : List Bool) (a0_4 : Int) (a0_5 : Int) (r1 : ByteArray) (r2 : List Int) (r3 : List Bool) (r4 : List Bool) (r5 : Int) (r6 : Int) (r7 : Int) (r8 : Int) (r9 : Int) (r10 : ByteArray) (r11 : List Int) (r12 : Int) (w : World) (hr0_1 : Kd.C (Kd.int .i64) w A0_1 l0_1.length l0_1) (hc0_1 : l0_1.length ≤ c0_1) (hr0_2 : Kd.C Kd.bool w A0_2 l0_2.length l0_2) (hc0_2 : l0_2.length ≤ c0_2) (hr0_3 : Kd.C Kd.bool w A0_3 l0_3.length l0_3) (hc0_3 : l0_3.length ≤ c0_3) (h : install_Withdraw.f k a0_0 l0_1 l0_2 l0_3 a0_4 a0_5 = some (r1, r2, r3, r4, r5, r6, r7, r8, r9, r10, r11, r12)) :
 Calls Try.prog 39 #[.agg #[.string a0_0, .slice A0_1 l0_1.length c0_1, .slice A0_2 l0_2.length c0_2, .slice A0_3 l0_3.length c0_3, .int .i64 a0_4, .int .i64 a0_5]] w fun e w' => ∃ v1_ v2_ v3_ v10_ : Value, e = .returned (.tuple #[.agg #[.string r1, v1_, v2_, v3_, .int .i64 r5, .int .i64 r6], .agg #[.int .i64 r7, .int .i64 r8, .int .i64 r9, .string r10, v10_], .int .i64 r12]) ∧ Kd.R (Kd.int .i64) 3 w' w.heap.size (fun k_ => some k_ ≠ (v10_ : Value).ownBlock) v1_ r2 ∧ Kd.R Kd.bool 4 w' w.heap.size (fun k_ => some k_ ≠ (v3_ : Value).ownBlock) v2_ r3 ∧ Kd.R Kd.bool 4 w' w.heap.size (fun k_ => some k_ ≠ (v2_ : Value).ownBlock) v3_ r4 ∧ Kd.R (Kd.int .i64) 3 w' w.heap.size (fun k_ => some k_ ≠ (v1_ : Value).ownBlock) v10_ r11 ∧ Below w.heap.size w w' := by
 have hu50 := Try.underlying50
 have hu36 := Try.underlying36
 have HR0_1 := Aside0.mk hr0_1
 have HC0_1 := Aside0.mk hc0_1
 clear hr0_1 hc0_1
 have HR0_2 := Aside0.mk hr0_2
 have HC0_2 := Aside0.mk hc0_2
 clear hr0_2 hc0_2
 have HR0_3 := Aside0.mk hr0_3
 have HC0_3 := Aside0.mk hc0_3
 clear hr0_3 hc0_3
 have HB := Aside0.mk (Below.refl w.heap.size w)
 have H : ((install_Valid.f k a0_0 l0_1 l0_2 l0_3 a0_4 a0_5).bind fun t802 => (if t802 = 0 then (if a0_5 = 0 then (some ((⟨#[]⟩ : ByteArray), ([] : List Int), ([] : List Bool), ([] : List Bool), 0, 0, 0, 0, 0, (⟨#[]⟩ : ByteArray), ([] : List Int), 12)) else ((install_order.f a0_0 l0_1 l0_2 l0_3 a0_4 a0_5 2 0).bind fun bt803 => (some (bt803.1, bt803.2.1, bt803.2.2.1, bt803.2.2.2.1, bt803.2.2.2.2.1, bt803.2.2.2.2.2.1, bt803.2.2.2.2.2.2.1, bt803.2.2.2.2.2.2.2.1, bt803.2.2.2.2.2.2.2.2.1, bt803.2.2.2.2.2.2.2.2.2.1, bt803.2.2.2.2.2.2.2.2.2.2.1, bt803.2.2.2.2.2.2.2.2.2.2.2)))) else (some ((⟨#[]⟩ : ByteArray), ([] : List Int), ([] : List Bool), ([] : List Bool), 0, 0, 0, 0, 0, (⟨#[]⟩ : ByteArray), ([] : List Int), 1)))) = some (r1, r2, r3, r4, r5, r6, r7, r8, r9, r10, r11, r12) := h
 clear h
 replace H := Option.bind_eq_some_iff.mp H
 obtain ⟨t802, A20, H⟩ := H
 (try dsimp only at H)
 have A2 := Aside0.mk A20
 clear A20
 by_cases c3 : t802 = 0
 ·rw [if_pos c3] at H
  have c3b0 : (t802 == 0) = true := beq_iff_eq.mpr c3
  have c3b1 : (t802 != 0) = false := bne_eq_false_iff_eq.mpr c3
  clear c3
  by_cases c4 : a0_5 = 0
  ·rw [if_pos c4] at H
   have c4b0 : (a0_5 == 0) = true := beq_iff_eq.mpr c4
   have c4b1 : (a0_5 != 0) = false := bne_eq_false_iff_eq.mpr c4
   clear c4
   simp only [Option.some.injEq, Prod.mk.injEq] at H
   obtain ⟨rfl, rfl, rfl, rfl, rfl, rfl, rfl, rfl, rfl, rfl, rfl, rfl⟩ := H
   go_enter Try.func39, Try.ntmps39
   go_wp2_with (first | ((with_reducible refine gate_dst (N := 1) rfl ?_); refine boxE 1 #[.string a0_0, .slice A0_1 l0_1.length c0_1, .slice A0_2 l0_2.length c0_2, .slice A0_3 l0_3.length c0_3, .int .i64 a0_4, .int .i64 a0_5] 50 ?_; intro gb799 hg w5 hbox hb; have BK799 := Aside0.mk (hbox); have GW799 := gw hg HB; have GE799 := gw hg HB; replace HB := hbS HB hb; clear hb hbox hg) | ((with_reducible refine gate_dst (N := 2) rfl ?_); refine boxE 2 #[.string (⟨#[]⟩ : ByteArray), .slice none 0 0, .slice none 0 0, .slice none 0 0, .int .i64 0, .int .i64 0] 50 ?_; intro gb800 hg w6 hbox hb; have BK800 := Aside0.mk (hbox); have GW800 := gw hg HB; have GE800 := gw hg HB; replace HB := hbS HB hb; have NB799_800 := nbl hg BK799; have NB800_799 := nbg hg BK799; replace BK799 := bkB BK799 hb; clear hb hbox hg) | ((with_reducible refine gate_dst (N := 3) rfl ?_); refine boxE 3 #[.int .i64 0, .int .i64 0, .int .i64 0, .string (⟨#[]⟩ : ByteArray), .slice none 0 0] 36 ?_; intro gb801 hg w7 hbox hb; have BK801 := Aside0.mk (hbox); have GW801 := gw hg HB; have GE801 := gw hg HB; replace HB := hbS HB hb; have NB799_801 := nbl hg BK799; have NB801_799 := nbg hg BK799; replace BK799 := bkB BK799 hb; have NB800_801 := nbl hg BK800; have NB801_800 := nbg hg BK800; replace BK800 := bkB BK800 hb; clear hb hbox hg; have hnb8 := NB799_800.out; have hnc8 := NB800_799.out; have hnb9 := NB799_801.out; have hnc9 := NB801_799.out; obtain ⟨z0, z1, z2, z3, z4, z5, y0, y1, y2, y3, y4, y5⟩ := bc6 BK799) | ((with_reducible refine gate_callee (f := 32) rfl ?_); refine goesL_ (some 7) rfl rfl Try.func32 (by kernel_rfl) rfl #[.agg #[.string a0_0, .slice A0_1 l0_1.length c0_1, .slice A0_2 l0_2.length c0_2, .slice A0_3 l0_3.length c0_3, .int .i64 a0_4, .int .i64 a0_5]] rfl sma ?_; (with_reducible refine (install_Valid.calls k a0_0 _ _ l0_1 _ _ l0_2 _ _ l0_3 a0_4 a0_5 t802 _ (cb HR0_1 HB) HC0_1.out (cb HR0_2 HB) HC0_2.out (cb HR0_3 HB) HC0_3.out A2.out).mono ?_); rintro e w11 ⟨rfl, hb⟩; refine ⟨_, rfl, ?_⟩; replace BK799 := bkB BK799 hb; replace BK800 := bkB BK800 hb; replace BK801 := bkB BK801 hb; replace HB := hbS HB hb; (try clear hb); (try clear hb2); (try clear hk); (try clear hi); obtain ⟨z0, z1, z2, z3, z4, z5, y0, y1, y2, y3, y4, y5⟩ := bc6 BK799; have hnb13 := NB800_801.out; have hnc13 := NB801_800.out; obtain ⟨z0, z1, z2, z3, z4, z5, y0, y1, y2, y3, y4, y5⟩ := bc6 BK800; obtain ⟨z0, z1, z2, z3, z4, y0, y1, y2, y3, y4⟩ := bc5 BK801))
   refine bodyPost_ret (results_list (rs := [.cell 2 50, .cell 3 36, .tmp 4]) rfl (by simp) (.cell gb800 50 #[.string (⟨#[]⟩ : ByteArray), .slice none 0 0, .slice none 0 0, .slice none 0 0, .int .i64 0, .int .i64 0] (0, 0) _ rfl (bkp BK800) Try.underlying50 rfl (by kernel_rfl) (.cell gb801 36 #[.int .i64 0, .int .i64 0, .int .i64 0, .string (⟨#[]⟩ : ByteArray), .slice none 0 0] (0, 0) _ rfl (bkp BK801) Try.underlying36 rfl (by kernel_rfl) (.tmp .nil)))) rfl ?_
   exact ⟨_, _, _, _, rerr, rnil, rnil, rnil, rnil, hbx HB⟩
  ·rw [if_neg c4] at H
   have c4b0 : (a0_5 == 0) = false := beq_eq_false_iff_ne.mpr c4
   have c4b1 : (a0_5 != 0) = true := bne_iff_ne.mpr c4
   replace H := Option.bind_eq_some_iff.mp H
   obtain ⟨⟨t803, t804, t807, t810, t813, t814, t815, t816, t817, t818, t819, t822⟩, A160, H⟩ := H
   (try dsimp only at H)
   have A16 := Aside0.mk A160
   clear A160
   simp only [Option.some.injEq, Prod.mk.injEq] at H
   obtain ⟨rfl, rfl, rfl, rfl, rfl, rfl, rfl, rfl, rfl, rfl, rfl, rfl⟩ := H
   go_enter Try.func39, Try.ntmps39
   go_wp2_with (first | ((with_reducible refine gate_dst (N := 1) rfl ?_); refine boxE 1 #[.string a0_0, .slice A0_1 l0_1.length c0_1, .slice A0_2 l0_2.length c0_2, .slice A0_3 l0_3.length c0_3, .int .i64 a0_4, .int .i64 a0_5] 50 ?_; intro gb799 hg w17 hbox hb; have BK799 := Aside0.mk (hbox); have GW799 := gw hg HB; have GE799 := gw hg HB; replace HB := hbS HB hb; clear hb hbox hg) | ((with_reducible refine gate_dst (N := 2) rfl ?_); refine boxE 2 #[.string (⟨#[]⟩ : ByteArray), .slice none 0 0, .slice none 0 0, .slice none 0 0, .int .i64 0, .int .i64 0] 50 ?_; intro gb800 hg w18 hbox hb; have BK800 := Aside0.mk (hbox); have GW800 := gw hg HB; have GE800 := gw hg HB; replace HB := hbS HB hb; have NB799_800 := nbl hg BK799; have NB800_799 := nbg hg BK799; replace BK799 := bkB BK799 hb; clear hb hbox hg) | ((with_reducible refine gate_dst (N := 3) rfl ?_); refine boxE 3 #[.int .i64 0, .int .i64 0, .int .i64 0, .string (⟨#[]⟩ : ByteArray), .slice none 0 0] 36 ?_; intro gb801 hg w19 hbox hb; have BK801 := Aside0.mk (hbox); have GW801 := gw hg HB; have GE801 := gw hg HB; replace HB := hbS HB hb; have NB799_801 := nbl hg BK799; have NB801_799 := nbg hg BK799; replace BK799 := bkB BK799 hb; have NB800_801 := nbl hg BK800; have NB801_800 := nbg hg BK800; replace BK800 := bkB BK800 hb; clear hb hbox hg; have hnb20 := NB799_800.out; have hnc20 := NB800_799.out; have hnb21 := NB799_801.out; have hnc21 := NB801_799.out; obtain ⟨z0, z1, z2, z3, z4, z5, y0, y1, y2, y3, y4, y5⟩ := bc6 BK799) | ((with_reducible refine gate_callee (f := 32) rfl ?_); refine goesL_ (some 7) rfl rfl Try.func32 (by kernel_rfl) rfl #[.agg #[.string a0_0, .slice A0_1 l0_1.length c0_1, .slice A0_2 l0_2.length c0_2, .slice A0_3 l0_3.length c0_3, .int .i64 a0_4, .int .i64 a0_5]] rfl sma ?_; (with_reducible refine (install_Valid.calls k a0_0 _ _ l0_1 _ _ l0_2 _ _ l0_3 a0_4 a0_5 t802 _ (cb HR0_1 HB) HC0_1.out (cb HR0_2 HB) HC0_2.out (cb HR0_3 HB) HC0_3.out A2.out).mono ?_); rintro e w23 ⟨rfl, hb⟩; refine ⟨_, rfl, ?_⟩; replace BK799 := bkB BK799 hb; replace BK800 := bkB BK800 hb; replace BK801 := bkB BK801 hb; replace HB := hbS HB hb; (try clear hb); (try clear hb2); (try clear hk); (try clear hi); obtain ⟨z0, z1, z2, z3, z4, z5, y0, y1, y2, y3, y4, y5⟩ := bc6 BK799) | ((with_reducible refine gate_callee (f := 55) rfl ?_); refine goesL_ (some 18) rfl rfl Try.func55 (by kernel_rfl) rfl #[.agg #[.string a0_0, .slice A0_1 l0_1.length c0_1, .slice A0_2 l0_2.length c0_2, .slice A0_3 l0_3.length c0_3, .int .i64 a0_4, .int .i64 a0_5], .int .i64 2, .int .i64 0] rfl sma ?_; (with_reducible refine (install_order.calls a0_0 _ _ l0_1 _ _ l0_2 _ _ l0_3 a0_4 a0_5 2 0 t803 t804 t807 t810 t813 t814 t815 t816 t817 t818 t819 t822 _ (cb HR0_1 HB) HC0_1.out (cb HR0_2 HB) HC0_2.out (cb HR0_3 HB) HC0_3.out A16.out).mono ?_); rintro e w25 ⟨v805, v808, v811, v820, rfl, ho0, ho1, ho2, ho3, hb⟩; refine ⟨_, rfl, ?_⟩; have HO806 := Aside0.mk (Kd.R_lower ho0 (below_size (hbx HB))); have HO809 := Aside0.mk (Kd.R_lower ho1 (below_size (hbx HB))); have HO812 := Aside0.mk (Kd.R_lower ho2 (below_size (hbx HB))); have HO821 := Aside0.mk (Kd.R_lower ho3 (below_size (hbx HB))); replace BK799 := bkB BK799 hb; replace BK800 := bkB BK800 hb; replace BK801 := bkB BK801 hb; replace HB := hbS HB hb; (try clear hb); (try clear hb2); (try clear hk); (try clear hi); (try clear ho0); (try clear ho1); (try clear ho2); (try clear ho3); have hnb26 := NB800_801.out; have hnc26 := NB801_800.out; obtain ⟨z0, z1, z2, z3, z4, z5, y0, y1, y2, y3, y4, y5⟩ := bc6 BK800; obtain ⟨Ao28, co28, eo28⟩ := Kd.R_slice HO806.out; subst eo28; obtain ⟨Ao29, co29, eo29⟩ := Kd.R_slice HO809.out; subst eo29; obtain ⟨Ao30, co30, eo30⟩ := Kd.R_slice HO812.out; subst eo30; obtain ⟨z0, z1, z2, z3, z4, y0, y1, y2, y3, y4⟩ := bc5 BK801; obtain ⟨Ao32, co32, eo32⟩ := Kd.R_slice HO821.out; subst eo32))
   refine bodyPost_ret (results_list (rs := [.cell 2 50, .cell 3 36, .tmp 4]) rfl (by simp) (.cell gb800 50 #[.string t803, .slice Ao28 t804.length co28, .slice Ao29 t807.length co29, .slice Ao30 t810.length co30, .int .i64 t813, .int .i64 t814] (0, 0) _ rfl (bkp BK800) Try.underlying50 rfl (by kernel_rfl) (.cell gb801 36 #[.int .i64 t815, .int .i64 t816, .int .i64 t817, .string t818, .slice Ao32 t819.length co32] (0, 0) _ rfl (bkp BK801) Try.underlying36 rfl (by kernel_rfl) (.tmp .nil)))) rfl ?_
   exact ⟨_, _, _, _, rerr, rfo HO806, rfo HO809, rfo HO812, rfo HO821, hbx HB⟩
 ·rw [if_neg c3] at H
  have c3b0 : (t802 == 0) = false := beq_eq_false_iff_ne.mpr c3
  have c3b1 : (t802 != 0) = true := bne_iff_ne.mpr c3
  simp only [Option.some.injEq, Prod.mk.injEq] at H
  obtain ⟨rfl, rfl, rfl, rfl, rfl, rfl, rfl, rfl, rfl, rfl, rfl, rfl⟩ := H
  go_enter Try.func39, Try.ntmps39
  go_wp2_with (first | ((with_reducible refine gate_dst (N := 1) rfl ?_); refine boxE 1 #[.string a0_0, .slice A0_1 l0_1.length c0_1, .slice A0_2 l0_2.length c0_2, .slice A0_3 l0_3.length c0_3, .int .i64 a0_4, .int .i64 a0_5] 50 ?_; intro gb799 hg w33 hbox hb; have BK799 := Aside0.mk (hbox); have GW799 := gw hg HB; have GE799 := gw hg HB; replace HB := hbS HB hb; clear hb hbox hg) | ((with_reducible refine gate_dst (N := 2) rfl ?_); refine boxE 2 #[.string (⟨#[]⟩ : ByteArray), .slice none 0 0, .slice none 0 0, .slice none 0 0, .int .i64 0, .int .i64 0] 50 ?_; intro gb800 hg w34 hbox hb; have BK800 := Aside0.mk (hbox); have GW800 := gw hg HB; have GE800 := gw hg HB; replace HB := hbS HB hb; have NB799_800 := nbl hg BK799; have NB800_799 := nbg hg BK799; replace BK799 := bkB BK799 hb; clear hb hbox hg) | ((with_reducible refine gate_dst (N := 3) rfl ?_); refine boxE 3 #[.int .i64 0, .int .i64 0, .int .i64 0, .string (⟨#[]⟩ : ByteArray), .slice none 0 0] 36 ?_; intro gb801 hg w35 hbox hb; have BK801 := Aside0.mk (hbox); have GW801 := gw hg HB; have GE801 := gw hg HB; replace HB := hbS HB hb; have NB799_801 := nbl hg BK799; have NB801_799 := nbg hg BK799; replace BK799 := bkB BK799 hb; have NB800_801 := nbl hg BK800; have NB801_800 := nbg hg BK800; replace BK800 := bkB BK800 hb; clear hb hbox hg; have hnb36 := NB799_800.out; have hnc36 := NB800_799.out; have hnb37 := NB799_801.out; have hnc37 := NB801_799.out; obtain ⟨z0, z1, z2, z3, z4, z5, y0, y1, y2, y3, y4, y5⟩ := bc6 BK799) | ((with_reducible refine gate_callee (f := 32) rfl ?_); refine goesL_ (some 7) rfl rfl Try.func32 (by kernel_rfl) rfl #[.agg #[.string a0_0, .slice A0_1 l0_1.length c0_1, .slice A0_2 l0_2.length c0_2, .slice A0_3 l0_3.length c0_3, .int .i64 a0_4, .int .i64 a0_5]] rfl sma ?_; (with_reducible refine (install_Valid.calls k a0_0 _ _ l0_1 _ _ l0_2 _ _ l0_3 a0_4 a0_5 t802 _ (cb HR0_1 HB) HC0_1.out (cb HR0_2 HB) HC0_2.out (cb HR0_3 HB) HC0_3.out A2.out).mono ?_); rintro e w39 ⟨rfl, hb⟩; refine ⟨_, rfl, ?_⟩; replace BK799 := bkB BK799 hb; replace BK800 := bkB BK800 hb; replace BK801 := bkB BK801 hb; replace HB := hbS HB hb; (try clear hb); (try clear hb2); (try clear hk); (try clear hi); have hnb40 := NB800_801.out; have hnc40 := NB801_800.out; obtain ⟨z0, z1, z2, z3, z4, z5, y0, y1, y2, y3, y4, y5⟩ := bc6 BK800; obtain ⟨z0, z1, z2, z3, z4, y0, y1, y2, y3, y4⟩ := bc5 BK801))
  refine bodyPost_ret (results_list (rs := [.cell 2 50, .cell 3 36, .tmp 4]) rfl (by simp) (.cell gb800 50 #[.string (⟨#[]⟩ : ByteArray), .slice none 0 0, .slice none 0 0, .slice none 0 0, .int .i64 0, .int .i64 0] (0, 0) _ rfl (bkp BK800) Try.underlying50 rfl (by kernel_rfl) (.cell gb801 36 #[.int .i64 0, .int .i64 0, .int .i64 0, .string (⟨#[]⟩ : ByteArray), .slice none 0 0] (0, 0) _ rfl (bkp BK801) Try.underlying36 rfl (by kernel_rfl) (.tmp .nil)))) rfl ?_
  exact ⟨_, _, _, _, rerr, rnil, rnil, rnil, rnil, hbx HB⟩
end Go.Proofs.Ytdigplhjfjchnaa.PQ
