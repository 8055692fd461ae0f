-- Printed by fprint.py and zip.py, programs of this session's, over the kit's print; Lean checks it.
import Derived.Test.YtdigplhjfjchnaaZ0
import Derived.Test.YtdigplhjfjchnaaZf42
import Derived.Test.YtdigplhjfjchnaaZf16
import Derived.Test.YtdigplhjfjchnaaZf43
namespace Go.Proofs.Ytdigplhjfjchnaa.PQ
open Go.RowKit Go.Proofs.YtdigplhjfjchnaaW.PrintWords Go.Proofs.YtdigplhjfjchnaaW.PrintLast Go.Proofs.YtdigplhjfjchnaaW.PrintMore
attribute [local go_sem] max2_int min2_int max_two min_two max_three min_three max_four min_four   -- for this text's walks alone
set_option linter.unusedVariables false
set_option linter.unusedSimpArgs false
def install_Complete.j0 : Nat → ByteArray → Bool → ByteArray → ByteArray → Bool → ByteArray → Int → Int → Option (ByteArray × ByteArray × Bool × ByteArray × Int × Int × Int)
 | 0, _, _, _, _, _, _, _, _ => none
 | k + 1, x1, x13, x109000, x109001, x109002, x109003, x109004, x109005 => if x13 = true then (some ((⟨#[]⟩ : ByteArray), (⟨#[]⟩ : ByteArray), false, (⟨#[]⟩ : ByteArray), 0, 0, 1)) else (if x109002 = true then (if x109003.toList = x1.toList then (some (x109000, x1, x109002, x109003, x109004, x109005, 0)) else ((install_disarm.f x109000 x1 x109002 x109003 x109004 x109005).bind fun bt112 => (some (bt112.1, bt112.2.1, bt112.2.2.1, bt112.2.2.2.1, bt112.2.2.2.2.1, bt112.2.2.2.2.2, 0)))) else (some (x109000, x1, x109002, x109003, x109004, x109005, 0)))
def install_Complete.f (k : Nat) (a0_0 : ByteArray) (a0_1 : ByteArray) (a0_2 : Bool) (a0_3 : ByteArray) (a0_4 : Int) (a0_5 : Int) (a1 : ByteArray) : Option (ByteArray × ByteArray × Bool × ByteArray × Int × Int × Int) := (install_Check.f k a0_0 a0_1 a0_2 a0_3 a0_4 a0_5).bind fun t110 => (if t110 = 0 then ((install_identifier.f a1).bind fun t111 => (install_Complete.j0 k a1 (!t111) a0_0 a0_1 a0_2 a0_3 a0_4 a0_5)) else (install_Complete.j0 k a1 true a0_0 a0_1 a0_2 a0_3 a0_4 a0_5))
theorem install_Complete.mono_l : ∀ k, (∀ y0 y1 y2 y3 y4 y5 y6 y7, LeO (install_Complete.j0 k y0 y1 y2 y3 y4 y5 y6 y7) (install_Complete.j0 (k + 1) y0 y1 y2 y3 y4 y5 y6 y7))
 | 0 => fun _ _ _ _ _ _ _ _ r h => by simp [install_Complete.j0] at h
 | k + 1 => by
  have ih0 := install_Complete.mono_l k
  ·intro y0 y1 y2 y3 y4 y5 y6 y7
   unfold install_Complete.j0
   repeat' first
   | (with_reducible exact ih0 _ _ _ _ _ _ _ _)
   | (with_reducible exact install_Check.mono _ _ _ _ _ _ _)
   | (with_reducible exact LeO.refl _)
   | (with_reducible exact LeO.none _)
   | (with_reducible refine LeO.ite ?_ ?_)
   | (with_reducible refine LeO.bind ?_ (fun _ => ?_))
   | exact ih0 _ _ _ _ _ _ _ _
   | exact install_Check.mono _ _ _ _ _ _ _
   | exact LeO.none _
   | refine LeO.ite ?_ ?_
   | refine LeO.bind ?_ (fun _ => ?_)
theorem install_Complete.mono : ∀ a0 a1 a2 a3 a4 a5 a6 k, LeO (install_Complete.f k a0 a1 a2 a3 a4 a5 a6) (install_Complete.f (k + 1) a0 a1 a2 a3 a4 a5 a6) := by
 intro a0 a1 a2 a3 a4 a5 a6 k
 have ih0 := install_Complete.mono_l k
 unfold install_Complete.f
 repeat' first
  | (with_reducible exact ih0 _ _ _ _ _ _ _ _)
  | (with_reducible exact install_Check.mono _ _ _ _ _ _ _)
  | (with_reducible exact LeO.refl _)
  | (with_reducible exact LeO.none _)
  | (with_reducible refine LeO.ite ?_ ?_)
  | (with_reducible refine LeO.bind ?_ (fun _ => ?_))
  | exact ih0 _ _ _ _ _ _ _ _
  | exact install_Check.mono _ _ _ _ _ _ _
  | exact LeO.none _
  | refine LeO.ite ?_ ?_
  | refine LeO.bind ?_ (fun _ => ?_)
set_option maxHeartbeats 8000000 in
set_option maxRecDepth 100000 in
theorem install_Complete.calls (k : Nat) (a0_0 : ByteArray) (a0_1 : ByteArray) (a0_2 : Bool) (a0_3 : ByteArray) (a0_4 : Int) (a0_5 : Int) (a1 : ByteArray) (r1 : ByteArray) (r2 : ByteArray) (r3 : Bool) (r4 : ByteArray) (r5 : Int) (r6 : Int) (r7 : Int) (w : World) (h : install_Complete.f k a0_0 a0_1 a0_2 a0_3 a0_4 a0_5 a1 = some (r1, r2, r3, r4, r5, r6, r7)) :
 Calls Try.prog 12 #[.agg #[.string a0_0, .string a0_1, .bool a0_2, .string a0_3, .int .i64 a0_4, .int .i64 a0_5], .string a1] w fun e w' => e = .returned (.tuple #[.agg #[.string r1, .string r2, .bool r3, .string r4, .int .i64 r5, .int .i64 r6], .int .i64 r7]) ∧ Below w.heap.size w w' := by
 have hu28 := Try.underlying28
 have HB := Aside0.mk (Below.refl w.heap.size w)
 have H : ((install_Check.f k a0_0 a0_1 a0_2 a0_3 a0_4 a0_5).bind fun t110 => (if t110 = 0 then ((install_identifier.f a1).bind fun t111 => (install_Complete.j0 k a1 (!t111) a0_0 a0_1 a0_2 a0_3 a0_4 a0_5)) else (install_Complete.j0 k a1 true a0_0 a0_1 a0_2 a0_3 a0_4 a0_5))) = some (r1, r2, r3, r4, r5, r6, r7) := h
 clear h
 have HC3 := Aside0.mk H
 clear H
 go_enter Try.func12, Try.ntmps12
 go_upto_region 1 with (first | ((with_reducible refine gate_dst (N := 2) rfl ?_); refine boxE 2 #[.string a0_0, .string a0_1, .bool a0_2, .string a0_3, .int .i64 a0_4, .int .i64 a0_5] 28 ?_; intro gb108 hg w4 hbox hb; have BK108 := Aside0.mk (hbox); have GW108 := gw hg HB; have GE108 := gw hg HB; replace HB := hbS HB hb; clear hb hbox hg) | ((with_reducible refine gate_dst (N := 4) rfl ?_); refine boxE 4 #[.string (⟨#[]⟩ : ByteArray), .string (⟨#[]⟩ : ByteArray), .bool false, .string (⟨#[]⟩ : ByteArray), .int .i64 0, .int .i64 0] 28 ?_; intro gb109 hg w5 hbox hb; have BK109 := Aside0.mk (hbox); have GW109 := gw hg HB; have GE109 := gw hg HB; replace HB := hbS HB hb; have NB108_109 := nbl hg BK108; have NB109_108 := nbg hg BK108; replace BK108 := bkB BK108 hb; clear hb hbox hg))
 (try simp only [Act.put, List.setIfInBounds_toArray, List.set_cons_zero, List.set_cons_succ])
 go_cut [13] (fun v13 wc => ∃ (kq : Nat) (x13_2 : Bool), v13 = .bool x13_2 ∧ Aside0 (install_Complete.j0 kq a1 x13_2 a0_0 a0_1 a0_2 a0_3 a0_4 a0_5 = some (r1, r2, r3, r4, r5, r6, r7)) ∧ Aside0 (kq ≤ k) ∧ Aside0 (wc.heap[gb108]? = some (.cells #[.string a0_0, .string a0_1, .bool a0_2, .string a0_3, .int .i64 a0_4, .int .i64 a0_5] 28 (0, 0))) ∧ Aside0 (wc.heap[gb109]? = some (.cells #[.string (⟨#[]⟩ : ByteArray), .string (⟨#[]⟩ : ByteArray), .bool false, .string (⟨#[]⟩ : ByteArray), .int .i64 0, .int .i64 0] 28 (0, 0))) ∧ Aside0 (Below w.heap.size w wc))
 case first =>
  have H := HC3.out
  clear HC3
  replace H := Option.bind_eq_some_iff.mp H
  obtain ⟨t110, A60, H⟩ := H
  (try dsimp only at H)
  have A6 := Aside0.mk A60
  clear A60
  by_cases c7 : t110 = 0
  ·rw [if_pos c7] at H
   have c7b0 : (t110 == 0) = true := beq_iff_eq.mpr c7
   have c7b1 : (t110 != 0) = false := bne_eq_false_iff_eq.mpr c7
   clear c7
   (first | rw [c7b0] | (simp only [i64_w, i32_w]; rw [c7b0]) | skip)
   replace H := Option.bind_eq_some_iff.mp H
   obtain ⟨t111, A80, H⟩ := H
   (try dsimp only at H)
   have A8 := Aside0.mk A80
   clear A80
   have H' := Aside0.mk H
   clear H
   have hnb9 := NB108_109.out
   have hnc9 := NB109_108.out
   obtain ⟨z0, z1, z2, z3, z4, z5, y0, y1, y2, y3, y4, y5⟩ := bc6 BK108
   go_wp2_with (first | ((with_reducible refine gate_callee (f := 16) rfl ?_); refine goesL_ (some 7) rfl rfl Try.func16 (by kernel_rfl) rfl #[.agg #[.string a0_0, .string a0_1, .bool a0_2, .string a0_3, .int .i64 a0_4, .int .i64 a0_5]] rfl sma ?_; (with_reducible refine (install_Check.calls k a0_0 a0_1 a0_2 a0_3 a0_4 a0_5 t110 _ A6.out).mono ?_); rintro e w11 ⟨rfl, hb⟩; refine ⟨_, rfl, ?_⟩; replace BK108 := bkB BK108 hb; replace BK109 := bkB BK109 hb; replace HB := hbS HB hb; (try clear hb); (try clear hb2); (try clear hk); (try clear hi)) | (go_at_call 42; (with_reducible refine (install_identifier.calls a1 t111 _ A8.out).mono ?_); rintro e w' ⟨rfl, ⟨nd, rfl⟩⟩))
   go_meet
   case rel => exact ⟨_, (!t111), rfs, H', kle, bkA BK108, bkA BK109, hbA HB⟩
  ·rw [if_neg c7] at H
   have c7b0 : (t110 == 0) = false := beq_eq_false_iff_ne.mpr c7
   have c7b1 : (t110 != 0) = true := bne_iff_ne.mpr c7
   (first | rw [c7b0] | (simp only [i64_w, i32_w]; rw [c7b0]) | skip)
   have H' := Aside0.mk H
   clear H
   have hnb12 := NB108_109.out
   have hnc12 := NB109_108.out
   obtain ⟨z0, z1, z2, z3, z4, z5, y0, y1, y2, y3, y4, y5⟩ := bc6 BK108
   go_wp2_with (first | ((with_reducible refine gate_callee (f := 16) rfl ?_); refine goesL_ (some 7) rfl rfl Try.func16 (by kernel_rfl) rfl #[.agg #[.string a0_0, .string a0_1, .bool a0_2, .string a0_3, .int .i64 a0_4, .int .i64 a0_5]] rfl sma ?_; (with_reducible refine (install_Check.calls k a0_0 a0_1 a0_2 a0_3 a0_4 a0_5 t110 _ A6.out).mono ?_); rintro e w14 ⟨rfl, hb⟩; refine ⟨_, rfl, ?_⟩; replace BK108 := bkB BK108 hb; replace BK109 := bkB BK109 hb; replace HB := hbS HB hb; (try clear hb); (try clear hb2); (try clear hk); (try clear hi)))
   go_meet
   case rel => exact ⟨_, (true), rfs, H', kle, bkA BK108, bkA BK109, hbA HB⟩
 case rest =>
  clear HC3
  obtain ⟨kq, x13_2, rfl, HA, HJ2, BK108, BK109, HB⟩ := hcut
  cases kq with
  | zero => exact absurd HA.out (by simp [install_Complete.j0])
  | succ kj2 =>
   have H := HA.out
   clear HA
   simp only [install_Complete.j0] at H
   by_cases c15 : x13_2 = true
   ·subst c15
    rw [if_pos rfl] at H
    simp only [Option.some.injEq, Prod.mk.injEq] at H
    obtain ⟨rfl, rfl, rfl, rfl, rfl, rfl, rfl⟩ := H
    have hnb16 := NB109_108.out
    have hnc16 := NB108_109.out
    obtain ⟨z0, z1, z2, z3, z4, z5, y0, y1, y2, y3, y4, y5⟩ := bc6 BK109
    go_wp2
    refine bodyPost_ret (results_ct rfl _ _ gb109 28 #[.string (⟨#[]⟩ : ByteArray), .string (⟨#[]⟩ : ByteArray), .bool false, .string (⟨#[]⟩ : ByteArray), .int .i64 0, .int .i64 0] (0, 0) _ rfl (bkp BK109) Try.underlying28 rfl (by kernel_rfl)) rfl ?_
    exact ⟨rerr, hbx HB⟩
   ·replace c15 := Bool.eq_false_iff.mpr c15
    subst c15
    rw [if_neg (show ¬ (false = true) by decide)] at H
    by_cases c18 : a0_2 = true
    ·subst c18
     rw [if_pos rfl] at H
     by_cases c19 : a0_3.toList = a1.toList
     ·rw [if_pos c19] at H
      have c19b0 : (a0_3.toList == a1.toList) = true := beq_iff_eq.mpr c19
      have c19b1 : (a0_3.toList != a1.toList) = false := bne_eq_false_iff_eq.mpr c19
      clear c19
      simp only [Option.some.injEq, Prod.mk.injEq] at H
      obtain ⟨rfl, rfl, rfl, rfl, rfl, rfl, rfl⟩ := H
      have hnb20 := NB108_109.out
      have hnc20 := NB109_108.out
      obtain ⟨z0, z1, z2, z3, z4, z5, y0, y1, y2, y3, y4, y5⟩ := bc6 BK108
      obtain ⟨z0, z1, z2, z3, z4, z5, y0, y1, y2, y3, y4, y5⟩ := bc6 BK109
      go_wp2
      refine bodyPost_ret (results_ct rfl _ _ gb109 28 #[.string a0_0, .string a1, .bool true, .string a0_3, .int .i64 a0_4, .int .i64 a0_5] (0, 0) _ rfl (bkp BK109) Try.underlying28 rfl (by kernel_rfl)) rfl ?_
      exact ⟨rerr, hbx HB⟩
     ·rw [if_neg c19] at H
      have c19b0 : (a0_3.toList == a1.toList) = false := beq_eq_false_iff_ne.mpr c19
      have c19b1 : (a0_3.toList != a1.toList) = true := bne_iff_ne.mpr c19
      replace H := Option.bind_eq_some_iff.mp H
      obtain ⟨⟨t112, t113, t114, t115, t116, t117⟩, A230, H⟩ := H
      (try dsimp only at H)
      have A23 := Aside0.mk A230
      clear A230
      simp only [Option.some.injEq, Prod.mk.injEq] at H
      obtain ⟨rfl, rfl, rfl, rfl, rfl, rfl, rfl⟩ := H
      have hnb24 := NB108_109.out
      have hnc24 := NB109_108.out
      obtain ⟨z0, z1, z2, z3, z4, z5, y0, y1, y2, y3, y4, y5⟩ := bc6 BK108
      go_wp2_with (first | ((with_reducible refine gate_callee (f := 43) rfl ?_); refine goesL_ (some 26) rfl rfl Try.func43 (by kernel_rfl) rfl #[.agg #[.string a0_0, .string a1, .bool true, .string a0_3, .int .i64 a0_4, .int .i64 a0_5]] rfl sma ?_; (with_reducible refine (install_disarm.calls a0_0 a1 true a0_3 a0_4 a0_5 t112 t113 t114 t115 t116 t117 _ A23.out).mono ?_); rintro e w26 ⟨rfl, hb⟩; refine ⟨_, rfl, ?_⟩; replace BK108 := Aside0.mk (blk_below (o := .cells #[.string a0_0, .string a1, .bool true, .string a0_3, .int .i64 a0_4, .int .i64 a0_5] 28 (0, 0)) (bkp BK108) hb); replace BK109 := bkfB BK109 hb; replace HB := hbS HB hb; (try clear hb); (try clear hb2); (try clear hk); (try clear hi); obtain ⟨z0, z1, z2, z3, z4, z5, y0, y1, y2, y3, y4, y5⟩ := bc6 BK108; obtain ⟨z0, z1, z2, z3, z4, z5, y0, y1, y2, y3, y4, y5⟩ := bc6 BK109))
      refine bodyPost_ret (results_ct rfl _ _ gb109 28 #[.string t112, .string t113, .bool t114, .string t115, .int .i64 t116, .int .i64 t117] (0, 0) _ rfl (bkp BK109) Try.underlying28 rfl (by kernel_rfl)) rfl ?_
      exact ⟨rerr, hbx HB⟩
    ·replace c18 := Bool.eq_false_iff.mpr c18
     subst c18
     rw [if_neg (show ¬ (false = true) by decide)] at H
     simp only [Option.some.injEq, Prod.mk.injEq] at H
     obtain ⟨rfl, rfl, rfl, rfl, rfl, rfl, rfl⟩ := H
     have hnb29 := NB108_109.out
     have hnc29 := NB109_108.out
     obtain ⟨z0, z1, z2, z3, z4, z5, y0, y1, y2, y3, y4, y5⟩ := bc6 BK108
     obtain ⟨z0, z1, z2, z3, z4, z5, y0, y1, y2, y3, y4, y5⟩ := bc6 BK109
     go_wp2
     refine bodyPost_ret (results_ct rfl _ _ gb109 28 #[.string a0_0, .string a1, .bool false, .string a0_3, .int .i64 a0_4, .int .i64 a0_5] (0, 0) _ rfl (bkp BK109) Try.underlying28 rfl (by kernel_rfl)) rfl ?_
     exact ⟨rerr, hbx HB⟩
end Go.Proofs.Ytdigplhjfjchnaa.PQ
