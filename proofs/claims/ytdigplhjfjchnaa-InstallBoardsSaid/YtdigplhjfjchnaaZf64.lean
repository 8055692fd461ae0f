-- Printed by fprint.py and zip.py, programs of this session's, over the kit's print; Lean checks it.
import Derived.Test.YtdigplhjfjchnaaZf33
import Derived.Test.YtdigplhjfjchnaaZf78
namespace Go.Proofs.Ytdigplhjfjchnaa.PQ
open Go.RowKit Go.Proofs.YtdigplhjfjchnaaW.PrintWords Go.Proofs.YtdigplhjfjchnaaW.PrintLast Go.Proofs.YtdigplhjfjchnaaW.PrintMore
attribute [local go_sem] max2_int min2_int max_two min_two max_three min_three max_four min_four   -- for this text's walks alone
set_option linter.unusedVariables false
set_option linter.unusedSimpArgs false
def hopmeshref49_at.f (k : Nat) (a0_0 : ByteArray) (l0_1 : List Int) (l0_2 : List Bool) (l0_3 : List Bool) (a0_4 a0_5 a1 : Int) : Option (Int × Int):=(hopmeshref49_Valid.f k a0_0 l0_1 l0_2 l0_3 a0_4 a0_5).bind fun t761 => (if t761 = 0 then ((hopmeshref49_find.f k l0_1 a1).bind fun t762 => (if t762 < 0 then (some (0,7)) else (some (t762,0)))) else (some (0,1)))
set_option maxHeartbeats 8000000 in
set_option maxRecDepth 100000 in
theorem hopmeshref49_at.calls (k : Nat) (a0_0 : ByteArray) (A0_1 : Option Addr) (c0_1 : Nat) (l0_1 : List Int) (A0_2 : Option Addr) (c0_2 : Nat) (l0_2 : List Bool) (A0_3 : Option Addr) (c0_3 : Nat) (l0_3 : List Bool) (a0_4 a0_5 a1 r1 r2 : Int) (w : World) (hr0_1 : Kd.C (Kd.int .i64) w A0_1 l0_1.length l0_1) (hc0_1 : l0_1.length ≤ c0_1) (hr0_2 : Kd.C Kd.bool w A0_2 l0_2.length l0_2) (hc0_2 : l0_2.length ≤ c0_2) (hr0_3 : Kd.C Kd.bool w A0_3 l0_3.length l0_3) (hc0_3 : l0_3.length ≤ c0_3) (h : hopmeshref49_at.f k a0_0 l0_1 l0_2 l0_3 a0_4 a0_5 a1 = some (r1,r2)) :
 Calls Try.prog 64 #[.agg #[.string a0_0,.slice A0_1 l0_1.length c0_1,.slice A0_2 l0_2.length c0_2,.slice A0_3 l0_3.length c0_3,.int .i64 a0_4,.int .i64 a0_5],.int .i64 a1] w fun e w' => e = .returned (.tuple #[.int .i64 r1,.int .i64 r2]) ∧ Below w.heap.size w w':=by
 have hu50:=Try.underlying50
 have HR0_1:=Aside0.mk hr0_1
 have HC0_1:=Aside0.mk hc0_1
 clear hr0_1 hc0_1
 have HR0_2:=Aside0.mk hr0_2
 have HC0_2:=Aside0.mk hc0_2
 clear hr0_2 hc0_2
 have HR0_3:=Aside0.mk hr0_3
 have HC0_3:=Aside0.mk hc0_3
 clear hr0_3 hc0_3
 have HB:=Aside0.mk (Below.refl w.heap.size w)
 have H : ((hopmeshref49_Valid.f k a0_0 l0_1 l0_2 l0_3 a0_4 a0_5).bind fun t761 => (if t761 = 0 then ((hopmeshref49_find.f k l0_1 a1).bind fun t762 => (if t762 < 0 then (some (0,7)) else (some (t762,0)))) else (some (0,1)))) = some (r1,r2):=h
 clear h
 replace H:=Option.bind_eq_some_iff.mp H
 obtain ⟨t761,A30,H⟩:=H
 (try dsimp only at H)
 have A3:=Aside0.mk A30
 clear A30
 by_cases c4 : t761 = 0
 ·rw [if_pos c4] at H
  have c4b0 : (t761 == 0) = true:=beq_iff_eq.mpr c4
  have c4b1 : (t761 != 0) = false:=bne_eq_false_iff_eq.mpr c4
  clear c4
  replace H:=Option.bind_eq_some_iff.mp H
  obtain ⟨t762,A50,H⟩:=H
  (try dsimp only at H)
  have A5:=Aside0.mk A50
  clear A50
  by_cases c6 : t762 < 0
  ·rw [if_pos c6] at H
   have c6b0 : decide (t762 < 0) = true:=decide_eq_true c6
   clear c6
   simp only [Option.some.injEq,Prod.mk.injEq] at H
   obtain ⟨rfl,rfl⟩:=H
   go_enter Try.func64,Try.ntmps64
   go_wp2_with (first | ((with_reducible refine gate_dst (N:=2) rfl ?_);refine boxE 2 #[.string a0_0,.slice A0_1 l0_1.length c0_1,.slice A0_2 l0_2.length c0_2,.slice A0_3 l0_3.length c0_3,.int .i64 a0_4,.int .i64 a0_5] 50 ?_;intro gb760 hg w7 hbox hb;have BK760:=Aside0.mk (hbox);have GW760:=gw hg HB;have GE760:=gw hg HB;replace HB:=hbS HB hb;clear hb hbox hg;obtain ⟨z0,z1,z2,z3,z4,z5,y0,y1,y2,y3,y4,y5⟩:=bc6 BK760) | ((with_reducible refine gate_callee (f:=33) rfl ?_);refine goesL_ (some 8) rfl rfl Try.func33 (by kernel_rfl) rfl #[.agg #[.string a0_0,.slice A0_1 l0_1.length c0_1,.slice A0_2 l0_2.length c0_2,.slice A0_3 l0_3.length c0_3,.int .i64 a0_4,.int .i64 a0_5]] rfl sma ?_;(with_reducible refine (hopmeshref49_Valid.calls k a0_0 _ _ l0_1 _ _ l0_2 _ _ l0_3 a0_4 a0_5 t761 _ (cb HR0_1 HB) HC0_1.out (cb HR0_2 HB) HC0_2.out (cb HR0_3 HB) HC0_3.out A3.out).mono ?_);rintro e w9 ⟨rfl,hb⟩;refine ⟨_,rfl,?_⟩;replace BK760:=bkB BK760 hb;replace HB:=hbS HB hb;(try clear hb);(try clear hb2);(try clear hk);(try clear hi);obtain ⟨z0,z1,z2,z3,z4,z5,y0,y1,y2,y3,y4,y5⟩:=bc6 BK760) | ((with_reducible refine gate_callee (f:=78) rfl ?_);refine goesL_ (some 13) rfl rfl Try.func78 (by kernel_rfl) rfl #[.slice A0_1 l0_1.length c0_1,.int .i64 a1] rfl sma ?_;(with_reducible refine (hopmeshref49_find.calls k _ _ l0_1 a1 t762 _ (cb HR0_1 HB) HC0_1.out A5.out).mono ?_);rintro e w' ⟨rfl,⟨nd,rfl⟩⟩;refine ⟨_,rfl,?_⟩))
   go_ret2
   exact ⟨rerr,hbx HB⟩
  ·rw [if_neg c6] at H
   have c6b0 : decide (t762 < 0) = false:=decide_eq_false c6
   clear c6
   simp only [Option.some.injEq,Prod.mk.injEq] at H
   obtain ⟨rfl,rfl⟩:=H
   go_enter Try.func64,Try.ntmps64
   go_wp2_with (first | ((with_reducible refine gate_dst (N:=2) rfl ?_);refine boxE 2 #[.string a0_0,.slice A0_1 l0_1.length c0_1,.slice A0_2 l0_2.length c0_2,.slice A0_3 l0_3.length c0_3,.int .i64 a0_4,.int .i64 a0_5] 50 ?_;intro gb760 hg w11 hbox hb;have BK760:=Aside0.mk (hbox);have GW760:=gw hg HB;have GE760:=gw hg HB;replace HB:=hbS HB hb;clear hb hbox hg;obtain ⟨z0,z1,z2,z3,z4,z5,y0,y1,y2,y3,y4,y5⟩:=bc6 BK760) | ((with_reducible refine gate_callee (f:=33) rfl ?_);refine goesL_ (some 8) rfl rfl Try.func33 (by kernel_rfl) rfl #[.agg #[.string a0_0,.slice A0_1 l0_1.length c0_1,.slice A0_2 l0_2.length c0_2,.slice A0_3 l0_3.length c0_3,.int .i64 a0_4,.int .i64 a0_5]] rfl sma ?_;(with_reducible refine (hopmeshref49_Valid.calls k a0_0 _ _ l0_1 _ _ l0_2 _ _ l0_3 a0_4 a0_5 t761 _ (cb HR0_1 HB) HC0_1.out (cb HR0_2 HB) HC0_2.out (cb HR0_3 HB) HC0_3.out A3.out).mono ?_);rintro e w13 ⟨rfl,hb⟩;refine ⟨_,rfl,?_⟩;replace BK760:=bkB BK760 hb;replace HB:=hbS HB hb;(try clear hb);(try clear hb2);(try clear hk);(try clear hi);obtain ⟨z0,z1,z2,z3,z4,z5,y0,y1,y2,y3,y4,y5⟩:=bc6 BK760) | ((with_reducible refine gate_callee (f:=78) rfl ?_);refine goesL_ (some 13) rfl rfl Try.func78 (by kernel_rfl) rfl #[.slice A0_1 l0_1.length c0_1,.int .i64 a1] rfl sma ?_;(with_reducible refine (hopmeshref49_find.calls k _ _ l0_1 a1 t762 _ (cb HR0_1 HB) HC0_1.out A5.out).mono ?_);rintro e w' ⟨rfl,⟨nd,rfl⟩⟩;refine ⟨_,rfl,?_⟩))
   go_ret2
   exact ⟨rerr,hbx HB⟩
 ·rw [if_neg c4] at H
  have c4b0 : (t761 == 0) = false:=beq_eq_false_iff_ne.mpr c4
  have c4b1 : (t761 != 0) = true:=bne_iff_ne.mpr c4
  simp only [Option.some.injEq,Prod.mk.injEq] at H
  obtain ⟨rfl,rfl⟩:=H
  go_enter Try.func64,Try.ntmps64
  go_wp2_with (first | ((with_reducible refine gate_dst (N:=2) rfl ?_);refine boxE 2 #[.string a0_0,.slice A0_1 l0_1.length c0_1,.slice A0_2 l0_2.length c0_2,.slice A0_3 l0_3.length c0_3,.int .i64 a0_4,.int .i64 a0_5] 50 ?_;intro gb760 hg w15 hbox hb;have BK760:=Aside0.mk (hbox);have GW760:=gw hg HB;have GE760:=gw hg HB;replace HB:=hbS HB hb;clear hb hbox hg;obtain ⟨z0,z1,z2,z3,z4,z5,y0,y1,y2,y3,y4,y5⟩:=bc6 BK760) | ((with_reducible refine gate_callee (f:=33) rfl ?_);refine goesL_ (some 8) rfl rfl Try.func33 (by kernel_rfl) rfl #[.agg #[.string a0_0,.slice A0_1 l0_1.length c0_1,.slice A0_2 l0_2.length c0_2,.slice A0_3 l0_3.length c0_3,.int .i64 a0_4,.int .i64 a0_5]] rfl sma ?_;(with_reducible refine (hopmeshref49_Valid.calls k a0_0 _ _ l0_1 _ _ l0_2 _ _ l0_3 a0_4 a0_5 t761 _ (cb HR0_1 HB) HC0_1.out (cb HR0_2 HB) HC0_2.out (cb HR0_3 HB) HC0_3.out A3.out).mono ?_);rintro e w17 ⟨rfl,hb⟩;refine ⟨_,rfl,?_⟩;replace BK760:=bkB BK760 hb;replace HB:=hbS HB hb;(try clear hb);(try clear hb2);(try clear hk);(try clear hi)))
  go_ret2
  exact ⟨rerr,hbx HB⟩
end Go.Proofs.Ytdigplhjfjchnaa.PQ
