-- Printed by fprint.py and zip.py, programs of this session's, over the kit's print; Lean checks it.
import Derived.Test.YtdigplhjfjchnaaZa
import Derived.Test.YtdigplhjfjchnaaZf32
import Derived.Test.YtdigplhjfjchnaaZf76
namespace Go.Proofs.Ytdigplhjfjchnaa.PQ
open Go.RowKit Go.Proofs.YtdigplhjfjchnaaW.PrintWords Go.Proofs.YtdigplhjfjchnaaW.PrintLast Go.Proofs.YtdigplhjfjchnaaW.PrintMore
attribute [local go_sem] max2_int min2_int max_two min_two max_three min_three max_four min_four   -- for this text's walks alone
set_option linter.unusedVariables false
set_option linter.unusedSimpArgs false
def install_find.f (k : Nat) (a0_0 : ByteArray) (l0_1 : List Int) (l0_2 : List Bool) (l0_3 : List Bool) (a0_4 a0_5 a1 : Int) : Option (ByteArray × List Int × List Bool × List Bool × Int × Int × Int × Int):=(install_Valid.f k a0_0 l0_1 l0_2 l0_3 a0_4 a0_5).bind fun t425 => (if t425 = 0 then ((slices_Index_int_int.f k l0_1 a1).bind fun t426 => (if t426 < 0 then (some ((⟨#[]⟩ : ByteArray),([] : List Int),([] : List Bool),([] : List Bool),0,0,0,7)) else ((install_own.f a0_0 l0_1 l0_2 l0_3 a0_4 a0_5).bind fun bt427 => (some (bt427.1,bt427.2.1,bt427.2.2.1,bt427.2.2.2.1,bt427.2.2.2.2.1,bt427.2.2.2.2.2,t426,0))))) else (some ((⟨#[]⟩ : ByteArray),([] : List Int),([] : List Bool),([] : List Bool),0,0,0,t425)))
set_option maxHeartbeats 8000000 in
set_option maxRecDepth 100000 in
theorem install_find.calls (k : Nat) (a0_0 : ByteArray) (A0_1 : Option Addr) (c0_1 : Nat) (l0_1 : List Int) (A0_2 : Option Addr) (c0_2 : Nat) (l0_2 : List Bool) (A0_3 : Option Addr) (c0_3 : Nat) (l0_3 : List Bool) (a0_4 a0_5 a1 : Int) (r1 : ByteArray) (r2 : List Int) (r3 : List Bool) (r4 : List Bool) (r5 r6 r7 r8 : Int) (w : World) (hr0_1 : Kd.C (Kd.int .i64) w A0_1 l0_1.length l0_1) (hc0_1 : l0_1.length ≤ c0_1) (hr0_2 : Kd.C Kd.bool w A0_2 l0_2.length l0_2) (hc0_2 : l0_2.length ≤ c0_2) (hr0_3 : Kd.C Kd.bool w A0_3 l0_3.length l0_3) (hc0_3 : l0_3.length ≤ c0_3) (h : install_find.f k a0_0 l0_1 l0_2 l0_3 a0_4 a0_5 a1 = some (r1,r2,r3,r4,r5,r6,r7,r8)) :
 Calls Try.prog 53 #[.agg #[.string a0_0,.slice A0_1 l0_1.length c0_1,.slice A0_2 l0_2.length c0_2,.slice A0_3 l0_3.length c0_3,.int .i64 a0_4,.int .i64 a0_5],.int .i64 a1] w fun e w' => ∃ v1_ v2_ v3_ : Value,e = .returned (.tuple #[.agg #[.string r1,v1_,v2_,v3_,.int .i64 r5,.int .i64 r6],.int .i64 r7,.int .i64 r8]) ∧ Kd.R (Kd.int .i64) 3 w' w.heap.size (fun _ => True) v1_ r2 ∧ Kd.R Kd.bool 4 w' w.heap.size (fun k_ => some k_ ≠ (v3_ : Value).ownBlock) v2_ r3 ∧ Kd.R Kd.bool 4 w' w.heap.size (fun k_ => some k_ ≠ (v2_ : Value).ownBlock) v3_ r4 ∧ Below w.heap.size w w':=by
 have hu50:=Try.underlying50
 have HR0_1:=Aside0.mk hr0_1
 have HC0_1:=Aside0.mk hc0_1
 clear hr0_1 hc0_1
 have HR0_2:=Aside0.mk hr0_2
 have HC0_2:=Aside0.mk hc0_2
 clear hr0_2 hc0_2
 have HR0_3:=Aside0.mk hr0_3
 have HC0_3:=Aside0.mk hc0_3
 clear hr0_3 hc0_3
 have HB:=Aside0.mk (Below.refl w.heap.size w)
 have H : ((install_Valid.f k a0_0 l0_1 l0_2 l0_3 a0_4 a0_5).bind fun t425 => (if t425 = 0 then ((slices_Index_int_int.f k l0_1 a1).bind fun t426 => (if t426 < 0 then (some ((⟨#[]⟩ : ByteArray),([] : List Int),([] : List Bool),([] : List Bool),0,0,0,7)) else ((install_own.f a0_0 l0_1 l0_2 l0_3 a0_4 a0_5).bind fun bt427 => (some (bt427.1,bt427.2.1,bt427.2.2.1,bt427.2.2.2.1,bt427.2.2.2.2.1,bt427.2.2.2.2.2,t426,0))))) else (some ((⟨#[]⟩ : ByteArray),([] : List Int),([] : List Bool),([] : List Bool),0,0,0,t425)))) = some (r1,r2,r3,r4,r5,r6,r7,r8):=h
 clear h
 replace H:=Option.bind_eq_some_iff.mp H
 obtain ⟨t425,A30,H⟩:=H
 (try dsimp only at H)
 have A3:=Aside0.mk A30
 clear A30
 by_cases c4 : t425 = 0
 ·rw [if_pos c4] at H
  have c4b0 : (t425 == 0) = true:=beq_iff_eq.mpr c4
  have c4b1 : (t425 != 0) = false:=bne_eq_false_iff_eq.mpr c4
  clear c4
  replace H:=Option.bind_eq_some_iff.mp H
  obtain ⟨t426,A50,H⟩:=H
  (try dsimp only at H)
  have A5:=Aside0.mk A50
  clear A50
  by_cases c6 : t426 < 0
  ·rw [if_pos c6] at H
   have c6b0 : decide (t426 < 0) = true:=decide_eq_true c6
   clear c6
   simp only [Option.some.injEq,Prod.mk.injEq] at H
   obtain ⟨rfl,rfl,rfl,rfl,rfl,rfl,rfl,rfl⟩:=H
   go_enter Try.func53,Try.ntmps53
   go_wp2_with (first | ((with_reducible refine gate_dst (N:=2) rfl ?_);refine boxE 2 #[.string a0_0,.slice A0_1 l0_1.length c0_1,.slice A0_2 l0_2.length c0_2,.slice A0_3 l0_3.length c0_3,.int .i64 a0_4,.int .i64 a0_5] 50 ?_;intro gb423 hg w7 hbox hb;have BK423:=Aside0.mk (hbox);have GW423:=gw hg HB;have GE423:=gw hg HB;replace HB:=hbS HB hb;clear hb hbox hg) | ((with_reducible refine gate_dst (N:=4) rfl ?_);refine boxE 4 #[.string (⟨#[]⟩ : ByteArray),.slice none 0 0,.slice none 0 0,.slice none 0 0,.int .i64 0,.int .i64 0] 50 ?_;intro gb424 hg w8 hbox hb;have BK424:=Aside0.mk (hbox);have GW424:=gw hg HB;have GE424:=gw hg HB;replace HB:=hbS HB hb;have NB423_424:=nbl hg BK423;have NB424_423:=nbg hg BK423;replace BK423:=bkB BK423 hb;clear hb hbox hg;have hnb9:=NB423_424.out;have hnc9:=NB424_423.out;obtain ⟨z0,z1,z2,z3,z4,z5,y0,y1,y2,y3,y4,y5⟩:=bc6 BK423) | ((with_reducible refine gate_callee (f:=32) rfl ?_);refine goesL_ (some 10) rfl rfl Try.func32 (by kernel_rfl) rfl #[.agg #[.string a0_0,.slice A0_1 l0_1.length c0_1,.slice A0_2 l0_2.length c0_2,.slice A0_3 l0_3.length c0_3,.int .i64 a0_4,.int .i64 a0_5]] rfl sma ?_;(with_reducible refine (install_Valid.calls k a0_0 _ _ l0_1 _ _ l0_2 _ _ l0_3 a0_4 a0_5 t425 _ (cb HR0_1 HB) HC0_1.out (cb HR0_2 HB) HC0_2.out (cb HR0_3 HB) HC0_3.out A3.out).mono ?_);rintro e w11 ⟨rfl,hb⟩;refine ⟨_,rfl,?_⟩;replace BK423:=bkB BK423 hb;replace BK424:=bkB BK424 hb;replace HB:=hbS HB hb;(try clear hb);(try clear hb2);(try clear hk);(try clear hi);obtain ⟨z0,z1,z2,z3,z4,z5,y0,y1,y2,y3,y4,y5⟩:=bc6 BK423) | ((with_reducible refine gate_callee (f:=75) rfl ?_);refine goesL_ (some 18) rfl rfl Try.func75 (by kernel_rfl) rfl #[.slice A0_1 l0_1.length c0_1,.int .i64 a1] rfl sma ?_;(with_reducible refine (slices_Index_int_int.calls k _ _ l0_1 a1 t426 _ (cb HR0_1 HB) HC0_1.out A5.out).mono ?_);rintro e w' ⟨rfl,⟨nd,rfl⟩⟩;refine ⟨_,rfl,?_⟩;(try (rw [drewN_self w11];generalize hq_ : World.drewN w11 _ = w11;replace BK423:=bkq BK423 hq_;replace BK424:=bkq BK424 hq_;replace HB:=hbq HB hq_;clear hq_));obtain ⟨z0,z1,z2,z3,z4,z5,y0,y1,y2,y3,y4,y5⟩:=bc6 BK424))
   refine bodyPost_ret (results_ctt rfl _ _ gb424 50 #[.string (⟨#[]⟩ : ByteArray),.slice none 0 0,.slice none 0 0,.slice none 0 0,.int .i64 0,.int .i64 0] (0,0) _ rfl (bkp BK424) Try.underlying50 rfl (by kernel_rfl)) rfl ?_
   exact ⟨_,_,_,rerr,rnil,rnil,rnil,hbx HB⟩
  ·rw [if_neg c6] at H
   have c6b0 : decide (t426 < 0) = false:=decide_eq_false c6
   clear c6
   replace H:=Option.bind_eq_some_iff.mp H
   obtain ⟨⟨t427,t428,t431,t434,t437,t438⟩,A140,H⟩:=H
   (try dsimp only at H)
   have A14:=Aside0.mk A140
   clear A140
   simp only [Option.some.injEq,Prod.mk.injEq] at H
   obtain ⟨rfl,rfl,rfl,rfl,rfl,rfl,rfl,rfl⟩:=H
   go_enter Try.func53,Try.ntmps53
   go_wp2_with (first | ((with_reducible refine gate_dst (N:=2) rfl ?_);refine boxE 2 #[.string a0_0,.slice A0_1 l0_1.length c0_1,.slice A0_2 l0_2.length c0_2,.slice A0_3 l0_3.length c0_3,.int .i64 a0_4,.int .i64 a0_5] 50 ?_;intro gb423 hg w15 hbox hb;have BK423:=Aside0.mk (hbox);have GW423:=gw hg HB;have GE423:=gw hg HB;replace HB:=hbS HB hb;clear hb hbox hg) | ((with_reducible refine gate_dst (N:=4) rfl ?_);refine boxE 4 #[.string (⟨#[]⟩ : ByteArray),.slice none 0 0,.slice none 0 0,.slice none 0 0,.int .i64 0,.int .i64 0] 50 ?_;intro gb424 hg w16 hbox hb;have BK424:=Aside0.mk (hbox);have GW424:=gw hg HB;have GE424:=gw hg HB;replace HB:=hbS HB hb;have NB423_424:=nbl hg BK423;have NB424_423:=nbg hg BK423;replace BK423:=bkB BK423 hb;clear hb hbox hg;have hnb17:=NB423_424.out;have hnc17:=NB424_423.out;obtain ⟨z0,z1,z2,z3,z4,z5,y0,y1,y2,y3,y4,y5⟩:=bc6 BK423) | ((with_reducible refine gate_callee (f:=32) rfl ?_);refine goesL_ (some 10) rfl rfl Try.func32 (by kernel_rfl) rfl #[.agg #[.string a0_0,.slice A0_1 l0_1.length c0_1,.slice A0_2 l0_2.length c0_2,.slice A0_3 l0_3.length c0_3,.int .i64 a0_4,.int .i64 a0_5]] rfl sma ?_;(with_reducible refine (install_Valid.calls k a0_0 _ _ l0_1 _ _ l0_2 _ _ l0_3 a0_4 a0_5 t425 _ (cb HR0_1 HB) HC0_1.out (cb HR0_2 HB) HC0_2.out (cb HR0_3 HB) HC0_3.out A3.out).mono ?_);rintro e w19 ⟨rfl,hb⟩;refine ⟨_,rfl,?_⟩;replace BK423:=bkB BK423 hb;replace BK424:=bkB BK424 hb;replace HB:=hbS HB hb;(try clear hb);(try clear hb2);(try clear hk);(try clear hi);obtain ⟨z0,z1,z2,z3,z4,z5,y0,y1,y2,y3,y4,y5⟩:=bc6 BK423) | ((with_reducible refine gate_callee (f:=75) rfl ?_);refine goesL_ (some 18) rfl rfl Try.func75 (by kernel_rfl) rfl #[.slice A0_1 l0_1.length c0_1,.int .i64 a1] rfl sma ?_;(with_reducible refine (slices_Index_int_int.calls k _ _ l0_1 a1 t426 _ (cb HR0_1 HB) HC0_1.out A5.out).mono ?_);rintro e w' ⟨rfl,⟨nd,rfl⟩⟩;refine ⟨_,rfl,?_⟩;(try (rw [drewN_self w19];generalize hq_ : World.drewN w19 _ = w19;replace BK423:=bkq BK423 hq_;replace BK424:=bkq BK424 hq_;replace HB:=hbq HB hq_;clear hq_));obtain ⟨z0,z1,z2,z3,z4,z5,y0,y1,y2,y3,y4,y5⟩:=bc6 BK423) | ((with_reducible refine gate_callee (f:=76) rfl ?_);refine goesL_ (some 23) rfl rfl Try.func76 (by kernel_rfl) rfl #[.agg #[.string a0_0,.slice A0_1 l0_1.length c0_1,.slice A0_2 l0_2.length c0_2,.slice A0_3 l0_3.length c0_3,.int .i64 a0_4,.int .i64 a0_5]] rfl sma ?_;(with_reducible refine (install_own.calls a0_0 _ _ l0_1 _ _ l0_2 _ _ l0_3 a0_4 a0_5 t427 t428 t431 t434 t437 t438 _ (cb HR0_1 HB) HC0_1.out (cb HR0_2 HB) HC0_2.out (cb HR0_3 HB) HC0_3.out A14.out).mono ?_);rintro e w22 ⟨v429,v432,v435,rfl,ho0,ho1,ho2,hb⟩;refine ⟨_,rfl,?_⟩;have HO430:=Aside0.mk (Kd.R_lower ho0 (below_size (hbx HB)));have HO433:=Aside0.mk (Kd.R_lower ho1 (below_size (hbx HB)));have HO436:=Aside0.mk (Kd.R_lower ho2 (below_size (hbx HB)));replace BK423:=bkB BK423 hb;replace BK424:=bkB BK424 hb;replace HB:=hbS HB hb;(try clear hb);(try clear hb2);(try clear hk);(try clear hi);(try clear ho0);(try clear ho1);(try clear ho2);obtain ⟨z0,z1,z2,z3,z4,z5,y0,y1,y2,y3,y4,y5⟩:=bc6 BK424;obtain ⟨Ao24,co24,eo24⟩:=Kd.R_slice HO430.out;subst eo24;obtain ⟨Ao25,co25,eo25⟩:=Kd.R_slice HO433.out;subst eo25;obtain ⟨Ao26,co26,eo26⟩:=Kd.R_slice HO436.out;subst eo26))
   refine bodyPost_ret (results_ctt rfl _ _ gb424 50 #[.string t427,.slice Ao24 t428.length co24,.slice Ao25 t431.length co25,.slice Ao26 t434.length co26,.int .i64 t437,.int .i64 t438] (0,0) _ rfl (bkp BK424) Try.underlying50 rfl (by kernel_rfl)) rfl ?_
   exact ⟨_,_,_,rerr,Kd.R_mono (rty (rfo HO430) BK424) (fun _ hk => trivial),rfo HO433,rfo HO436,hbx HB⟩
 ·rw [if_neg c4] at H
  have c4b0 : (t425 == 0) = false:=beq_eq_false_iff_ne.mpr c4
  have c4b1 : (t425 != 0) = true:=bne_iff_ne.mpr c4
  simp only [Option.some.injEq,Prod.mk.injEq] at H
  obtain ⟨rfl,rfl,rfl,rfl,rfl,rfl,rfl,rfl⟩:=H
  go_enter Try.func53,Try.ntmps53
  go_wp2_with (first | ((with_reducible refine gate_dst (N:=2) rfl ?_);refine boxE 2 #[.string a0_0,.slice A0_1 l0_1.length c0_1,.slice A0_2 l0_2.length c0_2,.slice A0_3 l0_3.length c0_3,.int .i64 a0_4,.int .i64 a0_5] 50 ?_;intro gb423 hg w27 hbox hb;have BK423:=Aside0.mk (hbox);have GW423:=gw hg HB;have GE423:=gw hg HB;replace HB:=hbS HB hb;clear hb hbox hg) | ((with_reducible refine gate_dst (N:=4) rfl ?_);refine boxE 4 #[.string (⟨#[]⟩ : ByteArray),.slice none 0 0,.slice none 0 0,.slice none 0 0,.int .i64 0,.int .i64 0] 50 ?_;intro gb424 hg w28 hbox hb;have BK424:=Aside0.mk (hbox);have GW424:=gw hg HB;have GE424:=gw hg HB;replace HB:=hbS HB hb;have NB423_424:=nbl hg BK423;have NB424_423:=nbg hg BK423;replace BK423:=bkB BK423 hb;clear hb hbox hg;have hnb29:=NB423_424.out;have hnc29:=NB424_423.out;obtain ⟨z0,z1,z2,z3,z4,z5,y0,y1,y2,y3,y4,y5⟩:=bc6 BK423) | ((with_reducible refine gate_callee (f:=32) rfl ?_);refine goesL_ (some 10) rfl rfl Try.func32 (by kernel_rfl) rfl #[.agg #[.string a0_0,.slice A0_1 l0_1.length c0_1,.slice A0_2 l0_2.length c0_2,.slice A0_3 l0_3.length c0_3,.int .i64 a0_4,.int .i64 a0_5]] rfl sma ?_;(with_reducible refine (install_Valid.calls k a0_0 _ _ l0_1 _ _ l0_2 _ _ l0_3 a0_4 a0_5 t425 _ (cb HR0_1 HB) HC0_1.out (cb HR0_2 HB) HC0_2.out (cb HR0_3 HB) HC0_3.out A3.out).mono ?_);rintro e w31 ⟨rfl,hb⟩;refine ⟨_,rfl,?_⟩;replace BK423:=bkB BK423 hb;replace BK424:=bkB BK424 hb;replace HB:=hbS HB hb;(try clear hb);(try clear hb2);(try clear hk);(try clear hi);obtain ⟨z0,z1,z2,z3,z4,z5,y0,y1,y2,y3,y4,y5⟩:=bc6 BK424))
  refine bodyPost_ret (results_ctt rfl _ _ gb424 50 #[.string (⟨#[]⟩ : ByteArray),.slice none 0 0,.slice none 0 0,.slice none 0 0,.int .i64 0,.int .i64 0] (0,0) _ rfl (bkp BK424) Try.underlying50 rfl (by kernel_rfl)) rfl ?_
  exact ⟨_,_,_,rerr,rnil,rnil,rnil,hbx HB⟩
end Go.Proofs.Ytdigplhjfjchnaa.PQ
