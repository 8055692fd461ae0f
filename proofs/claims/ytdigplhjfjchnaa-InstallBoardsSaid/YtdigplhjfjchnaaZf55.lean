-- Printed by fprint.py and zip.py, programs of this session's, over the kit's print; Lean checks it.
import Derived.Test.YtdigplhjfjchnaaZf76
import Derived.Test.YtdigplhjfjchnaaZT
namespace Go.Proofs.Ytdigplhjfjchnaa.PQ
open Go.RowKit Go.Proofs.YtdigplhjfjchnaaW.PrintWords Go.Proofs.YtdigplhjfjchnaaW.PrintLast Go.Proofs.YtdigplhjfjchnaaW.PrintMore
attribute [local go_sem] max2_int min2_int max_two min_two max_three min_three max_four min_four   -- for this text's walks alone
set_option linter.unusedVariables false
set_option linter.unusedSimpArgs false
def install_order.f (a0_0 : ByteArray) (l0_1 : List Int) (l0_2 : List Bool) (l0_3 : List Bool) (a0_4 a0_5 a1 a2 : Int) : Option (ByteArray × List Int × List Bool × List Bool × Int × Int × Int × Int × Int × ByteArray × List Int × Int):=if a0_4 = 1048576 then (some ((⟨#[]⟩ : ByteArray),([] : List Int),([] : List Bool),([] : List Bool),0,0,0,0,0,(⟨#[]⟩ : ByteArray),([] : List Int),13)) else ((install_own.f a0_0 l0_1 l0_2 l0_3 a0_4 a0_5).bind fun bt463 => ((slices_Clone_int_int.f bt463.2.1).bind fun t479 => (some (bt463.1,bt463.2.1,bt463.2.2.1,(List.replicate bt463.2.2.2.1.length false),wrap64 (bt463.2.2.2.2.1 + 1),a2,wrap64 (bt463.2.2.2.2.1 + 1),a1,a2,bt463.1,t479,0))))
def install_order.T7 : Bool × List (List Nat × List Nat):=(true,[([],[]),([],[]),([1],[1]),([],[]),([],[]),([],[]),([5],[5]),([],[]),([7],[7]),([8],[8]),([2,3,4,6,9],[2,3,4,6,9]),([0,9,0],[0]),([10,11,0,1,2,3,4,5,6,7,8,9,10,11],[10]),([12,0,1,2,3,4,5,6,7,8,9,10,11,12],[])])
def install_order.B7 : List Nat:=[0,0,2,0,0,0,32,0,128,384,1022,897,4095,8191]
theorem install_order.tab7 : rtab .any (opsOf Try.f55 7) = install_order.T7:=by kernel_rfl
theorem install_order.bits7 : waitsOk install_order.T7.2 install_order.B7 = true:=by kernel_rfl
set_option maxHeartbeats 8000000 in
set_option maxRecDepth 100000 in
theorem install_order.calls (a0_0 : ByteArray) (A0_1 : Option Addr) (c0_1 : Nat) (l0_1 : List Int) (A0_2 : Option Addr) (c0_2 : Nat) (l0_2 : List Bool) (A0_3 : Option Addr) (c0_3 : Nat) (l0_3 : List Bool) (a0_4 a0_5 a1 a2 : Int) (r1 : ByteArray) (r2 : List Int) (r3 : List Bool) (r4 : List Bool) (r5 r6 r7 r8 r9 : Int) (r10 : ByteArray) (r11 : List Int) (r12 : Int) (w : World) (hr0_1 : Kd.C (Kd.int .i64) w A0_1 l0_1.length l0_1) (hc0_1 : l0_1.length ≤ c0_1) (hr0_2 : Kd.C Kd.bool w A0_2 l0_2.length l0_2) (hc0_2 : l0_2.length ≤ c0_2) (hr0_3 : Kd.C Kd.bool w A0_3 l0_3.length l0_3) (hc0_3 : l0_3.length ≤ c0_3) (h : install_order.f a0_0 l0_1 l0_2 l0_3 a0_4 a0_5 a1 a2 = some (r1,r2,r3,r4,r5,r6,r7,r8,r9,r10,r11,r12)) :
 Calls Try.prog 55 #[.agg #[.string a0_0,.slice A0_1 l0_1.length c0_1,.slice A0_2 l0_2.length c0_2,.slice A0_3 l0_3.length c0_3,.int .i64 a0_4,.int .i64 a0_5],.int .i64 a1,.int .i64 a2] w fun e w' => ∃ v1_ v2_ v3_ v10_ : Value,e = .returned (.tuple #[.agg #[.string r1,v1_,v2_,v3_,.int .i64 r5,.int .i64 r6],.agg #[.int .i64 r7,.int .i64 r8,.int .i64 r9,.string r10,v10_],.int .i64 r12]) ∧ Kd.R (Kd.int .i64) 3 w' w.heap.size (fun k_ => some k_ ≠ (v10_ : Value).ownBlock) v1_ r2 ∧ Kd.R Kd.bool 4 w' w.heap.size (fun k_ => some k_ ≠ (v3_ : Value).ownBlock) v2_ r3 ∧ Kd.R Kd.bool 4 w' w.heap.size (fun k_ => some k_ ≠ (v2_ : Value).ownBlock) v3_ r4 ∧ Kd.R (Kd.int .i64) 3 w' w.heap.size (fun k_ => some k_ ≠ (v1_ : Value).ownBlock) v10_ r11 ∧ Below w.heap.size w w':=by
 have hu50:=Try.underlying50
 have hu36:=Try.underlying36
 have HR0_1:=Aside0.mk hr0_1
 have HC0_1:=Aside0.mk hc0_1
 clear hr0_1 hc0_1
 have HR0_2:=Aside0.mk hr0_2
 have HC0_2:=Aside0.mk hc0_2
 clear hr0_2 hc0_2
 have HR0_3:=Aside0.mk hr0_3
 have HC0_3:=Aside0.mk hc0_3
 clear hr0_3 hc0_3
 have HB:=Aside0.mk (Below.refl w.heap.size w)
 have H : (if a0_4 = 1048576 then (some ((⟨#[]⟩ : ByteArray),([] : List Int),([] : List Bool),([] : List Bool),0,0,0,0,0,(⟨#[]⟩ : ByteArray),([] : List Int),13)) else ((install_own.f a0_0 l0_1 l0_2 l0_3 a0_4 a0_5).bind fun bt463 => ((slices_Clone_int_int.f bt463.2.1).bind fun t479 => (some (bt463.1,bt463.2.1,bt463.2.2.1,(List.replicate bt463.2.2.2.1.length false),wrap64 (bt463.2.2.2.2.1 + 1),a2,wrap64 (bt463.2.2.2.2.1 + 1),a1,a2,bt463.1,t479,0))))) = some (r1,r2,r3,r4,r5,r6,r7,r8,r9,r10,r11,r12):=h
 clear h
 by_cases c4 : a0_4 = 1048576
 ·rw [if_pos c4] at H
  have c4b0 : (a0_4 == 1048576) = true:=beq_iff_eq.mpr c4
  have c4b1 : (a0_4 != 1048576) = false:=bne_eq_false_iff_eq.mpr c4
  clear c4
  simp only [Option.some.injEq,Prod.mk.injEq] at H
  obtain ⟨rfl,rfl,rfl,rfl,rfl,rfl,rfl,rfl,rfl,rfl,rfl,rfl⟩:=H
  go_enter Try.func55,Try.ntmps55
  go_wp2_with (first | ((with_reducible refine gate_dst (N:=3) rfl ?_);refine boxE 3 #[.string a0_0,.slice A0_1 l0_1.length c0_1,.slice A0_2 l0_2.length c0_2,.slice A0_3 l0_3.length c0_3,.int .i64 a0_4,.int .i64 a0_5] 50 ?_;intro gb460 hg w5 hbox hb;have BK460:=Aside0.mk (hbox);have GW460:=gw hg HB;have GE460:=gw hg HB;replace HB:=hbS HB hb;clear hb hbox hg) | ((with_reducible refine gate_dst (N:=6) rfl ?_);refine boxE 6 #[.string (⟨#[]⟩ : ByteArray),.slice none 0 0,.slice none 0 0,.slice none 0 0,.int .i64 0,.int .i64 0] 50 ?_;intro gb461 hg w6 hbox hb;have BK461:=Aside0.mk (hbox);have GW461:=gw hg HB;have GE461:=gw hg HB;replace HB:=hbS HB hb;have NB460_461:=nbl hg BK460;have NB461_460:=nbg hg BK460;replace BK460:=bkB BK460 hb;clear hb hbox hg) | ((with_reducible refine gate_dst (N:=7) rfl ?_);refine boxE 7 #[.int .i64 0,.int .i64 0,.int .i64 0,.string (⟨#[]⟩ : ByteArray),.slice none 0 0] 36 ?_;intro gb462 hg w7 hbox hb;have BK462:=Aside0.mk (hbox);have GW462:=gw hg HB;have GE462:=gw hg HB;replace HB:=hbS HB hb;have NB460_462:=nbl hg BK460;have NB462_460:=nbg hg BK460;replace BK460:=bkB BK460 hb;have NB461_462:=nbl hg BK461;have NB462_461:=nbg hg BK461;replace BK461:=bkB BK461 hb;clear hb hbox hg;have hnb8:=NB460_461.out;have hnc8:=NB461_460.out;have hnb9:=NB460_462.out;have hnc9:=NB462_460.out;obtain ⟨z0,z1,z2,z3,z4,z5,y0,y1,y2,y3,y4,y5⟩:=bc6 BK460;have hnb11:=NB461_462.out;have hnc11:=NB462_461.out;obtain ⟨z0,z1,z2,z3,z4,z5,y0,y1,y2,y3,y4,y5⟩:=bc6 BK461;obtain ⟨z0,z1,z2,z3,z4,y0,y1,y2,y3,y4⟩:=bc5 BK462))
  refine bodyPost_ret (results_list (rs:=[.cell 6 50,.cell 7 36,.tmp 8]) rfl (by simp) (.cell gb461 50 #[.string (⟨#[]⟩ : ByteArray),.slice none 0 0,.slice none 0 0,.slice none 0 0,.int .i64 0,.int .i64 0] (0,0) _ rfl (bkp BK461) Try.underlying50 rfl (by kernel_rfl) (.cell gb462 36 #[.int .i64 0,.int .i64 0,.int .i64 0,.string (⟨#[]⟩ : ByteArray),.slice none 0 0] (0,0) _ rfl (bkp BK462) Try.underlying36 rfl (by kernel_rfl) (.tmp .nil)))) rfl ?_
  exact ⟨_,_,_,_,rerr,rnil,rnil,rnil,rnil,hbx HB⟩
 ·rw [if_neg c4] at H
  have c4b0 : (a0_4 == 1048576) = false:=beq_eq_false_iff_ne.mpr c4
  have c4b1 : (a0_4 != 1048576) = true:=bne_iff_ne.mpr c4
  replace H:=Option.bind_eq_some_iff.mp H
  obtain ⟨⟨t463,t464,t467,t470,t473,t474⟩,A140,H⟩:=H
  (try dsimp only at H)
  have A14:=Aside0.mk A140
  clear A140
  obtain ⟨y476,hy476⟩ : ∃ y_ : List Bool,y_ = (List.replicate t470.length false):=⟨_,rfl⟩
  replace H : ((slices_Clone_int_int.f t464).bind fun t479 => (some (t463,t464,t467,y476,wrap64 (t473 + 1),a2,wrap64 (t473 + 1),a1,a2,t463,t479,0))) = some (r1,r2,r3,r4,r5,r6,r7,r8,r9,r10,r11,r12):=by first | (rw [hy476];with_reducible exact H) | (have H2_:=(Option.bind_some _ _).symm.trans H;rw [hy476];with_reducible exact H2_) | (have H2_:=(Option.bind_some _ _).symm.trans H;with_reducible exact H2_) | with_reducible exact H | (rw [hy476];exact H) | exact H
  have Ny476:=Aside0.mk hy476
  clear hy476
  replace H:=Option.bind_eq_some_iff.mp H
  obtain ⟨t479,A150,H⟩:=H
  (try dsimp only at H)
  have A15:=Aside0.mk A150
  clear A150
  simp only [Option.some.injEq,Prod.mk.injEq] at H
  obtain ⟨rfl,rfl,rfl,rfl,rfl,rfl,rfl,rfl,rfl,rfl,rfl,rfl⟩:=H
  go_enter Try.func55,Try.ntmps55
  try go_wp2_with (first | ((with_reducible refine gate_dst (N:=3) rfl ?_);refine boxE 3 #[.string a0_0,.slice A0_1 l0_1.length c0_1,.slice A0_2 l0_2.length c0_2,.slice A0_3 l0_3.length c0_3,.int .i64 a0_4,.int .i64 a0_5] 50 ?_;intro gb460 hg w16 hbox hb;have BK460:=Aside0.mk (hbox);have GW460:=gw hg HB;have GE460:=gw hg HB;replace HB:=hbS HB hb;clear hb hbox hg) | ((with_reducible refine gate_dst (N:=6) rfl ?_);refine boxE 6 #[.string (⟨#[]⟩ : ByteArray),.slice none 0 0,.slice none 0 0,.slice none 0 0,.int .i64 0,.int .i64 0] 50 ?_;intro gb461 hg w17 hbox hb;have BK461:=Aside0.mk (hbox);have GW461:=gw hg HB;have GE461:=gw hg HB;replace HB:=hbS HB hb;have NB460_461:=nbl hg BK460;have NB461_460:=nbg hg BK460;replace BK460:=bkB BK460 hb;clear hb hbox hg) | ((with_reducible refine gate_dst (N:=7) rfl ?_);refine boxE 7 #[.int .i64 0,.int .i64 0,.int .i64 0,.string (⟨#[]⟩ : ByteArray),.slice none 0 0] 36 ?_;intro gb462 hg w18 hbox hb;have BK462:=Aside0.mk (hbox);have GW462:=gw hg HB;have GE462:=gw hg HB;replace HB:=hbS HB hb;have NB460_462:=nbl hg BK460;have NB462_460:=nbg hg BK460;replace BK460:=bkB BK460 hb;have NB461_462:=nbl hg BK461;have NB462_461:=nbg hg BK461;replace BK461:=bkB BK461 hb;clear hb hbox hg;have hnb19:=NB460_461.out;have hnc19:=NB461_460.out;have hnb20:=NB460_462.out;have hnc20:=NB462_460.out;obtain ⟨z0,z1,z2,z3,z4,z5,y0,y1,y2,y3,y4,y5⟩:=bc6 BK460) | ((with_reducible refine gate_callee (f:=76) rfl ?_);refine goesL_ (some 16) rfl rfl Try.func76 (by kernel_rfl) rfl #[.agg #[.string a0_0,.slice A0_1 l0_1.length c0_1,.slice A0_2 l0_2.length c0_2,.slice A0_3 l0_3.length c0_3,.int .i64 a0_4,.int .i64 a0_5]] rfl sma ?_;(with_reducible refine (install_own.calls a0_0 _ _ l0_1 _ _ l0_2 _ _ l0_3 a0_4 a0_5 t463 t464 t467 t470 t473 t474 _ (cb HR0_1 HB) HC0_1.out (cb HR0_2 HB) HC0_2.out (cb HR0_3 HB) HC0_3.out A14.out).mono ?_);rintro e w22 ⟨v465,v468,v471,rfl,ho0,ho1,ho2,hb⟩;refine ⟨_,rfl,?_⟩;have HO466:=Aside0.mk (Kd.R_lower ho0 (below_size (hbx HB)));have HO469:=Aside0.mk (Kd.R_lower ho1 (below_size (hbx HB)));have HO472:=Aside0.mk (Kd.R_lower ho2 (below_size (hbx HB)));replace BK460:=bkB BK460 hb;replace BK461:=bkB BK461 hb;replace BK462:=bkB BK462 hb;replace HB:=hbS HB hb;(try clear hb);(try clear hb2);(try clear hk);(try clear hi);(try clear ho0);(try clear ho1);(try clear ho2)) | ((with_reducible refine gate_dst (N:=9) rfl ?_);refine boxE 9 #[.string (⟨#[]⟩ : ByteArray),.slice none 0 0,.slice none 0 0,.slice none 0 0,.int .i64 0,.int .i64 0] 50 ?_;intro gb475 hg w23 hbox hb;replace HO466:=rB HO466 hb;replace HO469:=rB HO469 hb;replace HO472:=rB HO472 hb;have BK475:=Aside0.mk (hbox);have GW475:=gw hg HB;have GE475:=gw hg HB;replace HB:=hbS HB hb;have NB460_475:=nbl hg BK460;have NB475_460:=nbg hg BK460;replace BK460:=bkB BK460 hb;have NB461_475:=nbl hg BK461;have NB475_461:=nbg hg BK461;replace BK461:=bkB BK461 hb;have NB462_475:=nbl hg BK462;have NB475_462:=nbg hg BK462;replace BK462:=bkB BK462 hb;clear hb hbox hg;have hnb24:=NB475_460.out;have hnc24:=NB460_475.out;have hnb25:=NB475_461.out;have hnc25:=NB461_475.out;have hnb26:=NB475_462.out;have hnc26:=NB462_475.out;obtain ⟨z0,z1,z2,z3,z4,z5,y0,y1,y2,y3,y4,y5⟩:=bc6 BK475;obtain ⟨Ao28,co28,eo28⟩:=Kd.R_slice HO466.out;subst eo28;obtain ⟨Ao29,co29,eo29⟩:=Kd.R_slice HO469.out;subst eo29;obtain ⟨Ao30,co30,eo30⟩:=Kd.R_slice HO472.out;subst eo30) | ((with_reducible refine gate_store (t:=50) (p:=9) rfl ?_);refine store_event (t:=50) (p:=9) (v:=?vo_w31) (w1:=((((((w23.setCell ⟨gb475,0,none⟩ (.string t463)).setCell ⟨gb475,1,none⟩ (.slice Ao28 t464.length co28)).setCell ⟨gb475,2,none⟩ (.slice Ao29 t467.length co29)).setCell ⟨gb475,3,none⟩ (.slice Ao30 t470.length co30)).setCell ⟨gb475,4,none⟩ (.int .i64 t473)).setCell ⟨gb475,5,none⟩ (.int .i64 t474))) ?hg ?ho ?hn ?hr ?_;(case ho => rfl);(case hg => rfl);(case hn => rfl);(case hr => first | (go_simp;done) | (go_simp;rfl));intro w31 hw;have n0_ : Aside0 (Kd.R (Kd.int .i64) 3 w31 w.heap.size (fun _ => True) (.slice Ao28 t464.length co28) t464):=⟨(by rw [hw];exact (Kd.R_mono (rty (rfo HO466) BK475) (fun _ hk => trivial)))⟩;have n1_:=rsw HO469 hw;have n2_:=rsw HO472 hw;have n3_:=bsw BK460 hw;have n4_:=bsw BK461 hw;have n5_:=bsw BK462 hw;have n6_ : Aside0 (w31.heap[gb475]? = some (.cells #[.string t463,.slice Ao28 t464.length co28,.slice Ao29 t467.length co29,.slice Ao30 t470.length co30,.int .i64 t473,.int .i64 t474] 50 (0,0))):=⟨(by rw [hw];exact (bkp BK475))⟩;have n7_:=hsw HB hw;clear hw;clear HO466;clear HO469;clear HO472;clear BK460;clear BK461;clear BK462;clear BK475;clear HB;have HO466:=n0_;have HO469:=n1_;have HO472:=n2_;have BK460:=n3_;have BK461:=n4_;have BK462:=n5_;have BK475:=n6_;have HB:=n7_;clear n0_ n1_ n2_ n3_ n4_ n5_ n6_ n7_;obtain ⟨z0,z1,z2,z3,z4,z5,y0,y1,y2,y3,y4,y5⟩:=bc6 BK475) | ((with_reducible refine gate_store (t:=3) (p:=20) rfl ?_);refine store_event (t:=3) (p:=20) (v:=?vo_w33) (w1:=(w31.setCell ⟨gb475,4,none⟩ (.int .i64 (wrap64 (t473 + 1))))) ?hg ?ho ?hn ?hr ?_;(case ho => rfl);(case hg => rfl);(case hn => rfl);(case hr => first | (go_simp;done) | (go_simp;rfl));intro w33 hw;have n0_ : Aside0 (Kd.R (Kd.int .i64) 3 w33 w.heap.size (fun _ => True) (.slice Ao28 t464.length co28) t464):=⟨(by rw [hw];exact (Kd.R_mono (rty (rfo HO466) BK475) (fun _ hk => trivial)))⟩;have n1_:=rsw HO469 hw;have n2_:=rsw HO472 hw;have n3_:=bsw BK460 hw;have n4_:=bsw BK461 hw;have n5_:=bsw BK462 hw;have n6_ : Aside0 (w33.heap[gb475]? = some (.cells #[.string t463,.slice Ao28 t464.length co28,.slice Ao29 t467.length co29,.slice Ao30 t470.length co30,.int .i64 (wrap64 (t473 + 1)),.int .i64 t474] 50 (0,0))):=⟨(by rw [hw];exact (bkp BK475))⟩;have n7_:=hsw HB hw;clear hw;clear HO466;clear HO469;clear HO472;clear BK460;clear BK461;clear BK462;clear BK475;clear HB;have HO466:=n0_;have HO469:=n1_;have HO472:=n2_;have BK460:=n3_;have BK461:=n4_;have BK462:=n5_;have BK475:=n6_;have HB:=n7_;clear n0_ n1_ n2_ n3_ n4_ n5_ n6_ n7_;obtain ⟨z0,z1,z2,z3,z4,z5,y0,y1,y2,y3,y4,y5⟩:=bc6 BK475) | ((with_reducible refine gate_store (t:=3) (p:=22) rfl ?_);refine store_event (t:=3) (p:=22) (v:=?vo_w35) (w1:=(w33.setCell ⟨gb475,5,none⟩ (.int .i64 a2))) ?hg ?ho ?hn ?hr ?_;(case ho => rfl);(case hg => rfl);(case hn => rfl);(case hr => first | (go_simp;done) | (go_simp;rfl));intro w35 hw;have n0_ : Aside0 (Kd.R (Kd.int .i64) 3 w35 w.heap.size (fun _ => True) (.slice Ao28 t464.length co28) t464):=⟨(by rw [hw];exact (Kd.R_mono (rty (rfo HO466) BK475) (fun _ hk => trivial)))⟩;have n1_:=rsw HO469 hw;have n2_:=rsw HO472 hw;have n3_:=bsw BK460 hw;have n4_:=bsw BK461 hw;have n5_:=bsw BK462 hw;have n6_ : Aside0 (w35.heap[gb475]? = some (.cells #[.string t463,.slice Ao28 t464.length co28,.slice Ao29 t467.length co29,.slice Ao30 t470.length co30,.int .i64 (wrap64 (t473 + 1)),.int .i64 a2] 50 (0,0))):=⟨(by rw [hw];exact (bkp BK475))⟩;have n7_:=hsw HB hw;clear hw;clear HO466;clear HO469;clear HO472;clear BK460;clear BK461;clear BK462;clear BK475;clear HB;have HO466:=n0_;have HO469:=n1_;have HO472:=n2_;have BK460:=n3_;have BK461:=n4_;have BK462:=n5_;have BK475:=n6_;have HB:=n7_;clear n0_ n1_ n2_ n3_ n4_ n5_ n6_ n7_;obtain ⟨z0,z1,z2,z3,z4,z5,y0,y1,y2,y3,y4,y5⟩:=bc6 BK475) | ((with_reducible refine gate_builtin (b:=.clear) (xs:=#[.tmp 24]) rfl ?_);refine Kd.R_clear (enc:=Value.bool) (h1:=fun _ => rfl) (w0:=w) false w.heap.size rfl (.tmp 24) 22 4 rfl Try.underlying22 (fun _ => by kernel_rfl) rfl (.slice Ao30 t470.length co30) t470 _ rfl (ro HO472) (hbx HB) (below_size (hbx HB)) ?_;intro w37 ho hb hg;rw [← Ny476.out] at ho;replace BK460:=Aside0.mk (blk_grown (bk BK460) hg (Kd.R_ne HO472.out BK460.out (by decide)));replace BK461:=Aside0.mk (blk_grown (bk BK461) hg (Kd.R_ne HO472.out BK461.out (by decide)));replace BK462:=Aside0.mk (blk_grown (bk BK462) hg (Kd.R_ne HO472.out BK462.out (by decide)));replace HO466:=Aside0.mk (Kd.R_over' (ro HO466) (Kd.R_typed HO472.out) (by decide) hg);replace HO469:=Aside0.mk (Kd.R_grown2 HO469.out rfl hg (fun k_ e_ he_ => by have:=(HO469.out.1 k_ he_.symm);simp_all [Value.ownBlock]));replace BK475:=Aside0.mk (blk_grown (bk BK475) hg (Kd.R_ne HO472.out BK475.out (by decide)));replace HO472:=Aside0.mk (ho);replace HB:=Aside0.mk (hb);clear ho hb hg))
  replace HO466:=Aside0.mk (Kd.R_drew HO466.out)
  replace HO469:=Aside0.mk (Kd.R_drew HO469.out)
  replace HO472:=Aside0.mk (Kd.R_drew HO472.out)
  replace BK460:=Aside0.mk (blk_drew BK460.out)
  replace BK461:=Aside0.mk (blk_drew BK461.out)
  replace BK462:=Aside0.mk (blk_drew BK462.out)
  replace BK475:=Aside0.mk (blk_drew BK475.out)
  replace HB:=Aside0.mk (below_drew1 HB.out)
  refine start_ (n:=14) (S:=fun w' => w'.cell? ⟨gb475,0,none⟩ = some (.string t463) ∧ w'.cell? ⟨gb475,1,none⟩ = some (.slice Ao28 t464.length co28) ∧ w'.cell? ⟨gb475,2,none⟩ = some (.slice Ao29 t467.length co29) ∧ w'.cell? ⟨gb475,3,none⟩ = some (.slice Ao30 t470.length co30) ∧ w'.cell? ⟨gb475,4,none⟩ = some (.int .i64 (wrap64 (t473 + 1))) ∧ w'.cell? ⟨gb475,5,none⟩ = some (.int .i64 a2)) (ds:=[]) #[false,false,false,false,false,false,false,false,false,false,false,false,false,false] (by kernel_rfl) rfl rfl ⟨(blk_cell BK475.out 0).trans rfl,(blk_cell BK475.out 1).trans rfl,(blk_cell BK475.out 2).trans rfl,(blk_cell BK475.out 3).trans rfl,(blk_cell BK475.out 4).trans rfl,(blk_cell BK475.out 5).trans rfl⟩ (fun hHeld => ?_);refine with_tabW install_order.tab7 install_order.bits7 (fun HT_ HW_ => ?_)
  generalize w37.drew = w38 at HO466 HO469 HO472 BK460 BK461 BK462 BK475 HB hHeld ⊢
  refine pur 1 (some 26) #[false,true,false,false,false,false,false,false,false,false,false,false,false,false] HT_ ?_
  refine pur 3 (some 28) #[false,true,false,true,false,false,false,false,false,false,false,false,false,false] HT_ ?_
  refine pur 4 (some 29) #[false,true,false,true,true,false,false,false,false,false,false,false,false,false] HT_ ?_
  refine pur 5 (some 30) #[false,true,false,true,true,true,false,false,false,false,false,false,false,false] HT_ ?_
  refine pur 7 (some 32) #[false,true,false,true,true,true,false,true,false,false,false,false,false,false] HT_ ?_
  refine tak 0 (some 25) #[true,true,false,true,true,true,false,true,false,false,false,false,false,false] HT_ HW_ hHeld rfl (Or.inl ⟨by rfl,by rintro w' ⟨s0,s1,s2,s3,s4,s5⟩;go_simp;with_reducible rfl⟩) ?_
  refine tak 2 (some 27) #[true,true,true,true,true,true,false,true,false,false,false,false,false,false] HT_ HW_ hHeld rfl (Or.inl ⟨by rfl,by rintro w' ⟨s0,s1,s2,s3,s4,s5⟩;go_simp;with_reducible rfl⟩) ?_
  refine tak 6 (some 31) #[true,true,true,true,true,true,true,true,false,false,false,false,false,false] HT_ HW_ hHeld rfl (Or.inl ⟨by rfl,by rintro w' ⟨s0,s1,s2,s3,s4,s5⟩;go_simp;with_reducible rfl⟩) ?_
  refine tak 8 (some 33) #[true,true,true,true,true,true,true,true,true,false,false,false,false,false] HT_ HW_ hHeld rfl (Or.inl ⟨by rfl,by rintro w' ⟨s0,s1,s2,s3,s4,s5⟩;go_simp;with_reducible rfl⟩) ?_
  refine one_ (i:=9) (N:=some 34) #[true,true,true,true,true,true,true,true,true,true,false,false,false,false] rfl rfl (one_of HT_.out (by kernel_rfl)) (by decide) (fun K hK => ?_)
  refine goes_ Try.func52 (by kernel_rfl) rfl #[.slice Ao28 t464.length co28] (by rfl) rfl rfl sma ?_
  with_reducible refine (slices_Clone_int_int.calls _ _ t464 t479 _ ?side1 ?side2 A15.out).mono ?_
  (case side1 => repeat (first | exact (Kd.R_reads' HO466.out).2.2 | (with_reducible refine Kd.C_alloc ?_ _) | (with_reducible refine Kd.C_drewN ?_ _) | (with_reducible refine Kd.C_drew ?_)))
  (case side2 => exact (Kd.R_reads' HO466.out).2.1)
  rintro e w39 ⟨v480,rfl,ho0,hb⟩
  refine ⟨_,rfl,?_⟩
  replace HO469:=rB HO469 hb
  replace HO472:=rB HO472 hb
  have HO481:=Aside0.mk (Kd.R_lower (Kd.R_new' ho0 (Kd.R_lt (ro HO466))) (below_size (hbx HB)))
  replace HO466:=Aside0.mk (Kd.R_elder' (ro HO466) (Kd.R_base ho0) hb)
  replace BK460:=bkB BK460 hb
  replace BK461:=bkB BK461 hb
  replace BK462:=bkB BK462 hb
  replace BK475:=bkB BK475 hb
  replace HB:=hbS HB hb
  (try clear hb)
  (try clear hb2)
  (try clear hk)
  (try clear hi)
  (try clear ho0)
  obtain ⟨Ao40,co40,eo40⟩:=Kd.R_slice HO481.out
  (first | subst eo40 | (injection eo40 with f1_ f2_ f3_;have f4_:=f1_.symm;have f5_:=f3_.symm;clear f1_ f2_ f3_;subst f4_;subst f5_))
  refine hK.out _ _ ⟨(blk_cell BK475.out 0).trans rfl,(blk_cell BK475.out 1).trans rfl,(blk_cell BK475.out 2).trans rfl,(blk_cell BK475.out 3).trans rfl,(blk_cell BK475.out 4).trans rfl,(blk_cell BK475.out 5).trans rfl⟩ (fun hHeld => ?_)
  clear hK K
  refine nrm (some 34) ?_
  refine pur 10 (some 35) #[true,true,true,true,true,true,true,true,true,true,true,false,false,false] HT_ ?_
  refine one_ (i:=11) (N:=none) #[true,true,true,true,true,true,true,true,true,true,true,true,false,false] rfl rfl (one_of HT_.out (by kernel_rfl)) (by decide) (fun K hK => ?_)
  have hs41 : w39.cell? ⟨gb461,0,none⟩ = some (.string (⟨#[]⟩ : ByteArray)):=(blk_cell BK461.out 0).trans rfl
  have hfs41:=blk_frozen BK461.out 0
  have hns41_0:=NB460_461.out
  have hns41_2:=NB462_461.out
  have hns41_3:=NB475_461.out
  have hms41_0:=NB461_460.out
  have hms41_2:=NB461_462.out
  have hms41_3:=NB461_475.out
  have hs42 : w39.cell? ⟨gb461,1,none⟩ = some (.slice none 0 0):=(blk_cell BK461.out 1).trans rfl
  have hfs42:=blk_frozen BK461.out 1
  have hns42_0:=NB460_461.out
  have hns42_2:=NB462_461.out
  have hns42_3:=NB475_461.out
  have hms42_0:=NB461_460.out
  have hms42_2:=NB461_462.out
  have hms42_3:=NB461_475.out
  have hs43 : w39.cell? ⟨gb461,2,none⟩ = some (.slice none 0 0):=(blk_cell BK461.out 2).trans rfl
  have hfs43:=blk_frozen BK461.out 2
  have hns43_0:=NB460_461.out
  have hns43_2:=NB462_461.out
  have hns43_3:=NB475_461.out
  have hms43_0:=NB461_460.out
  have hms43_2:=NB461_462.out
  have hms43_3:=NB461_475.out
  have hs44 : w39.cell? ⟨gb461,3,none⟩ = some (.slice none 0 0):=(blk_cell BK461.out 3).trans rfl
  have hfs44:=blk_frozen BK461.out 3
  have hns44_0:=NB460_461.out
  have hns44_2:=NB462_461.out
  have hns44_3:=NB475_461.out
  have hms44_0:=NB461_460.out
  have hms44_2:=NB461_462.out
  have hms44_3:=NB461_475.out
  have hs45 : w39.cell? ⟨gb461,4,none⟩ = some (.int .i64 0):=(blk_cell BK461.out 4).trans rfl
  have hfs45:=blk_frozen BK461.out 4
  have hns45_0:=NB460_461.out
  have hns45_2:=NB462_461.out
  have hns45_3:=NB475_461.out
  have hms45_0:=NB461_460.out
  have hms45_2:=NB461_462.out
  have hms45_3:=NB461_475.out
  have hs46 : w39.cell? ⟨gb461,5,none⟩ = some (.int .i64 0):=(blk_cell BK461.out 5).trans rfl
  have hfs46:=blk_frozen BK461.out 5
  have hns46_0:=NB460_461.out
  have hns46_2:=NB462_461.out
  have hns46_3:=NB475_461.out
  have hms46_0:=NB461_460.out
  have hms46_2:=NB461_462.out
  have hms46_3:=NB461_475.out
  refine skip_ (w1:=?_) (by rfl) rfl ?_ ?_
  rotate_left
  ·go_simp
   rfl
  refine hK.out _ _ ⟨((cell_far (p:=⟨gb461,_,none⟩) NB475_461.out _).trans (((cell_far (p:=⟨gb461,_,none⟩) NB475_461.out _).trans (((cell_far (p:=⟨gb461,_,none⟩) NB475_461.out _).trans (((cell_far (p:=⟨gb461,_,none⟩) NB475_461.out _).trans (((cell_far (p:=⟨gb461,_,none⟩) NB475_461.out _).trans (((cell_far (p:=⟨gb461,_,none⟩) NB475_461.out _).trans (hHeld.1)))))))))))),((cell_far (p:=⟨gb461,_,none⟩) NB475_461.out _).trans (((cell_far (p:=⟨gb461,_,none⟩) NB475_461.out _).trans (((cell_far (p:=⟨gb461,_,none⟩) NB475_461.out _).trans (((cell_far (p:=⟨gb461,_,none⟩) NB475_461.out _).trans (((cell_far (p:=⟨gb461,_,none⟩) NB475_461.out _).trans (((cell_far (p:=⟨gb461,_,none⟩) NB475_461.out _).trans (hHeld.2.1)))))))))))),((cell_far (p:=⟨gb461,_,none⟩) NB475_461.out _).trans (((cell_far (p:=⟨gb461,_,none⟩) NB475_461.out _).trans (((cell_far (p:=⟨gb461,_,none⟩) NB475_461.out _).trans (((cell_far (p:=⟨gb461,_,none⟩) NB475_461.out _).trans (((cell_far (p:=⟨gb461,_,none⟩) NB475_461.out _).trans (((cell_far (p:=⟨gb461,_,none⟩) NB475_461.out _).trans (hHeld.2.2.1)))))))))))),((cell_far (p:=⟨gb461,_,none⟩) NB475_461.out _).trans (((cell_far (p:=⟨gb461,_,none⟩) NB475_461.out _).trans (((cell_far (p:=⟨gb461,_,none⟩) NB475_461.out _).trans (((cell_far (p:=⟨gb461,_,none⟩) NB475_461.out _).trans (((cell_far (p:=⟨gb461,_,none⟩) NB475_461.out _).trans (((cell_far (p:=⟨gb461,_,none⟩) NB475_461.out _).trans (hHeld.2.2.2.1)))))))))))),((cell_far (p:=⟨gb461,_,none⟩) NB475_461.out _).trans (((cell_far (p:=⟨gb461,_,none⟩) NB475_461.out _).trans (((cell_far (p:=⟨gb461,_,none⟩) NB475_461.out _).trans (((cell_far (p:=⟨gb461,_,none⟩) NB475_461.out _).trans (((cell_far (p:=⟨gb461,_,none⟩) NB475_461.out _).trans (((cell_far (p:=⟨gb461,_,none⟩) NB475_461.out _).trans (hHeld.2.2.2.2.1)))))))))))),((cell_far (p:=⟨gb461,_,none⟩) NB475_461.out _).trans (((cell_far (p:=⟨gb461,_,none⟩) NB475_461.out _).trans (((cell_far (p:=⟨gb461,_,none⟩) NB475_461.out _).trans (((cell_far (p:=⟨gb461,_,none⟩) NB475_461.out _).trans (((cell_far (p:=⟨gb461,_,none⟩) NB475_461.out _).trans (((cell_far (p:=⟨gb461,_,none⟩) NB475_461.out _).trans (hHeld.2.2.2.2.2))))))))))))⟩ (fun hHeld => ?_)
  clear hK K
  refine one_ (i:=12) (N:=none) #[true,true,true,true,true,true,true,true,true,true,true,true,true,false] rfl rfl (one_of HT_.out (by kernel_rfl)) (by decide) (fun K hK => ?_)
  have hs47 : w39.cell? ⟨gb462,0,none⟩ = some (.int .i64 0):=(blk_cell BK462.out 0).trans rfl
  have hfs47:=blk_frozen BK462.out 0
  have hns47_0:=NB460_462.out
  have hns47_1:=NB461_462.out
  have hns47_3:=NB475_462.out
  have hms47_0:=NB462_460.out
  have hms47_1:=NB462_461.out
  have hms47_3:=NB462_475.out
  have hs48 : w39.cell? ⟨gb462,1,none⟩ = some (.int .i64 0):=(blk_cell BK462.out 1).trans rfl
  have hfs48:=blk_frozen BK462.out 1
  have hns48_0:=NB460_462.out
  have hns48_1:=NB461_462.out
  have hns48_3:=NB475_462.out
  have hms48_0:=NB462_460.out
  have hms48_1:=NB462_461.out
  have hms48_3:=NB462_475.out
  have hs49 : w39.cell? ⟨gb462,2,none⟩ = some (.int .i64 0):=(blk_cell BK462.out 2).trans rfl
  have hfs49:=blk_frozen BK462.out 2
  have hns49_0:=NB460_462.out
  have hns49_1:=NB461_462.out
  have hns49_3:=NB475_462.out
  have hms49_0:=NB462_460.out
  have hms49_1:=NB462_461.out
  have hms49_3:=NB462_475.out
  have hs50 : w39.cell? ⟨gb462,3,none⟩ = some (.string (⟨#[]⟩ : ByteArray)):=(blk_cell BK462.out 3).trans rfl
  have hfs50:=blk_frozen BK462.out 3
  have hns50_0:=NB460_462.out
  have hns50_1:=NB461_462.out
  have hns50_3:=NB475_462.out
  have hms50_0:=NB462_460.out
  have hms50_1:=NB462_461.out
  have hms50_3:=NB462_475.out
  have hs51 : w39.cell? ⟨gb462,4,none⟩ = some (.slice none 0 0):=(blk_cell BK462.out 4).trans rfl
  have hfs51:=blk_frozen BK462.out 4
  have hns51_0:=NB460_462.out
  have hns51_1:=NB461_462.out
  have hns51_3:=NB475_462.out
  have hms51_0:=NB462_460.out
  have hms51_1:=NB462_461.out
  have hms51_3:=NB462_475.out
  refine skip_ (w1:=?_) (by rfl) rfl ?_ ?_
  rotate_left
  ·go_simp
   rfl
  refine hK.out _ _ ⟨((cell_far (p:=⟨gb462,_,none⟩) NB475_462.out _).trans (((cell_far (p:=⟨gb462,_,none⟩) NB475_462.out _).trans (((cell_far (p:=⟨gb462,_,none⟩) NB475_462.out _).trans (((cell_far (p:=⟨gb462,_,none⟩) NB475_462.out _).trans (((cell_far (p:=⟨gb462,_,none⟩) NB475_462.out _).trans (hHeld.1)))))))))),((cell_far (p:=⟨gb462,_,none⟩) NB475_462.out _).trans (((cell_far (p:=⟨gb462,_,none⟩) NB475_462.out _).trans (((cell_far (p:=⟨gb462,_,none⟩) NB475_462.out _).trans (((cell_far (p:=⟨gb462,_,none⟩) NB475_462.out _).trans (((cell_far (p:=⟨gb462,_,none⟩) NB475_462.out _).trans (hHeld.2.1)))))))))),((cell_far (p:=⟨gb462,_,none⟩) NB475_462.out _).trans (((cell_far (p:=⟨gb462,_,none⟩) NB475_462.out _).trans (((cell_far (p:=⟨gb462,_,none⟩) NB475_462.out _).trans (((cell_far (p:=⟨gb462,_,none⟩) NB475_462.out _).trans (((cell_far (p:=⟨gb462,_,none⟩) NB475_462.out _).trans (hHeld.2.2.1)))))))))),((cell_far (p:=⟨gb462,_,none⟩) NB475_462.out _).trans (((cell_far (p:=⟨gb462,_,none⟩) NB475_462.out _).trans (((cell_far (p:=⟨gb462,_,none⟩) NB475_462.out _).trans (((cell_far (p:=⟨gb462,_,none⟩) NB475_462.out _).trans (((cell_far (p:=⟨gb462,_,none⟩) NB475_462.out _).trans (hHeld.2.2.2.1)))))))))),((cell_far (p:=⟨gb462,_,none⟩) NB475_462.out _).trans (((cell_far (p:=⟨gb462,_,none⟩) NB475_462.out _).trans (((cell_far (p:=⟨gb462,_,none⟩) NB475_462.out _).trans (((cell_far (p:=⟨gb462,_,none⟩) NB475_462.out _).trans (((cell_far (p:=⟨gb462,_,none⟩) NB475_462.out _).trans (hHeld.2.2.2.2.1)))))))))),((cell_far (p:=⟨gb462,_,none⟩) NB475_462.out _).trans (((cell_far (p:=⟨gb462,_,none⟩) NB475_462.out _).trans (((cell_far (p:=⟨gb462,_,none⟩) NB475_462.out _).trans (((cell_far (p:=⟨gb462,_,none⟩) NB475_462.out _).trans (((cell_far (p:=⟨gb462,_,none⟩) NB475_462.out _).trans (hHeld.2.2.2.2.2))))))))))⟩ (fun hHeld => ?_)
  clear hK K
  refine pur 13 (some 8) #[true,true,true,true,true,true,true,true,true,true,true,true,true,true] HT_ ?_
  refine done_ (done_of HT_.out (by kernel_rfl)) ?_
  try go_wp2
  refine bodyPost_ret (results_list (rs:=[.cell 6 50,.cell 7 36,.tmp 8]) rfl (by simp) (.cell gb461 50 #[.string t463,.slice Ao28 t464.length co28,.slice Ao29 t467.length co29,.slice Ao30 t470.length co30,.int .i64 (wrap64 (t473 + 1)),.int .i64 a2] (0,0) _ rfl (bkp BK461) Try.underlying50 rfl (by kernel_rfl) (.cell gb462 36 #[.int .i64 (wrap64 (t473 + 1)),.int .i64 a1,.int .i64 a2,.string t463,.slice Ao40 t479.length co40] (0,0) _ rfl (bkp BK462) Try.underlying36 rfl (by kernel_rfl) (.tmp .nil)))) rfl ?_
  exact ⟨_,_,_,_,rerr,Kd.R_mono (rty (rty (rfo HO466) BK461) BK462) (fun _ hk => hk.1.1.2),rfo HO469,rfo HO472,Kd.R_mono (rty (rty (rfo HO481) BK461) BK462) (fun _ hk => hk.1.1.2),hbx HB⟩
end Go.Proofs.Ytdigplhjfjchnaa.PQ
