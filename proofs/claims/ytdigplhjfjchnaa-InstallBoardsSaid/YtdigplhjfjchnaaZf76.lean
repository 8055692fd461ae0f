-- Printed by fprint.py and zip.py, programs of this session's, over the kit's print; Lean checks it.
import Derived.Test.YtdigplhjfjchnaaZa
namespace Go.Proofs.Ytdigplhjfjchnaa.PQ
open Go.RowKit Go.Proofs.YtdigplhjfjchnaaW.PrintWords Go.Proofs.YtdigplhjfjchnaaW.PrintLast Go.Proofs.YtdigplhjfjchnaaW.PrintMore
attribute [local go_sem] max2_int min2_int max_two min_two max_three min_three max_four min_four   -- for this text's walks alone
set_option linter.unusedVariables false
set_option linter.unusedSimpArgs false
def install_own.f (a0_0 : ByteArray) (l0_1 : List Int) (l0_2 : List Bool) (l0_3 : List Bool) (a0_4 a0_5 : Int) : Option (ByteArray × List Int × List Bool × List Bool × Int × Int):=(slices_Clone_int_int.f l0_1).bind fun t414 => ((install_own_1.f l0_2).bind fun t417 => ((install_own_1.f l0_3).bind fun t420 => (some (a0_0,t414,t417,t420,a0_4,a0_5))))
def install_own.T2 : Bool × List (List Nat × List Nat):=(true,[([],[]),([0],[0]),([1],[1]),([],[]),([],[]),([4],[4]),([3,5,2],[3,5]),([],[]),([],[]),([8],[8]),([7,9,6],[7,9]),([0,1,2,4,5,8,9],[]),([11,2,10,0,1,2,4,5,8,9],[2,11]),([0,1,2,3,4,5,6,8,9,11,12],[]),([13,6,12,0,1,2,3,4,5,6,8,9,11,12],[6,13]),([0,1,2,3,4,5,6,7,8,9,10,11,12,13,14],[]),([15,10,14,0,1,2,3,4,5,6,7,8,9,10,11,12,13,14],[10,15])])
def install_own.B2 : List Nat:=[0,1,3,0,0,16,63,0,0,256,1023,823,4095,8191,16383,32767,65535]
theorem install_own.tab2 : rtab .any (opsOf Try.f76 2) = install_own.T2:=by kernel_rfl
theorem install_own.bits2 : waitsOk install_own.T2.2 install_own.B2 = true:=by kernel_rfl
set_option maxHeartbeats 8000000 in
set_option maxRecDepth 100000 in
theorem install_own.calls (a0_0 : ByteArray) (A0_1 : Option Addr) (c0_1 : Nat) (l0_1 : List Int) (A0_2 : Option Addr) (c0_2 : Nat) (l0_2 : List Bool) (A0_3 : Option Addr) (c0_3 : Nat) (l0_3 : List Bool) (a0_4 a0_5 : Int) (r1 : ByteArray) (r2 : List Int) (r3 : List Bool) (r4 : List Bool) (r5 r6 : Int) (w : World) (hr0_1 : Kd.C (Kd.int .i64) w A0_1 l0_1.length l0_1) (hc0_1 : l0_1.length ≤ c0_1) (hr0_2 : Kd.C Kd.bool w A0_2 l0_2.length l0_2) (hc0_2 : l0_2.length ≤ c0_2) (hr0_3 : Kd.C Kd.bool w A0_3 l0_3.length l0_3) (hc0_3 : l0_3.length ≤ c0_3) (h : install_own.f a0_0 l0_1 l0_2 l0_3 a0_4 a0_5 = some (r1,r2,r3,r4,r5,r6)) :
 Calls Try.prog 76 #[.agg #[.string a0_0,.slice A0_1 l0_1.length c0_1,.slice A0_2 l0_2.length c0_2,.slice A0_3 l0_3.length c0_3,.int .i64 a0_4,.int .i64 a0_5]] w fun e w' => ∃ v1_ v2_ v3_ : Value,e = .returned (.agg #[.string r1,v1_,v2_,v3_,.int .i64 r5,.int .i64 r6]) ∧ Kd.R (Kd.int .i64) 3 w' w.heap.size (fun _ => True) v1_ r2 ∧ Kd.R Kd.bool 4 w' w.heap.size (fun k_ => some k_ ≠ (v3_ : Value).ownBlock) v2_ r3 ∧ Kd.R Kd.bool 4 w' w.heap.size (fun k_ => some k_ ≠ (v2_ : Value).ownBlock) v3_ r4 ∧ Below w.heap.size w w':=by
 have hu50:=Try.underlying50
 have HR0_1:=Aside0.mk hr0_1
 have HC0_1:=Aside0.mk hc0_1
 clear hr0_1 hc0_1
 have HR0_2:=Aside0.mk hr0_2
 have HC0_2:=Aside0.mk hc0_2
 clear hr0_2 hc0_2
 have HR0_3:=Aside0.mk hr0_3
 have HC0_3:=Aside0.mk hc0_3
 clear hr0_3 hc0_3
 have HB:=Aside0.mk (Below.refl w.heap.size w)
 have H : ((slices_Clone_int_int.f l0_1).bind fun t414 => ((install_own_1.f l0_2).bind fun t417 => ((install_own_1.f l0_3).bind fun t420 => (some (a0_0,t414,t417,t420,a0_4,a0_5))))) = some (r1,r2,r3,r4,r5,r6):=h
 clear h
 replace H:=Option.bind_eq_some_iff.mp H
 obtain ⟨t414,A20,H⟩:=H
 (try dsimp only at H)
 have A2:=Aside0.mk A20
 clear A20
 replace H:=Option.bind_eq_some_iff.mp H
 obtain ⟨t417,A30,H⟩:=H
 (try dsimp only at H)
 have A3:=Aside0.mk A30
 clear A30
 replace H:=Option.bind_eq_some_iff.mp H
 obtain ⟨t420,A40,H⟩:=H
 (try dsimp only at H)
 have A4:=Aside0.mk A40
 clear A40
 simp only [Option.some.injEq,Prod.mk.injEq] at H
 obtain ⟨rfl,rfl,rfl,rfl,rfl,rfl⟩:=H
 go_enter Try.func76,Try.ntmps76
 try go_wp2_with (first | ((with_reducible refine gate_dst (N:=1) rfl ?_);refine boxE 1 #[.string a0_0,.slice A0_1 l0_1.length c0_1,.slice A0_2 l0_2.length c0_2,.slice A0_3 l0_3.length c0_3,.int .i64 a0_4,.int .i64 a0_5] 50 ?_;intro gb412 hg w5 hbox hb;have BK412:=Aside0.mk (hbox);have GW412:=gw hg HB;have GE412:=gw hg HB;replace HB:=hbS HB hb;clear hb hbox hg) | ((with_reducible refine gate_dst (N:=2) rfl ?_);refine boxE 2 #[.string (⟨#[]⟩ : ByteArray),.slice none 0 0,.slice none 0 0,.slice none 0 0,.int .i64 0,.int .i64 0] 50 ?_;intro gb413 hg w6 hbox hb;have BK413:=Aside0.mk (hbox);have GW413:=gw hg HB;have GE413:=gw hg HB;replace HB:=hbS HB hb;have NB412_413:=nbl hg BK412;have NB413_412:=nbg hg BK412;replace BK412:=bkB BK412 hb;clear hb hbox hg))
 replace BK412:=Aside0.mk (blk_drew BK412.out)
 replace BK413:=Aside0.mk (blk_drew BK413.out)
 replace HB:=Aside0.mk (below_drew1 HB.out)
 refine start_ (n:=17) (S:=fun w' => w'.cell? ⟨gb412,0,none⟩ = some (.string a0_0) ∧ w'.cell? ⟨gb412,1,none⟩ = some (.slice A0_1 l0_1.length c0_1) ∧ w'.cell? ⟨gb412,2,none⟩ = some (.slice A0_2 l0_2.length c0_2) ∧ w'.cell? ⟨gb412,3,none⟩ = some (.slice A0_3 l0_3.length c0_3) ∧ w'.cell? ⟨gb412,4,none⟩ = some (.int .i64 a0_4) ∧ w'.cell? ⟨gb412,5,none⟩ = some (.int .i64 a0_5)) (ds:=[12,14,16]) #[false,false,false,false,false,false,false,false,false,false,false,false,false,false,false,false,false] (by kernel_rfl) rfl rfl ⟨(blk_cell BK412.out 0).trans rfl,(blk_cell BK412.out 1).trans rfl,(blk_cell BK412.out 2).trans rfl,(blk_cell BK412.out 3).trans rfl,(blk_cell BK412.out 4).trans rfl,(blk_cell BK412.out 5).trans rfl⟩ (fun hHeld => ?_);refine with_tabW install_own.tab2 install_own.bits2 (fun HT_ HW_ => ?_)
 generalize w6.drew = w7 at BK412 BK413 HB hHeld ⊢
 refine pur 0 (some 4) #[true,false,false,false,false,false,false,false,false,false,false,false,false,false,false,false,false] HT_ ?_
 refine pur 3 (some 7) #[true,false,false,true,false,false,false,false,false,false,false,false,false,false,false,false,false] HT_ ?_
 refine pur 4 (some 8) #[true,false,false,true,true,false,false,false,false,false,false,false,false,false,false,false,false] HT_ ?_
 refine pur 7 (some 11) #[true,false,false,true,true,false,false,true,false,false,false,false,false,false,false,false,false] HT_ ?_
 refine pur 8 (some 12) #[true,false,false,true,true,false,false,true,true,false,false,false,false,false,false,false,false] HT_ ?_
 refine tak 1 (some 5) #[true,true,false,true,true,false,false,true,true,false,false,false,false,false,false,false,false] HT_ HW_ hHeld rfl (Or.inl ⟨by rfl,by rintro w' ⟨s0,s1,s2,s3,s4,s5⟩;go_simp;with_reducible rfl⟩) ?_
 refine tak 5 (some 9) #[true,true,false,true,true,true,false,true,true,false,false,false,false,false,false,false,false] HT_ HW_ hHeld rfl (Or.inl ⟨by rfl,by rintro w' ⟨s0,s1,s2,s3,s4,s5⟩;go_simp;with_reducible rfl⟩) ?_
 refine tak 9 (some 13) #[true,true,false,true,true,true,false,true,true,true,false,false,false,false,false,false,false] HT_ HW_ hHeld rfl (Or.inl ⟨by rfl,by rintro w' ⟨s0,s1,s2,s3,s4,s5⟩;go_simp;with_reducible rfl⟩) ?_
 refine one_ (i:=2) (N:=some 6) #[true,true,true,true,true,true,false,true,true,true,false,false,false,false,false,false,false] rfl rfl (one_of HT_.out (by kernel_rfl)) (by decide) (fun K hK => ?_)
 refine goes_ Try.func52 (by kernel_rfl) rfl #[.slice A0_1 l0_1.length c0_1] (by rfl) rfl rfl sma ?_
 with_reducible refine (slices_Clone_int_int.calls _ _ l0_1 t414 _ ?side1 ?side2 A2.out).mono ?_
 (case side1 => repeat (first | exact (Kd.C_below HR0_1.out HB.out) | (with_reducible refine Kd.C_alloc ?_ _) | (with_reducible refine Kd.C_drewN ?_ _) | (with_reducible refine Kd.C_drew ?_)))
 (case side2 => exact HC0_1.out)
 rintro e w8 ⟨v415,rfl,ho0,hb⟩
 refine ⟨_,rfl,?_⟩
 have HO416:=Aside0.mk (Kd.R_lower ho0 (below_size (hbx HB)))
 replace BK412:=bkB BK412 hb
 replace BK413:=bkB BK413 hb
 replace HB:=hbS HB hb
 (try clear hb)
 (try clear ho0)
 refine hK.out _ _ ⟨(blk_cell BK412.out 0).trans rfl,(blk_cell BK412.out 1).trans rfl,(blk_cell BK412.out 2).trans rfl,(blk_cell BK412.out 3).trans rfl,(blk_cell BK412.out 4).trans rfl,(blk_cell BK412.out 5).trans rfl⟩ (fun hHeld => ?_)
 clear hK K
 refine nrm (some 6) ?_
 refine pur 11 (some 15) #[true,true,true,true,true,true,false,true,true,true,false,true,false,false,false,false,false] HT_ ?_
 refine one_ (i:=6) (N:=some 10) #[true,true,true,true,true,true,true,true,true,true,false,true,false,false,false,false,false] rfl rfl (one_of HT_.out (by kernel_rfl)) (by decide) (fun K hK => ?_)
 refine goes_fv Try.func86 (by kernel_rfl) rfl #[.slice A0_2 l0_2.length c0_2] (by rfl) rfl rfl (by rfl) sma ?_
 with_reducible refine (install_own_1.calls _ _ l0_2 t417 _ ?side1 ?side2 A3.out).mono ?_
 (case side1 => repeat (first | exact (Kd.C_below HR0_2.out HB.out) | (with_reducible refine Kd.C_alloc ?_ _) | (with_reducible refine Kd.C_drewN ?_ _) | (with_reducible refine Kd.C_drew ?_)))
 (case side2 => exact HC0_2.out)
 rintro e w9 ⟨v418,rfl,ho0,hb⟩
 refine ⟨_,rfl,?_⟩
 replace HO416:=rB HO416 hb
 have HO419:=Aside0.mk (Kd.R_lower ho0 (below_size (hbx HB)))
 replace BK412:=bkB BK412 hb
 replace BK413:=bkB BK413 hb
 replace HB:=hbS HB hb
 (try clear hb)
 (try clear ho0)
 refine hK.out _ _ ⟨(blk_cell BK412.out 0).trans rfl,(blk_cell BK412.out 1).trans rfl,(blk_cell BK412.out 2).trans rfl,(blk_cell BK412.out 3).trans rfl,(blk_cell BK412.out 4).trans rfl,(blk_cell BK412.out 5).trans rfl⟩ (fun hHeld => ?_)
 clear hK K
 refine nrm (some 10) ?_
 refine one_ (i:=10) (N:=some 14) #[true,true,true,true,true,true,true,true,true,true,true,true,false,false,false,false,false] rfl rfl (one_of HT_.out (by kernel_rfl)) (by decide) (fun K hK => ?_)
 refine goes_fv Try.func86 (by kernel_rfl) rfl #[.slice A0_3 l0_3.length c0_3] (by rfl) rfl rfl (by rfl) sma ?_
 with_reducible refine (install_own_1.calls _ _ l0_3 t420 _ ?side1 ?side2 A4.out).mono ?_
 (case side1 => repeat (first | exact (Kd.C_below HR0_3.out HB.out) | (with_reducible refine Kd.C_alloc ?_ _) | (with_reducible refine Kd.C_drewN ?_ _) | (with_reducible refine Kd.C_drew ?_)))
 (case side2 => exact HC0_3.out)
 rintro e w10 ⟨v421,rfl,ho0,hb⟩
 refine ⟨_,rfl,?_⟩
 replace HO416:=rB HO416 hb
 have HO422:=Aside0.mk (Kd.R_lower (Kd.R_new' ho0 (Kd.R_lt (ro HO419))) (below_size (hbx HB)))
 replace HO419:=Aside0.mk (Kd.R_elder' (ro HO419) (Kd.R_base ho0) hb)
 replace BK412:=bkB BK412 hb
 replace BK413:=bkB BK413 hb
 replace HB:=hbS HB hb
 (try clear hb)
 (try clear ho0)
 obtain ⟨Ao11,co11,eo11⟩:=Kd.R_slice HO416.out
 (first | subst eo11 | (injection eo11 with f1_ f2_ f3_;have f4_:=f1_.symm;have f5_:=f3_.symm;clear f1_ f2_ f3_;subst f4_;subst f5_))
 obtain ⟨Ao13,co13,eo13⟩:=Kd.R_slice HO419.out
 (first | subst eo13 | (injection eo13 with f1_ f2_ f3_;have f4_:=f1_.symm;have f5_:=f3_.symm;clear f1_ f2_ f3_;subst f4_;subst f5_))
 obtain ⟨Ao15,co15,eo15⟩:=Kd.R_slice HO422.out
 (first | subst eo15 | (injection eo15 with f1_ f2_ f3_;have f4_:=f1_.symm;have f5_:=f3_.symm;clear f1_ f2_ f3_;subst f4_;subst f5_))
 refine hK.out _ _ ⟨(blk_cell BK412.out 0).trans rfl,(blk_cell BK412.out 1).trans rfl,(blk_cell BK412.out 2).trans rfl,(blk_cell BK412.out 3).trans rfl,(blk_cell BK412.out 4).trans rfl,(blk_cell BK412.out 5).trans rfl⟩ (fun hHeld => ?_)
 clear hK K
 refine nrm (some 14) ?_
 refine last_ (i:=12) (N:=none) #[true,true,true,true,true,true,true,true,true,true,true,true,true,false,false,false,false] rfl rfl (one_of HT_.out (by kernel_rfl)) (by decide) (fun K hK => ?_)
 have hs12 : w10.cell? ⟨gb412,1,none⟩ = some (.slice A0_1 l0_1.length c0_1):=(blk_cell BK412.out 1).trans rfl
 have hfs12:=blk_frozen BK412.out 1
 have hns12_1:=NB413_412.out
 have hms12_1:=NB412_413.out
 refine skip_ (w1:=?_) (by rfl) rfl ?_ ?_
 rotate_left
 ·go_simp
  rfl
 refine hK.out _ _ ?_
 clear hK K
 refine pur 13 (some 16) #[true,true,true,true,true,true,true,true,true,true,true,true,true,true,false,false,false] HT_ ?_
 refine last_ (i:=14) (N:=none) #[true,true,true,true,true,true,true,true,true,true,true,true,true,true,true,false,false] rfl rfl (one_of HT_.out (by kernel_rfl)) (by decide) (fun K hK => ?_)
 have hs14 : w10.cell? ⟨gb412,2,none⟩ = some (.slice A0_2 l0_2.length c0_2):=(blk_cell BK412.out 2).trans rfl
 have hfs14:=blk_frozen BK412.out 2
 have hns14_1:=NB413_412.out
 have hms14_1:=NB412_413.out
 refine skip_ (w1:=?_) (by rfl) rfl ?_ ?_
 rotate_left
 ·go_simp
  rfl
 refine hK.out _ _ ?_
 clear hK K
 refine pur 15 (some 17) #[true,true,true,true,true,true,true,true,true,true,true,true,true,true,true,true,false] HT_ ?_
 refine last_ (i:=16) (N:=none) #[true,true,true,true,true,true,true,true,true,true,true,true,true,true,true,true,true] rfl rfl (one_of HT_.out (by kernel_rfl)) (by decide) (fun K hK => ?_)
 have hs16 : w10.cell? ⟨gb412,3,none⟩ = some (.slice A0_3 l0_3.length c0_3):=(blk_cell BK412.out 3).trans rfl
 have hfs16:=blk_frozen BK412.out 3
 have hns16_1:=NB413_412.out
 have hms16_1:=NB412_413.out
 refine skip_ (w1:=?_) (by rfl) rfl ?_ ?_
 rotate_left
 ·go_simp
  rfl
 refine hK.out _ _ ?_
 clear hK K
 refine done_ (done_of HT_.out (by kernel_rfl)) ?_
 have hnb17:=NB412_413.out
 have hnc17:=NB413_412.out
 obtain ⟨z0,z1,z2,z3,z4,z5,y0,y1,y2,y3,y4,y5⟩:=bc6 BK412
 obtain ⟨z0,z1,z2,z3,z4,z5,y0,y1,y2,y3,y4,y5⟩:=bc6 BK413
 try go_wp2
 refine bodyPost_ret (results_cell_row rfl _ _ gb413 50 #[.string a0_0,.slice Ao11 t414.length co11,.slice Ao13 t417.length co13,.slice Ao15 t420.length co15,.int .i64 a0_4,.int .i64 a0_5] (0,0) _ rfl (bkp BK413) Try.underlying50 rfl (by kernel_rfl)) rfl ?_
 exact ⟨_,_,_,rerr,Kd.R_mono (rty (rty (rfo HO416) BK412) BK413) (fun _ hk => trivial),Kd.R_mono (rty (rty (rfo HO419) BK412) BK413) (fun _ hk => hk.1.1.2),Kd.R_mono (rty (rty (rfo HO422) BK412) BK413) (fun _ hk => hk.1.1.2),hbx HB⟩
end Go.Proofs.Ytdigplhjfjchnaa.PQ
