-- Printed by fprint.py and zip.py, programs of this session's, over the kit's print; Lean checks it.
import Derived.Test.YtdigplhjfjchnaaZf8p5a
import Derived.Test.YtdigplhjfjchnaaZf8p5b
import Derived.Test.YtdigplhjfjchnaaZf8p5c
import Derived.Test.YtdigplhjfjchnaaZf8p5d
import Derived.Test.YtdigplhjfjchnaaZf8p5e
import Derived.Test.YtdigplhjfjchnaaZf8p7
namespace Go.Proofs.Ytdigplhjfjchnaa.PQ
open Go.RowKit Go.Proofs.YtdigplhjfjchnaaW.PrintWords Go.Proofs.YtdigplhjfjchnaaW.PrintLast Go.Proofs.YtdigplhjfjchnaaW.PrintMore
attribute [local go_sem] max2_int min2_int max_two min_two max_three min_three max_four min_four   -- for this text's walks alone
set_option linter.unusedVariables false
set_option linter.unusedSimpArgs false
set_option maxHeartbeats 8000000 in
set_option maxRecDepth 100000 in
theorem hopmeshlaw49_InstallBoards.calls (k : Nat) (a0_0 : ByteArray) (A0_1 : Option Addr) (c0_1 : Nat) (l0_1 : List Int) (A0_2 : Option Addr) (c0_2 : Nat) (l0_2 : List Bool) (A0_3 : Option Addr) (c0_3 : Nat) (l0_3 : List Bool) (a0_4 a0_5 : Int) (a1 : ByteArray) (a2 a3 : Int) (r : Bool) (w : World) (hr0_1 : Kd.C (Kd.int .i64) w A0_1 l0_1.length l0_1) (hc0_1 : l0_1.length ≤ c0_1) (hr0_2 : Kd.C Kd.bool w A0_2 l0_2.length l0_2) (hc0_2 : l0_2.length ≤ c0_2) (hr0_3 : Kd.C Kd.bool w A0_3 l0_3.length l0_3) (hc0_3 : l0_3.length ≤ c0_3) (h : hopmeshlaw49_InstallBoards.f k a0_0 l0_1 l0_2 l0_3 a0_4 a0_5 a1 a2 a3 = some r) :
 Calls Try.prog 8 #[.agg #[.string a0_0,.slice A0_1 l0_1.length c0_1,.slice A0_2 l0_2.length c0_2,.slice A0_3 l0_3.length c0_3,.int .i64 a0_4,.int .i64 a0_5],.string a1,.int .i64 a2,.int .i64 a3] w fun e w' => e = .returned (.bool r) ∧ Below w.heap.size w w':=by
 have hu50:=Try.underlying50
 have hu36:=Try.underlying36
 have HR0_1:=Aside0.mk hr0_1
 have HC0_1:=Aside0.mk hc0_1
 clear hr0_1 hc0_1
 have HR0_2:=Aside0.mk hr0_2
 have HC0_2:=Aside0.mk hc0_2
 clear hr0_2 hc0_2
 have HR0_3:=Aside0.mk hr0_3
 have HC0_3:=Aside0.mk hc0_3
 clear hr0_3 hc0_3
 have HB:=Aside0.mk (Below.refl w.heap.size w)
 have H : ((hopmeshlaw49_awake.f k).bind fun t894 => (if t894 = true then ((hopmeshref49_FewBoard.f a0_0 l0_1 l0_2 l0_3 a0_4 a0_5).bind fun t895 => (if t895 = true then (hopmeshlaw49_InstallBoards.j0 k a1 a2 a3 (decide ((a1.size : Int) > 100)) a0_0 l0_1 l0_2 l0_3 a0_4 a0_5) else (hopmeshlaw49_InstallBoards.j0 k a1 a2 a3 true a0_0 l0_1 l0_2 l0_3 a0_4 a0_5))) else (hopmeshlaw49_InstallBoards.j0 k a1 a2 a3 true a0_0 l0_1 l0_2 l0_3 a0_4 a0_5))) = some r:=h
 clear h
 have HC5:=Aside0.mk H
 clear H
 go_enter Try.func8,Try.ntmps8
 go_upto_region 1 with (first | ((with_reducible refine gate_dst (N:=4) rfl ?_);(try (refine gate_guard (by rfl) ?_;dsimp only));refine boxE 4 #[.string a0_0,.slice A0_1 l0_1.length c0_1,.slice A0_2 l0_2.length c0_2,.slice A0_3 l0_3.length c0_3,.int .i64 a0_4,.int .i64 a0_5] 50 ?_;intro gb893 hg w6 hbox hb;have BK893:=Aside0.mk (hbox);have GW893:=gw hg HB;have GE893:=gw hg HB;replace HB:=hbS HB hb;clear hb hbox hg))
 (try simp only [Act.put,List.setIfInBounds_toArray,List.set_cons_zero,List.set_cons_succ])
 go_cut [26] (fun v26 wc => ∃ (kq : Nat) (x26_4 : Bool),v26 = .bool x26_4 ∧ Aside0 (hopmeshlaw49_InstallBoards.j0 kq a1 a2 a3 x26_4 a0_0 l0_1 l0_2 l0_3 a0_4 a0_5 = some r) ∧ Aside0 (kq ≤ k) ∧ Aside0 (wc.heap[gb893]? = some (.cells #[.string a0_0,(.slice A0_1 l0_1.length c0_1),(.slice A0_2 l0_2.length c0_2),(.slice A0_3 l0_3.length c0_3),.int .i64 a0_4,.int .i64 a0_5] 50 (0,0))) ∧ Aside0 (Below w.heap.size w wc))
 case first =>
  have H:=HC5.out
  clear HC5
  replace H:=Option.bind_eq_some_iff.mp H
  obtain ⟨t894,A70,H⟩:=H
  (try dsimp only at H)
  have A7:=Aside0.mk A70
  clear A70
  by_cases c8 : t894 = true
  ·subst c8
   rw [if_pos rfl] at H
   replace H:=Option.bind_eq_some_iff.mp H
   obtain ⟨t895,A90,H⟩:=H
   (try dsimp only at H)
   have A9:=Aside0.mk A90
   clear A90
   by_cases c10 : t895 = true
   ·subst c10
    rw [if_pos rfl] at H
    have H':=Aside0.mk H
    clear H
    go_wp2_with (first | ((with_reducible refine gate_callee (f:=10) rfl ?_);refine goesL_ (some 15) rfl rfl Try.func10 (by kernel_rfl) rfl #[] rfl sma ?_;(with_reducible refine (hopmeshlaw49_awake.calls k  true _ A7.out).mono ?_);rintro e w11 ⟨rfl,hb⟩;refine ⟨_,rfl,?_⟩;replace BK893:=bkB BK893 hb;replace HB:=hbS HB hb;(try clear hb);(try clear hb2);(try clear hk);(try clear hi);obtain ⟨z0,z1,z2,z3,z4,z5,y0,y1,y2,y3,y4,y5⟩:=bc6 BK893) | (go_at_call 29;(with_reducible refine (hopmeshref49_FewBoard.calls a0_0 _ _ l0_1 _ _ l0_2 _ _ l0_3 a0_4 a0_5 true _ (cb HR0_1 HB) HC0_1.out (cb HR0_2 HB) HC0_2.out (cb HR0_3 HB) HC0_3.out A9.out).mono ?_);rintro e w13 ⟨rfl,hb⟩;replace BK893:=bkB BK893 hb;replace HB:=hbS HB hb;(try clear hb);(try clear hb2);(try clear hk);(try clear hi)))
    go_meet
    case rel => exact ⟨_,(decide ((a1.size : Int) > 100)),rfs,H',kle,bkA BK893,hbA HB⟩
   ·replace c10:=Bool.eq_false_iff.mpr c10
    subst c10
    rw [if_neg (show ¬ (false = true) by decide)] at H
    have H':=Aside0.mk H
    clear H
    go_wp2_with (first | ((with_reducible refine gate_callee (f:=10) rfl ?_);refine goesL_ (some 15) rfl rfl Try.func10 (by kernel_rfl) rfl #[] rfl sma ?_;(with_reducible refine (hopmeshlaw49_awake.calls k  true _ A7.out).mono ?_);rintro e w14 ⟨rfl,hb⟩;refine ⟨_,rfl,?_⟩;replace BK893:=bkB BK893 hb;replace HB:=hbS HB hb;(try clear hb);(try clear hb2);(try clear hk);(try clear hi);obtain ⟨z0,z1,z2,z3,z4,z5,y0,y1,y2,y3,y4,y5⟩:=bc6 BK893) | (go_at_call 29;(with_reducible refine (hopmeshref49_FewBoard.calls a0_0 _ _ l0_1 _ _ l0_2 _ _ l0_3 a0_4 a0_5 false _ (cb HR0_1 HB) HC0_1.out (cb HR0_2 HB) HC0_2.out (cb HR0_3 HB) HC0_3.out A9.out).mono ?_);rintro e w16 ⟨rfl,hb⟩;replace BK893:=bkB BK893 hb;replace HB:=hbS HB hb;(try clear hb);(try clear hb2);(try clear hk);(try clear hi)))
    go_meet
    case rel => exact ⟨_,(true),rfs,H',kle,bkA BK893,hbA HB⟩
  ·replace c8:=Bool.eq_false_iff.mpr c8
   subst c8
   rw [if_neg (show ¬ (false = true) by decide)] at H
   have H':=Aside0.mk H
   clear H
   go_wp2_with (first | ((with_reducible refine gate_callee (f:=10) rfl ?_);refine goesL_ (some 15) rfl rfl Try.func10 (by kernel_rfl) rfl #[] rfl sma ?_;(with_reducible refine (hopmeshlaw49_awake.calls k  false _ A7.out).mono ?_);rintro e w17 ⟨rfl,hb⟩;refine ⟨_,rfl,?_⟩;replace BK893:=bkB BK893 hb;replace HB:=hbS HB hb;(try clear hb);(try clear hb2);(try clear hk);(try clear hi)))
   go_meet
   case rel => exact ⟨_,(true),rfs,H',kle,bkA BK893,hbA HB⟩
 case rest =>
  clear HC5
  obtain ⟨kq,x26_4,rfl,HA,HJ4,BK893,HB⟩:=hcut
  cases kq with
  | zero => exact absurd HA.out (by simp [hopmeshlaw49_InstallBoards.j0])
  | succ kj4 =>
   have H:=HA.out
   clear HA
   simp only [hopmeshlaw49_InstallBoards.j0] at H
   by_cases c18 : x26_4 = true
   ·subst c18
    rw [if_pos rfl] at H
    replace H:=Option.bind_eq_some_iff.mp H
    obtain ⟨t896,A190,H⟩:=H
    (try dsimp only at H)
    have A19:=Aside0.mk A190
    clear A190
    obtain rfl:=Option.some.inj H
    go_wp2_with (first | ((with_reducible refine gate_callee (f:=10) rfl ?_);refine goesL_ (some 27) rfl rfl Try.func10 (by kernel_rfl) rfl #[] rfl sma ?_;(with_reducible refine (hopmeshlaw49_awake.calls kj4  t896 _ A19.out).mono ?_);rintro e w20 ⟨rfl,hb⟩;refine ⟨_,rfl,?_⟩;replace BK893:=bkB BK893 hb;replace HB:=hbS HB hb;(try clear hb);(try clear hb2);(try clear hk);(try clear hi)))
    go_ret
    exact ⟨rerr,hbx HB⟩
   ·replace c18:=Bool.eq_false_iff.mpr c18
    subst c18
    rw [if_neg (show ¬ (false = true) by decide)] at H
    replace H:=Option.bind_eq_some_iff.mp H
    obtain ⟨⟨t897,t898,t901,t904,t907,t908,t909⟩,A210,H⟩:=H
    (try dsimp only at H)
    have A21:=Aside0.mk A210
    clear A210
    replace H:=Option.bind_eq_some_iff.mp H
    obtain ⟨⟨t911,t912,t915,t918,t921,t922,t923⟩,A220,H⟩:=H
    (try dsimp only at H)
    have A22:=Aside0.mk A220
    clear A220
    have HC23:=Aside0.mk H
    clear H
    obtain ⟨z0,z1,z2,z3,z4,z5,y0,y1,y2,y3,y4,y5⟩:=bc6 BK893
    go_upto_region 5 with (first | ((with_reducible refine gate_callee (f:=18) rfl ?_);refine goesL_ (some 32) rfl rfl Try.func18 (by kernel_rfl) rfl #[.string a1,.slice A0_1 l0_1.length c0_1] rfl sma ?_;(with_reducible refine (install_New.calls kj4 a1 _ _ l0_1 t897 t898 t901 t904 t907 t908 t909 _ (cb HR0_1 HB) HC0_1.out A21.out).mono ?_);rintro e w25 ⟨v899,v902,v905,rfl,ho0,ho1,ho2,hb⟩;refine ⟨_,rfl,?_⟩;have HO900:=Aside0.mk (Kd.R_lower ho0 (below_size (hbx HB)));have HO903:=Aside0.mk (Kd.R_lower ho1 (below_size (hbx HB)));have HO906:=Aside0.mk (Kd.R_lower ho2 (below_size (hbx HB)));replace BK893:=bkB BK893 hb;replace HB:=hbS HB hb;(try clear hb);(try clear hb2);(try clear hk);(try clear hi);(try clear ho0);(try clear ho1);(try clear ho2)) | ((with_reducible refine gate_dst (N:=9) rfl ?_);(try (refine gate_guard (by rfl) ?_;dsimp only));refine boxE 9 #[.string (⟨#[]⟩ : ByteArray),.slice none 0 0,.slice none 0 0,.slice none 0 0,.int .i64 0,.int .i64 0] 50 ?_;intro gb910 hg w26 hbox hb;replace HO900:=rB HO900 hb;replace HO903:=rB HO903 hb;replace HO906:=rB HO906 hb;have BK910:=Aside0.mk (hbox);have GW910:=gw hg HB;have GE910:=gw hg HB;replace HB:=hbS HB hb;have NB893_910:=nbl hg BK893;have NB910_893:=nbg hg BK893;replace BK893:=bkB BK893 hb;clear hb hbox hg;have hnb27:=NB910_893.out;have hnc27:=NB893_910.out;obtain ⟨z0,z1,z2,z3,z4,z5,y0,y1,y2,y3,y4,y5⟩:=bc6 BK910;obtain ⟨Ao29,co29,eo29⟩:=Kd.R_slice HO900.out;subst eo29;obtain ⟨Ao30,co30,eo30⟩:=Kd.R_slice HO903.out;subst eo30;obtain ⟨Ao31,co31,eo31⟩:=Kd.R_slice HO906.out;subst eo31) | ((with_reducible refine gate_store (t:=50) (p:=9) rfl ?_);refine store_event (t:=50) (p:=9) (v:=?vo_w32) (w1:=((((((w26.setCell ⟨gb910,0,none⟩ (.string t897)).setCell ⟨gb910,1,none⟩ (.slice Ao29 t898.length co29)).setCell ⟨gb910,2,none⟩ (.slice Ao30 t901.length co30)).setCell ⟨gb910,3,none⟩ (.slice Ao31 t904.length co31)).setCell ⟨gb910,4,none⟩ (.int .i64 t907)).setCell ⟨gb910,5,none⟩ (.int .i64 t908))) ?hg ?ho ?hn ?hr ?_;(case ho => rfl);(case hg => rfl);(case hn => rfl);(case hr => first | (go_simp;done) | (go_simp;rfl));intro w32 hw;have n0_ : Aside0 (Kd.R (Kd.int .i64) 3 w32 w.heap.size (fun _ => True) (.slice Ao29 t898.length co29) t898):=⟨(by rw [hw];exact (Kd.R_mono (rty (rfo HO900) BK910) (fun _ hk => trivial)))⟩;have n1_:=rsw HO903 hw;have n2_:=rsw HO906 hw;have n3_:=bsw BK893 hw;have n4_ : Aside0 (w32.heap[gb910]? = some (.cells #[.string t897,.slice Ao29 t898.length co29,.slice Ao30 t901.length co30,.slice Ao31 t904.length co31,.int .i64 t907,.int .i64 t908] 50 (0,0))):=⟨(by rw [hw];exact (bkp BK910))⟩;have n5_:=hsw HB hw;clear hw;clear HO900;clear HO903;clear HO906;clear BK893;clear BK910;clear HB;have HO900:=n0_;have HO903:=n1_;have HO906:=n2_;have BK893:=n3_;have BK910:=n4_;have HB:=n5_;clear n0_ n1_ n2_ n3_ n4_ n5_;obtain ⟨z0,z1,z2,z3,z4,z5,y0,y1,y2,y3,y4,y5⟩:=bc6 BK893) | ((with_reducible refine gate_callee (f:=30) rfl ?_);refine goesL_ (some 39) rfl rfl Try.func30 (by kernel_rfl) rfl #[.string a1,.slice A0_1 l0_1.length c0_1] rfl sma ?_;(with_reducible refine (hopmeshref49_New.calls kj4 a1 _ _ l0_1 t911 t912 t915 t918 t921 t922 t923 _ (cb HR0_1 HB) HC0_1.out A22.out).mono ?_);rintro e w34 ⟨v913,v916,v919,rfl,ho0,ho1,ho2,hb⟩;refine ⟨_,rfl,?_⟩;have HO914:=Aside0.mk (Kd.R_lower (Kd.R_new' ho0 (Kd.R_lt (ro HO900))) (below_size (hbx HB)));replace HO900:=Aside0.mk (Kd.R_elder' (ro HO900) (Kd.R_base ho0) hb);have HO917:=Aside0.mk (Kd.R_lower (Kd.R_new' (Kd.R_new' ho1 (Kd.R_lt (ro HO903))) (Kd.R_lt (ro HO906))) (below_size (hbx HB)));have HO920:=Aside0.mk (Kd.R_lower (Kd.R_new' (Kd.R_new' ho2 (Kd.R_lt (ro HO903))) (Kd.R_lt (ro HO906))) (below_size (hbx HB)));replace HO903:=Aside0.mk (Kd.R_mono (Kd.R_told (Kd.R_told (Kd.R_old (ro HO903) hb) (Kd.R_base ho1)) (Kd.R_base ho2)) (fun _ h_ => h_.1));replace HO906:=Aside0.mk (Kd.R_mono (Kd.R_told (Kd.R_told (Kd.R_old (ro HO906) hb) (Kd.R_base ho1)) (Kd.R_base ho2)) (fun _ h_ => h_.1));replace BK893:=bkB BK893 hb;replace BK910:=bkB BK910 hb;replace HB:=hbS HB hb;(try clear hb);(try clear hb2);(try clear hk);(try clear hi);(try clear ho0);(try clear ho1);(try clear ho2)) | ((with_reducible refine gate_dst (N:=11) rfl ?_);(try (refine gate_guard (by rfl) ?_;dsimp only));refine boxE 11 #[.string (⟨#[]⟩ : ByteArray),.slice none 0 0,.slice none 0 0,.slice none 0 0,.int .i64 0,.int .i64 0] 50 ?_;intro gb924 hg w35 hbox hb;replace HO900:=rB HO900 hb;replace HO903:=rB HO903 hb;replace HO906:=rB HO906 hb;replace HO914:=rB HO914 hb;replace HO917:=rB HO917 hb;replace HO920:=rB HO920 hb;have BK924:=Aside0.mk (hbox);have GW924:=gw hg HB;have GE924:=gw hg HB;replace HB:=hbS HB hb;have NB893_924:=nbl hg BK893;have NB924_893:=nbg hg BK893;replace BK893:=bkB BK893 hb;have NB910_924:=nbl hg BK910;have NB924_910:=nbg hg BK910;replace BK910:=bkB BK910 hb;clear hb hbox hg;have hnb36:=NB924_893.out;have hnc36:=NB893_924.out;have hnb37:=NB924_910.out;have hnc37:=NB910_924.out;obtain ⟨z0,z1,z2,z3,z4,z5,y0,y1,y2,y3,y4,y5⟩:=bc6 BK924;obtain ⟨Ao39,co39,eo39⟩:=Kd.R_slice HO914.out;subst eo39;obtain ⟨Ao40,co40,eo40⟩:=Kd.R_slice HO917.out;subst eo40;obtain ⟨Ao41,co41,eo41⟩:=Kd.R_slice HO920.out;subst eo41))
    (try simp only [Act.put,List.setIfInBounds_toArray,List.set_cons_zero,List.set_cons_succ])
    go_cut [71] (fun v71 wc => ∃ (kq : Nat) (x71_22 : Bool),v71 = .bool x71_22 ∧ Aside0 (hopmeshlaw49_InstallBoards.j1 kq a1 a2 a3 x71_22 a0_0 l0_1 l0_2 l0_3 a0_4 a0_5 = some r) ∧ Aside0 (kq ≤ kj4) ∧ Aside0 (Kd.R (Kd.int .i64) 3 wc w.heap.size (fun k_ => some k_ ≠ ((.slice Ao39 t912.length co39) : Value).ownBlock) (.slice Ao29 t898.length co29) t898) ∧ Aside0 (Kd.R Kd.bool 4 wc w.heap.size (fun k_ => some k_ ≠ ((.slice Ao31 t904.length co31) : Value).ownBlock ∧ some k_ ≠ ((.slice Ao40 t915.length co40) : Value).ownBlock ∧ some k_ ≠ ((.slice Ao41 t918.length co41) : Value).ownBlock) (.slice Ao30 t901.length co30) t901) ∧ Aside0 (Kd.R Kd.bool 4 wc w.heap.size (fun k_ => some k_ ≠ ((.slice Ao30 t901.length co30) : Value).ownBlock ∧ some k_ ≠ ((.slice Ao40 t915.length co40) : Value).ownBlock ∧ some k_ ≠ ((.slice Ao41 t918.length co41) : Value).ownBlock) (.slice Ao31 t904.length co31) t904) ∧ Aside0 (Kd.R (Kd.int .i64) 3 wc w.heap.size (fun k_ => some k_ ≠ ((.slice Ao29 t898.length co29) : Value).ownBlock) (.slice Ao39 t912.length co39) t912) ∧ Aside0 (Kd.R Kd.bool 4 wc w.heap.size (fun k_ => some k_ ≠ ((.slice Ao30 t901.length co30) : Value).ownBlock ∧ some k_ ≠ ((.slice Ao31 t904.length co31) : Value).ownBlock ∧ some k_ ≠ ((.slice Ao41 t918.length co41) : Value).ownBlock) (.slice Ao40 t915.length co40) t915) ∧ Aside0 (Kd.R Kd.bool 4 wc w.heap.size (fun k_ => some k_ ≠ ((.slice Ao30 t901.length co30) : Value).ownBlock ∧ some k_ ≠ ((.slice Ao31 t904.length co31) : Value).ownBlock ∧ some k_ ≠ ((.slice Ao40 t915.length co40) : Value).ownBlock) (.slice Ao41 t918.length co41) t918) ∧ Aside0 (wc.heap[gb893]? = some (.cells #[.string a0_0,(.slice A0_1 l0_1.length c0_1),(.slice A0_2 l0_2.length c0_2),(.slice A0_3 l0_3.length c0_3),.int .i64 a0_4,.int .i64 a0_5] 50 (0,0))) ∧ Aside0 (wc.heap[gb910]? = some (.cells #[.string t897,(.slice Ao29 t898.length co29),(.slice Ao30 t901.length co30),(.slice Ao31 t904.length co31),.int .i64 t907,.int .i64 t908] 50 (0,0))) ∧ Aside0 (wc.heap[gb924]? = some (.cells #[.string t911,(.slice Ao39 t912.length co39),(.slice Ao40 t915.length co40),(.slice Ao41 t918.length co41),.int .i64 t921,.int .i64 t922] 50 (0,0))) ∧ Aside0 (Below w.heap.size w wc))
    case first =>
     have H:=HC23.out
     clear HC23
     have n0_ : Aside0 (Kd.R (Kd.int .i64) 3 ((((((w35.setCell ⟨gb924,0,none⟩ (.string t911)).setCell ⟨gb924,1,none⟩ (.slice Ao39 t912.length co39)).setCell ⟨gb924,2,none⟩ (.slice Ao40 t915.length co40)).setCell ⟨gb924,3,none⟩ (.slice Ao41 t918.length co41)).setCell ⟨gb924,4,none⟩ (.int .i64 t921)).setCell ⟨gb924,5,none⟩ (.int .i64 t922)) w.heap.size (fun k_ => some k_ ≠ (.slice Ao39 t912.length co39 : Value).ownBlock) (.slice Ao29 t898.length co29) t898):=⟨Kd.R_mono (rty (rfo HO900) BK924) (fun _ hk => hk.1.2)⟩
     have n1_ : Aside0 (Kd.R Kd.bool 4 ((((((w35.setCell ⟨gb924,0,none⟩ (.string t911)).setCell ⟨gb924,1,none⟩ (.slice Ao39 t912.length co39)).setCell ⟨gb924,2,none⟩ (.slice Ao40 t915.length co40)).setCell ⟨gb924,3,none⟩ (.slice Ao41 t918.length co41)).setCell ⟨gb924,4,none⟩ (.int .i64 t921)).setCell ⟨gb924,5,none⟩ (.int .i64 t922)) w.heap.size (fun k_ => some k_ ≠ (.slice Ao31 t904.length co31 : Value).ownBlock ∧ some k_ ≠ (.slice Ao40 t915.length co40 : Value).ownBlock ∧ some k_ ≠ (.slice Ao41 t918.length co41 : Value).ownBlock) (.slice Ao30 t901.length co30) t901):=⟨Kd.R_mono (rty (rfo HO903) BK924) (fun _ hk => ⟨hk.1.1.1,⟨hk.1.1.2,hk.1.2⟩⟩)⟩
     have n2_ : Aside0 (Kd.R Kd.bool 4 ((((((w35.setCell ⟨gb924,0,none⟩ (.string t911)).setCell ⟨gb924,1,none⟩ (.slice Ao39 t912.length co39)).setCell ⟨gb924,2,none⟩ (.slice Ao40 t915.length co40)).setCell ⟨gb924,3,none⟩ (.slice Ao41 t918.length co41)).setCell ⟨gb924,4,none⟩ (.int .i64 t921)).setCell ⟨gb924,5,none⟩ (.int .i64 t922)) w.heap.size (fun k_ => some k_ ≠ (.slice Ao30 t901.length co30 : Value).ownBlock ∧ some k_ ≠ (.slice Ao40 t915.length co40 : Value).ownBlock ∧ some k_ ≠ (.slice Ao41 t918.length co41 : Value).ownBlock) (.slice Ao31 t904.length co31) t904):=⟨Kd.R_mono (rty (rfo HO906) BK924) (fun _ hk => ⟨hk.1.1.1,⟨hk.1.1.2,hk.1.2⟩⟩)⟩
     have n3_ : Aside0 (Kd.R (Kd.int .i64) 3 ((((((w35.setCell ⟨gb924,0,none⟩ (.string t911)).setCell ⟨gb924,1,none⟩ (.slice Ao39 t912.length co39)).setCell ⟨gb924,2,none⟩ (.slice Ao40 t915.length co40)).setCell ⟨gb924,3,none⟩ (.slice Ao41 t918.length co41)).setCell ⟨gb924,4,none⟩ (.int .i64 t921)).setCell ⟨gb924,5,none⟩ (.int .i64 t922)) w.heap.size (fun k_ => some k_ ≠ (.slice Ao29 t898.length co29 : Value).ownBlock) (.slice Ao39 t912.length co39) t912):=⟨Kd.R_mono (rty (rfo HO914) BK924) (fun _ hk => hk.1.2)⟩
     have n4_ : Aside0 (Kd.R Kd.bool 4 ((((((w35.setCell ⟨gb924,0,none⟩ (.string t911)).setCell ⟨gb924,1,none⟩ (.slice Ao39 t912.length co39)).setCell ⟨gb924,2,none⟩ (.slice Ao40 t915.length co40)).setCell ⟨gb924,3,none⟩ (.slice Ao41 t918.length co41)).setCell ⟨gb924,4,none⟩ (.int .i64 t921)).setCell ⟨gb924,5,none⟩ (.int .i64 t922)) w.heap.size (fun k_ => some k_ ≠ (.slice Ao30 t901.length co30 : Value).ownBlock ∧ some k_ ≠ (.slice Ao31 t904.length co31 : Value).ownBlock ∧ some k_ ≠ (.slice Ao41 t918.length co41 : Value).ownBlock) (.slice Ao40 t915.length co40) t915):=⟨Kd.R_mono (rty (rfo HO917) BK924) (fun _ hk => ⟨hk.1.1.2,⟨hk.1.2,hk.1.1.1⟩⟩)⟩
     have n5_ : Aside0 (Kd.R Kd.bool 4 ((((((w35.setCell ⟨gb924,0,none⟩ (.string t911)).setCell ⟨gb924,1,none⟩ (.slice Ao39 t912.length co39)).setCell ⟨gb924,2,none⟩ (.slice Ao40 t915.length co40)).setCell ⟨gb924,3,none⟩ (.slice Ao41 t918.length co41)).setCell ⟨gb924,4,none⟩ (.int .i64 t921)).setCell ⟨gb924,5,none⟩ (.int .i64 t922)) w.heap.size (fun k_ => some k_ ≠ (.slice Ao30 t901.length co30 : Value).ownBlock ∧ some k_ ≠ (.slice Ao31 t904.length co31 : Value).ownBlock ∧ some k_ ≠ (.slice Ao40 t915.length co40 : Value).ownBlock) (.slice Ao41 t918.length co41) t918):=⟨Kd.R_mono (rty (rfo HO920) BK924) (fun _ hk => ⟨hk.1.1.2,⟨hk.1.2,hk.1.1.1⟩⟩)⟩
     have n6_ : Aside0 (((((((w35.setCell ⟨gb924,0,none⟩ (.string t911)).setCell ⟨gb924,1,none⟩ (.slice Ao39 t912.length co39)).setCell ⟨gb924,2,none⟩ (.slice Ao40 t915.length co40)).setCell ⟨gb924,3,none⟩ (.slice Ao41 t918.length co41)).setCell ⟨gb924,4,none⟩ (.int .i64 t921)).setCell ⟨gb924,5,none⟩ (.int .i64 t922)).heap[gb893]? = some (.cells #[.string a0_0,.slice A0_1 l0_1.length c0_1,.slice A0_2 l0_2.length c0_2,.slice A0_3 l0_3.length c0_3,.int .i64 a0_4,.int .i64 a0_5] 50 (0,0))):=bkfA BK893
     have n7_ : Aside0 (((((((w35.setCell ⟨gb924,0,none⟩ (.string t911)).setCell ⟨gb924,1,none⟩ (.slice Ao39 t912.length co39)).setCell ⟨gb924,2,none⟩ (.slice Ao40 t915.length co40)).setCell ⟨gb924,3,none⟩ (.slice Ao41 t918.length co41)).setCell ⟨gb924,4,none⟩ (.int .i64 t921)).setCell ⟨gb924,5,none⟩ (.int .i64 t922)).heap[gb910]? = some (.cells #[.string t897,.slice Ao29 t898.length co29,.slice Ao30 t901.length co30,.slice Ao31 t904.length co31,.int .i64 t907,.int .i64 t908] 50 (0,0))):=bkfA BK910
     have n8_ : Aside0 (((((((w35.setCell ⟨gb924,0,none⟩ (.string t911)).setCell ⟨gb924,1,none⟩ (.slice Ao39 t912.length co39)).setCell ⟨gb924,2,none⟩ (.slice Ao40 t915.length co40)).setCell ⟨gb924,3,none⟩ (.slice Ao41 t918.length co41)).setCell ⟨gb924,4,none⟩ (.int .i64 t921)).setCell ⟨gb924,5,none⟩ (.int .i64 t922)).heap[gb924]? = some (.cells #[.string t911,.slice Ao39 t912.length co39,.slice Ao40 t915.length co40,.slice Ao41 t918.length co41,.int .i64 t921,.int .i64 t922] 50 (0,0))):=bkpA BK924
     have n9_ : Aside0 (Below w.heap.size w ((((((w35.setCell ⟨gb924,0,none⟩ (.string t911)).setCell ⟨gb924,1,none⟩ (.slice Ao39 t912.length co39)).setCell ⟨gb924,2,none⟩ (.slice Ao40 t915.length co40)).setCell ⟨gb924,3,none⟩ (.slice Ao41 t918.length co41)).setCell ⟨gb924,4,none⟩ (.int .i64 t921)).setCell ⟨gb924,5,none⟩ (.int .i64 t922))):=hbA HB
     (try clear HO900)
     (try clear HO903)
     (try clear HO906)
     (try clear HO914)
     (try clear HO917)
     (try clear HO920)
     (try clear BK893)
     (try clear BK910)
     (try clear BK924)
     (try clear HB)
     generalize ((((((w35.setCell ⟨gb924,0,none⟩ (.string t911)).setCell ⟨gb924,1,none⟩ (.slice Ao39 t912.length co39)).setCell ⟨gb924,2,none⟩ (.slice Ao40 t915.length co40)).setCell ⟨gb924,3,none⟩ (.slice Ao41 t918.length co41)).setCell ⟨gb924,4,none⟩ (.int .i64 t921)).setCell ⟨gb924,5,none⟩ (.int .i64 t922)) = w51 at n0_ n1_ n2_ n3_ n4_ n5_ n6_ n7_ n8_ n9_ ⊢
     have HO900:=n0_
     have HO903:=n1_
     have HO906:=n2_
     have HO914:=n3_
     have HO917:=n4_
     have HO920:=n5_
     have BK893:=n6_
     have BK910:=n7_
     have BK924:=n8_
     have HB:=n9_
     clear n0_ n1_ n2_ n3_ n4_ n5_ n6_ n7_ n8_ n9_
     replace HO900:=Aside0.mk (Kd.R_drew HO900.out)
     replace HO903:=Aside0.mk (Kd.R_drew HO903.out)
     replace HO906:=Aside0.mk (Kd.R_drew HO906.out)
     replace HO914:=Aside0.mk (Kd.R_drew HO914.out)
     replace HO917:=Aside0.mk (Kd.R_drew HO917.out)
     replace HO920:=Aside0.mk (Kd.R_drew HO920.out)
     replace BK893:=Aside0.mk (blk_drew BK893.out)
     replace BK910:=Aside0.mk (blk_drew BK910.out)
     replace BK924:=Aside0.mk (blk_drew BK924.out)
     replace HB:=Aside0.mk (below_drew1 HB.out)
     replace H:=Option.bind_eq_some_iff.mp H
     obtain ⟨t925,A420,H⟩:=H
     (try dsimp only at H)
     have A42:=Aside0.mk A420
     clear A420
     by_cases c43 : t925 = true
     ·subst c43
      rw [if_pos rfl] at H
      by_cases c44 : t909 = t923
      ·rw [if_pos c44] at H
       have c44b0 : (t909 == t923) = true:=beq_iff_eq.mpr c44
       have c44b1 : (t909 != t923) = false:=bne_eq_false_iff_eq.mpr c44
       clear c44
       (first | rw [c44b0] | (simp only [i64_w,i32_w];rw [c44b0]) | skip)
       replace H:=Option.bind_eq_some_iff.mp H
       obtain ⟨t926,A450,H⟩:=H
       (try dsimp only at H)
       have A45:=Aside0.mk A450
       clear A450
       replace H:=Option.bind_eq_some_iff.mp H
       obtain ⟨t927,A460,H⟩:=H
       (try dsimp only at H)
       have A46:=Aside0.mk A460
       clear A460
       by_cases c47 : t926 = t927
       ·rw [if_pos c47] at H
        have c47b0 : (t926 == t927) = true:=beq_iff_eq.mpr c47
        have c47b1 : (t926 != t927) = false:=bne_eq_false_iff_eq.mpr c47
        clear c47
        replace H:=Option.bind_eq_some_iff.mp H
        obtain ⟨t928,A480,H⟩:=H
        (try dsimp only at H)
        have A48:=Aside0.mk A480
        clear A480
        replace H:=Option.bind_eq_some_iff.mp H
        obtain ⟨t929,A490,H⟩:=H
        (try dsimp only at H)
        have A49:=Aside0.mk A490
        clear A490
        by_cases c50 : (t928 != t929) = true
        ·rw [if_pos c50] at H
         have c50b0 : (t928 != t929) = true:=c50
         (try (have c50b1 : decide (t928 = t929) = false:=by simpa using c50))
         (try (have c50b2 : (t928 == t929) = false:=by simpa using c50))
         (try (have c50b3 : ¬ (t928 = t929):=by simpa using c50))
         clear c50
         have H':=Aside0.mk H
         clear H
         skip
         exact hopmeshlaw49_InstallBoards.part5a _ _ _ _ _ _ _ _ _ _ _ _ _ _ _ _ _ _ _ _ _ _ _ _ _ _ _ _ _ _ _ _ _ _ _ _ _ _ _ _ _ _ _ _ _ _ _ _ _ _ _ _ _ _ _ _ _ _ _ _ _ _ _ _ _ _ _ _ _ _ _ _ _ _ _ _ _ _ _ _ _ _ _ _ _ _ _ _ _ _ _ _ _ _ _ _ _ _ _ _ _ _ _ _ _ _ _ _ _ _ _ _ _ _ _ _ _ _ _ _ _ _ _ _ _ _ _ _ _ _ _ _ _ _ _ _ _ _ _ _ _ _ _ _ _ _ _ _ _ _ _ _ _ _ _ _ _ _ _ _ _ _ _ _ _ _ _ _ _ _ _ _ _ _ _ _ _ _ _ _ _ _ _ _ _ _ _ _ _ _ _ _ _ _ _ HR0_1 HC0_1 HR0_2 HC0_2 HR0_3 HC0_3 GE893 HJ4 GE910 NB893_910 NB910_893 GE924 NB893_924 NB924_893 NB910_924 NB924_910 HO900 HO903 HO906 HO914 HO917 HO920 BK893 BK910 BK924 HB A42 c44b0 c44b1 A45 A46 c47b0 c47b1 A48 A49 c50b0 c50b1 c50b2 c50b3 H' _ _ _ _ ‹_› ‹_› (by kernel_rfl)
        ·rw [if_neg c50] at H
         have c50b0 : (t928 != t929) = false:=by simpa using c50
         (try (have c50b1 : decide (t928 = t929) = true:=by simpa using c50))
         (try (have c50b2 : (t928 == t929) = true:=by simpa using c50))
         clear c50
         replace H:=Option.bind_eq_some_iff.mp H
         obtain ⟨t930,A580,H⟩:=H
         (try dsimp only at H)
         have A58:=Aside0.mk A580
         clear A580
         replace H:=Option.bind_eq_some_iff.mp H
         obtain ⟨t931,A590,H⟩:=H
         (try dsimp only at H)
         have A59:=Aside0.mk A590
         clear A590
         have H':=Aside0.mk H
         clear H
         skip
         exact hopmeshlaw49_InstallBoards.part5b _ _ _ _ _ _ _ _ _ _ _ _ _ _ _ _ _ _ _ _ _ _ _ _ _ _ _ _ _ _ _ _ _ _ _ _ _ _ _ _ _ _ _ _ _ _ _ _ _ _ _ _ _ _ _ _ _ _ _ _ _ _ _ _ _ _ _ _ _ _ _ _ _ _ _ _ _ _ _ _ _ _ _ _ _ _ _ _ _ _ _ _ _ _ _ _ _ _ _ _ _ _ _ _ _ _ _ _ _ _ _ _ _ _ _ _ _ _ _ _ _ _ _ _ _ _ _ _ _ _ _ _ _ _ _ _ _ _ _ _ _ _ _ _ _ _ _ _ _ _ _ _ _ _ _ _ _ _ _ _ _ _ _ _ _ _ _ _ _ _ _ _ _ _ _ _ _ _ _ _ _ _ _ _ _ _ _ _ _ _ _ _ _ _ _ _ _ HR0_1 HC0_1 HR0_2 HC0_2 HR0_3 HC0_3 GE893 HJ4 GE910 NB893_910 NB910_893 GE924 NB893_924 NB924_893 NB910_924 NB924_910 HO900 HO903 HO906 HO914 HO917 HO920 BK893 BK910 BK924 HB A42 c44b0 c44b1 A45 A46 c47b0 c47b1 A48 A49 c50b0 c50b1 c50b2 A58 A59 H' _ _ _ _ ‹_› ‹_› (by kernel_rfl)
       ·rw [if_neg c47] at H
        have c47b0 : (t926 == t927) = false:=beq_eq_false_iff_ne.mpr c47
        have c47b1 : (t926 != t927) = true:=bne_iff_ne.mpr c47
        have H':=Aside0.mk H
        clear H
        skip
        exact hopmeshlaw49_InstallBoards.part5c _ _ _ _ _ _ _ _ _ _ _ _ _ _ _ _ _ _ _ _ _ _ _ _ _ _ _ _ _ _ _ _ _ _ _ _ _ _ _ _ _ _ _ _ _ _ _ _ _ _ _ _ _ _ _ _ _ _ _ _ _ _ _ _ _ _ _ _ _ _ _ _ _ _ _ _ _ _ _ _ _ _ _ _ _ _ _ _ _ _ _ _ _ _ _ _ _ _ _ _ _ _ _ _ _ _ _ _ _ _ _ _ _ _ _ _ _ _ _ _ _ _ _ _ _ _ _ _ _ _ _ _ _ _ _ _ _ _ _ _ _ _ _ _ _ _ _ _ _ _ _ _ _ _ _ _ _ _ _ _ _ _ _ _ _ _ _ _ _ _ _ _ _ _ _ _ _ _ _ _ _ _ _ _ _ _ _ _ _ _ _ _ _ HR0_1 HC0_1 HR0_2 HC0_2 HR0_3 HC0_3 GE893 HJ4 GE910 NB893_910 NB910_893 GE924 NB893_924 NB924_893 NB910_924 NB924_910 HO900 HO903 HO906 HO914 HO917 HO920 BK893 BK910 BK924 HB A42 c44b0 c44b1 A45 A46 c47b0 c47b1 H' _ _ _ _ ‹_› ‹_› (by kernel_rfl)
      ·rw [if_neg c44] at H
       have c44b0 : (t909 == t923) = false:=beq_eq_false_iff_ne.mpr c44
       have c44b1 : (t909 != t923) = true:=bne_iff_ne.mpr c44
       (first | rw [c44b0] | (simp only [i64_w,i32_w];rw [c44b0]) | skip)
       have H':=Aside0.mk H
       clear H
       skip
       exact hopmeshlaw49_InstallBoards.part5d _ _ _ _ _ _ _ _ _ _ _ _ _ _ _ _ _ _ _ _ _ _ _ _ _ _ _ _ _ _ _ _ _ _ _ _ _ _ _ _ _ _ _ _ _ _ _ _ _ _ _ _ _ _ _ _ _ _ _ _ _ _ _ _ _ _ _ _ _ _ _ _ _ _ _ _ _ _ _ _ _ _ _ _ _ _ _ _ _ _ _ _ _ _ _ _ _ _ _ _ _ _ _ _ _ _ _ _ _ _ _ _ _ _ _ _ _ _ _ _ _ _ _ _ _ _ _ _ _ _ _ _ _ _ _ _ _ _ _ _ _ _ _ _ _ _ _ _ _ _ _ _ _ _ _ _ _ _ _ _ _ _ _ _ _ _ _ _ _ _ _ _ _ _ _ _ _ _ _ _ _ _ _ _ _ _ _ _ _ _ _ GE893 HJ4 GE910 NB893_910 NB910_893 GE924 NB893_924 NB924_893 NB910_924 NB924_910 HO900 HO903 HO906 HO914 HO917 HO920 BK893 BK910 BK924 HB A42 c44b0 c44b1 H' _ _ _ _ ‹_› ‹_› (by kernel_rfl)
     ·replace c43:=Bool.eq_false_iff.mpr c43
      subst c43
      rw [if_neg (show ¬ (false = true) by decide)] at H
      have H':=Aside0.mk H
      clear H
      skip
      exact hopmeshlaw49_InstallBoards.part5e _ _ _ _ _ _ _ _ _ _ _ _ _ _ _ _ _ _ _ _ _ _ _ _ _ _ _ _ _ _ _ _ _ _ _ _ _ _ _ _ _ _ _ _ _ _ _ _ _ _ _ _ _ _ _ _ _ _ _ _ _ _ _ _ _ _ _ _ _ _ _ _ _ _ _ _ _ _ _ _ _ _ _ _ _ _ _ _ _ _ _ _ _ _ _ _ _ _ _ _ _ _ _ _ _ _ _ _ _ _ _ _ _ _ _ _ _ _ _ _ _ _ _ _ _ _ _ _ _ _ _ _ _ _ _ _ _ _ _ _ _ _ _ _ _ _ _ _ _ _ _ _ _ _ _ _ _ _ _ _ _ _ _ _ _ _ _ _ _ _ _ _ _ _ _ _ _ _ _ _ _ _ _ _ _ _ _ _ _ _ _ GE893 HJ4 GE910 NB893_910 NB910_893 GE924 NB893_924 NB924_893 NB910_924 NB924_910 HO900 HO903 HO906 HO914 HO917 HO920 BK893 BK910 BK924 HB A42 H' _ _ _ _ ‹_› ‹_› (by kernel_rfl)
    case rest =>
     clear HC23
     obtain ⟨kq,x71_22,rfl,HA,HJ22,HO_911001,HO_911002,HO_911003,HO_925001,HO_925002,HO_925003,BK893,BK910,BK924,HB⟩:=hcut
     cases kq with
     | zero => exact absurd HA.out (by simp [hopmeshlaw49_InstallBoards.j1])
     | succ kj22 =>
      have H:=HA.out
      clear HA
      simp only [hopmeshlaw49_InstallBoards.j1] at H
      by_cases c80 : x71_22 = true
      ·subst c80
       rw [if_pos rfl] at H
       exact absurd H (by simp)
      ·replace c80:=Bool.eq_false_iff.mpr c80
       subst c80
       rw [if_neg (show ¬ (false = true) by decide)] at H
       replace H:=Option.bind_eq_some_iff.mp H
       obtain ⟨⟨t932,t933,t936,t939,t942,t943,t944⟩,A810,H⟩:=H
       (try dsimp only at H)
       have A81:=Aside0.mk A810
       clear A810
       replace H:=Option.bind_eq_some_iff.mp H
       obtain ⟨⟨t945,t946,t949,t952,t955,t956,t957⟩,A820,H⟩:=H
       (try dsimp only at H)
       have A82:=Aside0.mk A820
       clear A820
       have HC83:=Aside0.mk H
       clear H
       go_upto_region 7 with (fail)
       exact hopmeshlaw49_InstallBoards.part7 _ _ _ _ _ _ _ _ _ _ _ _ _ _ _ _ _ _ _ _ _ _ _ _ _ _ _ _ _ _ _ _ _ _ _ _ _ _ _ _ _ _ _ _ _ _ _ _ _ _ _ _ _ _ _ _ _ _ _ _ _ _ _ _ _ _ _ _ _ _ _ _ _ _ _ _ _ _ _ _ _ _ _ _ _ _ _ _ _ _ _ _ _ _ _ _ _ _ _ _ _ _ _ _ _ _ _ _ _ _ _ _ _ _ _ _ _ _ _ _ _ _ _ _ _ _ _ _ _ _ _ _ _ _ _ _ _ _ _ _ _ _ _ _ _ _ _ _ _ _ _ _ _ _ _ _ _ _ _ _ _ _ _ _ _ _ _ _ _ _ _ _ _ _ _ _ _ _ _ _ _ _ _ _ _ _ _ _ _ _ _ _ _ _ _ _ _ _ _ _ _ _ _ _ _ _ _ _ _ _ _ _ _ _ _ _ _ _ _ _ HR0_1 HC0_1 HR0_2 HC0_2 HR0_3 HC0_3 GE893 HJ4 GE910 NB893_910 NB910_893 GE924 NB893_924 NB924_893 NB910_924 NB924_910 HO_911001 HO_911002 HO_911003 HO_925001 HO_925002 HO_925003 BK893 BK910 BK924 HB HJ22 A81 A82 HC83 _ _ _ ‹_› (by kernel_rfl) (by kernel_rfl)
end Go.Proofs.Ytdigplhjfjchnaa.PQ
