-- Printed by fprint.py and zip.py, programs of this session's, over the kit's print; Lean checks it.
import Derived.Test.YtdigplhjfjchnaaZf64
import Derived.Test.YtdigplhjfjchnaaZf65
import Derived.Test.YtdigplhjfjchnaaZT
namespace Go.Proofs.Ytdigplhjfjchnaa.PQ
open Go.RowKit Go.Proofs.YtdigplhjfjchnaaW.PrintWords Go.Proofs.YtdigplhjfjchnaaW.PrintLast Go.Proofs.YtdigplhjfjchnaaW.PrintMore
attribute [local go_sem] max2_int min2_int max_two min_two max_three min_three max_four min_four   -- for this text's walks alone
set_option linter.unusedVariables false
set_option linter.unusedSimpArgs false
def hopmeshref49_Report.f (k : Nat) (a0_0 : ByteArray) (l0_1 : List Int) (l0_2 : List Bool) (l0_3 : List Bool) (a0_4 a0_5 a1 : Int) (a2 : ByteArray) : Option (ByteArray × List Int × List Bool × List Bool × Int × Int × Int):=(hopmeshref49_at.f k a0_0 l0_1 l0_2 l0_3 a0_4 a0_5 a1).bind fun bt785 => (if bt785.2 = 0 then ((hopmeshref49_clone.f a0_0 l0_1 l0_2 l0_3 a0_4 a0_5).bind fun bt787 => (if 0 ≤ bt785.1 then (if bt785.1 < (bt787.2.2.1.length : Int) then (some (bt787.1,bt787.2.1,(bt787.2.2.1.set (bt785.1 : Int).toNat (a2.toList == bt787.1.toList)),bt787.2.2.2.1,bt787.2.2.2.2.1,bt787.2.2.2.2.2,0)) else (none)) else (none))) else (some ((⟨#[]⟩ : ByteArray),([] : List Int),([] : List Bool),([] : List Bool),0,0,bt785.2)))
set_option maxHeartbeats 8000000 in
set_option maxRecDepth 100000 in
theorem hopmeshref49_Report.calls (k : Nat) (a0_0 : ByteArray) (A0_1 : Option Addr) (c0_1 : Nat) (l0_1 : List Int) (A0_2 : Option Addr) (c0_2 : Nat) (l0_2 : List Bool) (A0_3 : Option Addr) (c0_3 : Nat) (l0_3 : List Bool) (a0_4 a0_5 a1 : Int) (a2 r1 : ByteArray) (r2 : List Int) (r3 : List Bool) (r4 : List Bool) (r5 r6 r7 : Int) (w : World) (hr0_1 : Kd.C (Kd.int .i64) w A0_1 l0_1.length l0_1) (hc0_1 : l0_1.length ≤ c0_1) (hr0_2 : Kd.C Kd.bool w A0_2 l0_2.length l0_2) (hc0_2 : l0_2.length ≤ c0_2) (hr0_3 : Kd.C Kd.bool w A0_3 l0_3.length l0_3) (hc0_3 : l0_3.length ≤ c0_3) (h : hopmeshref49_Report.f k a0_0 l0_1 l0_2 l0_3 a0_4 a0_5 a1 a2 = some (r1,r2,r3,r4,r5,r6,r7)) :
 Calls Try.prog 36 #[.agg #[.string a0_0,.slice A0_1 l0_1.length c0_1,.slice A0_2 l0_2.length c0_2,.slice A0_3 l0_3.length c0_3,.int .i64 a0_4,.int .i64 a0_5],.int .i64 a1,.string a2] w fun e w' => ∃ v1_ v2_ v3_ : Value,e = .returned (.tuple #[.agg #[.string r1,v1_,v2_,v3_,.int .i64 r5,.int .i64 r6],.int .i64 r7]) ∧ Kd.R (Kd.int .i64) 3 w' w.heap.size (fun _ => True) v1_ r2 ∧ Kd.R Kd.bool 4 w' w.heap.size (fun k_ => some k_ ≠ (v3_ : Value).ownBlock) v2_ r3 ∧ Kd.R Kd.bool 4 w' w.heap.size (fun k_ => some k_ ≠ (v2_ : Value).ownBlock) v3_ r4 ∧ Below w.heap.size w w':=by
 have hu50:=Try.underlying50
 have HR0_1:=Aside0.mk hr0_1
 have HC0_1:=Aside0.mk hc0_1
 clear hr0_1 hc0_1
 have HR0_2:=Aside0.mk hr0_2
 have HC0_2:=Aside0.mk hc0_2
 clear hr0_2 hc0_2
 have HR0_3:=Aside0.mk hr0_3
 have HC0_3:=Aside0.mk hc0_3
 clear hr0_3 hc0_3
 have HB:=Aside0.mk (Below.refl w.heap.size w)
 have H : ((hopmeshref49_at.f k a0_0 l0_1 l0_2 l0_3 a0_4 a0_5 a1).bind fun bt785 => (if bt785.2 = 0 then ((hopmeshref49_clone.f a0_0 l0_1 l0_2 l0_3 a0_4 a0_5).bind fun bt787 => (if 0 ≤ bt785.1 then (if bt785.1 < (bt787.2.2.1.length : Int) then (some (bt787.1,bt787.2.1,(bt787.2.2.1.set (bt785.1 : Int).toNat (a2.toList == bt787.1.toList)),bt787.2.2.2.1,bt787.2.2.2.2.1,bt787.2.2.2.2.2,0)) else (none)) else (none))) else (some ((⟨#[]⟩ : ByteArray),([] : List Int),([] : List Bool),([] : List Bool),0,0,bt785.2)))) = some (r1,r2,r3,r4,r5,r6,r7):=h
 clear h
 replace H:=Option.bind_eq_some_iff.mp H
 obtain ⟨⟨t785,t786⟩,A40,H⟩:=H
 (try dsimp only at H)
 have A4:=Aside0.mk A40
 clear A40
 by_cases c5 : t786 = 0
 ·rw [if_pos c5] at H
  have c5b0 : (t786 == 0) = true:=beq_iff_eq.mpr c5
  have c5b1 : (t786 != 0) = false:=bne_eq_false_iff_eq.mpr c5
  clear c5
  replace H:=Option.bind_eq_some_iff.mp H
  obtain ⟨⟨t787,t788,t791,t794,t797,t798⟩,A60,H⟩:=H
  (try dsimp only at H)
  have A6:=Aside0.mk A60
  clear A60
  by_cases c7 : 0 ≤ t785
  ·rw [if_pos c7] at H
   have c7b0 : decide (0 ≤ t785) = true:=decide_eq_true c7
   clear c7
   by_cases c8 : t785 < (t791.length : Int)
   ·rw [if_pos c8] at H
    have c8b0 : decide (t785 < (t791.length : Int)) = true:=decide_eq_true c8
    clear c8
    obtain ⟨y799,hy799⟩ : ∃ y_ : List Bool,y_ = (t791.set (t785 : Int).toNat (a2.toList == t787.toList)):=⟨_,rfl⟩
    replace H : (some (t787,t788,y799,t794,t797,t798,0)) = some (r1,r2,r3,r4,r5,r6,r7):=by first | (rw [hy799];with_reducible exact H) | (have H2_:=(Option.bind_some _ _).symm.trans H;rw [hy799];with_reducible exact H2_) | (have H2_:=(Option.bind_some _ _).symm.trans H;with_reducible exact H2_) | with_reducible exact H | (rw [hy799];exact H) | exact H
    have Ny799:=Aside0.mk hy799
    clear hy799
    simp only [Option.some.injEq,Prod.mk.injEq] at H
    obtain ⟨rfl,rfl,rfl,rfl,rfl,rfl,rfl⟩:=H
    go_enter Try.func36,Try.ntmps36
    go_wp2_with (first | ((with_reducible refine gate_dst (N:=3) rfl ?_);refine boxE 3 #[.string a0_0,.slice A0_1 l0_1.length c0_1,.slice A0_2 l0_2.length c0_2,.slice A0_3 l0_3.length c0_3,.int .i64 a0_4,.int .i64 a0_5] 50 ?_;intro gb783 hg w10 hbox hb;have BK783:=Aside0.mk (hbox);have GW783:=gw hg HB;have GE783:=gw hg HB;replace HB:=hbS HB hb;clear hb hbox hg) | ((with_reducible refine gate_dst (N:=6) rfl ?_);refine boxE 6 #[.string (⟨#[]⟩ : ByteArray),.slice none 0 0,.slice none 0 0,.slice none 0 0,.int .i64 0,.int .i64 0] 50 ?_;intro gb784 hg w11 hbox hb;have BK784:=Aside0.mk (hbox);have GW784:=gw hg HB;have GE784:=gw hg HB;replace HB:=hbS HB hb;have NB783_784:=nbl hg BK783;have NB784_783:=nbg hg BK783;replace BK783:=bkB BK783 hb;clear hb hbox hg;have hnb12:=NB783_784.out;have hnc12:=NB784_783.out;obtain ⟨z0,z1,z2,z3,z4,z5,y0,y1,y2,y3,y4,y5⟩:=bc6 BK783) | ((with_reducible refine gate_callee (f:=64) rfl ?_);refine goesL_ (some 13) rfl rfl Try.func64 (by kernel_rfl) rfl #[.agg #[.string a0_0,.slice A0_1 l0_1.length c0_1,.slice A0_2 l0_2.length c0_2,.slice A0_3 l0_3.length c0_3,.int .i64 a0_4,.int .i64 a0_5],.int .i64 a1] rfl sma ?_;(with_reducible refine (hopmeshref49_at.calls k a0_0 _ _ l0_1 _ _ l0_2 _ _ l0_3 a0_4 a0_5 a1 t785 t786 _ (cb HR0_1 HB) HC0_1.out (cb HR0_2 HB) HC0_2.out (cb HR0_3 HB) HC0_3.out A4.out).mono ?_);rintro e w14 ⟨rfl,hb⟩;refine ⟨_,rfl,?_⟩;replace BK783:=bkB BK783 hb;replace BK784:=bkB BK784 hb;replace HB:=hbS HB hb;(try clear hb);(try clear hb2);(try clear hk);(try clear hi);obtain ⟨z0,z1,z2,z3,z4,z5,y0,y1,y2,y3,y4,y5⟩:=bc6 BK783) | ((with_reducible refine gate_callee (f:=65) rfl ?_);refine goesL_ (some 21) rfl rfl Try.func65 (by kernel_rfl) rfl #[.agg #[.string a0_0,.slice A0_1 l0_1.length c0_1,.slice A0_2 l0_2.length c0_2,.slice A0_3 l0_3.length c0_3,.int .i64 a0_4,.int .i64 a0_5]] rfl sma ?_;(with_reducible refine (hopmeshref49_clone.calls a0_0 _ _ l0_1 _ _ l0_2 _ _ l0_3 a0_4 a0_5 t787 t788 t791 t794 t797 t798 _ (cb HR0_1 HB) HC0_1.out (cb HR0_2 HB) HC0_2.out (cb HR0_3 HB) HC0_3.out A6.out).mono ?_);rintro e w16 ⟨v789,v792,v795,rfl,ho0,ho1,ho2,hb⟩;refine ⟨_,rfl,?_⟩;have HO790:=Aside0.mk (Kd.R_lower ho0 (below_size (hbx HB)));have HO793:=Aside0.mk (Kd.R_lower ho1 (below_size (hbx HB)));have HO796:=Aside0.mk (Kd.R_lower ho2 (below_size (hbx HB)));replace BK783:=bkB BK783 hb;replace BK784:=bkB BK784 hb;replace HB:=hbS HB hb;(try clear hb);(try clear hb2);(try clear hk);(try clear hi);(try clear ho0);(try clear ho1);(try clear ho2);obtain ⟨z0,z1,z2,z3,z4,z5,y0,y1,y2,y3,y4,y5⟩:=bc6 BK783;obtain ⟨Ao18,co18,eo18⟩:=Kd.R_slice HO790.out;subst eo18;obtain ⟨Ao19,co19,eo19⟩:=Kd.R_slice HO793.out;subst eo19;obtain ⟨Ao20,co20,eo20⟩:=Kd.R_slice HO796.out;subst eo20) | ((with_reducible refine gate_store (t:=50) (p:=3) rfl ?_);refine store_event (t:=50) (p:=3) (v:=?vo_w21) (w1:=((((((w16.setCell ⟨gb783,0,none⟩ (.string t787)).setCell ⟨gb783,1,none⟩ (.slice Ao18 t788.length co18)).setCell ⟨gb783,2,none⟩ (.slice Ao19 t791.length co19)).setCell ⟨gb783,3,none⟩ (.slice Ao20 t794.length co20)).setCell ⟨gb783,4,none⟩ (.int .i64 t797)).setCell ⟨gb783,5,none⟩ (.int .i64 t798))) ?hg ?ho ?hn ?hr ?_;(case ho => rfl);(case hg => rfl);(case hn => rfl);(case hr => first | (go_simp;done) | (go_simp;rfl));intro w21 hw;have n0_ : Aside0 (Kd.R (Kd.int .i64) 3 w21 w.heap.size (fun _ => True) (.slice Ao18 t788.length co18) t788):=⟨(by rw [hw];exact (Kd.R_mono (rty (rfo HO790) BK783) (fun _ hk => trivial)))⟩;have n1_:=rsw HO793 hw;have n2_:=rsw HO796 hw;have n3_ : Aside0 (w21.heap[gb783]? = some (.cells #[.string t787,.slice Ao18 t788.length co18,.slice Ao19 t791.length co19,.slice Ao20 t794.length co20,.int .i64 t797,.int .i64 t798] 50 (0,0))):=⟨(by rw [hw];exact (bkp BK783))⟩;have n4_:=bsw BK784 hw;have n5_:=hsw HB hw;clear hw;clear HO790;clear HO793;clear HO796;clear BK783;clear BK784;clear HB;have HO790:=n0_;have HO793:=n1_;have HO796:=n2_;have BK783:=n3_;have BK784:=n4_;have HB:=n5_;clear n0_ n1_ n2_ n3_ n4_ n5_;obtain ⟨z0,z1,z2,z3,z4,z5,y0,y1,y2,y3,y4,y5⟩:=bc6 BK783;have p9 : 0 ≤ (t785 : Int):=pos_;have q9 : (t785 : Int) < ((t791.length : Int) : Int):=pos_;obtain ⟨go9,co9,eo9,gb9,gl9,cl9,HG9⟩:=Kd.R_form HO793.out (by omega);(first | cases eo9 | (injection eo9 with ea_ en_ ec_;(first | subst ea_ | (injection ea_ with ea_;subst ea_));subst ec_;clear en_));have GB9:=Aside0.mk gb9;have GG9:=Aside0.mk HG9;clear gb9 gl9 HG9;obtain ⟨hx9_0,hf9_0⟩:=Kd.R_celln false HO793.out (t785 : Int) p9 q9;replace p9:=eq_true p9;replace q9:=eq_true q9;obtain ⟨hy23_,hz23_⟩:=Kd.R_celln false HO793.out (t785 : Int) (pos_) (pos_);have HP23:=Kd.R_putg HO793.out (t785 : Int) (a2.toList == t787.toList)) | ((with_reducible refine gate_store (t:=4) (p:=29) rfl ?_);refine store_event (t:=4) (p:=29) (v:=?vo_w24) (w1:=(w21.setCell ⟨go9,(t785 : Int).toNat,none⟩ (.bool (a2.toList == t787.toList)))) ?hg ?ho ?hn ?hr ?_;(case ho => rfl);(case hg => rfl);(case hn => rfl);(case hr => first | (go_simp;done) | (go_simp;rfl));intro w24 hw;have hg : w21.grownBy w24 (some go9):=(by rw [hw];exact HP23.2);have hp_ : Kd.R Kd.bool 4 w24 w.heap.size (fun k_ => some k_ ≠ (.slice Ao20 t794.length co20 : Value).ownBlock) (.slice (some ⟨go9,0,none⟩) t791.length co19) y799:=(by rw [hw,Ny799.out];exact HP23.1);clear HP23;replace BK783:=Aside0.mk (blk_grown (bk BK783) hg (Kd.R_ne HO793.out BK783.out (by decide)));replace BK784:=Aside0.mk (blk_grown (bk BK784) hg (Kd.R_ne HO793.out BK784.out (by decide)));replace HO790:=Aside0.mk (Kd.R_over' (v:=(.slice (some ⟨go9,0,none⟩) t791.length co19)) (ro HO790) (Kd.R_typed HO793.out) (by decide) hg);replace HO793:=Aside0.mk (hp_);replace HO796:=Aside0.mk (Kd.R_after (v:=(.slice (some ⟨go9,0,none⟩) t791.length co19)) (v1:=(.slice (some ⟨go9,0,none⟩) t791.length co19)) (ok:=(fun _ => True)) (by (with_reducible repeat (first | apply Kd.R_alloc | apply Kd.R_drewN | apply Kd.R_drew));exact Kd.R_mono HO796.out (fun _ hk => ⟨trivial,hk⟩)) hg (.inl rfl));replace HB:=Aside0.mk ((by rw [hw];exact below_set (HB.out) GB9.out : Below w.heap.size w w24));clear hg hw hp_;obtain ⟨z0,z1,z2,z3,z4,z5,y0,y1,y2,y3,y4,y5⟩:=bc6 BK783;obtain ⟨z0,z1,z2,z3,z4,z5,y0,y1,y2,y3,y4,y5⟩:=bc6 BK784))
    refine bodyPost_ret (results_ct rfl _ _ gb784 50 #[.string t787,.slice Ao18 t788.length co18,.slice (some ⟨go9,0,none⟩) t791.length co19,.slice Ao20 t794.length co20,.int .i64 t797,.int .i64 t798] (0,0) _ rfl (bkp BK784) Try.underlying50 rfl (by kernel_rfl)) rfl ?_
    exact ⟨_,_,_,rerr,Kd.R_mono (rty (rfo HO790) BK784) (fun _ hk => trivial),rfo HO793,Kd.R_mono (rty (rfo HO796) BK784) (fun _ hk => hk.1.2),hbx HB⟩
   ·rw [if_neg c8] at H
    exact absurd H (by simp)
  ·rw [if_neg c7] at H
   exact absurd H (by simp)
 ·rw [if_neg c5] at H
  have c5b0 : (t786 == 0) = false:=beq_eq_false_iff_ne.mpr c5
  have c5b1 : (t786 != 0) = true:=bne_iff_ne.mpr c5
  simp only [Option.some.injEq,Prod.mk.injEq] at H
  obtain ⟨rfl,rfl,rfl,rfl,rfl,rfl,rfl⟩:=H
  go_enter Try.func36,Try.ntmps36
  go_wp2_with (first | ((with_reducible refine gate_dst (N:=3) rfl ?_);refine boxE 3 #[.string a0_0,.slice A0_1 l0_1.length c0_1,.slice A0_2 l0_2.length c0_2,.slice A0_3 l0_3.length c0_3,.int .i64 a0_4,.int .i64 a0_5] 50 ?_;intro gb783 hg w27 hbox hb;have BK783:=Aside0.mk (hbox);have GW783:=gw hg HB;have GE783:=gw hg HB;replace HB:=hbS HB hb;clear hb hbox hg) | ((with_reducible refine gate_dst (N:=6) rfl ?_);refine boxE 6 #[.string (⟨#[]⟩ : ByteArray),.slice none 0 0,.slice none 0 0,.slice none 0 0,.int .i64 0,.int .i64 0] 50 ?_;intro gb784 hg w28 hbox hb;have BK784:=Aside0.mk (hbox);have GW784:=gw hg HB;have GE784:=gw hg HB;replace HB:=hbS HB hb;have NB783_784:=nbl hg BK783;have NB784_783:=nbg hg BK783;replace BK783:=bkB BK783 hb;clear hb hbox hg;have hnb29:=NB783_784.out;have hnc29:=NB784_783.out;obtain ⟨z0,z1,z2,z3,z4,z5,y0,y1,y2,y3,y4,y5⟩:=bc6 BK783) | ((with_reducible refine gate_callee (f:=64) rfl ?_);refine goesL_ (some 13) rfl rfl Try.func64 (by kernel_rfl) rfl #[.agg #[.string a0_0,.slice A0_1 l0_1.length c0_1,.slice A0_2 l0_2.length c0_2,.slice A0_3 l0_3.length c0_3,.int .i64 a0_4,.int .i64 a0_5],.int .i64 a1] rfl sma ?_;(with_reducible refine (hopmeshref49_at.calls k a0_0 _ _ l0_1 _ _ l0_2 _ _ l0_3 a0_4 a0_5 a1 t785 t786 _ (cb HR0_1 HB) HC0_1.out (cb HR0_2 HB) HC0_2.out (cb HR0_3 HB) HC0_3.out A4.out).mono ?_);rintro e w31 ⟨rfl,hb⟩;refine ⟨_,rfl,?_⟩;replace BK783:=bkB BK783 hb;replace BK784:=bkB BK784 hb;replace HB:=hbS HB hb;(try clear hb);(try clear hb2);(try clear hk);(try clear hi);obtain ⟨z0,z1,z2,z3,z4,z5,y0,y1,y2,y3,y4,y5⟩:=bc6 BK784))
  refine bodyPost_ret (results_ct rfl _ _ gb784 50 #[.string (⟨#[]⟩ : ByteArray),.slice none 0 0,.slice none 0 0,.slice none 0 0,.int .i64 0,.int .i64 0] (0,0) _ rfl (bkp BK784) Try.underlying50 rfl (by kernel_rfl)) rfl ?_
  exact ⟨_,_,_,rerr,rnil,rnil,rnil,hbx HB⟩
end Go.Proofs.Ytdigplhjfjchnaa.PQ
