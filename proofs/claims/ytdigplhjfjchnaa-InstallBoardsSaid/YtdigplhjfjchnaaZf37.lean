-- Printed by fprint.py and zip.py, programs of this session's, over the kit's print; Lean checks it.
import Derived.Test.YtdigplhjfjchnaaZf64
import Derived.Test.YtdigplhjfjchnaaZf65
namespace Go.Proofs.Ytdigplhjfjchnaa.PQ
open Go.RowKit Go.Proofs.YtdigplhjfjchnaaW.PrintWords Go.Proofs.YtdigplhjfjchnaaW.PrintLast Go.Proofs.YtdigplhjfjchnaaW.PrintMore
attribute [local go_sem] max2_int min2_int max_two min_two max_three min_three max_four min_four   -- for this text's walks alone
set_option linter.unusedVariables false
set_option linter.unusedSimpArgs false
def hopmeshref49_Acknowledge.f (k : Nat) (a0_0 : ByteArray) (l0_1 : List Int) (l0_2 : List Bool) (l0_3 : List Bool) (a0_4 a0_5 a1 a2 : Int) : Option (ByteArray × List Int × List Bool × List Bool × Int × Int × Int):=(hopmeshref49_at.f k a0_0 l0_1 l0_2 l0_3 a0_4 a0_5 a1).bind fun bt802 => (if bt802.2 = 0 then ((hopmeshref49_clone.f a0_0 l0_1 l0_2 l0_3 a0_4 a0_5).bind fun bt804 => (if 0 ≤ bt802.1 then (if bt802.1 < (bt804.2.2.2.1.length : Int) then (if rdOf false bt804.2.2.2.1 bt802.1 = true then (some (bt804.1,bt804.2.1,bt804.2.2.1,(bt804.2.2.2.1.set (bt802.1 : Int).toNat true),bt804.2.2.2.2.1,bt804.2.2.2.2.2,0)) else (if bt804.2.2.2.2.1 > 0 then (some (bt804.1,bt804.2.1,bt804.2.2.1,(bt804.2.2.2.1.set (bt802.1 : Int).toNat (a2 == bt804.2.2.2.2.1)),bt804.2.2.2.2.1,bt804.2.2.2.2.2,0)) else (some (bt804.1,bt804.2.1,bt804.2.2.1,(bt804.2.2.2.1.set (bt802.1 : Int).toNat false),bt804.2.2.2.2.1,bt804.2.2.2.2.2,0)))) else (none)) else (none))) else (some ((⟨#[]⟩ : ByteArray),([] : List Int),([] : List Bool),([] : List Bool),0,0,bt802.2)))
def hopmeshref49_Acknowledge.T5 : Bool × List (List Nat × List Nat):=(true,[([],[]),([0],[0]),([],[]),([],[]),([3],[3]),([],[]),([4,5],[4,5]),([6],[6]),([7],[7]),([8],[8]),([9,8],[8,9]),([10,8],[8,10]),([11,8,8],[8,11]),([12],[12]),([12],[12]),([14,12],[12,14]),([13,15,12],[12,13,15]),([12,16,8],[8,12,16]),([8,17],[8,17]),([1,2,0,1,2,3,4,5,6,7,8,9,10,11,12,13,14,15,16,17,18],[1,2]),([19,18,12,0,1,2,3,4,5,6,7,8,9,10,11,12,13,14,15,16,17,18],[18,19])])
def hopmeshref49_Acknowledge.B5 : List Nat:=[0,1,0,0,8,0,56,120,248,504,1016,2040,4088,8184,8184,24568,65528,131064,262136,524287,1048575]
theorem hopmeshref49_Acknowledge.tab5 : rtab .any (opsOf Try.f37 5) = hopmeshref49_Acknowledge.T5:=by kernel_rfl
theorem hopmeshref49_Acknowledge.bits5 : waitsOk hopmeshref49_Acknowledge.T5.2 hopmeshref49_Acknowledge.B5 = true:=by kernel_rfl
set_option maxHeartbeats 8000000 in
set_option maxRecDepth 100000 in
theorem hopmeshref49_Acknowledge.calls (k : Nat) (a0_0 : ByteArray) (A0_1 : Option Addr) (c0_1 : Nat) (l0_1 : List Int) (A0_2 : Option Addr) (c0_2 : Nat) (l0_2 : List Bool) (A0_3 : Option Addr) (c0_3 : Nat) (l0_3 : List Bool) (a0_4 a0_5 a1 a2 : Int) (r1 : ByteArray) (r2 : List Int) (r3 : List Bool) (r4 : List Bool) (r5 r6 r7 : Int) (w : World) (hr0_1 : Kd.C (Kd.int .i64) w A0_1 l0_1.length l0_1) (hc0_1 : l0_1.length ≤ c0_1) (hr0_2 : Kd.C Kd.bool w A0_2 l0_2.length l0_2) (hc0_2 : l0_2.length ≤ c0_2) (hr0_3 : Kd.C Kd.bool w A0_3 l0_3.length l0_3) (hc0_3 : l0_3.length ≤ c0_3) (h : hopmeshref49_Acknowledge.f k a0_0 l0_1 l0_2 l0_3 a0_4 a0_5 a1 a2 = some (r1,r2,r3,r4,r5,r6,r7)) :
 Calls Try.prog 37 #[.agg #[.string a0_0,.slice A0_1 l0_1.length c0_1,.slice A0_2 l0_2.length c0_2,.slice A0_3 l0_3.length c0_3,.int .i64 a0_4,.int .i64 a0_5],.int .i64 a1,.int .i64 a2] w fun e w' => ∃ v1_ v2_ v3_ : Value,e = .returned (.tuple #[.agg #[.string r1,v1_,v2_,v3_,.int .i64 r5,.int .i64 r6],.int .i64 r7]) ∧ Kd.R (Kd.int .i64) 3 w' w.heap.size (fun _ => True) v1_ r2 ∧ Kd.R Kd.bool 4 w' w.heap.size (fun k_ => some k_ ≠ (v3_ : Value).ownBlock) v2_ r3 ∧ Kd.R Kd.bool 4 w' w.heap.size (fun k_ => some k_ ≠ (v2_ : Value).ownBlock) v3_ r4 ∧ Below w.heap.size w w':=by
 have hu50:=Try.underlying50
 have HR0_1:=Aside0.mk hr0_1
 have HC0_1:=Aside0.mk hc0_1
 clear hr0_1 hc0_1
 have HR0_2:=Aside0.mk hr0_2
 have HC0_2:=Aside0.mk hc0_2
 clear hr0_2 hc0_2
 have HR0_3:=Aside0.mk hr0_3
 have HC0_3:=Aside0.mk hc0_3
 clear hr0_3 hc0_3
 have HB:=Aside0.mk (Below.refl w.heap.size w)
 have H : ((hopmeshref49_at.f k a0_0 l0_1 l0_2 l0_3 a0_4 a0_5 a1).bind fun bt802 => (if bt802.2 = 0 then ((hopmeshref49_clone.f a0_0 l0_1 l0_2 l0_3 a0_4 a0_5).bind fun bt804 => (if 0 ≤ bt802.1 then (if bt802.1 < (bt804.2.2.2.1.length : Int) then (if rdOf false bt804.2.2.2.1 bt802.1 = true then (some (bt804.1,bt804.2.1,bt804.2.2.1,(bt804.2.2.2.1.set (bt802.1 : Int).toNat true),bt804.2.2.2.2.1,bt804.2.2.2.2.2,0)) else (if bt804.2.2.2.2.1 > 0 then (some (bt804.1,bt804.2.1,bt804.2.2.1,(bt804.2.2.2.1.set (bt802.1 : Int).toNat (a2 == bt804.2.2.2.2.1)),bt804.2.2.2.2.1,bt804.2.2.2.2.2,0)) else (some (bt804.1,bt804.2.1,bt804.2.2.1,(bt804.2.2.2.1.set (bt802.1 : Int).toNat false),bt804.2.2.2.2.1,bt804.2.2.2.2.2,0)))) else (none)) else (none))) else (some ((⟨#[]⟩ : ByteArray),([] : List Int),([] : List Bool),([] : List Bool),0,0,bt802.2)))) = some (r1,r2,r3,r4,r5,r6,r7):=h
 clear h
 replace H:=Option.bind_eq_some_iff.mp H
 obtain ⟨⟨t802,t803⟩,A40,H⟩:=H
 (try dsimp only at H)
 have A4:=Aside0.mk A40
 clear A40
 by_cases c5 : t803 = 0
 ·rw [if_pos c5] at H
  have c5b0 : (t803 == 0) = true:=beq_iff_eq.mpr c5
  have c5b1 : (t803 != 0) = false:=bne_eq_false_iff_eq.mpr c5
  clear c5
  replace H:=Option.bind_eq_some_iff.mp H
  obtain ⟨⟨t804,t805,t808,t811,t814,t815⟩,A60,H⟩:=H
  (try dsimp only at H)
  have A6:=Aside0.mk A60
  clear A60
  by_cases c7 : 0 ≤ t802
  ·rw [if_pos c7] at H
   have c7b0 : decide (0 ≤ t802) = true:=decide_eq_true c7
   clear c7
   by_cases c8 : t802 < (t811.length : Int)
   ·rw [if_pos c8] at H
    have c8b0 : decide (t802 < (t811.length : Int)) = true:=decide_eq_true c8
    clear c8
    obtain ⟨bq9,hbq9⟩ : ∃ b_ : Bool,b_ = (rdOf false t811 t802):=⟨_,rfl⟩
    replace H : (if bq9 = true then (some (t804,t805,t808,(t811.set (t802 : Int).toNat true),t814,t815,0)) else (if t814 > 0 then (some (t804,t805,t808,(t811.set (t802 : Int).toNat (a2 == t814)),t814,t815,0)) else (some (t804,t805,t808,(t811.set (t802 : Int).toNat false),t814,t815,0)))) = some (r1,r2,r3,r4,r5,r6,r7):=by rw [← hbq9] at H;exact H
    have Nbq9:=Aside0.mk hbq9
    clear hbq9
    by_cases c10 : bq9 = true
    ·subst c10
     rw [if_pos rfl] at H
     obtain ⟨y817,hy817⟩ : ∃ y_ : List Bool,y_ = (t811.set (t802 : Int).toNat true):=⟨_,rfl⟩
     replace H : (some (t804,t805,t808,y817,t814,t815,0)) = some (r1,r2,r3,r4,r5,r6,r7):=by first | (rw [hy817];with_reducible exact H) | (have H2_:=(Option.bind_some _ _).symm.trans H;rw [hy817];with_reducible exact H2_) | (have H2_:=(Option.bind_some _ _).symm.trans H;with_reducible exact H2_) | with_reducible exact H | (rw [hy817];exact H) | exact H
     have Ny817:=Aside0.mk hy817
     clear hy817
     simp only [Option.some.injEq,Prod.mk.injEq] at H
     obtain ⟨rfl,rfl,rfl,rfl,rfl,rfl,rfl⟩:=H
     go_enter Try.func37,Try.ntmps37
     try go_wp2_with (first | ((with_reducible refine gate_dst (N:=3) rfl ?_);refine boxE 3 #[.string a0_0,.slice A0_1 l0_1.length c0_1,.slice A0_2 l0_2.length c0_2,.slice A0_3 l0_3.length c0_3,.int .i64 a0_4,.int .i64 a0_5] 50 ?_;intro gb800 hg w12 hbox hb;have BK800:=Aside0.mk (hbox);have GW800:=gw hg HB;have GE800:=gw hg HB;replace HB:=hbS HB hb;clear hb hbox hg) | ((with_reducible refine gate_dst (N:=6) rfl ?_);refine boxE 6 #[.string (⟨#[]⟩ : ByteArray),.slice none 0 0,.slice none 0 0,.slice none 0 0,.int .i64 0,.int .i64 0] 50 ?_;intro gb801 hg w13 hbox hb;have BK801:=Aside0.mk (hbox);have GW801:=gw hg HB;have GE801:=gw hg HB;replace HB:=hbS HB hb;have NB800_801:=nbl hg BK800;have NB801_800:=nbg hg BK800;replace BK800:=bkB BK800 hb;clear hb hbox hg;have hnb14:=NB800_801.out;have hnc14:=NB801_800.out;obtain ⟨z0,z1,z2,z3,z4,z5,y0,y1,y2,y3,y4,y5⟩:=bc6 BK800) | ((with_reducible refine gate_callee (f:=64) rfl ?_);refine goesL_ (some 13) rfl rfl Try.func64 (by kernel_rfl) rfl #[.agg #[.string a0_0,.slice A0_1 l0_1.length c0_1,.slice A0_2 l0_2.length c0_2,.slice A0_3 l0_3.length c0_3,.int .i64 a0_4,.int .i64 a0_5],.int .i64 a1] rfl sma ?_;(with_reducible refine (hopmeshref49_at.calls k a0_0 _ _ l0_1 _ _ l0_2 _ _ l0_3 a0_4 a0_5 a1 t802 t803 _ (cb HR0_1 HB) HC0_1.out (cb HR0_2 HB) HC0_2.out (cb HR0_3 HB) HC0_3.out A4.out).mono ?_);rintro e w16 ⟨rfl,hb⟩;refine ⟨_,rfl,?_⟩;replace BK800:=bkB BK800 hb;replace BK801:=bkB BK801 hb;replace HB:=hbS HB hb;(try clear hb);(try clear hb2);(try clear hk);(try clear hi);obtain ⟨z0,z1,z2,z3,z4,z5,y0,y1,y2,y3,y4,y5⟩:=bc6 BK800) | ((with_reducible refine gate_callee (f:=65) rfl ?_);refine goesL_ (some 21) rfl rfl Try.func65 (by kernel_rfl) rfl #[.agg #[.string a0_0,.slice A0_1 l0_1.length c0_1,.slice A0_2 l0_2.length c0_2,.slice A0_3 l0_3.length c0_3,.int .i64 a0_4,.int .i64 a0_5]] rfl sma ?_;(with_reducible refine (hopmeshref49_clone.calls a0_0 _ _ l0_1 _ _ l0_2 _ _ l0_3 a0_4 a0_5 t804 t805 t808 t811 t814 t815 _ (cb HR0_1 HB) HC0_1.out (cb HR0_2 HB) HC0_2.out (cb HR0_3 HB) HC0_3.out A6.out).mono ?_);rintro e w18 ⟨v806,v809,v812,rfl,ho0,ho1,ho2,hb⟩;refine ⟨_,rfl,?_⟩;have HO807:=Aside0.mk (Kd.R_lower ho0 (below_size (hbx HB)));have HO810:=Aside0.mk (Kd.R_lower ho1 (below_size (hbx HB)));have HO813:=Aside0.mk (Kd.R_lower ho2 (below_size (hbx HB)));replace BK800:=bkB BK800 hb;replace BK801:=bkB BK801 hb;replace HB:=hbS HB hb;(try clear hb);(try clear hb2);(try clear hk);(try clear hi);(try clear ho0);(try clear ho1);(try clear ho2);obtain ⟨z0,z1,z2,z3,z4,z5,y0,y1,y2,y3,y4,y5⟩:=bc6 BK800;obtain ⟨Ao20,co20,eo20⟩:=Kd.R_slice HO807.out;subst eo20;obtain ⟨Ao21,co21,eo21⟩:=Kd.R_slice HO810.out;subst eo21;obtain ⟨Ao22,co22,eo22⟩:=Kd.R_slice HO813.out;subst eo22))
     have n0_ : Aside0 (Kd.R (Kd.int .i64) 3 ((((((w18.setCell ⟨gb800,0,none⟩ (.string t804)).setCell ⟨gb800,1,none⟩ (.slice Ao20 t805.length co20)).setCell ⟨gb800,2,none⟩ (.slice Ao21 t808.length co21)).setCell ⟨gb800,3,none⟩ (.slice Ao22 t811.length co22)).setCell ⟨gb800,4,none⟩ (.int .i64 t814)).setCell ⟨gb800,5,none⟩ (.int .i64 t815)) w.heap.size (fun _ => True) (.slice Ao20 t805.length co20) t805):=⟨Kd.R_mono (rty (rfo HO807) BK800) (fun _ hk => trivial)⟩
     have n1_ : Aside0 (Kd.R Kd.bool 4 ((((((w18.setCell ⟨gb800,0,none⟩ (.string t804)).setCell ⟨gb800,1,none⟩ (.slice Ao20 t805.length co20)).setCell ⟨gb800,2,none⟩ (.slice Ao21 t808.length co21)).setCell ⟨gb800,3,none⟩ (.slice Ao22 t811.length co22)).setCell ⟨gb800,4,none⟩ (.int .i64 t814)).setCell ⟨gb800,5,none⟩ (.int .i64 t815)) w.heap.size (fun k_ => some k_ ≠ (.slice Ao22 t811.length co22 : Value).ownBlock) (.slice Ao21 t808.length co21) t808):=rfA HO810
     have n2_ : Aside0 (Kd.R Kd.bool 4 ((((((w18.setCell ⟨gb800,0,none⟩ (.string t804)).setCell ⟨gb800,1,none⟩ (.slice Ao20 t805.length co20)).setCell ⟨gb800,2,none⟩ (.slice Ao21 t808.length co21)).setCell ⟨gb800,3,none⟩ (.slice Ao22 t811.length co22)).setCell ⟨gb800,4,none⟩ (.int .i64 t814)).setCell ⟨gb800,5,none⟩ (.int .i64 t815)) w.heap.size (fun k_ => some k_ ≠ (.slice Ao21 t808.length co21 : Value).ownBlock) (.slice Ao22 t811.length co22) t811):=rfA HO813
     have n3_ : Aside0 (((((((w18.setCell ⟨gb800,0,none⟩ (.string t804)).setCell ⟨gb800,1,none⟩ (.slice Ao20 t805.length co20)).setCell ⟨gb800,2,none⟩ (.slice Ao21 t808.length co21)).setCell ⟨gb800,3,none⟩ (.slice Ao22 t811.length co22)).setCell ⟨gb800,4,none⟩ (.int .i64 t814)).setCell ⟨gb800,5,none⟩ (.int .i64 t815)).heap[gb800]? = some (.cells #[.string t804,.slice Ao20 t805.length co20,.slice Ao21 t808.length co21,.slice Ao22 t811.length co22,.int .i64 t814,.int .i64 t815] 50 (0,0))):=bkpA BK800
     have n4_ : Aside0 (((((((w18.setCell ⟨gb800,0,none⟩ (.string t804)).setCell ⟨gb800,1,none⟩ (.slice Ao20 t805.length co20)).setCell ⟨gb800,2,none⟩ (.slice Ao21 t808.length co21)).setCell ⟨gb800,3,none⟩ (.slice Ao22 t811.length co22)).setCell ⟨gb800,4,none⟩ (.int .i64 t814)).setCell ⟨gb800,5,none⟩ (.int .i64 t815)).heap[gb801]? = some (.cells #[.string (⟨#[]⟩ : ByteArray),.slice none 0 0,.slice none 0 0,.slice none 0 0,.int .i64 0,.int .i64 0] 50 (0,0))):=bkfA BK801
     have n5_ : Aside0 (Below w.heap.size w ((((((w18.setCell ⟨gb800,0,none⟩ (.string t804)).setCell ⟨gb800,1,none⟩ (.slice Ao20 t805.length co20)).setCell ⟨gb800,2,none⟩ (.slice Ao21 t808.length co21)).setCell ⟨gb800,3,none⟩ (.slice Ao22 t811.length co22)).setCell ⟨gb800,4,none⟩ (.int .i64 t814)).setCell ⟨gb800,5,none⟩ (.int .i64 t815))):=hbA HB
     (try clear HO807)
     (try clear HO810)
     (try clear HO813)
     (try clear BK800)
     (try clear BK801)
     (try clear HB)
     generalize ((((((w18.setCell ⟨gb800,0,none⟩ (.string t804)).setCell ⟨gb800,1,none⟩ (.slice Ao20 t805.length co20)).setCell ⟨gb800,2,none⟩ (.slice Ao21 t808.length co21)).setCell ⟨gb800,3,none⟩ (.slice Ao22 t811.length co22)).setCell ⟨gb800,4,none⟩ (.int .i64 t814)).setCell ⟨gb800,5,none⟩ (.int .i64 t815)) = w23 at n0_ n1_ n2_ n3_ n4_ n5_ ⊢
     have HO807:=n0_
     have HO810:=n1_
     have HO813:=n2_
     have BK800:=n3_
     have BK801:=n4_
     have HB:=n5_
     clear n0_ n1_ n2_ n3_ n4_ n5_
     replace HO807:=Aside0.mk (Kd.R_drew HO807.out)
     replace HO810:=Aside0.mk (Kd.R_drew HO810.out)
     replace HO813:=Aside0.mk (Kd.R_drew HO813.out)
     replace BK800:=Aside0.mk (blk_drew BK800.out)
     replace BK801:=Aside0.mk (blk_drew BK801.out)
     replace HB:=Aside0.mk (below_drew1 HB.out)
     have p816 : 0 ≤ (t802 : Int):=pos_
     have q816 : t802 < (t811.length : Int):=pos_
     obtain ⟨ad816,e816,hx816_0⟩:=Kd.at_bool (Kd.R_reads' HO813.out).2.2 t802 p816 q816
     (try rw [← Nbq9.out] at hx816_0)
     cases e816
     replace p816:=eq_true p816
     replace q816:=eq_true q816
     have p11 : 0 ≤ (t802 : Int):=pos_
     have q11 : (t802 : Int) < ((t811.length : Int) : Int):=pos_
     obtain ⟨go11,co11,eo11,gb11,gl11,cl11,HG11⟩:=Kd.R_form HO813.out (by omega)
     (first | cases eo11 | (injection eo11 with ea_ en_ ec_;(first | subst ea_ | (injection ea_ with ea_;subst ea_));subst ec_;clear en_))
     have GB11:=Aside0.mk gb11
     have GG11:=Aside0.mk HG11
     clear gb11 gl11 HG11
     (first | simp only [add_plain] at hx816_0 | skip)
     obtain ⟨hx11_0,hf11_0⟩:=Kd.R_celln false HO813.out (t802 : Int) p11 q11
     replace p11:=eq_true p11
     replace q11:=eq_true q11
     have HP25:=Kd.R_putn HO813.out (t802 : Int) true
     rw [← Ny817.out] at HP25
     have HQ25:=Aside0.mk HP25
     clear HP25
     refine start_ (n:=21) (S:=fun w' => w'.cell? ⟨gb800,0,none⟩ = some (.string t804) ∧ w'.cell? ⟨gb800,1,none⟩ = some (.slice Ao20 t805.length co20) ∧ w'.cell? ⟨gb800,2,none⟩ = some (.slice Ao21 t808.length co21) ∧ w'.cell? ⟨gb800,3,none⟩ = some (.slice (some ⟨go11,0,none⟩) t811.length co22) ∧ w'.cell? ⟨gb800,4,none⟩ = some (.int .i64 t814) ∧ w'.cell? ⟨gb800,5,none⟩ = some (.int .i64 t815) ∧ w'.cell? ⟨go11,(t802).toNat,none⟩ = some (.bool true)) (ds:=[20]) #[false,false,false,false,false,false,false,false,false,false,false,false,false,false,false,false,false,false,false,false,false] (by kernel_rfl) rfl rfl ⟨(blk_cell BK800.out 0).trans rfl,(blk_cell BK800.out 1).trans rfl,(blk_cell BK800.out 2).trans rfl,(blk_cell BK800.out 3).trans rfl,(blk_cell BK800.out 4).trans rfl,(blk_cell BK800.out 5).trans rfl,hx816_0⟩ (fun hHeld => ?_);refine with_tabW hopmeshref49_Acknowledge.tab5 hopmeshref49_Acknowledge.bits5 (fun HT_ HW_ => ?_)
     generalize w23.drew = w24 at HO807 HO810 HO813 BK800 BK801 HB GG11 HQ25 hf11_0 hx11_0 hx816_0 hHeld ⊢
     refine pur 0 (some 22) #[true,false,false,false,false,false,false,false,false,false,false,false,false,false,false,false,false,false,false,false,false] HT_ ?_
     refine pur 2 (some 24) #[true,false,true,false,false,false,false,false,false,false,false,false,false,false,false,false,false,false,false,false,false] HT_ ?_
     refine pur 3 (some 25) #[true,false,true,true,false,false,false,false,false,false,false,false,false,false,false,false,false,false,false,false,false] HT_ ?_
     refine pur 5 (some 27) #[true,false,true,true,false,true,false,false,false,false,false,false,false,false,false,false,false,false,false,false,false] HT_ ?_
     refine tak 1 (some 23) #[true,true,true,true,false,true,false,false,false,false,false,false,false,false,false,false,false,false,false,false,false] HT_ HW_ hHeld rfl (Or.inl ⟨by rfl,by rintro w' ⟨s0,s1,s2,s3,s4,s5,s6⟩;go_simp;with_reducible rfl⟩) ?_
     refine tak 4 (some 26) #[true,true,true,true,true,true,false,false,false,false,false,false,false,false,false,false,false,false,false,false,false] HT_ HW_ hHeld rfl (Or.inl ⟨by rfl,by rintro w' ⟨s0,s1,s2,s3,s4,s5,s6⟩;go_simp;with_reducible rfl⟩) ?_
     refine pur 6 (some 28) #[true,true,true,true,true,true,true,false,false,false,false,false,false,false,false,false,false,false,false,false,false] HT_ ?_
     refine tak 7 (some 29) #[true,true,true,true,true,true,true,true,false,false,false,false,false,false,false,false,false,false,false,false,false] HT_ HW_ hHeld rfl (Or.inl ⟨by rfl,by rintro w' ⟨s0,s1,s2,s3,s4,s5,s6⟩;go_simp;with_reducible rfl⟩) ?_
     refine pur 8 (some 30) #[true,true,true,true,true,true,true,true,true,false,false,false,false,false,false,false,false,false,false,false,false] HT_ ?_
     refine pure_ (i:=9) (N:=some 31) (v:=undef) (a':=?_) #[true,true,true,true,true,true,true,true,true,true,false,false,false,false,false,false,false,false,false,false,false] rfl rfl (any_of HT_.out (by kernel_rfl)) (fun _ _ _ h => h) (Or.inr ⟨by rfl,rfl⟩) ?_ ?_
     rotate_left
     ·simp only [Act.put,List.setIfInBounds_toArray,List.set_cons_zero,List.set_cons_succ,i64_w,i32_w]
      rfl
     refine pure_ (i:=10) (N:=some 32) (v:=undef) (a':=?_) #[true,true,true,true,true,true,true,true,true,true,true,false,false,false,false,false,false,false,false,false,false] rfl rfl (any_of HT_.out (by kernel_rfl)) (fun _ _ _ h => h) (Or.inr ⟨by rfl,rfl⟩) ?_ ?_
     rotate_left
     ·simp only [Act.put,List.setIfInBounds_toArray,List.set_cons_zero,List.set_cons_succ,i64_w,i32_w]
      rfl
     refine pure_ (i:=11) (N:=some 33) (v:=undef) (a':=?_) #[true,true,true,true,true,true,true,true,true,true,true,true,false,false,false,false,false,false,false,false,false] rfl rfl (any_of HT_.out (by kernel_rfl)) (fun _ _ _ h => h) (Or.inr ⟨by rfl,rfl⟩) ?_ ?_
     rotate_left
     ·simp only [Act.put,List.setIfInBounds_toArray,List.set_cons_zero,List.set_cons_succ,i64_w,i32_w]
      rfl
     refine pure_ (i:=12) (N:=some 34) (v:=undef) (a':=?_) #[true,true,true,true,true,true,true,true,true,true,true,true,true,false,false,false,false,false,false,false,false] rfl rfl (any_of HT_.out (by kernel_rfl)) (fun _ _ _ h => h) (Or.inr ⟨by rfl,rfl⟩) ?_ ?_
     rotate_left
     ·simp only [Act.put,List.setIfInBounds_toArray,List.set_cons_zero,List.set_cons_succ,i64_w,i32_w]
      rfl
     refine pure_ (i:=13) (N:=some 35) (v:=undef) (a':=?_) #[true,true,true,true,true,true,true,true,true,true,true,true,true,true,false,false,false,false,false,false,false] rfl rfl (any_of HT_.out (by kernel_rfl)) (fun _ _ _ h => h) (Or.inr ⟨by rfl,rfl⟩) ?_ ?_
     rotate_left
     ·simp only [Act.put,List.setIfInBounds_toArray,List.set_cons_zero,List.set_cons_succ,i64_w,i32_w]
      rfl
     refine pure_ (i:=14) (N:=some 36) (v:=undef) (a':=?_) #[true,true,true,true,true,true,true,true,true,true,true,true,true,true,true,false,false,false,false,false,false] rfl rfl (any_of HT_.out (by kernel_rfl)) (fun _ _ _ h => h) (Or.inr ⟨by rfl,rfl⟩) ?_ ?_
     rotate_left
     ·simp only [Act.put,List.setIfInBounds_toArray,List.set_cons_zero,List.set_cons_succ,i64_w,i32_w]
      rfl
     refine pure_ (i:=15) (N:=some 37) (v:=undef) (a':=?_) #[true,true,true,true,true,true,true,true,true,true,true,true,true,true,true,true,false,false,false,false,false] rfl rfl (any_of HT_.out (by kernel_rfl)) (fun _ _ _ h => h) (Or.inr ⟨by rfl,rfl⟩) ?_ ?_
     rotate_left
     ·simp only [Act.put,List.setIfInBounds_toArray,List.set_cons_zero,List.set_cons_succ,i64_w,i32_w]
      rfl
     refine pure_ (i:=16) (N:=some 38) (v:=undef) (a':=?_) #[true,true,true,true,true,true,true,true,true,true,true,true,true,true,true,true,true,false,false,false,false] rfl rfl (any_of HT_.out (by kernel_rfl)) (fun _ _ _ h => h) (Or.inr ⟨by rfl,rfl⟩) ?_ ?_
     rotate_left
     ·simp only [Act.put,List.setIfInBounds_toArray,List.set_cons_zero,List.set_cons_succ,i64_w,i32_w]
      rfl
     refine pure_ (i:=17) (N:=some 39) (v:=undef) (a':=?_) #[true,true,true,true,true,true,true,true,true,true,true,true,true,true,true,true,true,true,false,false,false] rfl rfl (any_of HT_.out (by kernel_rfl)) (fun _ _ _ h => h) (Or.inr ⟨by rfl,rfl⟩) ?_ ?_
     rotate_left
     ·simp only [Act.put,List.setIfInBounds_toArray,List.set_cons_zero,List.set_cons_succ,i64_w,i32_w]
      rfl
     refine pur 18 (some 40) #[true,true,true,true,true,true,true,true,true,true,true,true,true,true,true,true,true,true,true,false,false] HT_ ?_
     refine pur 19 (some 41) #[true,true,true,true,true,true,true,true,true,true,true,true,true,true,true,true,true,true,true,true,false] HT_ ?_
     refine last_ (i:=20) (N:=none) #[true,true,true,true,true,true,true,true,true,true,true,true,true,true,true,true,true,true,true,true,true] rfl rfl (one_of HT_.out (by kernel_rfl)) (by decide) (fun K hK => ?_)
     refine skip_ (w1:=?_) (by rfl) rfl ?_ ?_
     rotate_left
     ·go_simp
      rfl
     refine hK.out _ _ ?_
     clear hK K
     refine done_ (done_of HT_.out (by kernel_rfl)) ?_
     have n0_ : Aside0 (Kd.R (Kd.int .i64) 3 (w24.setCell ⟨go11,(t802 : Int).toNat,none⟩ (.bool true)) w.heap.size (fun _ => True) (.slice Ao20 t805.length co20) t805):=⟨by (with_reducible repeat (first | apply Kd.R_alloc | apply Kd.R_drewN | apply Kd.R_drew));exact Kd.R_mono (Kd.R_far (p:=⟨go11,(t802 : Int).toNat,none⟩) (Kd.R_types HO807.out GG11.out (by decide)) (fun _ hk => hk.2) (.bool true)) (fun _ hk => trivial)⟩
     have n1_ : Aside0 (Kd.R Kd.bool 4 (w24.setCell ⟨go11,(t802 : Int).toNat,none⟩ (.bool true)) w.heap.size (fun k_ => some k_ ≠ (.slice (some ⟨go11,0,none⟩) t811.length co22 : Value).ownBlock) (.slice Ao21 t808.length co21) t808):=⟨by (with_reducible repeat (first | apply Kd.R_alloc | apply Kd.R_drewN | apply Kd.R_drew));exact Kd.R_mono (Kd.R_far (p:=⟨go11,(t802 : Int).toNat,none⟩) (Kd.R_mono HO810.out (fun k_ hk => (⟨hk,fun e_ => hk (by rw [e_];rfl)⟩ : _ ∧ k_ ≠ go11))) (fun _ hk => hk.2) (.bool true)) (fun _ hk => hk.1)⟩
     have n2_ : Aside0 (Kd.R Kd.bool 4 (w24.setCell ⟨go11,(t802 : Int).toNat,none⟩ (.bool true)) w.heap.size (fun k_ => some k_ ≠ (.slice Ao21 t808.length co21 : Value).ownBlock) (.slice (some ⟨go11,0,none⟩) t811.length co22) y817):=⟨by (with_reducible repeat (first | apply Kd.R_alloc | apply Kd.R_drewN | apply Kd.R_drew));exact HQ25.out⟩
     have n3_ : Aside0 ((w24.setCell ⟨go11,(t802 : Int).toNat,none⟩ (.bool true)).heap[gb800]? = some (.cells #[.string t804,.slice Ao20 t805.length co20,.slice Ao21 t808.length co21,.slice (some ⟨go11,0,none⟩) t811.length co22,.int .i64 t814,.int .i64 t815] 50 (0,0))):=⟨by (with_reducible repeat (first | refine blk_drewN ?_ _ | refine blk_drew ?_ | refine blk_alloc ?_ _));refine blk_far ?_ (by have h_:=Kd.R_ne HO813.out BK800.out (by decide);intro e_;exact h_ (by rw [e_];rfl)) _;(with_reducible repeat (first | refine blk_drewN ?_ _ | refine blk_drew ?_ | refine blk_alloc ?_ _));exact BK800.out⟩
     have n4_ : Aside0 ((w24.setCell ⟨go11,(t802 : Int).toNat,none⟩ (.bool true)).heap[gb801]? = some (.cells #[.string (⟨#[]⟩ : ByteArray),.slice none 0 0,.slice none 0 0,.slice none 0 0,.int .i64 0,.int .i64 0] 50 (0,0))):=⟨by (with_reducible repeat (first | refine blk_drewN ?_ _ | refine blk_drew ?_ | refine blk_alloc ?_ _));refine blk_far ?_ (by have h_:=Kd.R_ne HO813.out BK801.out (by decide);intro e_;exact h_ (by rw [e_];rfl)) _;(with_reducible repeat (first | refine blk_drewN ?_ _ | refine blk_drew ?_ | refine blk_alloc ?_ _));exact BK801.out⟩
     have n5_ : Aside0 (Below w.heap.size w (w24.setCell ⟨go11,(t802 : Int).toNat,none⟩ (.bool true))):=⟨by repeat (first | (with_reducible first | exact HB.out | apply below_alloc | apply pw_below_drewN | apply below_drew1 | refine below_set ?_ GB11.out | refine below_set ?_ GE800.out | refine below_set ?_ GE801.out) | exact HB.out)⟩
     (try clear HO807)
     (try clear HO810)
     (try clear HO813)
     (try clear BK800)
     (try clear BK801)
     (try clear HB)
     generalize (w24.setCell ⟨go11,(t802 : Int).toNat,none⟩ (.bool true)) = w26 at n0_ n1_ n2_ n3_ n4_ n5_ ⊢
     have HO807:=n0_
     have HO810:=n1_
     have HO813:=n2_
     have BK800:=n3_
     have BK801:=n4_
     have HB:=n5_
     clear n0_ n1_ n2_ n3_ n4_ n5_
     obtain ⟨z0,z1,z2,z3,z4,z5,y0,y1,y2,y3,y4,y5⟩:=bc6 BK800
     obtain ⟨z0,z1,z2,z3,z4,z5,y0,y1,y2,y3,y4,y5⟩:=bc6 BK801
     try go_wp2
     refine bodyPost_ret (results_ct rfl _ _ gb801 50 #[.string t804,.slice Ao20 t805.length co20,.slice Ao21 t808.length co21,.slice (some ⟨go11,0,none⟩) t811.length co22,.int .i64 t814,.int .i64 t815] (0,0) _ rfl (bkp BK801) Try.underlying50 rfl (by kernel_rfl)) rfl ?_
     exact ⟨_,_,_,rerr,Kd.R_mono (rty (rfo HO807) BK801) (fun _ hk => trivial),rfo HO810,rfo HO813,hbx HB⟩
    ·replace c10:=Bool.eq_false_iff.mpr c10
     subst c10
     rw [if_neg (show ¬ (false = true) by decide)] at H
     by_cases c29 : t814 > 0
     ·rw [if_pos c29] at H
      have c29b0 : decide (0 < t814) = true:=decide_eq_true c29
      clear c29
      obtain ⟨y818,hy818⟩ : ∃ y_ : List Bool,y_ = (t811.set (t802 : Int).toNat (a2 == t814)):=⟨_,rfl⟩
      replace H : (some (t804,t805,t808,y818,t814,t815,0)) = some (r1,r2,r3,r4,r5,r6,r7):=by first | (rw [hy818];with_reducible exact H) | (have H2_:=(Option.bind_some _ _).symm.trans H;rw [hy818];with_reducible exact H2_) | (have H2_:=(Option.bind_some _ _).symm.trans H;with_reducible exact H2_) | with_reducible exact H | (rw [hy818];exact H) | exact H
      have Ny818:=Aside0.mk hy818
      clear hy818
      simp only [Option.some.injEq,Prod.mk.injEq] at H
      obtain ⟨rfl,rfl,rfl,rfl,rfl,rfl,rfl⟩:=H
      go_enter Try.func37,Try.ntmps37
      try go_wp2_with (first | ((with_reducible refine gate_dst (N:=3) rfl ?_);refine boxE 3 #[.string a0_0,.slice A0_1 l0_1.length c0_1,.slice A0_2 l0_2.length c0_2,.slice A0_3 l0_3.length c0_3,.int .i64 a0_4,.int .i64 a0_5] 50 ?_;intro gb800 hg w31 hbox hb;have BK800:=Aside0.mk (hbox);have GW800:=gw hg HB;have GE800:=gw hg HB;replace HB:=hbS HB hb;clear hb hbox hg) | ((with_reducible refine gate_dst (N:=6) rfl ?_);refine boxE 6 #[.string (⟨#[]⟩ : ByteArray),.slice none 0 0,.slice none 0 0,.slice none 0 0,.int .i64 0,.int .i64 0] 50 ?_;intro gb801 hg w32 hbox hb;have BK801:=Aside0.mk (hbox);have GW801:=gw hg HB;have GE801:=gw hg HB;replace HB:=hbS HB hb;have NB800_801:=nbl hg BK800;have NB801_800:=nbg hg BK800;replace BK800:=bkB BK800 hb;clear hb hbox hg;have hnb33:=NB800_801.out;have hnc33:=NB801_800.out;obtain ⟨z0,z1,z2,z3,z4,z5,y0,y1,y2,y3,y4,y5⟩:=bc6 BK800) | ((with_reducible refine gate_callee (f:=64) rfl ?_);refine goesL_ (some 13) rfl rfl Try.func64 (by kernel_rfl) rfl #[.agg #[.string a0_0,.slice A0_1 l0_1.length c0_1,.slice A0_2 l0_2.length c0_2,.slice A0_3 l0_3.length c0_3,.int .i64 a0_4,.int .i64 a0_5],.int .i64 a1] rfl sma ?_;(with_reducible refine (hopmeshref49_at.calls k a0_0 _ _ l0_1 _ _ l0_2 _ _ l0_3 a0_4 a0_5 a1 t802 t803 _ (cb HR0_1 HB) HC0_1.out (cb HR0_2 HB) HC0_2.out (cb HR0_3 HB) HC0_3.out A4.out).mono ?_);rintro e w35 ⟨rfl,hb⟩;refine ⟨_,rfl,?_⟩;replace BK800:=bkB BK800 hb;replace BK801:=bkB BK801 hb;replace HB:=hbS HB hb;(try clear hb);(try clear hb2);(try clear hk);(try clear hi);obtain ⟨z0,z1,z2,z3,z4,z5,y0,y1,y2,y3,y4,y5⟩:=bc6 BK800) | ((with_reducible refine gate_callee (f:=65) rfl ?_);refine goesL_ (some 21) rfl rfl Try.func65 (by kernel_rfl) rfl #[.agg #[.string a0_0,.slice A0_1 l0_1.length c0_1,.slice A0_2 l0_2.length c0_2,.slice A0_3 l0_3.length c0_3,.int .i64 a0_4,.int .i64 a0_5]] rfl sma ?_;(with_reducible refine (hopmeshref49_clone.calls a0_0 _ _ l0_1 _ _ l0_2 _ _ l0_3 a0_4 a0_5 t804 t805 t808 t811 t814 t815 _ (cb HR0_1 HB) HC0_1.out (cb HR0_2 HB) HC0_2.out (cb HR0_3 HB) HC0_3.out A6.out).mono ?_);rintro e w37 ⟨v806,v809,v812,rfl,ho0,ho1,ho2,hb⟩;refine ⟨_,rfl,?_⟩;have HO807:=Aside0.mk (Kd.R_lower ho0 (below_size (hbx HB)));have HO810:=Aside0.mk (Kd.R_lower ho1 (below_size (hbx HB)));have HO813:=Aside0.mk (Kd.R_lower ho2 (below_size (hbx HB)));replace BK800:=bkB BK800 hb;replace BK801:=bkB BK801 hb;replace HB:=hbS HB hb;(try clear hb);(try clear hb2);(try clear hk);(try clear hi);(try clear ho0);(try clear ho1);(try clear ho2);obtain ⟨z0,z1,z2,z3,z4,z5,y0,y1,y2,y3,y4,y5⟩:=bc6 BK800;obtain ⟨Ao39,co39,eo39⟩:=Kd.R_slice HO807.out;subst eo39;obtain ⟨Ao40,co40,eo40⟩:=Kd.R_slice HO810.out;subst eo40;obtain ⟨Ao41,co41,eo41⟩:=Kd.R_slice HO813.out;subst eo41))
      have n0_ : Aside0 (Kd.R (Kd.int .i64) 3 ((((((w37.setCell ⟨gb800,0,none⟩ (.string t804)).setCell ⟨gb800,1,none⟩ (.slice Ao39 t805.length co39)).setCell ⟨gb800,2,none⟩ (.slice Ao40 t808.length co40)).setCell ⟨gb800,3,none⟩ (.slice Ao41 t811.length co41)).setCell ⟨gb800,4,none⟩ (.int .i64 t814)).setCell ⟨gb800,5,none⟩ (.int .i64 t815)) w.heap.size (fun _ => True) (.slice Ao39 t805.length co39) t805):=⟨Kd.R_mono (rty (rfo HO807) BK800) (fun _ hk => trivial)⟩
      have n1_ : Aside0 (Kd.R Kd.bool 4 ((((((w37.setCell ⟨gb800,0,none⟩ (.string t804)).setCell ⟨gb800,1,none⟩ (.slice Ao39 t805.length co39)).setCell ⟨gb800,2,none⟩ (.slice Ao40 t808.length co40)).setCell ⟨gb800,3,none⟩ (.slice Ao41 t811.length co41)).setCell ⟨gb800,4,none⟩ (.int .i64 t814)).setCell ⟨gb800,5,none⟩ (.int .i64 t815)) w.heap.size (fun k_ => some k_ ≠ (.slice Ao41 t811.length co41 : Value).ownBlock) (.slice Ao40 t808.length co40) t808):=rfA HO810
      have n2_ : Aside0 (Kd.R Kd.bool 4 ((((((w37.setCell ⟨gb800,0,none⟩ (.string t804)).setCell ⟨gb800,1,none⟩ (.slice Ao39 t805.length co39)).setCell ⟨gb800,2,none⟩ (.slice Ao40 t808.length co40)).setCell ⟨gb800,3,none⟩ (.slice Ao41 t811.length co41)).setCell ⟨gb800,4,none⟩ (.int .i64 t814)).setCell ⟨gb800,5,none⟩ (.int .i64 t815)) w.heap.size (fun k_ => some k_ ≠ (.slice Ao40 t808.length co40 : Value).ownBlock) (.slice Ao41 t811.length co41) t811):=rfA HO813
      have n3_ : Aside0 (((((((w37.setCell ⟨gb800,0,none⟩ (.string t804)).setCell ⟨gb800,1,none⟩ (.slice Ao39 t805.length co39)).setCell ⟨gb800,2,none⟩ (.slice Ao40 t808.length co40)).setCell ⟨gb800,3,none⟩ (.slice Ao41 t811.length co41)).setCell ⟨gb800,4,none⟩ (.int .i64 t814)).setCell ⟨gb800,5,none⟩ (.int .i64 t815)).heap[gb800]? = some (.cells #[.string t804,.slice Ao39 t805.length co39,.slice Ao40 t808.length co40,.slice Ao41 t811.length co41,.int .i64 t814,.int .i64 t815] 50 (0,0))):=bkpA BK800
      have n4_ : Aside0 (((((((w37.setCell ⟨gb800,0,none⟩ (.string t804)).setCell ⟨gb800,1,none⟩ (.slice Ao39 t805.length co39)).setCell ⟨gb800,2,none⟩ (.slice Ao40 t808.length co40)).setCell ⟨gb800,3,none⟩ (.slice Ao41 t811.length co41)).setCell ⟨gb800,4,none⟩ (.int .i64 t814)).setCell ⟨gb800,5,none⟩ (.int .i64 t815)).heap[gb801]? = some (.cells #[.string (⟨#[]⟩ : ByteArray),.slice none 0 0,.slice none 0 0,.slice none 0 0,.int .i64 0,.int .i64 0] 50 (0,0))):=bkfA BK801
      have n5_ : Aside0 (Below w.heap.size w ((((((w37.setCell ⟨gb800,0,none⟩ (.string t804)).setCell ⟨gb800,1,none⟩ (.slice Ao39 t805.length co39)).setCell ⟨gb800,2,none⟩ (.slice Ao40 t808.length co40)).setCell ⟨gb800,3,none⟩ (.slice Ao41 t811.length co41)).setCell ⟨gb800,4,none⟩ (.int .i64 t814)).setCell ⟨gb800,5,none⟩ (.int .i64 t815))):=hbA HB
      (try clear HO807)
      (try clear HO810)
      (try clear HO813)
      (try clear BK800)
      (try clear BK801)
      (try clear HB)
      generalize ((((((w37.setCell ⟨gb800,0,none⟩ (.string t804)).setCell ⟨gb800,1,none⟩ (.slice Ao39 t805.length co39)).setCell ⟨gb800,2,none⟩ (.slice Ao40 t808.length co40)).setCell ⟨gb800,3,none⟩ (.slice Ao41 t811.length co41)).setCell ⟨gb800,4,none⟩ (.int .i64 t814)).setCell ⟨gb800,5,none⟩ (.int .i64 t815)) = w42 at n0_ n1_ n2_ n3_ n4_ n5_ ⊢
      have HO807:=n0_
      have HO810:=n1_
      have HO813:=n2_
      have BK800:=n3_
      have BK801:=n4_
      have HB:=n5_
      clear n0_ n1_ n2_ n3_ n4_ n5_
      replace HO807:=Aside0.mk (Kd.R_drew HO807.out)
      replace HO810:=Aside0.mk (Kd.R_drew HO810.out)
      replace HO813:=Aside0.mk (Kd.R_drew HO813.out)
      replace BK800:=Aside0.mk (blk_drew BK800.out)
      replace BK801:=Aside0.mk (blk_drew BK801.out)
      replace HB:=Aside0.mk (below_drew1 HB.out)
      have p816 : 0 ≤ (t802 : Int):=pos_
      have q816 : t802 < (t811.length : Int):=pos_
      obtain ⟨ad816,e816,hx816_0⟩:=Kd.at_bool (Kd.R_reads' HO813.out).2.2 t802 p816 q816
      (try rw [← Nbq9.out] at hx816_0)
      cases e816
      replace p816:=eq_true p816
      replace q816:=eq_true q816
      have p30 : 0 ≤ (t802 : Int):=pos_
      have q30 : (t802 : Int) < ((t811.length : Int) : Int):=pos_
      obtain ⟨go30,co30,eo30,gb30,gl30,cl30,HG30⟩:=Kd.R_form HO813.out (by omega)
      (first | cases eo30 | (injection eo30 with ea_ en_ ec_;(first | subst ea_ | (injection ea_ with ea_;subst ea_));subst ec_;clear en_))
      have GB30:=Aside0.mk gb30
      have GG30:=Aside0.mk HG30
      clear gb30 gl30 HG30
      (first | simp only [add_plain] at hx816_0 | skip)
      obtain ⟨hx30_0,hf30_0⟩:=Kd.R_celln false HO813.out (t802 : Int) p30 q30
      replace p30:=eq_true p30
      replace q30:=eq_true q30
      have HP44:=Kd.R_putn HO813.out (t802 : Int) (a2 == t814)
      rw [← Ny818.out] at HP44
      have HQ44:=Aside0.mk HP44
      clear HP44
      refine start_ (n:=21) (S:=fun w' => w'.cell? ⟨gb800,0,none⟩ = some (.string t804) ∧ w'.cell? ⟨gb800,1,none⟩ = some (.slice Ao39 t805.length co39) ∧ w'.cell? ⟨gb800,2,none⟩ = some (.slice Ao40 t808.length co40) ∧ w'.cell? ⟨gb800,3,none⟩ = some (.slice (some ⟨go30,0,none⟩) t811.length co41) ∧ w'.cell? ⟨gb800,4,none⟩ = some (.int .i64 t814) ∧ w'.cell? ⟨gb800,5,none⟩ = some (.int .i64 t815) ∧ w'.cell? ⟨go30,(t802).toNat,none⟩ = some (.bool false)) (ds:=[20]) #[false,false,false,false,false,false,false,false,false,false,false,false,false,false,false,false,false,false,false,false,false] (by kernel_rfl) rfl rfl ⟨(blk_cell BK800.out 0).trans rfl,(blk_cell BK800.out 1).trans rfl,(blk_cell BK800.out 2).trans rfl,(blk_cell BK800.out 3).trans rfl,(blk_cell BK800.out 4).trans rfl,(blk_cell BK800.out 5).trans rfl,hx816_0⟩ (fun hHeld => ?_);refine with_tabW hopmeshref49_Acknowledge.tab5 hopmeshref49_Acknowledge.bits5 (fun HT_ HW_ => ?_)
      generalize w42.drew = w43 at HO807 HO810 HO813 BK800 BK801 HB GG30 HQ44 hf30_0 hx30_0 hx816_0 hHeld ⊢
      refine pur 0 (some 22) #[true,false,false,false,false,false,false,false,false,false,false,false,false,false,false,false,false,false,false,false,false] HT_ ?_
      refine pur 2 (some 24) #[true,false,true,false,false,false,false,false,false,false,false,false,false,false,false,false,false,false,false,false,false] HT_ ?_
      refine pur 3 (some 25) #[true,false,true,true,false,false,false,false,false,false,false,false,false,false,false,false,false,false,false,false,false] HT_ ?_
      refine pur 5 (some 27) #[true,false,true,true,false,true,false,false,false,false,false,false,false,false,false,false,false,false,false,false,false] HT_ ?_
      refine tak 1 (some 23) #[true,true,true,true,false,true,false,false,false,false,false,false,false,false,false,false,false,false,false,false,false] HT_ HW_ hHeld rfl (Or.inl ⟨by rfl,by rintro w' ⟨s0,s1,s2,s3,s4,s5,s6⟩;go_simp;with_reducible rfl⟩) ?_
      refine tak 4 (some 26) #[true,true,true,true,true,true,false,false,false,false,false,false,false,false,false,false,false,false,false,false,false] HT_ HW_ hHeld rfl (Or.inl ⟨by rfl,by rintro w' ⟨s0,s1,s2,s3,s4,s5,s6⟩;go_simp;with_reducible rfl⟩) ?_
      refine pur 6 (some 28) #[true,true,true,true,true,true,true,false,false,false,false,false,false,false,false,false,false,false,false,false,false] HT_ ?_
      refine tak 7 (some 29) #[true,true,true,true,true,true,true,true,false,false,false,false,false,false,false,false,false,false,false,false,false] HT_ HW_ hHeld rfl (Or.inl ⟨by rfl,by rintro w' ⟨s0,s1,s2,s3,s4,s5,s6⟩;go_simp;with_reducible rfl⟩) ?_
      refine pur 8 (some 30) #[true,true,true,true,true,true,true,true,true,false,false,false,false,false,false,false,false,false,false,false,false] HT_ ?_
      refine pur 9 (some 31) #[true,true,true,true,true,true,true,true,true,true,false,false,false,false,false,false,false,false,false,false,false] HT_ ?_
      refine tak 10 (some 32) #[true,true,true,true,true,true,true,true,true,true,true,false,false,false,false,false,false,false,false,false,false] HT_ HW_ hHeld rfl (Or.inl ⟨by rfl,by rintro w' ⟨s0,s1,s2,s3,s4,s5,s6⟩;go_simp;with_reducible rfl⟩) ?_
      refine pur 11 (some 33) #[true,true,true,true,true,true,true,true,true,true,true,true,false,false,false,false,false,false,false,false,false] HT_ ?_
      refine pur 12 (some 34) #[true,true,true,true,true,true,true,true,true,true,true,true,true,false,false,false,false,false,false,false,false] HT_ ?_
      refine pur 13 (some 35) #[true,true,true,true,true,true,true,true,true,true,true,true,true,true,false,false,false,false,false,false,false] HT_ ?_
      refine pur 14 (some 36) #[true,true,true,true,true,true,true,true,true,true,true,true,true,true,true,false,false,false,false,false,false] HT_ ?_
      refine tak 15 (some 37) #[true,true,true,true,true,true,true,true,true,true,true,true,true,true,true,true,false,false,false,false,false] HT_ HW_ hHeld rfl (Or.inl ⟨by rfl,by rintro w' ⟨s0,s1,s2,s3,s4,s5,s6⟩;go_simp;with_reducible rfl⟩) ?_
      refine pur 16 (some 38) #[true,true,true,true,true,true,true,true,true,true,true,true,true,true,true,true,true,false,false,false,false] HT_ ?_
      refine pur 17 (some 39) #[true,true,true,true,true,true,true,true,true,true,true,true,true,true,true,true,true,true,false,false,false] HT_ ?_
      refine pur 18 (some 40) #[true,true,true,true,true,true,true,true,true,true,true,true,true,true,true,true,true,true,true,false,false] HT_ ?_
      refine pur 19 (some 41) #[true,true,true,true,true,true,true,true,true,true,true,true,true,true,true,true,true,true,true,true,false] HT_ ?_
      refine last_ (i:=20) (N:=none) #[true,true,true,true,true,true,true,true,true,true,true,true,true,true,true,true,true,true,true,true,true] rfl rfl (one_of HT_.out (by kernel_rfl)) (by decide) (fun K hK => ?_)
      refine skip_ (w1:=?_) (by rfl) rfl ?_ ?_
      rotate_left
      ·go_simp
       rfl
      refine hK.out _ _ ?_
      clear hK K
      refine done_ (done_of HT_.out (by kernel_rfl)) ?_
      have n0_ : Aside0 (Kd.R (Kd.int .i64) 3 (w43.setCell ⟨go30,(t802 : Int).toNat,none⟩ (.bool (a2 == t814))) w.heap.size (fun _ => True) (.slice Ao39 t805.length co39) t805):=⟨by (with_reducible repeat (first | apply Kd.R_alloc | apply Kd.R_drewN | apply Kd.R_drew));exact Kd.R_mono (Kd.R_far (p:=⟨go30,(t802 : Int).toNat,none⟩) (Kd.R_types HO807.out GG30.out (by decide)) (fun _ hk => hk.2) (.bool (a2 == t814))) (fun _ hk => trivial)⟩
      have n1_ : Aside0 (Kd.R Kd.bool 4 (w43.setCell ⟨go30,(t802 : Int).toNat,none⟩ (.bool (a2 == t814))) w.heap.size (fun k_ => some k_ ≠ (.slice (some ⟨go30,0,none⟩) t811.length co41 : Value).ownBlock) (.slice Ao40 t808.length co40) t808):=⟨by (with_reducible repeat (first | apply Kd.R_alloc | apply Kd.R_drewN | apply Kd.R_drew));exact Kd.R_mono (Kd.R_far (p:=⟨go30,(t802 : Int).toNat,none⟩) (Kd.R_mono HO810.out (fun k_ hk => (⟨hk,fun e_ => hk (by rw [e_];rfl)⟩ : _ ∧ k_ ≠ go30))) (fun _ hk => hk.2) (.bool (a2 == t814))) (fun _ hk => hk.1)⟩
      have n2_ : Aside0 (Kd.R Kd.bool 4 (w43.setCell ⟨go30,(t802 : Int).toNat,none⟩ (.bool (a2 == t814))) w.heap.size (fun k_ => some k_ ≠ (.slice Ao40 t808.length co40 : Value).ownBlock) (.slice (some ⟨go30,0,none⟩) t811.length co41) y818):=⟨by (with_reducible repeat (first | apply Kd.R_alloc | apply Kd.R_drewN | apply Kd.R_drew));exact HQ44.out⟩
      have n3_ : Aside0 ((w43.setCell ⟨go30,(t802 : Int).toNat,none⟩ (.bool (a2 == t814))).heap[gb800]? = some (.cells #[.string t804,.slice Ao39 t805.length co39,.slice Ao40 t808.length co40,.slice (some ⟨go30,0,none⟩) t811.length co41,.int .i64 t814,.int .i64 t815] 50 (0,0))):=⟨by (with_reducible repeat (first | refine blk_drewN ?_ _ | refine blk_drew ?_ | refine blk_alloc ?_ _));refine blk_far ?_ (by have h_:=Kd.R_ne HO813.out BK800.out (by decide);intro e_;exact h_ (by rw [e_];rfl)) _;(with_reducible repeat (first | refine blk_drewN ?_ _ | refine blk_drew ?_ | refine blk_alloc ?_ _));exact BK800.out⟩
      have n4_ : Aside0 ((w43.setCell ⟨go30,(t802 : Int).toNat,none⟩ (.bool (a2 == t814))).heap[gb801]? = some (.cells #[.string (⟨#[]⟩ : ByteArray),.slice none 0 0,.slice none 0 0,.slice none 0 0,.int .i64 0,.int .i64 0] 50 (0,0))):=⟨by (with_reducible repeat (first | refine blk_drewN ?_ _ | refine blk_drew ?_ | refine blk_alloc ?_ _));refine blk_far ?_ (by have h_:=Kd.R_ne HO813.out BK801.out (by decide);intro e_;exact h_ (by rw [e_];rfl)) _;(with_reducible repeat (first | refine blk_drewN ?_ _ | refine blk_drew ?_ | refine blk_alloc ?_ _));exact BK801.out⟩
      have n5_ : Aside0 (Below w.heap.size w (w43.setCell ⟨go30,(t802 : Int).toNat,none⟩ (.bool (a2 == t814)))):=⟨by repeat (first | (with_reducible first | exact HB.out | apply below_alloc | apply pw_below_drewN | apply below_drew1 | refine below_set ?_ GB30.out | refine below_set ?_ GE800.out | refine below_set ?_ GE801.out) | exact HB.out)⟩
      (try clear HO807)
      (try clear HO810)
      (try clear HO813)
      (try clear BK800)
      (try clear BK801)
      (try clear HB)
      generalize (w43.setCell ⟨go30,(t802 : Int).toNat,none⟩ (.bool (a2 == t814))) = w45 at n0_ n1_ n2_ n3_ n4_ n5_ ⊢
      have HO807:=n0_
      have HO810:=n1_
      have HO813:=n2_
      have BK800:=n3_
      have BK801:=n4_
      have HB:=n5_
      clear n0_ n1_ n2_ n3_ n4_ n5_
      obtain ⟨z0,z1,z2,z3,z4,z5,y0,y1,y2,y3,y4,y5⟩:=bc6 BK800
      obtain ⟨z0,z1,z2,z3,z4,z5,y0,y1,y2,y3,y4,y5⟩:=bc6 BK801
      try go_wp2
      refine bodyPost_ret (results_ct rfl _ _ gb801 50 #[.string t804,.slice Ao39 t805.length co39,.slice Ao40 t808.length co40,.slice (some ⟨go30,0,none⟩) t811.length co41,.int .i64 t814,.int .i64 t815] (0,0) _ rfl (bkp BK801) Try.underlying50 rfl (by kernel_rfl)) rfl ?_
      exact ⟨_,_,_,rerr,Kd.R_mono (rty (rfo HO807) BK801) (fun _ hk => trivial),rfo HO810,rfo HO813,hbx HB⟩
     ·rw [if_neg c29] at H
      have c29b0 : decide (0 < t814) = false:=decide_eq_false c29
      clear c29
      obtain ⟨y819,hy819⟩ : ∃ y_ : List Bool,y_ = (t811.set (t802 : Int).toNat false):=⟨_,rfl⟩
      replace H : (some (t804,t805,t808,y819,t814,t815,0)) = some (r1,r2,r3,r4,r5,r6,r7):=by first | (rw [hy819];with_reducible exact H) | (have H2_:=(Option.bind_some _ _).symm.trans H;rw [hy819];with_reducible exact H2_) | (have H2_:=(Option.bind_some _ _).symm.trans H;with_reducible exact H2_) | with_reducible exact H | (rw [hy819];exact H) | exact H
      have Ny819:=Aside0.mk hy819
      clear hy819
      simp only [Option.some.injEq,Prod.mk.injEq] at H
      obtain ⟨rfl,rfl,rfl,rfl,rfl,rfl,rfl⟩:=H
      go_enter Try.func37,Try.ntmps37
      try go_wp2_with (first | ((with_reducible refine gate_dst (N:=3) rfl ?_);refine boxE 3 #[.string a0_0,.slice A0_1 l0_1.length c0_1,.slice A0_2 l0_2.length c0_2,.slice A0_3 l0_3.length c0_3,.int .i64 a0_4,.int .i64 a0_5] 50 ?_;intro gb800 hg w49 hbox hb;have BK800:=Aside0.mk (hbox);have GW800:=gw hg HB;have GE800:=gw hg HB;replace HB:=hbS HB hb;clear hb hbox hg) | ((with_reducible refine gate_dst (N:=6) rfl ?_);refine boxE 6 #[.string (⟨#[]⟩ : ByteArray),.slice none 0 0,.slice none 0 0,.slice none 0 0,.int .i64 0,.int .i64 0] 50 ?_;intro gb801 hg w50 hbox hb;have BK801:=Aside0.mk (hbox);have GW801:=gw hg HB;have GE801:=gw hg HB;replace HB:=hbS HB hb;have NB800_801:=nbl hg BK800;have NB801_800:=nbg hg BK800;replace BK800:=bkB BK800 hb;clear hb hbox hg;have hnb51:=NB800_801.out;have hnc51:=NB801_800.out;obtain ⟨z0,z1,z2,z3,z4,z5,y0,y1,y2,y3,y4,y5⟩:=bc6 BK800) | ((with_reducible refine gate_callee (f:=64) rfl ?_);refine goesL_ (some 13) rfl rfl Try.func64 (by kernel_rfl) rfl #[.agg #[.string a0_0,.slice A0_1 l0_1.length c0_1,.slice A0_2 l0_2.length c0_2,.slice A0_3 l0_3.length c0_3,.int .i64 a0_4,.int .i64 a0_5],.int .i64 a1] rfl sma ?_;(with_reducible refine (hopmeshref49_at.calls k a0_0 _ _ l0_1 _ _ l0_2 _ _ l0_3 a0_4 a0_5 a1 t802 t803 _ (cb HR0_1 HB) HC0_1.out (cb HR0_2 HB) HC0_2.out (cb HR0_3 HB) HC0_3.out A4.out).mono ?_);rintro e w53 ⟨rfl,hb⟩;refine ⟨_,rfl,?_⟩;replace BK800:=bkB BK800 hb;replace BK801:=bkB BK801 hb;replace HB:=hbS HB hb;(try clear hb);(try clear hb2);(try clear hk);(try clear hi);obtain ⟨z0,z1,z2,z3,z4,z5,y0,y1,y2,y3,y4,y5⟩:=bc6 BK800) | ((with_reducible refine gate_callee (f:=65) rfl ?_);refine goesL_ (some 21) rfl rfl Try.func65 (by kernel_rfl) rfl #[.agg #[.string a0_0,.slice A0_1 l0_1.length c0_1,.slice A0_2 l0_2.length c0_2,.slice A0_3 l0_3.length c0_3,.int .i64 a0_4,.int .i64 a0_5]] rfl sma ?_;(with_reducible refine (hopmeshref49_clone.calls a0_0 _ _ l0_1 _ _ l0_2 _ _ l0_3 a0_4 a0_5 t804 t805 t808 t811 t814 t815 _ (cb HR0_1 HB) HC0_1.out (cb HR0_2 HB) HC0_2.out (cb HR0_3 HB) HC0_3.out A6.out).mono ?_);rintro e w55 ⟨v806,v809,v812,rfl,ho0,ho1,ho2,hb⟩;refine ⟨_,rfl,?_⟩;have HO807:=Aside0.mk (Kd.R_lower ho0 (below_size (hbx HB)));have HO810:=Aside0.mk (Kd.R_lower ho1 (below_size (hbx HB)));have HO813:=Aside0.mk (Kd.R_lower ho2 (below_size (hbx HB)));replace BK800:=bkB BK800 hb;replace BK801:=bkB BK801 hb;replace HB:=hbS HB hb;(try clear hb);(try clear hb2);(try clear hk);(try clear hi);(try clear ho0);(try clear ho1);(try clear ho2);obtain ⟨z0,z1,z2,z3,z4,z5,y0,y1,y2,y3,y4,y5⟩:=bc6 BK800;obtain ⟨Ao57,co57,eo57⟩:=Kd.R_slice HO807.out;subst eo57;obtain ⟨Ao58,co58,eo58⟩:=Kd.R_slice HO810.out;subst eo58;obtain ⟨Ao59,co59,eo59⟩:=Kd.R_slice HO813.out;subst eo59))
      have n0_ : Aside0 (Kd.R (Kd.int .i64) 3 ((((((w55.setCell ⟨gb800,0,none⟩ (.string t804)).setCell ⟨gb800,1,none⟩ (.slice Ao57 t805.length co57)).setCell ⟨gb800,2,none⟩ (.slice Ao58 t808.length co58)).setCell ⟨gb800,3,none⟩ (.slice Ao59 t811.length co59)).setCell ⟨gb800,4,none⟩ (.int .i64 t814)).setCell ⟨gb800,5,none⟩ (.int .i64 t815)) w.heap.size (fun _ => True) (.slice Ao57 t805.length co57) t805):=⟨Kd.R_mono (rty (rfo HO807) BK800) (fun _ hk => trivial)⟩
      have n1_ : Aside0 (Kd.R Kd.bool 4 ((((((w55.setCell ⟨gb800,0,none⟩ (.string t804)).setCell ⟨gb800,1,none⟩ (.slice Ao57 t805.length co57)).setCell ⟨gb800,2,none⟩ (.slice Ao58 t808.length co58)).setCell ⟨gb800,3,none⟩ (.slice Ao59 t811.length co59)).setCell ⟨gb800,4,none⟩ (.int .i64 t814)).setCell ⟨gb800,5,none⟩ (.int .i64 t815)) w.heap.size (fun k_ => some k_ ≠ (.slice Ao59 t811.length co59 : Value).ownBlock) (.slice Ao58 t808.length co58) t808):=rfA HO810
      have n2_ : Aside0 (Kd.R Kd.bool 4 ((((((w55.setCell ⟨gb800,0,none⟩ (.string t804)).setCell ⟨gb800,1,none⟩ (.slice Ao57 t805.length co57)).setCell ⟨gb800,2,none⟩ (.slice Ao58 t808.length co58)).setCell ⟨gb800,3,none⟩ (.slice Ao59 t811.length co59)).setCell ⟨gb800,4,none⟩ (.int .i64 t814)).setCell ⟨gb800,5,none⟩ (.int .i64 t815)) w.heap.size (fun k_ => some k_ ≠ (.slice Ao58 t808.length co58 : Value).ownBlock) (.slice Ao59 t811.length co59) t811):=rfA HO813
      have n3_ : Aside0 (((((((w55.setCell ⟨gb800,0,none⟩ (.string t804)).setCell ⟨gb800,1,none⟩ (.slice Ao57 t805.length co57)).setCell ⟨gb800,2,none⟩ (.slice Ao58 t808.length co58)).setCell ⟨gb800,3,none⟩ (.slice Ao59 t811.length co59)).setCell ⟨gb800,4,none⟩ (.int .i64 t814)).setCell ⟨gb800,5,none⟩ (.int .i64 t815)).heap[gb800]? = some (.cells #[.string t804,.slice Ao57 t805.length co57,.slice Ao58 t808.length co58,.slice Ao59 t811.length co59,.int .i64 t814,.int .i64 t815] 50 (0,0))):=bkpA BK800
      have n4_ : Aside0 (((((((w55.setCell ⟨gb800,0,none⟩ (.string t804)).setCell ⟨gb800,1,none⟩ (.slice Ao57 t805.length co57)).setCell ⟨gb800,2,none⟩ (.slice Ao58 t808.length co58)).setCell ⟨gb800,3,none⟩ (.slice Ao59 t811.length co59)).setCell ⟨gb800,4,none⟩ (.int .i64 t814)).setCell ⟨gb800,5,none⟩ (.int .i64 t815)).heap[gb801]? = some (.cells #[.string (⟨#[]⟩ : ByteArray),.slice none 0 0,.slice none 0 0,.slice none 0 0,.int .i64 0,.int .i64 0] 50 (0,0))):=bkfA BK801
      have n5_ : Aside0 (Below w.heap.size w ((((((w55.setCell ⟨gb800,0,none⟩ (.string t804)).setCell ⟨gb800,1,none⟩ (.slice Ao57 t805.length co57)).setCell ⟨gb800,2,none⟩ (.slice Ao58 t808.length co58)).setCell ⟨gb800,3,none⟩ (.slice Ao59 t811.length co59)).setCell ⟨gb800,4,none⟩ (.int .i64 t814)).setCell ⟨gb800,5,none⟩ (.int .i64 t815))):=hbA HB
      (try clear HO807)
      (try clear HO810)
      (try clear HO813)
      (try clear BK800)
      (try clear BK801)
      (try clear HB)
      generalize ((((((w55.setCell ⟨gb800,0,none⟩ (.string t804)).setCell ⟨gb800,1,none⟩ (.slice Ao57 t805.length co57)).setCell ⟨gb800,2,none⟩ (.slice Ao58 t808.length co58)).setCell ⟨gb800,3,none⟩ (.slice Ao59 t811.length co59)).setCell ⟨gb800,4,none⟩ (.int .i64 t814)).setCell ⟨gb800,5,none⟩ (.int .i64 t815)) = w60 at n0_ n1_ n2_ n3_ n4_ n5_ ⊢
      have HO807:=n0_
      have HO810:=n1_
      have HO813:=n2_
      have BK800:=n3_
      have BK801:=n4_
      have HB:=n5_
      clear n0_ n1_ n2_ n3_ n4_ n5_
      replace HO807:=Aside0.mk (Kd.R_drew HO807.out)
      replace HO810:=Aside0.mk (Kd.R_drew HO810.out)
      replace HO813:=Aside0.mk (Kd.R_drew HO813.out)
      replace BK800:=Aside0.mk (blk_drew BK800.out)
      replace BK801:=Aside0.mk (blk_drew BK801.out)
      replace HB:=Aside0.mk (below_drew1 HB.out)
      have p816 : 0 ≤ (t802 : Int):=pos_
      have q816 : t802 < (t811.length : Int):=pos_
      obtain ⟨ad816,e816,hx816_0⟩:=Kd.at_bool (Kd.R_reads' HO813.out).2.2 t802 p816 q816
      (try rw [← Nbq9.out] at hx816_0)
      cases e816
      replace p816:=eq_true p816
      replace q816:=eq_true q816
      have p48 : 0 ≤ (t802 : Int):=pos_
      have q48 : (t802 : Int) < ((t811.length : Int) : Int):=pos_
      obtain ⟨go48,co48,eo48,gb48,gl48,cl48,HG48⟩:=Kd.R_form HO813.out (by omega)
      (first | cases eo48 | (injection eo48 with ea_ en_ ec_;(first | subst ea_ | (injection ea_ with ea_;subst ea_));subst ec_;clear en_))
      have GB48:=Aside0.mk gb48
      have GG48:=Aside0.mk HG48
      clear gb48 gl48 HG48
      (first | simp only [add_plain] at hx816_0 | skip)
      obtain ⟨hx48_0,hf48_0⟩:=Kd.R_celln false HO813.out (t802 : Int) p48 q48
      replace p48:=eq_true p48
      replace q48:=eq_true q48
      have HP62:=Kd.R_putn HO813.out (t802 : Int) false
      rw [← Ny819.out] at HP62
      have HQ62:=Aside0.mk HP62
      clear HP62
      refine start_ (n:=21) (S:=fun w' => w'.cell? ⟨gb800,0,none⟩ = some (.string t804) ∧ w'.cell? ⟨gb800,1,none⟩ = some (.slice Ao57 t805.length co57) ∧ w'.cell? ⟨gb800,2,none⟩ = some (.slice Ao58 t808.length co58) ∧ w'.cell? ⟨gb800,3,none⟩ = some (.slice (some ⟨go48,0,none⟩) t811.length co59) ∧ w'.cell? ⟨gb800,4,none⟩ = some (.int .i64 t814) ∧ w'.cell? ⟨gb800,5,none⟩ = some (.int .i64 t815) ∧ w'.cell? ⟨go48,(t802).toNat,none⟩ = some (.bool false)) (ds:=[20]) #[false,false,false,false,false,false,false,false,false,false,false,false,false,false,false,false,false,false,false,false,false] (by kernel_rfl) rfl rfl ⟨(blk_cell BK800.out 0).trans rfl,(blk_cell BK800.out 1).trans rfl,(blk_cell BK800.out 2).trans rfl,(blk_cell BK800.out 3).trans rfl,(blk_cell BK800.out 4).trans rfl,(blk_cell BK800.out 5).trans rfl,hx816_0⟩ (fun hHeld => ?_);refine with_tabW hopmeshref49_Acknowledge.tab5 hopmeshref49_Acknowledge.bits5 (fun HT_ HW_ => ?_)
      generalize w60.drew = w61 at HO807 HO810 HO813 BK800 BK801 HB GG48 HQ62 hf48_0 hx48_0 hx816_0 hHeld ⊢
      refine pur 0 (some 22) #[true,false,false,false,false,false,false,false,false,false,false,false,false,false,false,false,false,false,false,false,false] HT_ ?_
      refine pur 2 (some 24) #[true,false,true,false,false,false,false,false,false,false,false,false,false,false,false,false,false,false,false,false,false] HT_ ?_
      refine pur 3 (some 25) #[true,false,true,true,false,false,false,false,false,false,false,false,false,false,false,false,false,false,false,false,false] HT_ ?_
      refine pur 5 (some 27) #[true,false,true,true,false,true,false,false,false,false,false,false,false,false,false,false,false,false,false,false,false] HT_ ?_
      refine tak 1 (some 23) #[true,true,true,true,false,true,false,false,false,false,false,false,false,false,false,false,false,false,false,false,false] HT_ HW_ hHeld rfl (Or.inl ⟨by rfl,by rintro w' ⟨s0,s1,s2,s3,s4,s5,s6⟩;go_simp;with_reducible rfl⟩) ?_
      refine tak 4 (some 26) #[true,true,true,true,true,true,false,false,false,false,false,false,false,false,false,false,false,false,false,false,false] HT_ HW_ hHeld rfl (Or.inl ⟨by rfl,by rintro w' ⟨s0,s1,s2,s3,s4,s5,s6⟩;go_simp;with_reducible rfl⟩) ?_
      refine pur 6 (some 28) #[true,true,true,true,true,true,true,false,false,false,false,false,false,false,false,false,false,false,false,false,false] HT_ ?_
      refine tak 7 (some 29) #[true,true,true,true,true,true,true,true,false,false,false,false,false,false,false,false,false,false,false,false,false] HT_ HW_ hHeld rfl (Or.inl ⟨by rfl,by rintro w' ⟨s0,s1,s2,s3,s4,s5,s6⟩;go_simp;with_reducible rfl⟩) ?_
      refine pur 8 (some 30) #[true,true,true,true,true,true,true,true,true,false,false,false,false,false,false,false,false,false,false,false,false] HT_ ?_
      refine pur 9 (some 31) #[true,true,true,true,true,true,true,true,true,true,false,false,false,false,false,false,false,false,false,false,false] HT_ ?_
      refine tak 10 (some 32) #[true,true,true,true,true,true,true,true,true,true,true,false,false,false,false,false,false,false,false,false,false] HT_ HW_ hHeld rfl (Or.inl ⟨by rfl,by rintro w' ⟨s0,s1,s2,s3,s4,s5,s6⟩;go_simp;with_reducible rfl⟩) ?_
      refine pur 11 (some 33) #[true,true,true,true,true,true,true,true,true,true,true,true,false,false,false,false,false,false,false,false,false] HT_ ?_
      refine pur 12 (some 34) #[true,true,true,true,true,true,true,true,true,true,true,true,true,false,false,false,false,false,false,false,false] HT_ ?_
      refine pure_ (i:=13) (N:=some 35) (v:=undef) (a':=?_) #[true,true,true,true,true,true,true,true,true,true,true,true,true,true,false,false,false,false,false,false,false] rfl rfl (any_of HT_.out (by kernel_rfl)) (fun _ _ _ h => h) (Or.inr ⟨by rfl,rfl⟩) ?_ ?_
      rotate_left
      ·simp only [Act.put,List.setIfInBounds_toArray,List.set_cons_zero,List.set_cons_succ,i64_w,i32_w]
       rfl
      refine pure_ (i:=14) (N:=some 36) (v:=undef) (a':=?_) #[true,true,true,true,true,true,true,true,true,true,true,true,true,true,true,false,false,false,false,false,false] rfl rfl (any_of HT_.out (by kernel_rfl)) (fun _ _ _ h => h) (Or.inr ⟨by rfl,rfl⟩) ?_ ?_
      rotate_left
      ·simp only [Act.put,List.setIfInBounds_toArray,List.set_cons_zero,List.set_cons_succ,i64_w,i32_w]
       rfl
      refine pure_ (i:=15) (N:=some 37) (v:=undef) (a':=?_) #[true,true,true,true,true,true,true,true,true,true,true,true,true,true,true,true,false,false,false,false,false] rfl rfl (any_of HT_.out (by kernel_rfl)) (fun _ _ _ h => h) (Or.inr ⟨by rfl,rfl⟩) ?_ ?_
      rotate_left
      ·simp only [Act.put,List.setIfInBounds_toArray,List.set_cons_zero,List.set_cons_succ,i64_w,i32_w]
       rfl
      refine pure_ (i:=16) (N:=some 38) (v:=undef) (a':=?_) #[true,true,true,true,true,true,true,true,true,true,true,true,true,true,true,true,true,false,false,false,false] rfl rfl (any_of HT_.out (by kernel_rfl)) (fun _ _ _ h => h) (Or.inr ⟨by rfl,rfl⟩) ?_ ?_
      rotate_left
      ·simp only [Act.put,List.setIfInBounds_toArray,List.set_cons_zero,List.set_cons_succ,i64_w,i32_w]
       rfl
      refine pur 17 (some 39) #[true,true,true,true,true,true,true,true,true,true,true,true,true,true,true,true,true,true,false,false,false] HT_ ?_
      refine pur 18 (some 40) #[true,true,true,true,true,true,true,true,true,true,true,true,true,true,true,true,true,true,true,false,false] HT_ ?_
      refine pur 19 (some 41) #[true,true,true,true,true,true,true,true,true,true,true,true,true,true,true,true,true,true,true,true,false] HT_ ?_
      refine last_ (i:=20) (N:=none) #[true,true,true,true,true,true,true,true,true,true,true,true,true,true,true,true,true,true,true,true,true] rfl rfl (one_of HT_.out (by kernel_rfl)) (by decide) (fun K hK => ?_)
      refine skip_ (w1:=?_) (by rfl) rfl ?_ ?_
      rotate_left
      ·go_simp
       rfl
      refine hK.out _ _ ?_
      clear hK K
      refine done_ (done_of HT_.out (by kernel_rfl)) ?_
      have n0_ : Aside0 (Kd.R (Kd.int .i64) 3 (w61.setCell ⟨go48,(t802 : Int).toNat,none⟩ (.bool false)) w.heap.size (fun _ => True) (.slice Ao57 t805.length co57) t805):=⟨by (with_reducible repeat (first | apply Kd.R_alloc | apply Kd.R_drewN | apply Kd.R_drew));exact Kd.R_mono (Kd.R_far (p:=⟨go48,(t802 : Int).toNat,none⟩) (Kd.R_types HO807.out GG48.out (by decide)) (fun _ hk => hk.2) (.bool false)) (fun _ hk => trivial)⟩
      have n1_ : Aside0 (Kd.R Kd.bool 4 (w61.setCell ⟨go48,(t802 : Int).toNat,none⟩ (.bool false)) w.heap.size (fun k_ => some k_ ≠ (.slice (some ⟨go48,0,none⟩) t811.length co59 : Value).ownBlock) (.slice Ao58 t808.length co58) t808):=⟨by (with_reducible repeat (first | apply Kd.R_alloc | apply Kd.R_drewN | apply Kd.R_drew));exact Kd.R_mono (Kd.R_far (p:=⟨go48,(t802 : Int).toNat,none⟩) (Kd.R_mono HO810.out (fun k_ hk => (⟨hk,fun e_ => hk (by rw [e_];rfl)⟩ : _ ∧ k_ ≠ go48))) (fun _ hk => hk.2) (.bool false)) (fun _ hk => hk.1)⟩
      have n2_ : Aside0 (Kd.R Kd.bool 4 (w61.setCell ⟨go48,(t802 : Int).toNat,none⟩ (.bool false)) w.heap.size (fun k_ => some k_ ≠ (.slice Ao58 t808.length co58 : Value).ownBlock) (.slice (some ⟨go48,0,none⟩) t811.length co59) y819):=⟨by (with_reducible repeat (first | apply Kd.R_alloc | apply Kd.R_drewN | apply Kd.R_drew));exact HQ62.out⟩
      have n3_ : Aside0 ((w61.setCell ⟨go48,(t802 : Int).toNat,none⟩ (.bool false)).heap[gb800]? = some (.cells #[.string t804,.slice Ao57 t805.length co57,.slice Ao58 t808.length co58,.slice (some ⟨go48,0,none⟩) t811.length co59,.int .i64 t814,.int .i64 t815] 50 (0,0))):=⟨by (with_reducible repeat (first | refine blk_drewN ?_ _ | refine blk_drew ?_ | refine blk_alloc ?_ _));refine blk_far ?_ (by have h_:=Kd.R_ne HO813.out BK800.out (by decide);intro e_;exact h_ (by rw [e_];rfl)) _;(with_reducible repeat (first | refine blk_drewN ?_ _ | refine blk_drew ?_ | refine blk_alloc ?_ _));exact BK800.out⟩
      have n4_ : Aside0 ((w61.setCell ⟨go48,(t802 : Int).toNat,none⟩ (.bool false)).heap[gb801]? = some (.cells #[.string (⟨#[]⟩ : ByteArray),.slice none 0 0,.slice none 0 0,.slice none 0 0,.int .i64 0,.int .i64 0] 50 (0,0))):=⟨by (with_reducible repeat (first | refine blk_drewN ?_ _ | refine blk_drew ?_ | refine blk_alloc ?_ _));refine blk_far ?_ (by have h_:=Kd.R_ne HO813.out BK801.out (by decide);intro e_;exact h_ (by rw [e_];rfl)) _;(with_reducible repeat (first | refine blk_drewN ?_ _ | refine blk_drew ?_ | refine blk_alloc ?_ _));exact BK801.out⟩
      have n5_ : Aside0 (Below w.heap.size w (w61.setCell ⟨go48,(t802 : Int).toNat,none⟩ (.bool false))):=⟨by repeat (first | (with_reducible first | exact HB.out | apply below_alloc | apply pw_below_drewN | apply below_drew1 | refine below_set ?_ GB48.out | refine below_set ?_ GE800.out | refine below_set ?_ GE801.out) | exact HB.out)⟩
      (try clear HO807)
      (try clear HO810)
      (try clear HO813)
      (try clear BK800)
      (try clear BK801)
      (try clear HB)
      generalize (w61.setCell ⟨go48,(t802 : Int).toNat,none⟩ (.bool false)) = w63 at n0_ n1_ n2_ n3_ n4_ n5_ ⊢
      have HO807:=n0_
      have HO810:=n1_
      have HO813:=n2_
      have BK800:=n3_
      have BK801:=n4_
      have HB:=n5_
      clear n0_ n1_ n2_ n3_ n4_ n5_
      obtain ⟨z0,z1,z2,z3,z4,z5,y0,y1,y2,y3,y4,y5⟩:=bc6 BK800
      obtain ⟨z0,z1,z2,z3,z4,z5,y0,y1,y2,y3,y4,y5⟩:=bc6 BK801
      try go_wp2
      refine bodyPost_ret (results_ct rfl _ _ gb801 50 #[.string t804,.slice Ao57 t805.length co57,.slice Ao58 t808.length co58,.slice (some ⟨go48,0,none⟩) t811.length co59,.int .i64 t814,.int .i64 t815] (0,0) _ rfl (bkp BK801) Try.underlying50 rfl (by kernel_rfl)) rfl ?_
      exact ⟨_,_,_,rerr,Kd.R_mono (rty (rfo HO807) BK801) (fun _ hk => trivial),rfo HO810,rfo HO813,hbx HB⟩
   ·rw [if_neg c8] at H
    exact absurd H (by simp)
  ·rw [if_neg c7] at H
   exact absurd H (by simp)
 ·rw [if_neg c5] at H
  have c5b0 : (t803 == 0) = false:=beq_eq_false_iff_ne.mpr c5
  have c5b1 : (t803 != 0) = true:=bne_iff_ne.mpr c5
  simp only [Option.some.injEq,Prod.mk.injEq] at H
  obtain ⟨rfl,rfl,rfl,rfl,rfl,rfl,rfl⟩:=H
  go_enter Try.func37,Try.ntmps37
  go_wp2_with (first | ((with_reducible refine gate_dst (N:=3) rfl ?_);refine boxE 3 #[.string a0_0,.slice A0_1 l0_1.length c0_1,.slice A0_2 l0_2.length c0_2,.slice A0_3 l0_3.length c0_3,.int .i64 a0_4,.int .i64 a0_5] 50 ?_;intro gb800 hg w66 hbox hb;have BK800:=Aside0.mk (hbox);have GW800:=gw hg HB;have GE800:=gw hg HB;replace HB:=hbS HB hb;clear hb hbox hg) | ((with_reducible refine gate_dst (N:=6) rfl ?_);refine boxE 6 #[.string (⟨#[]⟩ : ByteArray),.slice none 0 0,.slice none 0 0,.slice none 0 0,.int .i64 0,.int .i64 0] 50 ?_;intro gb801 hg w67 hbox hb;have BK801:=Aside0.mk (hbox);have GW801:=gw hg HB;have GE801:=gw hg HB;replace HB:=hbS HB hb;have NB800_801:=nbl hg BK800;have NB801_800:=nbg hg BK800;replace BK800:=bkB BK800 hb;clear hb hbox hg;have hnb68:=NB800_801.out;have hnc68:=NB801_800.out;obtain ⟨z0,z1,z2,z3,z4,z5,y0,y1,y2,y3,y4,y5⟩:=bc6 BK800) | ((with_reducible refine gate_callee (f:=64) rfl ?_);refine goesL_ (some 13) rfl rfl Try.func64 (by kernel_rfl) rfl #[.agg #[.string a0_0,.slice A0_1 l0_1.length c0_1,.slice A0_2 l0_2.length c0_2,.slice A0_3 l0_3.length c0_3,.int .i64 a0_4,.int .i64 a0_5],.int .i64 a1] rfl sma ?_;(with_reducible refine (hopmeshref49_at.calls k a0_0 _ _ l0_1 _ _ l0_2 _ _ l0_3 a0_4 a0_5 a1 t802 t803 _ (cb HR0_1 HB) HC0_1.out (cb HR0_2 HB) HC0_2.out (cb HR0_3 HB) HC0_3.out A4.out).mono ?_);rintro e w70 ⟨rfl,hb⟩;refine ⟨_,rfl,?_⟩;replace BK800:=bkB BK800 hb;replace BK801:=bkB BK801 hb;replace HB:=hbS HB hb;(try clear hb);(try clear hb2);(try clear hk);(try clear hi);obtain ⟨z0,z1,z2,z3,z4,z5,y0,y1,y2,y3,y4,y5⟩:=bc6 BK801))
  refine bodyPost_ret (results_ct rfl _ _ gb801 50 #[.string (⟨#[]⟩ : ByteArray),.slice none 0 0,.slice none 0 0,.slice none 0 0,.int .i64 0,.int .i64 0] (0,0) _ rfl (bkp BK801) Try.underlying50 rfl (by kernel_rfl)) rfl ?_
  exact ⟨_,_,_,rerr,rnil,rnil,rnil,hbx HB⟩
end Go.Proofs.Ytdigplhjfjchnaa.PQ
