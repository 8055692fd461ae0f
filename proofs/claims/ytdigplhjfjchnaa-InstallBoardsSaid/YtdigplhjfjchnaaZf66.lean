-- Printed by fprint.py and zip.py, programs of this session's, over the kit's print; Lean checks it.
import Derived.Test.YtdigplhjfjchnaaZf65
namespace Go.Proofs.Ytdigplhjfjchnaa.PQ
open Go.RowKit Go.Proofs.YtdigplhjfjchnaaW.PrintWords Go.Proofs.YtdigplhjfjchnaaW.PrintLast Go.Proofs.YtdigplhjfjchnaaW.PrintMore
attribute [local go_sem] max2_int min2_int max_two min_two max_three min_three max_four min_four   -- for this text's walks alone
set_option linter.unusedVariables false
set_option linter.unusedSimpArgs false
-- As one_ and two_ of the printed words, where a fact that loads need may have gone: what is shown is only that it stays.
section
variable {P : Program} {ops : Array Oper} {Q : Exit → Act → World → Prop} {md : Region.Mode} {S : World → Prop} {ds : List Nat}
theorem one_w {i : Nat} {Ni : Option Tmp} {oi : Oper} {fuel : Nat} {l : Array Bool} {a : Act} {w : World} (li : Array Bool) (hi : ops[i]? = some oi) (hNi : oi.dst = Ni)
    (hc : (Region.ready md ops l == [i] && l.setIfInBounds i true == li) = true)
    (h1 : ∀ K : Act → World → Prop,(∀ a' w',(i ∉ ds → S w → S w') → wpAnyLast P md ops Q S ds fuel li a' w' → K a' w') → if Region.wanted oi (yielded ops a.tmps) = true then Oper.wp P oi a w K Q else K (a.put Ni undef) w) :
    wpAnyLast P md ops Q S ds (fuel + 1) l a w:=by
  subst hNi
  simp only [Bool.and_eq_true,beq_iff_eq] at hc
  obtain ⟨h3,h4⟩:=hc
  subst h4
  refine wpAnyLast_all h3 (by simp) fun k hk => ?_
  obtain rfl:=List.mem_singleton.mp hk
  exact wpOp_step hi (fun K' hK => h1 K' (fun a w hs hW => hK a w ⟨hs,hW⟩))
theorem two_w {i j : Nat} {Ni Nj : Option Tmp} {oi oj : Oper} {fuel : Nat} {l : Array Bool} {a : Act} {w : World} (li lj : Array Bool) (hi : ops[i]? = some oi) (hj : ops[j]? = some oj) (hNi : oi.dst = Ni) (hNj : oj.dst = Nj)
    (hc : (Region.ready md ops l == [i,j] && l.setIfInBounds i true == li && l.setIfInBounds j true == lj) = true)
    (h1 : ∀ K : Act → World → Prop,(∀ a' w',(i ∉ ds → S w → S w') → wpAnyLast P md ops Q S ds fuel li a' w' → K a' w') → if Region.wanted oi (yielded ops a.tmps) = true then Oper.wp P oi a w K Q else K (a.put Ni undef) w)
    (h2 : ∀ K : Act → World → Prop,(∀ a' w',(j ∉ ds → S w → S w') → wpAnyLast P md ops Q S ds fuel lj a' w' → K a' w') → if Region.wanted oj (yielded ops a.tmps) = true then Oper.wp P oj a w K Q else K (a.put Nj undef) w) :
    wpAnyLast P md ops Q S ds (fuel + 1) l a w:=by
  subst hNi hNj
  simp only [Bool.and_eq_true,beq_iff_eq] at hc
  obtain ⟨⟨h3,h4⟩,h5⟩:=hc
  subst h4 h5
  refine wpAnyLast_all h3 (by simp) fun k hk => ?_
  rcases List.mem_cons.mp hk with rfl | hk
  · exact wpOp_step hi (fun K' hK => h1 K' (fun a w hs hW => hK a w ⟨hs,hW⟩))
  · obtain rfl:=List.mem_singleton.mp hk
    exact wpOp_step hj (fun K' hK => h2 K' (fun a w hs hW => hK a w ⟨hs,hW⟩))
end
def hopmeshref49_send.f (a0_0 : ByteArray) (l0_1 : List Int) (l0_2 : List Bool) (l0_3 : List Bool) (a0_4 a0_5 a1 a2 : Int) : Option (ByteArray × List Int × List Bool × List Bool × Int × Int × Int × Int × Int × ByteArray × List Int × Int):=if a0_4 = 1048576 then (some ((⟨#[]⟩ : ByteArray),([] : List Int),([] : List Bool),([] : List Bool),0,0,0,0,0,(⟨#[]⟩ : ByteArray),([] : List Int),13)) else ((hopmeshref49_clone.f a0_0 l0_1 l0_2 l0_3 a0_4 a0_5).bind fun bt464 => (if 0 ≤ (bt464.2.1.length : Int) then (if ((bt464.2.1.length : Int) : Int).toNat ≤ 281474976710656 then ((some (([] : List Int) : List Int)).bind fun y479 => (if y479.length + bt464.2.1.length < 17592186044416 then (some (bt464.1,bt464.2.1,bt464.2.2.1,(List.replicate ((bt464.2.1.length : Int) : Int).toNat false),wrap64 (bt464.2.2.2.2.1 + 1),a2,wrap64 (bt464.2.2.2.2.1 + 1),a1,a2,bt464.1,(y479 ++ bt464.2.1),0)) else (none))) else (none)) else (none)))
def hopmeshref49_send.T4 : Bool × List (List Nat × List Nat):=(true,[([],[]),([0],[0]),([1],[1]),([],[]),([],[]),([4],[4]),([5],[5]),([6,6],[6]),([0,1,2,4,5],[]),([8,2,0,1,2,4,5],[2,8]),([0,1,2,3,4,5,8,9],[]),([10,3,9,0,1,2,3,4,5,8,9],[3,10]),([0,1,2,3,4,5,6,7,8,9,10,11],[]),([12,7,11,0,1,2,3,4,5,6,7,8,9,10,11],[7,12])])
def hopmeshref49_send.B4 : List Nat:=[0,1,3,0,0,16,48,112,55,311,831,1855,4095,8191]
theorem hopmeshref49_send.tab4 : rtab .any (opsOf Try.f66 4) = hopmeshref49_send.T4:=by kernel_rfl
theorem hopmeshref49_send.bits4 : waitsOk hopmeshref49_send.T4.2 hopmeshref49_send.B4 = true:=by kernel_rfl
def hopmeshref49_send.T5 : Bool × List (List Nat × List Nat):=(true,[([],[]),([],[]),([1],[1]),([],[]),([],[]),([],[]),([5],[5]),([],[]),([],[]),([8],[8]),([7,9],[7,9]),([2,3,4,6,10],[2,3,4,6,10]),([0,10,0],[0]),([11,12,0,1,2,3,4,5,6,7,8,9,10,11,12],[11]),([13,0,1,2,3,4,5,6,7,8,9,10,11,12,13],[])])
def hopmeshref49_send.B5 : List Nat:=[0,0,2,0,0,0,32,0,0,256,896,2046,1921,8191,16383]
theorem hopmeshref49_send.tab5 : rtab .any (opsOf Try.f66 5) = hopmeshref49_send.T5:=by kernel_rfl
theorem hopmeshref49_send.bits5 : waitsOk hopmeshref49_send.T5.2 hopmeshref49_send.B5 = true:=by kernel_rfl
set_option maxHeartbeats 8000000 in
set_option maxRecDepth 100000 in
theorem hopmeshref49_send.calls (a0_0 : ByteArray) (A0_1 : Option Addr) (c0_1 : Nat) (l0_1 : List Int) (A0_2 : Option Addr) (c0_2 : Nat) (l0_2 : List Bool) (A0_3 : Option Addr) (c0_3 : Nat) (l0_3 : List Bool) (a0_4 a0_5 a1 a2 : Int) (r1 : ByteArray) (r2 : List Int) (r3 : List Bool) (r4 : List Bool) (r5 r6 r7 r8 r9 : Int) (r10 : ByteArray) (r11 : List Int) (r12 : Int) (w : World) (hr0_1 : Kd.C (Kd.int .i64) w A0_1 l0_1.length l0_1) (hc0_1 : l0_1.length ≤ c0_1) (hr0_2 : Kd.C Kd.bool w A0_2 l0_2.length l0_2) (hc0_2 : l0_2.length ≤ c0_2) (hr0_3 : Kd.C Kd.bool w A0_3 l0_3.length l0_3) (hc0_3 : l0_3.length ≤ c0_3) (h : hopmeshref49_send.f a0_0 l0_1 l0_2 l0_3 a0_4 a0_5 a1 a2 = some (r1,r2,r3,r4,r5,r6,r7,r8,r9,r10,r11,r12)) :
 Calls Try.prog 66 #[.agg #[.string a0_0,.slice A0_1 l0_1.length c0_1,.slice A0_2 l0_2.length c0_2,.slice A0_3 l0_3.length c0_3,.int .i64 a0_4,.int .i64 a0_5],.int .i64 a1,.int .i64 a2] w fun e w' => ∃ v1_ v2_ v3_ v10_ : Value,e = .returned (.tuple #[.agg #[.string r1,v1_,v2_,v3_,.int .i64 r5,.int .i64 r6],.agg #[.int .i64 r7,.int .i64 r8,.int .i64 r9,.string r10,v10_],.int .i64 r12]) ∧ Kd.R (Kd.int .i64) 3 w' w.heap.size (fun k_ => some k_ ≠ (v10_ : Value).ownBlock) v1_ r2 ∧ Kd.R Kd.bool 4 w' w.heap.size (fun k_ => some k_ ≠ (v3_ : Value).ownBlock) v2_ r3 ∧ Kd.R Kd.bool 4 w' w.heap.size (fun k_ => some k_ ≠ (v2_ : Value).ownBlock) v3_ r4 ∧ Kd.R (Kd.int .i64) 3 w' w.heap.size (fun k_ => some k_ ≠ (v1_ : Value).ownBlock) v10_ r11 ∧ Below w.heap.size w w':=by
 have hu50:=Try.underlying50
 have hu36:=Try.underlying36
 have HR0_1:=Aside0.mk hr0_1
 have HC0_1:=Aside0.mk hc0_1
 clear hr0_1 hc0_1
 have HR0_2:=Aside0.mk hr0_2
 have HC0_2:=Aside0.mk hc0_2
 clear hr0_2 hc0_2
 have HR0_3:=Aside0.mk hr0_3
 have HC0_3:=Aside0.mk hc0_3
 clear hr0_3 hc0_3
 have HB:=Aside0.mk (Below.refl w.heap.size w)
 have H : (if a0_4 = 1048576 then (some ((⟨#[]⟩ : ByteArray),([] : List Int),([] : List Bool),([] : List Bool),0,0,0,0,0,(⟨#[]⟩ : ByteArray),([] : List Int),13)) else ((hopmeshref49_clone.f a0_0 l0_1 l0_2 l0_3 a0_4 a0_5).bind fun bt464 => (if 0 ≤ (bt464.2.1.length : Int) then (if ((bt464.2.1.length : Int) : Int).toNat ≤ 281474976710656 then ((some (([] : List Int) : List Int)).bind fun y479 => (if y479.length + bt464.2.1.length < 17592186044416 then (some (bt464.1,bt464.2.1,bt464.2.2.1,(List.replicate ((bt464.2.1.length : Int) : Int).toNat false),wrap64 (bt464.2.2.2.2.1 + 1),a2,wrap64 (bt464.2.2.2.2.1 + 1),a1,a2,bt464.1,(y479 ++ bt464.2.1),0)) else (none))) else (none)) else (none)))) = some (r1,r2,r3,r4,r5,r6,r7,r8,r9,r10,r11,r12):=h
 clear h
 by_cases c4 : a0_4 = 1048576
 ·rw [if_pos c4] at H
  have c4b0 : (a0_4 == 1048576) = true:=beq_iff_eq.mpr c4
  have c4b1 : (a0_4 != 1048576) = false:=bne_eq_false_iff_eq.mpr c4
  clear c4
  simp only [Option.some.injEq,Prod.mk.injEq] at H
  obtain ⟨rfl,rfl,rfl,rfl,rfl,rfl,rfl,rfl,rfl,rfl,rfl,rfl⟩:=H
  go_enter Try.func66,Try.ntmps66
  go_wp2_with (first | ((with_reducible refine gate_dst (N:=3) rfl ?_);refine boxE 3 #[.string a0_0,.slice A0_1 l0_1.length c0_1,.slice A0_2 l0_2.length c0_2,.slice A0_3 l0_3.length c0_3,.int .i64 a0_4,.int .i64 a0_5] 50 ?_;intro gb461 hg w5 hbox hb;have BK461:=Aside0.mk (hbox);have GW461:=gw hg HB;have GE461:=gw hg HB;replace HB:=hbS HB hb;clear hb hbox hg) | ((with_reducible refine gate_dst (N:=6) rfl ?_);refine boxE 6 #[.string (⟨#[]⟩ : ByteArray),.slice none 0 0,.slice none 0 0,.slice none 0 0,.int .i64 0,.int .i64 0] 50 ?_;intro gb462 hg w6 hbox hb;have BK462:=Aside0.mk (hbox);have GW462:=gw hg HB;have GE462:=gw hg HB;replace HB:=hbS HB hb;have NB461_462:=nbl hg BK461;have NB462_461:=nbg hg BK461;replace BK461:=bkB BK461 hb;clear hb hbox hg) | ((with_reducible refine gate_dst (N:=7) rfl ?_);refine boxE 7 #[.int .i64 0,.int .i64 0,.int .i64 0,.string (⟨#[]⟩ : ByteArray),.slice none 0 0] 36 ?_;intro gb463 hg w7 hbox hb;have BK463:=Aside0.mk (hbox);have GW463:=gw hg HB;have GE463:=gw hg HB;replace HB:=hbS HB hb;have NB461_463:=nbl hg BK461;have NB463_461:=nbg hg BK461;replace BK461:=bkB BK461 hb;have NB462_463:=nbl hg BK462;have NB463_462:=nbg hg BK462;replace BK462:=bkB BK462 hb;clear hb hbox hg;have hnb8:=NB461_462.out;have hnc8:=NB462_461.out;have hnb9:=NB461_463.out;have hnc9:=NB463_461.out;obtain ⟨z0,z1,z2,z3,z4,z5,y0,y1,y2,y3,y4,y5⟩:=bc6 BK461;have hnb11:=NB462_463.out;have hnc11:=NB463_462.out;obtain ⟨z0,z1,z2,z3,z4,z5,y0,y1,y2,y3,y4,y5⟩:=bc6 BK462;obtain ⟨z0,z1,z2,z3,z4,y0,y1,y2,y3,y4⟩:=bc5 BK463))
  refine bodyPost_ret (results_list (rs:=[.cell 6 50,.cell 7 36,.tmp 8]) rfl (by simp) (.cell gb462 50 #[.string (⟨#[]⟩ : ByteArray),.slice none 0 0,.slice none 0 0,.slice none 0 0,.int .i64 0,.int .i64 0] (0,0) _ rfl (bkp BK462) Try.underlying50 rfl (by kernel_rfl) (.cell gb463 36 #[.int .i64 0,.int .i64 0,.int .i64 0,.string (⟨#[]⟩ : ByteArray),.slice none 0 0] (0,0) _ rfl (bkp BK463) Try.underlying36 rfl (by kernel_rfl) (.tmp .nil)))) rfl ?_
  exact ⟨_,_,_,_,rerr,rnil,rnil,rnil,rnil,hbx HB⟩
 ·rw [if_neg c4] at H
  have c4b0 : (a0_4 == 1048576) = false:=beq_eq_false_iff_ne.mpr c4
  have c4b1 : (a0_4 != 1048576) = true:=bne_iff_ne.mpr c4
  replace H:=Option.bind_eq_some_iff.mp H
  obtain ⟨⟨t464,t465,t468,t471,t474,t475⟩,A140,H⟩:=H
  (try dsimp only at H)
  have A14:=Aside0.mk A140
  clear A140
  by_cases c15 : 0 ≤ (t465.length : Int)
  ·rw [if_pos c15] at H
   have c15b0:=eq_true c15
   have c15b1 : decide (0 ≤ (t465.length : Int)) = true:=decide_eq_true c15
   clear c15
   by_cases c16 : ((t465.length : Int) : Int).toNat ≤ 281474976710656
   ·rw [if_pos c16] at H
    have c16b0:=eq_true c16
    have c16b1 : decide (((t465.length : Int) : Int).toNat ≤ 281474976710656) = true:=decide_eq_true c16
    clear c16
    obtain ⟨y476,hy476⟩ : ∃ y_ : List Bool,y_ = (List.replicate ((t465.length : Int) : Int).toNat false):=⟨_,rfl⟩
    replace H : ((some (([] : List Int) : List Int)).bind fun y479 => (if y479.length + t465.length < 17592186044416 then (some (t464,t465,t468,y476,wrap64 (t474 + 1),a2,wrap64 (t474 + 1),a1,a2,t464,(y479 ++ t465),0)) else (none))) = some (r1,r2,r3,r4,r5,r6,r7,r8,r9,r10,r11,r12):=by first | (rw [hy476];with_reducible exact H) | (have H2_:=(Option.bind_some _ _).symm.trans H;rw [hy476];with_reducible exact H2_) | (have H2_:=(Option.bind_some _ _).symm.trans H;with_reducible exact H2_) | with_reducible exact H | (rw [hy476];exact H) | exact H
    have Ny476:=Aside0.mk hy476
    clear hy476
    obtain ⟨y479,hy479⟩ : ∃ y_ : List Int,y_ = (([] : List Int)):=⟨_,rfl⟩
    replace H : (if y479.length + t465.length < 17592186044416 then (some (t464,t465,t468,y476,wrap64 (t474 + 1),a2,wrap64 (t474 + 1),a1,a2,t464,(y479 ++ t465),0)) else (none)) = some (r1,r2,r3,r4,r5,r6,r7,r8,r9,r10,r11,r12):=by first | (rw [hy479];with_reducible exact H) | (have H2_:=(Option.bind_some _ _).symm.trans H;rw [hy479];with_reducible exact H2_) | (have H2_:=(Option.bind_some _ _).symm.trans H;with_reducible exact H2_) | with_reducible exact H | (rw [hy479];exact H) | exact H
    have Ny479:=Aside0.mk hy479
    clear hy479
    by_cases c17 : y479.length + t465.length < 17592186044416
    ·rw [if_pos c17] at H
     have LMc17:=Aside0.mk c17
     clear c17
     obtain ⟨y482,hy482⟩ : ∃ y_ : List Int,y_ = (y479 ++ t465):=⟨_,rfl⟩
     replace H : (some (t464,t465,t468,y476,wrap64 (t474 + 1),a2,wrap64 (t474 + 1),a1,a2,t464,y482,0)) = some (r1,r2,r3,r4,r5,r6,r7,r8,r9,r10,r11,r12):=by first | (rw [hy482];with_reducible exact H) | (have H2_:=(Option.bind_some _ _).symm.trans H;rw [hy482];with_reducible exact H2_) | (have H2_:=(Option.bind_some _ _).symm.trans H;with_reducible exact H2_) | with_reducible exact H | (rw [hy482];exact H) | exact H
     have Ny482:=Aside0.mk hy482
     clear hy482
     simp only [Option.some.injEq,Prod.mk.injEq] at H
     obtain ⟨rfl,rfl,rfl,rfl,rfl,rfl,rfl,rfl,rfl,rfl,rfl,rfl⟩:=H
     go_enter Try.func66,Try.ntmps66
     try go_wp2_with (first | ((with_reducible refine gate_dst (N:=3) rfl ?_);refine boxE 3 #[.string a0_0,.slice A0_1 l0_1.length c0_1,.slice A0_2 l0_2.length c0_2,.slice A0_3 l0_3.length c0_3,.int .i64 a0_4,.int .i64 a0_5] 50 ?_;intro gb461 hg w18 hbox hb;have BK461:=Aside0.mk (hbox);have GW461:=gw hg HB;have GE461:=gw hg HB;replace HB:=hbS HB hb;clear hb hbox hg) | ((with_reducible refine gate_dst (N:=6) rfl ?_);refine boxE 6 #[.string (⟨#[]⟩ : ByteArray),.slice none 0 0,.slice none 0 0,.slice none 0 0,.int .i64 0,.int .i64 0] 50 ?_;intro gb462 hg w19 hbox hb;have BK462:=Aside0.mk (hbox);have GW462:=gw hg HB;have GE462:=gw hg HB;replace HB:=hbS HB hb;have NB461_462:=nbl hg BK461;have NB462_461:=nbg hg BK461;replace BK461:=bkB BK461 hb;clear hb hbox hg) | ((with_reducible refine gate_dst (N:=7) rfl ?_);refine boxE 7 #[.int .i64 0,.int .i64 0,.int .i64 0,.string (⟨#[]⟩ : ByteArray),.slice none 0 0] 36 ?_;intro gb463 hg w20 hbox hb;have BK463:=Aside0.mk (hbox);have GW463:=gw hg HB;have GE463:=gw hg HB;replace HB:=hbS HB hb;have NB461_463:=nbl hg BK461;have NB463_461:=nbg hg BK461;replace BK461:=bkB BK461 hb;have NB462_463:=nbl hg BK462;have NB463_462:=nbg hg BK462;replace BK462:=bkB BK462 hb;clear hb hbox hg;have hnb21:=NB461_462.out;have hnc21:=NB462_461.out;have hnb22:=NB461_463.out;have hnc22:=NB463_461.out;obtain ⟨z0,z1,z2,z3,z4,z5,y0,y1,y2,y3,y4,y5⟩:=bc6 BK461) | ((with_reducible refine gate_callee (f:=65) rfl ?_);refine goesL_ (some 15) rfl rfl Try.func65 (by kernel_rfl) rfl #[.agg #[.string a0_0,.slice A0_1 l0_1.length c0_1,.slice A0_2 l0_2.length c0_2,.slice A0_3 l0_3.length c0_3,.int .i64 a0_4,.int .i64 a0_5]] rfl sma ?_;(with_reducible refine (hopmeshref49_clone.calls a0_0 _ _ l0_1 _ _ l0_2 _ _ l0_3 a0_4 a0_5 t464 t465 t468 t471 t474 t475 _ (cb HR0_1 HB) HC0_1.out (cb HR0_2 HB) HC0_2.out (cb HR0_3 HB) HC0_3.out A14.out).mono ?_);rintro e w24 ⟨v466,v469,v472,rfl,ho0,ho1,ho2,hb⟩;refine ⟨_,rfl,?_⟩;have HO467:=Aside0.mk (Kd.R_lower ho0 (below_size (hbx HB)));have HO470:=Aside0.mk (Kd.R_lower ho1 (below_size (hbx HB)));have HO473:=Aside0.mk (Kd.R_lower ho2 (below_size (hbx HB)));replace BK461:=bkB BK461 hb;replace BK462:=bkB BK462 hb;replace BK463:=bkB BK463 hb;replace HB:=hbS HB hb;(try clear hb);(try clear hb2);(try clear hk);(try clear hi);(try clear ho0);(try clear ho1);(try clear ho2);obtain ⟨z0,z1,z2,z3,z4,z5,y0,y1,y2,y3,y4,y5⟩:=bc6 BK461;obtain ⟨Ao26,co26,eo26⟩:=Kd.R_slice HO467.out;subst eo26;obtain ⟨Ao27,co27,eo27⟩:=Kd.R_slice HO470.out;subst eo27;obtain ⟨Ao28,co28,eo28⟩:=Kd.R_slice HO473.out;subst eo28))
     have n0_ : Aside0 (Kd.R (Kd.int .i64) 3 ((((((w24.setCell ⟨gb461,0,none⟩ (.string t464)).setCell ⟨gb461,1,none⟩ (.slice Ao26 t465.length co26)).setCell ⟨gb461,2,none⟩ (.slice Ao27 t468.length co27)).setCell ⟨gb461,3,none⟩ (.slice Ao28 t471.length co28)).setCell ⟨gb461,4,none⟩ (.int .i64 t474)).setCell ⟨gb461,5,none⟩ (.int .i64 t475)) w.heap.size (fun _ => True) (.slice Ao26 t465.length co26) t465):=⟨Kd.R_mono (rty (rfo HO467) BK461) (fun _ hk => trivial)⟩
     have n1_ : Aside0 (Kd.R Kd.bool 4 ((((((w24.setCell ⟨gb461,0,none⟩ (.string t464)).setCell ⟨gb461,1,none⟩ (.slice Ao26 t465.length co26)).setCell ⟨gb461,2,none⟩ (.slice Ao27 t468.length co27)).setCell ⟨gb461,3,none⟩ (.slice Ao28 t471.length co28)).setCell ⟨gb461,4,none⟩ (.int .i64 t474)).setCell ⟨gb461,5,none⟩ (.int .i64 t475)) w.heap.size (fun k_ => some k_ ≠ (.slice Ao28 t471.length co28 : Value).ownBlock) (.slice Ao27 t468.length co27) t468):=rfA HO470
     have n2_ : Aside0 (Kd.R Kd.bool 4 ((((((w24.setCell ⟨gb461,0,none⟩ (.string t464)).setCell ⟨gb461,1,none⟩ (.slice Ao26 t465.length co26)).setCell ⟨gb461,2,none⟩ (.slice Ao27 t468.length co27)).setCell ⟨gb461,3,none⟩ (.slice Ao28 t471.length co28)).setCell ⟨gb461,4,none⟩ (.int .i64 t474)).setCell ⟨gb461,5,none⟩ (.int .i64 t475)) w.heap.size (fun k_ => some k_ ≠ (.slice Ao27 t468.length co27 : Value).ownBlock) (.slice Ao28 t471.length co28) t471):=rfA HO473
     have n3_ : Aside0 (((((((w24.setCell ⟨gb461,0,none⟩ (.string t464)).setCell ⟨gb461,1,none⟩ (.slice Ao26 t465.length co26)).setCell ⟨gb461,2,none⟩ (.slice Ao27 t468.length co27)).setCell ⟨gb461,3,none⟩ (.slice Ao28 t471.length co28)).setCell ⟨gb461,4,none⟩ (.int .i64 t474)).setCell ⟨gb461,5,none⟩ (.int .i64 t475)).heap[gb461]? = some (.cells #[.string t464,.slice Ao26 t465.length co26,.slice Ao27 t468.length co27,.slice Ao28 t471.length co28,.int .i64 t474,.int .i64 t475] 50 (0,0))):=bkpA BK461
     have n4_ : Aside0 (((((((w24.setCell ⟨gb461,0,none⟩ (.string t464)).setCell ⟨gb461,1,none⟩ (.slice Ao26 t465.length co26)).setCell ⟨gb461,2,none⟩ (.slice Ao27 t468.length co27)).setCell ⟨gb461,3,none⟩ (.slice Ao28 t471.length co28)).setCell ⟨gb461,4,none⟩ (.int .i64 t474)).setCell ⟨gb461,5,none⟩ (.int .i64 t475)).heap[gb462]? = some (.cells #[.string (⟨#[]⟩ : ByteArray),.slice none 0 0,.slice none 0 0,.slice none 0 0,.int .i64 0,.int .i64 0] 50 (0,0))):=bkfA BK462
     have n5_ : Aside0 (((((((w24.setCell ⟨gb461,0,none⟩ (.string t464)).setCell ⟨gb461,1,none⟩ (.slice Ao26 t465.length co26)).setCell ⟨gb461,2,none⟩ (.slice Ao27 t468.length co27)).setCell ⟨gb461,3,none⟩ (.slice Ao28 t471.length co28)).setCell ⟨gb461,4,none⟩ (.int .i64 t474)).setCell ⟨gb461,5,none⟩ (.int .i64 t475)).heap[gb463]? = some (.cells #[.int .i64 0,.int .i64 0,.int .i64 0,.string (⟨#[]⟩ : ByteArray),.slice none 0 0] 36 (0,0))):=bkfA BK463
     have n6_ : Aside0 (Below w.heap.size w ((((((w24.setCell ⟨gb461,0,none⟩ (.string t464)).setCell ⟨gb461,1,none⟩ (.slice Ao26 t465.length co26)).setCell ⟨gb461,2,none⟩ (.slice Ao27 t468.length co27)).setCell ⟨gb461,3,none⟩ (.slice Ao28 t471.length co28)).setCell ⟨gb461,4,none⟩ (.int .i64 t474)).setCell ⟨gb461,5,none⟩ (.int .i64 t475))):=hbA HB
     (try clear HO467)
     (try clear HO470)
     (try clear HO473)
     (try clear BK461)
     (try clear BK462)
     (try clear BK463)
     (try clear HB)
     generalize ((((((w24.setCell ⟨gb461,0,none⟩ (.string t464)).setCell ⟨gb461,1,none⟩ (.slice Ao26 t465.length co26)).setCell ⟨gb461,2,none⟩ (.slice Ao27 t468.length co27)).setCell ⟨gb461,3,none⟩ (.slice Ao28 t471.length co28)).setCell ⟨gb461,4,none⟩ (.int .i64 t474)).setCell ⟨gb461,5,none⟩ (.int .i64 t475)) = w29 at n0_ n1_ n2_ n3_ n4_ n5_ n6_ ⊢
     have HO467:=n0_
     have HO470:=n1_
     have HO473:=n2_
     have BK461:=n3_
     have BK462:=n4_
     have BK463:=n5_
     have HB:=n6_
     clear n0_ n1_ n2_ n3_ n4_ n5_ n6_
     go_cut [] (fun wc => ∃ (Ao36 : Option Addr) (co36 : Nat),Aside0 (Kd.R (Kd.int .i64) 3 wc w.heap.size (fun _ => True) (.slice Ao26 t465.length co26) t465) ∧ Aside0 (Kd.R Kd.bool 4 wc w.heap.size (fun k_ => some k_ ≠ (.slice Ao28 t471.length co28 : Value).ownBlock ∧ some k_ ≠ (.slice Ao36 y476.length co36 : Value).ownBlock) (.slice Ao27 t468.length co27) t468) ∧ Aside0 (Kd.R Kd.bool 4 wc w.heap.size (fun k_ => some k_ ≠ (.slice Ao27 t468.length co27 : Value).ownBlock ∧ some k_ ≠ (.slice Ao36 y476.length co36 : Value).ownBlock) (.slice Ao28 t471.length co28) t471) ∧ Aside0 (Kd.R Kd.bool 4 wc w.heap.size (fun k_ => some k_ ≠ (.slice Ao27 t468.length co27 : Value).ownBlock ∧ some k_ ≠ (.slice Ao28 t471.length co28 : Value).ownBlock) (.slice Ao36 y476.length co36) y476) ∧ Aside0 (wc.heap[gb461]? = some (.cells #[.string t464,.slice Ao26 t465.length co26,.slice Ao27 t468.length co27,.slice Ao36 y476.length co36,.int .i64 (wrap64 (t474 + 1)),.int .i64 a2] 50 (0,0))) ∧ Aside0 (wc.heap[gb462]? = some (.cells #[.string (⟨#[]⟩ : ByteArray),.slice none 0 0,.slice none 0 0,.slice none 0 0,.int .i64 0,.int .i64 0] 50 (0,0))) ∧ Aside0 (wc.heap[gb463]? = some (.cells #[.int .i64 0,.int .i64 0,.int .i64 0,.string (⟨#[]⟩ : ByteArray),.slice none 0 0] 36 (0,0))) ∧ Aside0 (Below w.heap.size w wc))
     case first =>
      replace HO467:=Aside0.mk (Kd.R_drew HO467.out)
      replace HO470:=Aside0.mk (Kd.R_drew HO470.out)
      replace HO473:=Aside0.mk (Kd.R_drew HO473.out)
      replace BK461:=Aside0.mk (blk_drew BK461.out)
      replace BK462:=Aside0.mk (blk_drew BK462.out)
      replace BK463:=Aside0.mk (blk_drew BK463.out)
      replace HB:=Aside0.mk (below_drew1 HB.out)
      refine start_ (n:=14) (S:=fun w' => w'.cell? ⟨gb461,1,none⟩ = some (.slice Ao26 t465.length co26) ∧ w'.cell? ⟨gb461,4,none⟩ = some (.int .i64 t474)) (ds:=[9,11,13]) #[false,false,false,false,false,false,false,false,false,false,false,false,false,false] (by kernel_rfl) rfl rfl ⟨(blk_cell BK461.out 1).trans rfl,(blk_cell BK461.out 4).trans rfl⟩ (fun hHeld => ?_);refine with_tabW hopmeshref49_send.tab4 hopmeshref49_send.bits4 (fun HT_ HW_ => ?_)
      generalize w29.drew = w30 at HO467 HO470 HO473 BK461 BK462 BK463 HB hHeld ⊢
      refine pur 0 (some 16) #[true,false,false,false,false,false,false,false,false,false,false,false,false,false] HT_ ?_
      refine pur 3 (some 19) #[true,false,false,true,false,false,false,false,false,false,false,false,false,false] HT_ ?_
      refine pur 4 (some 20) #[true,false,false,true,true,false,false,false,false,false,false,false,false,false] HT_ ?_
      refine tak 1 (some 17) #[true,true,false,true,true,false,false,false,false,false,false,false,false,false] HT_ HW_ hHeld rfl (Or.inl ⟨by rfl,by rintro w' ⟨s0,s1⟩;go_simp;with_reducible rfl⟩) ?_
      refine pur 2 (some 18) #[true,true,true,true,true,false,false,false,false,false,false,false,false,false] HT_ ?_
      refine tak 5 (some 21) #[true,true,true,true,true,true,false,false,false,false,false,false,false,false] HT_ HW_ hHeld rfl (Or.inl ⟨by rfl,by rintro w' ⟨s0,s1⟩;go_simp;with_reducible rfl⟩) ?_
      refine pur 6 (some 22) #[true,true,true,true,true,true,true,false,false,false,false,false,false,false] HT_ ?_
      refine pur 8 (some 24) #[true,true,true,true,true,true,true,false,true,false,false,false,false,false] HT_ ?_
      clear hHeld
      refine two_w (i:=7) (j:=9) (Ni:=some 23) (Nj:=none) #[true,true,true,true,true,true,true,true,true,false,false,false,false,false] #[true,true,true,true,true,true,true,false,true,true,false,false,false,false] rfl rfl rfl rfl (by kernel_rfl) (fun K hK => ?_) (fun K hK => ?_)
      ·refine Kd.R_make_step Kd.bool _ 4 (by rfl) (N:=23) rfl 22 _ _ rfl (t465.length : Int) rfl rfl Try.underlying22 (.bool false) 1 info4 rfl (by decide) (by omega) false (ok:=fun _ => True) (okp:=fun _ => True) rfl (fun _ hk => hk) trivial (pos_) (Nat.le_trans (Nat.mul_le_mul_right _ (pos_ : (t465.length : Int).toNat ≤ 281474976710656)) (by omega)) (Below.refl _ _) (Nat.le_refl _) ?_
       intro v477 ww1 ho32 hb hg_ hnew_
       clear hg_ hnew_
       (first | rw [← Ny476.out] at ho32 | (simp only [Int.reduceToNat] at ho32;rw [← Ny476.out] at ho32))
       replace HO467:=rB HO467 hb
       have HO478:=Aside0.mk (Kd.R_lower (Kd.R_new' (Kd.R_new' ho32 (Kd.R_lt (ro HO470))) (Kd.R_lt (ro HO473))) (below_size (hbx HB)))
       replace HO470:=Aside0.mk (Kd.R_elder' (ro HO470) (Kd.R_base ho32) hb)
       replace HO473:=Aside0.mk (Kd.R_elder' (ro HO473) (Kd.R_base ho32) hb)
       replace BK461:=bkB BK461 hb
       replace BK462:=bkB BK462 hb
       replace BK463:=bkB BK463 hb
       replace HB:=hbS HB hb
       obtain ⟨Ao36,co36,eo36⟩:=Kd.R_slice HO478.out
       subst eo36
       refine hK _ _ (fun _ s => ⟨(hb.cell (World.block_lt_of_cell? _ _ s.1)).trans s.1,(hb.cell (World.block_lt_of_cell? _ _ s.2)).trans s.2⟩) ?_
       clear hb ho32 hK K
       refine nrm (some 23) ?_
       refine one_w (i:=9) (Ni:=none) #[true,true,true,true,true,true,true,true,true,true,false,false,false,false] rfl rfl (by kernel_rfl) (fun K hK => ?_)
       have hs_ : ww1.cell? ⟨gb461,4,none⟩ = some (.int .i64 t474):=(blk_cell BK461.out 4).trans rfl
       have hfs_:=blk_frozen BK461.out 4
       refine skip_ (w1:=?_) (by rfl) rfl ?_ ?_
       rotate_left
       ·go_simp
        rfl
       refine hK _ _ (fun h_ => absurd (by decide) h_) ?_
       clear hs_ hfs_ hK K
       replace HO467:=rfA (w1:=(ww1.setCell ⟨gb461,4,none⟩ (.int .i64 (wrap64 (t474 + 1))))) HO467
       replace HO470:=rfA (w1:=(ww1.setCell ⟨gb461,4,none⟩ (.int .i64 (wrap64 (t474 + 1))))) HO470
       replace HO473:=rfA (w1:=(ww1.setCell ⟨gb461,4,none⟩ (.int .i64 (wrap64 (t474 + 1))))) HO473
       replace HO478:=rfA (w1:=(ww1.setCell ⟨gb461,4,none⟩ (.int .i64 (wrap64 (t474 + 1))))) HO478
       replace BK462:=bkfA (w1:=(ww1.setCell ⟨gb461,4,none⟩ (.int .i64 (wrap64 (t474 + 1))))) BK462
       replace BK463:=bkfA (w1:=(ww1.setCell ⟨gb461,4,none⟩ (.int .i64 (wrap64 (t474 + 1))))) BK463
       replace HB:=hbA (w1:=(ww1.setCell ⟨gb461,4,none⟩ (.int .i64 (wrap64 (t474 + 1))))) HB
       have BKn_ : Aside0 ((ww1.setCell ⟨gb461,4,none⟩ (.int .i64 (wrap64 (t474 + 1)))).heap[gb461]? = some (.cells #[.string t464,.slice Ao26 t465.length co26,.slice Ao27 t468.length co27,.slice Ao28 t471.length co28,.int .i64 (wrap64 (t474 + 1)),.int .i64 t475] 50 (0,0))):=bkpA BK461
       replace BK461:=BKn_
       clear BKn_
       generalize (ww1.setCell ⟨gb461,4,none⟩ (.int .i64 (wrap64 (t474 + 1)))) = ww2 at HO467 HO470 HO473 HO478 BK461 BK462 BK463 HB ⊢
       refine pur 10 (some 25) #[true,true,true,true,true,true,true,true,true,true,true,false,false,false] HT_ ?_
       refine one_w (i:=11) (Ni:=none) #[true,true,true,true,true,true,true,true,true,true,true,true,false,false] rfl rfl (by kernel_rfl) (fun K hK => ?_)
       have hs_ : ww2.cell? ⟨gb461,5,none⟩ = some (.int .i64 t475):=(blk_cell BK461.out 5).trans rfl
       have hfs_:=blk_frozen BK461.out 5
       refine skip_ (w1:=?_) (by rfl) rfl ?_ ?_
       rotate_left
       ·go_simp
        rfl
       refine hK _ _ (fun h_ => absurd (by decide) h_) ?_
       clear hs_ hfs_ hK K
       replace HO467:=rfA (w1:=(ww2.setCell ⟨gb461,5,none⟩ (.int .i64 a2))) HO467
       replace HO470:=rfA (w1:=(ww2.setCell ⟨gb461,5,none⟩ (.int .i64 a2))) HO470
       replace HO473:=rfA (w1:=(ww2.setCell ⟨gb461,5,none⟩ (.int .i64 a2))) HO473
       replace HO478:=rfA (w1:=(ww2.setCell ⟨gb461,5,none⟩ (.int .i64 a2))) HO478
       replace BK462:=bkfA (w1:=(ww2.setCell ⟨gb461,5,none⟩ (.int .i64 a2))) BK462
       replace BK463:=bkfA (w1:=(ww2.setCell ⟨gb461,5,none⟩ (.int .i64 a2))) BK463
       replace HB:=hbA (w1:=(ww2.setCell ⟨gb461,5,none⟩ (.int .i64 a2))) HB
       have BKn_ : Aside0 ((ww2.setCell ⟨gb461,5,none⟩ (.int .i64 a2)).heap[gb461]? = some (.cells #[.string t464,.slice Ao26 t465.length co26,.slice Ao27 t468.length co27,.slice Ao28 t471.length co28,.int .i64 (wrap64 (t474 + 1)),.int .i64 a2] 50 (0,0))):=bkpA BK461
       replace BK461:=BKn_
       clear BKn_
       generalize (ww2.setCell ⟨gb461,5,none⟩ (.int .i64 a2)) = ww3 at HO467 HO470 HO473 HO478 BK461 BK462 BK463 HB ⊢
       refine pur 12 (some 26) #[true,true,true,true,true,true,true,true,true,true,true,true,true,false] HT_ ?_
       refine one_w (i:=13) (Ni:=none) #[true,true,true,true,true,true,true,true,true,true,true,true,true,true] rfl rfl (by kernel_rfl) (fun K hK => ?_)
       have hs_ : ww3.cell? ⟨gb461,3,none⟩ = some (.slice Ao28 t471.length co28):=(blk_cell BK461.out 3).trans rfl
       have hfs_:=blk_frozen BK461.out 3
       refine skip_ (w1:=?_) (by rfl) rfl ?_ ?_
       rotate_left
       ·go_simp
        rfl
       refine hK _ _ (fun h_ => absurd (by decide) h_) ?_
       clear hs_ hfs_ hK K
       replace HO467:=rfA (w1:=(ww3.setCell ⟨gb461,3,none⟩ (.slice Ao36 y476.length co36))) HO467
       replace HO470:=rfA (w1:=(ww3.setCell ⟨gb461,3,none⟩ (.slice Ao36 y476.length co36))) HO470
       replace HO473:=rfA (w1:=(ww3.setCell ⟨gb461,3,none⟩ (.slice Ao36 y476.length co36))) HO473
       replace HO478:=rfA (w1:=(ww3.setCell ⟨gb461,3,none⟩ (.slice Ao36 y476.length co36))) HO478
       replace BK462:=bkfA (w1:=(ww3.setCell ⟨gb461,3,none⟩ (.slice Ao36 y476.length co36))) BK462
       replace BK463:=bkfA (w1:=(ww3.setCell ⟨gb461,3,none⟩ (.slice Ao36 y476.length co36))) BK463
       replace HB:=hbA (w1:=(ww3.setCell ⟨gb461,3,none⟩ (.slice Ao36 y476.length co36))) HB
       have BKn_ : Aside0 ((ww3.setCell ⟨gb461,3,none⟩ (.slice Ao36 y476.length co36)).heap[gb461]? = some (.cells #[.string t464,.slice Ao26 t465.length co26,.slice Ao27 t468.length co27,.slice Ao36 y476.length co36,.int .i64 (wrap64 (t474 + 1)),.int .i64 a2] 50 (0,0))):=bkpA BK461
       replace BK461:=BKn_
       clear BKn_
       generalize (ww3.setCell ⟨gb461,3,none⟩ (.slice Ao36 y476.length co36)) = ww4 at HO467 HO470 HO473 HO478 BK461 BK462 BK463 HB ⊢
       refine done_ (done_of HT_.out (by kernel_rfl)) ?_
       try go_wp2
       go_meet
       case rel => exact ⟨Ao36,co36,⟨Kd.R_mono HO467.out (fun _ _ => trivial)⟩,⟨Kd.R_mono HO470.out (fun _ hk => ⟨hk.1,hk.2⟩)⟩,⟨Kd.R_mono HO473.out (fun _ hk => ⟨hk.1,hk.2⟩)⟩,⟨Kd.R_mono HO478.out (fun _ hk => ⟨hk.1.2,hk.2⟩)⟩,BK461,BK462,BK463,HB⟩
      ·have hs_ : w30.cell? ⟨gb461,4,none⟩ = some (.int .i64 t474):=(blk_cell BK461.out 4).trans rfl
       have hfs_:=blk_frozen BK461.out 4
       refine skip_ (w1:=?_) (by rfl) rfl ?_ ?_
       rotate_left
       ·go_simp
        rfl
       refine hK _ _ (fun h_ => absurd (by decide) h_) ?_
       clear hs_ hfs_ hK K
       replace HO467:=rfA (w1:=(w30.setCell ⟨gb461,4,none⟩ (.int .i64 (wrap64 (t474 + 1))))) HO467
       replace HO470:=rfA (w1:=(w30.setCell ⟨gb461,4,none⟩ (.int .i64 (wrap64 (t474 + 1))))) HO470
       replace HO473:=rfA (w1:=(w30.setCell ⟨gb461,4,none⟩ (.int .i64 (wrap64 (t474 + 1))))) HO473
       replace BK462:=bkfA (w1:=(w30.setCell ⟨gb461,4,none⟩ (.int .i64 (wrap64 (t474 + 1))))) BK462
       replace BK463:=bkfA (w1:=(w30.setCell ⟨gb461,4,none⟩ (.int .i64 (wrap64 (t474 + 1))))) BK463
       replace HB:=hbA (w1:=(w30.setCell ⟨gb461,4,none⟩ (.int .i64 (wrap64 (t474 + 1))))) HB
       have BKn_ : Aside0 ((w30.setCell ⟨gb461,4,none⟩ (.int .i64 (wrap64 (t474 + 1)))).heap[gb461]? = some (.cells #[.string t464,.slice Ao26 t465.length co26,.slice Ao27 t468.length co27,.slice Ao28 t471.length co28,.int .i64 (wrap64 (t474 + 1)),.int .i64 t475] 50 (0,0))):=bkpA BK461
       replace BK461:=BKn_
       clear BKn_
       generalize (w30.setCell ⟨gb461,4,none⟩ (.int .i64 (wrap64 (t474 + 1)))) = ww5 at HO467 HO470 HO473 BK461 BK462 BK463 HB ⊢
       refine pur 10 (some 25) #[true,true,true,true,true,true,true,false,true,true,true,false,false,false] HT_ ?_
       refine two_w (i:=7) (j:=11) (Ni:=some 23) (Nj:=none) #[true,true,true,true,true,true,true,true,true,true,true,false,false,false] #[true,true,true,true,true,true,true,false,true,true,true,true,false,false] rfl rfl rfl rfl (by kernel_rfl) (fun K hK => ?_) (fun K hK => ?_)
       ·refine Kd.R_make_step Kd.bool _ 4 (by rfl) (N:=23) rfl 22 _ _ rfl (t465.length : Int) rfl rfl Try.underlying22 (.bool false) 1 info4 rfl (by decide) (by omega) false (ok:=fun _ => True) (okp:=fun _ => True) rfl (fun _ hk => hk) trivial (pos_) (Nat.le_trans (Nat.mul_le_mul_right _ (pos_ : (t465.length : Int).toNat ≤ 281474976710656)) (by omega)) (Below.refl _ _) (Nat.le_refl _) ?_
        intro v477 ww6 ho32 hb hg_ hnew_
        clear hg_ hnew_
        (first | rw [← Ny476.out] at ho32 | (simp only [Int.reduceToNat] at ho32;rw [← Ny476.out] at ho32))
        replace HO467:=rB HO467 hb
        have HO478:=Aside0.mk (Kd.R_lower (Kd.R_new' (Kd.R_new' ho32 (Kd.R_lt (ro HO470))) (Kd.R_lt (ro HO473))) (below_size (hbx HB)))
        replace HO470:=Aside0.mk (Kd.R_elder' (ro HO470) (Kd.R_base ho32) hb)
        replace HO473:=Aside0.mk (Kd.R_elder' (ro HO473) (Kd.R_base ho32) hb)
        replace BK461:=bkB BK461 hb
        replace BK462:=bkB BK462 hb
        replace BK463:=bkB BK463 hb
        replace HB:=hbS HB hb
        obtain ⟨Ao36,co36,eo36⟩:=Kd.R_slice HO478.out
        subst eo36
        refine hK _ _ (fun _ s => ⟨(hb.cell (World.block_lt_of_cell? _ _ s.1)).trans s.1,(hb.cell (World.block_lt_of_cell? _ _ s.2)).trans s.2⟩) ?_
        clear hb ho32 hK K
        refine nrm (some 23) ?_
        refine one_w (i:=11) (Ni:=none) #[true,true,true,true,true,true,true,true,true,true,true,true,false,false] rfl rfl (by kernel_rfl) (fun K hK => ?_)
        have hs_ : ww6.cell? ⟨gb461,5,none⟩ = some (.int .i64 t475):=(blk_cell BK461.out 5).trans rfl
        have hfs_:=blk_frozen BK461.out 5
        refine skip_ (w1:=?_) (by rfl) rfl ?_ ?_
        rotate_left
        ·go_simp
         rfl
        refine hK _ _ (fun h_ => absurd (by decide) h_) ?_
        clear hs_ hfs_ hK K
        replace HO467:=rfA (w1:=(ww6.setCell ⟨gb461,5,none⟩ (.int .i64 a2))) HO467
        replace HO470:=rfA (w1:=(ww6.setCell ⟨gb461,5,none⟩ (.int .i64 a2))) HO470
        replace HO473:=rfA (w1:=(ww6.setCell ⟨gb461,5,none⟩ (.int .i64 a2))) HO473
        replace HO478:=rfA (w1:=(ww6.setCell ⟨gb461,5,none⟩ (.int .i64 a2))) HO478
        replace BK462:=bkfA (w1:=(ww6.setCell ⟨gb461,5,none⟩ (.int .i64 a2))) BK462
        replace BK463:=bkfA (w1:=(ww6.setCell ⟨gb461,5,none⟩ (.int .i64 a2))) BK463
        replace HB:=hbA (w1:=(ww6.setCell ⟨gb461,5,none⟩ (.int .i64 a2))) HB
        have BKn_ : Aside0 ((ww6.setCell ⟨gb461,5,none⟩ (.int .i64 a2)).heap[gb461]? = some (.cells #[.string t464,.slice Ao26 t465.length co26,.slice Ao27 t468.length co27,.slice Ao28 t471.length co28,.int .i64 (wrap64 (t474 + 1)),.int .i64 a2] 50 (0,0))):=bkpA BK461
        replace BK461:=BKn_
        clear BKn_
        generalize (ww6.setCell ⟨gb461,5,none⟩ (.int .i64 a2)) = ww7 at HO467 HO470 HO473 HO478 BK461 BK462 BK463 HB ⊢
        refine pur 12 (some 26) #[true,true,true,true,true,true,true,true,true,true,true,true,true,false] HT_ ?_
        refine one_w (i:=13) (Ni:=none) #[true,true,true,true,true,true,true,true,true,true,true,true,true,true] rfl rfl (by kernel_rfl) (fun K hK => ?_)
        have hs_ : ww7.cell? ⟨gb461,3,none⟩ = some (.slice Ao28 t471.length co28):=(blk_cell BK461.out 3).trans rfl
        have hfs_:=blk_frozen BK461.out 3
        refine skip_ (w1:=?_) (by rfl) rfl ?_ ?_
        rotate_left
        ·go_simp
         rfl
        refine hK _ _ (fun h_ => absurd (by decide) h_) ?_
        clear hs_ hfs_ hK K
        replace HO467:=rfA (w1:=(ww7.setCell ⟨gb461,3,none⟩ (.slice Ao36 y476.length co36))) HO467
        replace HO470:=rfA (w1:=(ww7.setCell ⟨gb461,3,none⟩ (.slice Ao36 y476.length co36))) HO470
        replace HO473:=rfA (w1:=(ww7.setCell ⟨gb461,3,none⟩ (.slice Ao36 y476.length co36))) HO473
        replace HO478:=rfA (w1:=(ww7.setCell ⟨gb461,3,none⟩ (.slice Ao36 y476.length co36))) HO478
        replace BK462:=bkfA (w1:=(ww7.setCell ⟨gb461,3,none⟩ (.slice Ao36 y476.length co36))) BK462
        replace BK463:=bkfA (w1:=(ww7.setCell ⟨gb461,3,none⟩ (.slice Ao36 y476.length co36))) BK463
        replace HB:=hbA (w1:=(ww7.setCell ⟨gb461,3,none⟩ (.slice Ao36 y476.length co36))) HB
        have BKn_ : Aside0 ((ww7.setCell ⟨gb461,3,none⟩ (.slice Ao36 y476.length co36)).heap[gb461]? = some (.cells #[.string t464,.slice Ao26 t465.length co26,.slice Ao27 t468.length co27,.slice Ao36 y476.length co36,.int .i64 (wrap64 (t474 + 1)),.int .i64 a2] 50 (0,0))):=bkpA BK461
        replace BK461:=BKn_
        clear BKn_
        generalize (ww7.setCell ⟨gb461,3,none⟩ (.slice Ao36 y476.length co36)) = ww8 at HO467 HO470 HO473 HO478 BK461 BK462 BK463 HB ⊢
        refine done_ (done_of HT_.out (by kernel_rfl)) ?_
        try go_wp2
        go_meet
        case rel => exact ⟨Ao36,co36,⟨Kd.R_mono HO467.out (fun _ _ => trivial)⟩,⟨Kd.R_mono HO470.out (fun _ hk => ⟨hk.1,hk.2⟩)⟩,⟨Kd.R_mono HO473.out (fun _ hk => ⟨hk.1,hk.2⟩)⟩,⟨Kd.R_mono HO478.out (fun _ hk => ⟨hk.1.2,hk.2⟩)⟩,BK461,BK462,BK463,HB⟩
       ·have hs_ : ww5.cell? ⟨gb461,5,none⟩ = some (.int .i64 t475):=(blk_cell BK461.out 5).trans rfl
        have hfs_:=blk_frozen BK461.out 5
        refine skip_ (w1:=?_) (by rfl) rfl ?_ ?_
        rotate_left
        ·go_simp
         rfl
        refine hK _ _ (fun h_ => absurd (by decide) h_) ?_
        clear hs_ hfs_ hK K
        replace HO467:=rfA (w1:=(ww5.setCell ⟨gb461,5,none⟩ (.int .i64 a2))) HO467
        replace HO470:=rfA (w1:=(ww5.setCell ⟨gb461,5,none⟩ (.int .i64 a2))) HO470
        replace HO473:=rfA (w1:=(ww5.setCell ⟨gb461,5,none⟩ (.int .i64 a2))) HO473
        replace BK462:=bkfA (w1:=(ww5.setCell ⟨gb461,5,none⟩ (.int .i64 a2))) BK462
        replace BK463:=bkfA (w1:=(ww5.setCell ⟨gb461,5,none⟩ (.int .i64 a2))) BK463
        replace HB:=hbA (w1:=(ww5.setCell ⟨gb461,5,none⟩ (.int .i64 a2))) HB
        have BKn_ : Aside0 ((ww5.setCell ⟨gb461,5,none⟩ (.int .i64 a2)).heap[gb461]? = some (.cells #[.string t464,.slice Ao26 t465.length co26,.slice Ao27 t468.length co27,.slice Ao28 t471.length co28,.int .i64 (wrap64 (t474 + 1)),.int .i64 a2] 50 (0,0))):=bkpA BK461
        replace BK461:=BKn_
        clear BKn_
        generalize (ww5.setCell ⟨gb461,5,none⟩ (.int .i64 a2)) = ww9 at HO467 HO470 HO473 BK461 BK462 BK463 HB ⊢
        refine one_w (i:=7) (Ni:=some 23) #[true,true,true,true,true,true,true,true,true,true,true,true,false,false] rfl rfl (by kernel_rfl) (fun K hK => ?_)
        refine Kd.R_make_step Kd.bool _ 4 (by rfl) (N:=23) rfl 22 _ _ rfl (t465.length : Int) rfl rfl Try.underlying22 (.bool false) 1 info4 rfl (by decide) (by omega) false (ok:=fun _ => True) (okp:=fun _ => True) rfl (fun _ hk => hk) trivial (pos_) (Nat.le_trans (Nat.mul_le_mul_right _ (pos_ : (t465.length : Int).toNat ≤ 281474976710656)) (by omega)) (Below.refl _ _) (Nat.le_refl _) ?_
        intro v477 ww10 ho32 hb hg_ hnew_
        clear hg_ hnew_
        (first | rw [← Ny476.out] at ho32 | (simp only [Int.reduceToNat] at ho32;rw [← Ny476.out] at ho32))
        replace HO467:=rB HO467 hb
        have HO478:=Aside0.mk (Kd.R_lower (Kd.R_new' (Kd.R_new' ho32 (Kd.R_lt (ro HO470))) (Kd.R_lt (ro HO473))) (below_size (hbx HB)))
        replace HO470:=Aside0.mk (Kd.R_elder' (ro HO470) (Kd.R_base ho32) hb)
        replace HO473:=Aside0.mk (Kd.R_elder' (ro HO473) (Kd.R_base ho32) hb)
        replace BK461:=bkB BK461 hb
        replace BK462:=bkB BK462 hb
        replace BK463:=bkB BK463 hb
        replace HB:=hbS HB hb
        obtain ⟨Ao36,co36,eo36⟩:=Kd.R_slice HO478.out
        subst eo36
        refine hK _ _ (fun _ s => ⟨(hb.cell (World.block_lt_of_cell? _ _ s.1)).trans s.1,(hb.cell (World.block_lt_of_cell? _ _ s.2)).trans s.2⟩) ?_
        clear hb ho32 hK K
        refine nrm (some 23) ?_
        refine pur 12 (some 26) #[true,true,true,true,true,true,true,true,true,true,true,true,true,false] HT_ ?_
        refine one_w (i:=13) (Ni:=none) #[true,true,true,true,true,true,true,true,true,true,true,true,true,true] rfl rfl (by kernel_rfl) (fun K hK => ?_)
        have hs_ : ww10.cell? ⟨gb461,3,none⟩ = some (.slice Ao28 t471.length co28):=(blk_cell BK461.out 3).trans rfl
        have hfs_:=blk_frozen BK461.out 3
        refine skip_ (w1:=?_) (by rfl) rfl ?_ ?_
        rotate_left
        ·go_simp
         rfl
        refine hK _ _ (fun h_ => absurd (by decide) h_) ?_
        clear hs_ hfs_ hK K
        replace HO467:=rfA (w1:=(ww10.setCell ⟨gb461,3,none⟩ (.slice Ao36 y476.length co36))) HO467
        replace HO470:=rfA (w1:=(ww10.setCell ⟨gb461,3,none⟩ (.slice Ao36 y476.length co36))) HO470
        replace HO473:=rfA (w1:=(ww10.setCell ⟨gb461,3,none⟩ (.slice Ao36 y476.length co36))) HO473
        replace HO478:=rfA (w1:=(ww10.setCell ⟨gb461,3,none⟩ (.slice Ao36 y476.length co36))) HO478
        replace BK462:=bkfA (w1:=(ww10.setCell ⟨gb461,3,none⟩ (.slice Ao36 y476.length co36))) BK462
        replace BK463:=bkfA (w1:=(ww10.setCell ⟨gb461,3,none⟩ (.slice Ao36 y476.length co36))) BK463
        replace HB:=hbA (w1:=(ww10.setCell ⟨gb461,3,none⟩ (.slice Ao36 y476.length co36))) HB
        have BKn_ : Aside0 ((ww10.setCell ⟨gb461,3,none⟩ (.slice Ao36 y476.length co36)).heap[gb461]? = some (.cells #[.string t464,.slice Ao26 t465.length co26,.slice Ao27 t468.length co27,.slice Ao36 y476.length co36,.int .i64 (wrap64 (t474 + 1)),.int .i64 a2] 50 (0,0))):=bkpA BK461
        replace BK461:=BKn_
        clear BKn_
        generalize (ww10.setCell ⟨gb461,3,none⟩ (.slice Ao36 y476.length co36)) = ww11 at HO467 HO470 HO473 HO478 BK461 BK462 BK463 HB ⊢
        refine done_ (done_of HT_.out (by kernel_rfl)) ?_
        try go_wp2
        go_meet
        case rel => exact ⟨Ao36,co36,⟨Kd.R_mono HO467.out (fun _ _ => trivial)⟩,⟨Kd.R_mono HO470.out (fun _ hk => ⟨hk.1,hk.2⟩)⟩,⟨Kd.R_mono HO473.out (fun _ hk => ⟨hk.1,hk.2⟩)⟩,⟨Kd.R_mono HO478.out (fun _ hk => ⟨hk.1.2,hk.2⟩)⟩,BK461,BK462,BK463,HB⟩
     case rest =>
      obtain ⟨Ao36,co36,HO467,HO470,HO473,HO478,BK461,BK462,BK463,HB⟩:=hcut
      try go_wp2
      replace HO467:=Aside0.mk (Kd.R_drew HO467.out)
      replace HO470:=Aside0.mk (Kd.R_drew HO470.out)
      replace HO473:=Aside0.mk (Kd.R_drew HO473.out)
      replace HO478:=Aside0.mk (Kd.R_drew HO478.out)
      replace BK461:=Aside0.mk (blk_drew BK461.out)
      replace BK462:=Aside0.mk (blk_drew BK462.out)
      replace BK463:=Aside0.mk (blk_drew BK463.out)
      replace HB:=Aside0.mk (below_drew1 HB.out)
      refine start_ (n:=15) (S:=fun w' => w'.cell? ⟨gb461,0,none⟩ = some (.string t464) ∧ w'.cell? ⟨gb461,1,none⟩ = some (.slice Ao26 t465.length co26) ∧ w'.cell? ⟨gb461,2,none⟩ = some (.slice Ao27 t468.length co27) ∧ w'.cell? ⟨gb461,3,none⟩ = some (.slice Ao36 y476.length co36) ∧ w'.cell? ⟨gb461,4,none⟩ = some (.int .i64 (wrap64 (t474 + 1))) ∧ w'.cell? ⟨gb461,5,none⟩ = some (.int .i64 a2)) (ds:=[]) #[false,false,false,false,false,false,false,false,false,false,false,false,false,false,false] (by kernel_rfl) rfl rfl ⟨(blk_cell BK461.out 0).trans rfl,(blk_cell BK461.out 1).trans rfl,(blk_cell BK461.out 2).trans rfl,(blk_cell BK461.out 3).trans rfl,(blk_cell BK461.out 4).trans rfl,(blk_cell BK461.out 5).trans rfl⟩ (fun hHeld => ?_);refine with_tabW hopmeshref49_send.tab5 hopmeshref49_send.bits5 (fun HT_ HW_ => ?_)
      generalize wc.drew = w39 at HO467 HO470 HO473 HO478 BK461 BK462 BK463 HB hHeld ⊢
      refine pur 1 (some 28) #[false,true,false,false,false,false,false,false,false,false,false,false,false,false,false] HT_ ?_
      refine pur 3 (some 30) #[false,true,false,true,false,false,false,false,false,false,false,false,false,false,false] HT_ ?_
      refine pur 4 (some 31) #[false,true,false,true,true,false,false,false,false,false,false,false,false,false,false] HT_ ?_
      refine pur 5 (some 32) #[false,true,false,true,true,true,false,false,false,false,false,false,false,false,false] HT_ ?_
      refine pur 8 (some 35) #[false,true,false,true,true,true,false,false,true,false,false,false,false,false,false] HT_ ?_
      refine tak 0 (some 27) #[true,true,false,true,true,true,false,false,true,false,false,false,false,false,false] HT_ HW_ hHeld rfl (Or.inl ⟨by rfl,by rintro w' ⟨s0,s1,s2,s3,s4,s5⟩;go_simp;with_reducible rfl⟩) ?_
      refine tak 2 (some 29) #[true,true,true,true,true,true,false,false,true,false,false,false,false,false,false] HT_ HW_ hHeld rfl (Or.inl ⟨by rfl,by rintro w' ⟨s0,s1,s2,s3,s4,s5⟩;go_simp;with_reducible rfl⟩) ?_
      refine tak 6 (some 33) #[true,true,true,true,true,true,true,false,true,false,false,false,false,false,false] HT_ HW_ hHeld rfl (Or.inl ⟨by rfl,by rintro w' ⟨s0,s1,s2,s3,s4,s5⟩;go_simp;with_reducible rfl⟩) ?_
      refine tak 9 (some 36) #[true,true,true,true,true,true,true,false,true,true,false,false,false,false,false] HT_ HW_ hHeld rfl (Or.inl ⟨by rfl,by rintro w' ⟨s0,s1,s2,s3,s4,s5⟩;go_simp;with_reducible rfl⟩) ?_
      refine one_ (i:=7) (N:=some 34) #[true,true,true,true,true,true,true,true,true,true,false,false,false,false,false] rfl rfl (one_of HT_.out (by kernel_rfl)) (by decide) (fun K hK => ?_)
      refine Kd.R_lit_step (Kd.int .i64) _ 3 ?hg (N:=34) ?hd (xs:=([] : List Int)) (inner:=[]) (ok:=fun _ => True) (okp:=fun _ => True) ?hr ?hp (fun _ hk => hk) trivial (Below.refl _ _) (Nat.le_refl _) (by simp) ?_;(case hd => rfl);(case hg => rfl);(case hr => first | (go_simp;done) | (go_simp;rfl));(case hp => exact (Reps.none _ _))
      intro v480 w40 ho41 hb hg_ hnew_
      clear hg_ hnew_
      (first | rw [← Ny479.out] at ho41 | (simp only [Int.reduceToNat] at ho41;rw [← Ny479.out] at ho41))
      replace HO470:=rB HO470 hb
      replace HO473:=rB HO473 hb
      replace HO478:=rB HO478 hb
      have HO481:=Aside0.mk (Kd.R_lower (Kd.R_new' ho41 (Kd.R_lt (ro HO467))) (below_size (hbx HB)))
      replace HO467:=Aside0.mk (Kd.R_elder' (ro HO467) (Kd.R_base ho41) hb)
      replace BK461:=bkB BK461 hb
      replace BK462:=bkB BK462 hb
      replace BK463:=bkB BK463 hb
      replace HB:=hbS HB hb
      clear hb ho41
      refine hK.out _ _ ⟨(blk_cell BK461.out 0).trans rfl,(blk_cell BK461.out 1).trans rfl,(blk_cell BK461.out 2).trans rfl,(blk_cell BK461.out 3).trans rfl,(blk_cell BK461.out 4).trans rfl,(blk_cell BK461.out 5).trans rfl⟩ (fun hHeld => ?_)
      clear hK K
      refine nrm (some 34) ?_
      refine one_ (i:=10) (N:=some 37) #[true,true,true,true,true,true,true,true,true,true,true,false,false,false,false] rfl rfl (one_of HT_.out (by kernel_rfl)) (by decide) (fun K hK => ?_)
      refine Kd.R_append_rows_step (Kd.int .i64) (w0:=w) w.heap.size (by rfl) (.tmp 34) (.tmp 36) 34 3 (.int .i64 0) 8 rfl Try.underlying34 info3 rfl (by decide) (by omega) v480 y479 t465 _ _ _ (fun k_ => some k_ ≠ (.slice Ao26 t465.length co26 : Value).ownBlock) (fun _ => False) rfl rfl ?aO ?aR (fun _ _ h => h) (fun _ h => h.elim) ?aF ?aB ?aS ?aL ?_
      (case aR => repeat (first | exact (Kd.R_reads' HO467.out).2.2 | (with_reducible refine Kd.C_alloc ?_ _) | (with_reducible refine Kd.C_drewN ?_ _) | (with_reducible refine Kd.C_drew ?_)))
      (case aB => exact (hbx HB))
      (case aF => exact (fun k_ hk => Kd.fresh' (Kd.R_lt (ro HO467)) k_ hk))
      (case aO => exact (by (with_reducible repeat (first | apply Kd.R_alloc | apply Kd.R_drewN | apply Kd.R_drew));exact Kd.R_mono HO481.out (fun _ hk => hk.2)))
      (case aS => exact (below_size (hbx HB)))
      (case aL => have:=LMc17.out;omega)
      intro v483 w42 ho hb hg hat
      rw [← Ny482.out] at ho
      replace BK461:=Aside0.mk (blk_grown (bk BK461) hg (Kd.R_ne HO481.out BK461.out (by decide)))
      replace BK462:=Aside0.mk (blk_grown (bk BK462) hg (Kd.R_ne HO481.out BK462.out (by decide)))
      replace BK463:=Aside0.mk (blk_grown (bk BK463) hg (Kd.R_ne HO481.out BK463.out (by decide)))
      replace HO467:=Aside0.mk (Kd.R_after (ok:=(fun _ => True)) (ro HO467) hg hat)
      replace HO470:=Aside0.mk (Kd.R_over' (ro HO470) (Kd.R_typed (ro HO481)) (by decide) hg)
      replace HO473:=Aside0.mk (Kd.R_over' (ro HO473) (Kd.R_typed (ro HO481)) (by decide) hg)
      replace HO478:=Aside0.mk (Kd.R_over' (ro HO478) (Kd.R_typed (ro HO481)) (by decide) hg)
      replace HB:=Aside0.mk (hb)
      have HO484:=Aside0.mk (ho)
      clear HO481
      clear ho hb hg hat
      obtain ⟨Ao43,co43,eo43⟩:=Kd.R_slice HO484.out
      (first | subst eo43 | (injection eo43 with f1_ f2_ f3_;have f4_:=f1_.symm;have f5_:=f3_.symm;clear f1_ f2_ f3_;subst f4_;subst f5_))
      refine hK.out _ _ ⟨(blk_cell BK461.out 0).trans rfl,(blk_cell BK461.out 1).trans rfl,(blk_cell BK461.out 2).trans rfl,(blk_cell BK461.out 3).trans rfl,(blk_cell BK461.out 4).trans rfl,(blk_cell BK461.out 5).trans rfl⟩ (fun hHeld => ?_)
      clear hK K
      refine nrm (some 37) ?_
      refine pur 11 (some 38) #[true,true,true,true,true,true,true,true,true,true,true,true,false,false,false] HT_ ?_
      refine one_ (i:=12) (N:=none) #[true,true,true,true,true,true,true,true,true,true,true,true,true,false,false] rfl rfl (one_of HT_.out (by kernel_rfl)) (by decide) (fun K hK => ?_)
      have hs44 : w42.cell? ⟨gb462,0,none⟩ = some (.string (⟨#[]⟩ : ByteArray)):=(blk_cell BK462.out 0).trans rfl
      have hfs44:=blk_frozen BK462.out 0
      have hns44_0:=NB461_462.out
      have hns44_2:=NB463_462.out
      have hms44_0:=NB462_461.out
      have hms44_2:=NB462_463.out
      have hs45 : w42.cell? ⟨gb462,1,none⟩ = some (.slice none 0 0):=(blk_cell BK462.out 1).trans rfl
      have hfs45:=blk_frozen BK462.out 1
      have hns45_0:=NB461_462.out
      have hns45_2:=NB463_462.out
      have hms45_0:=NB462_461.out
      have hms45_2:=NB462_463.out
      have hs46 : w42.cell? ⟨gb462,2,none⟩ = some (.slice none 0 0):=(blk_cell BK462.out 2).trans rfl
      have hfs46:=blk_frozen BK462.out 2
      have hns46_0:=NB461_462.out
      have hns46_2:=NB463_462.out
      have hms46_0:=NB462_461.out
      have hms46_2:=NB462_463.out
      have hs47 : w42.cell? ⟨gb462,3,none⟩ = some (.slice none 0 0):=(blk_cell BK462.out 3).trans rfl
      have hfs47:=blk_frozen BK462.out 3
      have hns47_0:=NB461_462.out
      have hns47_2:=NB463_462.out
      have hms47_0:=NB462_461.out
      have hms47_2:=NB462_463.out
      have hs48 : w42.cell? ⟨gb462,4,none⟩ = some (.int .i64 0):=(blk_cell BK462.out 4).trans rfl
      have hfs48:=blk_frozen BK462.out 4
      have hns48_0:=NB461_462.out
      have hns48_2:=NB463_462.out
      have hms48_0:=NB462_461.out
      have hms48_2:=NB462_463.out
      have hs49 : w42.cell? ⟨gb462,5,none⟩ = some (.int .i64 0):=(blk_cell BK462.out 5).trans rfl
      have hfs49:=blk_frozen BK462.out 5
      have hns49_0:=NB461_462.out
      have hns49_2:=NB463_462.out
      have hms49_0:=NB462_461.out
      have hms49_2:=NB462_463.out
      refine skip_ (w1:=?_) (by rfl) rfl ?_ ?_
      rotate_left
      ·go_simp
       rfl
      refine hK.out _ _ ⟨((cell_far (p:=⟨gb462,_,none⟩) NB461_462.out _).trans (((cell_far (p:=⟨gb462,_,none⟩) NB461_462.out _).trans (((cell_far (p:=⟨gb462,_,none⟩) NB461_462.out _).trans (((cell_far (p:=⟨gb462,_,none⟩) NB461_462.out _).trans (((cell_far (p:=⟨gb462,_,none⟩) NB461_462.out _).trans (((cell_far (p:=⟨gb462,_,none⟩) NB461_462.out _).trans (hHeld.1)))))))))))),((cell_far (p:=⟨gb462,_,none⟩) NB461_462.out _).trans (((cell_far (p:=⟨gb462,_,none⟩) NB461_462.out _).trans (((cell_far (p:=⟨gb462,_,none⟩) NB461_462.out _).trans (((cell_far (p:=⟨gb462,_,none⟩) NB461_462.out _).trans (((cell_far (p:=⟨gb462,_,none⟩) NB461_462.out _).trans (((cell_far (p:=⟨gb462,_,none⟩) NB461_462.out _).trans (hHeld.2.1)))))))))))),((cell_far (p:=⟨gb462,_,none⟩) NB461_462.out _).trans (((cell_far (p:=⟨gb462,_,none⟩) NB461_462.out _).trans (((cell_far (p:=⟨gb462,_,none⟩) NB461_462.out _).trans (((cell_far (p:=⟨gb462,_,none⟩) NB461_462.out _).trans (((cell_far (p:=⟨gb462,_,none⟩) NB461_462.out _).trans (((cell_far (p:=⟨gb462,_,none⟩) NB461_462.out _).trans (hHeld.2.2.1)))))))))))),((cell_far (p:=⟨gb462,_,none⟩) NB461_462.out _).trans (((cell_far (p:=⟨gb462,_,none⟩) NB461_462.out _).trans (((cell_far (p:=⟨gb462,_,none⟩) NB461_462.out _).trans (((cell_far (p:=⟨gb462,_,none⟩) NB461_462.out _).trans (((cell_far (p:=⟨gb462,_,none⟩) NB461_462.out _).trans (((cell_far (p:=⟨gb462,_,none⟩) NB461_462.out _).trans (hHeld.2.2.2.1)))))))))))),((cell_far (p:=⟨gb462,_,none⟩) NB461_462.out _).trans (((cell_far (p:=⟨gb462,_,none⟩) NB461_462.out _).trans (((cell_far (p:=⟨gb462,_,none⟩) NB461_462.out _).trans (((cell_far (p:=⟨gb462,_,none⟩) NB461_462.out _).trans (((cell_far (p:=⟨gb462,_,none⟩) NB461_462.out _).trans (((cell_far (p:=⟨gb462,_,none⟩) NB461_462.out _).trans (hHeld.2.2.2.2.1)))))))))))),((cell_far (p:=⟨gb462,_,none⟩) NB461_462.out _).trans (((cell_far (p:=⟨gb462,_,none⟩) NB461_462.out _).trans (((cell_far (p:=⟨gb462,_,none⟩) NB461_462.out _).trans (((cell_far (p:=⟨gb462,_,none⟩) NB461_462.out _).trans (((cell_far (p:=⟨gb462,_,none⟩) NB461_462.out _).trans (((cell_far (p:=⟨gb462,_,none⟩) NB461_462.out _).trans (hHeld.2.2.2.2.2))))))))))))⟩ (fun hHeld => ?_)
      clear hK K
      refine one_ (i:=13) (N:=none) #[true,true,true,true,true,true,true,true,true,true,true,true,true,true,false] rfl rfl (one_of HT_.out (by kernel_rfl)) (by decide) (fun K hK => ?_)
      have hs50 : w42.cell? ⟨gb463,0,none⟩ = some (.int .i64 0):=(blk_cell BK463.out 0).trans rfl
      have hfs50:=blk_frozen BK463.out 0
      have hns50_0:=NB461_463.out
      have hns50_1:=NB462_463.out
      have hms50_0:=NB463_461.out
      have hms50_1:=NB463_462.out
      have hs51 : w42.cell? ⟨gb463,1,none⟩ = some (.int .i64 0):=(blk_cell BK463.out 1).trans rfl
      have hfs51:=blk_frozen BK463.out 1
      have hns51_0:=NB461_463.out
      have hns51_1:=NB462_463.out
      have hms51_0:=NB463_461.out
      have hms51_1:=NB463_462.out
      have hs52 : w42.cell? ⟨gb463,2,none⟩ = some (.int .i64 0):=(blk_cell BK463.out 2).trans rfl
      have hfs52:=blk_frozen BK463.out 2
      have hns52_0:=NB461_463.out
      have hns52_1:=NB462_463.out
      have hms52_0:=NB463_461.out
      have hms52_1:=NB463_462.out
      have hs53 : w42.cell? ⟨gb463,3,none⟩ = some (.string (⟨#[]⟩ : ByteArray)):=(blk_cell BK463.out 3).trans rfl
      have hfs53:=blk_frozen BK463.out 3
      have hns53_0:=NB461_463.out
      have hns53_1:=NB462_463.out
      have hms53_0:=NB463_461.out
      have hms53_1:=NB463_462.out
      have hs54 : w42.cell? ⟨gb463,4,none⟩ = some (.slice none 0 0):=(blk_cell BK463.out 4).trans rfl
      have hfs54:=blk_frozen BK463.out 4
      have hns54_0:=NB461_463.out
      have hns54_1:=NB462_463.out
      have hms54_0:=NB463_461.out
      have hms54_1:=NB463_462.out
      refine skip_ (w1:=?_) (by rfl) rfl ?_ ?_
      rotate_left
      ·go_simp
       rfl
      refine hK.out _ _ ⟨((cell_far (p:=⟨gb463,_,none⟩) NB461_463.out _).trans (((cell_far (p:=⟨gb463,_,none⟩) NB461_463.out _).trans (((cell_far (p:=⟨gb463,_,none⟩) NB461_463.out _).trans (((cell_far (p:=⟨gb463,_,none⟩) NB461_463.out _).trans (((cell_far (p:=⟨gb463,_,none⟩) NB461_463.out _).trans (hHeld.1)))))))))),((cell_far (p:=⟨gb463,_,none⟩) NB461_463.out _).trans (((cell_far (p:=⟨gb463,_,none⟩) NB461_463.out _).trans (((cell_far (p:=⟨gb463,_,none⟩) NB461_463.out _).trans (((cell_far (p:=⟨gb463,_,none⟩) NB461_463.out _).trans (((cell_far (p:=⟨gb463,_,none⟩) NB461_463.out _).trans (hHeld.2.1)))))))))),((cell_far (p:=⟨gb463,_,none⟩) NB461_463.out _).trans (((cell_far (p:=⟨gb463,_,none⟩) NB461_463.out _).trans (((cell_far (p:=⟨gb463,_,none⟩) NB461_463.out _).trans (((cell_far (p:=⟨gb463,_,none⟩) NB461_463.out _).trans (((cell_far (p:=⟨gb463,_,none⟩) NB461_463.out _).trans (hHeld.2.2.1)))))))))),((cell_far (p:=⟨gb463,_,none⟩) NB461_463.out _).trans (((cell_far (p:=⟨gb463,_,none⟩) NB461_463.out _).trans (((cell_far (p:=⟨gb463,_,none⟩) NB461_463.out _).trans (((cell_far (p:=⟨gb463,_,none⟩) NB461_463.out _).trans (((cell_far (p:=⟨gb463,_,none⟩) NB461_463.out _).trans (hHeld.2.2.2.1)))))))))),((cell_far (p:=⟨gb463,_,none⟩) NB461_463.out _).trans (((cell_far (p:=⟨gb463,_,none⟩) NB461_463.out _).trans (((cell_far (p:=⟨gb463,_,none⟩) NB461_463.out _).trans (((cell_far (p:=⟨gb463,_,none⟩) NB461_463.out _).trans (((cell_far (p:=⟨gb463,_,none⟩) NB461_463.out _).trans (hHeld.2.2.2.2.1)))))))))),((cell_far (p:=⟨gb463,_,none⟩) NB461_463.out _).trans (((cell_far (p:=⟨gb463,_,none⟩) NB461_463.out _).trans (((cell_far (p:=⟨gb463,_,none⟩) NB461_463.out _).trans (((cell_far (p:=⟨gb463,_,none⟩) NB461_463.out _).trans (((cell_far (p:=⟨gb463,_,none⟩) NB461_463.out _).trans (hHeld.2.2.2.2.2))))))))))⟩ (fun hHeld => ?_)
      clear hK K
      refine pur 14 (some 8) #[true,true,true,true,true,true,true,true,true,true,true,true,true,true,true] HT_ ?_
      refine done_ (done_of HT_.out (by kernel_rfl)) ?_
      try go_wp2
      refine bodyPost_ret (results_list (rs:=[.cell 6 50,.cell 7 36,.tmp 8]) rfl (by simp) (.cell gb462 50 #[.string t464,.slice Ao26 t465.length co26,.slice Ao27 t468.length co27,.slice Ao36 y476.length co36,.int .i64 (wrap64 (t474 + 1)),.int .i64 a2] (0,0) _ rfl (bkp BK462) Try.underlying50 rfl (by kernel_rfl) (.cell gb463 36 #[.int .i64 (wrap64 (t474 + 1)),.int .i64 a1,.int .i64 a2,.string t464,.slice Ao43 y482.length co43] (0,0) _ rfl (bkp BK463) Try.underlying36 rfl (by kernel_rfl) (.tmp .nil)))) rfl ?_
      exact ⟨_,_,_,_,rerr,Kd.R_mono (rty (rty (rfo HO467) BK462) BK463) (fun _ hk => hk.1.1.2),Kd.R_mono (rty (rty (rfo HO470) BK462) BK463) (fun _ hk => hk.1.1.2),Kd.R_mono (rty (rty (rfo HO478) BK462) BK463) (fun _ hk => hk.1.1.1),rfo HO484,hbx HB⟩
    ·rw [if_neg c17] at H
     exact absurd H (by simp)
   ·rw [if_neg c16] at H
    exact absurd H (by simp)
  ·rw [if_neg c15] at H
   exact absurd H (by simp)
end Go.Proofs.Ytdigplhjfjchnaa.PQ
