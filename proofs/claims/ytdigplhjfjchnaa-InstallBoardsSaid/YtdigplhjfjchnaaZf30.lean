-- Printed by fprint.py and zip.py, programs of this session's, over the kit's print; Lean checks it.
import Derived.Test.YtdigplhjfjchnaaZa
import Derived.Test.YtdigplhjfjchnaaZf63
namespace Go.Proofs.Ytdigplhjfjchnaa.PQ
open Go.RowKit Go.Proofs.YtdigplhjfjchnaaW.PrintWords Go.Proofs.YtdigplhjfjchnaaW.PrintLast Go.Proofs.YtdigplhjfjchnaaW.PrintMore
attribute [local go_sem] max2_int min2_int max_two min_two max_three min_three max_four min_four   -- for this text's walks alone
set_option linter.unusedVariables false
set_option linter.unusedSimpArgs false
def hopmeshref49_New.f (k : Nat) (a0 : ByteArray) (l1 : List Int) : Option (ByteArray × List Int × List Bool × List Bool × Int × Int × Int):=(hopmeshref49_Identifier.f a0).bind fun t728 => (if t728 = true then ((hopmeshref49_nodes.f k l1).bind fun t729 => (if t729 = true then ((some (([] : List Int) : List Int)).bind fun y730 => (if y730.length + l1.length < 17592186044416 then (if 0 ≤ (l1.length : Int) then (if ((l1.length : Int) : Int).toNat ≤ 281474976710656 then (some (a0,(y730 ++ l1),(List.replicate ((l1.length : Int) : Int).toNat false),(List.replicate ((l1.length : Int) : Int).toNat false),0,0,0)) else (none)) else (none)) else (none))) else (some ((⟨#[]⟩ : ByteArray),([] : List Int),([] : List Bool),([] : List Bool),0,0,1)))) else (some ((⟨#[]⟩ : ByteArray),([] : List Int),([] : List Bool),([] : List Bool),0,0,1)))
def hopmeshref49_New.T3 : Bool × List (List Nat × List Nat):=(true,[([],[]),([],[]),([],[]),([1,2],[1,2]),([],[]),([4],[4]),([5,5],[5]),([],[]),([7],[7]),([8,8],[8]),([0,3,6,9],[0,3,6,9]),([10,3,0,1,2,3,4,5,6,7,8,9,10],[10]),([11,0,1,2,3,4,5,6,7,8,9,10,11],[])])
def hopmeshref49_New.B3 : List Nat:=[0,0,0,6,0,16,48,0,128,384,1023,2047,4095]
theorem hopmeshref49_New.tab3 : rtab .any (opsOf Try.f30 3) = hopmeshref49_New.T3:=by kernel_rfl
theorem hopmeshref49_New.bits3 : waitsOk hopmeshref49_New.T3.2 hopmeshref49_New.B3 = true:=by kernel_rfl
set_option maxHeartbeats 8000000 in
set_option maxRecDepth 100000 in
theorem hopmeshref49_New.calls (k : Nat) (a0 : ByteArray) (A1 : Option Addr) (c1 : Nat) (l1 : List Int) (r1 : ByteArray) (r2 : List Int) (r3 : List Bool) (r4 : List Bool) (r5 r6 r7 : Int) (w : World) (hr1 : Kd.C (Kd.int .i64) w A1 l1.length l1) (hc1 : l1.length ≤ c1) (h : hopmeshref49_New.f k a0 l1 = some (r1,r2,r3,r4,r5,r6,r7)) :
 Calls Try.prog 30 #[.string a0,.slice A1 l1.length c1] w fun e w' => ∃ v1_ v2_ v3_ : Value,e = .returned (.tuple #[.agg #[.string r1,v1_,v2_,v3_,.int .i64 r5,.int .i64 r6],.int .i64 r7]) ∧ Kd.R (Kd.int .i64) 3 w' w.heap.size (fun _ => True) v1_ r2 ∧ Kd.R Kd.bool 4 w' w.heap.size (fun k_ => some k_ ≠ (v3_ : Value).ownBlock) v2_ r3 ∧ Kd.R Kd.bool 4 w' w.heap.size (fun k_ => some k_ ≠ (v2_ : Value).ownBlock) v3_ r4 ∧ Below w.heap.size w w':=by
 have hu50:=Try.underlying50
 have HR1:=Aside0.mk hr1
 have HC1:=Aside0.mk hc1
 clear hr1 hc1
 have HB:=Aside0.mk (Below.refl w.heap.size w)
 have H : ((hopmeshref49_Identifier.f a0).bind fun t728 => (if t728 = true then ((hopmeshref49_nodes.f k l1).bind fun t729 => (if t729 = true then ((some (([] : List Int) : List Int)).bind fun y730 => (if y730.length + l1.length < 17592186044416 then (if 0 ≤ (l1.length : Int) then (if ((l1.length : Int) : Int).toNat ≤ 281474976710656 then (some (a0,(y730 ++ l1),(List.replicate ((l1.length : Int) : Int).toNat false),(List.replicate ((l1.length : Int) : Int).toNat false),0,0,0)) else (none)) else (none)) else (none))) else (some ((⟨#[]⟩ : ByteArray),([] : List Int),([] : List Bool),([] : List Bool),0,0,1)))) else (some ((⟨#[]⟩ : ByteArray),([] : List Int),([] : List Bool),([] : List Bool),0,0,1)))) = some (r1,r2,r3,r4,r5,r6,r7):=h
 clear h
 replace H:=Option.bind_eq_some_iff.mp H
 obtain ⟨t728,A30,H⟩:=H
 (try dsimp only at H)
 have A3:=Aside0.mk A30
 clear A30
 by_cases c4 : t728 = true
 ·subst c4
  rw [if_pos rfl] at H
  replace H:=Option.bind_eq_some_iff.mp H
  obtain ⟨t729,A50,H⟩:=H
  (try dsimp only at H)
  have A5:=Aside0.mk A50
  clear A50
  by_cases c6 : t729 = true
  ·subst c6
   rw [if_pos rfl] at H
   obtain ⟨y730,hy730⟩ : ∃ y_ : List Int,y_ = (([] : List Int)):=⟨_,rfl⟩
   replace H : (if y730.length + l1.length < 17592186044416 then (if 0 ≤ (l1.length : Int) then (if ((l1.length : Int) : Int).toNat ≤ 281474976710656 then (some (a0,(y730 ++ l1),(List.replicate ((l1.length : Int) : Int).toNat false),(List.replicate ((l1.length : Int) : Int).toNat false),0,0,0)) else (none)) else (none)) else (none)) = some (r1,r2,r3,r4,r5,r6,r7):=by first | (rw [hy730];with_reducible exact H) | (have H2_:=(Option.bind_some _ _).symm.trans H;rw [hy730];with_reducible exact H2_) | (have H2_:=(Option.bind_some _ _).symm.trans H;with_reducible exact H2_) | with_reducible exact H | (rw [hy730];exact H) | exact H
   have Ny730:=Aside0.mk hy730
   clear hy730
   by_cases c7 : y730.length + l1.length < 17592186044416
   ·rw [if_pos c7] at H
    have LMc7:=Aside0.mk c7
    clear c7
    obtain ⟨y733,hy733⟩ : ∃ y_ : List Int,y_ = (y730 ++ l1):=⟨_,rfl⟩
    replace H : (if 0 ≤ (l1.length : Int) then (if ((l1.length : Int) : Int).toNat ≤ 281474976710656 then (some (a0,y733,(List.replicate ((l1.length : Int) : Int).toNat false),(List.replicate ((l1.length : Int) : Int).toNat false),0,0,0)) else (none)) else (none)) = some (r1,r2,r3,r4,r5,r6,r7):=by first | (rw [hy733];with_reducible exact H) | (have H2_:=(Option.bind_some _ _).symm.trans H;rw [hy733];with_reducible exact H2_) | (have H2_:=(Option.bind_some _ _).symm.trans H;with_reducible exact H2_) | with_reducible exact H | (rw [hy733];exact H) | exact H
    have Ny733:=Aside0.mk hy733
    clear hy733
    by_cases c8 : 0 ≤ (l1.length : Int)
    ·rw [if_pos c8] at H
     have c8b0:=eq_true c8
     have c8b1 : decide (0 ≤ (l1.length : Int)) = true:=decide_eq_true c8
     clear c8
     by_cases c9 : ((l1.length : Int) : Int).toNat ≤ 281474976710656
     ·rw [if_pos c9] at H
      have c9b0:=eq_true c9
      have c9b1 : decide (((l1.length : Int) : Int).toNat ≤ 281474976710656) = true:=decide_eq_true c9
      clear c9
      obtain ⟨y736,hy736⟩ : ∃ y_ : List Bool,y_ = (List.replicate ((l1.length : Int) : Int).toNat false):=⟨_,rfl⟩
      replace H : (some (a0,y733,y736,(List.replicate ((l1.length : Int) : Int).toNat false),0,0,0)) = some (r1,r2,r3,r4,r5,r6,r7):=by first | (rw [hy736];with_reducible exact H) | (have H2_:=(Option.bind_some _ _).symm.trans H;rw [hy736];with_reducible exact H2_) | (have H2_:=(Option.bind_some _ _).symm.trans H;with_reducible exact H2_) | with_reducible exact H | (rw [hy736];exact H) | exact H
      have Ny736:=Aside0.mk hy736
      clear hy736
      obtain ⟨y739,hy739⟩ : ∃ y_ : List Bool,y_ = (List.replicate ((l1.length : Int) : Int).toNat false):=⟨_,rfl⟩
      replace H : (some (a0,y733,y736,y739,0,0,0)) = some (r1,r2,r3,r4,r5,r6,r7):=by first | (rw [hy739];with_reducible exact H) | (have H2_:=(Option.bind_some _ _).symm.trans H;rw [hy739];with_reducible exact H2_) | (have H2_:=(Option.bind_some _ _).symm.trans H;with_reducible exact H2_) | with_reducible exact H | (rw [hy739];exact H) | exact H
      have Ny739:=Aside0.mk hy739
      clear hy739
      simp only [Option.some.injEq,Prod.mk.injEq] at H
      obtain ⟨rfl,rfl,rfl,rfl,rfl,rfl,rfl⟩:=H
      go_enter Try.func30,Try.ntmps30
      try go_wp2_with (first | ((with_reducible refine gate_dst (N:=4) rfl ?_);refine boxE 4 #[.string (⟨#[]⟩ : ByteArray),.slice none 0 0,.slice none 0 0,.slice none 0 0,.int .i64 0,.int .i64 0] 50 ?_;intro gb727 hg w10 hbox hb;have BK727:=Aside0.mk (hbox);have GW727:=gw hg HB;have GE727:=gw hg HB;replace HB:=hbS HB hb;clear hb hbox hg) | ((with_reducible refine gate_callee (f:=62) rfl ?_);refine goesL_ (some 7) rfl rfl Try.func62 (by kernel_rfl) rfl #[.string a0] rfl sma ?_;(with_reducible refine (hopmeshref49_Identifier.calls a0 true _ A3.out).mono ?_);rintro e w' ⟨rfl,⟨nd,rfl⟩⟩;refine ⟨_,rfl,?_⟩;(try (rw [drewN_self w10];generalize hq_ : World.drewN w10 _ = w10;replace BK727:=bkq BK727 hq_;replace HB:=hbq HB hq_;clear hq_))) | (go_at_call 63;(with_reducible refine (hopmeshref49_nodes.calls k _ _ l1 true _ (cb HR1 HB) HC1.out A5.out).mono ?_);rintro e w' ⟨rfl,⟨nd,rfl⟩⟩;(try (rw [drewN_self w10];generalize hq_ : World.drewN w10 _ = w10;replace BK727:=bkq BK727 hq_;replace HB:=hbq HB hq_;clear hq_))))
      replace BK727:=Aside0.mk (blk_drew BK727.out)
      replace HB:=Aside0.mk (below_drew1 HB.out)
      refine start_ (n:=13) (S:=fun w' => True) (ds:=[]) #[false,false,false,false,false,false,false,false,false,false,false,false,false] (by kernel_rfl) rfl rfl trivial (fun hHeld => ?_);refine with_tabW hopmeshref49_New.tab3 hopmeshref49_New.bits3 (fun HT_ HW_ => ?_)
      generalize w10.drew = w11 at BK727 HB hHeld ⊢
      refine pur 0 (some 15) #[true,false,false,false,false,false,false,false,false,false,false,false,false] HT_ ?_
      refine pur 2 (some 17) #[true,false,true,false,false,false,false,false,false,false,false,false,false] HT_ ?_
      refine pur 4 (some 19) #[true,false,true,false,true,false,false,false,false,false,false,false,false] HT_ ?_
      refine pur 5 (some 20) #[true,false,true,false,true,true,false,false,false,false,false,false,false] HT_ ?_
      refine pur 7 (some 22) #[true,false,true,false,true,true,false,true,false,false,false,false,false] HT_ ?_
      refine pur 8 (some 23) #[true,false,true,false,true,true,false,true,true,false,false,false,false] HT_ ?_
      refine join_ (σ:=Value × Value × Value × Value) 3 #[true,true,true,true,true,true,true,true,true,true,false,false,false] (fun s_ => [(16,s_.1),(18,s_.2.1),(21,s_.2.2.1),(24,s_.2.2.2)]) (fun s_ w' => (Kd.R (Kd.int .i64) 3 w' w.heap.size (fun _ => True) s_.2.1 y733) ∧ (Kd.R Kd.bool 4 w' w.heap.size (fun k_ => some k_ ≠ (s_.2.2.2 : Value).ownBlock) s_.2.2.1 y736) ∧ (Kd.R Kd.bool 4 w' w.heap.size (fun k_ => some k_ ≠ (s_.2.2.1 : Value).ownBlock) s_.2.2.2 y739) ∧ (w'.heap[gb727]? = some (.cells #[.string (⟨#[]⟩ : ByteArray),.slice none 0 0,.slice none 0 0,.slice none 0 0,.int .i64 0,.int .i64 0] 50 (0,0))) ∧ (Below w.heap.size w w')) ?_ ?_
      rotate_left
      ·intro hJ1_3_6_9
       refine join_ (σ:=Value × Value × Value) 4 #[true,true,true,true,true,true,true,true,true,false,false,false,false] (fun s_ => [(16,s_.1),(18,s_.2.1),(21,s_.2.2)]) (fun s_ w' => (Kd.R (Kd.int .i64) 3 w' w.heap.size (fun _ => True) s_.2.1 y733) ∧ (Kd.R Kd.bool 4 w' w.heap.size (fun _ => True) s_.2.2 y736) ∧ (w'.heap[gb727]? = some (.cells #[.string (⟨#[]⟩ : ByteArray),.slice none 0 0,.slice none 0 0,.slice none 0 0,.int .i64 0,.int .i64 0] 50 (0,0))) ∧ (Below w.heap.size w w')) ?_ ?_
       rotate_left
       ·intro hJ1_3_6
        refine join_ (σ:=Value × Value × Value) 4 #[true,true,true,true,true,true,false,true,true,true,false,false,false] (fun s_ => [(16,s_.1),(18,s_.2.1),(24,s_.2.2)]) (fun s_ w' => (Kd.R (Kd.int .i64) 3 w' w.heap.size (fun _ => True) s_.2.1 y733) ∧ (Kd.R Kd.bool 4 w' w.heap.size (fun _ => True) s_.2.2 y739) ∧ (w'.heap[gb727]? = some (.cells #[.string (⟨#[]⟩ : ByteArray),.slice none 0 0,.slice none 0 0,.slice none 0 0,.int .i64 0,.int .i64 0] 50 (0,0))) ∧ (Below w.heap.size w w')) ?_ ?_
        rotate_left
        ·intro hJ1_3_9
         refine join_ (σ:=Value × Value × Value) 4 #[true,true,true,false,true,true,true,true,true,true,false,false,false] (fun s_ => [(16,s_.1),(21,s_.2.1),(24,s_.2.2)]) (fun s_ w' => (Kd.R (Kd.int .i64) 3 w' w.heap.size (fun _ => True) s_.1 y730) ∧ (Kd.R Kd.bool 4 w' w.heap.size (fun k_ => some k_ ≠ (s_.2.2 : Value).ownBlock) s_.2.1 y736) ∧ (Kd.R Kd.bool 4 w' w.heap.size (fun k_ => some k_ ≠ (s_.2.1 : Value).ownBlock) s_.2.2 y739) ∧ (w'.heap[gb727]? = some (.cells #[.string (⟨#[]⟩ : ByteArray),.slice none 0 0,.slice none 0 0,.slice none 0 0,.int .i64 0,.int .i64 0] 50 (0,0))) ∧ (Below w.heap.size w w')) ?_ ?_
         rotate_left
         ·intro hJ1_6_9
          refine join_ (σ:=Value × Value) 5 #[true,true,true,true,true,true,false,true,true,false,false,false,false] (fun s_ => [(16,s_.1),(18,s_.2)]) (fun s_ w' => (Kd.R (Kd.int .i64) 3 w' w.heap.size (fun _ => True) s_.2 y733) ∧ (w'.heap[gb727]? = some (.cells #[.string (⟨#[]⟩ : ByteArray),.slice none 0 0,.slice none 0 0,.slice none 0 0,.int .i64 0,.int .i64 0] 50 (0,0))) ∧ (Below w.heap.size w w')) ?_ ?_
          rotate_left
          ·intro hJ1_3
           refine join_ (σ:=Value × Value) 5 #[true,true,true,false,true,true,true,true,true,false,false,false,false] (fun s_ => [(16,s_.1),(21,s_.2)]) (fun s_ w' => (Kd.R (Kd.int .i64) 3 w' w.heap.size (fun _ => True) s_.1 y730) ∧ (Kd.R Kd.bool 4 w' w.heap.size (fun _ => True) s_.2 y736) ∧ (w'.heap[gb727]? = some (.cells #[.string (⟨#[]⟩ : ByteArray),.slice none 0 0,.slice none 0 0,.slice none 0 0,.int .i64 0,.int .i64 0] 50 (0,0))) ∧ (Below w.heap.size w w')) ?_ ?_
           rotate_left
           ·intro hJ1_6
            refine join_ (σ:=Value × Value) 5 #[true,true,true,false,true,true,false,true,true,true,false,false,false] (fun s_ => [(16,s_.1),(24,s_.2)]) (fun s_ w' => (Kd.R (Kd.int .i64) 3 w' w.heap.size (fun _ => True) s_.1 y730) ∧ (Kd.R Kd.bool 4 w' w.heap.size (fun _ => True) s_.2 y739) ∧ (w'.heap[gb727]? = some (.cells #[.string (⟨#[]⟩ : ByteArray),.slice none 0 0,.slice none 0 0,.slice none 0 0,.int .i64 0,.int .i64 0] 50 (0,0))) ∧ (Below w.heap.size w w')) ?_ ?_
            rotate_left
            ·intro hJ1_9
             refine join_ (σ:=Value × Value) 5 #[true,false,true,false,true,true,true,true,true,true,false,false,false] (fun s_ => [(21,s_.1),(24,s_.2)]) (fun s_ w' => (Kd.R Kd.bool 4 w' w.heap.size (fun k_ => some k_ ≠ (s_.2 : Value).ownBlock) s_.1 y736) ∧ (Kd.R Kd.bool 4 w' w.heap.size (fun k_ => some k_ ≠ (s_.1 : Value).ownBlock) s_.2 y739) ∧ (w'.heap[gb727]? = some (.cells #[.string (⟨#[]⟩ : ByteArray),.slice none 0 0,.slice none 0 0,.slice none 0 0,.int .i64 0,.int .i64 0] 50 (0,0))) ∧ (Below w.heap.size w w')) ?_ ?_
             rotate_left
             ·intro hJ6_9
              refine join_ (σ:=Value) 6 #[true,true,true,false,true,true,false,true,true,false,false,false,false] (fun s_ => [(16,s_)]) (fun s_ w' => (Kd.R (Kd.int .i64) 3 w' w.heap.size (fun _ => True) s_ y730) ∧ (w'.heap[gb727]? = some (.cells #[.string (⟨#[]⟩ : ByteArray),.slice none 0 0,.slice none 0 0,.slice none 0 0,.int .i64 0,.int .i64 0] 50 (0,0))) ∧ (Below w.heap.size w w')) ?_ ?_
              rotate_left
              ·intro hJ1
               refine join_ (σ:=Value) 6 #[true,false,true,false,true,true,true,true,true,false,false,false,false] (fun s_ => [(21,s_)]) (fun s_ w' => (Kd.R Kd.bool 4 w' w.heap.size (fun _ => True) s_ y736) ∧ (w'.heap[gb727]? = some (.cells #[.string (⟨#[]⟩ : ByteArray),.slice none 0 0,.slice none 0 0,.slice none 0 0,.int .i64 0,.int .i64 0] 50 (0,0))) ∧ (Below w.heap.size w w')) ?_ ?_
               rotate_left
               ·intro hJ6
                refine join_ (σ:=Value) 6 #[true,false,true,false,true,true,false,true,true,true,false,false,false] (fun s_ => [(24,s_)]) (fun s_ w' => (Kd.R Kd.bool 4 w' w.heap.size (fun _ => True) s_ y739) ∧ (w'.heap[gb727]? = some (.cells #[.string (⟨#[]⟩ : ByteArray),.slice none 0 0,.slice none 0 0,.slice none 0 0,.int .i64 0,.int .i64 0] 50 (0,0))) ∧ (Below w.heap.size w w')) ?_ ?_
                rotate_left
                ·intro hJ9
                 refine three_ (i:=1) (j:=6) (k:=9) (Ni:=some 16) (Nj:=some 21) (Nk:=some 24) #[true,true,true,false,true,true,false,true,true,false,false,false,false] #[true,false,true,false,true,true,true,true,true,false,false,false,false] #[true,false,true,false,true,true,false,true,true,true,false,false,false] rfl rfl rfl rfl rfl rfl (three_of HT_.out (by kernel_rfl)) (by decide) (by decide) (by decide) (fun K hK => ?_) (fun K hK => ?_) (fun K hK => ?_)
                 ·skip
                  refine Kd.R_lit_step (Kd.int .i64) _ 3 ?hg (N:=16) ?hd (xs:=([] : List Int)) (inner:=[]) (ok:=fun _ => True) (okp:=fun _ => True) ?hr ?hp (fun _ hk => hk) trivial (Below.refl _ _) (Nat.le_refl _) (by simp) ?_;(case hd => rfl);(case hg => rfl);(case hr => first | (go_simp;done) | (go_simp;rfl));(case hp => exact (Reps.none _ _))
                  intro v731 w12 ho13 hb hg_ hnew_
                  clear hg_ hnew_
                  (first | rw [← Ny730.out] at ho13 | (simp only [Int.reduceToNat] at ho13;rw [← Ny730.out] at ho13))
                  have HO732:=Aside0.mk (Kd.R_lower ho13 (below_size (hbx HB)))
                  replace BK727:=bkB BK727 hb
                  replace HB:=hbS HB hb
                  clear hb ho13
                  refine hK.out _ _ trivial (fun hHeld => ?_)
                  clear hK K
                  refine nrm (some 16) ?_
                  exact npu (hJ1 (v731) _ ⟨(ro HO732),(bk BK727),(hbx HB)⟩)
                 ·skip
                  refine Kd.R_make_step Kd.bool _ 4 (by rfl) (N:=21) rfl 22 _ _ rfl (l1.length : Int) rfl rfl Try.underlying22 (.bool false) 1 info4 rfl (by decide) (by omega) false (ok:=fun _ => True) (okp:=fun _ => True) rfl (fun _ hk => hk) trivial (pos_) (Nat.le_trans (Nat.mul_le_mul_right _ (pos_ : (l1.length : Int).toNat ≤ 281474976710656)) (by omega)) (Below.refl _ _) (Nat.le_refl _) ?_
                  intro v737 w12 ho13 hb hg_ hnew_
                  clear hg_ hnew_
                  (first | rw [← Ny736.out] at ho13 | (simp only [Int.reduceToNat] at ho13;rw [← Ny736.out] at ho13))
                  have HO738:=Aside0.mk (Kd.R_lower ho13 (below_size (hbx HB)))
                  replace BK727:=bkB BK727 hb
                  replace HB:=hbS HB hb
                  clear hb ho13
                  refine hK.out _ _ trivial (fun hHeld => ?_)
                  clear hK K
                  refine nrm (some 21) ?_
                  exact npu (hJ6 (v737) _ ⟨(ro HO738),(bk BK727),(hbx HB)⟩)
                 ·skip
                  refine Kd.R_make_step Kd.bool _ 4 (by rfl) (N:=24) rfl 22 _ _ rfl (l1.length : Int) rfl rfl Try.underlying22 (.bool false) 1 info4 rfl (by decide) (by omega) false (ok:=fun _ => True) (okp:=fun _ => True) rfl (fun _ hk => hk) trivial (pos_) (Nat.le_trans (Nat.mul_le_mul_right _ (pos_ : (l1.length : Int).toNat ≤ 281474976710656)) (by omega)) (Below.refl _ _) (Nat.le_refl _) ?_
                  intro v740 w12 ho13 hb hg_ hnew_
                  clear hg_ hnew_
                  (first | rw [← Ny739.out] at ho13 | (simp only [Int.reduceToNat] at ho13;rw [← Ny739.out] at ho13))
                  have HO741:=Aside0.mk (Kd.R_lower ho13 (below_size (hbx HB)))
                  replace BK727:=bkB BK727 hb
                  replace HB:=hbS HB hb
                  clear hb ho13
                  refine hK.out _ _ trivial (fun hHeld => ?_)
                  clear hK K
                  refine nrm (some 24) ?_
                  exact npu (hJ9 (v740) _ ⟨(ro HO741),(bk BK727),(hbx HB)⟩)
                ·skip
                 rintro v740 w14 ⟨h0_,h1_,h2_⟩
                 have n0_ : Aside0 (Kd.R Kd.bool 4 w14 w.heap.size (fun _ => True) v740 y739):=⟨h0_⟩
                 have n1_ : Aside0 (w14.heap[gb727]? = some (.cells #[.string (⟨#[]⟩ : ByteArray),.slice none 0 0,.slice none 0 0,.slice none 0 0,.int .i64 0,.int .i64 0] 50 (0,0))):=⟨h1_⟩
                 have n2_ : Aside0 (Below w.heap.size w w14):=⟨h2_⟩
                 clear BK727
                 clear HB
                 clear h0_ h1_ h2_
                 have HO741:=n0_
                 have BK727:=n1_
                 have HB:=n2_
                 clear n0_ n1_ n2_
                 have hHeld:=trivial
                 refine norm_ (a':=?_) ?_ ?_
                 rotate_left
                 ·simp only [putAll,Act.put,List.setIfInBounds_toArray,List.set_cons_zero,List.set_cons_succ]
                  rfl
                 refine two_ (i:=1) (j:=6) (Ni:=some 16) (Nj:=some 21) #[true,true,true,false,true,true,false,true,true,true,false,false,false] #[true,false,true,false,true,true,true,true,true,true,false,false,false] rfl rfl rfl rfl (two_of HT_.out (by kernel_rfl)) (by decide) (by decide) (fun K hK => ?_) (fun K hK => ?_)
                 ·skip
                  refine Kd.R_lit_step (Kd.int .i64) _ 3 ?hg (N:=16) ?hd (xs:=([] : List Int)) (inner:=[]) (ok:=fun _ => True) (okp:=fun _ => True) ?hr ?hp (fun _ hk => hk) trivial (Below.refl _ _) (Nat.le_refl _) (by simp) ?_;(case hd => rfl);(case hg => rfl);(case hr => first | (go_simp;done) | (go_simp;rfl));(case hp => exact (Reps.none _ _))
                  intro v731 w15 ho16 hb hg_ hnew_
                  clear hg_ hnew_
                  (first | rw [← Ny730.out] at ho16 | (simp only [Int.reduceToNat] at ho16;rw [← Ny730.out] at ho16))
                  replace HO741:=rB HO741 hb
                  have HO732:=Aside0.mk (Kd.R_lower ho16 (below_size (hbx HB)))
                  replace BK727:=bkB BK727 hb
                  replace HB:=hbS HB hb
                  clear hb ho16
                  refine hK.out _ _ trivial (fun hHeld => ?_)
                  clear hK K
                  refine nrm (some 16) ?_
                  exact npu (hJ1_9 (v731,v740) _ ⟨(ro HO732),(ro HO741),(bk BK727),(hbx HB)⟩)
                 ·skip
                  refine Kd.R_make_step Kd.bool _ 4 (by rfl) (N:=21) rfl 22 _ _ rfl (l1.length : Int) rfl rfl Try.underlying22 (.bool false) 1 info4 rfl (by decide) (by omega) false (ok:=fun _ => True) (okp:=fun _ => True) rfl (fun _ hk => hk) trivial (pos_) (Nat.le_trans (Nat.mul_le_mul_right _ (pos_ : (l1.length : Int).toNat ≤ 281474976710656)) (by omega)) (Below.refl _ _) (Nat.le_refl _) ?_
                  intro v737 w15 ho16 hb hg_ hnew_
                  clear hg_ hnew_
                  (first | rw [← Ny736.out] at ho16 | (simp only [Int.reduceToNat] at ho16;rw [← Ny736.out] at ho16))
                  have HO738:=Aside0.mk (Kd.R_lower (Kd.R_new' ho16 (Kd.R_lt (ro HO741))) (below_size (hbx HB)))
                  replace HO741:=Aside0.mk (Kd.R_elder' (ro HO741) (Kd.R_base ho16) hb)
                  replace BK727:=bkB BK727 hb
                  replace HB:=hbS HB hb
                  clear hb ho16
                  refine hK.out _ _ trivial (fun hHeld => ?_)
                  clear hK K
                  refine nrm (some 21) ?_
                  exact npu (hJ6_9 (v737,v740) _ ⟨(by (with_reducible repeat (first | apply Kd.R_alloc | apply Kd.R_drewN | apply Kd.R_drew));exact Kd.R_mono HO738.out (fun _ hk => hk.2)),(by (with_reducible repeat (first | apply Kd.R_alloc | apply Kd.R_drewN | apply Kd.R_drew));exact Kd.R_mono HO741.out (fun _ hk => hk.2)),(bk BK727),(hbx HB)⟩)
               ·skip
                rintro v737 w14 ⟨h0_,h1_,h2_⟩
                have n0_ : Aside0 (Kd.R Kd.bool 4 w14 w.heap.size (fun _ => True) v737 y736):=⟨h0_⟩
                have n1_ : Aside0 (w14.heap[gb727]? = some (.cells #[.string (⟨#[]⟩ : ByteArray),.slice none 0 0,.slice none 0 0,.slice none 0 0,.int .i64 0,.int .i64 0] 50 (0,0))):=⟨h1_⟩
                have n2_ : Aside0 (Below w.heap.size w w14):=⟨h2_⟩
                clear BK727
                clear HB
                clear h0_ h1_ h2_
                have HO738:=n0_
                have BK727:=n1_
                have HB:=n2_
                clear n0_ n1_ n2_
                have hHeld:=trivial
                refine norm_ (a':=?_) ?_ ?_
                rotate_left
                ·simp only [putAll,Act.put,List.setIfInBounds_toArray,List.set_cons_zero,List.set_cons_succ]
                 rfl
                refine two_ (i:=1) (j:=9) (Ni:=some 16) (Nj:=some 24) #[true,true,true,false,true,true,true,true,true,false,false,false,false] #[true,false,true,false,true,true,true,true,true,true,false,false,false] rfl rfl rfl rfl (two_of HT_.out (by kernel_rfl)) (by decide) (by decide) (fun K hK => ?_) (fun K hK => ?_)
                ·skip
                 refine Kd.R_lit_step (Kd.int .i64) _ 3 ?hg (N:=16) ?hd (xs:=([] : List Int)) (inner:=[]) (ok:=fun _ => True) (okp:=fun _ => True) ?hr ?hp (fun _ hk => hk) trivial (Below.refl _ _) (Nat.le_refl _) (by simp) ?_;(case hd => rfl);(case hg => rfl);(case hr => first | (go_simp;done) | (go_simp;rfl));(case hp => exact (Reps.none _ _))
                 intro v731 w15 ho16 hb hg_ hnew_
                 clear hg_ hnew_
                 (first | rw [← Ny730.out] at ho16 | (simp only [Int.reduceToNat] at ho16;rw [← Ny730.out] at ho16))
                 replace HO738:=rB HO738 hb
                 have HO732:=Aside0.mk (Kd.R_lower ho16 (below_size (hbx HB)))
                 replace BK727:=bkB BK727 hb
                 replace HB:=hbS HB hb
                 clear hb ho16
                 refine hK.out _ _ trivial (fun hHeld => ?_)
                 clear hK K
                 refine nrm (some 16) ?_
                 exact npu (hJ1_6 (v731,v737) _ ⟨(ro HO732),(ro HO738),(bk BK727),(hbx HB)⟩)
                ·skip
                 refine Kd.R_make_step Kd.bool _ 4 (by rfl) (N:=24) rfl 22 _ _ rfl (l1.length : Int) rfl rfl Try.underlying22 (.bool false) 1 info4 rfl (by decide) (by omega) false (ok:=fun _ => True) (okp:=fun _ => True) rfl (fun _ hk => hk) trivial (pos_) (Nat.le_trans (Nat.mul_le_mul_right _ (pos_ : (l1.length : Int).toNat ≤ 281474976710656)) (by omega)) (Below.refl _ _) (Nat.le_refl _) ?_
                 intro v740 w15 ho16 hb hg_ hnew_
                 clear hg_ hnew_
                 (first | rw [← Ny739.out] at ho16 | (simp only [Int.reduceToNat] at ho16;rw [← Ny739.out] at ho16))
                 have HO741:=Aside0.mk (Kd.R_lower (Kd.R_new' ho16 (Kd.R_lt (ro HO738))) (below_size (hbx HB)))
                 replace HO738:=Aside0.mk (Kd.R_elder' (ro HO738) (Kd.R_base ho16) hb)
                 replace BK727:=bkB BK727 hb
                 replace HB:=hbS HB hb
                 clear hb ho16
                 refine hK.out _ _ trivial (fun hHeld => ?_)
                 clear hK K
                 refine nrm (some 24) ?_
                 exact npu (hJ6_9 (v737,v740) _ ⟨(by (with_reducible repeat (first | apply Kd.R_alloc | apply Kd.R_drewN | apply Kd.R_drew));exact Kd.R_mono HO738.out (fun _ hk => hk.2)),(by (with_reducible repeat (first | apply Kd.R_alloc | apply Kd.R_drewN | apply Kd.R_drew));exact Kd.R_mono HO741.out (fun _ hk => hk.2)),(bk BK727),(hbx HB)⟩)
              ·skip
               rintro v731 w14 ⟨h0_,h1_,h2_⟩
               have n0_ : Aside0 (Kd.R (Kd.int .i64) 3 w14 w.heap.size (fun _ => True) v731 y730):=⟨h0_⟩
               have n1_ : Aside0 (w14.heap[gb727]? = some (.cells #[.string (⟨#[]⟩ : ByteArray),.slice none 0 0,.slice none 0 0,.slice none 0 0,.int .i64 0,.int .i64 0] 50 (0,0))):=⟨h1_⟩
               have n2_ : Aside0 (Below w.heap.size w w14):=⟨h2_⟩
               clear BK727
               clear HB
               clear h0_ h1_ h2_
               have HO732:=n0_
               have BK727:=n1_
               have HB:=n2_
               clear n0_ n1_ n2_
               have hHeld:=trivial
               refine norm_ (a':=?_) ?_ ?_
               rotate_left
               ·simp only [putAll,Act.put,List.setIfInBounds_toArray,List.set_cons_zero,List.set_cons_succ]
                rfl
               refine three_ (i:=3) (j:=6) (k:=9) (Ni:=some 18) (Nj:=some 21) (Nk:=some 24) #[true,true,true,true,true,true,false,true,true,false,false,false,false] #[true,true,true,false,true,true,true,true,true,false,false,false,false] #[true,true,true,false,true,true,false,true,true,true,false,false,false] rfl rfl rfl rfl rfl rfl (three_of HT_.out (by kernel_rfl)) (by decide) (by decide) (by decide) (fun K hK => ?_) (fun K hK => ?_) (fun K hK => ?_)
               ·skip
                refine Kd.R_append_rows_step (Kd.int .i64) (w0:=w) w.heap.size (by rfl) (.tmp 16) (.tmp 17) 34 3 (.int .i64 0) 8 rfl Try.underlying34 info3 rfl (by decide) (by omega) v731 y730 l1 _ _ _ (fun _ => True) (fun _ => False) rfl rfl ?aO ?aR (fun _ _ h => h) (fun _ h => h.elim) ?aF ?aB ?aS ?aL ?_
                (case aR => repeat (first | exact (Kd.C_below HR1.out HB.out) | (with_reducible refine Kd.C_alloc ?_ _) | (with_reducible refine Kd.C_drewN ?_ _) | (with_reducible refine Kd.C_drew ?_)))
                (case aB => exact (hbx HB))
                (case aF => exact (fun _ _ => trivial))
                (case aO => exact (ro HO732))
                (case aS => exact (below_size (hbx HB)))
                (case aL => have:=LMc7.out;omega)
                intro v734 w15 ho hb hg hat
                rw [← Ny733.out] at ho
                replace BK727:=Aside0.mk (blk_grown (bk BK727) hg (Kd.R_ne HO732.out BK727.out (by decide)))
                replace HB:=Aside0.mk (hb)
                have HO735:=Aside0.mk (ho)
                clear HO732
                clear ho hb hg hat
                refine hK.out _ _ trivial (fun hHeld => ?_)
                clear hK K
                refine nrm (some 18) ?_
                exact npu (hJ1_3 (v731,v734) _ ⟨(ro HO735),(bk BK727),(hbx HB)⟩)
               ·skip
                refine Kd.R_make_step Kd.bool _ 4 (by rfl) (N:=21) rfl 22 _ _ rfl (l1.length : Int) rfl rfl Try.underlying22 (.bool false) 1 info4 rfl (by decide) (by omega) false (ok:=fun _ => True) (okp:=fun _ => True) rfl (fun _ hk => hk) trivial (pos_) (Nat.le_trans (Nat.mul_le_mul_right _ (pos_ : (l1.length : Int).toNat ≤ 281474976710656)) (by omega)) (Below.refl _ _) (Nat.le_refl _) ?_
                intro v737 w15 ho16 hb hg_ hnew_
                clear hg_ hnew_
                (first | rw [← Ny736.out] at ho16 | (simp only [Int.reduceToNat] at ho16;rw [← Ny736.out] at ho16))
                replace HO732:=rB HO732 hb
                have HO738:=Aside0.mk (Kd.R_lower ho16 (below_size (hbx HB)))
                replace BK727:=bkB BK727 hb
                replace HB:=hbS HB hb
                clear hb ho16
                refine hK.out _ _ trivial (fun hHeld => ?_)
                clear hK K
                refine nrm (some 21) ?_
                exact npu (hJ1_6 (v731,v737) _ ⟨(ro HO732),(ro HO738),(bk BK727),(hbx HB)⟩)
               ·skip
                refine Kd.R_make_step Kd.bool _ 4 (by rfl) (N:=24) rfl 22 _ _ rfl (l1.length : Int) rfl rfl Try.underlying22 (.bool false) 1 info4 rfl (by decide) (by omega) false (ok:=fun _ => True) (okp:=fun _ => True) rfl (fun _ hk => hk) trivial (pos_) (Nat.le_trans (Nat.mul_le_mul_right _ (pos_ : (l1.length : Int).toNat ≤ 281474976710656)) (by omega)) (Below.refl _ _) (Nat.le_refl _) ?_
                intro v740 w15 ho16 hb hg_ hnew_
                clear hg_ hnew_
                (first | rw [← Ny739.out] at ho16 | (simp only [Int.reduceToNat] at ho16;rw [← Ny739.out] at ho16))
                replace HO732:=rB HO732 hb
                have HO741:=Aside0.mk (Kd.R_lower ho16 (below_size (hbx HB)))
                replace BK727:=bkB BK727 hb
                replace HB:=hbS HB hb
                clear hb ho16
                refine hK.out _ _ trivial (fun hHeld => ?_)
                clear hK K
                refine nrm (some 24) ?_
                exact npu (hJ1_9 (v731,v740) _ ⟨(ro HO732),(ro HO741),(bk BK727),(hbx HB)⟩)
             ·skip
              rintro ⟨v737,v740⟩ w16 ⟨h0_,h1_,h2_,h3_⟩
              have n0_ : Aside0 (Kd.R Kd.bool 4 w16 w.heap.size (fun k_ => some k_ ≠ (v740 : Value).ownBlock) v737 y736):=⟨h0_⟩
              have n1_ : Aside0 (Kd.R Kd.bool 4 w16 w.heap.size (fun k_ => some k_ ≠ (v737 : Value).ownBlock) v740 y739):=⟨h1_⟩
              have n2_ : Aside0 (w16.heap[gb727]? = some (.cells #[.string (⟨#[]⟩ : ByteArray),.slice none 0 0,.slice none 0 0,.slice none 0 0,.int .i64 0,.int .i64 0] 50 (0,0))):=⟨h2_⟩
              have n3_ : Aside0 (Below w.heap.size w w16):=⟨h3_⟩
              clear BK727
              clear HB
              clear h0_ h1_ h2_ h3_
              have HO738:=n0_
              have HO741:=n1_
              have BK727:=n2_
              have HB:=n3_
              clear n0_ n1_ n2_ n3_
              have hHeld:=trivial
              refine norm_ (a':=?_) ?_ ?_
              rotate_left
              ·simp only [putAll,Act.put,List.setIfInBounds_toArray,List.set_cons_zero,List.set_cons_succ]
               rfl
              refine one_ (i:=1) (N:=some 16) #[true,true,true,false,true,true,true,true,true,true,false,false,false] rfl rfl (one_of HT_.out (by kernel_rfl)) (by decide) (fun K hK => ?_)
              refine Kd.R_lit_step (Kd.int .i64) _ 3 ?hg (N:=16) ?hd (xs:=([] : List Int)) (inner:=[]) (ok:=fun _ => True) (okp:=fun _ => True) ?hr ?hp (fun _ hk => hk) trivial (Below.refl _ _) (Nat.le_refl _) (by simp) ?_;(case hd => rfl);(case hg => rfl);(case hr => first | (go_simp;done) | (go_simp;rfl));(case hp => exact (Reps.none _ _))
              intro v731 w17 ho18 hb hg_ hnew_
              clear hg_ hnew_
              (first | rw [← Ny730.out] at ho18 | (simp only [Int.reduceToNat] at ho18;rw [← Ny730.out] at ho18))
              replace HO738:=rB HO738 hb
              replace HO741:=rB HO741 hb
              have HO732:=Aside0.mk (Kd.R_lower ho18 (below_size (hbx HB)))
              replace BK727:=bkB BK727 hb
              replace HB:=hbS HB hb
              clear hb ho18
              refine hK.out _ _ trivial (fun hHeld => ?_)
              clear hK K
              refine nrm (some 16) ?_
              exact npu (hJ1_6_9 (v731,v737,v740) _ ⟨(ro HO732),(ro HO738),(ro HO741),(bk BK727),(hbx HB)⟩)
            ·skip
             rintro ⟨v731,v740⟩ w16 ⟨h0_,h1_,h2_,h3_⟩
             have n0_ : Aside0 (Kd.R (Kd.int .i64) 3 w16 w.heap.size (fun _ => True) v731 y730):=⟨h0_⟩
             have n1_ : Aside0 (Kd.R Kd.bool 4 w16 w.heap.size (fun _ => True) v740 y739):=⟨h1_⟩
             have n2_ : Aside0 (w16.heap[gb727]? = some (.cells #[.string (⟨#[]⟩ : ByteArray),.slice none 0 0,.slice none 0 0,.slice none 0 0,.int .i64 0,.int .i64 0] 50 (0,0))):=⟨h2_⟩
             have n3_ : Aside0 (Below w.heap.size w w16):=⟨h3_⟩
             clear BK727
             clear HB
             clear h0_ h1_ h2_ h3_
             have HO732:=n0_
             have HO741:=n1_
             have BK727:=n2_
             have HB:=n3_
             clear n0_ n1_ n2_ n3_
             have hHeld:=trivial
             refine norm_ (a':=?_) ?_ ?_
             rotate_left
             ·simp only [putAll,Act.put,List.setIfInBounds_toArray,List.set_cons_zero,List.set_cons_succ]
              rfl
             refine two_ (i:=3) (j:=6) (Ni:=some 18) (Nj:=some 21) #[true,true,true,true,true,true,false,true,true,true,false,false,false] #[true,true,true,false,true,true,true,true,true,true,false,false,false] rfl rfl rfl rfl (two_of HT_.out (by kernel_rfl)) (by decide) (by decide) (fun K hK => ?_) (fun K hK => ?_)
             ·skip
              refine Kd.R_append_rows_step (Kd.int .i64) (w0:=w) w.heap.size (by rfl) (.tmp 16) (.tmp 17) 34 3 (.int .i64 0) 8 rfl Try.underlying34 info3 rfl (by decide) (by omega) v731 y730 l1 _ _ _ (fun _ => True) (fun _ => False) rfl rfl ?aO ?aR (fun _ _ h => h) (fun _ h => h.elim) ?aF ?aB ?aS ?aL ?_
              (case aR => repeat (first | exact (Kd.C_below HR1.out HB.out) | (with_reducible refine Kd.C_alloc ?_ _) | (with_reducible refine Kd.C_drewN ?_ _) | (with_reducible refine Kd.C_drew ?_)))
              (case aB => exact (hbx HB))
              (case aF => exact (fun _ _ => trivial))
              (case aO => exact (ro HO732))
              (case aS => exact (below_size (hbx HB)))
              (case aL => have:=LMc7.out;omega)
              intro v734 w17 ho hb hg hat
              rw [← Ny733.out] at ho
              replace BK727:=Aside0.mk (blk_grown (bk BK727) hg (Kd.R_ne HO732.out BK727.out (by decide)))
              replace HO741:=Aside0.mk (Kd.R_over' (ro HO741) (Kd.R_typed (ro HO732)) (by decide) hg)
              replace HB:=Aside0.mk (hb)
              have HO735:=Aside0.mk (ho)
              clear HO732
              clear ho hb hg hat
              refine hK.out _ _ trivial (fun hHeld => ?_)
              clear hK K
              refine nrm (some 18) ?_
              exact npu (hJ1_3_9 (v731,v734,v740) _ ⟨(ro HO735),(ro HO741),(bk BK727),(hbx HB)⟩)
             ·skip
              refine Kd.R_make_step Kd.bool _ 4 (by rfl) (N:=21) rfl 22 _ _ rfl (l1.length : Int) rfl rfl Try.underlying22 (.bool false) 1 info4 rfl (by decide) (by omega) false (ok:=fun _ => True) (okp:=fun _ => True) rfl (fun _ hk => hk) trivial (pos_) (Nat.le_trans (Nat.mul_le_mul_right _ (pos_ : (l1.length : Int).toNat ≤ 281474976710656)) (by omega)) (Below.refl _ _) (Nat.le_refl _) ?_
              intro v737 w17 ho18 hb hg_ hnew_
              clear hg_ hnew_
              (first | rw [← Ny736.out] at ho18 | (simp only [Int.reduceToNat] at ho18;rw [← Ny736.out] at ho18))
              replace HO732:=rB HO732 hb
              have HO738:=Aside0.mk (Kd.R_lower (Kd.R_new' ho18 (Kd.R_lt (ro HO741))) (below_size (hbx HB)))
              replace HO741:=Aside0.mk (Kd.R_elder' (ro HO741) (Kd.R_base ho18) hb)
              replace BK727:=bkB BK727 hb
              replace HB:=hbS HB hb
              clear hb ho18
              refine hK.out _ _ trivial (fun hHeld => ?_)
              clear hK K
              refine nrm (some 21) ?_
              exact npu (hJ1_6_9 (v731,v737,v740) _ ⟨(ro HO732),(by (with_reducible repeat (first | apply Kd.R_alloc | apply Kd.R_drewN | apply Kd.R_drew));exact Kd.R_mono HO738.out (fun _ hk => hk.2)),(by (with_reducible repeat (first | apply Kd.R_alloc | apply Kd.R_drewN | apply Kd.R_drew));exact Kd.R_mono HO741.out (fun _ hk => hk.2)),(bk BK727),(hbx HB)⟩)
           ·skip
            rintro ⟨v731,v737⟩ w16 ⟨h0_,h1_,h2_,h3_⟩
            have n0_ : Aside0 (Kd.R (Kd.int .i64) 3 w16 w.heap.size (fun _ => True) v731 y730):=⟨h0_⟩
            have n1_ : Aside0 (Kd.R Kd.bool 4 w16 w.heap.size (fun _ => True) v737 y736):=⟨h1_⟩
            have n2_ : Aside0 (w16.heap[gb727]? = some (.cells #[.string (⟨#[]⟩ : ByteArray),.slice none 0 0,.slice none 0 0,.slice none 0 0,.int .i64 0,.int .i64 0] 50 (0,0))):=⟨h2_⟩
            have n3_ : Aside0 (Below w.heap.size w w16):=⟨h3_⟩
            clear BK727
            clear HB
            clear h0_ h1_ h2_ h3_
            have HO732:=n0_
            have HO738:=n1_
            have BK727:=n2_
            have HB:=n3_
            clear n0_ n1_ n2_ n3_
            have hHeld:=trivial
            refine norm_ (a':=?_) ?_ ?_
            rotate_left
            ·simp only [putAll,Act.put,List.setIfInBounds_toArray,List.set_cons_zero,List.set_cons_succ]
             rfl
            refine two_ (i:=3) (j:=9) (Ni:=some 18) (Nj:=some 24) #[true,true,true,true,true,true,true,true,true,false,false,false,false] #[true,true,true,false,true,true,true,true,true,true,false,false,false] rfl rfl rfl rfl (two_of HT_.out (by kernel_rfl)) (by decide) (by decide) (fun K hK => ?_) (fun K hK => ?_)
            ·skip
             refine Kd.R_append_rows_step (Kd.int .i64) (w0:=w) w.heap.size (by rfl) (.tmp 16) (.tmp 17) 34 3 (.int .i64 0) 8 rfl Try.underlying34 info3 rfl (by decide) (by omega) v731 y730 l1 _ _ _ (fun _ => True) (fun _ => False) rfl rfl ?aO ?aR (fun _ _ h => h) (fun _ h => h.elim) ?aF ?aB ?aS ?aL ?_
             (case aR => repeat (first | exact (Kd.C_below HR1.out HB.out) | (with_reducible refine Kd.C_alloc ?_ _) | (with_reducible refine Kd.C_drewN ?_ _) | (with_reducible refine Kd.C_drew ?_)))
             (case aB => exact (hbx HB))
             (case aF => exact (fun _ _ => trivial))
             (case aO => exact (ro HO732))
             (case aS => exact (below_size (hbx HB)))
             (case aL => have:=LMc7.out;omega)
             intro v734 w17 ho hb hg hat
             rw [← Ny733.out] at ho
             replace BK727:=Aside0.mk (blk_grown (bk BK727) hg (Kd.R_ne HO732.out BK727.out (by decide)))
             replace HO738:=Aside0.mk (Kd.R_over' (ro HO738) (Kd.R_typed (ro HO732)) (by decide) hg)
             replace HB:=Aside0.mk (hb)
             have HO735:=Aside0.mk (ho)
             clear HO732
             clear ho hb hg hat
             refine hK.out _ _ trivial (fun hHeld => ?_)
             clear hK K
             refine nrm (some 18) ?_
             exact npu (hJ1_3_6 (v731,v734,v737) _ ⟨(ro HO735),(ro HO738),(bk BK727),(hbx HB)⟩)
            ·skip
             refine Kd.R_make_step Kd.bool _ 4 (by rfl) (N:=24) rfl 22 _ _ rfl (l1.length : Int) rfl rfl Try.underlying22 (.bool false) 1 info4 rfl (by decide) (by omega) false (ok:=fun _ => True) (okp:=fun _ => True) rfl (fun _ hk => hk) trivial (pos_) (Nat.le_trans (Nat.mul_le_mul_right _ (pos_ : (l1.length : Int).toNat ≤ 281474976710656)) (by omega)) (Below.refl _ _) (Nat.le_refl _) ?_
             intro v740 w17 ho18 hb hg_ hnew_
             clear hg_ hnew_
             (first | rw [← Ny739.out] at ho18 | (simp only [Int.reduceToNat] at ho18;rw [← Ny739.out] at ho18))
             replace HO732:=rB HO732 hb
             have HO741:=Aside0.mk (Kd.R_lower (Kd.R_new' ho18 (Kd.R_lt (ro HO738))) (below_size (hbx HB)))
             replace HO738:=Aside0.mk (Kd.R_elder' (ro HO738) (Kd.R_base ho18) hb)
             replace BK727:=bkB BK727 hb
             replace HB:=hbS HB hb
             clear hb ho18
             refine hK.out _ _ trivial (fun hHeld => ?_)
             clear hK K
             refine nrm (some 24) ?_
             exact npu (hJ1_6_9 (v731,v737,v740) _ ⟨(ro HO732),(by (with_reducible repeat (first | apply Kd.R_alloc | apply Kd.R_drewN | apply Kd.R_drew));exact Kd.R_mono HO738.out (fun _ hk => hk.2)),(by (with_reducible repeat (first | apply Kd.R_alloc | apply Kd.R_drewN | apply Kd.R_drew));exact Kd.R_mono HO741.out (fun _ hk => hk.2)),(bk BK727),(hbx HB)⟩)
          ·skip
           rintro ⟨v731,v734⟩ w15 ⟨h0_,h1_,h2_⟩
           have n0_ : Aside0 (Kd.R (Kd.int .i64) 3 w15 w.heap.size (fun _ => True) v734 y733):=⟨h0_⟩
           have n1_ : Aside0 (w15.heap[gb727]? = some (.cells #[.string (⟨#[]⟩ : ByteArray),.slice none 0 0,.slice none 0 0,.slice none 0 0,.int .i64 0,.int .i64 0] 50 (0,0))):=⟨h1_⟩
           have n2_ : Aside0 (Below w.heap.size w w15):=⟨h2_⟩
           clear BK727
           clear HB
           clear h0_ h1_ h2_
           have HO735:=n0_
           have BK727:=n1_
           have HB:=n2_
           clear n0_ n1_ n2_
           have hHeld:=trivial
           refine norm_ (a':=?_) ?_ ?_
           rotate_left
           ·simp only [putAll,Act.put,List.setIfInBounds_toArray,List.set_cons_zero,List.set_cons_succ]
            rfl
           refine two_ (i:=6) (j:=9) (Ni:=some 21) (Nj:=some 24) #[true,true,true,true,true,true,true,true,true,false,false,false,false] #[true,true,true,true,true,true,false,true,true,true,false,false,false] rfl rfl rfl rfl (two_of HT_.out (by kernel_rfl)) (by decide) (by decide) (fun K hK => ?_) (fun K hK => ?_)
           ·skip
            refine Kd.R_make_step Kd.bool _ 4 (by rfl) (N:=21) rfl 22 _ _ rfl (l1.length : Int) rfl rfl Try.underlying22 (.bool false) 1 info4 rfl (by decide) (by omega) false (ok:=fun _ => True) (okp:=fun _ => True) rfl (fun _ hk => hk) trivial (pos_) (Nat.le_trans (Nat.mul_le_mul_right _ (pos_ : (l1.length : Int).toNat ≤ 281474976710656)) (by omega)) (Below.refl _ _) (Nat.le_refl _) ?_
            intro v737 w16 ho17 hb hg_ hnew_
            clear hg_ hnew_
            (first | rw [← Ny736.out] at ho17 | (simp only [Int.reduceToNat] at ho17;rw [← Ny736.out] at ho17))
            replace HO735:=rB HO735 hb
            have HO738:=Aside0.mk (Kd.R_lower ho17 (below_size (hbx HB)))
            replace BK727:=bkB BK727 hb
            replace HB:=hbS HB hb
            clear hb ho17
            refine hK.out _ _ trivial (fun hHeld => ?_)
            clear hK K
            refine nrm (some 21) ?_
            exact npu (hJ1_3_6 (v731,v734,v737) _ ⟨(ro HO735),(ro HO738),(bk BK727),(hbx HB)⟩)
           ·skip
            refine Kd.R_make_step Kd.bool _ 4 (by rfl) (N:=24) rfl 22 _ _ rfl (l1.length : Int) rfl rfl Try.underlying22 (.bool false) 1 info4 rfl (by decide) (by omega) false (ok:=fun _ => True) (okp:=fun _ => True) rfl (fun _ hk => hk) trivial (pos_) (Nat.le_trans (Nat.mul_le_mul_right _ (pos_ : (l1.length : Int).toNat ≤ 281474976710656)) (by omega)) (Below.refl _ _) (Nat.le_refl _) ?_
            intro v740 w16 ho17 hb hg_ hnew_
            clear hg_ hnew_
            (first | rw [← Ny739.out] at ho17 | (simp only [Int.reduceToNat] at ho17;rw [← Ny739.out] at ho17))
            replace HO735:=rB HO735 hb
            have HO741:=Aside0.mk (Kd.R_lower ho17 (below_size (hbx HB)))
            replace BK727:=bkB BK727 hb
            replace HB:=hbS HB hb
            clear hb ho17
            refine hK.out _ _ trivial (fun hHeld => ?_)
            clear hK K
            refine nrm (some 24) ?_
            exact npu (hJ1_3_9 (v731,v734,v740) _ ⟨(ro HO735),(ro HO741),(bk BK727),(hbx HB)⟩)
         ·skip
          rintro ⟨v731,v737,v740⟩ w18 ⟨h0_,h1_,h2_,h3_,h4_⟩
          have n0_ : Aside0 (Kd.R (Kd.int .i64) 3 w18 w.heap.size (fun _ => True) v731 y730):=⟨h0_⟩
          have n1_ : Aside0 (Kd.R Kd.bool 4 w18 w.heap.size (fun k_ => some k_ ≠ (v740 : Value).ownBlock) v737 y736):=⟨h1_⟩
          have n2_ : Aside0 (Kd.R Kd.bool 4 w18 w.heap.size (fun k_ => some k_ ≠ (v737 : Value).ownBlock) v740 y739):=⟨h2_⟩
          have n3_ : Aside0 (w18.heap[gb727]? = some (.cells #[.string (⟨#[]⟩ : ByteArray),.slice none 0 0,.slice none 0 0,.slice none 0 0,.int .i64 0,.int .i64 0] 50 (0,0))):=⟨h3_⟩
          have n4_ : Aside0 (Below w.heap.size w w18):=⟨h4_⟩
          clear BK727
          clear HB
          clear h0_ h1_ h2_ h3_ h4_
          have HO732:=n0_
          have HO738:=n1_
          have HO741:=n2_
          have BK727:=n3_
          have HB:=n4_
          clear n0_ n1_ n2_ n3_ n4_
          have hHeld:=trivial
          refine norm_ (a':=?_) ?_ ?_
          rotate_left
          ·simp only [putAll,Act.put,List.setIfInBounds_toArray,List.set_cons_zero,List.set_cons_succ]
           rfl
          refine one_ (i:=3) (N:=some 18) #[true,true,true,true,true,true,true,true,true,true,false,false,false] rfl rfl (one_of HT_.out (by kernel_rfl)) (by decide) (fun K hK => ?_)
          refine Kd.R_append_rows_step (Kd.int .i64) (w0:=w) w.heap.size (by rfl) (.tmp 16) (.tmp 17) 34 3 (.int .i64 0) 8 rfl Try.underlying34 info3 rfl (by decide) (by omega) v731 y730 l1 _ _ _ (fun _ => True) (fun _ => False) rfl rfl ?aO ?aR (fun _ _ h => h) (fun _ h => h.elim) ?aF ?aB ?aS ?aL ?_
          (case aR => repeat (first | exact (Kd.C_below HR1.out HB.out) | (with_reducible refine Kd.C_alloc ?_ _) | (with_reducible refine Kd.C_drewN ?_ _) | (with_reducible refine Kd.C_drew ?_)))
          (case aB => exact (hbx HB))
          (case aF => exact (fun _ _ => trivial))
          (case aO => exact (ro HO732))
          (case aS => exact (below_size (hbx HB)))
          (case aL => have:=LMc7.out;omega)
          intro v734 w19 ho hb hg hat
          rw [← Ny733.out] at ho
          replace BK727:=Aside0.mk (blk_grown (bk BK727) hg (Kd.R_ne HO732.out BK727.out (by decide)))
          replace HO738:=Aside0.mk (Kd.R_over' (ro HO738) (Kd.R_typed (ro HO732)) (by decide) hg)
          replace HO741:=Aside0.mk (Kd.R_over' (ro HO741) (Kd.R_typed (ro HO732)) (by decide) hg)
          replace HB:=Aside0.mk (hb)
          have HO735:=Aside0.mk (ho)
          clear HO732
          clear ho hb hg hat
          obtain ⟨Ao20,co20,eo20⟩:=Kd.R_slice HO741.out
          (first | subst eo20 | (injection eo20 with f1_ f2_ f3_;have f4_:=f1_.symm;have f5_:=f3_.symm;clear f1_ f2_ f3_;subst f4_;subst f5_))
          obtain ⟨Ao21,co21,eo21⟩:=Kd.R_slice HO738.out
          (first | subst eo21 | (injection eo21 with f1_ f2_ f3_;have f4_:=f1_.symm;have f5_:=f3_.symm;clear f1_ f2_ f3_;subst f4_;subst f5_))
          obtain ⟨Ao22,co22,eo22⟩:=Kd.R_slice HO735.out
          (first | subst eo22 | (injection eo22 with f1_ f2_ f3_;have f4_:=f1_.symm;have f5_:=f3_.symm;clear f1_ f2_ f3_;subst f4_;subst f5_))
          refine hK.out _ _ trivial (fun hHeld => ?_)
          clear hK K
          refine nrm (some 18) ?_
          exact npu (hJ1_3_6_9 (v731,.slice Ao22 y733.length co22,.slice Ao21 y736.length co21,.slice Ao20 y739.length co20) _ ⟨(ro HO735),(ro HO738),(ro HO741),(bk BK727),(hbx HB)⟩)
        ·skip
         rintro ⟨v731,v734,v740⟩ w17 ⟨h0_,h1_,h2_,h3_⟩
         have n0_ : Aside0 (Kd.R (Kd.int .i64) 3 w17 w.heap.size (fun _ => True) v734 y733):=⟨h0_⟩
         have n1_ : Aside0 (Kd.R Kd.bool 4 w17 w.heap.size (fun _ => True) v740 y739):=⟨h1_⟩
         have n2_ : Aside0 (w17.heap[gb727]? = some (.cells #[.string (⟨#[]⟩ : ByteArray),.slice none 0 0,.slice none 0 0,.slice none 0 0,.int .i64 0,.int .i64 0] 50 (0,0))):=⟨h2_⟩
         have n3_ : Aside0 (Below w.heap.size w w17):=⟨h3_⟩
         clear BK727
         clear HB
         clear h0_ h1_ h2_ h3_
         have HO735:=n0_
         have HO741:=n1_
         have BK727:=n2_
         have HB:=n3_
         clear n0_ n1_ n2_ n3_
         have hHeld:=trivial
         refine norm_ (a':=?_) ?_ ?_
         rotate_left
         ·simp only [putAll,Act.put,List.setIfInBounds_toArray,List.set_cons_zero,List.set_cons_succ]
          rfl
         refine one_ (i:=6) (N:=some 21) #[true,true,true,true,true,true,true,true,true,true,false,false,false] rfl rfl (one_of HT_.out (by kernel_rfl)) (by decide) (fun K hK => ?_)
         refine Kd.R_make_step Kd.bool _ 4 (by rfl) (N:=21) rfl 22 _ _ rfl (l1.length : Int) rfl rfl Try.underlying22 (.bool false) 1 info4 rfl (by decide) (by omega) false (ok:=fun _ => True) (okp:=fun _ => True) rfl (fun _ hk => hk) trivial (pos_) (Nat.le_trans (Nat.mul_le_mul_right _ (pos_ : (l1.length : Int).toNat ≤ 281474976710656)) (by omega)) (Below.refl _ _) (Nat.le_refl _) ?_
         intro v737 w18 ho19 hb hg_ hnew_
         clear hg_ hnew_
         (first | rw [← Ny736.out] at ho19 | (simp only [Int.reduceToNat] at ho19;rw [← Ny736.out] at ho19))
         replace HO735:=rB HO735 hb
         have HO738:=Aside0.mk (Kd.R_lower (Kd.R_new' ho19 (Kd.R_lt (ro HO741))) (below_size (hbx HB)))
         replace HO741:=Aside0.mk (Kd.R_elder' (ro HO741) (Kd.R_base ho19) hb)
         replace BK727:=bkB BK727 hb
         replace HB:=hbS HB hb
         clear hb ho19
         obtain ⟨Ao20,co20,eo20⟩:=Kd.R_slice HO741.out
         (first | subst eo20 | (injection eo20 with f1_ f2_ f3_;have f4_:=f1_.symm;have f5_:=f3_.symm;clear f1_ f2_ f3_;subst f4_;subst f5_))
         obtain ⟨Ao21,co21,eo21⟩:=Kd.R_slice HO738.out
         (first | subst eo21 | (injection eo21 with f1_ f2_ f3_;have f4_:=f1_.symm;have f5_:=f3_.symm;clear f1_ f2_ f3_;subst f4_;subst f5_))
         obtain ⟨Ao22,co22,eo22⟩:=Kd.R_slice HO735.out
         (first | subst eo22 | (injection eo22 with f1_ f2_ f3_;have f4_:=f1_.symm;have f5_:=f3_.symm;clear f1_ f2_ f3_;subst f4_;subst f5_))
         refine hK.out _ _ trivial (fun hHeld => ?_)
         clear hK K
         refine nrm (some 21) ?_
         exact npu (hJ1_3_6_9 (v731,.slice Ao22 y733.length co22,.slice Ao21 y736.length co21,.slice Ao20 y739.length co20) _ ⟨(ro HO735),(by (with_reducible repeat (first | apply Kd.R_alloc | apply Kd.R_drewN | apply Kd.R_drew));exact Kd.R_mono HO738.out (fun _ hk => hk.2)),(by (with_reducible repeat (first | apply Kd.R_alloc | apply Kd.R_drewN | apply Kd.R_drew));exact Kd.R_mono HO741.out (fun _ hk => hk.2)),(bk BK727),(hbx HB)⟩)
       ·skip
        rintro ⟨v731,v734,v737⟩ w17 ⟨h0_,h1_,h2_,h3_⟩
        have n0_ : Aside0 (Kd.R (Kd.int .i64) 3 w17 w.heap.size (fun _ => True) v734 y733):=⟨h0_⟩
        have n1_ : Aside0 (Kd.R Kd.bool 4 w17 w.heap.size (fun _ => True) v737 y736):=⟨h1_⟩
        have n2_ : Aside0 (w17.heap[gb727]? = some (.cells #[.string (⟨#[]⟩ : ByteArray),.slice none 0 0,.slice none 0 0,.slice none 0 0,.int .i64 0,.int .i64 0] 50 (0,0))):=⟨h2_⟩
        have n3_ : Aside0 (Below w.heap.size w w17):=⟨h3_⟩
        clear BK727
        clear HB
        clear h0_ h1_ h2_ h3_
        have HO735:=n0_
        have HO738:=n1_
        have BK727:=n2_
        have HB:=n3_
        clear n0_ n1_ n2_ n3_
        have hHeld:=trivial
        refine norm_ (a':=?_) ?_ ?_
        rotate_left
        ·simp only [putAll,Act.put,List.setIfInBounds_toArray,List.set_cons_zero,List.set_cons_succ]
         rfl
        refine one_ (i:=9) (N:=some 24) #[true,true,true,true,true,true,true,true,true,true,false,false,false] rfl rfl (one_of HT_.out (by kernel_rfl)) (by decide) (fun K hK => ?_)
        refine Kd.R_make_step Kd.bool _ 4 (by rfl) (N:=24) rfl 22 _ _ rfl (l1.length : Int) rfl rfl Try.underlying22 (.bool false) 1 info4 rfl (by decide) (by omega) false (ok:=fun _ => True) (okp:=fun _ => True) rfl (fun _ hk => hk) trivial (pos_) (Nat.le_trans (Nat.mul_le_mul_right _ (pos_ : (l1.length : Int).toNat ≤ 281474976710656)) (by omega)) (Below.refl _ _) (Nat.le_refl _) ?_
        intro v740 w18 ho19 hb hg_ hnew_
        clear hg_ hnew_
        (first | rw [← Ny739.out] at ho19 | (simp only [Int.reduceToNat] at ho19;rw [← Ny739.out] at ho19))
        replace HO735:=rB HO735 hb
        have HO741:=Aside0.mk (Kd.R_lower (Kd.R_new' ho19 (Kd.R_lt (ro HO738))) (below_size (hbx HB)))
        replace HO738:=Aside0.mk (Kd.R_elder' (ro HO738) (Kd.R_base ho19) hb)
        replace BK727:=bkB BK727 hb
        replace HB:=hbS HB hb
        clear hb ho19
        obtain ⟨Ao20,co20,eo20⟩:=Kd.R_slice HO741.out
        (first | subst eo20 | (injection eo20 with f1_ f2_ f3_;have f4_:=f1_.symm;have f5_:=f3_.symm;clear f1_ f2_ f3_;subst f4_;subst f5_))
        obtain ⟨Ao21,co21,eo21⟩:=Kd.R_slice HO738.out
        (first | subst eo21 | (injection eo21 with f1_ f2_ f3_;have f4_:=f1_.symm;have f5_:=f3_.symm;clear f1_ f2_ f3_;subst f4_;subst f5_))
        obtain ⟨Ao22,co22,eo22⟩:=Kd.R_slice HO735.out
        (first | subst eo22 | (injection eo22 with f1_ f2_ f3_;have f4_:=f1_.symm;have f5_:=f3_.symm;clear f1_ f2_ f3_;subst f4_;subst f5_))
        refine hK.out _ _ trivial (fun hHeld => ?_)
        clear hK K
        refine nrm (some 24) ?_
        exact npu (hJ1_3_6_9 (v731,.slice Ao22 y733.length co22,.slice Ao21 y736.length co21,.slice Ao20 y739.length co20) _ ⟨(ro HO735),(by (with_reducible repeat (first | apply Kd.R_alloc | apply Kd.R_drewN | apply Kd.R_drew));exact Kd.R_mono HO738.out (fun _ hk => hk.2)),(by (with_reducible repeat (first | apply Kd.R_alloc | apply Kd.R_drewN | apply Kd.R_drew));exact Kd.R_mono HO741.out (fun _ hk => hk.2)),(bk BK727),(hbx HB)⟩)
      rintro ⟨v731,v734,v737,v740⟩ w22 ⟨h0_,h1_,h2_,h3_,h4_⟩
      have n0_ : Aside0 (Kd.R (Kd.int .i64) 3 w22 w.heap.size (fun _ => True) v734 y733):=⟨h0_⟩
      have n1_ : Aside0 (Kd.R Kd.bool 4 w22 w.heap.size (fun k_ => some k_ ≠ (v740 : Value).ownBlock) v737 y736):=⟨h1_⟩
      have n2_ : Aside0 (Kd.R Kd.bool 4 w22 w.heap.size (fun k_ => some k_ ≠ (v737 : Value).ownBlock) v740 y739):=⟨h2_⟩
      have n3_ : Aside0 (w22.heap[gb727]? = some (.cells #[.string (⟨#[]⟩ : ByteArray),.slice none 0 0,.slice none 0 0,.slice none 0 0,.int .i64 0,.int .i64 0] 50 (0,0))):=⟨h3_⟩
      have n4_ : Aside0 (Below w.heap.size w w22):=⟨h4_⟩
      clear BK727
      clear HB
      clear h0_ h1_ h2_ h3_ h4_
      have HO735:=n0_
      have HO738:=n1_
      have HO741:=n2_
      have BK727:=n3_
      have HB:=n4_
      clear n0_ n1_ n2_ n3_ n4_
      have hHeld:=trivial
      obtain ⟨Ao23,co23,eo23⟩:=Kd.R_slice HO741.out
      (first | subst eo23 | (injection eo23 with f1_ f2_ f3_;have f4_:=f1_.symm;have f5_:=f3_.symm;clear f1_ f2_ f3_;subst f4_;subst f5_))
      obtain ⟨Ao24,co24,eo24⟩:=Kd.R_slice HO738.out
      (first | subst eo24 | (injection eo24 with f1_ f2_ f3_;have f4_:=f1_.symm;have f5_:=f3_.symm;clear f1_ f2_ f3_;subst f4_;subst f5_))
      obtain ⟨Ao25,co25,eo25⟩:=Kd.R_slice HO735.out
      (first | subst eo25 | (injection eo25 with f1_ f2_ f3_;have f4_:=f1_.symm;have f5_:=f3_.symm;clear f1_ f2_ f3_;subst f4_;subst f5_))
      refine norm_ (a':=?_) ?_ ?_
      rotate_left
      ·simp only [putAll,Act.put,List.setIfInBounds_toArray,List.set_cons_zero,List.set_cons_succ]
       rfl
      refine pur 10 (some 25) #[true,true,true,true,true,true,true,true,true,true,true,false,false] HT_ ?_
      refine one_ (i:=11) (N:=none) #[true,true,true,true,true,true,true,true,true,true,true,true,false] rfl rfl (one_of HT_.out (by kernel_rfl)) (by decide) (fun K hK => ?_)
      have hs26 : w22.cell? ⟨gb727,0,none⟩ = some (.string (⟨#[]⟩ : ByteArray)):=(blk_cell BK727.out 0).trans rfl
      have hfs26:=blk_frozen BK727.out 0
      have hs27 : w22.cell? ⟨gb727,1,none⟩ = some (.slice none 0 0):=(blk_cell BK727.out 1).trans rfl
      have hfs27:=blk_frozen BK727.out 1
      have hs28 : w22.cell? ⟨gb727,2,none⟩ = some (.slice none 0 0):=(blk_cell BK727.out 2).trans rfl
      have hfs28:=blk_frozen BK727.out 2
      have hs29 : w22.cell? ⟨gb727,3,none⟩ = some (.slice none 0 0):=(blk_cell BK727.out 3).trans rfl
      have hfs29:=blk_frozen BK727.out 3
      have hs30 : w22.cell? ⟨gb727,4,none⟩ = some (.int .i64 0):=(blk_cell BK727.out 4).trans rfl
      have hfs30:=blk_frozen BK727.out 4
      have hs31 : w22.cell? ⟨gb727,5,none⟩ = some (.int .i64 0):=(blk_cell BK727.out 5).trans rfl
      have hfs31:=blk_frozen BK727.out 5
      refine skip_ (w1:=?_) (by rfl) rfl ?_ ?_
      rotate_left
      ·go_simp
       rfl
      refine hK.out _ _ trivial (fun hHeld => ?_)
      clear hK K
      refine pur 12 (some 5) #[true,true,true,true,true,true,true,true,true,true,true,true,true] HT_ ?_
      refine done_ (done_of HT_.out (by kernel_rfl)) ?_
      try go_wp2
      refine bodyPost_ret (results_ct rfl _ _ gb727 50 #[.string a0,.slice Ao25 y733.length co25,.slice Ao24 y736.length co24,.slice Ao23 y739.length co23,.int .i64 0,.int .i64 0] (0,0) _ rfl (bkp BK727) Try.underlying50 rfl (by kernel_rfl)) rfl ?_
      exact ⟨_,_,_,rerr,Kd.R_mono (rty (rfo HO735) BK727) (fun _ hk => trivial),rfo HO738,rfo HO741,hbx HB⟩
     ·rw [if_neg c9] at H
      exact absurd H (by simp)
    ·rw [if_neg c8] at H
     exact absurd H (by simp)
   ·rw [if_neg c7] at H
    exact absurd H (by simp)
  ·replace c6:=Bool.eq_false_iff.mpr c6
   subst c6
   rw [if_neg (show ¬ (false = true) by decide)] at H
   simp only [Option.some.injEq,Prod.mk.injEq] at H
   obtain ⟨rfl,rfl,rfl,rfl,rfl,rfl,rfl⟩:=H
   go_enter Try.func30,Try.ntmps30
   go_wp2_with (first | ((with_reducible refine gate_dst (N:=4) rfl ?_);refine boxE 4 #[.string (⟨#[]⟩ : ByteArray),.slice none 0 0,.slice none 0 0,.slice none 0 0,.int .i64 0,.int .i64 0] 50 ?_;intro gb727 hg w32 hbox hb;have BK727:=Aside0.mk (hbox);have GW727:=gw hg HB;have GE727:=gw hg HB;replace HB:=hbS HB hb;clear hb hbox hg) | ((with_reducible refine gate_callee (f:=62) rfl ?_);refine goesL_ (some 7) rfl rfl Try.func62 (by kernel_rfl) rfl #[.string a0] rfl sma ?_;(with_reducible refine (hopmeshref49_Identifier.calls a0 true _ A3.out).mono ?_);rintro e w' ⟨rfl,⟨nd,rfl⟩⟩;refine ⟨_,rfl,?_⟩;(try (rw [drewN_self w32];generalize hq_ : World.drewN w32 _ = w32;replace BK727:=bkq BK727 hq_;replace HB:=hbq HB hq_;clear hq_))) | (go_at_call 63;(with_reducible refine (hopmeshref49_nodes.calls k _ _ l1 false _ (cb HR1 HB) HC1.out A5.out).mono ?_);rintro e w' ⟨rfl,⟨nd,rfl⟩⟩;(try (rw [drewN_self w32];generalize hq_ : World.drewN w32 _ = w32;replace BK727:=bkq BK727 hq_;replace HB:=hbq HB hq_;clear hq_));obtain ⟨z0,z1,z2,z3,z4,z5,y0,y1,y2,y3,y4,y5⟩:=bc6 BK727))
   refine bodyPost_ret (results_ct rfl _ _ gb727 50 #[.string (⟨#[]⟩ : ByteArray),.slice none 0 0,.slice none 0 0,.slice none 0 0,.int .i64 0,.int .i64 0] (0,0) _ rfl (bkp BK727) Try.underlying50 rfl (by kernel_rfl)) rfl ?_
   exact ⟨_,_,_,rerr,rnil,rnil,rnil,hbx HB⟩
 ·replace c4:=Bool.eq_false_iff.mpr c4
  subst c4
  rw [if_neg (show ¬ (false = true) by decide)] at H
  simp only [Option.some.injEq,Prod.mk.injEq] at H
  obtain ⟨rfl,rfl,rfl,rfl,rfl,rfl,rfl⟩:=H
  go_enter Try.func30,Try.ntmps30
  go_wp2_with (first | ((with_reducible refine gate_dst (N:=4) rfl ?_);refine boxE 4 #[.string (⟨#[]⟩ : ByteArray),.slice none 0 0,.slice none 0 0,.slice none 0 0,.int .i64 0,.int .i64 0] 50 ?_;intro gb727 hg w34 hbox hb;have BK727:=Aside0.mk (hbox);have GW727:=gw hg HB;have GE727:=gw hg HB;replace HB:=hbS HB hb;clear hb hbox hg) | ((with_reducible refine gate_callee (f:=62) rfl ?_);refine goesL_ (some 7) rfl rfl Try.func62 (by kernel_rfl) rfl #[.string a0] rfl sma ?_;(with_reducible refine (hopmeshref49_Identifier.calls a0 false _ A3.out).mono ?_);rintro e w' ⟨rfl,⟨nd,rfl⟩⟩;refine ⟨_,rfl,?_⟩;(try (rw [drewN_self w34];generalize hq_ : World.drewN w34 _ = w34;replace BK727:=bkq BK727 hq_;replace HB:=hbq HB hq_;clear hq_));obtain ⟨z0,z1,z2,z3,z4,z5,y0,y1,y2,y3,y4,y5⟩:=bc6 BK727))
  refine bodyPost_ret (results_ct rfl _ _ gb727 50 #[.string (⟨#[]⟩ : ByteArray),.slice none 0 0,.slice none 0 0,.slice none 0 0,.int .i64 0,.int .i64 0] (0,0) _ rfl (bkp BK727) Try.underlying50 rfl (by kernel_rfl)) rfl ?_
  exact ⟨_,_,_,rerr,rnil,rnil,rnil,hbx HB⟩
end Go.Proofs.Ytdigplhjfjchnaa.PQ
