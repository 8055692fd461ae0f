-- Printed by fprint.py and zip.py, programs of this session's, over the kit's print; Lean checks it.
import Derived.Test.YtdigplhjfjchnaaZa
namespace Go.Proofs.Ytdigplhjfjchnaa.PQ
open Go.RowKit Go.Proofs.YtdigplhjfjchnaaW.PrintWords Go.Proofs.YtdigplhjfjchnaaW.PrintLast Go.Proofs.YtdigplhjfjchnaaW.PrintMore
attribute [local go_sem] max2_int min2_int max_two min_two max_three min_three max_four min_four   -- for this text's walks alone
set_option linter.unusedVariables false
set_option linter.unusedSimpArgs false
mutual
def hopmeshref49_SameBoard.j0 : Nat → Bool → ByteArray → List Int → List Bool → List Bool → Int → Int → ByteArray → List Int → List Bool → List Bool → Int → Int → Option (Bool)
 | 0,_,_,_,_,_,_,_,_,_,_,_,_,_ => none
 | k + 1,x51,x743000,x743001,x743002,x743003,x743004,x743005,x744000,x744001,x744002,x744003,x744004,x744005 => if x51 = true then (some false) else (hopmeshref49_SameBoard.l0 k 0 x743000 x743001 x743002 x743003 x743004 x743005 x744000 x744001 x744002 x744003 x744004 x744005)
def hopmeshref49_SameBoard.l0 : Nat → Int → ByteArray → List Int → List Bool → List Bool → Int → Int → ByteArray → List Int → List Bool → List Bool → Int → Int → Option (Bool)
 | 0,_,_,_,_,_,_,_,_,_,_,_,_,_ => none
 | k + 1,x5,x743000,x743001,x743002,x743003,x743004,x743005,x744000,x744001,x744002,x744003,x744004,x744005 => if x5 < (x743002.length : Int) then (if 0 ≤ x5 then (if x5 < (x744002.length : Int) then (if ((rdOf false x743002 x5) != (rdOf false x744002 x5)) = true then (some false) else (hopmeshref49_SameBoard.l0 k (wrap64 (x5 + 1)) x743000 x743001 x743002 x743003 x743004 x743005 x744000 x744001 x744002 x744003 x744004 x744005)) else (none)) else (none)) else (hopmeshref49_SameBoard.l1 k 0 x743000 x743001 x743002 x743003 x743004 x743005 x744000 x744001 x744002 x744003 x744004 x744005)
def hopmeshref49_SameBoard.l1 : Nat → Int → ByteArray → List Int → List Bool → List Bool → Int → Int → ByteArray → List Int → List Bool → List Bool → Int → Int → Option (Bool)
 | 0,_,_,_,_,_,_,_,_,_,_,_,_,_ => none
 | k + 1,x6,x743000,x743001,x743002,x743003,x743004,x743005,x744000,x744001,x744002,x744003,x744004,x744005 => if x6 < (x743003.length : Int) then (if 0 ≤ x6 then (if x6 < (x744003.length : Int) then (if ((rdOf false x743003 x6) != (rdOf false x744003 x6)) = true then (some false) else (hopmeshref49_SameBoard.l1 k (wrap64 (x6 + 1)) x743000 x743001 x743002 x743003 x743004 x743005 x744000 x744001 x744002 x744003 x744004 x744005)) else (none)) else (none)) else (some true)
end
def hopmeshref49_SameBoard.f (k : Nat) (a0_0 : ByteArray) (l0_1 : List Int) (l0_2 : List Bool) (l0_3 : List Bool) (a0_4 a0_5 : Int) (a1_0 : ByteArray) (l1_1 : List Int) (l1_2 : List Bool) (l1_3 : List Bool) (a1_4 a1_5 : Int) : Option (Bool):=if a0_0.toList = a1_0.toList then ((hopmeshref49_ints.f k l0_1 l1_1).bind fun t744 => (if t744 = true then (if a0_4 = a1_4 then (if a0_5 = a1_5 then (if (l0_2.length : Int) = (l1_2.length : Int) then (hopmeshref49_SameBoard.j0 k ((l0_3.length : Int) != (l1_3.length : Int)) a0_0 l0_1 l0_2 l0_3 a0_4 a0_5 a1_0 l1_1 l1_2 l1_3 a1_4 a1_5) else (hopmeshref49_SameBoard.j0 k true a0_0 l0_1 l0_2 l0_3 a0_4 a0_5 a1_0 l1_1 l1_2 l1_3 a1_4 a1_5)) else (hopmeshref49_SameBoard.j0 k true a0_0 l0_1 l0_2 l0_3 a0_4 a0_5 a1_0 l1_1 l1_2 l1_3 a1_4 a1_5)) else (hopmeshref49_SameBoard.j0 k true a0_0 l0_1 l0_2 l0_3 a0_4 a0_5 a1_0 l1_1 l1_2 l1_3 a1_4 a1_5)) else (hopmeshref49_SameBoard.j0 k true a0_0 l0_1 l0_2 l0_3 a0_4 a0_5 a1_0 l1_1 l1_2 l1_3 a1_4 a1_5))) else (hopmeshref49_SameBoard.j0 k true a0_0 l0_1 l0_2 l0_3 a0_4 a0_5 a1_0 l1_1 l1_2 l1_3 a1_4 a1_5)
set_option maxHeartbeats 8000000 in
set_option maxRecDepth 100000 in
theorem hopmeshref49_SameBoard.calls (k : Nat) (a0_0 : ByteArray) (A0_1 : Option Addr) (c0_1 : Nat) (l0_1 : List Int) (A0_2 : Option Addr) (c0_2 : Nat) (l0_2 : List Bool) (A0_3 : Option Addr) (c0_3 : Nat) (l0_3 : List Bool) (a0_4 a0_5 : Int) (a1_0 : ByteArray) (A1_1 : Option Addr) (c1_1 : Nat) (l1_1 : List Int) (A1_2 : Option Addr) (c1_2 : Nat) (l1_2 : List Bool) (A1_3 : Option Addr) (c1_3 : Nat) (l1_3 : List Bool) (a1_4 a1_5 : Int) (r : Bool) (w : World) (hr0_1 : Kd.C (Kd.int .i64) w A0_1 l0_1.length l0_1) (hc0_1 : l0_1.length ≤ c0_1) (hr0_2 : Kd.C Kd.bool w A0_2 l0_2.length l0_2) (hc0_2 : l0_2.length ≤ c0_2) (hr0_3 : Kd.C Kd.bool w A0_3 l0_3.length l0_3) (hc0_3 : l0_3.length ≤ c0_3) (hr1_1 : Kd.C (Kd.int .i64) w A1_1 l1_1.length l1_1) (hc1_1 : l1_1.length ≤ c1_1) (hr1_2 : Kd.C Kd.bool w A1_2 l1_2.length l1_2) (hc1_2 : l1_2.length ≤ c1_2) (hr1_3 : Kd.C Kd.bool w A1_3 l1_3.length l1_3) (hc1_3 : l1_3.length ≤ c1_3) (h : hopmeshref49_SameBoard.f k a0_0 l0_1 l0_2 l0_3 a0_4 a0_5 a1_0 l1_1 l1_2 l1_3 a1_4 a1_5 = some r) :
 Calls Try.prog 31 #[.agg #[.string a0_0,.slice A0_1 l0_1.length c0_1,.slice A0_2 l0_2.length c0_2,.slice A0_3 l0_3.length c0_3,.int .i64 a0_4,.int .i64 a0_5],.agg #[.string a1_0,.slice A1_1 l1_1.length c1_1,.slice A1_2 l1_2.length c1_2,.slice A1_3 l1_3.length c1_3,.int .i64 a1_4,.int .i64 a1_5]] w fun e w' => e = .returned (.bool r) ∧ Below w.heap.size w w':=by
 have hu50:=Try.underlying50
 have HR0_1:=Aside0.mk hr0_1
 have HC0_1:=Aside0.mk hc0_1
 clear hr0_1 hc0_1
 have HR0_2:=Aside0.mk hr0_2
 have HC0_2:=Aside0.mk hc0_2
 clear hr0_2 hc0_2
 have HR0_3:=Aside0.mk hr0_3
 have HC0_3:=Aside0.mk hc0_3
 clear hr0_3 hc0_3
 have HR1_1:=Aside0.mk hr1_1
 have HC1_1:=Aside0.mk hc1_1
 clear hr1_1 hc1_1
 have HR1_2:=Aside0.mk hr1_2
 have HC1_2:=Aside0.mk hc1_2
 clear hr1_2 hc1_2
 have HR1_3:=Aside0.mk hr1_3
 have HC1_3:=Aside0.mk hc1_3
 clear hr1_3 hc1_3
 have HB:=Aside0.mk (Below.refl w.heap.size w)
 have H : (if a0_0.toList = a1_0.toList then ((hopmeshref49_ints.f k l0_1 l1_1).bind fun t744 => (if t744 = true then (if a0_4 = a1_4 then (if a0_5 = a1_5 then (if (l0_2.length : Int) = (l1_2.length : Int) then (hopmeshref49_SameBoard.j0 k ((l0_3.length : Int) != (l1_3.length : Int)) a0_0 l0_1 l0_2 l0_3 a0_4 a0_5 a1_0 l1_1 l1_2 l1_3 a1_4 a1_5) else (hopmeshref49_SameBoard.j0 k true a0_0 l0_1 l0_2 l0_3 a0_4 a0_5 a1_0 l1_1 l1_2 l1_3 a1_4 a1_5)) else (hopmeshref49_SameBoard.j0 k true a0_0 l0_1 l0_2 l0_3 a0_4 a0_5 a1_0 l1_1 l1_2 l1_3 a1_4 a1_5)) else (hopmeshref49_SameBoard.j0 k true a0_0 l0_1 l0_2 l0_3 a0_4 a0_5 a1_0 l1_1 l1_2 l1_3 a1_4 a1_5)) else (hopmeshref49_SameBoard.j0 k true a0_0 l0_1 l0_2 l0_3 a0_4 a0_5 a1_0 l1_1 l1_2 l1_3 a1_4 a1_5))) else (hopmeshref49_SameBoard.j0 k true a0_0 l0_1 l0_2 l0_3 a0_4 a0_5 a1_0 l1_1 l1_2 l1_3 a1_4 a1_5)) = some r:=h
 clear h
 have HC3:=Aside0.mk H
 clear H
 go_enter Try.func31,Try.ntmps31
 go_upto_region 1 with (first | ((with_reducible refine gate_dst (N:=2) rfl ?_);(try (refine gate_guard (by rfl) ?_;dsimp only));refine boxE 2 #[.string a0_0,.slice A0_1 l0_1.length c0_1,.slice A0_2 l0_2.length c0_2,.slice A0_3 l0_3.length c0_3,.int .i64 a0_4,.int .i64 a0_5] 50 ?_;intro gb742 hg w4 hbox hb;have BK742:=Aside0.mk (hbox);have GW742:=gw hg HB;have GE742:=gw hg HB;replace HB:=hbS HB hb;clear hb hbox hg) | ((with_reducible refine gate_dst (N:=3) rfl ?_);(try (refine gate_guard (by rfl) ?_;dsimp only));refine boxE 3 #[.string a1_0,.slice A1_1 l1_1.length c1_1,.slice A1_2 l1_2.length c1_2,.slice A1_3 l1_3.length c1_3,.int .i64 a1_4,.int .i64 a1_5] 50 ?_;intro gb743 hg w5 hbox hb;have BK743:=Aside0.mk (hbox);have GW743:=gw hg HB;have GE743:=gw hg HB;replace HB:=hbS HB hb;have NB742_743:=nbl hg BK742;have NB743_742:=nbg hg BK742;replace BK742:=bkB BK742 hb;clear hb hbox hg))
 repeat (go_quiet (first | ((with_reducible refine gate_dst (N:=2) rfl ?_);(try (refine gate_guard (by rfl) ?_;dsimp only));refine boxE 2 #[.string a0_0,.slice A0_1 l0_1.length c0_1,.slice A0_2 l0_2.length c0_2,.slice A0_3 l0_3.length c0_3,.int .i64 a0_4,.int .i64 a0_5] 50 ?_;intro gb742 hg w4 hbox hb;have BK742:=Aside0.mk (hbox);have GW742:=gw hg HB;have GE742:=gw hg HB;replace HB:=hbS HB hb;clear hb hbox hg) | ((with_reducible refine gate_dst (N:=3) rfl ?_);(try (refine gate_guard (by rfl) ?_;dsimp only));refine boxE 3 #[.string a1_0,.slice A1_1 l1_1.length c1_1,.slice A1_2 l1_2.length c1_2,.slice A1_3 l1_3.length c1_3,.int .i64 a1_4,.int .i64 a1_5] 50 ?_;intro gb743 hg w5 hbox hb;have BK743:=Aside0.mk (hbox);have GW743:=gw hg HB;have GE743:=gw hg HB;replace HB:=hbS HB hb;have NB742_743:=nbl hg BK742;have NB743_742:=nbg hg BK742;replace BK742:=bkB BK742 hb;clear hb hbox hg));go_upto_region 1 with (first | ((with_reducible refine gate_dst (N:=2) rfl ?_);(try (refine gate_guard (by rfl) ?_;dsimp only));refine boxE 2 #[.string a0_0,.slice A0_1 l0_1.length c0_1,.slice A0_2 l0_2.length c0_2,.slice A0_3 l0_3.length c0_3,.int .i64 a0_4,.int .i64 a0_5] 50 ?_;intro gb742 hg w4 hbox hb;have BK742:=Aside0.mk (hbox);have GW742:=gw hg HB;have GE742:=gw hg HB;replace HB:=hbS HB hb;clear hb hbox hg) | ((with_reducible refine gate_dst (N:=3) rfl ?_);(try (refine gate_guard (by rfl) ?_;dsimp only));refine boxE 3 #[.string a1_0,.slice A1_1 l1_1.length c1_1,.slice A1_2 l1_2.length c1_2,.slice A1_3 l1_3.length c1_3,.int .i64 a1_4,.int .i64 a1_5] 50 ?_;intro gb743 hg w5 hbox hb;have BK743:=Aside0.mk (hbox);have GW743:=gw hg HB;have GE743:=gw hg HB;replace HB:=hbS HB hb;have NB742_743:=nbl hg BK742;have NB743_742:=nbg hg BK742;replace BK742:=bkB BK742 hb;clear hb hbox hg)))
 (try simp only [Act.put,List.setIfInBounds_toArray,List.set_cons_zero,List.set_cons_succ])
 go_cut [51] (fun v51 wc => ∃ (kq : Nat) (x51_2 : Bool),v51 = .bool x51_2 ∧ Aside0 (hopmeshref49_SameBoard.j0 kq x51_2 a0_0 l0_1 l0_2 l0_3 a0_4 a0_5 a1_0 l1_1 l1_2 l1_3 a1_4 a1_5 = some r) ∧ Aside0 (kq ≤ k) ∧ Aside0 (wc.heap[gb742]? = some (.cells #[.string a0_0,(.slice A0_1 l0_1.length c0_1),(.slice A0_2 l0_2.length c0_2),(.slice A0_3 l0_3.length c0_3),.int .i64 a0_4,.int .i64 a0_5] 50 (0,0))) ∧ Aside0 (wc.heap[gb743]? = some (.cells #[.string a1_0,(.slice A1_1 l1_1.length c1_1),(.slice A1_2 l1_2.length c1_2),(.slice A1_3 l1_3.length c1_3),.int .i64 a1_4,.int .i64 a1_5] 50 (0,0))) ∧ Aside0 (Below w.heap.size w wc))
 case first =>
  have H:=HC3.out
  clear HC3
  by_cases c6 : a0_0.toList = a1_0.toList
  ·rw [if_pos c6] at H
   have c6b0 : (a0_0.toList == a1_0.toList) = true:=beq_iff_eq.mpr c6
   have c6b1 : (a0_0.toList != a1_0.toList) = false:=bne_eq_false_iff_eq.mpr c6
   clear c6
   (first | rw [c6b0] | (simp only [i64_w,i32_w];rw [c6b0]) | skip)
   replace H:=Option.bind_eq_some_iff.mp H
   obtain ⟨t744,A70,H⟩:=H
   (try dsimp only at H)
   have A7:=Aside0.mk A70
   clear A70
   by_cases c8 : t744 = true
   ·subst c8
    rw [if_pos rfl] at H
    by_cases c9 : a0_4 = a1_4
    ·rw [if_pos c9] at H
     have c9b0 : (a0_4 == a1_4) = true:=beq_iff_eq.mpr c9
     have c9b1 : (a0_4 != a1_4) = false:=bne_eq_false_iff_eq.mpr c9
     clear c9
     by_cases c10 : a0_5 = a1_5
     ·rw [if_pos c10] at H
      have c10b0 : (a0_5 == a1_5) = true:=beq_iff_eq.mpr c10
      have c10b1 : (a0_5 != a1_5) = false:=bne_eq_false_iff_eq.mpr c10
      clear c10
      by_cases c11 : (l0_2.length : Int) = (l1_2.length : Int)
      ·rw [if_pos c11] at H
       have c11b0 : ((l0_2.length : Int) == (l1_2.length : Int)) = true:=beq_iff_eq.mpr c11
       have c11b1 : ((l0_2.length : Int) != (l1_2.length : Int)) = false:=bne_eq_false_iff_eq.mpr c11
       have c11b2 : (l0_2.length == l1_2.length) = true:=by first | simpa using c11 | (simp at c11 ⊢;omega)
       clear c11
       have H':=Aside0.mk H
       clear H
       have hnb12:=NB742_743.out
       have hnc12:=NB743_742.out
       obtain ⟨z0,z1,z2,z3,z4,z5,y0,y1,y2,y3,y4,y5⟩:=bc6 BK742
       obtain ⟨z0,z1,z2,z3,z4,z5,y0,y1,y2,y3,y4,y5⟩:=bc6 BK743
       go_wp2_with (first | (go_at_call 61;(with_reducible refine (hopmeshref49_ints.calls k _ _ l0_1 _ _ l1_1 true _ (cb HR0_1 HB) HC0_1.out (cb HR1_1 HB) HC1_1.out A7.out).mono ?_);rintro e w' ⟨rfl,⟨nd,rfl⟩⟩;(try first | exact ⟨rfl,_,World.drewN_drewN _ _ _⟩ | exact ⟨rfl,_,Eq.trans (World.drewN_drewN _ _ _) (congrArg (World.drewN _) (Nat.add_assoc _ _ _))⟩)))
       repeat (go_quiet (first | (go_at_call 61;(with_reducible refine (hopmeshref49_ints.calls k _ _ l0_1 _ _ l1_1 true _ (cb HR0_1 HB) HC0_1.out (cb HR1_1 HB) HC1_1.out A7.out).mono ?_);rintro e w' ⟨rfl,⟨nd,rfl⟩⟩;(try first | exact ⟨rfl,_,World.drewN_drewN _ _ _⟩ | exact ⟨rfl,_,Eq.trans (World.drewN_drewN _ _ _) (congrArg (World.drewN _) (Nat.add_assoc _ _ _))⟩)));try go_wp2_with (first | (go_at_call 61;(with_reducible refine (hopmeshref49_ints.calls k _ _ l0_1 _ _ l1_1 true _ (cb HR0_1 HB) HC0_1.out (cb HR1_1 HB) HC1_1.out A7.out).mono ?_);rintro e w' ⟨rfl,⟨nd,rfl⟩⟩;(try first | exact ⟨rfl,_,World.drewN_drewN _ _ _⟩ | exact ⟨rfl,_,Eq.trans (World.drewN_drewN _ _ _) (congrArg (World.drewN _) (Nat.add_assoc _ _ _))⟩))))
       go_meet
       case rel => exact ⟨_,(((l0_3.length : Int) != (l1_3.length : Int))),rfs,H',kle,bkA BK742,bkA BK743,hbA HB⟩
      ·rw [if_neg c11] at H
       have c11b0 : ((l0_2.length : Int) == (l1_2.length : Int)) = false:=beq_eq_false_iff_ne.mpr c11
       have c11b1 : ((l0_2.length : Int) != (l1_2.length : Int)) = true:=bne_iff_ne.mpr c11
       have c11b2 : (l0_2.length == l1_2.length) = false:=by first | simpa using c11 | (simp at c11 ⊢;omega)
       have H':=Aside0.mk H
       clear H
       have hnb15:=NB742_743.out
       have hnc15:=NB743_742.out
       obtain ⟨z0,z1,z2,z3,z4,z5,y0,y1,y2,y3,y4,y5⟩:=bc6 BK742
       obtain ⟨z0,z1,z2,z3,z4,z5,y0,y1,y2,y3,y4,y5⟩:=bc6 BK743
       go_wp2_with (first | (go_at_call 61;(with_reducible refine (hopmeshref49_ints.calls k _ _ l0_1 _ _ l1_1 true _ (cb HR0_1 HB) HC0_1.out (cb HR1_1 HB) HC1_1.out A7.out).mono ?_);rintro e w' ⟨rfl,⟨nd,rfl⟩⟩;(try first | exact ⟨rfl,_,World.drewN_drewN _ _ _⟩ | exact ⟨rfl,_,Eq.trans (World.drewN_drewN _ _ _) (congrArg (World.drewN _) (Nat.add_assoc _ _ _))⟩)))
       repeat (go_quiet (first | (go_at_call 61;(with_reducible refine (hopmeshref49_ints.calls k _ _ l0_1 _ _ l1_1 true _ (cb HR0_1 HB) HC0_1.out (cb HR1_1 HB) HC1_1.out A7.out).mono ?_);rintro e w' ⟨rfl,⟨nd,rfl⟩⟩;(try first | exact ⟨rfl,_,World.drewN_drewN _ _ _⟩ | exact ⟨rfl,_,Eq.trans (World.drewN_drewN _ _ _) (congrArg (World.drewN _) (Nat.add_assoc _ _ _))⟩)));try go_wp2_with (first | (go_at_call 61;(with_reducible refine (hopmeshref49_ints.calls k _ _ l0_1 _ _ l1_1 true _ (cb HR0_1 HB) HC0_1.out (cb HR1_1 HB) HC1_1.out A7.out).mono ?_);rintro e w' ⟨rfl,⟨nd,rfl⟩⟩;(try first | exact ⟨rfl,_,World.drewN_drewN _ _ _⟩ | exact ⟨rfl,_,Eq.trans (World.drewN_drewN _ _ _) (congrArg (World.drewN _) (Nat.add_assoc _ _ _))⟩))))
       go_meet
       case rel => exact ⟨_,(true),rfs,H',kle,bkA BK742,bkA BK743,hbA HB⟩
     ·rw [if_neg c10] at H
      have c10b0 : (a0_5 == a1_5) = false:=beq_eq_false_iff_ne.mpr c10
      have c10b1 : (a0_5 != a1_5) = true:=bne_iff_ne.mpr c10
      have H':=Aside0.mk H
      clear H
      have hnb18:=NB742_743.out
      have hnc18:=NB743_742.out
      obtain ⟨z0,z1,z2,z3,z4,z5,y0,y1,y2,y3,y4,y5⟩:=bc6 BK742
      obtain ⟨z0,z1,z2,z3,z4,z5,y0,y1,y2,y3,y4,y5⟩:=bc6 BK743
      go_wp2_with (first | (go_at_call 61;(with_reducible refine (hopmeshref49_ints.calls k _ _ l0_1 _ _ l1_1 true _ (cb HR0_1 HB) HC0_1.out (cb HR1_1 HB) HC1_1.out A7.out).mono ?_);rintro e w' ⟨rfl,⟨nd,rfl⟩⟩;(try first | exact ⟨rfl,_,World.drewN_drewN _ _ _⟩ | exact ⟨rfl,_,Eq.trans (World.drewN_drewN _ _ _) (congrArg (World.drewN _) (Nat.add_assoc _ _ _))⟩)))
      repeat (go_quiet (first | (go_at_call 61;(with_reducible refine (hopmeshref49_ints.calls k _ _ l0_1 _ _ l1_1 true _ (cb HR0_1 HB) HC0_1.out (cb HR1_1 HB) HC1_1.out A7.out).mono ?_);rintro e w' ⟨rfl,⟨nd,rfl⟩⟩;(try first | exact ⟨rfl,_,World.drewN_drewN _ _ _⟩ | exact ⟨rfl,_,Eq.trans (World.drewN_drewN _ _ _) (congrArg (World.drewN _) (Nat.add_assoc _ _ _))⟩)));try go_wp2_with (first | (go_at_call 61;(with_reducible refine (hopmeshref49_ints.calls k _ _ l0_1 _ _ l1_1 true _ (cb HR0_1 HB) HC0_1.out (cb HR1_1 HB) HC1_1.out A7.out).mono ?_);rintro e w' ⟨rfl,⟨nd,rfl⟩⟩;(try first | exact ⟨rfl,_,World.drewN_drewN _ _ _⟩ | exact ⟨rfl,_,Eq.trans (World.drewN_drewN _ _ _) (congrArg (World.drewN _) (Nat.add_assoc _ _ _))⟩))))
      go_meet
      case rel => exact ⟨_,(true),rfs,H',kle,bkA BK742,bkA BK743,hbA HB⟩
    ·rw [if_neg c9] at H
     have c9b0 : (a0_4 == a1_4) = false:=beq_eq_false_iff_ne.mpr c9
     have c9b1 : (a0_4 != a1_4) = true:=bne_iff_ne.mpr c9
     have H':=Aside0.mk H
     clear H
     have hnb21:=NB742_743.out
     have hnc21:=NB743_742.out
     obtain ⟨z0,z1,z2,z3,z4,z5,y0,y1,y2,y3,y4,y5⟩:=bc6 BK742
     obtain ⟨z0,z1,z2,z3,z4,z5,y0,y1,y2,y3,y4,y5⟩:=bc6 BK743
     go_wp2_with (first | (go_at_call 61;(with_reducible refine (hopmeshref49_ints.calls k _ _ l0_1 _ _ l1_1 true _ (cb HR0_1 HB) HC0_1.out (cb HR1_1 HB) HC1_1.out A7.out).mono ?_);rintro e w' ⟨rfl,⟨nd,rfl⟩⟩;(try first | exact ⟨rfl,_,World.drewN_drewN _ _ _⟩ | exact ⟨rfl,_,Eq.trans (World.drewN_drewN _ _ _) (congrArg (World.drewN _) (Nat.add_assoc _ _ _))⟩)))
     repeat (go_quiet (first | (go_at_call 61;(with_reducible refine (hopmeshref49_ints.calls k _ _ l0_1 _ _ l1_1 true _ (cb HR0_1 HB) HC0_1.out (cb HR1_1 HB) HC1_1.out A7.out).mono ?_);rintro e w' ⟨rfl,⟨nd,rfl⟩⟩;(try first | exact ⟨rfl,_,World.drewN_drewN _ _ _⟩ | exact ⟨rfl,_,Eq.trans (World.drewN_drewN _ _ _) (congrArg (World.drewN _) (Nat.add_assoc _ _ _))⟩)));try go_wp2_with (first | (go_at_call 61;(with_reducible refine (hopmeshref49_ints.calls k _ _ l0_1 _ _ l1_1 true _ (cb HR0_1 HB) HC0_1.out (cb HR1_1 HB) HC1_1.out A7.out).mono ?_);rintro e w' ⟨rfl,⟨nd,rfl⟩⟩;(try first | exact ⟨rfl,_,World.drewN_drewN _ _ _⟩ | exact ⟨rfl,_,Eq.trans (World.drewN_drewN _ _ _) (congrArg (World.drewN _) (Nat.add_assoc _ _ _))⟩))))
     go_meet
     case rel => exact ⟨_,(true),rfs,H',kle,bkA BK742,bkA BK743,hbA HB⟩
   ·replace c8:=Bool.eq_false_iff.mpr c8
    subst c8
    rw [if_neg (show ¬ (false = true) by decide)] at H
    have H':=Aside0.mk H
    clear H
    have hnb24:=NB742_743.out
    have hnc24:=NB743_742.out
    obtain ⟨z0,z1,z2,z3,z4,z5,y0,y1,y2,y3,y4,y5⟩:=bc6 BK742
    obtain ⟨z0,z1,z2,z3,z4,z5,y0,y1,y2,y3,y4,y5⟩:=bc6 BK743
    go_wp2_with (first | (go_at_call 61;(with_reducible refine (hopmeshref49_ints.calls k _ _ l0_1 _ _ l1_1 false _ (cb HR0_1 HB) HC0_1.out (cb HR1_1 HB) HC1_1.out A7.out).mono ?_);rintro e w' ⟨rfl,⟨nd,rfl⟩⟩;(try first | exact ⟨rfl,_,World.drewN_drewN _ _ _⟩ | exact ⟨rfl,_,Eq.trans (World.drewN_drewN _ _ _) (congrArg (World.drewN _) (Nat.add_assoc _ _ _))⟩)))
    repeat (go_quiet (first | (go_at_call 61;(with_reducible refine (hopmeshref49_ints.calls k _ _ l0_1 _ _ l1_1 false _ (cb HR0_1 HB) HC0_1.out (cb HR1_1 HB) HC1_1.out A7.out).mono ?_);rintro e w' ⟨rfl,⟨nd,rfl⟩⟩;(try first | exact ⟨rfl,_,World.drewN_drewN _ _ _⟩ | exact ⟨rfl,_,Eq.trans (World.drewN_drewN _ _ _) (congrArg (World.drewN _) (Nat.add_assoc _ _ _))⟩)));try go_wp2_with (first | (go_at_call 61;(with_reducible refine (hopmeshref49_ints.calls k _ _ l0_1 _ _ l1_1 false _ (cb HR0_1 HB) HC0_1.out (cb HR1_1 HB) HC1_1.out A7.out).mono ?_);rintro e w' ⟨rfl,⟨nd,rfl⟩⟩;(try first | exact ⟨rfl,_,World.drewN_drewN _ _ _⟩ | exact ⟨rfl,_,Eq.trans (World.drewN_drewN _ _ _) (congrArg (World.drewN _) (Nat.add_assoc _ _ _))⟩))))
    go_meet
    case rel => exact ⟨_,(true),rfs,H',kle,bkA BK742,bkA BK743,hbA HB⟩
  ·rw [if_neg c6] at H
   have c6b0 : (a0_0.toList == a1_0.toList) = false:=beq_eq_false_iff_ne.mpr c6
   have c6b1 : (a0_0.toList != a1_0.toList) = true:=bne_iff_ne.mpr c6
   (first | rw [c6b0] | (simp only [i64_w,i32_w];rw [c6b0]) | skip)
   have H':=Aside0.mk H
   clear H
   have hnb27:=NB742_743.out
   have hnc27:=NB743_742.out
   obtain ⟨z0,z1,z2,z3,z4,z5,y0,y1,y2,y3,y4,y5⟩:=bc6 BK742
   obtain ⟨z0,z1,z2,z3,z4,z5,y0,y1,y2,y3,y4,y5⟩:=bc6 BK743
   go_wp2
   repeat (go_quiet (fail);try go_wp2)
   go_meet
   case rel => exact ⟨_,(true),rfs,H',kle,bkA BK742,bkA BK743,hbA HB⟩
 case rest =>
  clear HC3
  obtain ⟨kq,x51_2,rfl,HA,HJ2,BK742,BK743,HB⟩:=hcut
  cases kq with
  | zero => exact absurd HA.out (by simp [hopmeshref49_SameBoard.j0])
  | succ kj2 =>
   have H:=HA.out
   clear HA
   simp only [hopmeshref49_SameBoard.j0] at H
   by_cases c30 : x51_2 = true
   ·subst c30
    rw [if_pos rfl] at H
    obtain rfl:=Option.some.inj H
    go_wp2
    repeat (go_quiet (fail);try go_wp2)
    go_ret
    exact ⟨rerr,hbx HB⟩
   ·replace c30:=Bool.eq_false_iff.mpr c30
    subst c30
    rw [if_neg (show ¬ (false = true) by decide)] at H
    have H':=Aside0.mk H
    clear H
    go_wp2
    repeat (go_quiet (fail);try go_wp2)
    go_loopg [5] kj2 (fun kq v5 w' => ∃ (x5_2 : Int),v5 = .int .i64 x5_2 ∧ Aside0 (hopmeshref49_SameBoard.l0 kq x5_2 a0_0 l0_1 l0_2 l0_3 a0_4 a0_5 a1_0 l1_1 l1_2 l1_3 a1_4 a1_5 = some r) ∧ Aside0 (kq ≤ kj2) ∧ Aside0 (w'.heap[gb742]? = some (.cells #[.string a0_0,(.slice A0_1 l0_1.length c0_1),(.slice A0_2 l0_2.length c0_2),(.slice A0_3 l0_3.length c0_3),.int .i64 a0_4,.int .i64 a0_5] 50 (0,0))) ∧ Aside0 (w'.heap[gb743]? = some (.cells #[.string a1_0,(.slice A1_1 l1_1.length c1_1),(.slice A1_2 l1_2.length c1_2),(.slice A1_3 l1_3.length c1_3),.int .i64 a1_4,.int .i64 a1_5] 50 (0,0))) ∧ Aside0 (Below w.heap.size w w'))
    case atStart => exact ⟨(0),rfs,H',⟨Nat.le_refl _⟩,bkA BK742,bkA BK743,hbA HB⟩
    case round =>
     clear H'
     try clear c30
     obtain ⟨x5_2,rfl,HA,HK2,BK742,BK743,HB⟩:=hrel
     cases gk with
     | zero => exact absurd HA.out (by simp [hopmeshref49_SameBoard.l0])
     | succ k2 =>
      have H:=HA.out
      clear HA
      simp only [hopmeshref49_SameBoard.l0] at H
      by_cases c31 : x5_2 < (l0_2.length : Int)
      ·rw [if_pos c31] at H
       have c31b0 : decide (x5_2 < (l0_2.length : Int)) = true:=decide_eq_true c31
       clear c31
       by_cases c32 : 0 ≤ x5_2
       ·rw [if_pos c32] at H
        have c32b0 : decide (0 ≤ x5_2) = true:=decide_eq_true c32
        clear c32
        by_cases c33 : x5_2 < (l1_2.length : Int)
        ·rw [if_pos c33] at H
         have c33b0 : decide (x5_2 < (l1_2.length : Int)) = true:=decide_eq_true c33
         clear c33
         by_cases c34 : ((rdOf false l0_2 x5_2) != (rdOf false l1_2 x5_2)) = true
         ·rw [if_pos c34] at H
          have c34b0 : ((rdOf false l0_2 x5_2) != (rdOf false l1_2 x5_2)) = true:=c34
          (try (have c34b1 : decide ((rdOf false l0_2 x5_2) = (rdOf false l1_2 x5_2)) = false:=by simpa using c34))
          (try (have c34b2 : ((rdOf false l0_2 x5_2) == (rdOf false l1_2 x5_2)) = false:=by simpa using c34))
          (try (have c34b3 : ¬ ((rdOf false l0_2 x5_2) = (rdOf false l1_2 x5_2)):=by simpa using c34))
          clear c34
          obtain rfl:=Option.some.inj H
          have hnb35:=NB742_743.out
          have hnc35:=NB743_742.out
          obtain ⟨z0,z1,z2,z3,z4,z5,y0,y1,y2,y3,y4,y5⟩:=bc6 BK742
          have p745 : 0 ≤ (x5_2 : Int):=pos_
          have q745 : x5_2 < (l0_2.length : Int):=pos_
          obtain ⟨ad745,e745,hx745_0⟩:=Kd.at_bool HR0_2.out x5_2 p745 q745
          cases e745
          replace hx745_0:=(HB.out.cell (World.block_lt_of_cell? w _ hx745_0)).trans hx745_0
          replace p745:=eq_true p745
          replace q745:=eq_true q745
          obtain ⟨z0,z1,z2,z3,z4,z5,y0,y1,y2,y3,y4,y5⟩:=bc6 BK743
          have p746 : 0 ≤ (x5_2 : Int):=pos_
          have q746 : x5_2 < (l1_2.length : Int):=pos_
          obtain ⟨ad746,e746,hx746_0⟩:=Kd.at_bool HR1_2.out x5_2 p746 q746
          cases e746
          replace hx746_0:=(HB.out.cell (World.block_lt_of_cell? w _ hx746_0)).trans hx746_0
          replace p746:=eq_true p746
          replace q746:=eq_true q746
          go_wp2
          repeat (go_quiet (fail);try go_wp2)
          go_ret
          exact ⟨rerr,hbx HB⟩
         ·rw [if_neg c34] at H
          have c34b0 : ((rdOf false l0_2 x5_2) != (rdOf false l1_2 x5_2)) = false:=by simpa using c34
          (try (have c34b1 : decide ((rdOf false l0_2 x5_2) = (rdOf false l1_2 x5_2)) = true:=by simpa using c34))
          (try (have c34b2 : ((rdOf false l0_2 x5_2) == (rdOf false l1_2 x5_2)) = true:=by simpa using c34))
          clear c34
          have H':=Aside0.mk H
          clear H
          have hnb38:=NB742_743.out
          have hnc38:=NB743_742.out
          obtain ⟨z0,z1,z2,z3,z4,z5,y0,y1,y2,y3,y4,y5⟩:=bc6 BK742
          have p745 : 0 ≤ (x5_2 : Int):=pos_
          have q745 : x5_2 < (l0_2.length : Int):=pos_
          obtain ⟨ad745,e745,hx745_0⟩:=Kd.at_bool HR0_2.out x5_2 p745 q745
          cases e745
          replace hx745_0:=(HB.out.cell (World.block_lt_of_cell? w _ hx745_0)).trans hx745_0
          replace p745:=eq_true p745
          replace q745:=eq_true q745
          obtain ⟨z0,z1,z2,z3,z4,z5,y0,y1,y2,y3,y4,y5⟩:=bc6 BK743
          have p746 : 0 ≤ (x5_2 : Int):=pos_
          have q746 : x5_2 < (l1_2.length : Int):=pos_
          obtain ⟨ad746,e746,hx746_0⟩:=Kd.at_bool HR1_2.out x5_2 p746 q746
          cases e746
          replace hx746_0:=(HB.out.cell (World.block_lt_of_cell? w _ hx746_0)).trans hx746_0
          replace p746:=eq_true p746
          replace q746:=eq_true q746
          go_wp2
          repeat (go_quiet (fail);try go_wp2)
          go_roundg k2
          case measure => have:=HJ2.out;have:=HK2.out;omega
          case rel => exact ⟨(wrap64 (x5_2 + 1)),rfs,H',⟨by have:=HJ2.out;have:=HK2.out;omega⟩,bkA BK742,bkA BK743,hbA HB⟩
        ·rw [if_neg c33] at H
         exact absurd H (by simp)
       ·rw [if_neg c32] at H
        exact absurd H (by simp)
      ·rw [if_neg c31] at H
       have c31b0 : decide (x5_2 < (l0_2.length : Int)) = false:=decide_eq_false c31
       clear c31
       have H':=Aside0.mk H
       clear H
       have hnb41:=NB742_743.out
       have hnc41:=NB743_742.out
       obtain ⟨z0,z1,z2,z3,z4,z5,y0,y1,y2,y3,y4,y5⟩:=bc6 BK742
       go_wp2
       repeat (go_quiet (fail);try go_wp2)
       go_loopg [6] k2 (fun kq v6 w' => ∃ (x6_3 : Int),v6 = .int .i64 x6_3 ∧ Aside0 (hopmeshref49_SameBoard.l1 kq x6_3 a0_0 l0_1 l0_2 l0_3 a0_4 a0_5 a1_0 l1_1 l1_2 l1_3 a1_4 a1_5 = some r) ∧ Aside0 (kq ≤ k2) ∧ Aside0 (w'.heap[gb742]? = some (.cells #[.string a0_0,(.slice A0_1 l0_1.length c0_1),(.slice A0_2 l0_2.length c0_2),(.slice A0_3 l0_3.length c0_3),.int .i64 a0_4,.int .i64 a0_5] 50 (0,0))) ∧ Aside0 (w'.heap[gb743]? = some (.cells #[.string a1_0,(.slice A1_1 l1_1.length c1_1),(.slice A1_2 l1_2.length c1_2),(.slice A1_3 l1_3.length c1_3),.int .i64 a1_4,.int .i64 a1_5] 50 (0,0))) ∧ Aside0 (Below w.heap.size w w'))
       case atStart => exact ⟨(0),rfs,H',⟨Nat.le_refl _⟩,bkA BK742,bkA BK743,hbA HB⟩
       case round =>
        clear H'
        try clear c30
        try clear c31
        try clear c31b0
        try clear hcz42_0
        try clear hcz42_1
        try clear hcz42_2
        try clear hcz42_3
        try clear hcz42_4
        try clear hcz42_5
        try clear hfz42_0
        try clear hfz42_1
        try clear hfz42_2
        try clear hfz42_3
        try clear hfz42_4
        try clear hfz42_5
        obtain ⟨x6_3,rfl,HA,HK3,BK742,BK743,HB⟩:=hrel
        cases gk with
        | zero => exact absurd HA.out (by simp [hopmeshref49_SameBoard.l1])
        | succ k3 =>
         have H:=HA.out
         clear HA
         simp only [hopmeshref49_SameBoard.l1] at H
         by_cases c43 : x6_3 < (l0_3.length : Int)
         ·rw [if_pos c43] at H
          have c43b0 : decide (x6_3 < (l0_3.length : Int)) = true:=decide_eq_true c43
          clear c43
          by_cases c44 : 0 ≤ x6_3
          ·rw [if_pos c44] at H
           have c44b0 : decide (0 ≤ x6_3) = true:=decide_eq_true c44
           clear c44
           by_cases c45 : x6_3 < (l1_3.length : Int)
           ·rw [if_pos c45] at H
            have c45b0 : decide (x6_3 < (l1_3.length : Int)) = true:=decide_eq_true c45
            clear c45
            by_cases c46 : ((rdOf false l0_3 x6_3) != (rdOf false l1_3 x6_3)) = true
            ·rw [if_pos c46] at H
             have c46b0 : ((rdOf false l0_3 x6_3) != (rdOf false l1_3 x6_3)) = true:=c46
             (try (have c46b1 : decide ((rdOf false l0_3 x6_3) = (rdOf false l1_3 x6_3)) = false:=by simpa using c46))
             (try (have c46b2 : ((rdOf false l0_3 x6_3) == (rdOf false l1_3 x6_3)) = false:=by simpa using c46))
             (try (have c46b3 : ¬ ((rdOf false l0_3 x6_3) = (rdOf false l1_3 x6_3)):=by simpa using c46))
             clear c46
             obtain rfl:=Option.some.inj H
             have hnb47:=NB742_743.out
             have hnc47:=NB743_742.out
             obtain ⟨z0,z1,z2,z3,z4,z5,y0,y1,y2,y3,y4,y5⟩:=bc6 BK742
             have p747 : 0 ≤ (x6_3 : Int):=pos_
             have q747 : x6_3 < (l0_3.length : Int):=pos_
             obtain ⟨ad747,e747,hx747_0⟩:=Kd.at_bool HR0_3.out x6_3 p747 q747
             cases e747
             replace hx747_0:=(HB.out.cell (World.block_lt_of_cell? w _ hx747_0)).trans hx747_0
             replace p747:=eq_true p747
             replace q747:=eq_true q747
             obtain ⟨z0,z1,z2,z3,z4,z5,y0,y1,y2,y3,y4,y5⟩:=bc6 BK743
             have p748 : 0 ≤ (x6_3 : Int):=pos_
             have q748 : x6_3 < (l1_3.length : Int):=pos_
             obtain ⟨ad748,e748,hx748_0⟩:=Kd.at_bool HR1_3.out x6_3 p748 q748
             cases e748
             replace hx748_0:=(HB.out.cell (World.block_lt_of_cell? w _ hx748_0)).trans hx748_0
             replace p748:=eq_true p748
             replace q748:=eq_true q748
             go_wp2
             repeat (go_quiet (fail);try go_wp2)
             go_ret
             exact ⟨rerr,hbx HB⟩
            ·rw [if_neg c46] at H
             have c46b0 : ((rdOf false l0_3 x6_3) != (rdOf false l1_3 x6_3)) = false:=by simpa using c46
             (try (have c46b1 : decide ((rdOf false l0_3 x6_3) = (rdOf false l1_3 x6_3)) = true:=by simpa using c46))
             (try (have c46b2 : ((rdOf false l0_3 x6_3) == (rdOf false l1_3 x6_3)) = true:=by simpa using c46))
             clear c46
             have H':=Aside0.mk H
             clear H
             have hnb50:=NB742_743.out
             have hnc50:=NB743_742.out
             obtain ⟨z0,z1,z2,z3,z4,z5,y0,y1,y2,y3,y4,y5⟩:=bc6 BK742
             have p747 : 0 ≤ (x6_3 : Int):=pos_
             have q747 : x6_3 < (l0_3.length : Int):=pos_
             obtain ⟨ad747,e747,hx747_0⟩:=Kd.at_bool HR0_3.out x6_3 p747 q747
             cases e747
             replace hx747_0:=(HB.out.cell (World.block_lt_of_cell? w _ hx747_0)).trans hx747_0
             replace p747:=eq_true p747
             replace q747:=eq_true q747
             obtain ⟨z0,z1,z2,z3,z4,z5,y0,y1,y2,y3,y4,y5⟩:=bc6 BK743
             have p748 : 0 ≤ (x6_3 : Int):=pos_
             have q748 : x6_3 < (l1_3.length : Int):=pos_
             obtain ⟨ad748,e748,hx748_0⟩:=Kd.at_bool HR1_3.out x6_3 p748 q748
             cases e748
             replace hx748_0:=(HB.out.cell (World.block_lt_of_cell? w _ hx748_0)).trans hx748_0
             replace p748:=eq_true p748
             replace q748:=eq_true q748
             go_wp2
             repeat (go_quiet (fail);try go_wp2)
             go_roundg k3
             case measure => have:=HJ2.out;have:=HK2.out;have:=HK3.out;omega
             case rel => exact ⟨(wrap64 (x6_3 + 1)),rfs,H',⟨by have:=HJ2.out;have:=HK2.out;have:=HK3.out;omega⟩,bkA BK742,bkA BK743,hbA HB⟩
           ·rw [if_neg c45] at H
            exact absurd H (by simp)
          ·rw [if_neg c44] at H
           exact absurd H (by simp)
         ·rw [if_neg c43] at H
          have c43b0 : decide (x6_3 < (l0_3.length : Int)) = false:=decide_eq_false c43
          clear c43
          obtain rfl:=Option.some.inj H
          have hnb53:=NB742_743.out
          have hnc53:=NB743_742.out
          obtain ⟨z0,z1,z2,z3,z4,z5,y0,y1,y2,y3,y4,y5⟩:=bc6 BK742
          go_wp2
          repeat (go_quiet (fail);try go_wp2)
          go_ret
          exact ⟨rerr,hbx HB⟩
end Go.Proofs.Ytdigplhjfjchnaa.PQ
