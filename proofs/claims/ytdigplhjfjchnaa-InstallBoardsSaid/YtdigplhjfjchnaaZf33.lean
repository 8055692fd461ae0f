-- Printed by fprint.py and zip.py, programs of this session's, over the kit's print; Lean checks it.
import Derived.Test.YtdigplhjfjchnaaZa
import Derived.Test.YtdigplhjfjchnaaZf63
namespace Go.Proofs.Ytdigplhjfjchnaa.PQ
open Go.RowKit Go.Proofs.YtdigplhjfjchnaaW.PrintWords Go.Proofs.YtdigplhjfjchnaaW.PrintLast Go.Proofs.YtdigplhjfjchnaaW.PrintMore
attribute [local go_sem] max2_int min2_int max_two min_two max_three min_three max_four min_four   -- for this text's walks alone
set_option linter.unusedVariables false
set_option linter.unusedSimpArgs false
mutual
def hopmeshref49_Valid.j0 : Nat → Bool → ByteArray → List Int → List Bool → List Bool → Int → Int → Option (Int)
 | 0,_,_,_,_,_,_,_ => none
 | k + 1,x3,x750000,x750001,x750002,x750003,x750004,x750005 => hopmeshref49_Valid.l0 k x3 0 x750000 x750001 x750002 x750003 x750004 x750005
def hopmeshref49_Valid.l0 : Nat → Bool → Int → ByteArray → List Int → List Bool → List Bool → Int → Int → Option (Int)
 | 0,_,_,_,_,_,_,_,_ => none
 | k + 1,x3,x4,x750000,x750001,x750002,x750003,x750004,x750005 => if x4 < (x750003.length : Int) then (if x3 = true then (if 0 ≤ x4 then (if rdOf false x750003 x4 = true then (hopmeshref49_Valid.l0 k (decide (x750004 > 0)) (wrap64 (x4 + 1)) x750000 x750001 x750002 x750003 x750004 x750005) else (hopmeshref49_Valid.l0 k true (wrap64 (x4 + 1)) x750000 x750001 x750002 x750003 x750004 x750005)) else (none)) else (hopmeshref49_Valid.l0 k false (wrap64 (x4 + 1)) x750000 x750001 x750002 x750003 x750004 x750005)) else (if x3 = true then (if x750004 = 0 then (if x750005 = 0 then (some 0) else (some 1)) else (some 0)) else (some 1))
end
def hopmeshref49_Valid.f (k : Nat) (a0_0 : ByteArray) (l0_1 : List Int) (l0_2 : List Bool) (l0_3 : List Bool) (a0_4 a0_5 : Int) : Option (Int):=(hopmeshref49_Identifier.f a0_0).bind fun t750 => (if t750 = true then ((hopmeshref49_nodes.f k l0_1).bind fun t751 => (if t751 = true then (if (l0_2.length : Int) = (l0_1.length : Int) then (if (l0_3.length : Int) = (l0_1.length : Int) then (if a0_4 ≥ 0 then (if a0_4 ≤ 1048576 then (if a0_5 ≥ 0 then (hopmeshref49_Valid.j0 k (decide (a0_5 ≤ 1073741824)) a0_0 l0_1 l0_2 l0_3 a0_4 a0_5) else (hopmeshref49_Valid.j0 k false a0_0 l0_1 l0_2 l0_3 a0_4 a0_5)) else (hopmeshref49_Valid.j0 k false a0_0 l0_1 l0_2 l0_3 a0_4 a0_5)) else (hopmeshref49_Valid.j0 k false a0_0 l0_1 l0_2 l0_3 a0_4 a0_5)) else (hopmeshref49_Valid.j0 k false a0_0 l0_1 l0_2 l0_3 a0_4 a0_5)) else (hopmeshref49_Valid.j0 k false a0_0 l0_1 l0_2 l0_3 a0_4 a0_5)) else (hopmeshref49_Valid.j0 k false a0_0 l0_1 l0_2 l0_3 a0_4 a0_5))) else (hopmeshref49_Valid.j0 k false a0_0 l0_1 l0_2 l0_3 a0_4 a0_5))
set_option maxHeartbeats 8000000 in
set_option maxRecDepth 100000 in
theorem hopmeshref49_Valid.calls (k : Nat) (a0_0 : ByteArray) (A0_1 : Option Addr) (c0_1 : Nat) (l0_1 : List Int) (A0_2 : Option Addr) (c0_2 : Nat) (l0_2 : List Bool) (A0_3 : Option Addr) (c0_3 : Nat) (l0_3 : List Bool) (a0_4 a0_5 r : Int) (w : World) (hr0_1 : Kd.C (Kd.int .i64) w A0_1 l0_1.length l0_1) (hc0_1 : l0_1.length ≤ c0_1) (hr0_2 : Kd.C Kd.bool w A0_2 l0_2.length l0_2) (hc0_2 : l0_2.length ≤ c0_2) (hr0_3 : Kd.C Kd.bool w A0_3 l0_3.length l0_3) (hc0_3 : l0_3.length ≤ c0_3) (h : hopmeshref49_Valid.f k a0_0 l0_1 l0_2 l0_3 a0_4 a0_5 = some r) :
 Calls Try.prog 33 #[.agg #[.string a0_0,.slice A0_1 l0_1.length c0_1,.slice A0_2 l0_2.length c0_2,.slice A0_3 l0_3.length c0_3,.int .i64 a0_4,.int .i64 a0_5]] w fun e w' => e = .returned (.int .i64 r) ∧ Below w.heap.size w w':=by
 have hu50:=Try.underlying50
 have HR0_1:=Aside0.mk hr0_1
 have HC0_1:=Aside0.mk hc0_1
 clear hr0_1 hc0_1
 have HR0_2:=Aside0.mk hr0_2
 have HC0_2:=Aside0.mk hc0_2
 clear hr0_2 hc0_2
 have HR0_3:=Aside0.mk hr0_3
 have HC0_3:=Aside0.mk hc0_3
 clear hr0_3 hc0_3
 have HB:=Aside0.mk (Below.refl w.heap.size w)
 have H : ((hopmeshref49_Identifier.f a0_0).bind fun t750 => (if t750 = true then ((hopmeshref49_nodes.f k l0_1).bind fun t751 => (if t751 = true then (if (l0_2.length : Int) = (l0_1.length : Int) then (if (l0_3.length : Int) = (l0_1.length : Int) then (if a0_4 ≥ 0 then (if a0_4 ≤ 1048576 then (if a0_5 ≥ 0 then (hopmeshref49_Valid.j0 k (decide (a0_5 ≤ 1073741824)) a0_0 l0_1 l0_2 l0_3 a0_4 a0_5) else (hopmeshref49_Valid.j0 k false a0_0 l0_1 l0_2 l0_3 a0_4 a0_5)) else (hopmeshref49_Valid.j0 k false a0_0 l0_1 l0_2 l0_3 a0_4 a0_5)) else (hopmeshref49_Valid.j0 k false a0_0 l0_1 l0_2 l0_3 a0_4 a0_5)) else (hopmeshref49_Valid.j0 k false a0_0 l0_1 l0_2 l0_3 a0_4 a0_5)) else (hopmeshref49_Valid.j0 k false a0_0 l0_1 l0_2 l0_3 a0_4 a0_5)) else (hopmeshref49_Valid.j0 k false a0_0 l0_1 l0_2 l0_3 a0_4 a0_5))) else (hopmeshref49_Valid.j0 k false a0_0 l0_1 l0_2 l0_3 a0_4 a0_5))) = some r:=h
 clear h
 have HC2:=Aside0.mk H
 clear H
 go_enter Try.func33,Try.ntmps33
 go_upto_region 1 with (first | ((with_reducible refine gate_dst (N:=1) rfl ?_);(try (refine gate_guard (by rfl) ?_;dsimp only));refine boxE 1 #[.string a0_0,.slice A0_1 l0_1.length c0_1,.slice A0_2 l0_2.length c0_2,.slice A0_3 l0_3.length c0_3,.int .i64 a0_4,.int .i64 a0_5] 50 ?_;intro gb749 hg w3 hbox hb;have BK749:=Aside0.mk (hbox);have GW749:=gw hg HB;have GE749:=gw hg HB;replace HB:=hbS HB hb;clear hb hbox hg))
 (try simp only [Act.put,List.setIfInBounds_toArray,List.set_cons_zero,List.set_cons_succ])
 go_cut [3] (fun v3 wc => ∃ (kq : Nat) (x3_1 : Bool),v3 = .bool x3_1 ∧ Aside0 (hopmeshref49_Valid.j0 kq x3_1 a0_0 l0_1 l0_2 l0_3 a0_4 a0_5 = some r) ∧ Aside0 (kq ≤ k) ∧ Aside0 (wc.heap[gb749]? = some (.cells #[.string a0_0,(.slice A0_1 l0_1.length c0_1),(.slice A0_2 l0_2.length c0_2),(.slice A0_3 l0_3.length c0_3),.int .i64 a0_4,.int .i64 a0_5] 50 (0,0))) ∧ Aside0 (Below w.heap.size w wc))
 case first =>
  have H:=HC2.out
  clear HC2
  replace H:=Option.bind_eq_some_iff.mp H
  obtain ⟨t750,A40,H⟩:=H
  (try dsimp only at H)
  have A4:=Aside0.mk A40
  clear A40
  by_cases c5 : t750 = true
  ·subst c5
   rw [if_pos rfl] at H
   replace H:=Option.bind_eq_some_iff.mp H
   obtain ⟨t751,A60,H⟩:=H
   (try dsimp only at H)
   have A6:=Aside0.mk A60
   clear A60
   by_cases c7 : t751 = true
   ·subst c7
    rw [if_pos rfl] at H
    by_cases c8 : (l0_2.length : Int) = (l0_1.length : Int)
    ·rw [if_pos c8] at H
     have c8b0 : ((l0_2.length : Int) == (l0_1.length : Int)) = true:=beq_iff_eq.mpr c8
     have c8b1 : ((l0_2.length : Int) != (l0_1.length : Int)) = false:=bne_eq_false_iff_eq.mpr c8
     have c8b2 : (l0_2.length == l0_1.length) = true:=by first | simpa using c8 | (simp at c8 ⊢;omega)
     clear c8
     (first | rw [c8b0] | (simp only [i64_w,i32_w];rw [c8b0]) | skip)
     by_cases c9 : (l0_3.length : Int) = (l0_1.length : Int)
     ·rw [if_pos c9] at H
      have c9b0 : ((l0_3.length : Int) == (l0_1.length : Int)) = true:=beq_iff_eq.mpr c9
      have c9b1 : ((l0_3.length : Int) != (l0_1.length : Int)) = false:=bne_eq_false_iff_eq.mpr c9
      have c9b2 : (l0_3.length == l0_1.length) = true:=by first | simpa using c9 | (simp at c9 ⊢;omega)
      clear c9
      by_cases c10 : a0_4 ≥ 0
      ·rw [if_pos c10] at H
       have c10b0 : decide (0 ≤ a0_4) = true:=decide_eq_true c10
       clear c10
       by_cases c11 : a0_4 ≤ 1048576
       ·rw [if_pos c11] at H
        have c11b0 : decide (a0_4 ≤ 1048576) = true:=decide_eq_true c11
        clear c11
        by_cases c12 : a0_5 ≥ 0
        ·rw [if_pos c12] at H
         have c12b0 : decide (0 ≤ a0_5) = true:=decide_eq_true c12
         clear c12
         have H':=Aside0.mk H
         clear H
         obtain ⟨z0,z1,z2,z3,z4,z5,y0,y1,y2,y3,y4,y5⟩:=bc6 BK749
         go_wp2_with (first | ((with_reducible refine gate_callee (f:=62) rfl ?_);refine goesL_ (some 7) rfl rfl Try.func62 (by kernel_rfl) rfl #[.string a0_0] rfl sma ?_;(with_reducible refine (hopmeshref49_Identifier.calls a0_0 true _ A4.out).mono ?_);rintro e w' ⟨rfl,⟨nd,rfl⟩⟩;refine ⟨_,rfl,?_⟩) | (go_at_call 63;(with_reducible refine (hopmeshref49_nodes.calls k _ _ l0_1 true _ ?side1 HC0_1.out A6.out).mono ?_);(case side1 => repeat (first | exact (Kd.C_below HR0_1.out (hbx HB)) | (with_reducible refine Kd.C_alloc ?_ _) | (with_reducible refine Kd.C_drewN ?_ _) | (with_reducible refine Kd.C_drew ?_)));rintro e w' ⟨rfl,⟨nd,rfl⟩⟩))
         go_meet
         case rel => exact ⟨_,(decide (a0_5 ≤ 1073741824)),rfs,H',kle,bkA BK749,hbA HB⟩
        ·rw [if_neg c12] at H
         have c12b0 : decide (0 ≤ a0_5) = false:=decide_eq_false c12
         clear c12
         have H':=Aside0.mk H
         clear H
         obtain ⟨z0,z1,z2,z3,z4,z5,y0,y1,y2,y3,y4,y5⟩:=bc6 BK749
         go_wp2_with (first | ((with_reducible refine gate_callee (f:=62) rfl ?_);refine goesL_ (some 7) rfl rfl Try.func62 (by kernel_rfl) rfl #[.string a0_0] rfl sma ?_;(with_reducible refine (hopmeshref49_Identifier.calls a0_0 true _ A4.out).mono ?_);rintro e w' ⟨rfl,⟨nd,rfl⟩⟩;refine ⟨_,rfl,?_⟩) | (go_at_call 63;(with_reducible refine (hopmeshref49_nodes.calls k _ _ l0_1 true _ ?side1 HC0_1.out A6.out).mono ?_);(case side1 => repeat (first | exact (Kd.C_below HR0_1.out (hbx HB)) | (with_reducible refine Kd.C_alloc ?_ _) | (with_reducible refine Kd.C_drewN ?_ _) | (with_reducible refine Kd.C_drew ?_)));rintro e w' ⟨rfl,⟨nd,rfl⟩⟩))
         go_meet
         case rel => exact ⟨_,(false),rfs,H',kle,bkA BK749,hbA HB⟩
       ·rw [if_neg c11] at H
        have c11b0 : decide (a0_4 ≤ 1048576) = false:=decide_eq_false c11
        clear c11
        have H':=Aside0.mk H
        clear H
        obtain ⟨z0,z1,z2,z3,z4,z5,y0,y1,y2,y3,y4,y5⟩:=bc6 BK749
        go_wp2_with (first | ((with_reducible refine gate_callee (f:=62) rfl ?_);refine goesL_ (some 7) rfl rfl Try.func62 (by kernel_rfl) rfl #[.string a0_0] rfl sma ?_;(with_reducible refine (hopmeshref49_Identifier.calls a0_0 true _ A4.out).mono ?_);rintro e w' ⟨rfl,⟨nd,rfl⟩⟩;refine ⟨_,rfl,?_⟩) | (go_at_call 63;(with_reducible refine (hopmeshref49_nodes.calls k _ _ l0_1 true _ ?side1 HC0_1.out A6.out).mono ?_);(case side1 => repeat (first | exact (Kd.C_below HR0_1.out (hbx HB)) | (with_reducible refine Kd.C_alloc ?_ _) | (with_reducible refine Kd.C_drewN ?_ _) | (with_reducible refine Kd.C_drew ?_)));rintro e w' ⟨rfl,⟨nd,rfl⟩⟩))
        go_meet
        case rel => exact ⟨_,(false),rfs,H',kle,bkA BK749,hbA HB⟩
      ·rw [if_neg c10] at H
       have c10b0 : decide (0 ≤ a0_4) = false:=decide_eq_false c10
       clear c10
       have H':=Aside0.mk H
       clear H
       obtain ⟨z0,z1,z2,z3,z4,z5,y0,y1,y2,y3,y4,y5⟩:=bc6 BK749
       go_wp2_with (first | ((with_reducible refine gate_callee (f:=62) rfl ?_);refine goesL_ (some 7) rfl rfl Try.func62 (by kernel_rfl) rfl #[.string a0_0] rfl sma ?_;(with_reducible refine (hopmeshref49_Identifier.calls a0_0 true _ A4.out).mono ?_);rintro e w' ⟨rfl,⟨nd,rfl⟩⟩;refine ⟨_,rfl,?_⟩) | (go_at_call 63;(with_reducible refine (hopmeshref49_nodes.calls k _ _ l0_1 true _ ?side1 HC0_1.out A6.out).mono ?_);(case side1 => repeat (first | exact (Kd.C_below HR0_1.out (hbx HB)) | (with_reducible refine Kd.C_alloc ?_ _) | (with_reducible refine Kd.C_drewN ?_ _) | (with_reducible refine Kd.C_drew ?_)));rintro e w' ⟨rfl,⟨nd,rfl⟩⟩))
       go_meet
       case rel => exact ⟨_,(false),rfs,H',kle,bkA BK749,hbA HB⟩
     ·rw [if_neg c9] at H
      have c9b0 : ((l0_3.length : Int) == (l0_1.length : Int)) = false:=beq_eq_false_iff_ne.mpr c9
      have c9b1 : ((l0_3.length : Int) != (l0_1.length : Int)) = true:=bne_iff_ne.mpr c9
      have c9b2 : (l0_3.length == l0_1.length) = false:=by first | simpa using c9 | (simp at c9 ⊢;omega)
      have H':=Aside0.mk H
      clear H
      obtain ⟨z0,z1,z2,z3,z4,z5,y0,y1,y2,y3,y4,y5⟩:=bc6 BK749
      go_wp2_with (first | ((with_reducible refine gate_callee (f:=62) rfl ?_);refine goesL_ (some 7) rfl rfl Try.func62 (by kernel_rfl) rfl #[.string a0_0] rfl sma ?_;(with_reducible refine (hopmeshref49_Identifier.calls a0_0 true _ A4.out).mono ?_);rintro e w' ⟨rfl,⟨nd,rfl⟩⟩;refine ⟨_,rfl,?_⟩) | (go_at_call 63;(with_reducible refine (hopmeshref49_nodes.calls k _ _ l0_1 true _ ?side1 HC0_1.out A6.out).mono ?_);(case side1 => repeat (first | exact (Kd.C_below HR0_1.out (hbx HB)) | (with_reducible refine Kd.C_alloc ?_ _) | (with_reducible refine Kd.C_drewN ?_ _) | (with_reducible refine Kd.C_drew ?_)));rintro e w' ⟨rfl,⟨nd,rfl⟩⟩))
      go_meet
      case rel => exact ⟨_,(false),rfs,H',kle,bkA BK749,hbA HB⟩
    ·rw [if_neg c8] at H
     have c8b0 : ((l0_2.length : Int) == (l0_1.length : Int)) = false:=beq_eq_false_iff_ne.mpr c8
     have c8b1 : ((l0_2.length : Int) != (l0_1.length : Int)) = true:=bne_iff_ne.mpr c8
     have c8b2 : (l0_2.length == l0_1.length) = false:=by first | simpa using c8 | (simp at c8 ⊢;omega)
     (first | rw [c8b0] | (simp only [i64_w,i32_w];rw [c8b0]) | skip)
     have H':=Aside0.mk H
     clear H
     obtain ⟨z0,z1,z2,z3,z4,z5,y0,y1,y2,y3,y4,y5⟩:=bc6 BK749
     go_wp2_with (first | ((with_reducible refine gate_callee (f:=62) rfl ?_);refine goesL_ (some 7) rfl rfl Try.func62 (by kernel_rfl) rfl #[.string a0_0] rfl sma ?_;(with_reducible refine (hopmeshref49_Identifier.calls a0_0 true _ A4.out).mono ?_);rintro e w' ⟨rfl,⟨nd,rfl⟩⟩;refine ⟨_,rfl,?_⟩) | (go_at_call 63;(with_reducible refine (hopmeshref49_nodes.calls k _ _ l0_1 true _ ?side1 HC0_1.out A6.out).mono ?_);(case side1 => repeat (first | exact (Kd.C_below HR0_1.out (hbx HB)) | (with_reducible refine Kd.C_alloc ?_ _) | (with_reducible refine Kd.C_drewN ?_ _) | (with_reducible refine Kd.C_drew ?_)));rintro e w' ⟨rfl,⟨nd,rfl⟩⟩))
     go_meet
     case rel => exact ⟨_,(false),rfs,H',kle,bkA BK749,hbA HB⟩
   ·replace c7:=Bool.eq_false_iff.mpr c7
    subst c7
    rw [if_neg (show ¬ (false = true) by decide)] at H
    have H':=Aside0.mk H
    clear H
    obtain ⟨z0,z1,z2,z3,z4,z5,y0,y1,y2,y3,y4,y5⟩:=bc6 BK749
    go_wp2_with (first | ((with_reducible refine gate_callee (f:=62) rfl ?_);refine goesL_ (some 7) rfl rfl Try.func62 (by kernel_rfl) rfl #[.string a0_0] rfl sma ?_;(with_reducible refine (hopmeshref49_Identifier.calls a0_0 true _ A4.out).mono ?_);rintro e w' ⟨rfl,⟨nd,rfl⟩⟩;refine ⟨_,rfl,?_⟩) | (go_at_call 63;(with_reducible refine (hopmeshref49_nodes.calls k _ _ l0_1 false _ ?side1 HC0_1.out A6.out).mono ?_);(case side1 => repeat (first | exact (Kd.C_below HR0_1.out (hbx HB)) | (with_reducible refine Kd.C_alloc ?_ _) | (with_reducible refine Kd.C_drewN ?_ _) | (with_reducible refine Kd.C_drew ?_)));rintro e w' ⟨rfl,⟨nd,rfl⟩⟩))
    go_meet
    case rel => exact ⟨_,(false),rfs,H',kle,bkA BK749,hbA HB⟩
  ·replace c5:=Bool.eq_false_iff.mpr c5
   subst c5
   rw [if_neg (show ¬ (false = true) by decide)] at H
   have H':=Aside0.mk H
   clear H
   obtain ⟨z0,z1,z2,z3,z4,z5,y0,y1,y2,y3,y4,y5⟩:=bc6 BK749
   go_wp2_with (first | ((with_reducible refine gate_callee (f:=62) rfl ?_);refine goesL_ (some 7) rfl rfl Try.func62 (by kernel_rfl) rfl #[.string a0_0] rfl sma ?_;(with_reducible refine (hopmeshref49_Identifier.calls a0_0 false _ A4.out).mono ?_);rintro e w' ⟨rfl,⟨nd,rfl⟩⟩;refine ⟨_,rfl,?_⟩))
   go_meet
   case rel => exact ⟨_,(false),rfs,H',kle,bkA BK749,hbA HB⟩
 case rest =>
  clear HC2
  obtain ⟨kq,x3_1,rfl,HA,HJ1,BK749,HB⟩:=hcut
  cases kq with
  | zero => exact absurd HA.out (by simp [hopmeshref49_Valid.j0])
  | succ kj1 =>
   have H:=HA.out
   clear HA
   simp only [hopmeshref49_Valid.j0] at H
   have H':=Aside0.mk H
   clear H
   go_wp2
   go_loopg [3,4] kj1 (fun kq v3 v4 w' => ∃ (x3_2 : Bool) (x4_2 : Int),v3 = .bool x3_2 ∧ v4 = .int .i64 x4_2 ∧ Aside0 (hopmeshref49_Valid.l0 kq x3_2 x4_2 a0_0 l0_1 l0_2 l0_3 a0_4 a0_5 = some r) ∧ Aside0 (kq ≤ kj1) ∧ Aside0 (w'.heap[gb749]? = some (.cells #[.string a0_0,(.slice A0_1 l0_1.length c0_1),(.slice A0_2 l0_2.length c0_2),(.slice A0_3 l0_3.length c0_3),.int .i64 a0_4,.int .i64 a0_5] 50 (0,0))) ∧ Aside0 (Below w.heap.size w w'))
   case atStart => exact ⟨(x3_1),(0),rfs,rfs,H',⟨Nat.le_refl _⟩,bkA BK749,hbA HB⟩
   case round =>
    clear H'
    obtain ⟨x3_2,x4_2,rfl,rfl,HA,HK2,BK749,HB⟩:=hrel
    cases gk with
    | zero => exact absurd HA.out (by simp [hopmeshref49_Valid.l0])
    | succ k2 =>
     have H:=HA.out
     clear HA
     simp only [hopmeshref49_Valid.l0] at H
     by_cases c21 : x4_2 < (l0_3.length : Int)
     ·rw [if_pos c21] at H
      have c21b0 : decide (x4_2 < (l0_3.length : Int)) = true:=decide_eq_true c21
      clear c21
      by_cases c22 : x3_2 = true
      ·subst c22
       rw [if_pos rfl] at H
       by_cases c23 : 0 ≤ x4_2
       ·rw [if_pos c23] at H
        have c23b0 : decide (0 ≤ x4_2) = true:=decide_eq_true c23
        clear c23
        obtain ⟨bq24,hbq24⟩ : ∃ b_ : Bool,b_ = (rdOf false l0_3 x4_2):=⟨_,rfl⟩
        replace H : (if bq24 = true then (hopmeshref49_Valid.l0 k2 (decide (a0_4 > 0)) (wrap64 (x4_2 + 1)) a0_0 l0_1 l0_2 l0_3 a0_4 a0_5) else (hopmeshref49_Valid.l0 k2 true (wrap64 (x4_2 + 1)) a0_0 l0_1 l0_2 l0_3 a0_4 a0_5)) = some r:=by rw [← hbq24] at H;exact H
        have Nbq24:=Aside0.mk hbq24
        clear hbq24
        by_cases c25 : bq24 = true
        ·subst c25
         rw [if_pos rfl] at H
         have H':=Aside0.mk H
         clear H
         obtain ⟨z0,z1,z2,z3,z4,z5,y0,y1,y2,y3,y4,y5⟩:=bc6 BK749
         have p752 : 0 ≤ (x4_2 : Int):=pos_
         have q752 : x4_2 < (l0_3.length : Int):=pos_
         obtain ⟨ad752,e752,hx752_0⟩:=Kd.at_bool HR0_3.out x4_2 p752 q752
         (try rw [← Nbq24.out] at hx752_0)
         cases e752
         replace hx752_0:=(HB.out.cell (World.block_lt_of_cell? w _ hx752_0)).trans hx752_0
         replace p752:=eq_true p752
         replace q752:=eq_true q752
         go_wp2
         go_roundg k2
         case measure => have:=HJ1.out;have:=HK2.out;omega
         case rel => exact ⟨(decide (a0_4 > 0)),(wrap64 (x4_2 + 1)),rfs,rfs,H',⟨by have:=HJ1.out;have:=HK2.out;omega⟩,bkA BK749,hbA HB⟩
        ·replace c25:=Bool.eq_false_iff.mpr c25
         subst c25
         rw [if_neg (show ¬ (false = true) by decide)] at H
         have H':=Aside0.mk H
         clear H
         obtain ⟨z0,z1,z2,z3,z4,z5,y0,y1,y2,y3,y4,y5⟩:=bc6 BK749
         have p752 : 0 ≤ (x4_2 : Int):=pos_
         have q752 : x4_2 < (l0_3.length : Int):=pos_
         obtain ⟨ad752,e752,hx752_0⟩:=Kd.at_bool HR0_3.out x4_2 p752 q752
         (try rw [← Nbq24.out] at hx752_0)
         cases e752
         replace hx752_0:=(HB.out.cell (World.block_lt_of_cell? w _ hx752_0)).trans hx752_0
         replace p752:=eq_true p752
         replace q752:=eq_true q752
         go_wp2
         go_roundg k2
         case measure => have:=HJ1.out;have:=HK2.out;omega
         case rel => exact ⟨(true),(wrap64 (x4_2 + 1)),rfs,rfs,H',⟨by have:=HJ1.out;have:=HK2.out;omega⟩,bkA BK749,hbA HB⟩
       ·rw [if_neg c23] at H
        exact absurd H (by simp)
      ·replace c22:=Bool.eq_false_iff.mpr c22
       subst c22
       rw [if_neg (show ¬ (false = true) by decide)] at H
       have H':=Aside0.mk H
       clear H
       obtain ⟨z0,z1,z2,z3,z4,z5,y0,y1,y2,y3,y4,y5⟩:=bc6 BK749
       go_wp2
       go_roundg k2
       case measure => have:=HJ1.out;have:=HK2.out;omega
       case rel => exact ⟨(false),(wrap64 (x4_2 + 1)),rfs,rfs,H',⟨by have:=HJ1.out;have:=HK2.out;omega⟩,bkA BK749,hbA HB⟩
     ·rw [if_neg c21] at H
      have c21b0 : decide (x4_2 < (l0_3.length : Int)) = false:=decide_eq_false c21
      clear c21
      by_cases c29 : x3_2 = true
      ·subst c29
       rw [if_pos rfl] at H
       by_cases c30 : a0_4 = 0
       ·rw [if_pos c30] at H
        have c30b0 : (a0_4 == 0) = true:=beq_iff_eq.mpr c30
        have c30b1 : (a0_4 != 0) = false:=bne_eq_false_iff_eq.mpr c30
        clear c30
        by_cases c31 : a0_5 = 0
        ·rw [if_pos c31] at H
         have c31b0 : (a0_5 == 0) = true:=beq_iff_eq.mpr c31
         have c31b1 : (a0_5 != 0) = false:=bne_eq_false_iff_eq.mpr c31
         clear c31
         obtain rfl:=Option.some.inj H
         obtain ⟨z0,z1,z2,z3,z4,z5,y0,y1,y2,y3,y4,y5⟩:=bc6 BK749
         go_wp2
         go_ret
         exact ⟨rerr,hbx HB⟩
        ·rw [if_neg c31] at H
         have c31b0 : (a0_5 == 0) = false:=beq_eq_false_iff_ne.mpr c31
         have c31b1 : (a0_5 != 0) = true:=bne_iff_ne.mpr c31
         obtain rfl:=Option.some.inj H
         obtain ⟨z0,z1,z2,z3,z4,z5,y0,y1,y2,y3,y4,y5⟩:=bc6 BK749
         go_wp2
         go_ret
         exact ⟨rerr,hbx HB⟩
       ·rw [if_neg c30] at H
        have c30b0 : (a0_4 == 0) = false:=beq_eq_false_iff_ne.mpr c30
        have c30b1 : (a0_4 != 0) = true:=bne_iff_ne.mpr c30
        obtain rfl:=Option.some.inj H
        obtain ⟨z0,z1,z2,z3,z4,z5,y0,y1,y2,y3,y4,y5⟩:=bc6 BK749
        go_wp2
        go_ret
        exact ⟨rerr,hbx HB⟩
      ·replace c29:=Bool.eq_false_iff.mpr c29
       subst c29
       rw [if_neg (show ¬ (false = true) by decide)] at H
       obtain rfl:=Option.some.inj H
       obtain ⟨z0,z1,z2,z3,z4,z5,y0,y1,y2,y3,y4,y5⟩:=bc6 BK749
       go_wp2
       go_ret
       exact ⟨rerr,hbx HB⟩
end Go.Proofs.Ytdigplhjfjchnaa.PQ
