-- Printed by fprint.py and zip.py, programs of this session's, over the kit's print; Lean checks it.
import Derived.Test.YtdigplhjfjchnaaZ0
namespace Go.Proofs.Ytdigplhjfjchnaa.PQ
open Go.RowKit Go.Proofs.YtdigplhjfjchnaaW.PrintWords Go.Proofs.YtdigplhjfjchnaaW.PrintLast Go.Proofs.YtdigplhjfjchnaaW.PrintMore
attribute [local go_sem] max2_int min2_int max_two min_two max_three min_three max_four min_four   -- for this text's walks alone
set_option linter.unusedVariables false
set_option linter.unusedSimpArgs false
def rep32 (a : ByteArray) : ByteArray:=⟨(Go.Lib.repeatL a.data.toList 32).toArray⟩
def hopmeshlaw49_id.f (a0 : ByteArray) : Option (ByteArray):=if a0.size = 1 then some (rep32 a0) else none
set_option maxHeartbeats 8000000 in
set_option maxRecDepth 100000 in
theorem hopmeshlaw49_id.calls (a0 r : ByteArray) (w : World) (h : hopmeshlaw49_id.f a0 = some r) :
 Calls Try.prog 11 #[.string a0] w fun e w' => e = .returned (.string r) ∧ Below w.heap.size w w':=by
 unfold hopmeshlaw49_id.f at h
 by_cases hs : a0.size = 1
 ·rw [if_pos hs] at h
  obtain rfl:=Option.some.inj h
  clear h
  go_enter Try.func11,Try.ntmps11
  go_wp2_with ((with_reducible refine gate_callee (f:=41) rfl ?_);refine goesL_ (some 4) rfl rfl Try.func41 (by kernel_rfl) rfl #[.string a0,.int .i64 32] rfl (by (try simp only [List.map_toArray,List.map_cons,List.map_nil]);first | done | rfl) ?_;refine (Go.Proofs.Try.strings_Repeat a0 32 _ (by omega) (by omega)).mono ?_;rintro e w1 ⟨rfl,hb⟩;refine ⟨_,rfl,?_⟩)
  go_ret
  exact ⟨rfl,hb⟩
 ·rw [if_neg hs] at h
  exact absurd h (by simp)
end Go.Proofs.Ytdigplhjfjchnaa.PQ
namespace Go.Proofs.Ytdigplhjfjchnaa.PQ
open Go.RowKit Go.Proofs.YtdigplhjfjchnaaW.PrintWords Go.Proofs.YtdigplhjfjchnaaW.PrintLast Go.Proofs.YtdigplhjfjchnaaW.PrintMore
attribute [local go_sem] max2_int min2_int max_two min_two max_three min_three max_four min_four   -- for this text's walks alone
set_option linter.unusedVariables false
set_option linter.unusedSimpArgs false
def install_identifier.f (a0 : ByteArray) : Option (Bool):=some ((a0.size : Int) == 32)
set_option maxHeartbeats 8000000 in
set_option maxRecDepth 100000 in
theorem install_identifier.calls (a0 : ByteArray) (r : Bool) (w : World) (h : install_identifier.f a0 = some r) :
 Calls Try.prog 42 #[.string a0] w fun e w' => e = .returned (.bool r) ∧ Drawn0 w w':=by
 have H : (some ((a0.size : Int) == 32)) = some r:=h
 clear h
 obtain rfl:=Option.some.inj H
 go_enter Try.func42,Try.ntmps42
 go_wp2
 go_ret
 exact ⟨by first | rfl | (simp;done) | (simp [*];done),by repeat (first | exact Drawn0.refl _ | apply Drawn0.step)⟩
end Go.Proofs.Ytdigplhjfjchnaa.PQ
namespace Go.Proofs.Ytdigplhjfjchnaa.PQ
open Go.RowKit Go.Proofs.YtdigplhjfjchnaaW.PrintWords Go.Proofs.YtdigplhjfjchnaaW.PrintLast Go.Proofs.YtdigplhjfjchnaaW.PrintMore
attribute [local go_sem] max2_int min2_int max_two min_two max_three min_three max_four min_four   -- for this text's walks alone
set_option linter.unusedVariables false
set_option linter.unusedSimpArgs false
def install_Check_1.f (a0 : ByteArray) : Option (Bool):=if a0.toList = ([] : List UInt8) then (some true) else ((install_identifier.f a0).bind fun t101 => (some t101))
set_option maxHeartbeats 8000000 in
set_option maxRecDepth 100000 in
theorem install_Check_1.calls (a0 : ByteArray) (r : Bool) (w : World) (h : install_Check_1.f a0 = some r) :
 Calls Try.prog 47 #[.string a0] w fun e w' => e = .returned (.bool r) ∧ Drawn0 w w':=by
 have H : (if a0.toList = ([] : List UInt8) then (some true) else ((install_identifier.f a0).bind fun t101 => (some t101))) = some r:=h
 clear h
 by_cases c2 : a0.toList = ([] : List UInt8)
 ·rw [if_pos c2] at H
  have c2b0 : (a0.toList == ([] : List UInt8)) = true:=beq_iff_eq.mpr c2
  have c2b1 : (a0.toList != ([] : List UInt8)) = false:=bne_eq_false_iff_eq.mpr c2
  clear c2
  obtain rfl:=Option.some.inj H
  go_enter Try.func47,Try.ntmps47
  go_wp2
  go_ret
  exact ⟨by first | rfl | (simp;done) | (simp [*];done),by repeat (first | exact Drawn0.refl _ | apply Drawn0.step)⟩
 ·rw [if_neg c2] at H
  have c2b0 : (a0.toList == ([] : List UInt8)) = false:=beq_eq_false_iff_ne.mpr c2
  have c2b1 : (a0.toList != ([] : List UInt8)) = true:=bne_iff_ne.mpr c2
  replace H:=Option.bind_eq_some_iff.mp H
  obtain ⟨t101,A30,H⟩:=H
  (try dsimp only at H)
  have A3:=Aside0.mk A30
  clear A30
  obtain rfl:=Option.some.inj H
  go_enter Try.func47,Try.ntmps47
  go_wp2_with (first | (go_at_call 42;(with_reducible refine (install_identifier.calls a0 t101 _ A3.out).mono ?_);rintro e w' ⟨rfl,⟨nd,rfl⟩⟩))
  go_ret
  exact ⟨by first | rfl | (simp;done) | (simp [*];done),by repeat (first | exact Drawn0.refl _ | apply Drawn0.step)⟩
end Go.Proofs.Ytdigplhjfjchnaa.PQ
namespace Go.Proofs.Ytdigplhjfjchnaa.PQ
open Go.RowKit Go.Proofs.YtdigplhjfjchnaaW.PrintWords Go.Proofs.YtdigplhjfjchnaaW.PrintLast Go.Proofs.YtdigplhjfjchnaaW.PrintMore
attribute [local go_sem] max2_int min2_int max_two min_two max_three min_three max_four min_four   -- for this text's walks alone
set_option linter.unusedVariables false
set_option linter.unusedSimpArgs false
def install_disarm.f (a0_0 a0_1 : ByteArray) (a0_2 : Bool) (a0_3 : ByteArray) (a0_4 a0_5 : Int) : Option (ByteArray × ByteArray × Bool × ByteArray × Int × Int):=some (a0_0,a0_1,false,(⟨#[]⟩ : ByteArray),0,a0_5)
set_option maxHeartbeats 8000000 in
set_option maxRecDepth 100000 in
theorem install_disarm.calls (a0_0 a0_1 : ByteArray) (a0_2 : Bool) (a0_3 : ByteArray) (a0_4 a0_5 : Int) (r1 r2 : ByteArray) (r3 : Bool) (r4 : ByteArray) (r5 r6 : Int) (w : World) (h : install_disarm.f a0_0 a0_1 a0_2 a0_3 a0_4 a0_5 = some (r1,r2,r3,r4,r5,r6)) :
 Calls Try.prog 43 #[.agg #[.string a0_0,.string a0_1,.bool a0_2,.string a0_3,.int .i64 a0_4,.int .i64 a0_5]] w fun e w' => e = .returned (.agg #[.string r1,.string r2,.bool r3,.string r4,.int .i64 r5,.int .i64 r6]) ∧ Below w.heap.size w w':=by
 have hu28:=Try.underlying28
 have HB:=Aside0.mk (Below.refl w.heap.size w)
 have H : (some (a0_0,a0_1,false,(⟨#[]⟩ : ByteArray),0,a0_5)) = some (r1,r2,r3,r4,r5,r6):=h
 clear h
 simp only [Option.some.injEq,Prod.mk.injEq] at H
 obtain ⟨rfl,rfl,rfl,rfl,rfl,rfl⟩:=H
 go_enter Try.func43,Try.ntmps43
 go_wp2_with (first | ((with_reducible refine gate_dst (N:=1) rfl ?_);refine boxE 1 #[.string a0_0,.string a0_1,.bool a0_2,.string a0_3,.int .i64 a0_4,.int .i64 a0_5] 28 ?_;intro gb106 hg w2 hbox hb;have BK106:=Aside0.mk (hbox);have GW106:=gw hg HB;have GE106:=gw hg HB;replace HB:=hbS HB hb;clear hb hbox hg) | ((with_reducible refine gate_dst (N:=2) rfl ?_);refine boxE 2 #[.string (⟨#[]⟩ : ByteArray),.string (⟨#[]⟩ : ByteArray),.bool false,.string (⟨#[]⟩ : ByteArray),.int .i64 0,.int .i64 0] 28 ?_;intro gb107 hg w3 hbox hb;have BK107:=Aside0.mk (hbox);have GW107:=gw hg HB;have GE107:=gw hg HB;replace HB:=hbS HB hb;have NB106_107:=nbl hg BK106;have NB107_106:=nbg hg BK106;replace BK106:=bkB BK106 hb;clear hb hbox hg;have hnb4:=NB106_107.out;have hnc4:=NB107_106.out;obtain ⟨z0,z1,z2,z3,z4,z5,y0,y1,y2,y3,y4,y5⟩:=bc6 BK106;obtain ⟨z0,z1,z2,z3,z4,z5,y0,y1,y2,y3,y4,y5⟩:=bc6 BK107))
 refine bodyPost_ret (results_cell_row rfl _ _ gb107 28 #[.string a0_0,.string a0_1,.bool false,.string (⟨#[]⟩ : ByteArray),.int .i64 0,.int .i64 a0_5] (0,0) _ rfl (bkp BK107) Try.underlying28 rfl (by kernel_rfl)) rfl ?_
 exact ⟨rerr,hbx HB⟩
end Go.Proofs.Ytdigplhjfjchnaa.PQ
namespace Go.Proofs.Ytdigplhjfjchnaa.PQ
open Go.RowKit Go.Proofs.YtdigplhjfjchnaaW.PrintWords Go.Proofs.YtdigplhjfjchnaaW.PrintLast Go.Proofs.YtdigplhjfjchnaaW.PrintMore
attribute [local go_sem] max2_int min2_int max_two min_two max_three min_three max_four min_four   -- for this text's walks alone
set_option linter.unusedVariables false
set_option linter.unusedSimpArgs false
def slices_Index_int_int.l0 : Nat → List Int → Int → Int → Int → Option (Int)
 | 0,_,_,_,_ => none
 | k + 1,x0,x1,x7,x8 => if x8 < x7 then (if 0 ≤ x8 then (if x8 < (x0.length : Int) then (if x1 = (rd x0 x8) then (some x8) else (slices_Index_int_int.l0 k x0 x1 x7 (wrap64 (x8 + 1)))) else (none)) else (none)) else (some (-1))
def slices_Index_int_int.f (k : Nat) (l0 : List Int) (a1 : Int) : Option (Int):=slices_Index_int_int.l0 k l0 a1 (l0.length : Int) 0
set_option maxHeartbeats 8000000 in
set_option maxRecDepth 100000 in
theorem slices_Index_int_int.calls (k : Nat) (A0 : Option Addr) (c0 : Nat) (l0 : List Int) (a1 r : Int) (w : World) (hr0 : Kd.C (Kd.int .i64) w A0 l0.length l0) (hc0 : l0.length ≤ c0) (h : slices_Index_int_int.f k l0 a1 = some r) :
 Calls Try.prog 75 #[.slice A0 l0.length c0,.int .i64 a1] w fun e w' => e = .returned (.int .i64 r) ∧ Drawn0 w w':=by
 have HR0:=Aside0.mk hr0
 have HC0:=Aside0.mk hc0
 clear hr0 hc0
 have H : (slices_Index_int_int.l0 k l0 a1 (l0.length : Int) 0) = some r:=h
 clear h
 have H':=Aside0.mk H
 clear H
 go_enter Try.func75,Try.ntmps75
 go_wp2
 go_loopg [8] k (fun kq v8 w' => ∃ (x8_1 : Int),v8 = .int .i64 x8_1 ∧ Aside0 (slices_Index_int_int.l0 kq l0 a1 (l0.length : Int) x8_1 = some r) ∧ Aside0 (kq ≤ k) ∧ Drawn0 w w')
 case atStart => exact ⟨(0),rfs,H',⟨Nat.le_refl _⟩,by repeat (first | exact Drawn0.refl _ | apply Drawn0.step)⟩
 case round =>
  clear H'
  obtain ⟨x8_1,rfl,HA,HK1,⟨m1,rfl⟩⟩:=hrel
  cases gk with
  | zero => exact absurd HA.out (by simp [slices_Index_int_int.l0])
  | succ k1 =>
   have H:=HA.out
   clear HA
   simp only [slices_Index_int_int.l0] at H
   by_cases c3 : x8_1 < (l0.length : Int)
   ·rw [if_pos c3] at H
    have c3b0 : decide (x8_1 < (l0.length : Int)) = true:=decide_eq_true c3
    clear c3
    by_cases c4 : 0 ≤ x8_1
    ·rw [if_pos c4] at H
     have c4b0 : decide (0 ≤ x8_1) = true:=decide_eq_true c4
     clear c4
     by_cases c5 : x8_1 < (l0.length : Int)
     ·rw [if_pos c5] at H
      have c5b0 : decide (x8_1 < (l0.length : Int)) = true:=decide_eq_true c5
      clear c5
      by_cases c6 : a1 = (rd l0 x8_1)
      ·rw [if_pos c6] at H
       have c6b0 : (a1 == (rd l0 x8_1)) = true:=beq_iff_eq.mpr c6
       have c6b1 : (a1 != (rd l0 x8_1)) = false:=bne_eq_false_iff_eq.mpr c6
       clear c6
       obtain rfl:=Option.some.inj H
       have p123 : 0 ≤ (x8_1 : Int):=pos_
       have q123 : x8_1 < (l0.length : Int):=pos_
       obtain ⟨ad123,e123,hx123_0⟩:=Kd.at_int HR0.out x8_1 p123 q123
       cases e123
       replace p123:=eq_true p123
       replace q123:=eq_true q123
       go_wp2
       go_ret
       exact ⟨by first | rfl | (simp;done) | (simp [*];done),by repeat (first | exact Drawn0.refl _ | apply Drawn0.step)⟩
      ·rw [if_neg c6] at H
       have c6b0 : (a1 == (rd l0 x8_1)) = false:=beq_eq_false_iff_ne.mpr c6
       have c6b1 : (a1 != (rd l0 x8_1)) = true:=bne_iff_ne.mpr c6
       have H':=Aside0.mk H
       clear H
       have p123 : 0 ≤ (x8_1 : Int):=pos_
       have q123 : x8_1 < (l0.length : Int):=pos_
       obtain ⟨ad123,e123,hx123_0⟩:=Kd.at_int HR0.out x8_1 p123 q123
       cases e123
       replace p123:=eq_true p123
       replace q123:=eq_true q123
       go_wp2
       go_roundg k1
       case measure => have:=HK1.out;omega
       case rel => exact ⟨(wrap64 (x8_1 + 1)),rfs,H',⟨by have:=HK1.out;omega⟩,by repeat (first | exact Drawn0.refl _ | apply Drawn0.step)⟩
     ·rw [if_neg c5] at H
      exact absurd H (by simp)
    ·rw [if_neg c4] at H
     exact absurd H (by simp)
   ·rw [if_neg c3] at H
    have c3b0 : decide (x8_1 < (l0.length : Int)) = false:=decide_eq_false c3
    clear c3
    obtain rfl:=Option.some.inj H
    go_wp2
    go_ret
    exact ⟨by first | rfl | (simp;done) | (simp [*];done),by repeat (first | exact Drawn0.refl _ | apply Drawn0.step)⟩
end Go.Proofs.Ytdigplhjfjchnaa.PQ
namespace Go.Proofs.Ytdigplhjfjchnaa.PQ
open Go.RowKit Go.Proofs.YtdigplhjfjchnaaW.PrintWords Go.Proofs.YtdigplhjfjchnaaW.PrintLast Go.Proofs.YtdigplhjfjchnaaW.PrintMore
attribute [local go_sem] max2_int min2_int max_two min_two max_three min_three max_four min_four   -- for this text's walks alone
set_option linter.unusedVariables false
set_option linter.unusedSimpArgs false
def slices_Clone_int_int.f (l0 : List Int) : Option (List Int):=if l0.length < 17592186044416 then some l0 else none
set_option maxHeartbeats 8000000 in
set_option maxRecDepth 100000 in
theorem slices_Clone_int_int.calls (A0 : Option Addr) (c0 : Nat) (l0 : List Int) (r : List Int) (w : World) (hr0 : Kd.C (Kd.int .i64) w A0 l0.length l0) (hc0 : l0.length ≤ c0) (h : slices_Clone_int_int.f l0 = some r) :
 Calls Try.prog 52 #[.slice A0 l0.length c0] w fun e w' => ∃ v0_ : Value,e = .returned (v0_) ∧ Kd.R (Kd.int .i64) 3 w' w.heap.size (fun _ => True) v0_ r ∧ Below w.heap.size w w':=by
 have hu34:=Try.underlying34
 unfold slices_Clone_int_int.f at h
 by_cases hlim : l0.length < 17592186044416
 ·rw [if_pos hlim] at h
  obtain rfl:=Option.some.inj h
  clear h
  have LM:=Aside0.mk hlim
  clear hlim
  have HR0:=Aside0.mk hr0
  have HC0:=Aside0.mk hc0
  have HB:=Aside0.mk (Below.refl w.heap.size w)
  cases A0 with
  | none =>
   have hl0 : l0 = []:=by
    rcases Nat.eq_zero_or_pos l0.length with h0 | h0
    ·exact List.eq_nil_of_length_eq_zero h0
    ·obtain ⟨ad,h1,_⟩:=hr0.2.2 h0
     cases h1
   subst hl0
   clear hr0 hc0
   have he:=Go.Lib.run_eql_slice_nil (P:=Try.prog) w 34 3 none 0 c0 0 0 Try.underlying34
   simp only [Option.isNone_none] at he
   go_enter Try.func52,Try.ntmps52
   go_wp2
   go_ret
   exact ⟨_,rfl,Kd.R_nil _ _ _ _ _,HB.out⟩
  | some ad =>
   clear hr0 hc0
   have he:=Go.Lib.run_eql_slice_nil (P:=Try.prog) w 34 3 (some ad) l0.length c0 0 0 Try.underlying34
   simp only [Option.isNone_some] at he
   go_enter Try.func52,Try.ntmps52
   go_wp2_with (first | ((with_reducible refine gate_dst (N:=5) rfl ?_);refine Kd.R_lit (Kd.int .i64) _ 3 ?hg (N:=5) ?hd (xs:=([] : List Int)) (inner:=[]) (ok:=fun _ => True) (okp:=fun _ => True) ?hr ?hp (fun _ hk => hk) trivial (Below.refl _ _) (Nat.le_refl _) (by simp) ?_;(case hd => rfl);(case hg => rfl);(case hr => first | (go_simp;done) | (go_simp;rfl));(case hp => exact (Reps.none _ _));intro v5 w5 ho5 hb hg_ hnew_;clear hg_ hnew_;have HO5:=Aside0.mk ho5;have HB5:=Aside0.mk hb;clear ho5 hb) | ((with_reducible refine gate_builtin (b:=.append) (xs:=#[.tmp 5,.tmp 6]) rfl ?_);at_builtin;refine Kd.R_append_rows (Kd.int .i64) (w0:=w) w.heap.size rfl (.tmp 5) (.tmp 6) 34 3 (.int .i64 0) 8 rfl Try.underlying34 info3 rfl (by decide) (by omega) v5 [] l0 _ _ _ (fun _ => True) (fun _ => False) rfl rfl ?aO ?aR (fun _ _ h => h) (fun _ h => h.elim) (fun _ _ => trivial) ?aB ?aS ?aL ?_;(case aR => exact Kd.C_below HR0.out HB5.out);(case aB => exact HB5.out);(case aO => exact HO5.out);(case aS => exact HB5.out.size);(case aL => have:=LM.out;simp;omega);intro v7 w7 ho hb hg hat;rw [List.nil_append] at ho;have HO7:=Aside0.mk ho;have HB7:=Aside0.mk hb;clear ho hb hg hat))
   go_ret
   exact ⟨_,rfl,HO7.out,HB7.out⟩
 ·rw [if_neg hlim] at h
  exact absurd h (by simp)
end Go.Proofs.Ytdigplhjfjchnaa.PQ
namespace Go.Proofs.Ytdigplhjfjchnaa.PQ
open Go.RowKit Go.Proofs.YtdigplhjfjchnaaW.PrintWords Go.Proofs.YtdigplhjfjchnaaW.PrintLast Go.Proofs.YtdigplhjfjchnaaW.PrintMore
attribute [local go_sem] max2_int min2_int max_two min_two max_three min_three max_four min_four   -- for this text's walks alone
set_option linter.unusedVariables false
set_option linter.unusedSimpArgs false
def slices_Index_bool_bool.l0 : Nat → List Bool → Bool → Int → Int → Option (Int)
 | 0,_,_,_,_ => none
 | k + 1,x0,x1,x7,x8 => if x8 < x7 then (if 0 ≤ x8 then (if x8 < (x0.length : Int) then (if (x1 == (rdOf false x0 x8)) = true then (some x8) else (slices_Index_bool_bool.l0 k x0 x1 x7 (wrap64 (x8 + 1)))) else (none)) else (none)) else (some (-1))
def slices_Index_bool_bool.f (k : Nat) (l0 : List Bool) (a1 : Bool) : Option (Int):=slices_Index_bool_bool.l0 k l0 a1 (l0.length : Int) 0
set_option maxHeartbeats 8000000 in
set_option maxRecDepth 100000 in
theorem slices_Index_bool_bool.calls (k : Nat) (A0 : Option Addr) (c0 : Nat) (l0 : List Bool) (a1 : Bool) (r : Int) (w : World) (hr0 : Kd.C Kd.bool w A0 l0.length l0) (hc0 : l0.length ≤ c0) (h : slices_Index_bool_bool.f k l0 a1 = some r) :
 Calls Try.prog 77 #[.slice A0 l0.length c0,.bool a1] w fun e w' => e = .returned (.int .i64 r) ∧ Drawn0 w w':=by
 have HR0:=Aside0.mk hr0
 have HC0:=Aside0.mk hc0
 clear hr0 hc0
 have H : (slices_Index_bool_bool.l0 k l0 a1 (l0.length : Int) 0) = some r:=h
 clear h
 have H':=Aside0.mk H
 clear H
 go_enter Try.func77,Try.ntmps77
 go_wp2
 go_loopg [8] k (fun kq v8 w' => ∃ (x8_1 : Int),v8 = .int .i64 x8_1 ∧ Aside0 (slices_Index_bool_bool.l0 kq l0 a1 (l0.length : Int) x8_1 = some r) ∧ Aside0 (kq ≤ k) ∧ Drawn0 w w')
 case atStart => exact ⟨(0),rfs,H',⟨Nat.le_refl _⟩,by repeat (first | exact Drawn0.refl _ | apply Drawn0.step)⟩
 case round =>
  clear H'
  obtain ⟨x8_1,rfl,HA,HK1,⟨m1,rfl⟩⟩:=hrel
  cases gk with
  | zero => exact absurd HA.out (by simp [slices_Index_bool_bool.l0])
  | succ k1 =>
   have H:=HA.out
   clear HA
   simp only [slices_Index_bool_bool.l0] at H
   by_cases c3 : x8_1 < (l0.length : Int)
   ·rw [if_pos c3] at H
    have c3b0 : decide (x8_1 < (l0.length : Int)) = true:=decide_eq_true c3
    clear c3
    by_cases c4 : 0 ≤ x8_1
    ·rw [if_pos c4] at H
     have c4b0 : decide (0 ≤ x8_1) = true:=decide_eq_true c4
     clear c4
     by_cases c5 : x8_1 < (l0.length : Int)
     ·rw [if_pos c5] at H
      have c5b0 : decide (x8_1 < (l0.length : Int)) = true:=decide_eq_true c5
      clear c5
      by_cases c6 : (a1 == (rdOf false l0 x8_1)) = true
      ·rw [if_pos c6] at H
       have c6b0 : (a1 == (rdOf false l0 x8_1)) = true:=c6
       (try (have c6b1 : decide (a1 = (rdOf false l0 x8_1)) = true:=by simpa using c6))
       (try (have c6b2 : (a1 == (rdOf false l0 x8_1)) = true:=by simpa using c6))
       clear c6
       obtain rfl:=Option.some.inj H
       have p164 : 0 ≤ (x8_1 : Int):=pos_
       have q164 : x8_1 < (l0.length : Int):=pos_
       obtain ⟨ad164,e164,hx164_0⟩:=Kd.at_bool HR0.out x8_1 p164 q164
       cases e164
       replace p164:=eq_true p164
       replace q164:=eq_true q164
       go_wp2
       go_ret
       exact ⟨by first | rfl | (simp;done) | (simp [*];done),by repeat (first | exact Drawn0.refl _ | apply Drawn0.step)⟩
      ·rw [if_neg c6] at H
       have c6b0 : (a1 == (rdOf false l0 x8_1)) = false:=by simpa using c6
       (try (have c6b1 : decide (a1 = (rdOf false l0 x8_1)) = false:=by simpa using c6))
       (try (have c6b2 : (a1 == (rdOf false l0 x8_1)) = false:=by simpa using c6))
       (try (have c6b3 : ¬ (a1 = (rdOf false l0 x8_1)):=by simpa using c6))
       clear c6
       have H':=Aside0.mk H
       clear H
       have p164 : 0 ≤ (x8_1 : Int):=pos_
       have q164 : x8_1 < (l0.length : Int):=pos_
       obtain ⟨ad164,e164,hx164_0⟩:=Kd.at_bool HR0.out x8_1 p164 q164
       cases e164
       replace p164:=eq_true p164
       replace q164:=eq_true q164
       go_wp2
       go_roundg k1
       case measure => have:=HK1.out;omega
       case rel => exact ⟨(wrap64 (x8_1 + 1)),rfs,H',⟨by have:=HK1.out;omega⟩,by repeat (first | exact Drawn0.refl _ | apply Drawn0.step)⟩
     ·rw [if_neg c5] at H
      exact absurd H (by simp)
    ·rw [if_neg c4] at H
     exact absurd H (by simp)
   ·rw [if_neg c3] at H
    have c3b0 : decide (x8_1 < (l0.length : Int)) = false:=decide_eq_false c3
    clear c3
    obtain rfl:=Option.some.inj H
    go_wp2
    go_ret
    exact ⟨by first | rfl | (simp;done) | (simp [*];done),by repeat (first | exact Drawn0.refl _ | apply Drawn0.step)⟩
end Go.Proofs.Ytdigplhjfjchnaa.PQ
namespace Go.Proofs.Ytdigplhjfjchnaa.PQ
open Go.RowKit Go.Proofs.YtdigplhjfjchnaaW.PrintWords Go.Proofs.YtdigplhjfjchnaaW.PrintLast Go.Proofs.YtdigplhjfjchnaaW.PrintMore
attribute [local go_sem] max2_int min2_int max_two min_two max_three min_three max_four min_four   -- for this text's walks alone
set_option linter.unusedVariables false
set_option linter.unusedSimpArgs false
def slices_Contains_bool_bool.f (k : Nat) (l0 : List Bool) (a1 : Bool) : Option (Bool):=(slices_Index_bool_bool.f k l0 a1).bind fun t165 => (some (decide (t165 ≥ 0)))
set_option maxHeartbeats 8000000 in
set_option maxRecDepth 100000 in
theorem slices_Contains_bool_bool.calls (k : Nat) (A0 : Option Addr) (c0 : Nat) (l0 : List Bool) (a1 r : Bool) (w : World) (hr0 : Kd.C Kd.bool w A0 l0.length l0) (hc0 : l0.length ≤ c0) (h : slices_Contains_bool_bool.f k l0 a1 = some r) :
 Calls Try.prog 54 #[.slice A0 l0.length c0,.bool a1] w fun e w' => e = .returned (.bool r) ∧ Drawn0 w w':=by
 have HR0:=Aside0.mk hr0
 have HC0:=Aside0.mk hc0
 clear hr0 hc0
 have H : ((slices_Index_bool_bool.f k l0 a1).bind fun t165 => (some (decide (t165 ≥ 0)))) = some r:=h
 clear h
 replace H:=Option.bind_eq_some_iff.mp H
 obtain ⟨t165,A30,H⟩:=H
 (try dsimp only at H)
 have A3:=Aside0.mk A30
 clear A30
 obtain rfl:=Option.some.inj H
 go_enter Try.func54,Try.ntmps54
 go_wp2_with (first | ((with_reducible refine gate_callee (f:=77) rfl ?_);refine goesL_ (some 7) rfl rfl Try.func77 (by kernel_rfl) rfl #[.slice A0 l0.length c0,.bool a1] rfl sma ?_;(with_reducible refine (slices_Index_bool_bool.calls k _ _ l0 a1 t165 _ ?side1 HC0.out A3.out).mono ?_);(case side1 => repeat (first | exact HR0.out | (with_reducible refine Kd.C_alloc ?_ _) | (with_reducible refine Kd.C_drewN ?_ _) | (with_reducible refine Kd.C_drew ?_)));rintro e w' ⟨rfl,⟨nd,rfl⟩⟩;refine ⟨_,rfl,?_⟩))
 go_ret
 exact ⟨by first | rfl | (simp;done) | (simp [*];done),by repeat (first | exact Drawn0.refl _ | apply Drawn0.step)⟩
end Go.Proofs.Ytdigplhjfjchnaa.PQ
namespace Go.Proofs.Ytdigplhjfjchnaa.PQ
open Go.RowKit Go.Proofs.YtdigplhjfjchnaaW.PrintWords Go.Proofs.YtdigplhjfjchnaaW.PrintLast Go.Proofs.YtdigplhjfjchnaaW.PrintMore
attribute [local go_sem] max2_int min2_int max_two min_two max_three min_three max_four min_four   -- for this text's walks alone
set_option linter.unusedVariables false
set_option linter.unusedSimpArgs false
def install_own_1.f (l0 : List Bool) : Option (List Bool):=if l0.length < 140737488355328 then some l0 else none
set_option maxHeartbeats 8000000 in
set_option maxRecDepth 100000 in
theorem install_own_1.calls (A0 : Option Addr) (c0 : Nat) (l0 : List Bool) (r : List Bool) (w : World) (hr0 : Kd.C Kd.bool w A0 l0.length l0) (hc0 : l0.length ≤ c0) (h : install_own_1.f l0 = some r) :
 Calls Try.prog 86 #[.slice A0 l0.length c0] w fun e w' => ∃ v0_ : Value,e = .returned (v0_) ∧ Kd.R Kd.bool 4 w' w.heap.size (fun _ => True) v0_ r ∧ Below w.heap.size w w':=by
 unfold install_own_1.f at h
 by_cases hlim : l0.length < 140737488355328
 ·rw [if_pos hlim] at h
  obtain rfl:=Option.some.inj h
  clear h
  have LM:=Aside0.mk hlim
  clear hlim
  have HR0:=Aside0.mk hr0
  have HC0:=Aside0.mk hc0
  have HB:=Aside0.mk (Below.refl w.heap.size w)
  clear hr0 hc0
  have E9:=Aside0.mk (show l0.take (min l0.length (List.replicate (l0.length : Int).toNat false).length) ++ (List.replicate (l0.length : Int).toNat false).drop (min l0.length (List.replicate (l0.length : Int).toNat false).length) = l0 by rw [List.length_replicate,Int.toNat_natCast,Nat.min_self,List.take_length,List.drop_eq_nil_of_le (by simp),List.append_nil])
  go_enter Try.func86,Try.ntmps86
  go_wp2_with (first | ((with_reducible refine gate_dst (N:=6) rfl ?_);refine Kd.R_make Kd.bool w.heap.size 4 rfl (N:=6) rfl 22 _ _ rfl (l0.length : Int) rfl rfl Try.underlying22 (.bool false) 1 info4 rfl (by decide) (by omega) false (ok:=fun _ => True) (okp:=fun _ => True) rfl (fun _ hk => hk) trivial (Int.natCast_nonneg _) (by have:=LM.out;simp;omega) (Below.refl _ _) (Nat.le_refl _) ?_;intro v6 w6 ho hb hg_ hnew_;clear hg_ hnew_;have HO6:=Aside0.mk ho;have HB6:=Aside0.mk hb;clear ho hb) | ((with_reducible refine gate_builtin (b:=.copy) (xs:=#[.tmp 7,.tmp 8]) rfl ?_);refine Kd.R_copy (enc:=Value.bool) (h1:=fun _ => rfl) (w0:=w) false w.heap.size rfl (.tmp 7) (.tmp 8) 22 22 4 rfl Try.underlying22 (by kernel_rfl) v6 (List.replicate (l0.length : Int).toNat false) l0 _ _ _ (fun _ => True) rfl rfl HO6.out (Kd.C_below HR0.out HB6.out) HB6.out HB6.out.size ?_;intro w9 ho hb hg;rw [E9.out] at ho;have HO9:=Aside0.mk ho;have HB9:=Aside0.mk hb;clear ho hb hg))
  go_ret
  exact ⟨_,rfl,HO9.out,HB9.out⟩
 ·rw [if_neg hlim] at h
  exact absurd h (by simp)
end Go.Proofs.Ytdigplhjfjchnaa.PQ
namespace Go.Proofs.Ytdigplhjfjchnaa.PQ
open Go.RowKit Go.Proofs.YtdigplhjfjchnaaW.PrintWords Go.Proofs.YtdigplhjfjchnaaW.PrintLast Go.Proofs.YtdigplhjfjchnaaW.PrintMore
attribute [local go_sem] max2_int min2_int max_two min_two max_three min_three max_four min_four   -- for this text's walks alone
set_option linter.unusedVariables false
set_option linter.unusedSimpArgs false
def hopmeshref49_ints.l0 : Nat → List Int → List Int → Int → Option (Bool)
 | 0,_,_,_ => none
 | k + 1,x0,x1,x5 => if x5 < (x0.length : Int) then (if 0 ≤ x5 then (if x5 < (x1.length : Int) then (if (rd x0 x5) = (rd x1 x5) then (hopmeshref49_ints.l0 k x0 x1 (wrap64 (x5 + 1))) else (some false)) else (none)) else (none)) else (some true)
def hopmeshref49_ints.f (k : Nat) (l0 : List Int) (l1 : List Int) : Option (Bool):=if (l0.length : Int) = (l1.length : Int) then (hopmeshref49_ints.l0 k l0 l1 0) else (some false)
set_option maxHeartbeats 8000000 in
set_option maxRecDepth 100000 in
theorem hopmeshref49_ints.calls (k : Nat) (A0 : Option Addr) (c0 : Nat) (l0 : List Int) (A1 : Option Addr) (c1 : Nat) (l1 : List Int) (r : Bool) (w : World) (hr0 : Kd.C (Kd.int .i64) w A0 l0.length l0) (hc0 : l0.length ≤ c0) (hr1 : Kd.C (Kd.int .i64) w A1 l1.length l1) (hc1 : l1.length ≤ c1) (h : hopmeshref49_ints.f k l0 l1 = some r) :
 Calls Try.prog 61 #[.slice A0 l0.length c0,.slice A1 l1.length c1] w fun e w' => e = .returned (.bool r) ∧ Drawn0 w w':=by
 have HR0:=Aside0.mk hr0
 have HC0:=Aside0.mk hc0
 clear hr0 hc0
 have HR1:=Aside0.mk hr1
 have HC1:=Aside0.mk hc1
 clear hr1 hc1
 have H : (if (l0.length : Int) = (l1.length : Int) then (hopmeshref49_ints.l0 k l0 l1 0) else (some false)) = some r:=h
 clear h
 by_cases c3 : (l0.length : Int) = (l1.length : Int)
 ·rw [if_pos c3] at H
  have c3b0 : ((l0.length : Int) == (l1.length : Int)) = true:=beq_iff_eq.mpr c3
  have c3b1 : ((l0.length : Int) != (l1.length : Int)) = false:=bne_eq_false_iff_eq.mpr c3
  have c3b2 : (l0.length == l1.length) = true:=by first | simpa using c3 | (simp at c3 ⊢;omega)
  clear c3
  have H':=Aside0.mk H
  clear H
  go_enter Try.func61,Try.ntmps61
  go_wp2
  repeat (go_quiet (fail);try go_wp2)
  go_loopg [5] k (fun kq v5 w' => ∃ (x5_1 : Int),v5 = .int .i64 x5_1 ∧ Aside0 (hopmeshref49_ints.l0 kq l0 l1 x5_1 = some r) ∧ Aside0 (kq ≤ k) ∧ Drawn0 w w')
  case atStart => exact ⟨(0),rfs,H',⟨Nat.le_refl _⟩,by repeat (first | exact Drawn0.refl _ | apply Drawn0.step)⟩
  case round =>
   clear H'
   try clear c1
   try clear c3
   try clear c3b0
   try clear c3b1
   try clear c3b2
   obtain ⟨x5_1,rfl,HA,HK1,⟨m1,rfl⟩⟩:=hrel
   cases gk with
   | zero => exact absurd HA.out (by simp [hopmeshref49_ints.l0])
   | succ k1 =>
    have H:=HA.out
    clear HA
    simp only [hopmeshref49_ints.l0] at H
    by_cases c4 : x5_1 < (l0.length : Int)
    ·rw [if_pos c4] at H
     have c4b0 : decide (x5_1 < (l0.length : Int)) = true:=decide_eq_true c4
     clear c4
     by_cases c5 : 0 ≤ x5_1
     ·rw [if_pos c5] at H
      have c5b0 : decide (0 ≤ x5_1) = true:=decide_eq_true c5
      clear c5
      by_cases c6 : x5_1 < (l1.length : Int)
      ·rw [if_pos c6] at H
       have c6b0 : decide (x5_1 < (l1.length : Int)) = true:=decide_eq_true c6
       clear c6
       by_cases c7 : (rd l0 x5_1) = (rd l1 x5_1)
       ·rw [if_pos c7] at H
        have c7b0 : ((rd l0 x5_1) == (rd l1 x5_1)) = true:=beq_iff_eq.mpr c7
        have c7b1 : ((rd l0 x5_1) != (rd l1 x5_1)) = false:=bne_eq_false_iff_eq.mpr c7
        clear c7
        have H':=Aside0.mk H
        clear H
        have p680 : 0 ≤ (x5_1 : Int):=pos_
        have q680 : x5_1 < (l0.length : Int):=pos_
        obtain ⟨ad680,e680,hx680_0⟩:=Kd.at_int HR0.out x5_1 p680 q680
        cases e680
        replace p680:=eq_true p680
        replace q680:=eq_true q680
        have p681 : 0 ≤ (x5_1 : Int):=pos_
        have q681 : x5_1 < (l1.length : Int):=pos_
        obtain ⟨ad681,e681,hx681_0⟩:=Kd.at_int HR1.out x5_1 p681 q681
        cases e681
        replace p681:=eq_true p681
        replace q681:=eq_true q681
        go_wp2
        repeat (go_quiet (fail);try go_wp2)
        go_roundg k1
        case measure => have:=HK1.out;omega
        case rel => exact ⟨(wrap64 (x5_1 + 1)),rfs,H',⟨by have:=HK1.out;omega⟩,by repeat (first | exact Drawn0.refl _ | apply Drawn0.step)⟩
       ·rw [if_neg c7] at H
        have c7b0 : ((rd l0 x5_1) == (rd l1 x5_1)) = false:=beq_eq_false_iff_ne.mpr c7
        have c7b1 : ((rd l0 x5_1) != (rd l1 x5_1)) = true:=bne_iff_ne.mpr c7
        obtain rfl:=Option.some.inj H
        have p680 : 0 ≤ (x5_1 : Int):=pos_
        have q680 : x5_1 < (l0.length : Int):=pos_
        obtain ⟨ad680,e680,hx680_0⟩:=Kd.at_int HR0.out x5_1 p680 q680
        cases e680
        replace p680:=eq_true p680
        replace q680:=eq_true q680
        have p681 : 0 ≤ (x5_1 : Int):=pos_
        have q681 : x5_1 < (l1.length : Int):=pos_
        obtain ⟨ad681,e681,hx681_0⟩:=Kd.at_int HR1.out x5_1 p681 q681
        cases e681
        replace p681:=eq_true p681
        replace q681:=eq_true q681
        go_wp2
        repeat (go_quiet (fail);try go_wp2)
        go_ret
        exact ⟨by first | rfl | (simp;done) | (simp [*];done),by repeat (first | exact Drawn0.refl _ | apply Drawn0.step)⟩
      ·rw [if_neg c6] at H
       exact absurd H (by simp)
     ·rw [if_neg c5] at H
      exact absurd H (by simp)
    ·rw [if_neg c4] at H
     have c4b0 : decide (x5_1 < (l0.length : Int)) = false:=decide_eq_false c4
     clear c4
     obtain rfl:=Option.some.inj H
     go_wp2
     repeat (go_quiet (fail);try go_wp2)
     go_ret
     exact ⟨by first | rfl | (simp;done) | (simp [*];done),by repeat (first | exact Drawn0.refl _ | apply Drawn0.step)⟩
 ·rw [if_neg c3] at H
  have c3b0 : ((l0.length : Int) == (l1.length : Int)) = false:=beq_eq_false_iff_ne.mpr c3
  have c3b1 : ((l0.length : Int) != (l1.length : Int)) = true:=bne_iff_ne.mpr c3
  have c3b2 : (l0.length == l1.length) = false:=by first | simpa using c3 | (simp at c3 ⊢;omega)
  obtain rfl:=Option.some.inj H
  go_enter Try.func61,Try.ntmps61
  go_wp2
  repeat (go_quiet (fail);try go_wp2)
  go_ret
  exact ⟨by first | rfl | (simp;done) | (simp [*];done),by repeat (first | exact Drawn0.refl _ | apply Drawn0.step)⟩
end Go.Proofs.Ytdigplhjfjchnaa.PQ
namespace Go.Proofs.Ytdigplhjfjchnaa.PQ
open Go.RowKit Go.Proofs.YtdigplhjfjchnaaW.PrintWords Go.Proofs.YtdigplhjfjchnaaW.PrintLast Go.Proofs.YtdigplhjfjchnaaW.PrintMore
attribute [local go_sem] max2_int min2_int max_two min_two max_three min_three max_four min_four   -- for this text's walks alone
set_option linter.unusedVariables false
set_option linter.unusedSimpArgs false
def hopmeshref49_FewBoard.f (a0_0 : ByteArray) (l0_1 : List Int) (l0_2 : List Bool) (l0_3 : List Bool) (a0_4 a0_5 : Int) : Option (Bool):=if (a0_0.size : Int) ≤ 100 then (if (l0_1.length : Int) ≤ 40 then (if (l0_2.length : Int) ≤ 40 then (some (decide ((l0_3.length : Int) ≤ 40))) else (some false)) else (some false)) else (some false)
set_option maxHeartbeats 8000000 in
set_option maxRecDepth 100000 in
theorem hopmeshref49_FewBoard.calls (a0_0 : ByteArray) (A0_1 : Option Addr) (c0_1 : Nat) (l0_1 : List Int) (A0_2 : Option Addr) (c0_2 : Nat) (l0_2 : List Bool) (A0_3 : Option Addr) (c0_3 : Nat) (l0_3 : List Bool) (a0_4 a0_5 : Int) (r : Bool) (w : World) (hr0_1 : Kd.C (Kd.int .i64) w A0_1 l0_1.length l0_1) (hc0_1 : l0_1.length ≤ c0_1) (hr0_2 : Kd.C Kd.bool w A0_2 l0_2.length l0_2) (hc0_2 : l0_2.length ≤ c0_2) (hr0_3 : Kd.C Kd.bool w A0_3 l0_3.length l0_3) (hc0_3 : l0_3.length ≤ c0_3) (h : hopmeshref49_FewBoard.f a0_0 l0_1 l0_2 l0_3 a0_4 a0_5 = some r) :
 Calls Try.prog 29 #[.agg #[.string a0_0,.slice A0_1 l0_1.length c0_1,.slice A0_2 l0_2.length c0_2,.slice A0_3 l0_3.length c0_3,.int .i64 a0_4,.int .i64 a0_5]] w fun e w' => e = .returned (.bool r) ∧ Below w.heap.size w w':=by
 have hu50:=Try.underlying50
 have HR0_1:=Aside0.mk hr0_1
 have HC0_1:=Aside0.mk hc0_1
 clear hr0_1 hc0_1
 have HR0_2:=Aside0.mk hr0_2
 have HC0_2:=Aside0.mk hc0_2
 clear hr0_2 hc0_2
 have HR0_3:=Aside0.mk hr0_3
 have HC0_3:=Aside0.mk hc0_3
 clear hr0_3 hc0_3
 have HB:=Aside0.mk (Below.refl w.heap.size w)
 have H : (if (a0_0.size : Int) ≤ 100 then (if (l0_1.length : Int) ≤ 40 then (if (l0_2.length : Int) ≤ 40 then (some (decide ((l0_3.length : Int) ≤ 40))) else (some false)) else (some false)) else (some false)) = some r:=h
 clear h
 by_cases c2 : (a0_0.size : Int) ≤ 100
 ·rw [if_pos c2] at H
  have c2b0 : decide ((a0_0.size : Int) ≤ 100) = true:=decide_eq_true c2
  have c2b1 : decide (a0_0.size ≤ 100) = true:=decide_eq_true (by omega)
  clear c2
  by_cases c3 : (l0_1.length : Int) ≤ 40
  ·rw [if_pos c3] at H
   have c3b0 : decide ((l0_1.length : Int) ≤ 40) = true:=decide_eq_true c3
   have c3b1 : decide (l0_1.length ≤ 40) = true:=decide_eq_true (by omega)
   clear c3
   by_cases c4 : (l0_2.length : Int) ≤ 40
   ·rw [if_pos c4] at H
    have c4b0 : decide ((l0_2.length : Int) ≤ 40) = true:=decide_eq_true c4
    have c4b1 : decide (l0_2.length ≤ 40) = true:=decide_eq_true (by omega)
    clear c4
    obtain rfl:=Option.some.inj H
    go_enter Try.func29,Try.ntmps29
    go_wp2_with (first | ((with_reducible refine gate_dst (N:=1) rfl ?_);(try (refine gate_guard (by rfl) ?_;dsimp only));refine boxE 1 #[.string a0_0,.slice A0_1 l0_1.length c0_1,.slice A0_2 l0_2.length c0_2,.slice A0_3 l0_3.length c0_3,.int .i64 a0_4,.int .i64 a0_5] 50 ?_;intro gb726 hg w5 hbox hb;have BK726:=Aside0.mk (hbox);have GW726:=gw hg HB;have GE726:=gw hg HB;replace HB:=hbS HB hb;clear hb hbox hg;obtain ⟨z0,z1,z2,z3,z4,z5,y0,y1,y2,y3,y4,y5⟩:=bc6 BK726))
    go_ret
    exact ⟨rerr,hbx HB⟩
   ·rw [if_neg c4] at H
    have c4b0 : decide ((l0_2.length : Int) ≤ 40) = false:=decide_eq_false c4
    have c4b1 : decide (l0_2.length ≤ 40) = false:=decide_eq_false (by omega)
    clear c4
    obtain rfl:=Option.some.inj H
    go_enter Try.func29,Try.ntmps29
    go_wp2_with (first | ((with_reducible refine gate_dst (N:=1) rfl ?_);(try (refine gate_guard (by rfl) ?_;dsimp only));refine boxE 1 #[.string a0_0,.slice A0_1 l0_1.length c0_1,.slice A0_2 l0_2.length c0_2,.slice A0_3 l0_3.length c0_3,.int .i64 a0_4,.int .i64 a0_5] 50 ?_;intro gb726 hg w7 hbox hb;have BK726:=Aside0.mk (hbox);have GW726:=gw hg HB;have GE726:=gw hg HB;replace HB:=hbS HB hb;clear hb hbox hg;obtain ⟨z0,z1,z2,z3,z4,z5,y0,y1,y2,y3,y4,y5⟩:=bc6 BK726))
    go_ret
    exact ⟨rerr,hbx HB⟩
  ·rw [if_neg c3] at H
   have c3b0 : decide ((l0_1.length : Int) ≤ 40) = false:=decide_eq_false c3
   have c3b1 : decide (l0_1.length ≤ 40) = false:=decide_eq_false (by omega)
   clear c3
   obtain rfl:=Option.some.inj H
   go_enter Try.func29,Try.ntmps29
   go_wp2_with (first | ((with_reducible refine gate_dst (N:=1) rfl ?_);(try (refine gate_guard (by rfl) ?_;dsimp only));refine boxE 1 #[.string a0_0,.slice A0_1 l0_1.length c0_1,.slice A0_2 l0_2.length c0_2,.slice A0_3 l0_3.length c0_3,.int .i64 a0_4,.int .i64 a0_5] 50 ?_;intro gb726 hg w9 hbox hb;have BK726:=Aside0.mk (hbox);have GW726:=gw hg HB;have GE726:=gw hg HB;replace HB:=hbS HB hb;clear hb hbox hg;obtain ⟨z0,z1,z2,z3,z4,z5,y0,y1,y2,y3,y4,y5⟩:=bc6 BK726))
   go_ret
   exact ⟨rerr,hbx HB⟩
 ·rw [if_neg c2] at H
  have c2b0 : decide ((a0_0.size : Int) ≤ 100) = false:=decide_eq_false c2
  have c2b1 : decide (a0_0.size ≤ 100) = false:=decide_eq_false (by omega)
  clear c2
  obtain rfl:=Option.some.inj H
  go_enter Try.func29,Try.ntmps29
  go_wp2_with (first | ((with_reducible refine gate_dst (N:=1) rfl ?_);(try (refine gate_guard (by rfl) ?_;dsimp only));refine boxE 1 #[.string a0_0,.slice A0_1 l0_1.length c0_1,.slice A0_2 l0_2.length c0_2,.slice A0_3 l0_3.length c0_3,.int .i64 a0_4,.int .i64 a0_5] 50 ?_;intro gb726 hg w11 hbox hb;have BK726:=Aside0.mk (hbox);have GW726:=gw hg HB;have GE726:=gw hg HB;replace HB:=hbS HB hb;clear hb hbox hg;obtain ⟨z0,z1,z2,z3,z4,z5,y0,y1,y2,y3,y4,y5⟩:=bc6 BK726))
  go_ret
  exact ⟨rerr,hbx HB⟩
end Go.Proofs.Ytdigplhjfjchnaa.PQ
namespace Go.Proofs.Ytdigplhjfjchnaa.PQ
open Go.RowKit Go.Proofs.YtdigplhjfjchnaaW.PrintWords Go.Proofs.YtdigplhjfjchnaaW.PrintLast Go.Proofs.YtdigplhjfjchnaaW.PrintMore
attribute [local go_sem] max2_int min2_int max_two min_two max_three min_three max_four min_four   -- for this text's walks alone
set_option linter.unusedVariables false
set_option linter.unusedSimpArgs false
def hopmeshref49_Identifier.f (a0 : ByteArray) : Option (Bool):=some ((a0.size : Int) == 32)
set_option maxHeartbeats 8000000 in
set_option maxRecDepth 100000 in
theorem hopmeshref49_Identifier.calls (a0 : ByteArray) (r : Bool) (w : World) (h : hopmeshref49_Identifier.f a0 = some r) :
 Calls Try.prog 62 #[.string a0] w fun e w' => e = .returned (.bool r) ∧ Drawn0 w w':=by
 have H : (some ((a0.size : Int) == 32)) = some r:=h
 clear h
 obtain rfl:=Option.some.inj H
 go_enter Try.func62,Try.ntmps62
 go_wp2
 go_ret
 exact ⟨by first | rfl | (simp;done) | (simp [*];done),by repeat (first | exact Drawn0.refl _ | apply Drawn0.step)⟩
end Go.Proofs.Ytdigplhjfjchnaa.PQ
