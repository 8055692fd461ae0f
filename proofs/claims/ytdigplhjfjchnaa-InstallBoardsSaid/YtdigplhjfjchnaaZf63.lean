-- Printed by fprint.py and zip.py, programs of this session's, over the kit's print; Lean checks it.
import Derived.Test.YtdigplhjfjchnaaZ0
namespace Go.Proofs.Ytdigplhjfjchnaa.PQ
open Go.RowKit Go.Proofs.YtdigplhjfjchnaaW.PrintWords Go.Proofs.YtdigplhjfjchnaaW.PrintLast Go.Proofs.YtdigplhjfjchnaaW.PrintMore
attribute [local go_sem] max2_int min2_int max_two min_two max_three min_three max_four min_four   -- for this text's walks alone
set_option linter.unusedVariables false
set_option linter.unusedSimpArgs false
def hopmeshref49_nodes.l0 : Nat → List Int → Int → Option (Bool)
 | 0,_,_ => none
 | k + 1,x0,x3 => if x3 < (x0.length : Int) then (if 0 ≤ x3 then (if (rd x0 x3) < 0 then (some false) else (if (rd x0 x3) ≥ 32 then (some false) else (if x3 > 0 then (if 0 ≤ (wrap64 (x3 - 1)) then (if (wrap64 (x3 - 1)) < (x0.length : Int) then (if (rd x0 x3) ≤ (rd x0 (wrap64 (x3 - 1))) then (some false) else (hopmeshref49_nodes.l0 k x0 (wrap64 (x3 + 1)))) else (none)) else (none)) else (hopmeshref49_nodes.l0 k x0 (wrap64 (x3 + 1)))))) else (none)) else (some (decide ((x0.length : Int) > 0)))
def hopmeshref49_nodes.f (k : Nat) (l0 : List Int) : Option (Bool):=hopmeshref49_nodes.l0 k l0 0
set_option maxHeartbeats 8000000 in
set_option maxRecDepth 100000 in
theorem hopmeshref49_nodes.calls (k : Nat) (A0 : Option Addr) (c0 : Nat) (l0 : List Int) (r : Bool) (w : World) (hr0 : Kd.C (Kd.int .i64) w A0 l0.length l0) (hc0 : l0.length ≤ c0) (h : hopmeshref49_nodes.f k l0 = some r) :
 Calls Try.prog 63 #[.slice A0 l0.length c0] w fun e w' => e = .returned (.bool r) ∧ Drawn0 w w':=by
 have HR0:=Aside0.mk hr0
 have HC0:=Aside0.mk hc0
 clear hr0 hc0
 have H : (hopmeshref49_nodes.l0 k l0 0) = some r:=h
 clear h
 have H':=Aside0.mk H
 clear H
 go_enter Try.func63,Try.ntmps63
 go_wp2
 repeat (go_quiet (fail);try go_wp2)
 go_loopg [3] k (fun kq v3 w' => ∃ (x3_1 : Int),v3 = .int .i64 x3_1 ∧ Aside0 (hopmeshref49_nodes.l0 kq l0 x3_1 = some r) ∧ Aside0 (kq ≤ k) ∧ Drawn0 w w')
 case atStart => exact ⟨(0),rfs,H',⟨Nat.le_refl _⟩,by repeat (first | exact Drawn0.refl _ | apply Drawn0.step)⟩
 case round =>
  clear H'
  obtain ⟨x3_1,rfl,HA,HK1,⟨m1,rfl⟩⟩:=hrel
  cases gk with
  | zero => exact absurd HA.out (by simp [hopmeshref49_nodes.l0])
  | succ k1 =>
   have H:=HA.out
   clear HA
   simp only [hopmeshref49_nodes.l0] at H
   by_cases c2 : x3_1 < (l0.length : Int)
   ·rw [if_pos c2] at H
    have c2b0 : decide (x3_1 < (l0.length : Int)) = true:=decide_eq_true c2
    clear c2
    by_cases c3 : 0 ≤ x3_1
    ·rw [if_pos c3] at H
     have c3b0 : decide (0 ≤ x3_1) = true:=decide_eq_true c3
     clear c3
     by_cases c4 : (rd l0 x3_1) < 0
     ·rw [if_pos c4] at H
      have c4b0 : decide ((rd l0 x3_1) < 0) = true:=decide_eq_true c4
      clear c4
      obtain rfl:=Option.some.inj H
      have p637 : 0 ≤ (x3_1 : Int):=pos_
      have q637 : x3_1 < (l0.length : Int):=pos_
      obtain ⟨ad637,e637,hx637_0⟩:=Kd.at_int HR0.out x3_1 p637 q637
      cases e637
      replace p637:=eq_true p637
      replace q637:=eq_true q637
      go_wp2
      repeat (go_quiet (fail);try go_wp2)
      go_ret
      exact ⟨by first | rfl | (simp;done) | (simp [*];done),by repeat (first | exact Drawn0.refl _ | apply Drawn0.step)⟩
     ·rw [if_neg c4] at H
      have c4b0 : decide ((rd l0 x3_1) < 0) = false:=decide_eq_false c4
      clear c4
      by_cases c5 : (rd l0 x3_1) ≥ 32
      ·rw [if_pos c5] at H
       have c5b0 : decide (32 ≤ (rd l0 x3_1)) = true:=decide_eq_true c5
       clear c5
       obtain rfl:=Option.some.inj H
       have p637 : 0 ≤ (x3_1 : Int):=pos_
       have q637 : x3_1 < (l0.length : Int):=pos_
       obtain ⟨ad637,e637,hx637_0⟩:=Kd.at_int HR0.out x3_1 p637 q637
       cases e637
       replace p637:=eq_true p637
       replace q637:=eq_true q637
       have p638 : 0 ≤ (x3_1 : Int):=pos_
       have q638 : x3_1 < (l0.length : Int):=pos_
       obtain ⟨ad638,e638,hx638_0⟩:=Kd.at_int HR0.out x3_1 p638 q638
       obtain rfl : ad637 = ad638:=(by injection e638)
       replace p638:=eq_true p638
       replace q638:=eq_true q638
       go_wp2
       repeat (go_quiet (fail);try go_wp2)
       go_ret
       exact ⟨by first | rfl | (simp;done) | (simp [*];done),by repeat (first | exact Drawn0.refl _ | apply Drawn0.step)⟩
      ·rw [if_neg c5] at H
       have c5b0 : decide (32 ≤ (rd l0 x3_1)) = false:=decide_eq_false c5
       clear c5
       by_cases c6 : x3_1 > 0
       ·rw [if_pos c6] at H
        have c6b0 : decide (0 < x3_1) = true:=decide_eq_true c6
        clear c6
        obtain ⟨ji7,hji7⟩ : ∃ j_ : Int,(wrap64 (x3_1 - 1)) = j_:=⟨_,rfl⟩
        replace H : (if 0 ≤ (ji7) then (if (ji7) < (l0.length : Int) then (if (rd l0 x3_1) ≤ (rd l0 (ji7)) then (some false) else (hopmeshref49_nodes.l0 k1 l0 (wrap64 (x3_1 + 1)))) else (none)) else (none)) = some r:=by first | (rw [hji7] at H;exact H) | (simp only [hji7] at H ⊢;exact H)
        have hji7w : (IntKind.i64.wrap (x3_1 - 1)) = ji7:=(i64_w _).trans hji7
        by_cases c8 : 0 ≤ (ji7)
        ·rw [if_pos c8] at H
         have c8b0 : decide (0 ≤ (ji7)) = true:=decide_eq_true c8
         clear c8
         by_cases c9 : (ji7) < (l0.length : Int)
         ·rw [if_pos c9] at H
          have c9b0 : decide ((ji7) < (l0.length : Int)) = true:=decide_eq_true c9
          clear c9
          by_cases c10 : (rd l0 x3_1) ≤ (rd l0 (ji7))
          ·rw [if_pos c10] at H
           have c10b0 : decide ((rd l0 x3_1) ≤ (rd l0 (ji7))) = true:=decide_eq_true c10
           clear c10
           obtain rfl:=Option.some.inj H
           have p637 : 0 ≤ (x3_1 : Int):=pos_
           have q637 : x3_1 < (l0.length : Int):=pos_
           obtain ⟨ad637,e637,hx637_0⟩:=Kd.at_int HR0.out x3_1 p637 q637
           cases e637
           replace p637:=eq_true p637
           replace q637:=eq_true q637
           have p638 : 0 ≤ (x3_1 : Int):=pos_
           have q638 : x3_1 < (l0.length : Int):=pos_
           obtain ⟨ad638,e638,hx638_0⟩:=Kd.at_int HR0.out x3_1 p638 q638
           obtain rfl : ad637 = ad638:=(by injection e638)
           replace p638:=eq_true p638
           replace q638:=eq_true q638
           have p639 : 0 ≤ (x3_1 : Int):=pos_
           have q639 : x3_1 < (l0.length : Int):=pos_
           obtain ⟨ad639,e639,hx639_0⟩:=Kd.at_int HR0.out x3_1 p639 q639
           obtain rfl : ad637 = ad639:=(by injection e639)
           replace p639:=eq_true p639
           replace q639:=eq_true q639
           have p640 : 0 ≤ ((ji7) : Int):=pos_
           have q640 : (ji7) < (l0.length : Int):=pos_
           obtain ⟨ad640,e640,hx640_0⟩:=Kd.at_int HR0.out (ji7) p640 q640
           obtain rfl : ad637 = ad640:=(by injection e640)
           replace p640:=eq_true p640
           replace q640:=eq_true q640
           go_wp2
           repeat (go_quiet (fail);try go_wp2)
           go_ret
           exact ⟨by first | rfl | (simp;done) | (simp only [← hji7] <;> (first | rfl | simp)) | (simp [*];done),by repeat (first | exact Drawn0.refl _ | apply Drawn0.step)⟩
          ·rw [if_neg c10] at H
           have c10b0 : decide ((rd l0 x3_1) ≤ (rd l0 (ji7))) = false:=decide_eq_false c10
           clear c10
           have H':=Aside0.mk H
           clear H
           have p637 : 0 ≤ (x3_1 : Int):=pos_
           have q637 : x3_1 < (l0.length : Int):=pos_
           obtain ⟨ad637,e637,hx637_0⟩:=Kd.at_int HR0.out x3_1 p637 q637
           cases e637
           replace p637:=eq_true p637
           replace q637:=eq_true q637
           have p638 : 0 ≤ (x3_1 : Int):=pos_
           have q638 : x3_1 < (l0.length : Int):=pos_
           obtain ⟨ad638,e638,hx638_0⟩:=Kd.at_int HR0.out x3_1 p638 q638
           obtain rfl : ad637 = ad638:=(by injection e638)
           replace p638:=eq_true p638
           replace q638:=eq_true q638
           have p639 : 0 ≤ (x3_1 : Int):=pos_
           have q639 : x3_1 < (l0.length : Int):=pos_
           obtain ⟨ad639,e639,hx639_0⟩:=Kd.at_int HR0.out x3_1 p639 q639
           obtain rfl : ad637 = ad639:=(by injection e639)
           replace p639:=eq_true p639
           replace q639:=eq_true q639
           have p640 : 0 ≤ ((ji7) : Int):=pos_
           have q640 : (ji7) < (l0.length : Int):=pos_
           obtain ⟨ad640,e640,hx640_0⟩:=Kd.at_int HR0.out (ji7) p640 q640
           obtain rfl : ad637 = ad640:=(by injection e640)
           replace p640:=eq_true p640
           replace q640:=eq_true q640
           go_wp2
           repeat (go_quiet (fail);try go_wp2)
           go_roundg k1
           case measure => have:=HK1.out;omega
           case rel => exact ⟨(wrap64 (x3_1 + 1)),rfs,H',⟨by have:=HK1.out;omega⟩,by repeat (first | exact Drawn0.refl _ | apply Drawn0.step)⟩
         ·rw [if_neg c9] at H
          exact absurd H (by simp)
        ·rw [if_neg c8] at H
         exact absurd H (by simp)
       ·rw [if_neg c6] at H
        have c6b0 : decide (0 < x3_1) = false:=decide_eq_false c6
        clear c6
        have H':=Aside0.mk H
        clear H
        have p637 : 0 ≤ (x3_1 : Int):=pos_
        have q637 : x3_1 < (l0.length : Int):=pos_
        obtain ⟨ad637,e637,hx637_0⟩:=Kd.at_int HR0.out x3_1 p637 q637
        cases e637
        replace p637:=eq_true p637
        replace q637:=eq_true q637
        have p638 : 0 ≤ (x3_1 : Int):=pos_
        have q638 : x3_1 < (l0.length : Int):=pos_
        obtain ⟨ad638,e638,hx638_0⟩:=Kd.at_int HR0.out x3_1 p638 q638
        obtain rfl : ad637 = ad638:=(by injection e638)
        replace p638:=eq_true p638
        replace q638:=eq_true q638
        go_wp2
        repeat (go_quiet (fail);try go_wp2)
        go_roundg k1
        case measure => have:=HK1.out;omega
        case rel => exact ⟨(wrap64 (x3_1 + 1)),rfs,H',⟨by have:=HK1.out;omega⟩,by repeat (first | exact Drawn0.refl _ | apply Drawn0.step)⟩
    ·rw [if_neg c3] at H
     exact absurd H (by simp)
   ·rw [if_neg c2] at H
    have c2b0 : decide (x3_1 < (l0.length : Int)) = false:=decide_eq_false c2
    clear c2
    obtain rfl:=Option.some.inj H
    go_wp2
    repeat (go_quiet (fail);try go_wp2)
    go_ret
    exact ⟨by first | rfl | (simp;done) | (simp [*];done),by repeat (first | exact Drawn0.refl _ | apply Drawn0.step)⟩
end Go.Proofs.Ytdigplhjfjchnaa.PQ
