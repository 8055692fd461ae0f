-- Printed by fprint.py and zip.py, programs of this session's, over the kit's print; Lean checks it.
import Derived.Test.YtdigplhjfjchnaaZf33
namespace Go.Proofs.Ytdigplhjfjchnaa.PQ
open Go.RowKit Go.Proofs.YtdigplhjfjchnaaW.PrintWords Go.Proofs.YtdigplhjfjchnaaW.PrintLast Go.Proofs.YtdigplhjfjchnaaW.PrintMore
attribute [local go_sem] max2_int min2_int max_two min_two max_three min_three max_four min_four   -- for this text's walks alone
set_option linter.unusedVariables false
set_option linter.unusedSimpArgs false
def hopmeshref49_Ready.l0 : Nat → Bool → Int → ByteArray → List Int → List Bool → List Bool → Int → Int → Option (Bool)
 | 0,_,_,_,_,_,_,_,_ => none
 | k + 1,x3,x4,x754000,x754001,x754002,x754003,x754004,x754005 => if x3 = true then (if x4 < (x754002.length : Int) then (if 0 ≤ x4 then (hopmeshref49_Ready.l0 k (rdOf false x754002 x4) (wrap64 (x4 + 1)) x754000 x754001 x754002 x754003 x754004 x754005) else (none)) else (some x3)) else (some x3)
def hopmeshref49_Ready.f (k : Nat) (a0_0 : ByteArray) (l0_1 : List Int) (l0_2 : List Bool) (l0_3 : List Bool) (a0_4 a0_5 : Int) : Option (Bool):=(hopmeshref49_Valid.f k a0_0 l0_1 l0_2 l0_3 a0_4 a0_5).bind fun t754 => (hopmeshref49_Ready.l0 k (t754 == 0) 0 a0_0 l0_1 l0_2 l0_3 a0_4 a0_5)
set_option maxHeartbeats 8000000 in
set_option maxRecDepth 100000 in
theorem hopmeshref49_Ready.calls (k : Nat) (a0_0 : ByteArray) (A0_1 : Option Addr) (c0_1 : Nat) (l0_1 : List Int) (A0_2 : Option Addr) (c0_2 : Nat) (l0_2 : List Bool) (A0_3 : Option Addr) (c0_3 : Nat) (l0_3 : List Bool) (a0_4 a0_5 : Int) (r : Bool) (w : World) (hr0_1 : Kd.C (Kd.int .i64) w A0_1 l0_1.length l0_1) (hc0_1 : l0_1.length ≤ c0_1) (hr0_2 : Kd.C Kd.bool w A0_2 l0_2.length l0_2) (hc0_2 : l0_2.length ≤ c0_2) (hr0_3 : Kd.C Kd.bool w A0_3 l0_3.length l0_3) (hc0_3 : l0_3.length ≤ c0_3) (h : hopmeshref49_Ready.f k a0_0 l0_1 l0_2 l0_3 a0_4 a0_5 = some r) :
 Calls Try.prog 34 #[.agg #[.string a0_0,.slice A0_1 l0_1.length c0_1,.slice A0_2 l0_2.length c0_2,.slice A0_3 l0_3.length c0_3,.int .i64 a0_4,.int .i64 a0_5]] w fun e w' => e = .returned (.bool r) ∧ Below w.heap.size w w':=by
 have hu50:=Try.underlying50
 have HR0_1:=Aside0.mk hr0_1
 have HC0_1:=Aside0.mk hc0_1
 clear hr0_1 hc0_1
 have HR0_2:=Aside0.mk hr0_2
 have HC0_2:=Aside0.mk hc0_2
 clear hr0_2 hc0_2
 have HR0_3:=Aside0.mk hr0_3
 have HC0_3:=Aside0.mk hc0_3
 clear hr0_3 hc0_3
 have HB:=Aside0.mk (Below.refl w.heap.size w)
 have H : ((hopmeshref49_Valid.f k a0_0 l0_1 l0_2 l0_3 a0_4 a0_5).bind fun t754 => (hopmeshref49_Ready.l0 k (t754 == 0) 0 a0_0 l0_1 l0_2 l0_3 a0_4 a0_5)) = some r:=h
 clear h
 replace H:=Option.bind_eq_some_iff.mp H
 obtain ⟨t754,A20,H⟩:=H
 (try dsimp only at H)
 have A2:=Aside0.mk A20
 clear A20
 have H':=Aside0.mk H
 clear H
 go_enter Try.func34,Try.ntmps34
 go_wp2_with (first | ((with_reducible refine gate_dst (N:=1) rfl ?_);(try (refine gate_guard (by rfl) ?_;dsimp only));refine boxE 1 #[.string a0_0,.slice A0_1 l0_1.length c0_1,.slice A0_2 l0_2.length c0_2,.slice A0_3 l0_3.length c0_3,.int .i64 a0_4,.int .i64 a0_5] 50 ?_;intro gb753 hg w3 hbox hb;have BK753:=Aside0.mk (hbox);have GW753:=gw hg HB;have GE753:=gw hg HB;replace HB:=hbS HB hb;clear hb hbox hg;obtain ⟨z0,z1,z2,z3,z4,z5,y0,y1,y2,y3,y4,y5⟩:=bc6 BK753) | ((with_reducible refine gate_callee (f:=33) rfl ?_);refine goesL_ (some 6) rfl rfl Try.func33 (by kernel_rfl) rfl #[.agg #[.string a0_0,.slice A0_1 l0_1.length c0_1,.slice A0_2 l0_2.length c0_2,.slice A0_3 l0_3.length c0_3,.int .i64 a0_4,.int .i64 a0_5]] rfl sma ?_;(with_reducible refine (hopmeshref49_Valid.calls k a0_0 _ _ l0_1 _ _ l0_2 _ _ l0_3 a0_4 a0_5 t754 _ (cb HR0_1 HB) HC0_1.out (cb HR0_2 HB) HC0_2.out (cb HR0_3 HB) HC0_3.out A2.out).mono ?_);rintro e w5 ⟨rfl,hb⟩;refine ⟨_,rfl,?_⟩;replace BK753:=bkB BK753 hb;replace HB:=hbS HB hb;(try clear hb);(try clear hb2);(try clear hk);(try clear hi)))
 go_loopg [3,4] k (fun kq v3 v4 w' => ∃ (x3_1 : Bool) (x4_1 : Int),v3 = .bool x3_1 ∧ v4 = .int .i64 x4_1 ∧ Aside0 (hopmeshref49_Ready.l0 kq x3_1 x4_1 a0_0 l0_1 l0_2 l0_3 a0_4 a0_5 = some r) ∧ Aside0 (kq ≤ k) ∧ Aside0 (w'.heap[gb753]? = some (.cells #[.string a0_0,(.slice A0_1 l0_1.length c0_1),(.slice A0_2 l0_2.length c0_2),(.slice A0_3 l0_3.length c0_3),.int .i64 a0_4,.int .i64 a0_5] 50 (0,0))) ∧ Aside0 (Below w.heap.size w w'))
 case atStart => exact ⟨((t754 == 0)),(0),rfs,rfs,H',⟨Nat.le_refl _⟩,bkA BK753,hbA HB⟩
 case round =>
  clear H'
  try clear hcz4_0
  try clear hcz4_1
  try clear hcz4_2
  try clear hcz4_3
  try clear hcz4_4
  try clear hcz4_5
  try clear hfz4_0
  try clear hfz4_1
  try clear hfz4_2
  try clear hfz4_3
  try clear hfz4_4
  try clear hfz4_5
  obtain ⟨x3_1,x4_1,rfl,rfl,HA,HK1,BK753,HB⟩:=hrel
  cases gk with
  | zero => exact absurd HA.out (by simp [hopmeshref49_Ready.l0])
  | succ k1 =>
   have H:=HA.out
   clear HA
   simp only [hopmeshref49_Ready.l0] at H
   by_cases c6 : x3_1 = true
   ·subst c6
    rw [if_pos rfl] at H
    by_cases c7 : x4_1 < (l0_2.length : Int)
    ·rw [if_pos c7] at H
     have c7b0 : decide (x4_1 < (l0_2.length : Int)) = true:=decide_eq_true c7
     clear c7
     by_cases c8 : 0 ≤ x4_1
     ·rw [if_pos c8] at H
      have c8b0 : decide (0 ≤ x4_1) = true:=decide_eq_true c8
      clear c8
      have H':=Aside0.mk H
      clear H
      obtain ⟨z0,z1,z2,z3,z4,z5,y0,y1,y2,y3,y4,y5⟩:=bc6 BK753
      have p755 : 0 ≤ (x4_1 : Int):=pos_
      have q755 : x4_1 < (l0_2.length : Int):=pos_
      obtain ⟨ad755,e755,hx755_0⟩:=Kd.at_bool HR0_2.out x4_1 p755 q755
      cases e755
      replace hx755_0:=(HB.out.cell (World.block_lt_of_cell? w _ hx755_0)).trans hx755_0
      replace p755:=eq_true p755
      replace q755:=eq_true q755
      go_wp2
      go_roundg k1
      case measure => have:=HK1.out;omega
      case rel => exact ⟨(rdOf false l0_2 x4_1),(wrap64 (x4_1 + 1)),rfs,rfs,H',⟨by have:=HK1.out;omega⟩,bkA BK753,hbA HB⟩
     ·rw [if_neg c8] at H
      exact absurd H (by simp)
    ·rw [if_neg c7] at H
     have c7b0 : decide (x4_1 < (l0_2.length : Int)) = false:=decide_eq_false c7
     clear c7
     obtain rfl:=Option.some.inj H
     obtain ⟨z0,z1,z2,z3,z4,z5,y0,y1,y2,y3,y4,y5⟩:=bc6 BK753
     go_wp2
     go_ret
     exact ⟨rerr,hbx HB⟩
   ·replace c6:=Bool.eq_false_iff.mpr c6
    subst c6
    rw [if_neg (show ¬ (false = true) by decide)] at H
    obtain rfl:=Option.some.inj H
    go_wp2
    go_ret
    exact ⟨rerr,hbx HB⟩
end Go.Proofs.Ytdigplhjfjchnaa.PQ
