-- Printed by fprint.py and zip.py, programs of this session's, over the kit's print; Lean checks it.
import Derived.Test.YtdigplhjfjchnaaZ0
import Derived.Test.YtdigplhjfjchnaaZf24
import Derived.Test.YtdigplhjfjchnaaZf10
import Derived.Test.YtdigplhjfjchnaaZf13
import Derived.Test.YtdigplhjfjchnaaZf25
import Derived.Test.YtdigplhjfjchnaaZf26
import Derived.Test.YtdigplhjfjchnaaZf27
import Derived.Test.YtdigplhjfjchnaaZf28
namespace Go.Proofs.Ytdigplhjfjchnaa.PQ
open Go.RowKit Go.Proofs.YtdigplhjfjchnaaW.PrintWords Go.Proofs.YtdigplhjfjchnaaW.PrintLast Go.Proofs.YtdigplhjfjchnaaW.PrintMore
attribute [local go_sem] max2_int min2_int max_two min_two max_three min_three max_four min_four   -- for this text's walks alone
set_option linter.unusedVariables false
set_option linter.unusedSimpArgs false
mutual
def hopmeshlaw49_InstallEncodes.j0 : Nat → ByteArray → Bool → Int → Int → Int → ByteArray → List Int → Option (Bool)
 | 0, _, _, _, _, _, _, _ => none
 | k + 1, x1, x28, x640000, x640001, x640002, x640003, x640004 => if x28 = true then ((hopmeshlaw49_awake.f k).bind fun t642 => (some t642)) else ((install_Encode.f k x640000 x640001 x640002 x640003 x640004).bind fun bt643 => ((hopmeshref49_Encode.f k x640000 x640001 x640002 x640003 x640004).bind fun bt645 => ((install_Decode.f k x1).bind fun bt647 => ((hopmeshref49_Decode.f k x1).bind fun bt656 => (if bt643.1.toList = bt645.1.toList then (if bt643.2 = bt645.2 then ((hopmeshref49_SameCommand.f k bt647.1 bt647.2.1 bt647.2.2.1 bt647.2.2.2.1 bt647.2.2.2.2.1 bt656.1 bt656.2.1 bt656.2.2.1 bt656.2.2.2.1 bt656.2.2.2.2.1).bind fun t665 => (if t665 = true then (hopmeshlaw49_InstallEncodes.j1 k x1 bt643.1 bt643.2 bt647.2.2.2.2.2 (bt647.2.2.2.2.2 != bt656.2.2.2.2.2) x640000 x640001 x640002 x640003 x640004 bt647.1 bt647.2.1 bt647.2.2.1 bt647.2.2.2.1 bt647.2.2.2.2.1) else (hopmeshlaw49_InstallEncodes.j1 k x1 bt643.1 bt643.2 bt647.2.2.2.2.2 true x640000 x640001 x640002 x640003 x640004 bt647.1 bt647.2.1 bt647.2.2.1 bt647.2.2.2.1 bt647.2.2.2.2.1))) else (hopmeshlaw49_InstallEncodes.j1 k x1 bt643.1 bt643.2 bt647.2.2.2.2.2 true x640000 x640001 x640002 x640003 x640004 bt647.1 bt647.2.1 bt647.2.2.1 bt647.2.2.2.1 bt647.2.2.2.2.1)) else (hopmeshlaw49_InstallEncodes.j1 k x1 bt643.1 bt643.2 bt647.2.2.2.2.2 true x640000 x640001 x640002 x640003 x640004 bt647.1 bt647.2.1 bt647.2.2.1 bt647.2.2.2.1 bt647.2.2.2.2.1))))))
def hopmeshlaw49_InstallEncodes.j1 : Nat → ByteArray → ByteArray → Int → Int → Bool → Int → Int → Int → ByteArray → List Int → Int → Int → Int → ByteArray → List Int → Option (Bool)
 | 0, _, _, _, _, _, _, _, _, _, _, _, _, _, _, _ => none
 | k + 1, x1, x5, x6, x10, x68, x640000, x640001, x640002, x640003, x640004, x656000, x656001, x656002, x656003, x656004 => if x68 = true then (none) else (if x6 = 0 then ((install_Decode.f k x5).bind fun bt666 => (if bt666.2.2.2.2.2 = 0 then ((hopmeshref49_SameCommand.f k bt666.1 bt666.2.1 bt666.2.2.1 bt666.2.2.2.1 bt666.2.2.2.2.1 x640000 x640001 x640002 x640003 x640004).bind fun t675 => (hopmeshlaw49_InstallEncodes.j2 k x1 x10 (!t675) x656000 x656001 x656002 x656003 x656004)) else (hopmeshlaw49_InstallEncodes.j2 k x1 x10 true x656000 x656001 x656002 x656003 x656004))) else (if x10 = 0 then ((install_Encode.f k x656000 x656001 x656002 x656003 x656004).bind fun bt678 => (if bt678.2 = 0 then (some (bt678.1.toList == x1.toList)) else (none))) else (some true)))
def hopmeshlaw49_InstallEncodes.j2 : Nat → ByteArray → Int → Bool → Int → Int → Int → ByteArray → List Int → Option (Bool)
 | 0, _, _, _, _, _, _, _, _ => none
 | k + 1, x1, x10, x83, x656000, x656001, x656002, x656003, x656004 => if x83 = true then (none) else (if x10 = 0 then ((install_Encode.f k x656000 x656001 x656002 x656003 x656004).bind fun bt676 => (if bt676.2 = 0 then (some (bt676.1.toList == x1.toList)) else (none))) else (some true))
end
def hopmeshlaw49_InstallEncodes.f (k : Nat) (a0_0 : Int) (a0_1 : Int) (a0_2 : Int) (a0_3 : ByteArray) (l0_4 : List Int) (a1 : ByteArray) : Option (Bool) := (hopmeshlaw49_awake.f k).bind fun t640 => (if t640 = true then ((hopmeshref49_Few.f a0_0 a0_1 a0_2 a0_3 l0_4).bind fun t641 => (if t641 = true then (hopmeshlaw49_InstallEncodes.j0 k a1 (decide ((a1.size : Int) > 100)) a0_0 a0_1 a0_2 a0_3 l0_4) else (hopmeshlaw49_InstallEncodes.j0 k a1 true a0_0 a0_1 a0_2 a0_3 l0_4))) else (hopmeshlaw49_InstallEncodes.j0 k a1 true a0_0 a0_1 a0_2 a0_3 l0_4))
theorem hopmeshlaw49_InstallEncodes.mono_l : ∀ k, (∀ y0 y1 y2 y3 y4 y5 y6, LeO (hopmeshlaw49_InstallEncodes.j0 k y0 y1 y2 y3 y4 y5 y6) (hopmeshlaw49_InstallEncodes.j0 (k + 1) y0 y1 y2 y3 y4 y5 y6)) ∧ (∀ y0 y1 y2 y3 y4 y5 y6 y7 y8 y9 y10 y11 y12 y13 y14, LeO (hopmeshlaw49_InstallEncodes.j1 k y0 y1 y2 y3 y4 y5 y6 y7 y8 y9 y10 y11 y12 y13 y14) (hopmeshlaw49_InstallEncodes.j1 (k + 1) y0 y1 y2 y3 y4 y5 y6 y7 y8 y9 y10 y11 y12 y13 y14)) ∧ (∀ y0 y1 y2 y3 y4 y5 y6 y7, LeO (hopmeshlaw49_InstallEncodes.j2 k y0 y1 y2 y3 y4 y5 y6 y7) (hopmeshlaw49_InstallEncodes.j2 (k + 1) y0 y1 y2 y3 y4 y5 y6 y7))
 | 0 => ⟨fun _ _ _ _ _ _ _ r h => by simp [hopmeshlaw49_InstallEncodes.j0] at h, fun _ _ _ _ _ _ _ _ _ _ _ _ _ _ _ r h => by simp [hopmeshlaw49_InstallEncodes.j1] at h, fun _ _ _ _ _ _ _ _ r h => by simp [hopmeshlaw49_InstallEncodes.j2] at h⟩
 | k + 1 => by
  obtain ⟨ih0, ih1, ih2⟩ := hopmeshlaw49_InstallEncodes.mono_l k
  refine ⟨?_, ?_, ?_⟩
  ·intro y0 y1 y2 y3 y4 y5 y6
   unfold hopmeshlaw49_InstallEncodes.j0
   repeat' first
   | (with_reducible exact ih0 _ _ _ _ _ _ _)
   | (with_reducible exact ih1 _ _ _ _ _ _ _ _ _ _ _ _ _ _ _)
   | (with_reducible exact ih2 _ _ _ _ _ _ _ _)
   | (with_reducible exact hopmeshlaw49_awake.mono _)
   | (with_reducible exact hopmeshref49_Decode.mono _ _)
   | (with_reducible exact hopmeshref49_Encode.mono _ _ _ _ _ _)
   | (with_reducible exact hopmeshref49_SameCommand.mono _ _ _ _ _ _ _ _ _ _ _)
   | (with_reducible exact install_Decode.mono _ _)
   | (with_reducible exact install_Encode.mono _ _ _ _ _ _)
   | (with_reducible exact LeO.refl _)
   | (with_reducible exact LeO.none _)
   | (with_reducible refine LeO.ite ?_ ?_)
   | (with_reducible refine LeO.bind ?_ (fun _ => ?_))
   | exact ih0 _ _ _ _ _ _ _
   | exact ih1 _ _ _ _ _ _ _ _ _ _ _ _ _ _ _
   | exact ih2 _ _ _ _ _ _ _ _
   | exact hopmeshlaw49_awake.mono _
   | exact hopmeshref49_Decode.mono _ _
   | exact hopmeshref49_Encode.mono _ _ _ _ _ _
   | exact hopmeshref49_SameCommand.mono _ _ _ _ _ _ _ _ _ _ _
   | exact install_Decode.mono _ _
   | exact install_Encode.mono _ _ _ _ _ _
   | exact LeO.none _
   | refine LeO.ite ?_ ?_
   | refine LeO.bind ?_ (fun _ => ?_)
  ·intro y0 y1 y2 y3 y4 y5 y6 y7 y8 y9 y10 y11 y12 y13 y14
   unfold hopmeshlaw49_InstallEncodes.j1
   repeat' first
   | (with_reducible exact ih0 _ _ _ _ _ _ _)
   | (with_reducible exact ih1 _ _ _ _ _ _ _ _ _ _ _ _ _ _ _)
   | (with_reducible exact ih2 _ _ _ _ _ _ _ _)
   | (with_reducible exact hopmeshlaw49_awake.mono _)
   | (with_reducible exact hopmeshref49_Decode.mono _ _)
   | (with_reducible exact hopmeshref49_Encode.mono _ _ _ _ _ _)
   | (with_reducible exact hopmeshref49_SameCommand.mono _ _ _ _ _ _ _ _ _ _ _)
   | (with_reducible exact install_Decode.mono _ _)
   | (with_reducible exact install_Encode.mono _ _ _ _ _ _)
   | (with_reducible exact LeO.refl _)
   | (with_reducible exact LeO.none _)
   | (with_reducible refine LeO.ite ?_ ?_)
   | (with_reducible refine LeO.bind ?_ (fun _ => ?_))
   | exact ih0 _ _ _ _ _ _ _
   | exact ih1 _ _ _ _ _ _ _ _ _ _ _ _ _ _ _
   | exact ih2 _ _ _ _ _ _ _ _
   | exact hopmeshlaw49_awake.mono _
   | exact hopmeshref49_Decode.mono _ _
   | exact hopmeshref49_Encode.mono _ _ _ _ _ _
   | exact hopmeshref49_SameCommand.mono _ _ _ _ _ _ _ _ _ _ _
   | exact install_Decode.mono _ _
   | exact install_Encode.mono _ _ _ _ _ _
   | exact LeO.none _
   | refine LeO.ite ?_ ?_
   | refine LeO.bind ?_ (fun _ => ?_)
  ·intro y0 y1 y2 y3 y4 y5 y6 y7
   unfold hopmeshlaw49_InstallEncodes.j2
   repeat' first
   | (with_reducible exact ih0 _ _ _ _ _ _ _)
   | (with_reducible exact ih1 _ _ _ _ _ _ _ _ _ _ _ _ _ _ _)
   | (with_reducible exact ih2 _ _ _ _ _ _ _ _)
   | (with_reducible exact hopmeshlaw49_awake.mono _)
   | (with_reducible exact hopmeshref49_Decode.mono _ _)
   | (with_reducible exact hopmeshref49_Encode.mono _ _ _ _ _ _)
   | (with_reducible exact hopmeshref49_SameCommand.mono _ _ _ _ _ _ _ _ _ _ _)
   | (with_reducible exact install_Decode.mono _ _)
   | (with_reducible exact install_Encode.mono _ _ _ _ _ _)
   | (with_reducible exact LeO.refl _)
   | (with_reducible exact LeO.none _)
   | (with_reducible refine LeO.ite ?_ ?_)
   | (with_reducible refine LeO.bind ?_ (fun _ => ?_))
   | exact ih0 _ _ _ _ _ _ _
   | exact ih1 _ _ _ _ _ _ _ _ _ _ _ _ _ _ _
   | exact ih2 _ _ _ _ _ _ _ _
   | exact hopmeshlaw49_awake.mono _
   | exact hopmeshref49_Decode.mono _ _
   | exact hopmeshref49_Encode.mono _ _ _ _ _ _
   | exact hopmeshref49_SameCommand.mono _ _ _ _ _ _ _ _ _ _ _
   | exact install_Decode.mono _ _
   | exact install_Encode.mono _ _ _ _ _ _
   | exact LeO.none _
   | refine LeO.ite ?_ ?_
   | refine LeO.bind ?_ (fun _ => ?_)
theorem hopmeshlaw49_InstallEncodes.mono : ∀ a0 a1 a2 a3 a4 a5 k, LeO (hopmeshlaw49_InstallEncodes.f k a0 a1 a2 a3 a4 a5) (hopmeshlaw49_InstallEncodes.f (k + 1) a0 a1 a2 a3 a4 a5) := by
 intro a0 a1 a2 a3 a4 a5 k
 obtain ⟨ih0, ih1, ih2⟩ := hopmeshlaw49_InstallEncodes.mono_l k
 unfold hopmeshlaw49_InstallEncodes.f
 repeat' first
  | (with_reducible exact ih0 _ _ _ _ _ _ _)
  | (with_reducible exact ih1 _ _ _ _ _ _ _ _ _ _ _ _ _ _ _)
  | (with_reducible exact ih2 _ _ _ _ _ _ _ _)
  | (with_reducible exact hopmeshlaw49_awake.mono _)
  | (with_reducible exact hopmeshref49_Decode.mono _ _)
  | (with_reducible exact hopmeshref49_Encode.mono _ _ _ _ _ _)
  | (with_reducible exact hopmeshref49_SameCommand.mono _ _ _ _ _ _ _ _ _ _ _)
  | (with_reducible exact install_Decode.mono _ _)
  | (with_reducible exact install_Encode.mono _ _ _ _ _ _)
  | (with_reducible exact LeO.refl _)
  | (with_reducible exact LeO.none _)
  | (with_reducible refine LeO.ite ?_ ?_)
  | (with_reducible refine LeO.bind ?_ (fun _ => ?_))
  | exact ih0 _ _ _ _ _ _ _
  | exact ih1 _ _ _ _ _ _ _ _ _ _ _ _ _ _ _
  | exact ih2 _ _ _ _ _ _ _ _
  | exact hopmeshlaw49_awake.mono _
  | exact hopmeshref49_Decode.mono _ _
  | exact hopmeshref49_Encode.mono _ _ _ _ _ _
  | exact hopmeshref49_SameCommand.mono _ _ _ _ _ _ _ _ _ _ _
  | exact install_Decode.mono _ _
  | exact install_Encode.mono _ _ _ _ _ _
  | exact LeO.none _
  | refine LeO.ite ?_ ?_
  | refine LeO.bind ?_ (fun _ => ?_)
set_option maxHeartbeats 8000000 in
set_option maxRecDepth 100000 in
theorem hopmeshlaw49_InstallEncodes.calls (k : Nat) (a0_0 : Int) (a0_1 : Int) (a0_2 : Int) (a0_3 : ByteArray) (A0_4 : Option Addr) (c0_4 : Nat) (l0_4 : List Int) (a1 : ByteArray) (r : Bool) (w : World) (hr0_4 : Kd.C (Kd.int .i64) w A0_4 l0_4.length l0_4) (hc0_4 : l0_4.length ≤ c0_4) (h : hopmeshlaw49_InstallEncodes.f k a0_0 a0_1 a0_2 a0_3 l0_4 a1 = some r) :
 Calls Try.prog 7 #[.agg #[.int .i64 a0_0, .int .i64 a0_1, .int .i64 a0_2, .string a0_3, .slice A0_4 l0_4.length c0_4], .string a1] w fun e w' => e = .returned (.bool r) ∧ Below w.heap.size w w' := by
 have hu36 := Try.underlying36
 have HR0_4 := Aside0.mk hr0_4
 have HC0_4 := Aside0.mk hc0_4
 clear hr0_4 hc0_4
 have HB := Aside0.mk (Below.refl w.heap.size w)
 have H : ((hopmeshlaw49_awake.f k).bind fun t640 => (if t640 = true then ((hopmeshref49_Few.f a0_0 a0_1 a0_2 a0_3 l0_4).bind fun t641 => (if t641 = true then (hopmeshlaw49_InstallEncodes.j0 k a1 (decide ((a1.size : Int) > 100)) a0_0 a0_1 a0_2 a0_3 l0_4) else (hopmeshlaw49_InstallEncodes.j0 k a1 true a0_0 a0_1 a0_2 a0_3 l0_4))) else (hopmeshlaw49_InstallEncodes.j0 k a1 true a0_0 a0_1 a0_2 a0_3 l0_4))) = some r := h
 clear h
 have HC3 := Aside0.mk H
 clear H
 go_enter Try.func7, Try.ntmps7
 go_upto_region 1 with (first | ((with_reducible refine gate_dst (N := 2) rfl ?_); (try (refine gate_guard (by rfl) ?_; dsimp only)); refine boxE 2 #[.int .i64 a0_0, .int .i64 a0_1, .int .i64 a0_2, .string a0_3, .slice A0_4 l0_4.length c0_4] 36 ?_; intro gb639 hg w4 hbox hb; have BK639 := Aside0.mk (hbox); have GW639 := gw hg HB; have GE639 := gw hg HB; replace HB := hbS HB hb; clear hb hbox hg))
 (try simp only [Act.put, List.setIfInBounds_toArray, List.set_cons_zero, List.set_cons_succ])
 go_cut [28] (fun v28 wc => ∃ (kq : Nat) (x28_2 : Bool), v28 = .bool x28_2 ∧ Aside0 (hopmeshlaw49_InstallEncodes.j0 kq a1 x28_2 a0_0 a0_1 a0_2 a0_3 l0_4 = some r) ∧ Aside0 (kq ≤ k) ∧ Aside0 (wc.heap[gb639]? = some (.cells #[.int .i64 a0_0, .int .i64 a0_1, .int .i64 a0_2, .string a0_3, (.slice A0_4 l0_4.length c0_4)] 36 (0, 0))) ∧ Aside0 (Below w.heap.size w wc))
 case first =>
  have H := HC3.out
  clear HC3
  replace H := Option.bind_eq_some_iff.mp H
  obtain ⟨t640, A50, H⟩ := H
  (try dsimp only at H)
  have A5 := Aside0.mk A50
  clear A50
  by_cases c6 : t640 = true
  ·subst c6
   rw [if_pos rfl] at H
   replace H := Option.bind_eq_some_iff.mp H
   obtain ⟨t641, A70, H⟩ := H
   (try dsimp only at H)
   have A7 := Aside0.mk A70
   clear A70
   by_cases c8 : t641 = true
   ·subst c8
    rw [if_pos rfl] at H
    have H' := Aside0.mk H
    clear H
    go_wp2_with (first | ((with_reducible refine gate_callee (f := 10) rfl ?_); refine goesL_ (some 17) rfl rfl Try.func10 (by kernel_rfl) rfl #[] rfl sma ?_; (with_reducible refine (hopmeshlaw49_awake.calls k  true _ A5.out).mono ?_); rintro e w9 ⟨rfl, hb⟩; refine ⟨_, rfl, ?_⟩; replace BK639 := bkB BK639 hb; replace HB := hbS HB hb; (try clear hb); (try clear hb2); (try clear hk); (try clear hi); obtain ⟨z0, z1, z2, z3, z4, y0, y1, y2, y3, y4⟩ := bc5 BK639) | (go_at_call 13; (with_reducible refine (hopmeshref49_Few.calls a0_0 a0_1 a0_2 a0_3 _ _ l0_4 true _ (cb HR0_4 HB) HC0_4.out A7.out).mono ?_); rintro e w11 ⟨rfl, hb⟩; replace BK639 := bkB BK639 hb; replace HB := hbS HB hb; (try clear hb); (try clear hb2); (try clear hk); (try clear hi)))
    go_meet
    case rel => exact ⟨_, (decide ((a1.size : Int) > 100)), rfs, H', kle, bkA BK639, hbA HB⟩
   ·replace c8 := Bool.eq_false_iff.mpr c8
    subst c8
    rw [if_neg (show ¬ (false = true) by decide)] at H
    have H' := Aside0.mk H
    clear H
    go_wp2_with (first | ((with_reducible refine gate_callee (f := 10) rfl ?_); refine goesL_ (some 17) rfl rfl Try.func10 (by kernel_rfl) rfl #[] rfl sma ?_; (with_reducible refine (hopmeshlaw49_awake.calls k  true _ A5.out).mono ?_); rintro e w12 ⟨rfl, hb⟩; refine ⟨_, rfl, ?_⟩; replace BK639 := bkB BK639 hb; replace HB := hbS HB hb; (try clear hb); (try clear hb2); (try clear hk); (try clear hi); obtain ⟨z0, z1, z2, z3, z4, y0, y1, y2, y3, y4⟩ := bc5 BK639) | (go_at_call 13; (with_reducible refine (hopmeshref49_Few.calls a0_0 a0_1 a0_2 a0_3 _ _ l0_4 false _ (cb HR0_4 HB) HC0_4.out A7.out).mono ?_); rintro e w14 ⟨rfl, hb⟩; replace BK639 := bkB BK639 hb; replace HB := hbS HB hb; (try clear hb); (try clear hb2); (try clear hk); (try clear hi)))
    go_meet
    case rel => exact ⟨_, (true), rfs, H', kle, bkA BK639, hbA HB⟩
  ·replace c6 := Bool.eq_false_iff.mpr c6
   subst c6
   rw [if_neg (show ¬ (false = true) by decide)] at H
   have H' := Aside0.mk H
   clear H
   go_wp2_with (first | ((with_reducible refine gate_callee (f := 10) rfl ?_); refine goesL_ (some 17) rfl rfl Try.func10 (by kernel_rfl) rfl #[] rfl sma ?_; (with_reducible refine (hopmeshlaw49_awake.calls k  false _ A5.out).mono ?_); rintro e w15 ⟨rfl, hb⟩; refine ⟨_, rfl, ?_⟩; replace BK639 := bkB BK639 hb; replace HB := hbS HB hb; (try clear hb); (try clear hb2); (try clear hk); (try clear hi)))
   go_meet
   case rel => exact ⟨_, (true), rfs, H', kle, bkA BK639, hbA HB⟩
 case rest =>
  clear HC3
  obtain ⟨kq, x28_2, rfl, HA, HJ2, BK639, HB⟩ := hcut
  cases kq with
  | zero => exact absurd HA.out (by simp [hopmeshlaw49_InstallEncodes.j0])
  | succ kj2 =>
   have H := HA.out
   clear HA
   simp only [hopmeshlaw49_InstallEncodes.j0] at H
   by_cases c16 : x28_2 = true
   ·subst c16
    rw [if_pos rfl] at H
    replace H := Option.bind_eq_some_iff.mp H
    obtain ⟨t642, A170, H⟩ := H
    (try dsimp only at H)
    have A17 := Aside0.mk A170
    clear A170
    obtain rfl := Option.some.inj H
    go_wp2_with (first | ((with_reducible refine gate_callee (f := 10) rfl ?_); refine goesL_ (some 29) rfl rfl Try.func10 (by kernel_rfl) rfl #[] rfl sma ?_; (with_reducible refine (hopmeshlaw49_awake.calls kj2  t642 _ A17.out).mono ?_); rintro e w18 ⟨rfl, hb⟩; refine ⟨_, rfl, ?_⟩; replace BK639 := bkB BK639 hb; replace HB := hbS HB hb; (try clear hb); (try clear hb2); (try clear hk); (try clear hi)))
    go_ret
    exact ⟨rerr, hbx HB⟩
   ·replace c16 := Bool.eq_false_iff.mpr c16
    subst c16
    rw [if_neg (show ¬ (false = true) by decide)] at H
    replace H := Option.bind_eq_some_iff.mp H
    obtain ⟨⟨t643, t644⟩, A190, H⟩ := H
    (try dsimp only at H)
    have A19 := Aside0.mk A190
    clear A190
    replace H := Option.bind_eq_some_iff.mp H
    obtain ⟨⟨t645, t646⟩, A200, H⟩ := H
    (try dsimp only at H)
    have A20 := Aside0.mk A200
    clear A200
    replace H := Option.bind_eq_some_iff.mp H
    obtain ⟨⟨t647, t648, t649, t650, t651, t654⟩, A210, H⟩ := H
    (try dsimp only at H)
    have A21 := Aside0.mk A210
    clear A210
    replace H := Option.bind_eq_some_iff.mp H
    obtain ⟨⟨t656, t657, t658, t659, t660, t663⟩, A220, H⟩ := H
    (try dsimp only at H)
    have A22 := Aside0.mk A220
    clear A220
    have HC23 := Aside0.mk H
    clear H
    obtain ⟨z0, z1, z2, z3, z4, y0, y1, y2, y3, y4⟩ := bc5 BK639
    go_upto_region 7 with (first | ((with_reducible refine gate_callee (f := 24) rfl ?_); refine goesL_ (some 32) rfl rfl Try.func24 (by kernel_rfl) rfl #[.agg #[.int .i64 a0_0, .int .i64 a0_1, .int .i64 a0_2, .string a0_3, .slice A0_4 l0_4.length c0_4]] rfl sma ?_; (with_reducible refine (install_Encode.calls kj2 a0_0 a0_1 a0_2 a0_3 _ _ l0_4 t643 t644 _ (cb HR0_4 HB) HC0_4.out A19.out).mono ?_); rintro e w25 ⟨rfl, hb⟩; refine ⟨_, rfl, ?_⟩; replace BK639 := bkB BK639 hb; replace HB := hbS HB hb; (try clear hb); (try clear hb2); (try clear hk); (try clear hi); obtain ⟨z0, z1, z2, z3, z4, y0, y1, y2, y3, y4⟩ := bc5 BK639) | ((with_reducible refine gate_callee (f := 25) rfl ?_); refine goesL_ (some 37) rfl rfl Try.func25 (by kernel_rfl) rfl #[.agg #[.int .i64 a0_0, .int .i64 a0_1, .int .i64 a0_2, .string a0_3, .slice A0_4 l0_4.length c0_4]] rfl sma ?_; (with_reducible refine (hopmeshref49_Encode.calls kj2 a0_0 a0_1 a0_2 a0_3 _ _ l0_4 t645 t646 _ (cb HR0_4 HB) HC0_4.out A20.out).mono ?_); rintro e w27 ⟨rfl, hb⟩; refine ⟨_, rfl, ?_⟩; replace BK639 := bkB BK639 hb; replace HB := hbS HB hb; (try clear hb); (try clear hb2); (try clear hk); (try clear hi)) | ((with_reducible refine gate_callee (f := 26) rfl ?_); refine goesL_ (some 42) rfl rfl Try.func26 (by kernel_rfl) rfl #[.string a1] rfl sma ?_; (with_reducible refine (install_Decode.calls kj2 a1 t647 t648 t649 t650 t651 t654 _ A21.out).mono ?_); rintro e w28 ⟨v652, rfl, ho0, hb⟩; refine ⟨_, rfl, ?_⟩; have HO653 := Aside0.mk (Kd.R_lower ho0 (below_size (hbx HB))); replace BK639 := bkB BK639 hb; replace HB := hbS HB hb; (try clear hb); (try clear hb2); (try clear hk); (try clear hi); (try clear ho0)) | ((with_reducible refine gate_dst (N := 9) rfl ?_); (try (refine gate_guard (by rfl) ?_; dsimp only)); refine boxE 9 #[.int .i64 0, .int .i64 0, .int .i64 0, .string (⟨#[]⟩ : ByteArray), .slice none 0 0] 36 ?_; intro gb655 hg w29 hbox hb; replace HO653 := rB HO653 hb; have BK655 := Aside0.mk (hbox); have GW655 := gw hg HB; have GE655 := gw hg HB; replace HB := hbS HB hb; have NB639_655 := nbl hg BK639; have NB655_639 := nbg hg BK639; replace BK639 := bkB BK639 hb; clear hb hbox hg; have hnb30 := NB655_639.out; have hnc30 := NB639_655.out; obtain ⟨z0, z1, z2, z3, z4, y0, y1, y2, y3, y4⟩ := bc5 BK655; obtain ⟨Ao32, co32, eo32⟩ := Kd.R_slice HO653.out; subst eo32) | ((with_reducible refine gate_callee (f := 27) rfl ?_); refine goesL_ (some 47) rfl rfl Try.func27 (by kernel_rfl) rfl #[.string a1] rfl sma ?_; (with_reducible refine (hopmeshref49_Decode.calls kj2 a1 t656 t657 t658 t659 t660 t663 _ A22.out).mono ?_); rintro e w33 ⟨v661, rfl, ho0, hb⟩; refine ⟨_, rfl, ?_⟩; have HO662 := Aside0.mk (Kd.R_lower (Kd.R_new' ho0 (Kd.R_lt (rx (Kd.R_mono (Kd.R_far (p := ⟨gb655, 4, none⟩) (Kd.R_far (p := ⟨gb655, 3, none⟩) (Kd.R_far (p := ⟨gb655, 2, none⟩) (Kd.R_far (p := ⟨gb655, 1, none⟩) (Kd.R_far (p := ⟨gb655, 0, none⟩) (Kd.R_types HO653.out BK655.out (by decide)) (fun _ hk => hk.2) (.int .i64 t647)) (fun _ hk => hk.2) (.int .i64 t648)) (fun _ hk => hk.2) (.int .i64 t649)) (fun _ hk => hk.2) (.string t650)) (fun _ hk => hk.2) (.slice Ao32 t651.length co32)) (fun _ h_ => h_.1))))) (below_size (hbx HB))); replace HO653 := Aside0.mk (Kd.R_elder' (rx (Kd.R_mono (Kd.R_far (p := ⟨gb655, 4, none⟩) (Kd.R_far (p := ⟨gb655, 3, none⟩) (Kd.R_far (p := ⟨gb655, 2, none⟩) (Kd.R_far (p := ⟨gb655, 1, none⟩) (Kd.R_far (p := ⟨gb655, 0, none⟩) (Kd.R_types HO653.out BK655.out (by decide)) (fun _ hk => hk.2) (.int .i64 t647)) (fun _ hk => hk.2) (.int .i64 t648)) (fun _ hk => hk.2) (.int .i64 t649)) (fun _ hk => hk.2) (.string t650)) (fun _ hk => hk.2) (.slice Ao32 t651.length co32)) (fun _ h_ => h_.1))) (Kd.R_base ho0) hb); replace BK639 := bkfB BK639 hb; replace BK655 := Aside0.mk (blk_below (o := .cells #[.int .i64 t647, .int .i64 t648, .int .i64 t649, .string t650, .slice Ao32 t651.length co32] 36 (0, 0)) (bkp BK655) hb); replace HB := hbS HB hb; (try clear hb); (try clear hb2); (try clear hk); (try clear hi); (try clear ho0)) | ((with_reducible refine gate_dst (N := 11) rfl ?_); (try (refine gate_guard (by rfl) ?_; dsimp only)); refine boxE 11 #[.int .i64 0, .int .i64 0, .int .i64 0, .string (⟨#[]⟩ : ByteArray), .slice none 0 0] 36 ?_; intro gb664 hg w34 hbox hb; replace HO653 := rB HO653 hb; replace HO662 := rB HO662 hb; have BK664 := Aside0.mk (hbox); have GW664 := gw hg HB; have GE664 := gw hg HB; replace HB := hbS HB hb; have NB639_664 := nbl hg BK639; have NB664_639 := nbg hg BK639; replace BK639 := bkB BK639 hb; have NB655_664 := nbl hg BK655; have NB664_655 := nbg hg BK655; replace BK655 := bkB BK655 hb; clear hb hbox hg; have hnb35 := NB664_639.out; have hnc35 := NB639_664.out; have hnb36 := NB664_655.out; have hnc36 := NB655_664.out; obtain ⟨z0, z1, z2, z3, z4, y0, y1, y2, y3, y4⟩ := bc5 BK664; obtain ⟨Ao38, co38, eo38⟩ := Kd.R_slice HO662.out; subst eo38))
    (try simp only [Act.put, List.setIfInBounds_toArray, List.set_cons_zero, List.set_cons_succ])
    go_cut [68] (fun v68 wc => ∃ (kq : Nat) (x68_22 : Bool), v68 = .bool x68_22 ∧ Aside0 (hopmeshlaw49_InstallEncodes.j1 kq a1 t643 t644 t654 x68_22 a0_0 a0_1 a0_2 a0_3 l0_4 t647 t648 t649 t650 t651 = some r) ∧ Aside0 (kq ≤ kj2) ∧ Aside0 (Kd.R (Kd.int .i64) 3 wc w.heap.size (fun k_ => some k_ ≠ ((.slice Ao38 t660.length co38) : Value).ownBlock) (.slice Ao32 t651.length co32) t651) ∧ Aside0 (Kd.R (Kd.int .i64) 3 wc w.heap.size (fun k_ => some k_ ≠ ((.slice Ao32 t651.length co32) : Value).ownBlock) (.slice Ao38 t660.length co38) t660) ∧ Aside0 (wc.heap[gb639]? = some (.cells #[.int .i64 a0_0, .int .i64 a0_1, .int .i64 a0_2, .string a0_3, (.slice A0_4 l0_4.length c0_4)] 36 (0, 0))) ∧ Aside0 (wc.heap[gb655]? = some (.cells #[.int .i64 t647, .int .i64 t648, .int .i64 t649, .string t650, (.slice Ao32 t651.length co32)] 36 (0, 0))) ∧ Aside0 (wc.heap[gb664]? = some (.cells #[.int .i64 t656, .int .i64 t657, .int .i64 t658, .string t659, (.slice Ao38 t660.length co38)] 36 (0, 0))) ∧ Aside0 (Below w.heap.size w wc))
    case first =>
     have H := HC23.out
     clear HC23
     by_cases c39 : t643.toList = t645.toList
     ·rw [if_pos c39] at H
      have c39b0 : (t643.toList == t645.toList) = true := beq_iff_eq.mpr c39
      have c39b1 : (t643.toList != t645.toList) = false := bne_eq_false_iff_eq.mpr c39
      clear c39
      (first | rw [c39b0] | (simp only [i64_w, i32_w]; rw [c39b0]) | skip)
      by_cases c40 : t644 = t646
      ·rw [if_pos c40] at H
       have c40b0 : (t644 == t646) = true := beq_iff_eq.mpr c40
       have c40b1 : (t644 != t646) = false := bne_eq_false_iff_eq.mpr c40
       clear c40
       replace H := Option.bind_eq_some_iff.mp H
       obtain ⟨t665, A410, H⟩ := H
       (try dsimp only at H)
       have A41 := Aside0.mk A410
       clear A410
       by_cases c42 : t665 = true
       ·subst c42
        rw [if_pos rfl] at H
        have H' := Aside0.mk H
        clear H
        have hnb43 := NB655_639.out
        have hnc43 := NB639_655.out
        have hnb44 := NB655_664.out
        have hnc44 := NB664_655.out
        obtain ⟨z0, z1, z2, z3, z4, y0, y1, y2, y3, y4⟩ := bc5 BK655
        have hnb46 := NB664_639.out
        have hnc46 := NB639_664.out
        obtain ⟨z0, z1, z2, z3, z4, y0, y1, y2, y3, y4⟩ := bc5 BK664
        go_wp2_with (first | (go_at_call 28; (with_reducible refine (hopmeshref49_SameCommand.calls kj2 t647 t648 t649 t650 _ _ t651 t656 t657 t658 t659 _ _ t660 true _ ?side1 ?side2 ?side3 ?side4 A41.out).mono ?_); (case side1 => refine (Kd.R_reads' (e := 3) (base := w.heap.size) (ok := fun k_ => (True ∧ some k_ ≠ (.slice Ao38 t660.length co38 : Value).ownBlock)) (n := t651.length) (c := co32) ?_).2.2; exact (rx (Kd.R_mono (Kd.R_far (p := ⟨gb664, 4, none⟩) (Kd.R_far (p := ⟨gb664, 3, none⟩) (Kd.R_far (p := ⟨gb664, 2, none⟩) (Kd.R_far (p := ⟨gb664, 1, none⟩) (Kd.R_far (p := ⟨gb664, 0, none⟩) (Kd.R_types HO653.out BK664.out (by decide)) (fun _ hk => hk.2) (.int .i64 t656)) (fun _ hk => hk.2) (.int .i64 t657)) (fun _ hk => hk.2) (.int .i64 t658)) (fun _ hk => hk.2) (.string t659)) (fun _ hk => hk.2) (.slice Ao38 t660.length co38)) (fun _ h_ => h_.1)))); (case side2 => exact (Kd.R_reads' HO653.out).2.1); (case side3 => refine (Kd.R_reads' (e := 3) (base := w.heap.size) (ok := fun k_ => (True ∧ some k_ ≠ (.slice Ao32 t651.length co32 : Value).ownBlock)) (n := t660.length) (c := co38) ?_).2.2; exact (rx (Kd.R_mono (Kd.R_far (p := ⟨gb664, 4, none⟩) (Kd.R_far (p := ⟨gb664, 3, none⟩) (Kd.R_far (p := ⟨gb664, 2, none⟩) (Kd.R_far (p := ⟨gb664, 1, none⟩) (Kd.R_far (p := ⟨gb664, 0, none⟩) (Kd.R_types HO662.out BK664.out (by decide)) (fun _ hk => hk.2) (.int .i64 t656)) (fun _ hk => hk.2) (.int .i64 t657)) (fun _ hk => hk.2) (.int .i64 t658)) (fun _ hk => hk.2) (.string t659)) (fun _ hk => hk.2) (.slice Ao38 t660.length co38)) (fun _ h_ => h_.1)))); (case side4 => exact (Kd.R_reads' HO662.out).2.1); rintro e w48 ⟨rfl, hb⟩; replace HO653 := Aside0.mk (Kd.R_below (rx (Kd.R_mono (Kd.R_far (p := ⟨gb664, 4, none⟩) (Kd.R_far (p := ⟨gb664, 3, none⟩) (Kd.R_far (p := ⟨gb664, 2, none⟩) (Kd.R_far (p := ⟨gb664, 1, none⟩) (Kd.R_far (p := ⟨gb664, 0, none⟩) (Kd.R_types HO653.out BK664.out (by decide)) (fun _ hk => hk.2) (.int .i64 t656)) (fun _ hk => hk.2) (.int .i64 t657)) (fun _ hk => hk.2) (.int .i64 t658)) (fun _ hk => hk.2) (.string t659)) (fun _ hk => hk.2) (.slice Ao38 t660.length co38)) (fun _ h_ => h_.1))) hb); replace HO662 := Aside0.mk (Kd.R_below (rx (Kd.R_mono (Kd.R_far (p := ⟨gb664, 4, none⟩) (Kd.R_far (p := ⟨gb664, 3, none⟩) (Kd.R_far (p := ⟨gb664, 2, none⟩) (Kd.R_far (p := ⟨gb664, 1, none⟩) (Kd.R_far (p := ⟨gb664, 0, none⟩) (Kd.R_types HO662.out BK664.out (by decide)) (fun _ hk => hk.2) (.int .i64 t656)) (fun _ hk => hk.2) (.int .i64 t657)) (fun _ hk => hk.2) (.int .i64 t658)) (fun _ hk => hk.2) (.string t659)) (fun _ hk => hk.2) (.slice Ao38 t660.length co38)) (fun _ h_ => h_.1))) hb); replace BK639 := bkfB BK639 hb; replace BK655 := bkfB BK655 hb; replace BK664 := Aside0.mk (blk_below (o := .cells #[.int .i64 t656, .int .i64 t657, .int .i64 t658, .string t659, .slice Ao38 t660.length co38] 36 (0, 0)) (bkp BK664) hb); replace HB := hbS HB hb; (try clear hb); (try clear hb2); (try clear hk); (try clear hi)))
        go_meet
        case rel => exact ⟨_, ((t654 != t663)), rfs, H', ⟨by have := HJ2.out; first | omega | exact Nat.le_refl _⟩, ⟨by (with_reducible repeat (first | apply Kd.R_alloc | apply Kd.R_drewN | apply Kd.R_drew)); exact Kd.R_mono HO653.out (fun _ hk => hk.2)⟩, ⟨by (with_reducible repeat (first | apply Kd.R_alloc | apply Kd.R_drewN | apply Kd.R_drew)); exact Kd.R_mono HO662.out (fun _ hk => hk.2)⟩, bkA BK639, bkA BK655, bkA BK664, hbA HB⟩
       ·replace c42 := Bool.eq_false_iff.mpr c42
        subst c42
        rw [if_neg (show ¬ (false = true) by decide)] at H
        have H' := Aside0.mk H
        clear H
        have hnb49 := NB655_639.out
        have hnc49 := NB639_655.out
        have hnb50 := NB655_664.out
        have hnc50 := NB664_655.out
        obtain ⟨z0, z1, z2, z3, z4, y0, y1, y2, y3, y4⟩ := bc5 BK655
        have hnb52 := NB664_639.out
        have hnc52 := NB639_664.out
        obtain ⟨z0, z1, z2, z3, z4, y0, y1, y2, y3, y4⟩ := bc5 BK664
        go_wp2_with (first | (go_at_call 28; (with_reducible refine (hopmeshref49_SameCommand.calls kj2 t647 t648 t649 t650 _ _ t651 t656 t657 t658 t659 _ _ t660 false _ ?side1 ?side2 ?side3 ?side4 A41.out).mono ?_); (case side1 => refine (Kd.R_reads' (e := 3) (base := w.heap.size) (ok := fun k_ => (True ∧ some k_ ≠ (.slice Ao38 t660.length co38 : Value).ownBlock)) (n := t651.length) (c := co32) ?_).2.2; exact (rx (Kd.R_mono (Kd.R_far (p := ⟨gb664, 4, none⟩) (Kd.R_far (p := ⟨gb664, 3, none⟩) (Kd.R_far (p := ⟨gb664, 2, none⟩) (Kd.R_far (p := ⟨gb664, 1, none⟩) (Kd.R_far (p := ⟨gb664, 0, none⟩) (Kd.R_types HO653.out BK664.out (by decide)) (fun _ hk => hk.2) (.int .i64 t656)) (fun _ hk => hk.2) (.int .i64 t657)) (fun _ hk => hk.2) (.int .i64 t658)) (fun _ hk => hk.2) (.string t659)) (fun _ hk => hk.2) (.slice Ao38 t660.length co38)) (fun _ h_ => h_.1)))); (case side2 => exact (Kd.R_reads' HO653.out).2.1); (case side3 => refine (Kd.R_reads' (e := 3) (base := w.heap.size) (ok := fun k_ => (True ∧ some k_ ≠ (.slice Ao32 t651.length co32 : Value).ownBlock)) (n := t660.length) (c := co38) ?_).2.2; exact (rx (Kd.R_mono (Kd.R_far (p := ⟨gb664, 4, none⟩) (Kd.R_far (p := ⟨gb664, 3, none⟩) (Kd.R_far (p := ⟨gb664, 2, none⟩) (Kd.R_far (p := ⟨gb664, 1, none⟩) (Kd.R_far (p := ⟨gb664, 0, none⟩) (Kd.R_types HO662.out BK664.out (by decide)) (fun _ hk => hk.2) (.int .i64 t656)) (fun _ hk => hk.2) (.int .i64 t657)) (fun _ hk => hk.2) (.int .i64 t658)) (fun _ hk => hk.2) (.string t659)) (fun _ hk => hk.2) (.slice Ao38 t660.length co38)) (fun _ h_ => h_.1)))); (case side4 => exact (Kd.R_reads' HO662.out).2.1); rintro e w54 ⟨rfl, hb⟩; replace HO653 := Aside0.mk (Kd.R_below (rx (Kd.R_mono (Kd.R_far (p := ⟨gb664, 4, none⟩) (Kd.R_far (p := ⟨gb664, 3, none⟩) (Kd.R_far (p := ⟨gb664, 2, none⟩) (Kd.R_far (p := ⟨gb664, 1, none⟩) (Kd.R_far (p := ⟨gb664, 0, none⟩) (Kd.R_types HO653.out BK664.out (by decide)) (fun _ hk => hk.2) (.int .i64 t656)) (fun _ hk => hk.2) (.int .i64 t657)) (fun _ hk => hk.2) (.int .i64 t658)) (fun _ hk => hk.2) (.string t659)) (fun _ hk => hk.2) (.slice Ao38 t660.length co38)) (fun _ h_ => h_.1))) hb); replace HO662 := Aside0.mk (Kd.R_below (rx (Kd.R_mono (Kd.R_far (p := ⟨gb664, 4, none⟩) (Kd.R_far (p := ⟨gb664, 3, none⟩) (Kd.R_far (p := ⟨gb664, 2, none⟩) (Kd.R_far (p := ⟨gb664, 1, none⟩) (Kd.R_far (p := ⟨gb664, 0, none⟩) (Kd.R_types HO662.out BK664.out (by decide)) (fun _ hk => hk.2) (.int .i64 t656)) (fun _ hk => hk.2) (.int .i64 t657)) (fun _ hk => hk.2) (.int .i64 t658)) (fun _ hk => hk.2) (.string t659)) (fun _ hk => hk.2) (.slice Ao38 t660.length co38)) (fun _ h_ => h_.1))) hb); replace BK639 := bkfB BK639 hb; replace BK655 := bkfB BK655 hb; replace BK664 := Aside0.mk (blk_below (o := .cells #[.int .i64 t656, .int .i64 t657, .int .i64 t658, .string t659, .slice Ao38 t660.length co38] 36 (0, 0)) (bkp BK664) hb); replace HB := hbS HB hb; (try clear hb); (try clear hb2); (try clear hk); (try clear hi)))
        go_meet
        case rel => exact ⟨_, (true), rfs, H', ⟨by have := HJ2.out; first | omega | exact Nat.le_refl _⟩, ⟨by (with_reducible repeat (first | apply Kd.R_alloc | apply Kd.R_drewN | apply Kd.R_drew)); exact Kd.R_mono HO653.out (fun _ hk => hk.2)⟩, ⟨by (with_reducible repeat (first | apply Kd.R_alloc | apply Kd.R_drewN | apply Kd.R_drew)); exact Kd.R_mono HO662.out (fun _ hk => hk.2)⟩, bkA BK639, bkA BK655, bkA BK664, hbA HB⟩
      ·rw [if_neg c40] at H
       have c40b0 : (t644 == t646) = false := beq_eq_false_iff_ne.mpr c40
       have c40b1 : (t644 != t646) = true := bne_iff_ne.mpr c40
       have H' := Aside0.mk H
       clear H
       go_wp2
       go_meet
       case rel => exact ⟨_, (true), rfs, H', ⟨by have := HJ2.out; first | omega | exact Nat.le_refl _⟩, ⟨Kd.R_mono (rty (rfo HO653) BK664) (fun _ hk => hk.1.2)⟩, ⟨Kd.R_mono (rty (rfo HO662) BK664) (fun _ hk => hk.1.2)⟩, bkfA BK639, bkfA BK655, bkpA BK664, hbA HB⟩
     ·rw [if_neg c39] at H
      have c39b0 : (t643.toList == t645.toList) = false := beq_eq_false_iff_ne.mpr c39
      have c39b1 : (t643.toList != t645.toList) = true := bne_iff_ne.mpr c39
      (first | rw [c39b0] | (simp only [i64_w, i32_w]; rw [c39b0]) | skip)
      have H' := Aside0.mk H
      clear H
      go_wp2
      go_meet
      case rel => exact ⟨_, (true), rfs, H', ⟨by have := HJ2.out; first | omega | exact Nat.le_refl _⟩, ⟨Kd.R_mono (rty (rfo HO653) BK664) (fun _ hk => hk.1.2)⟩, ⟨Kd.R_mono (rty (rfo HO662) BK664) (fun _ hk => hk.1.2)⟩, bkfA BK639, bkfA BK655, bkpA BK664, hbA HB⟩
    case rest =>
     clear HC23
     try clear c16
     try clear hcz24_0
     try clear hcz24_1
     try clear hcz24_2
     try clear hcz24_3
     try clear hcz24_4
     try clear hcz26_0
     try clear hcz26_1
     try clear hcz26_2
     try clear hcz26_3
     try clear hcz26_4
     try clear hcz31_0
     try clear hcz31_1
     try clear hcz31_2
     try clear hcz31_3
     try clear hcz31_4
     try clear hcz37_0
     try clear hcz37_1
     try clear hcz37_2
     try clear hcz37_3
     try clear hcz37_4
     try clear hfz24_0
     try clear hfz24_1
     try clear hfz24_2
     try clear hfz24_3
     try clear hfz24_4
     try clear hfz26_0
     try clear hfz26_1
     try clear hfz26_2
     try clear hfz26_3
     try clear hfz26_4
     try clear hfz31_0
     try clear hfz31_1
     try clear hfz31_2
     try clear hfz31_3
     try clear hfz31_4
     try clear hfz37_0
     try clear hfz37_1
     try clear hfz37_2
     try clear hfz37_3
     try clear hfz37_4
     obtain ⟨kq, x68_22, rfl, HA, HJ22, HO_656004, HO_665004, BK639, BK655, BK664, HB⟩ := hcut
     cases kq with
     | zero => exact absurd HA.out (by simp [hopmeshlaw49_InstallEncodes.j1])
     | succ kj22 =>
      have H := HA.out
      clear HA
      simp only [hopmeshlaw49_InstallEncodes.j1] at H
      by_cases c55 : x68_22 = true
      ·subst c55
       rw [if_pos rfl] at H
       exact absurd H (by simp)
      ·replace c55 := Bool.eq_false_iff.mpr c55
       subst c55
       rw [if_neg (show ¬ (false = true) by decide)] at H
       by_cases c56 : t644 = 0
       ·rw [if_pos c56] at H
        have c56b0 : (t644 == 0) = true := beq_iff_eq.mpr c56
        have c56b1 : (t644 != 0) = false := bne_eq_false_iff_eq.mpr c56
        clear c56
        replace H := Option.bind_eq_some_iff.mp H
        obtain ⟨⟨t666, t667, t668, t669, t670, t673⟩, A570, H⟩ := H
        (try dsimp only at H)
        have A57 := Aside0.mk A570
        clear A570
        have HC58 := Aside0.mk H
        clear H
        go_upto_region 11 with (first | ((with_reducible refine gate_callee (f := 26) rfl ?_); refine goesL_ (some 73) rfl rfl Try.func26 (by kernel_rfl) rfl #[.string t643] rfl sma ?_; (with_reducible refine (install_Decode.calls kj22 t643 t666 t667 t668 t669 t670 t673 _ A57.out).mono ?_); rintro e w59 ⟨v671, rfl, ho0, hb⟩; refine ⟨_, rfl, ?_⟩; have HO672 := Aside0.mk (Kd.R_lower (Kd.R_new' (Kd.R_new' ho0 (Kd.R_lt (ro HO_656004))) (Kd.R_lt (ro HO_665004))) (below_size (hbx HB))); replace HO_656004 := Aside0.mk (Kd.R_elder' (ro HO_656004) (Kd.R_base ho0) hb); replace HO_665004 := Aside0.mk (Kd.R_elder' (ro HO_665004) (Kd.R_base ho0) hb); replace BK639 := bkB BK639 hb; replace BK655 := bkB BK655 hb; replace BK664 := bkB BK664 hb; replace HB := hbS HB hb; (try clear hb); (try clear hb2); (try clear hk); (try clear hi); (try clear ho0)) | ((with_reducible refine gate_dst (N := 13) rfl ?_); (try (refine gate_guard (by rfl) ?_; dsimp only)); refine boxE 13 #[.int .i64 0, .int .i64 0, .int .i64 0, .string (⟨#[]⟩ : ByteArray), .slice none 0 0] 36 ?_; intro gb674 hg w60 hbox hb; replace HO_656004 := rB HO_656004 hb; replace HO_665004 := rB HO_665004 hb; replace HO672 := rB HO672 hb; have BK674 := Aside0.mk (hbox); have GW674 := gw hg HB; have GE674 := gw hg HB; replace HB := hbS HB hb; have NB639_674 := nbl hg BK639; have NB674_639 := nbg hg BK639; replace BK639 := bkB BK639 hb; have NB655_674 := nbl hg BK655; have NB674_655 := nbg hg BK655; replace BK655 := bkB BK655 hb; have NB664_674 := nbl hg BK664; have NB674_664 := nbg hg BK664; replace BK664 := bkB BK664 hb; clear hb hbox hg; have hnb61 := NB674_639.out; have hnc61 := NB639_674.out; have hnb62 := NB674_655.out; have hnc62 := NB655_674.out; have hnb63 := NB674_664.out; have hnc63 := NB664_674.out; obtain ⟨z0, z1, z2, z3, z4, y0, y1, y2, y3, y4⟩ := bc5 BK674; obtain ⟨Ao65, co65, eo65⟩ := Kd.R_slice HO672.out; subst eo65))
        (try simp only [Act.put, List.setIfInBounds_toArray, List.set_cons_zero, List.set_cons_succ])
        go_cut [83] (fun v83 wc => ∃ (kq : Nat) (x83_57 : Bool), v83 = .bool x83_57 ∧ Aside0 (hopmeshlaw49_InstallEncodes.j2 kq a1 t654 x83_57 t647 t648 t649 t650 t651 = some r) ∧ Aside0 (kq ≤ kj22) ∧ Aside0 (Kd.R (Kd.int .i64) 3 wc w.heap.size (fun k_ => some k_ ≠ ((.slice Ao38 t660.length co38) : Value).ownBlock ∧ some k_ ≠ ((.slice Ao65 t670.length co65) : Value).ownBlock) (.slice Ao32 t651.length co32) t651) ∧ Aside0 (Kd.R (Kd.int .i64) 3 wc w.heap.size (fun k_ => some k_ ≠ ((.slice Ao32 t651.length co32) : Value).ownBlock ∧ some k_ ≠ ((.slice Ao65 t670.length co65) : Value).ownBlock) (.slice Ao38 t660.length co38) t660) ∧ Aside0 (Kd.R (Kd.int .i64) 3 wc w.heap.size (fun k_ => some k_ ≠ ((.slice Ao32 t651.length co32) : Value).ownBlock ∧ some k_ ≠ ((.slice Ao38 t660.length co38) : Value).ownBlock) (.slice Ao65 t670.length co65) t670) ∧ Aside0 (wc.heap[gb639]? = some (.cells #[.int .i64 a0_0, .int .i64 a0_1, .int .i64 a0_2, .string a0_3, (.slice A0_4 l0_4.length c0_4)] 36 (0, 0))) ∧ Aside0 (wc.heap[gb655]? = some (.cells #[.int .i64 t647, .int .i64 t648, .int .i64 t649, .string t650, (.slice Ao32 t651.length co32)] 36 (0, 0))) ∧ Aside0 (wc.heap[gb664]? = some (.cells #[.int .i64 t656, .int .i64 t657, .int .i64 t658, .string t659, (.slice Ao38 t660.length co38)] 36 (0, 0))) ∧ Aside0 (wc.heap[gb674]? = some (.cells #[.int .i64 t666, .int .i64 t667, .int .i64 t668, .string t669, (.slice Ao65 t670.length co65)] 36 (0, 0))) ∧ Aside0 (Below w.heap.size w wc))
        case first =>
         have H := HC58.out
         clear HC58
         by_cases c66 : t673 = 0
         ·rw [if_pos c66] at H
          have c66b0 : (t673 == 0) = true := beq_iff_eq.mpr c66
          have c66b1 : (t673 != 0) = false := bne_eq_false_iff_eq.mpr c66
          clear c66
          (first | rw [c66b0] | (simp only [i64_w, i32_w]; rw [c66b0]) | skip)
          replace H := Option.bind_eq_some_iff.mp H
          obtain ⟨t675, A670, H⟩ := H
          (try dsimp only at H)
          have A67 := Aside0.mk A670
          clear A670
          have H' := Aside0.mk H
          clear H
          have hnb68 := NB674_639.out
          have hnc68 := NB639_674.out
          have hnb69 := NB674_655.out
          have hnc69 := NB655_674.out
          have hnb70 := NB674_664.out
          have hnc70 := NB664_674.out
          obtain ⟨z0, z1, z2, z3, z4, y0, y1, y2, y3, y4⟩ := bc5 BK674
          have hnb72 := NB639_655.out
          have hnc72 := NB655_639.out
          have hnb73 := NB639_664.out
          have hnc73 := NB664_639.out
          obtain ⟨z0, z1, z2, z3, z4, y0, y1, y2, y3, y4⟩ := bc5 BK639
          go_wp2_with (first | (go_at_call 28; (with_reducible refine (hopmeshref49_SameCommand.calls kj22 t666 t667 t668 t669 _ _ t670 a0_0 a0_1 a0_2 a0_3 _ _ l0_4 t675 _ ?side1 ?side2 ?side3 HC0_4.out A67.out).mono ?_); (case side1 => refine (Kd.R_reads' (e := 3) (base := w.heap.size) (ok := fun k_ => ((True ∧ some k_ ≠ (.slice Ao32 t651.length co32 : Value).ownBlock) ∧ some k_ ≠ (.slice Ao38 t660.length co38 : Value).ownBlock)) (n := t670.length) (c := co65) ?_).2.2; exact (rx (Kd.R_mono (Kd.R_far (p := ⟨gb674, 4, none⟩) (Kd.R_far (p := ⟨gb674, 3, none⟩) (Kd.R_far (p := ⟨gb674, 2, none⟩) (Kd.R_far (p := ⟨gb674, 1, none⟩) (Kd.R_far (p := ⟨gb674, 0, none⟩) (Kd.R_types HO672.out BK674.out (by decide)) (fun _ hk => hk.2) (.int .i64 t666)) (fun _ hk => hk.2) (.int .i64 t667)) (fun _ hk => hk.2) (.int .i64 t668)) (fun _ hk => hk.2) (.string t669)) (fun _ hk => hk.2) (.slice Ao65 t670.length co65)) (fun _ h_ => h_.1)))); (case side2 => exact (Kd.R_reads' HO672.out).2.1); (case side3 => exact Kd.C_below HR0_4.out (hbx HB)); rintro e w75 ⟨rfl, hb⟩; replace HO_656004 := Aside0.mk (Kd.R_below (rx (Kd.R_mono (Kd.R_far (p := ⟨gb674, 4, none⟩) (Kd.R_far (p := ⟨gb674, 3, none⟩) (Kd.R_far (p := ⟨gb674, 2, none⟩) (Kd.R_far (p := ⟨gb674, 1, none⟩) (Kd.R_far (p := ⟨gb674, 0, none⟩) (Kd.R_types HO_656004.out BK674.out (by decide)) (fun _ hk => hk.2) (.int .i64 t666)) (fun _ hk => hk.2) (.int .i64 t667)) (fun _ hk => hk.2) (.int .i64 t668)) (fun _ hk => hk.2) (.string t669)) (fun _ hk => hk.2) (.slice Ao65 t670.length co65)) (fun _ h_ => h_.1))) hb); replace HO_665004 := Aside0.mk (Kd.R_below (rx (Kd.R_mono (Kd.R_far (p := ⟨gb674, 4, none⟩) (Kd.R_far (p := ⟨gb674, 3, none⟩) (Kd.R_far (p := ⟨gb674, 2, none⟩) (Kd.R_far (p := ⟨gb674, 1, none⟩) (Kd.R_far (p := ⟨gb674, 0, none⟩) (Kd.R_types HO_665004.out BK674.out (by decide)) (fun _ hk => hk.2) (.int .i64 t666)) (fun _ hk => hk.2) (.int .i64 t667)) (fun _ hk => hk.2) (.int .i64 t668)) (fun _ hk => hk.2) (.string t669)) (fun _ hk => hk.2) (.slice Ao65 t670.length co65)) (fun _ h_ => h_.1))) hb); replace HO672 := Aside0.mk (Kd.R_below (rx (Kd.R_mono (Kd.R_far (p := ⟨gb674, 4, none⟩) (Kd.R_far (p := ⟨gb674, 3, none⟩) (Kd.R_far (p := ⟨gb674, 2, none⟩) (Kd.R_far (p := ⟨gb674, 1, none⟩) (Kd.R_far (p := ⟨gb674, 0, none⟩) (Kd.R_types HO672.out BK674.out (by decide)) (fun _ hk => hk.2) (.int .i64 t666)) (fun _ hk => hk.2) (.int .i64 t667)) (fun _ hk => hk.2) (.int .i64 t668)) (fun _ hk => hk.2) (.string t669)) (fun _ hk => hk.2) (.slice Ao65 t670.length co65)) (fun _ h_ => h_.1))) hb); replace BK639 := bkfB BK639 hb; replace BK655 := bkfB BK655 hb; replace BK664 := bkfB BK664 hb; replace BK674 := Aside0.mk (blk_below (o := .cells #[.int .i64 t666, .int .i64 t667, .int .i64 t668, .string t669, .slice Ao65 t670.length co65] 36 (0, 0)) (bkp BK674) hb); replace HB := hbS HB hb; (try clear hb); (try clear hb2); (try clear hk); (try clear hi)))
          go_meet
          case rel => exact ⟨_, (!t675), rfs, H', ⟨by have := HJ2.out; have := HJ22.out; first | omega | exact Nat.le_refl _⟩, roA HO_656004, roA HO_665004, ⟨by (with_reducible repeat (first | apply Kd.R_alloc | apply Kd.R_drewN | apply Kd.R_drew)); exact Kd.R_mono HO672.out (fun _ hk => ⟨hk.1.2, hk.2⟩)⟩, bkA BK639, bkA BK655, bkA BK664, bkA BK674, hbA HB⟩
         ·rw [if_neg c66] at H
          have c66b0 : (t673 == 0) = false := beq_eq_false_iff_ne.mpr c66
          have c66b1 : (t673 != 0) = true := bne_iff_ne.mpr c66
          (first | rw [c66b0] | (simp only [i64_w, i32_w]; rw [c66b0]) | skip)
          have H' := Aside0.mk H
          clear H
          go_wp2
          go_meet
          case rel => exact ⟨_, (true), rfs, H', ⟨by have := HJ2.out; have := HJ22.out; first | omega | exact Nat.le_refl _⟩, ⟨Kd.R_mono (rty (rfo HO_656004) BK674) (fun _ hk => ⟨hk.1.1, hk.1.2⟩)⟩, ⟨Kd.R_mono (rty (rfo HO_665004) BK674) (fun _ hk => ⟨hk.1.1, hk.1.2⟩)⟩, ⟨Kd.R_mono (rty (rfo HO672) BK674) (fun _ hk => ⟨hk.1.1.2, hk.1.2⟩)⟩, bkfA BK639, bkfA BK655, bkfA BK664, bkpA BK674, hbA HB⟩
        case rest =>
         clear HC58
         try clear c16
         try clear c55
         try clear c56
         try clear c56b0
         try clear c56b1
         try clear hcz24_0
         try clear hcz24_1
         try clear hcz24_2
         try clear hcz24_3
         try clear hcz24_4
         try clear hcz26_0
         try clear hcz26_1
         try clear hcz26_2
         try clear hcz26_3
         try clear hcz26_4
         try clear hcz31_0
         try clear hcz31_1
         try clear hcz31_2
         try clear hcz31_3
         try clear hcz31_4
         try clear hcz37_0
         try clear hcz37_1
         try clear hcz37_2
         try clear hcz37_3
         try clear hcz37_4
         try clear hcz64_0
         try clear hcz64_1
         try clear hcz64_2
         try clear hcz64_3
         try clear hcz64_4
         try clear hfz24_0
         try clear hfz24_1
         try clear hfz24_2
         try clear hfz24_3
         try clear hfz24_4
         try clear hfz26_0
         try clear hfz26_1
         try clear hfz26_2
         try clear hfz26_3
         try clear hfz26_4
         try clear hfz31_0
         try clear hfz31_1
         try clear hfz31_2
         try clear hfz31_3
         try clear hfz31_4
         try clear hfz37_0
         try clear hfz37_1
         try clear hfz37_2
         try clear hfz37_3
         try clear hfz37_4
         try clear hfz64_0
         try clear hfz64_1
         try clear hfz64_2
         try clear hfz64_3
         try clear hfz64_4
         obtain ⟨kq, x83_57, rfl, HA, HJ57, HO_656004, HO_665004, HO_675004, BK639, BK655, BK664, BK674, HB⟩ := hcut
         cases kq with
         | zero => exact absurd HA.out (by simp [hopmeshlaw49_InstallEncodes.j2])
         | succ kj57 =>
          have H := HA.out
          clear HA
          simp only [hopmeshlaw49_InstallEncodes.j2] at H
          by_cases c76 : x83_57 = true
          ·subst c76
           rw [if_pos rfl] at H
           exact absurd H (by simp)
          ·replace c76 := Bool.eq_false_iff.mpr c76
           subst c76
           rw [if_neg (show ¬ (false = true) by decide)] at H
           by_cases c77 : t654 = 0
           ·rw [if_pos c77] at H
            have c77b0 : (t654 == 0) = true := beq_iff_eq.mpr c77
            have c77b1 : (t654 != 0) = false := bne_eq_false_iff_eq.mpr c77
            clear c77
            replace H := Option.bind_eq_some_iff.mp H
            obtain ⟨⟨t676, t677⟩, A780, H⟩ := H
            (try dsimp only at H)
            have A78 := Aside0.mk A780
            clear A780
            by_cases c79 : t677 = 0
            ·rw [if_pos c79] at H
             have c79b0 : (t677 == 0) = true := beq_iff_eq.mpr c79
             have c79b1 : (t677 != 0) = false := bne_eq_false_iff_eq.mpr c79
             clear c79
             obtain rfl := Option.some.inj H
             have hnb80 := NB655_639.out
             have hnc80 := NB639_655.out
             have hnb81 := NB655_664.out
             have hnc81 := NB664_655.out
             have hnb82 := NB655_674.out
             have hnc82 := NB674_655.out
             obtain ⟨z0, z1, z2, z3, z4, y0, y1, y2, y3, y4⟩ := bc5 BK655
             go_wp2_with (first | ((with_reducible refine gate_callee (f := 24) rfl ?_); refine goesL_ (some 88) rfl rfl Try.func24 (by kernel_rfl) rfl #[.agg #[.int .i64 t647, .int .i64 t648, .int .i64 t649, .string t650, .slice Ao32 t651.length co32]] rfl sma ?_; (with_reducible refine (install_Encode.calls kj57 t647 t648 t649 t650 _ _ t651 t676 t677 _ ?side1 ?side2 A78.out).mono ?_); (case side1 => repeat (first | exact (Kd.R_reads' HO_656004.out).2.2 | (with_reducible refine Kd.C_alloc ?_ _) | (with_reducible refine Kd.C_drewN ?_ _) | (with_reducible refine Kd.C_drew ?_))); (case side2 => exact (Kd.R_reads' HO_656004.out).2.1); rintro e w84 ⟨rfl, hb⟩; refine ⟨_, rfl, ?_⟩; replace HO_656004 := rB HO_656004 hb; replace HO_665004 := rB HO_665004 hb; replace HO_675004 := rB HO_675004 hb; replace BK639 := bkB BK639 hb; replace BK655 := bkB BK655 hb; replace BK664 := bkB BK664 hb; replace BK674 := bkB BK674 hb; replace HB := hbS HB hb; (try clear hb); (try clear hb2); (try clear hk); (try clear hi)))
             go_ret
             exact ⟨rerr, hbx HB⟩
            ·rw [if_neg c79] at H
             exact absurd H (by simp)
           ·rw [if_neg c77] at H
            have c77b0 : (t654 == 0) = false := beq_eq_false_iff_ne.mpr c77
            have c77b1 : (t654 != 0) = true := bne_iff_ne.mpr c77
            obtain rfl := Option.some.inj H
            go_wp2
            go_ret
            exact ⟨rerr, hbx HB⟩
       ·rw [if_neg c56] at H
        have c56b0 : (t644 == 0) = false := beq_eq_false_iff_ne.mpr c56
        have c56b1 : (t644 != 0) = true := bne_iff_ne.mpr c56
        by_cases c85 : t654 = 0
        ·rw [if_pos c85] at H
         have c85b0 : (t654 == 0) = true := beq_iff_eq.mpr c85
         have c85b1 : (t654 != 0) = false := bne_eq_false_iff_eq.mpr c85
         clear c85
         replace H := Option.bind_eq_some_iff.mp H
         obtain ⟨⟨t678, t679⟩, A860, H⟩ := H
         (try dsimp only at H)
         have A86 := Aside0.mk A860
         clear A860
         by_cases c87 : t679 = 0
         ·rw [if_pos c87] at H
          have c87b0 : (t679 == 0) = true := beq_iff_eq.mpr c87
          have c87b1 : (t679 != 0) = false := bne_eq_false_iff_eq.mpr c87
          clear c87
          obtain rfl := Option.some.inj H
          have hnb88 := NB655_639.out
          have hnc88 := NB639_655.out
          have hnb89 := NB655_664.out
          have hnc89 := NB664_655.out
          obtain ⟨z0, z1, z2, z3, z4, y0, y1, y2, y3, y4⟩ := bc5 BK655
          go_wp2_with (first | ((with_reducible refine gate_callee (f := 24) rfl ?_); refine goesL_ (some 88) rfl rfl Try.func24 (by kernel_rfl) rfl #[.agg #[.int .i64 t647, .int .i64 t648, .int .i64 t649, .string t650, .slice Ao32 t651.length co32]] rfl sma ?_; (with_reducible refine (install_Encode.calls kj22 t647 t648 t649 t650 _ _ t651 t678 t679 _ ?side1 ?side2 A86.out).mono ?_); (case side1 => repeat (first | exact (Kd.R_reads' HO_656004.out).2.2 | (with_reducible refine Kd.C_alloc ?_ _) | (with_reducible refine Kd.C_drewN ?_ _) | (with_reducible refine Kd.C_drew ?_))); (case side2 => exact (Kd.R_reads' HO_656004.out).2.1); rintro e w91 ⟨rfl, hb⟩; refine ⟨_, rfl, ?_⟩; replace HO_656004 := rB HO_656004 hb; replace HO_665004 := rB HO_665004 hb; replace BK639 := bkB BK639 hb; replace BK655 := bkB BK655 hb; replace BK664 := bkB BK664 hb; replace HB := hbS HB hb; (try clear hb); (try clear hb2); (try clear hk); (try clear hi)))
          go_ret
          exact ⟨rerr, hbx HB⟩
         ·rw [if_neg c87] at H
          exact absurd H (by simp)
        ·rw [if_neg c85] at H
         have c85b0 : (t654 == 0) = false := beq_eq_false_iff_ne.mpr c85
         have c85b1 : (t654 != 0) = true := bne_iff_ne.mpr c85
         obtain rfl := Option.some.inj H
         go_wp2
         go_ret
         exact ⟨rerr, hbx HB⟩
end Go.Proofs.Ytdigplhjfjchnaa.PQ
