-- Printed by fprint.py and zip.py, programs of this session's, over the kit's print; Lean checks it.
import Derived.Test.YtdigplhjfjchnaaZ0
import Derived.Test.YtdigplhjfjchnaaZM
import Derived.Test.YtdigplhjfjchnaaZf11
import Derived.Test.YtdigplhjfjchnaaZf16
import Derived.Test.YtdigplhjfjchnaaZf12
import Derived.Test.YtdigplhjfjchnaaZf14
import Derived.Test.YtdigplhjfjchnaaZf15
import Derived.Test.YtdigplhjfjchnaaZf10
import Derived.Test.YtdigplhjfjchnaaZf13
namespace Go.Proofs.Ytdigplhjfjchnaa.PQ
open Go.RowKit Go.Proofs.YtdigplhjfjchnaaW.PrintWords Go.Proofs.YtdigplhjfjchnaaW.PrintLast Go.Proofs.YtdigplhjfjchnaaW.PrintMore
attribute [local go_sem] max2_int min2_int max_two min_two max_three min_three max_four min_four   -- for this text's walks alone
set_option linter.unusedVariables false
set_option linter.unusedSimpArgs false
mutual
def hopmeshlaw49_InstallNothing.j0 : Nat → List Bool → List (S36) → List Int → Bool → Option (Bool)
 | 0, _, _, _, _ => none
 | k + 1, x0, x1, x2, x35 => if x35 = true then ((hopmeshlaw49_awake.f k).bind fun t247 => (some t247)) else (hopmeshlaw49_InstallNothing.l0 k x0 x1 x2 0 (mx (x0.length : Int) (x1.length : Int)) 0 [(⟨#[]⟩ : ByteArray)] (⟨#[]⟩ : ByteArray) false (⟨#[]⟩ : ByteArray) 0 0 (⟨#[]⟩ : ByteArray) (⟨#[]⟩ : ByteArray) false (⟨#[]⟩ : ByteArray) 0 0)
def hopmeshlaw49_InstallNothing.l0 : Nat → List Bool → List (S36) → List Int → Int → Int → Int → List ByteArray → ByteArray → Bool → ByteArray → Int → Int → ByteArray → ByteArray → Bool → ByteArray → Int → Int → Option (Bool)
 | 0, _, _, _, _, _, _, _, _, _, _, _, _, _, _, _, _, _, _ => none
 | k + 1, x0, x1, x2, x9, x44, x45, x249000, x249001, x249002, x249003, x249004, x249005, x250000, x250001, x250002, x250003, x250004, x250005 => if x45 < x44 then (if x45 < (x2.length : Int) then (if 0 ≤ x45 then (hopmeshlaw49_InstallNothing.j2 k x0 x1 x2 (wrap64 (x9 + (wrap64 (Int.tmod (rd x2 x45) 8)))) x45 x44 x45 x249000 x249001 x249002 x249003 x249004 x249005 x250000 x250001 x250002 x250003 x250004 x250005) else (none)) else (hopmeshlaw49_InstallNothing.j2 k x0 x1 x2 x9 x45 x44 x45 x249000 x249001 x249002 x249003 x249004 x249005 x250000 x250001 x250002 x250003 x250004 x250005)) else (some true)
def hopmeshlaw49_InstallNothing.j2 : Nat → List Bool → List (S36) → List Int → Int → Int → Int → Int → List ByteArray → ByteArray → Bool → ByteArray → Int → Int → ByteArray → ByteArray → Bool → ByteArray → Int → Int → Option (Bool)
 | 0, _, _, _, _, _, _, _, _, _, _, _, _, _, _, _, _, _, _, _ => none
 | k + 1, x0, x1, x2, x9, x10, x44, x45, x249000, x249001, x249002, x249003, x249004, x249005, x250000, x250001, x250002, x250003, x250004, x250005 => if x10 < (x0.length : Int) then ((hopmeshlaw49_id.f (⟨#[120]⟩ : ByteArray)).bind fun t251 => (if 0 ≤ x10 then (if rdOf false x0 x10 = true then ((hopmeshlaw49_id.f (⟨#[121]⟩ : ByteArray)).bind fun t253 => ((install_Complete.f k x250000 x250001 x250002 x250003 x250004 x250005 t253).bind fun bt254 => (if bt254.2.2.2.2.2.2 = 0 then (hopmeshlaw49_InstallNothing.j3 k x0 x1 x2 x9 x10 x44 x45 (mput x249000 t253) x249001 x249002 x249003 x249004 x249005 bt254.1 bt254.2.1 bt254.2.2.1 bt254.2.2.2.1 bt254.2.2.2.2.1 bt254.2.2.2.2.2.1) else (none)))) else ((install_Complete.f k x250000 x250001 x250002 x250003 x250004 x250005 t251).bind fun bt262 => (if bt262.2.2.2.2.2.2 = 0 then (hopmeshlaw49_InstallNothing.j3 k x0 x1 x2 x9 x10 x44 x45 (mput x249000 t251) x249001 x249002 x249003 x249004 x249005 bt262.1 bt262.2.1 bt262.2.2.1 bt262.2.2.2.1 bt262.2.2.2.2.1 bt262.2.2.2.2.2.1) else (none)))) else (none))) else (hopmeshlaw49_InstallNothing.j3 k x0 x1 x2 x9 x10 x44 x45 x249000 x249001 x249002 x249003 x249004 x249005 x250000 x250001 x250002 x250003 x250004 x250005)
def hopmeshlaw49_InstallNothing.j3 : Nat → List Bool → List (S36) → List Int → Int → Int → Int → Int → List ByteArray → ByteArray → Bool → ByteArray → Int → Int → ByteArray → ByteArray → Bool → ByteArray → Int → Int → Option (Bool)
 | 0, _, _, _, _, _, _, _, _, _, _, _, _, _, _, _, _, _, _, _ => none
 | k + 1, x0, x1, x2, x9, x10, x44, x45, x249000, x249001, x249002, x249003, x249004, x249005, x250000, x250001, x250002, x250003, x250004, x250005 => if x10 < (x1.length : Int) then (if 0 ≤ x10 then ((hopmeshref49_Few.f ((rd_T36 x1 x10).f0) ((rd_T36 x1 x10).f1) ((rd_T36 x1 x10).f2) ((rd_T36 x1 x10).f3) ((rd_T36 x1 x10).f4)).bind fun t271 => (hopmeshlaw49_InstallNothing.j4 k x0 x1 x2 x9 x10 x44 x45 t271 x249000 x249001 x249002 x249003 x249004 x249005 x250000 x250001 x250002 x250003 x250004 x250005)) else (none)) else (hopmeshlaw49_InstallNothing.j4 k x0 x1 x2 x9 x10 x44 x45 false x249000 x249001 x249002 x249003 x249004 x249005 x250000 x250001 x250002 x250003 x250004 x250005)
def hopmeshlaw49_InstallNothing.j4 : Nat → List Bool → List (S36) → List Int → Int → Int → Int → Int → Bool → List ByteArray → ByteArray → Bool → ByteArray → Int → Int → ByteArray → ByteArray → Bool → ByteArray → Int → Int → Option (Bool)
 | 0, _, _, _, _, _, _, _, _, _, _, _, _, _, _, _, _, _, _, _, _ => none
 | k + 1, x0, x1, x2, x9, x10, x44, x45, x91, x249000, x249001, x249002, x249003, x249004, x249005, x250000, x250001, x250002, x250003, x250004, x250005 => if x91 = true then (if 0 ≤ x10 then (if x10 < (x1.length : Int) then ((install_Take.f k x250000 x250001 x250002 x250003 x250004 x250005 ((rd_T36 x1 x10).f0) ((rd_T36 x1 x10).f1) ((rd_T36 x1 x10).f2) ((rd_T36 x1 x10).f3) ((rd_T36 x1 x10).f4) 1 x9).bind fun bt273 => (if bt273.2.2.2.2.2.2 = 1 then (hopmeshlaw49_InstallNothing.j5 k x0 x1 x2 x9 x44 x45 x249000 x249001 x249002 x249003 x249004 x249005 x250000 x250001 x250002 x250003 x250004 x250005) else (hopmeshlaw49_InstallNothing.j5 k x0 x1 x2 x9 x44 x45 x249000 x249001 x249002 x249003 x249004 x249005 bt273.1 bt273.2.1 bt273.2.2.1 bt273.2.2.2.1 bt273.2.2.2.2.1 bt273.2.2.2.2.2.1))) else (none)) else (none)) else (hopmeshlaw49_InstallNothing.j5 k x0 x1 x2 x9 x44 x45 x249000 x249001 x249002 x249003 x249004 x249005 x250000 x250001 x250002 x250003 x250004 x250005)
def hopmeshlaw49_InstallNothing.j5 : Nat → List Bool → List (S36) → List Int → Int → Int → Int → List ByteArray → ByteArray → Bool → ByteArray → Int → Int → ByteArray → ByteArray → Bool → ByteArray → Int → Int → Option (Bool)
 | 0, _, _, _, _, _, _, _, _, _, _, _, _, _, _, _, _, _, _ => none
 | k + 1, x0, x1, x2, x9, x44, x45, x249000, x249001, x249002, x249003, x249004, x249005, x250000, x250001, x250002, x250003, x250004, x250005 => (install_Step.f k x250000 x250001 x250002 x250003 x250004 x250005 x9).bind fun bt281 => (if bt281.2.2.2.2.2.2.2 = 0 then (if mhas x249000 bt281.1 = true then (if bt281.2.2.2.2.2.2.1 = true then (if x250002 = true then ((install_Check.f k bt281.1 bt281.2.1 bt281.2.2.1 bt281.2.2.2.1 bt281.2.2.2.2.1 bt281.2.2.2.2.2.1).bind fun t290 => (if t290 = 0 then (hopmeshlaw49_InstallNothing.l0 k x0 x1 x2 x9 x44 (wrap64 (x45 + 1)) x249000 x249001 x249002 x249003 x249004 x249005 bt281.1 bt281.2.1 bt281.2.2.1 bt281.2.2.2.1 bt281.2.2.2.2.1 bt281.2.2.2.2.2.1) else (none))) else (none)) else ((install_Check.f k bt281.1 bt281.2.1 bt281.2.2.1 bt281.2.2.2.1 bt281.2.2.2.2.1 bt281.2.2.2.2.2.1).bind fun t291 => (if t291 = 0 then (hopmeshlaw49_InstallNothing.l0 k x0 x1 x2 x9 x44 (wrap64 (x45 + 1)) x249000 x249001 x249002 x249003 x249004 x249005 bt281.1 bt281.2.1 bt281.2.2.1 bt281.2.2.2.1 bt281.2.2.2.2.1 bt281.2.2.2.2.2.1) else (none)))) else (none)) else (none))
end
def hopmeshlaw49_InstallNothing.f (k : Nat) (l0 : List Bool) (l1 : List (S36)) (l2 : List Int) : Option (Bool) := (hopmeshlaw49_awake.f k).bind fun t246 => (if t246 = true then (if (l0.length : Int) > 30 then (hopmeshlaw49_InstallNothing.j0 k l0 l1 l2 true) else (if (l1.length : Int) > 30 then (hopmeshlaw49_InstallNothing.j0 k l0 l1 l2 true) else (hopmeshlaw49_InstallNothing.j0 k l0 l1 l2 (decide ((l2.length : Int) > 30))))) else (hopmeshlaw49_InstallNothing.j0 k l0 l1 l2 true))
def hopmeshlaw49_InstallNothing.T20 : Bool × List (List Nat × List Nat) := (true, [([], []), ([], []), ([], []), ([1, 2], [1, 2]), ([3], [3]), ([], []), ([0, 4, 5], [0, 4, 5]), ([6], [6]), ([7], [7]), ([7], [7]), ([], []), ([10, 8, 6, 0, 1, 2, 3, 4, 5, 6, 7, 8, 10], [8, 10]), ([9, 11, 0, 1, 2, 3, 4, 5, 6, 7, 8, 9, 10, 11], [9])])
def hopmeshlaw49_InstallNothing.B20 : List Nat := [0, 0, 0, 6, 14, 0, 63, 127, 255, 255, 0, 1535, 4095]
theorem hopmeshlaw49_InstallNothing.tab20 : rtab .any (opsOf Try.f3 20) = hopmeshlaw49_InstallNothing.T20 := by kernel_rfl
theorem hopmeshlaw49_InstallNothing.bits20 : waitsOk hopmeshlaw49_InstallNothing.T20.2 hopmeshlaw49_InstallNothing.B20 = true := by kernel_rfl
theorem zero4 (w : World) : (zeroValue 4).run Try.prog w = .ok (.bool false) w := by kernel_rfl
set_option maxHeartbeats 8000000 in
set_option maxRecDepth 100000 in
theorem hopmeshlaw49_InstallNothing.calls (k : Nat) (A0 : Option Addr) (c0 : Nat) (l0 : List Bool) (A1 : Option Addr) (c1 : Nat) (l1 : List (S36)) (A2 : Option Addr) (c2 : Nat) (l2 : List Int) (r : Bool) (w : World) (hr0 : Kd.C Kd.bool w A0 l0.length l0) (hc0 : l0.length ≤ c0) (hr1 : Kd.C k36 w A1 l1.length l1) (hc1 : l1.length ≤ c1) (hr2 : Kd.C (Kd.int .u8) w A2 l2.length l2) (hc2 : l2.length ≤ c2) (h : hopmeshlaw49_InstallNothing.f k l0 l1 l2 = some r) :
 Calls Try.prog 3 #[.slice A0 l0.length c0, .slice A1 l1.length c1, .slice A2 l2.length c2] w fun e w' => e = .returned (.bool r) ∧ Below w.heap.size w w' := by
 have hu28 := Try.underlying28
 have hu36 := Try.underlying36
 have HR0 := Aside0.mk hr0
 have HC0 := Aside0.mk hc0
 clear hr0 hc0
 have HR1 := Aside0.mk hr1
 have HC1 := Aside0.mk hc1
 clear hr1 hc1
 have HR2 := Aside0.mk hr2
 have HC2 := Aside0.mk hc2
 clear hr2 hc2
 have HB := Aside0.mk (Below.refl w.heap.size w)
 have H : ((hopmeshlaw49_awake.f k).bind fun t246 => (if t246 = true then (if (l0.length : Int) > 30 then (hopmeshlaw49_InstallNothing.j0 k l0 l1 l2 true) else (if (l1.length : Int) > 30 then (hopmeshlaw49_InstallNothing.j0 k l0 l1 l2 true) else (hopmeshlaw49_InstallNothing.j0 k l0 l1 l2 (decide ((l2.length : Int) > 30))))) else (hopmeshlaw49_InstallNothing.j0 k l0 l1 l2 true))) = some r := h
 clear h
 have HC4 := Aside0.mk H
 clear H
 go_enter Try.func3, Try.ntmps3
 go_upto_region 1 with (fail)
 go_cut [35] (fun v35 wc => ∃ (kq : Nat) (x35_3 : Bool), v35 = .bool x35_3 ∧ Aside0 (hopmeshlaw49_InstallNothing.j0 kq l0 l1 l2 x35_3 = some r) ∧ Aside0 (kq ≤ k) ∧ Aside0 (Below w.heap.size w wc))
 case first =>
  have H := HC4.out
  clear HC4
  replace H := Option.bind_eq_some_iff.mp H
  obtain ⟨t246, A50, H⟩ := H
  (try dsimp only at H)
  have A5 := Aside0.mk A50
  clear A50
  by_cases c6 : t246 = true
  ·subst c6
   rw [if_pos rfl] at H
   by_cases c7 : (l0.length : Int) > 30
   ·rw [if_pos c7] at H
    have c7b0 : decide (30 < (l0.length : Int)) = true := decide_eq_true c7
    have c7b1 : decide (30 < l0.length) = true := decide_eq_true (by omega)
    clear c7
    (first | rw [c7b0] | (simp only [i64_w, i32_w]; rw [c7b0]) | skip)
    have H' := Aside0.mk H
    clear H
    go_wp2_with (first | ((with_reducible refine gate_callee (f := 10) rfl ?_); refine goesL_ (some 19) rfl rfl Try.func10 (by kernel_rfl) rfl #[] rfl sma ?_; (with_reducible refine (hopmeshlaw49_awake.calls k  true _ A5.out).mono ?_); rintro e w8 ⟨rfl, hb⟩; refine ⟨_, rfl, ?_⟩; replace HB := hbS HB hb; (try clear hb); (try clear hb2); (try clear hk); (try clear hi)))
    go_meet
    case rel => exact ⟨_, (true), rfs, H', kle, hbA HB⟩
   ·rw [if_neg c7] at H
    have c7b0 : decide (30 < (l0.length : Int)) = false := decide_eq_false c7
    have c7b1 : decide (30 < l0.length) = false := decide_eq_false (by omega)
    clear c7
    (first | rw [c7b0] | (simp only [i64_w, i32_w]; rw [c7b0]) | skip)
    by_cases c9 : (l1.length : Int) > 30
    ·rw [if_pos c9] at H
     have c9b0 : decide (30 < (l1.length : Int)) = true := decide_eq_true c9
     have c9b1 : decide (30 < l1.length) = true := decide_eq_true (by omega)
     clear c9
     have H' := Aside0.mk H
     clear H
     go_wp2_with (first | ((with_reducible refine gate_callee (f := 10) rfl ?_); refine goesL_ (some 19) rfl rfl Try.func10 (by kernel_rfl) rfl #[] rfl sma ?_; (with_reducible refine (hopmeshlaw49_awake.calls k  true _ A5.out).mono ?_); rintro e w10 ⟨rfl, hb⟩; refine ⟨_, rfl, ?_⟩; replace HB := hbS HB hb; (try clear hb); (try clear hb2); (try clear hk); (try clear hi)))
     go_meet
     case rel => exact ⟨_, (true), rfs, H', kle, hbA HB⟩
    ·rw [if_neg c9] at H
     have c9b0 : decide (30 < (l1.length : Int)) = false := decide_eq_false c9
     have c9b1 : decide (30 < l1.length) = false := decide_eq_false (by omega)
     clear c9
     have H' := Aside0.mk H
     clear H
     go_wp2_with (first | ((with_reducible refine gate_callee (f := 10) rfl ?_); refine goesL_ (some 19) rfl rfl Try.func10 (by kernel_rfl) rfl #[] rfl sma ?_; (with_reducible refine (hopmeshlaw49_awake.calls k  true _ A5.out).mono ?_); rintro e w11 ⟨rfl, hb⟩; refine ⟨_, rfl, ?_⟩; replace HB := hbS HB hb; (try clear hb); (try clear hb2); (try clear hk); (try clear hi)))
     go_meet
     case rel => exact ⟨_, (decide ((l2.length : Int) > 30)), rfs, H', kle, hbA HB⟩
  ·replace c6 := Bool.eq_false_iff.mpr c6
   subst c6
   rw [if_neg (show ¬ (false = true) by decide)] at H
   have H' := Aside0.mk H
   clear H
   go_wp2_with (first | ((with_reducible refine gate_callee (f := 10) rfl ?_); refine goesL_ (some 19) rfl rfl Try.func10 (by kernel_rfl) rfl #[] rfl sma ?_; (with_reducible refine (hopmeshlaw49_awake.calls k  false _ A5.out).mono ?_); rintro e w12 ⟨rfl, hb⟩; refine ⟨_, rfl, ?_⟩; replace HB := hbS HB hb; (try clear hb); (try clear hb2); (try clear hk); (try clear hi)))
   go_meet
   case rel => exact ⟨_, (true), rfs, H', kle, hbA HB⟩
 case rest =>
  clear HC4
  try clear c1
  try clear c2
  obtain ⟨kq, x35_3, rfl, HA, HJ3, HB⟩ := hcut
  cases kq with
  | zero => exact absurd HA.out (by simp [hopmeshlaw49_InstallNothing.j0])
  | succ kj3 =>
   have H := HA.out
   clear HA
   simp only [hopmeshlaw49_InstallNothing.j0] at H
   by_cases c13 : x35_3 = true
   ·subst c13
    rw [if_pos rfl] at H
    replace H := Option.bind_eq_some_iff.mp H
    obtain ⟨t247, A140, H⟩ := H
    (try dsimp only at H)
    have A14 := Aside0.mk A140
    clear A140
    obtain rfl := Option.some.inj H
    go_wp2_with (first | ((with_reducible refine gate_callee (f := 10) rfl ?_); refine goesL_ (some 36) rfl rfl Try.func10 (by kernel_rfl) rfl #[] rfl sma ?_; (with_reducible refine (hopmeshlaw49_awake.calls kj3  t247 _ A14.out).mono ?_); rintro e w15 ⟨rfl, hb⟩; refine ⟨_, rfl, ?_⟩; replace HB := hbS HB hb; (try clear hb); (try clear hb2); (try clear hk); (try clear hi)))
    go_ret
    exact ⟨rerr, hbx HB⟩
   ·replace c13 := Bool.eq_false_iff.mpr c13
    subst c13
    rw [if_neg (show ¬ (false = true) by decide)] at H
    obtain ⟨ji16, hji16⟩ : ∃ j_ : Int, (mx (l0.length : Int) (l1.length : Int)) = j_ := ⟨_, rfl⟩
    replace H : (hopmeshlaw49_InstallNothing.l0 kj3 l0 l1 l2 0 ji16 0 [(⟨#[]⟩ : ByteArray)] (⟨#[]⟩ : ByteArray) false (⟨#[]⟩ : ByteArray) 0 0 (⟨#[]⟩ : ByteArray) (⟨#[]⟩ : ByteArray) false (⟨#[]⟩ : ByteArray) 0 0) = some r := by first | (rw [hji16] at H; exact H) | (simp only [hji16] at H ⊢; exact H)
    have hji16_ : (if (l0.length : Int) < (l1.length : Int) then (l1.length : Int) else (l0.length : Int)) = ji16 := hji16
    have hji16n : (if l0.length < l1.length then (l1.length : Int) else (l0.length : Int)) = ji16 := by rw [← hji16_]; simp only [Int.ofNat_lt]
    have H' := Aside0.mk H
    clear H
    go_wp2_with (first | ((with_reducible refine gate_dst (N := 37) rfl ?_); (try (refine gate_guard (by rfl) ?_; dsimp only)); refine mk_event 37 26 ?_; intro gb248 hg w17 hbox hb; have BK248 := Aside0.mk (hbox); have GW248 := gw hg HB; have GE248 := gw hg HB; replace HB := hbS HB hb; clear hb hbox hg) | ((with_reducible refine gate_ins rfl ?_); refine upd_event gb248 [] (⟨#[]⟩ : ByteArray) 26 9 4 _ _ Try.underlying26 Try.underlying9 (bkm BK248) ?_; intro w17q hq; replace BK248 := Aside0.mk (show w17q.heap[gb248]? = some (mobj [(⟨#[]⟩ : ByteArray)]) from chg_same hq (bkm BK248)); replace HB := Aside0.mk (chg_below hq (hbx HB) GE248.out); clear hq) | ((with_reducible refine gate_dst (N := 8) rfl ?_); (try (refine gate_guard (by rfl) ?_; dsimp only)); refine boxE 8 #[.string (⟨#[]⟩ : ByteArray), .string (⟨#[]⟩ : ByteArray), .bool false, .string (⟨#[]⟩ : ByteArray), .int .i64 0, .int .i64 0] 28 ?_; intro gb249 hg w18 hbox hb; have BK249 := Aside0.mk (hbox); have GW249 := gw hg HB; have GE249 := gw hg HB; replace HB := hbS HB hb; have NB248_249 := nbl hg BK248; have NB249_248 := nbg hg BK248; replace BK248 := bkB BK248 hb; clear hb hbox hg; have hnb19 := NB249_248.out; have hnc19 := NB248_249.out; obtain ⟨z0, z1, z2, z3, z4, z5, y0, y1, y2, y3, y4, y5⟩ := bc6 BK249))
    go_loopg [9, 45] kj3 (fun kq v9 v45 w' => ∃ (x9_2 : Int) (x45_2 : Int) (x249000_2 : List ByteArray) (x250000_2 : ByteArray) (x250001_2 : ByteArray) (x250002_2 : Bool) (x250003_2 : ByteArray) (x250004_2 : Int) (x250005_2 : Int), v9 = .int .i64 x9_2 ∧ v45 = .int .i64 x45_2 ∧ Aside0 (hopmeshlaw49_InstallNothing.l0 kq l0 l1 l2 x9_2 ji16 x45_2 x249000_2 (⟨#[]⟩ : ByteArray) false (⟨#[]⟩ : ByteArray) 0 0 x250000_2 x250001_2 x250002_2 x250003_2 x250004_2 x250005_2 = some r) ∧ Aside0 (kq ≤ kj3) ∧ Aside0 (w'.heap[gb248]? = some (mobj x249000_2)) ∧ Aside0 (w'.heap[gb249]? = some (.cells #[.string x250000_2, .string x250001_2, .bool x250002_2, .string x250003_2, .int .i64 x250004_2, .int .i64 x250005_2] 28 (0, 0))) ∧ Aside0 (Below w.heap.size w w'))
    case atStart => exact ⟨(0), (0), ([(⟨#[]⟩ : ByteArray)]), ((⟨#[]⟩ : ByteArray)), ((⟨#[]⟩ : ByteArray)), (false), ((⟨#[]⟩ : ByteArray)), (0), (0), rfs, rfs, H', ⟨Nat.le_refl _⟩, bkmA BK248, bkpA BK249, hbA HB⟩
    case round =>
     clear H'
     try clear c1
     try clear c2
     try clear c13
     try clear hcz20_0
     try clear hcz20_1
     try clear hcz20_2
     try clear hcz20_3
     try clear hcz20_4
     try clear hcz20_5
     try clear hfz20_0
     try clear hfz20_1
     try clear hfz20_2
     try clear hfz20_3
     try clear hfz20_4
     try clear hfz20_5
     obtain ⟨x9_2, x45_2, x249000_2, x250000_2, x250001_2, x250002_2, x250003_2, x250004_2, x250005_2, rfl, rfl, HA, HK2, BK248, BK249, HB⟩ := hrel
     cases gk with
     | zero => exact absurd HA.out (by simp [hopmeshlaw49_InstallNothing.l0])
     | succ k2 =>
      have H := HA.out
      clear HA
      simp only [hopmeshlaw49_InstallNothing.l0] at H
      by_cases c21 : x45_2 < ji16
      ·rw [if_pos c21] at H
       have c21b0 : decide (x45_2 < ji16) = true := decide_eq_true c21
       clear c21
       have HC22 := Aside0.mk H
       clear H
       go_upto_if 51 with (fail)
       go_cut [9] (fun v9 wc => ∃ (kq : Nat) (x9_21 : Int), v9 = .int .i64 x9_21 ∧ Aside0 (hopmeshlaw49_InstallNothing.j2 kq l0 l1 l2 x9_21 x45_2 ji16 x45_2 x249000_2 (⟨#[]⟩ : ByteArray) false (⟨#[]⟩ : ByteArray) 0 0 x250000_2 x250001_2 x250002_2 x250003_2 x250004_2 x250005_2 = some r) ∧ Aside0 (kq ≤ k2) ∧ Aside0 (wc.heap[gb248]? = some (mobj x249000_2)) ∧ Aside0 (wc.heap[gb249]? = some (.cells #[.string x250000_2, .string x250001_2, .bool x250002_2, .string x250003_2, .int .i64 x250004_2, .int .i64 x250005_2] 28 (0, 0))) ∧ Aside0 (Below w.heap.size w wc))
       case first =>
        have H := HC22.out
        clear HC22
        by_cases c23 : x45_2 < (l2.length : Int)
        ·rw [if_pos c23] at H
         have c23b0 : decide (x45_2 < (l2.length : Int)) = true := decide_eq_true c23
         clear c23
         (first | rw [c23b0] | (simp only [i64_w, i32_w]; rw [c23b0]) | skip)
         by_cases c24 : 0 ≤ x45_2
         ·rw [if_pos c24] at H
          have c24b0 : decide (0 ≤ x45_2) = true := decide_eq_true c24
          clear c24
          have H' := Aside0.mk H
          clear H
          have p250 : 0 ≤ (x45_2 : Int) := pos_
          have q250 : x45_2 < (l2.length : Int) := pos_
          obtain ⟨ad250, e250, hx250_0⟩ := Kd.at_int HR2.out x45_2 p250 q250
          cases e250
          replace hx250_0 := (HB.out.cell (World.block_lt_of_cell? w _ hx250_0)).trans hx250_0
          replace p250 := eq_true p250
          replace q250 := eq_true q250
          go_wp2
          go_meet
          case rel => exact ⟨_, (wrap64 (x9_2 + (wrap64 (Int.tmod (rd l2 x45_2) 8)))), rfs, H', ⟨by have := HJ3.out; have := HK2.out; first | omega | exact Nat.le_refl _⟩, bkA BK248, bkA BK249, hbA HB⟩
         ·rw [if_neg c24] at H
          exact absurd H (by simp)
        ·rw [if_neg c23] at H
         have c23b0 : decide (x45_2 < (l2.length : Int)) = false := decide_eq_false c23
         clear c23
         (first | rw [c23b0] | (simp only [i64_w, i32_w]; rw [c23b0]) | skip)
         have H' := Aside0.mk H
         clear H
         go_wp2
         go_meet
         case rel => exact ⟨_, (x9_2), rfs, H', ⟨by have := HJ3.out; have := HK2.out; first | omega | exact Nat.le_refl _⟩, bkA BK248, bkA BK249, hbA HB⟩
       case rest =>
        clear HC22
        try clear c1
        try clear c2
        try clear c13
        try clear c21
        try clear c21b0
        try clear hcz20_0
        try clear hcz20_1
        try clear hcz20_2
        try clear hcz20_3
        try clear hcz20_4
        try clear hcz20_5
        try clear hfz20_0
        try clear hfz20_1
        try clear hfz20_2
        try clear hfz20_3
        try clear hfz20_4
        try clear hfz20_5
        obtain ⟨kq, x9_21, rfl, HA, HJ21, BK248, BK249, HB⟩ := hcut
        cases kq with
        | zero => exact absurd HA.out (by simp [hopmeshlaw49_InstallNothing.j2])
        | succ kj21 =>
         have H := HA.out
         clear HA
         simp only [hopmeshlaw49_InstallNothing.j2] at H
         have HC25 := Aside0.mk H
         clear H
         go_upto_if 63 with (fail)
         go_cut [] (fun wc => ∃ (kq : Nat) (x249000_24 : List ByteArray) (x250000_24 : ByteArray) (x250001_24 : ByteArray) (x250002_24 : Bool) (x250003_24 : ByteArray) (x250004_24 : Int) (x250005_24 : Int), Aside0 (hopmeshlaw49_InstallNothing.j3 kq l0 l1 l2 x9_21 x45_2 ji16 x45_2 x249000_24 (⟨#[]⟩ : ByteArray) false (⟨#[]⟩ : ByteArray) 0 0 x250000_24 x250001_24 x250002_24 x250003_24 x250004_24 x250005_24 = some r) ∧ Aside0 (kq ≤ kj21) ∧ Aside0 (wc.heap[gb248]? = some (mobj x249000_24)) ∧ Aside0 (wc.heap[gb249]? = some (.cells #[.string x250000_24, .string x250001_24, .bool x250002_24, .string x250003_24, .int .i64 x250004_24, .int .i64 x250005_24] 28 (0, 0))) ∧ Aside0 (Below w.heap.size w wc))
         case first =>
          have H := HC25.out
          clear HC25
          by_cases c26 : x45_2 < (l0.length : Int)
          ·rw [if_pos c26] at H
           have c26b0 : decide (x45_2 < (l0.length : Int)) = true := decide_eq_true c26
           clear c26
           (first | rw [c26b0] | (simp only [i64_w, i32_w]; rw [c26b0]) | skip)
           replace H := Option.bind_eq_some_iff.mp H
           obtain ⟨t251, A270, H⟩ := H
           (try dsimp only at H)
           have A27 := Aside0.mk A270
           clear A270
           by_cases c28 : 0 ≤ x45_2
           ·rw [if_pos c28] at H
            have c28b0 : decide (0 ≤ x45_2) = true := decide_eq_true c28
            clear c28
            obtain ⟨bq29, hbq29⟩ : ∃ b_ : Bool, b_ = (rdOf false l0 x45_2) := ⟨_, rfl⟩
            replace H : (if bq29 = true then ((hopmeshlaw49_id.f (⟨#[121]⟩ : ByteArray)).bind fun t253 => ((install_Complete.f kj21 x250000_2 x250001_2 x250002_2 x250003_2 x250004_2 x250005_2 t253).bind fun bt254 => (if bt254.2.2.2.2.2.2 = 0 then (hopmeshlaw49_InstallNothing.j3 kj21 l0 l1 l2 x9_21 x45_2 ji16 x45_2 (mput x249000_2 t253) (⟨#[]⟩ : ByteArray) false (⟨#[]⟩ : ByteArray) 0 0 bt254.1 bt254.2.1 bt254.2.2.1 bt254.2.2.2.1 bt254.2.2.2.2.1 bt254.2.2.2.2.2.1) else (none)))) else ((install_Complete.f kj21 x250000_2 x250001_2 x250002_2 x250003_2 x250004_2 x250005_2 t251).bind fun bt262 => (if bt262.2.2.2.2.2.2 = 0 then (hopmeshlaw49_InstallNothing.j3 kj21 l0 l1 l2 x9_21 x45_2 ji16 x45_2 (mput x249000_2 t251) (⟨#[]⟩ : ByteArray) false (⟨#[]⟩ : ByteArray) 0 0 bt262.1 bt262.2.1 bt262.2.2.1 bt262.2.2.2.1 bt262.2.2.2.2.1 bt262.2.2.2.2.2.1) else (none)))) = some r := by rw [← hbq29] at H; exact H
            have Nbq29 := Aside0.mk hbq29
            clear hbq29
            by_cases c30 : bq29 = true
            ·subst c30
             rw [if_pos rfl] at H
             replace H := Option.bind_eq_some_iff.mp H
             obtain ⟨t253, A310, H⟩ := H
             (try dsimp only at H)
             have A31 := Aside0.mk A310
             clear A310
             replace H := Option.bind_eq_some_iff.mp H
             obtain ⟨⟨t254, t255, t256, t257, t258, t259, t260⟩, A320, H⟩ := H
             (try dsimp only at H)
             have A32 := Aside0.mk A320
             clear A320
             by_cases c33 : t260 = 0
             ·rw [if_pos c33] at H
              have c33b0 : (t260 == 0) = true := beq_iff_eq.mpr c33
              have c33b1 : (t260 != 0) = false := bne_eq_false_iff_eq.mpr c33
              clear c33
              have H' := Aside0.mk H
              clear H
              go_wp2_with (first | ((with_reducible refine gate_callee (f := 11) rfl ?_); refine goesL_ (some 64) rfl rfl Try.func11 (by kernel_rfl) rfl #[.string (⟨#[120]⟩ : ByteArray)] rfl sma ?_; (with_reducible refine (hopmeshlaw49_id.calls (⟨#[120]⟩ : ByteArray) t251 _ A27.out).mono ?_); rintro e w34 ⟨rfl, hb⟩; refine ⟨_, rfl, ?_⟩; replace BK248 := bkB BK248 hb; replace BK249 := bkB BK249 hb; replace HB := hbS HB hb; (try clear hb); (try clear hb2); (try clear hk); (try clear hi); have p252 : 0 ≤ (x45_2 : Int) := pos_; have q252 : x45_2 < (l0.length : Int) := pos_; obtain ⟨ad252, e252, hx252_0⟩ := Kd.at_bool HR0.out x45_2 p252 q252; (try rw [← Nbq29.out] at hx252_0); cases e252; replace hx252_0 := (HB.out.cell (World.block_lt_of_cell? w _ hx252_0)).trans hx252_0; replace p252 := eq_true p252; replace q252 := eq_true q252) | ((with_reducible refine gate_callee (f := 11) rfl ?_); refine goesL_ (some 69) rfl rfl Try.func11 (by kernel_rfl) rfl #[.string (⟨#[121]⟩ : ByteArray)] rfl sma ?_; (with_reducible refine (hopmeshlaw49_id.calls (⟨#[121]⟩ : ByteArray) t253 _ A31.out).mono ?_); rintro e w35 ⟨rfl, hb⟩; refine ⟨_, rfl, ?_⟩; replace BK248 := bkB BK248 hb; replace BK249 := bkB BK249 hb; replace HB := hbS HB hb; (try clear hb); (try clear hb2); (try clear hk); (try clear hi); have hnb36 := NB249_248.out; have hnc36 := NB248_249.out; obtain ⟨z0, z1, z2, z3, z4, z5, y0, y1, y2, y3, y4, y5⟩ := bc6 BK249) | ((with_reducible refine gate_callee (f := 12) rfl ?_); refine goesL_ (some 73) rfl rfl Try.func12 (by kernel_rfl) rfl #[.agg #[.string x250000_2, .string x250001_2, .bool x250002_2, .string x250003_2, .int .i64 x250004_2, .int .i64 x250005_2], .string t253] rfl sma ?_; (with_reducible refine (install_Complete.calls kj21 x250000_2 x250001_2 x250002_2 x250003_2 x250004_2 x250005_2 t253 t254 t255 t256 t257 t258 t259 t260 _ A32.out).mono ?_); rintro e w38 ⟨rfl, hb⟩; refine ⟨_, rfl, ?_⟩; replace BK248 := bkB BK248 hb; replace BK249 := bkB BK249 hb; replace HB := hbS HB hb; (try clear hb); (try clear hb2); (try clear hk); (try clear hi)) | ((with_reducible refine gate_dst (N := 12) rfl ?_); (try (refine gate_guard (by rfl) ?_; dsimp only)); refine boxE 12 #[.string (⟨#[]⟩ : ByteArray), .string (⟨#[]⟩ : ByteArray), .bool false, .string (⟨#[]⟩ : ByteArray), .int .i64 0, .int .i64 0] 28 ?_; intro gb261 hg w39 hbox hb; have BK261 := Aside0.mk (hbox); have GW261 := gw hg HB; have GE261 := gw hg HB; replace HB := hbS HB hb; have NB248_261 := nbl hg BK248; have NB261_248 := nbg hg BK248; replace BK248 := bkB BK248 hb; have NB249_261 := nbl hg BK249; have NB261_249 := nbg hg BK249; replace BK249 := bkB BK249 hb; clear hb hbox hg; have hnb40 := NB261_248.out; have hnc40 := NB248_261.out; have hnb41 := NB261_249.out; have hnc41 := NB249_261.out; obtain ⟨z0, z1, z2, z3, z4, z5, y0, y1, y2, y3, y4, y5⟩ := bc6 BK261; obtain ⟨z0, z1, z2, z3, z4, z5, y0, y1, y2, y3, y4, y5⟩ := bc6 BK249) | ((with_reducible refine gate_upd rfl ?_); refine upd_event gb248 x249000_2 t253 26 9 4 _ _ Try.underlying26 Try.underlying9 (bkm BK248) ?_; intro wq hq; replace BK249 := Aside0.mk ((chg_other hq NB249_248.out).trans (bkp (cs' := #[.string t254, .string t255, .bool t256, .string t257, .int .i64 t258, .int .i64 t259]) BK249)); replace BK248 := Aside0.mk (chg_same hq (bkm BK248)); replace HB := Aside0.mk (chg_below hq (hbx HB) GE248.out); clear hq))
              go_meet
              case rel => exact ⟨_, (mput x249000_2 t253), (t254), (t255), (t256), (t257), (t258), (t259), H', ⟨by have := HJ3.out; have := HK2.out; have := HJ21.out; first | omega | exact Nat.le_refl _⟩, bkA BK248, bkA BK249, hbA HB⟩
             ·rw [if_neg c33] at H
              exact absurd H (by simp)
            ·replace c30 := Bool.eq_false_iff.mpr c30
             subst c30
             rw [if_neg (show ¬ (false = true) by decide)] at H
             replace H := Option.bind_eq_some_iff.mp H
             obtain ⟨⟨t262, t263, t264, t265, t266, t267, t268⟩, A450, H⟩ := H
             (try dsimp only at H)
             have A45 := Aside0.mk A450
             clear A450
             by_cases c46 : t268 = 0
             ·rw [if_pos c46] at H
              have c46b0 : (t268 == 0) = true := beq_iff_eq.mpr c46
              have c46b1 : (t268 != 0) = false := bne_eq_false_iff_eq.mpr c46
              clear c46
              have H' := Aside0.mk H
              clear H
              go_wp2_with (first | ((with_reducible refine gate_callee (f := 11) rfl ?_); refine goesL_ (some 64) rfl rfl Try.func11 (by kernel_rfl) rfl #[.string (⟨#[120]⟩ : ByteArray)] rfl sma ?_; (with_reducible refine (hopmeshlaw49_id.calls (⟨#[120]⟩ : ByteArray) t251 _ A27.out).mono ?_); rintro e w47 ⟨rfl, hb⟩; refine ⟨_, rfl, ?_⟩; replace BK248 := bkB BK248 hb; replace BK249 := bkB BK249 hb; replace HB := hbS HB hb; (try clear hb); (try clear hb2); (try clear hk); (try clear hi); have p252 : 0 ≤ (x45_2 : Int) := pos_; have q252 : x45_2 < (l0.length : Int) := pos_; obtain ⟨ad252, e252, hx252_0⟩ := Kd.at_bool HR0.out x45_2 p252 q252; (try rw [← Nbq29.out] at hx252_0); cases e252; replace hx252_0 := (HB.out.cell (World.block_lt_of_cell? w _ hx252_0)).trans hx252_0; replace p252 := eq_true p252; replace q252 := eq_true q252; have hnb48 := NB249_248.out; have hnc48 := NB248_249.out; obtain ⟨z0, z1, z2, z3, z4, z5, y0, y1, y2, y3, y4, y5⟩ := bc6 BK249) | ((with_reducible refine gate_callee (f := 12) rfl ?_); refine goesL_ (some 73) rfl rfl Try.func12 (by kernel_rfl) rfl #[.agg #[.string x250000_2, .string x250001_2, .bool x250002_2, .string x250003_2, .int .i64 x250004_2, .int .i64 x250005_2], .string t251] rfl sma ?_; (with_reducible refine (install_Complete.calls kj21 x250000_2 x250001_2 x250002_2 x250003_2 x250004_2 x250005_2 t251 t262 t263 t264 t265 t266 t267 t268 _ A45.out).mono ?_); rintro e w50 ⟨rfl, hb⟩; refine ⟨_, rfl, ?_⟩; replace BK248 := bkB BK248 hb; replace BK249 := bkB BK249 hb; replace HB := hbS HB hb; (try clear hb); (try clear hb2); (try clear hk); (try clear hi)) | ((with_reducible refine gate_dst (N := 12) rfl ?_); (try (refine gate_guard (by rfl) ?_; dsimp only)); refine boxE 12 #[.string (⟨#[]⟩ : ByteArray), .string (⟨#[]⟩ : ByteArray), .bool false, .string (⟨#[]⟩ : ByteArray), .int .i64 0, .int .i64 0] 28 ?_; intro gb269 hg w51 hbox hb; have BK269 := Aside0.mk (hbox); have GW269 := gw hg HB; have GE269 := gw hg HB; replace HB := hbS HB hb; have NB248_269 := nbl hg BK248; have NB269_248 := nbg hg BK248; replace BK248 := bkB BK248 hb; have NB249_269 := nbl hg BK249; have NB269_249 := nbg hg BK249; replace BK249 := bkB BK249 hb; clear hb hbox hg; have hnb52 := NB269_248.out; have hnc52 := NB248_269.out; have hnb53 := NB269_249.out; have hnc53 := NB249_269.out; obtain ⟨z0, z1, z2, z3, z4, z5, y0, y1, y2, y3, y4, y5⟩ := bc6 BK269; obtain ⟨z0, z1, z2, z3, z4, z5, y0, y1, y2, y3, y4, y5⟩ := bc6 BK249) | ((with_reducible refine gate_upd rfl ?_); refine upd_event gb248 x249000_2 t251 26 9 4 _ _ Try.underlying26 Try.underlying9 (bkm BK248) ?_; intro wq hq; replace BK249 := Aside0.mk ((chg_other hq NB249_248.out).trans (bkp (cs' := #[.string t262, .string t263, .bool t264, .string t265, .int .i64 t266, .int .i64 t267]) BK249)); replace BK248 := Aside0.mk (chg_same hq (bkm BK248)); replace HB := Aside0.mk (chg_below hq (hbx HB) GE248.out); clear hq))
              go_meet
              case rel => exact ⟨_, (mput x249000_2 t251), (t262), (t263), (t264), (t265), (t266), (t267), H', ⟨by have := HJ3.out; have := HK2.out; have := HJ21.out; first | omega | exact Nat.le_refl _⟩, bkA BK248, bkA BK249, hbA HB⟩
             ·rw [if_neg c46] at H
              exact absurd H (by simp)
           ·rw [if_neg c28] at H
            exact absurd H (by simp)
          ·rw [if_neg c26] at H
           have c26b0 : decide (x45_2 < (l0.length : Int)) = false := decide_eq_false c26
           clear c26
           (first | rw [c26b0] | (simp only [i64_w, i32_w]; rw [c26b0]) | skip)
           have H' := Aside0.mk H
           clear H
           go_wp2
           go_meet
           case rel => exact ⟨_, (x249000_2), (x250000_2), (x250001_2), (x250002_2), (x250003_2), (x250004_2), (x250005_2), H', ⟨by have := HJ3.out; have := HK2.out; have := HJ21.out; first | omega | exact Nat.le_refl _⟩, bkA BK248, bkA BK249, hbA HB⟩
         case rest =>
          clear HC25
          try clear c1
          try clear c2
          try clear c13
          try clear c21
          try clear c21b0
          try clear hcz20_0
          try clear hcz20_1
          try clear hcz20_2
          try clear hcz20_3
          try clear hcz20_4
          try clear hcz20_5
          try clear hfz20_0
          try clear hfz20_1
          try clear hfz20_2
          try clear hfz20_3
          try clear hfz20_4
          try clear hfz20_5
          obtain ⟨kq, x249000_24, x250000_24, x250001_24, x250002_24, x250003_24, x250004_24, x250005_24, HA, HJ24, BK248, BK249, HB⟩ := hcut
          cases kq with
          | zero => exact absurd HA.out (by simp [hopmeshlaw49_InstallNothing.j3])
          | succ kj24 =>
           have H := HA.out
           clear HA
           simp only [hopmeshlaw49_InstallNothing.j3] at H
           have HC57 := Aside0.mk H
           clear H
           go_upto_region 19 with (fail)
           go_cut [91] (fun v91 wc => ∃ (kq : Nat) (x91_56 : Bool), v91 = .bool x91_56 ∧ Aside0 (hopmeshlaw49_InstallNothing.j4 kq l0 l1 l2 x9_21 x45_2 ji16 x45_2 x91_56 x249000_24 (⟨#[]⟩ : ByteArray) false (⟨#[]⟩ : ByteArray) 0 0 x250000_24 x250001_24 x250002_24 x250003_24 x250004_24 x250005_24 = some r) ∧ Aside0 (kq ≤ kj24) ∧ Aside0 (wc.heap[gb248]? = some (mobj x249000_24)) ∧ Aside0 (wc.heap[gb249]? = some (.cells #[.string x250000_24, .string x250001_24, .bool x250002_24, .string x250003_24, .int .i64 x250004_24, .int .i64 x250005_24] 28 (0, 0))) ∧ Aside0 (Below w.heap.size w wc))
           case first =>
            have H := HC57.out
            clear HC57
            by_cases c58 : x45_2 < (l1.length : Int)
            ·rw [if_pos c58] at H
             have c58b0 : decide (x45_2 < (l1.length : Int)) = true := decide_eq_true c58
             clear c58
             (first | rw [c58b0] | (simp only [i64_w, i32_w]; rw [c58b0]) | skip)
             by_cases c59 : 0 ≤ x45_2
             ·rw [if_pos c59] at H
              have c59b0 : decide (0 ≤ x45_2) = true := decide_eq_true c59
              clear c59
              replace H := Option.bind_eq_some_iff.mp H
              obtain ⟨t271, A600, H⟩ := H
              (try dsimp only at H)
              have A60 := Aside0.mk A600
              clear A600
              have H' := Aside0.mk H
              clear H
              have p270 : 0 ≤ (x45_2 : Int) := pos_
              have q270 : x45_2 < (l1.length : Int) := pos_
              obtain ⟨ad270, A270_4, c270_4, e270, hx270_0, hx270_1, hx270_2, hx270_3, hx270_4, hl270_4, hi270_4⟩ := at_T36 HR1.out x45_2 p270 q270
              cases e270
              replace hx270_0 := (HB.out.cell (World.block_lt_of_cell? w _ hx270_0)).trans hx270_0
              replace hx270_1 := (HB.out.cell (World.block_lt_of_cell? w _ hx270_1)).trans hx270_1
              replace hx270_2 := (HB.out.cell (World.block_lt_of_cell? w _ hx270_2)).trans hx270_2
              replace hx270_3 := (HB.out.cell (World.block_lt_of_cell? w _ hx270_3)).trans hx270_3
              replace hx270_4 := (HB.out.cell (World.block_lt_of_cell? w _ hx270_4)).trans hx270_4
              have HR270_4 := Aside0.mk hi270_4
              have HC270_4 := Aside0.mk hl270_4
              clear hi270_4 hl270_4
              replace p270 := eq_true p270
              replace q270 := eq_true q270
              go_wp2_with (first | (go_at_call 13; (with_reducible refine (hopmeshref49_Few.calls ((rd_T36 l1 x45_2).f0) ((rd_T36 l1 x45_2).f1) ((rd_T36 l1 x45_2).f2) ((rd_T36 l1 x45_2).f3) _ _ ((rd_T36 l1 x45_2).f4) t271 _ (cb HR270_4 HB) HC270_4.out A60.out).mono ?_); rintro e w61 ⟨rfl, hb⟩; replace BK248 := bkB BK248 hb; replace BK249 := bkB BK249 hb; replace HB := hbS HB hb; (try clear hb); (try clear hb2); (try clear hk); (try clear hi)))
              go_meet
              case rel => exact ⟨_, (t271), rfs, H', ⟨by have := HJ3.out; have := HK2.out; have := HJ21.out; have := HJ24.out; first | omega | exact Nat.le_refl _⟩, bkA BK248, bkA BK249, hbA HB⟩
             ·rw [if_neg c59] at H
              exact absurd H (by simp)
            ·rw [if_neg c58] at H
             have c58b0 : decide (x45_2 < (l1.length : Int)) = false := decide_eq_false c58
             clear c58
             (first | rw [c58b0] | (simp only [i64_w, i32_w]; rw [c58b0]) | skip)
             have H' := Aside0.mk H
             clear H
             go_wp2
             go_meet
             case rel => exact ⟨_, (false), rfs, H', ⟨by have := HJ3.out; have := HK2.out; have := HJ21.out; have := HJ24.out; first | omega | exact Nat.le_refl _⟩, bkA BK248, bkA BK249, hbA HB⟩
           case rest =>
            clear HC57
            try clear c1
            try clear c2
            try clear c13
            try clear c21
            try clear c21b0
            try clear hcz20_0
            try clear hcz20_1
            try clear hcz20_2
            try clear hcz20_3
            try clear hcz20_4
            try clear hcz20_5
            try clear hfz20_0
            try clear hfz20_1
            try clear hfz20_2
            try clear hfz20_3
            try clear hfz20_4
            try clear hfz20_5
            obtain ⟨kq, x91_56, rfl, HA, HJ56, BK248, BK249, HB⟩ := hcut
            cases kq with
            | zero => exact absurd HA.out (by simp [hopmeshlaw49_InstallNothing.j4])
            | succ kj56 =>
             have H := HA.out
             clear HA
             simp only [hopmeshlaw49_InstallNothing.j4] at H
             have HC62 := Aside0.mk H
             clear H
             go_upto_if 91 with (fail)
             go_cut [] (fun wc => ∃ (kq : Nat) (x250000_61 : ByteArray) (x250001_61 : ByteArray) (x250002_61 : Bool) (x250003_61 : ByteArray) (x250004_61 : Int) (x250005_61 : Int), Aside0 (hopmeshlaw49_InstallNothing.j5 kq l0 l1 l2 x9_21 ji16 x45_2 x249000_24 (⟨#[]⟩ : ByteArray) false (⟨#[]⟩ : ByteArray) 0 0 x250000_61 x250001_61 x250002_61 x250003_61 x250004_61 x250005_61 = some r) ∧ Aside0 (kq ≤ kj56) ∧ Aside0 (wc.heap[gb248]? = some (mobj x249000_24)) ∧ Aside0 (wc.heap[gb249]? = some (.cells #[.string x250000_61, .string x250001_61, .bool x250002_61, .string x250003_61, .int .i64 x250004_61, .int .i64 x250005_61] 28 (0, 0))) ∧ Aside0 (Below w.heap.size w wc))
             case first =>
              have H := HC62.out
              clear HC62
              by_cases c63 : x91_56 = true
              ·subst c63
               rw [if_pos rfl] at H
               by_cases c64 : 0 ≤ x45_2
               ·rw [if_pos c64] at H
                have c64b0 : decide (0 ≤ x45_2) = true := decide_eq_true c64
                clear c64
                (first | rw [c64b0] | (simp only [i64_w, i32_w]; rw [c64b0]) | skip)
                by_cases c65 : x45_2 < (l1.length : Int)
                ·rw [if_pos c65] at H
                 have c65b0 : decide (x45_2 < (l1.length : Int)) = true := decide_eq_true c65
                 clear c65
                 replace H := Option.bind_eq_some_iff.mp H
                 obtain ⟨⟨t273, t274, t275, t276, t277, t278, t279⟩, A660, H⟩ := H
                 (try dsimp only at H)
                 have A66 := Aside0.mk A660
                 clear A660
                 by_cases c67 : t279 = 1
                 ·rw [if_pos c67] at H
                  have c67b0 : (t279 == 1) = true := beq_iff_eq.mpr c67
                  have c67b1 : (t279 != 1) = false := bne_eq_false_iff_eq.mpr c67
                  clear c67
                  have H' := Aside0.mk H
                  clear H
                  try go_wp2
                  replace BK248 := Aside0.mk (blk_drew BK248.out)
                  replace BK249 := Aside0.mk (blk_drew BK249.out)
                  replace HB := Aside0.mk (below_drew1 HB.out)
                  have p272 : 0 ≤ (x45_2 : Int) := pos_
                  have q272 : x45_2 < (l1.length : Int) := pos_
                  obtain ⟨ad272, A272_4, c272_4, e272, hx272_0, hx272_1, hx272_2, hx272_3, hx272_4, hl272_4, hi272_4⟩ := at_T36 HR1.out x45_2 p272 q272
                  have hw272_4 := hx272_4
                  have hw272_3 := hx272_3
                  have hw272_2 := hx272_2
                  have hw272_1 := hx272_1
                  have hw272_0 := hx272_0
                  cases e272
                  replace hx272_0 := (HB.out.cell (World.block_lt_of_cell? w _ hx272_0)).trans hx272_0
                  replace hx272_1 := (HB.out.cell (World.block_lt_of_cell? w _ hx272_1)).trans hx272_1
                  replace hx272_2 := (HB.out.cell (World.block_lt_of_cell? w _ hx272_2)).trans hx272_2
                  replace hx272_3 := (HB.out.cell (World.block_lt_of_cell? w _ hx272_3)).trans hx272_3
                  replace hx272_4 := (HB.out.cell (World.block_lt_of_cell? w _ hx272_4)).trans hx272_4
                  have HR272_4 := Aside0.mk hi272_4
                  have HC272_4 := Aside0.mk hl272_4
                  clear hi272_4 hl272_4
                  replace p272 := eq_true p272
                  replace q272 := eq_true q272
                  refine start_ (n := 13) (S := fun w' => w'.cell? ⟨gb249, 0, none⟩ = some (.string x250000_24) ∧ w'.cell? ⟨gb249, 1, none⟩ = some (.string x250001_24) ∧ w'.cell? ⟨gb249, 2, none⟩ = some (.bool x250002_24) ∧ w'.cell? ⟨gb249, 3, none⟩ = some (.string x250003_24) ∧ w'.cell? ⟨gb249, 4, none⟩ = some (.int .i64 x250004_24) ∧ w'.cell? ⟨gb249, 5, none⟩ = some (.int .i64 x250005_24) ∧ w'.cell? (ad272.add ((x45_2).toNat * 5)) = some (.int .i64 ((rd_T36 l1 x45_2).f0)) ∧ w'.cell? ⟨(ad272.add ((x45_2).toNat * 5)).block, (ad272.add ((x45_2).toNat * 5)).off + 1, none⟩ = some (.int .i64 ((rd_T36 l1 x45_2).f1)) ∧ w'.cell? ⟨(ad272.add ((x45_2).toNat * 5)).block, (ad272.add ((x45_2).toNat * 5)).off + 2, none⟩ = some (.int .i64 ((rd_T36 l1 x45_2).f2)) ∧ w'.cell? ⟨(ad272.add ((x45_2).toNat * 5)).block, (ad272.add ((x45_2).toNat * 5)).off + 3, none⟩ = some (.string ((rd_T36 l1 x45_2).f3)) ∧ w'.cell? ⟨(ad272.add ((x45_2).toNat * 5)).block, (ad272.add ((x45_2).toNat * 5)).off + 4, none⟩ = some (.slice A272_4 ((rd_T36 l1 x45_2).f4).length c272_4)) (ds := []) #[false, false, false, false, false, false, false, false, false, false, false, false, false] (by kernel_rfl) rfl rfl ⟨(blk_cell BK249.out 0).trans rfl, (blk_cell BK249.out 1).trans rfl, (blk_cell BK249.out 2).trans rfl, (blk_cell BK249.out 3).trans rfl, (blk_cell BK249.out 4).trans rfl, (blk_cell BK249.out 5).trans rfl, ((HB.out.cell (World.block_lt_of_cell? w _ hw272_0)).trans hw272_0), ((HB.out.cell (World.block_lt_of_cell? w _ hw272_1)).trans hw272_1), ((HB.out.cell (World.block_lt_of_cell? w _ hw272_2)).trans hw272_2), ((HB.out.cell (World.block_lt_of_cell? w _ hw272_3)).trans hw272_3), ((HB.out.cell (World.block_lt_of_cell? w _ hw272_4)).trans hw272_4)⟩ (fun hHeld => ?_); refine with_tabW hopmeshlaw49_InstallNothing.tab20 hopmeshlaw49_InstallNothing.bits20 (fun HT_ HW_ => ?_)
                  generalize wc.drew = w68 at BK248 BK249 HB HR272_4 hx272_0 hx272_1 hx272_2 hx272_3 hx272_4 hHeld ⊢
                  refine pur 1 (some 94) #[false, true, false, false, false, false, false, false, false, false, false, false, false] HT_ ?_
                  refine pur 2 (some 95) #[false, true, true, false, false, false, false, false, false, false, false, false, false] HT_ ?_
                  refine pur 3 (some 96) #[false, true, true, true, false, false, false, false, false, false, false, false, false] HT_ ?_
                  refine pur 5 (some 98) #[false, true, true, true, false, true, false, false, false, false, false, false, false] HT_ ?_
                  refine tak 0 (some 93) #[true, true, true, true, false, true, false, false, false, false, false, false, false] HT_ HW_ hHeld rfl (Or.inl ⟨by rfl, by rintro w' ⟨s0, s1, s2, s3, s4, s5, s6, s7, s8, s9, s10⟩; go_simp; with_reducible rfl⟩) ?_
                  refine tak 4 (some 97) #[true, true, true, true, true, true, false, false, false, false, false, false, false] HT_ HW_ hHeld rfl (Or.inl ⟨by rfl, by rintro w' ⟨s0, s1, s2, s3, s4, s5, s6, s7, s8, s9, s10⟩; go_simp; with_reducible rfl⟩) ?_
                  refine join_ (σ := Nat) 2 #[true, true, true, true, true, true, true, true, true, true, true, false, false] (fun s_ => [(99, .tuple #[.agg #[.string t273, .string t274, .bool t275, .string t276, .int .i64 t277, .int .i64 t278], .int .i64 t279]), (14, .pointer (some ⟨s_, 0, none⟩)), (92, .tuple #[.agg #[.string t273, .string t274, .bool t275, .string t276, .int .i64 t277, .int .i64 t278], .int .i64 t279]), (100, .agg #[.string t273, .string t274, .bool t275, .string t276, .int .i64 t277, .int .i64 t278]), (101, .int .i64 t279)]) (fun s_ w' => (w'.cell? ⟨gb249, 0, none⟩ = some (.string x250000_24) ∧ w'.cell? ⟨gb249, 1, none⟩ = some (.string x250001_24) ∧ w'.cell? ⟨gb249, 2, none⟩ = some (.bool x250002_24) ∧ w'.cell? ⟨gb249, 3, none⟩ = some (.string x250003_24) ∧ w'.cell? ⟨gb249, 4, none⟩ = some (.int .i64 x250004_24) ∧ w'.cell? ⟨gb249, 5, none⟩ = some (.int .i64 x250005_24) ∧ w'.cell? (ad272.add ((x45_2).toNat * 5)) = some (.int .i64 ((rd_T36 l1 x45_2).f0)) ∧ w'.cell? ⟨(ad272.add ((x45_2).toNat * 5)).block, (ad272.add ((x45_2).toNat * 5)).off + 1, none⟩ = some (.int .i64 ((rd_T36 l1 x45_2).f1)) ∧ w'.cell? ⟨(ad272.add ((x45_2).toNat * 5)).block, (ad272.add ((x45_2).toNat * 5)).off + 2, none⟩ = some (.int .i64 ((rd_T36 l1 x45_2).f2)) ∧ w'.cell? ⟨(ad272.add ((x45_2).toNat * 5)).block, (ad272.add ((x45_2).toNat * 5)).off + 3, none⟩ = some (.string ((rd_T36 l1 x45_2).f3)) ∧ w'.cell? ⟨(ad272.add ((x45_2).toNat * 5)).block, (ad272.add ((x45_2).toNat * 5)).off + 4, none⟩ = some (.slice A272_4 ((rd_T36 l1 x45_2).f4).length c272_4)) ∧ (w'.heap[gb248]? = some (mobj x249000_24)) ∧ (w'.heap[gb249]? = some (.cells #[.string x250000_24, .string x250001_24, .bool x250002_24, .string x250003_24, .int .i64 x250004_24, .int .i64 x250005_24] 28 (0, 0))) ∧ (w'.heap[s_]? = some (.cells #[.string (⟨#[]⟩ : ByteArray), .string (⟨#[]⟩ : ByteArray), .bool false, .string (⟨#[]⟩ : ByteArray), .int .i64 0, .int .i64 0] 28 (0, 0))) ∧ (w.heap.size ≤ s_) ∧ (w.heap.size ≤ s_) ∧ (gb248 ≠ s_) ∧ (s_ ≠ gb248) ∧ (gb249 ≠ s_) ∧ (s_ ≠ gb249) ∧ (Below w.heap.size w w')) ?_ ?_
                  rotate_left
                  ·intro hCont
                   refine two_ (i := 6) (j := 10) (Ni := some 99) (Nj := some 14) #[true, true, true, true, true, true, true, false, false, false, false, false, false] #[true, true, true, true, true, true, false, false, false, false, true, false, false] rfl rfl rfl rfl (two_of HT_.out (by kernel_rfl)) (by decide) (by decide) (fun K hK => ?_) (fun K hK => ?_)
                   ·skip
                    refine goes_ Try.func14 (by kernel_rfl) rfl #[.agg #[.string x250000_24, .string x250001_24, .bool x250002_24, .string x250003_24, .int .i64 x250004_24, .int .i64 x250005_24], .agg #[.int .i64 ((rd_T36 l1 x45_2).f0), .int .i64 ((rd_T36 l1 x45_2).f1), .int .i64 ((rd_T36 l1 x45_2).f2), .string ((rd_T36 l1 x45_2).f3), .slice A272_4 ((rd_T36 l1 x45_2).f4).length c272_4], .int .i64 1, .int .i64 x9_21] (by rfl) rfl rfl sma ?_
                    with_reducible refine (install_Take.calls kj56 x250000_24 x250001_24 x250002_24 x250003_24 x250004_24 x250005_24 ((rd_T36 l1 x45_2).f0) ((rd_T36 l1 x45_2).f1) ((rd_T36 l1 x45_2).f2) ((rd_T36 l1 x45_2).f3) _ _ ((rd_T36 l1 x45_2).f4) 1 x9_21 t273 t274 t275 t276 t277 t278 t279 _ ?side1 ?side2 A66.out).mono ?_
                    (case side1 => repeat (first | exact (Kd.C_below HR272_4.out HB.out) | (with_reducible refine Kd.C_alloc ?_ _) | (with_reducible refine Kd.C_drewN ?_ _) | (with_reducible refine Kd.C_drew ?_)))
                    (case side2 => exact HC272_4.out)
                    rintro e w69 ⟨rfl, hb⟩
                    refine ⟨_, rfl, ?_⟩
                    replace BK248 := bkB BK248 hb
                    replace BK249 := bkB BK249 hb
                    replace HB := hbS HB hb
                    (try clear hb)
                    refine hK.out _ _ ⟨(blk_cell BK249.out 0).trans rfl, (blk_cell BK249.out 1).trans rfl, (blk_cell BK249.out 2).trans rfl, (blk_cell BK249.out 3).trans rfl, (blk_cell BK249.out 4).trans rfl, (blk_cell BK249.out 5).trans rfl, ((HB.out.cell (World.block_lt_of_cell? w _ hw272_0)).trans hw272_0), ((HB.out.cell (World.block_lt_of_cell? w _ hw272_1)).trans hw272_1), ((HB.out.cell (World.block_lt_of_cell? w _ hw272_2)).trans hw272_2), ((HB.out.cell (World.block_lt_of_cell? w _ hw272_3)).trans hw272_3), ((HB.out.cell (World.block_lt_of_cell? w _ hw272_4)).trans hw272_4)⟩ (fun hHeld => ?_)
                    clear hK K
                    refine nrm (some 99) ?_
                    refine pur 7 (some 92) #[true, true, true, true, true, true, true, true, false, false, false, false, false] HT_ ?_
                    refine pur 8 (some 100) #[true, true, true, true, true, true, true, true, true, false, false, false, false] HT_ ?_
                    refine pur 9 (some 101) #[true, true, true, true, true, true, true, true, true, true, false, false, false] HT_ ?_
                    refine one_ (i := 10) (N := some 14) #[true, true, true, true, true, true, true, true, true, true, true, false, false] rfl rfl (one_of HT_.out (by kernel_rfl)) (by decide) (fun K hK => ?_)
                    refine boxS 14 #[.string (⟨#[]⟩ : ByteArray), .string (⟨#[]⟩ : ByteArray), .bool false, .string (⟨#[]⟩ : ByteArray), .int .i64 0, .int .i64 0] 28 ?_
                    intro gb280 hg w70 hbox hb
                    have BK280 := Aside0.mk (hbox)
                    have GW280 := gw hg HB
                    have GE280 := gw hg HB
                    replace HB := hbS HB hb
                    have NB248_280 := nbl hg BK248
                    have NB280_248 := nbg hg BK248
                    replace BK248 := bkB BK248 hb
                    have NB249_280 := nbl hg BK249
                    have NB280_249 := nbg hg BK249
                    replace BK249 := bkB BK249 hb
                    clear hb hbox hg
                    refine hK.out _ _ ⟨(blk_cell BK249.out 0).trans rfl, (blk_cell BK249.out 1).trans rfl, (blk_cell BK249.out 2).trans rfl, (blk_cell BK249.out 3).trans rfl, (blk_cell BK249.out 4).trans rfl, (blk_cell BK249.out 5).trans rfl, ((HB.out.cell (World.block_lt_of_cell? w _ hw272_0)).trans hw272_0), ((HB.out.cell (World.block_lt_of_cell? w _ hw272_1)).trans hw272_1), ((HB.out.cell (World.block_lt_of_cell? w _ hw272_2)).trans hw272_2), ((HB.out.cell (World.block_lt_of_cell? w _ hw272_3)).trans hw272_3), ((HB.out.cell (World.block_lt_of_cell? w _ hw272_4)).trans hw272_4)⟩ (fun hHeld => ?_)
                    clear hK K
                    refine nrm (some 14) ?_
                    exact npu (hCont (gb280) _ ⟨hHeld, (bk BK248), (bk BK249), (bk BK280), GW280.out, GE280.out, NB248_280.out, NB280_248.out, NB249_280.out, NB280_249.out, (hbx HB)⟩)
                   ·skip
                    refine boxS 14 #[.string (⟨#[]⟩ : ByteArray), .string (⟨#[]⟩ : ByteArray), .bool false, .string (⟨#[]⟩ : ByteArray), .int .i64 0, .int .i64 0] 28 ?_
                    intro gb280 hg w69 hbox hb
                    have BK280 := Aside0.mk (hbox)
                    have GW280 := gw hg HB
                    have GE280 := gw hg HB
                    replace HB := hbS HB hb
                    have NB248_280 := nbl hg BK248
                    have NB280_248 := nbg hg BK248
                    replace BK248 := bkB BK248 hb
                    have NB249_280 := nbl hg BK249
                    have NB280_249 := nbg hg BK249
                    replace BK249 := bkB BK249 hb
                    clear hb hbox hg
                    refine hK.out _ _ ⟨(blk_cell BK249.out 0).trans rfl, (blk_cell BK249.out 1).trans rfl, (blk_cell BK249.out 2).trans rfl, (blk_cell BK249.out 3).trans rfl, (blk_cell BK249.out 4).trans rfl, (blk_cell BK249.out 5).trans rfl, ((HB.out.cell (World.block_lt_of_cell? w _ hw272_0)).trans hw272_0), ((HB.out.cell (World.block_lt_of_cell? w _ hw272_1)).trans hw272_1), ((HB.out.cell (World.block_lt_of_cell? w _ hw272_2)).trans hw272_2), ((HB.out.cell (World.block_lt_of_cell? w _ hw272_3)).trans hw272_3), ((HB.out.cell (World.block_lt_of_cell? w _ hw272_4)).trans hw272_4)⟩ (fun hHeld => ?_)
                    clear hK K
                    refine nrm (some 14) ?_
                    refine one_ (i := 6) (N := some 99) #[true, true, true, true, true, true, true, false, false, false, true, false, false] rfl rfl (one_of HT_.out (by kernel_rfl)) (by decide) (fun K hK => ?_)
                    refine goes_ Try.func14 (by kernel_rfl) rfl #[.agg #[.string x250000_24, .string x250001_24, .bool x250002_24, .string x250003_24, .int .i64 x250004_24, .int .i64 x250005_24], .agg #[.int .i64 ((rd_T36 l1 x45_2).f0), .int .i64 ((rd_T36 l1 x45_2).f1), .int .i64 ((rd_T36 l1 x45_2).f2), .string ((rd_T36 l1 x45_2).f3), .slice A272_4 ((rd_T36 l1 x45_2).f4).length c272_4], .int .i64 1, .int .i64 x9_21] (by rfl) rfl rfl sma ?_
                    with_reducible refine (install_Take.calls kj56 x250000_24 x250001_24 x250002_24 x250003_24 x250004_24 x250005_24 ((rd_T36 l1 x45_2).f0) ((rd_T36 l1 x45_2).f1) ((rd_T36 l1 x45_2).f2) ((rd_T36 l1 x45_2).f3) _ _ ((rd_T36 l1 x45_2).f4) 1 x9_21 t273 t274 t275 t276 t277 t278 t279 _ ?side1 ?side2 A66.out).mono ?_
                    (case side1 => repeat (first | exact (Kd.C_below HR272_4.out HB.out) | (with_reducible refine Kd.C_alloc ?_ _) | (with_reducible refine Kd.C_drewN ?_ _) | (with_reducible refine Kd.C_drew ?_)))
                    (case side2 => exact HC272_4.out)
                    rintro e w70 ⟨rfl, hb⟩
                    refine ⟨_, rfl, ?_⟩
                    replace BK248 := bkB BK248 hb
                    replace BK249 := bkB BK249 hb
                    replace BK280 := bkB BK280 hb
                    replace HB := hbS HB hb
                    (try clear hb)
                    refine hK.out _ _ ⟨(blk_cell BK249.out 0).trans rfl, (blk_cell BK249.out 1).trans rfl, (blk_cell BK249.out 2).trans rfl, (blk_cell BK249.out 3).trans rfl, (blk_cell BK249.out 4).trans rfl, (blk_cell BK249.out 5).trans rfl, ((HB.out.cell (World.block_lt_of_cell? w _ hw272_0)).trans hw272_0), ((HB.out.cell (World.block_lt_of_cell? w _ hw272_1)).trans hw272_1), ((HB.out.cell (World.block_lt_of_cell? w _ hw272_2)).trans hw272_2), ((HB.out.cell (World.block_lt_of_cell? w _ hw272_3)).trans hw272_3), ((HB.out.cell (World.block_lt_of_cell? w _ hw272_4)).trans hw272_4)⟩ (fun hHeld => ?_)
                    clear hK K
                    refine nrm (some 99) ?_
                    refine pur 7 (some 92) #[true, true, true, true, true, true, true, true, false, false, true, false, false] HT_ ?_
                    refine pur 8 (some 100) #[true, true, true, true, true, true, true, true, true, false, true, false, false] HT_ ?_
                    refine pur 9 (some 101) #[true, true, true, true, true, true, true, true, true, true, true, false, false] HT_ ?_
                    exact npu (hCont (gb280) _ ⟨hHeld, (bk BK248), (bk BK249), (bk BK280), GW280.out, GE280.out, NB248_280.out, NB280_248.out, NB249_280.out, NB280_249.out, (hbx HB)⟩)
                  rintro gb280 w71 ⟨hS_, h0_, h1_, h2_, h3_, h4_, h5_, h6_, h7_, h8_, h9_⟩
                  have n0_ : Aside0 (w71.heap[gb248]? = some (mobj x249000_24)) := ⟨h0_⟩
                  have n1_ : Aside0 (w71.heap[gb249]? = some (.cells #[.string x250000_24, .string x250001_24, .bool x250002_24, .string x250003_24, .int .i64 x250004_24, .int .i64 x250005_24] 28 (0, 0))) := ⟨h1_⟩
                  have n2_ : Aside0 (w71.heap[gb280]? = some (.cells #[.string (⟨#[]⟩ : ByteArray), .string (⟨#[]⟩ : ByteArray), .bool false, .string (⟨#[]⟩ : ByteArray), .int .i64 0, .int .i64 0] 28 (0, 0))) := ⟨h2_⟩
                  have n3_ : Aside0 (w.heap.size ≤ gb280) := ⟨h3_⟩
                  have n4_ : Aside0 (w.heap.size ≤ gb280) := ⟨h4_⟩
                  have n5_ : Aside0 (gb248 ≠ gb280) := ⟨h5_⟩
                  have n6_ : Aside0 (gb280 ≠ gb248) := ⟨h6_⟩
                  have n7_ : Aside0 (gb249 ≠ gb280) := ⟨h7_⟩
                  have n8_ : Aside0 (gb280 ≠ gb249) := ⟨h8_⟩
                  have n9_ : Aside0 (Below w.heap.size w w71) := ⟨h9_⟩
                  clear BK248
                  clear BK249
                  clear HB
                  clear h0_ h1_ h2_ h3_ h4_ h5_ h6_ h7_ h8_ h9_
                  have BK248 := n0_
                  have BK249 := n1_
                  have BK280 := n2_
                  have GW280 := n3_
                  have GE280 := n4_
                  have NB248_280 := n5_
                  have NB280_248 := n6_
                  have NB249_280 := n7_
                  have NB280_249 := n8_
                  have HB := n9_
                  clear n0_ n1_ n2_ n3_ n4_ n5_ n6_ n7_ n8_ n9_
                  have hHeld : w71.cell? ⟨gb249, 0, none⟩ = some (.string x250000_24) ∧ w71.cell? ⟨gb249, 1, none⟩ = some (.string x250001_24) ∧ w71.cell? ⟨gb249, 2, none⟩ = some (.bool x250002_24) ∧ w71.cell? ⟨gb249, 3, none⟩ = some (.string x250003_24) ∧ w71.cell? ⟨gb249, 4, none⟩ = some (.int .i64 x250004_24) ∧ w71.cell? ⟨gb249, 5, none⟩ = some (.int .i64 x250005_24) ∧ w71.cell? (ad272.add ((x45_2).toNat * 5)) = some (.int .i64 ((rd_T36 l1 x45_2).f0)) ∧ w71.cell? ⟨(ad272.add ((x45_2).toNat * 5)).block, (ad272.add ((x45_2).toNat * 5)).off + 1, none⟩ = some (.int .i64 ((rd_T36 l1 x45_2).f1)) ∧ w71.cell? ⟨(ad272.add ((x45_2).toNat * 5)).block, (ad272.add ((x45_2).toNat * 5)).off + 2, none⟩ = some (.int .i64 ((rd_T36 l1 x45_2).f2)) ∧ w71.cell? ⟨(ad272.add ((x45_2).toNat * 5)).block, (ad272.add ((x45_2).toNat * 5)).off + 3, none⟩ = some (.string ((rd_T36 l1 x45_2).f3)) ∧ w71.cell? ⟨(ad272.add ((x45_2).toNat * 5)).block, (ad272.add ((x45_2).toNat * 5)).off + 4, none⟩ = some (.slice A272_4 ((rd_T36 l1 x45_2).f4).length c272_4) := hS_
                  refine norm_ (a' := ?_) ?_ ?_
                  rotate_left
                  ·simp only [putAll, Act.put, List.setIfInBounds_toArray, List.set_cons_zero, List.set_cons_succ]
                   rfl
                  refine one_ (i := 11) (N := none) #[true, true, true, true, true, true, true, true, true, true, true, true, false] rfl rfl (one_of HT_.out (by kernel_rfl)) (by decide) (fun K hK => ?_)
                  have hs72 : w71.cell? ⟨gb280, 0, none⟩ = some (.string (⟨#[]⟩ : ByteArray)) := (blk_cell BK280.out 0).trans rfl
                  have hfs72 := blk_frozen BK280.out 0
                  have hns72_0 := NB248_280.out
                  have hns72_1 := NB249_280.out
                  have hms72_0 := NB280_248.out
                  have hms72_1 := NB280_249.out
                  have hs73 : w71.cell? ⟨gb280, 1, none⟩ = some (.string (⟨#[]⟩ : ByteArray)) := (blk_cell BK280.out 1).trans rfl
                  have hfs73 := blk_frozen BK280.out 1
                  have hns73_0 := NB248_280.out
                  have hns73_1 := NB249_280.out
                  have hms73_0 := NB280_248.out
                  have hms73_1 := NB280_249.out
                  have hs74 : w71.cell? ⟨gb280, 2, none⟩ = some (.bool false) := (blk_cell BK280.out 2).trans rfl
                  have hfs74 := blk_frozen BK280.out 2
                  have hns74_0 := NB248_280.out
                  have hns74_1 := NB249_280.out
                  have hms74_0 := NB280_248.out
                  have hms74_1 := NB280_249.out
                  have hs75 : w71.cell? ⟨gb280, 3, none⟩ = some (.string (⟨#[]⟩ : ByteArray)) := (blk_cell BK280.out 3).trans rfl
                  have hfs75 := blk_frozen BK280.out 3
                  have hns75_0 := NB248_280.out
                  have hns75_1 := NB249_280.out
                  have hms75_0 := NB280_248.out
                  have hms75_1 := NB280_249.out
                  have hs76 : w71.cell? ⟨gb280, 4, none⟩ = some (.int .i64 0) := (blk_cell BK280.out 4).trans rfl
                  have hfs76 := blk_frozen BK280.out 4
                  have hns76_0 := NB248_280.out
                  have hns76_1 := NB249_280.out
                  have hms76_0 := NB280_248.out
                  have hms76_1 := NB280_249.out
                  have hs77 : w71.cell? ⟨gb280, 5, none⟩ = some (.int .i64 0) := (blk_cell BK280.out 5).trans rfl
                  have hfs77 := blk_frozen BK280.out 5
                  have hns77_0 := NB248_280.out
                  have hns77_1 := NB249_280.out
                  have hms77_0 := NB280_248.out
                  have hms77_1 := NB280_249.out
                  refine skip_ (w1 := ?_) (by rfl) rfl ?_ ?_
                  rotate_left
                  ·go_simp
                   rfl
                  refine hK.out _ _ ⟨((cell_far (p := ⟨gb280, _, none⟩) NB249_280.out _).trans (((cell_far (p := ⟨gb280, _, none⟩) NB249_280.out _).trans (((cell_far (p := ⟨gb280, _, none⟩) NB249_280.out _).trans (((cell_far (p := ⟨gb280, _, none⟩) NB249_280.out _).trans (((cell_far (p := ⟨gb280, _, none⟩) NB249_280.out _).trans (((cell_far (p := ⟨gb280, _, none⟩) NB249_280.out _).trans (hHeld.1)))))))))))), ((cell_far (p := ⟨gb280, _, none⟩) NB249_280.out _).trans (((cell_far (p := ⟨gb280, _, none⟩) NB249_280.out _).trans (((cell_far (p := ⟨gb280, _, none⟩) NB249_280.out _).trans (((cell_far (p := ⟨gb280, _, none⟩) NB249_280.out _).trans (((cell_far (p := ⟨gb280, _, none⟩) NB249_280.out _).trans (((cell_far (p := ⟨gb280, _, none⟩) NB249_280.out _).trans (hHeld.2.1)))))))))))), ((cell_far (p := ⟨gb280, _, none⟩) NB249_280.out _).trans (((cell_far (p := ⟨gb280, _, none⟩) NB249_280.out _).trans (((cell_far (p := ⟨gb280, _, none⟩) NB249_280.out _).trans (((cell_far (p := ⟨gb280, _, none⟩) NB249_280.out _).trans (((cell_far (p := ⟨gb280, _, none⟩) NB249_280.out _).trans (((cell_far (p := ⟨gb280, _, none⟩) NB249_280.out _).trans (hHeld.2.2.1)))))))))))), ((cell_far (p := ⟨gb280, _, none⟩) NB249_280.out _).trans (((cell_far (p := ⟨gb280, _, none⟩) NB249_280.out _).trans (((cell_far (p := ⟨gb280, _, none⟩) NB249_280.out _).trans (((cell_far (p := ⟨gb280, _, none⟩) NB249_280.out _).trans (((cell_far (p := ⟨gb280, _, none⟩) NB249_280.out _).trans (((cell_far (p := ⟨gb280, _, none⟩) NB249_280.out _).trans (hHeld.2.2.2.1)))))))))))), ((cell_far (p := ⟨gb280, _, none⟩) NB249_280.out _).trans (((cell_far (p := ⟨gb280, _, none⟩) NB249_280.out _).trans (((cell_far (p := ⟨gb280, _, none⟩) NB249_280.out _).trans (((cell_far (p := ⟨gb280, _, none⟩) NB249_280.out _).trans (((cell_far (p := ⟨gb280, _, none⟩) NB249_280.out _).trans (((cell_far (p := ⟨gb280, _, none⟩) NB249_280.out _).trans (hHeld.2.2.2.2.1)))))))))))), ((cell_far (p := ⟨gb280, _, none⟩) NB249_280.out _).trans (((cell_far (p := ⟨gb280, _, none⟩) NB249_280.out _).trans (((cell_far (p := ⟨gb280, _, none⟩) NB249_280.out _).trans (((cell_far (p := ⟨gb280, _, none⟩) NB249_280.out _).trans (((cell_far (p := ⟨gb280, _, none⟩) NB249_280.out _).trans (((cell_far (p := ⟨gb280, _, none⟩) NB249_280.out _).trans (hHeld.2.2.2.2.2.1)))))))))))), ((cell_far (p := ⟨gb280, _, none⟩) (by first | exact Nat.ne_of_lt (Nat.lt_of_lt_of_le (by have := World.block_lt_of_cell? _ _ hw272_0; first | rwa [add_block] at this | exact this) GW280.out) | (rw [add_block]; exact Nat.ne_of_lt (Nat.lt_of_lt_of_le (by have := World.block_lt_of_cell? _ _ hw272_0; first | rwa [add_block] at this | exact this) GW280.out)) | (show (Addr.add _ _).block ≠ _; rw [add_block]; exact Nat.ne_of_lt (Nat.lt_of_lt_of_le (by have := World.block_lt_of_cell? _ _ hw272_0; first | rwa [add_block] at this | exact this) GW280.out)) | (dsimp only; exact Nat.ne_of_lt (Nat.lt_of_lt_of_le (by have := World.block_lt_of_cell? _ _ hw272_0; first | rwa [add_block] at this | exact this) GW280.out))) _).trans (((cell_far (p := ⟨gb280, _, none⟩) (by first | exact Nat.ne_of_lt (Nat.lt_of_lt_of_le (by have := World.block_lt_of_cell? _ _ hw272_0; first | rwa [add_block] at this | exact this) GW280.out) | (rw [add_block]; exact Nat.ne_of_lt (Nat.lt_of_lt_of_le (by have := World.block_lt_of_cell? _ _ hw272_0; first | rwa [add_block] at this | exact this) GW280.out)) | (show (Addr.add _ _).block ≠ _; rw [add_block]; exact Nat.ne_of_lt (Nat.lt_of_lt_of_le (by have := World.block_lt_of_cell? _ _ hw272_0; first | rwa [add_block] at this | exact this) GW280.out)) | (dsimp only; exact Nat.ne_of_lt (Nat.lt_of_lt_of_le (by have := World.block_lt_of_cell? _ _ hw272_0; first | rwa [add_block] at this | exact this) GW280.out))) _).trans (((cell_far (p := ⟨gb280, _, none⟩) (by first | exact Nat.ne_of_lt (Nat.lt_of_lt_of_le (by have := World.block_lt_of_cell? _ _ hw272_0; first | rwa [add_block] at this | exact this) GW280.out) | (rw [add_block]; exact Nat.ne_of_lt (Nat.lt_of_lt_of_le (by have := World.block_lt_of_cell? _ _ hw272_0; first | rwa [add_block] at this | exact this) GW280.out)) | (show (Addr.add _ _).block ≠ _; rw [add_block]; exact Nat.ne_of_lt (Nat.lt_of_lt_of_le (by have := World.block_lt_of_cell? _ _ hw272_0; first | rwa [add_block] at this | exact this) GW280.out)) | (dsimp only; exact Nat.ne_of_lt (Nat.lt_of_lt_of_le (by have := World.block_lt_of_cell? _ _ hw272_0; first | rwa [add_block] at this | exact this) GW280.out))) _).trans (((cell_far (p := ⟨gb280, _, none⟩) (by first | exact Nat.ne_of_lt (Nat.lt_of_lt_of_le (by have := World.block_lt_of_cell? _ _ hw272_0; first | rwa [add_block] at this | exact this) GW280.out) | (rw [add_block]; exact Nat.ne_of_lt (Nat.lt_of_lt_of_le (by have := World.block_lt_of_cell? _ _ hw272_0; first | rwa [add_block] at this | exact this) GW280.out)) | (show (Addr.add _ _).block ≠ _; rw [add_block]; exact Nat.ne_of_lt (Nat.lt_of_lt_of_le (by have := World.block_lt_of_cell? _ _ hw272_0; first | rwa [add_block] at this | exact this) GW280.out)) | (dsimp only; exact Nat.ne_of_lt (Nat.lt_of_lt_of_le (by have := World.block_lt_of_cell? _ _ hw272_0; first | rwa [add_block] at this | exact this) GW280.out))) _).trans (((cell_far (p := ⟨gb280, _, none⟩) (by first | exact Nat.ne_of_lt (Nat.lt_of_lt_of_le (by have := World.block_lt_of_cell? _ _ hw272_0; first | rwa [add_block] at this | exact this) GW280.out) | (rw [add_block]; exact Nat.ne_of_lt (Nat.lt_of_lt_of_le (by have := World.block_lt_of_cell? _ _ hw272_0; first | rwa [add_block] at this | exact this) GW280.out)) | (show (Addr.add _ _).block ≠ _; rw [add_block]; exact Nat.ne_of_lt (Nat.lt_of_lt_of_le (by have := World.block_lt_of_cell? _ _ hw272_0; first | rwa [add_block] at this | exact this) GW280.out)) | (dsimp only; exact Nat.ne_of_lt (Nat.lt_of_lt_of_le (by have := World.block_lt_of_cell? _ _ hw272_0; first | rwa [add_block] at this | exact this) GW280.out))) _).trans (((cell_far (p := ⟨gb280, _, none⟩) (by first | exact Nat.ne_of_lt (Nat.lt_of_lt_of_le (by have := World.block_lt_of_cell? _ _ hw272_0; first | rwa [add_block] at this | exact this) GW280.out) | (rw [add_block]; exact Nat.ne_of_lt (Nat.lt_of_lt_of_le (by have := World.block_lt_of_cell? _ _ hw272_0; first | rwa [add_block] at this | exact this) GW280.out)) | (show (Addr.add _ _).block ≠ _; rw [add_block]; exact Nat.ne_of_lt (Nat.lt_of_lt_of_le (by have := World.block_lt_of_cell? _ _ hw272_0; first | rwa [add_block] at this | exact this) GW280.out)) | (dsimp only; exact Nat.ne_of_lt (Nat.lt_of_lt_of_le (by have := World.block_lt_of_cell? _ _ hw272_0; first | rwa [add_block] at this | exact this) GW280.out))) _).trans (hHeld.2.2.2.2.2.2.1)))))))))))), ((cell_far (p := ⟨gb280, _, none⟩) (by first | exact Nat.ne_of_lt (Nat.lt_of_lt_of_le (by have := World.block_lt_of_cell? _ _ hw272_1; first | rwa [add_block] at this | exact this) GW280.out) | (rw [add_block]; exact Nat.ne_of_lt (Nat.lt_of_lt_of_le (by have := World.block_lt_of_cell? _ _ hw272_1; first | rwa [add_block] at this | exact this) GW280.out)) | (show (Addr.add _ _).block ≠ _; rw [add_block]; exact Nat.ne_of_lt (Nat.lt_of_lt_of_le (by have := World.block_lt_of_cell? _ _ hw272_1; first | rwa [add_block] at this | exact this) GW280.out)) | (dsimp only; exact Nat.ne_of_lt (Nat.lt_of_lt_of_le (by have := World.block_lt_of_cell? _ _ hw272_1; first | rwa [add_block] at this | exact this) GW280.out))) _).trans (((cell_far (p := ⟨gb280, _, none⟩) (by first | exact Nat.ne_of_lt (Nat.lt_of_lt_of_le (by have := World.block_lt_of_cell? _ _ hw272_1; first | rwa [add_block] at this | exact this) GW280.out) | (rw [add_block]; exact Nat.ne_of_lt (Nat.lt_of_lt_of_le (by have := World.block_lt_of_cell? _ _ hw272_1; first | rwa [add_block] at this | exact this) GW280.out)) | (show (Addr.add _ _).block ≠ _; rw [add_block]; exact Nat.ne_of_lt (Nat.lt_of_lt_of_le (by have := World.block_lt_of_cell? _ _ hw272_1; first | rwa [add_block] at this | exact this) GW280.out)) | (dsimp only; exact Nat.ne_of_lt (Nat.lt_of_lt_of_le (by have := World.block_lt_of_cell? _ _ hw272_1; first | rwa [add_block] at this | exact this) GW280.out))) _).trans (((cell_far (p := ⟨gb280, _, none⟩) (by first | exact Nat.ne_of_lt (Nat.lt_of_lt_of_le (by have := World.block_lt_of_cell? _ _ hw272_1; first | rwa [add_block] at this | exact this) GW280.out) | (rw [add_block]; exact Nat.ne_of_lt (Nat.lt_of_lt_of_le (by have := World.block_lt_of_cell? _ _ hw272_1; first | rwa [add_block] at this | exact this) GW280.out)) | (show (Addr.add _ _).block ≠ _; rw [add_block]; exact Nat.ne_of_lt (Nat.lt_of_lt_of_le (by have := World.block_lt_of_cell? _ _ hw272_1; first | rwa [add_block] at this | exact this) GW280.out)) | (dsimp only; exact Nat.ne_of_lt (Nat.lt_of_lt_of_le (by have := World.block_lt_of_cell? _ _ hw272_1; first | rwa [add_block] at this | exact this) GW280.out))) _).trans (((cell_far (p := ⟨gb280, _, none⟩) (by first | exact Nat.ne_of_lt (Nat.lt_of_lt_of_le (by have := World.block_lt_of_cell? _ _ hw272_1; first | rwa [add_block] at this | exact this) GW280.out) | (rw [add_block]; exact Nat.ne_of_lt (Nat.lt_of_lt_of_le (by have := World.block_lt_of_cell? _ _ hw272_1; first | rwa [add_block] at this | exact this) GW280.out)) | (show (Addr.add _ _).block ≠ _; rw [add_block]; exact Nat.ne_of_lt (Nat.lt_of_lt_of_le (by have := World.block_lt_of_cell? _ _ hw272_1; first | rwa [add_block] at this | exact this) GW280.out)) | (dsimp only; exact Nat.ne_of_lt (Nat.lt_of_lt_of_le (by have := World.block_lt_of_cell? _ _ hw272_1; first | rwa [add_block] at this | exact this) GW280.out))) _).trans (((cell_far (p := ⟨gb280, _, none⟩) (by first | exact Nat.ne_of_lt (Nat.lt_of_lt_of_le (by have := World.block_lt_of_cell? _ _ hw272_1; first | rwa [add_block] at this | exact this) GW280.out) | (rw [add_block]; exact Nat.ne_of_lt (Nat.lt_of_lt_of_le (by have := World.block_lt_of_cell? _ _ hw272_1; first | rwa [add_block] at this | exact this) GW280.out)) | (show (Addr.add _ _).block ≠ _; rw [add_block]; exact Nat.ne_of_lt (Nat.lt_of_lt_of_le (by have := World.block_lt_of_cell? _ _ hw272_1; first | rwa [add_block] at this | exact this) GW280.out)) | (dsimp only; exact Nat.ne_of_lt (Nat.lt_of_lt_of_le (by have := World.block_lt_of_cell? _ _ hw272_1; first | rwa [add_block] at this | exact this) GW280.out))) _).trans (((cell_far (p := ⟨gb280, _, none⟩) (by first | exact Nat.ne_of_lt (Nat.lt_of_lt_of_le (by have := World.block_lt_of_cell? _ _ hw272_1; first | rwa [add_block] at this | exact this) GW280.out) | (rw [add_block]; exact Nat.ne_of_lt (Nat.lt_of_lt_of_le (by have := World.block_lt_of_cell? _ _ hw272_1; first | rwa [add_block] at this | exact this) GW280.out)) | (show (Addr.add _ _).block ≠ _; rw [add_block]; exact Nat.ne_of_lt (Nat.lt_of_lt_of_le (by have := World.block_lt_of_cell? _ _ hw272_1; first | rwa [add_block] at this | exact this) GW280.out)) | (dsimp only; exact Nat.ne_of_lt (Nat.lt_of_lt_of_le (by have := World.block_lt_of_cell? _ _ hw272_1; first | rwa [add_block] at this | exact this) GW280.out))) _).trans (hHeld.2.2.2.2.2.2.2.1)))))))))))), ((cell_far (p := ⟨gb280, _, none⟩) (by first | exact Nat.ne_of_lt (Nat.lt_of_lt_of_le (by have := World.block_lt_of_cell? _ _ hw272_2; first | rwa [add_block] at this | exact this) GW280.out) | (rw [add_block]; exact Nat.ne_of_lt (Nat.lt_of_lt_of_le (by have := World.block_lt_of_cell? _ _ hw272_2; first | rwa [add_block] at this | exact this) GW280.out)) | (show (Addr.add _ _).block ≠ _; rw [add_block]; exact Nat.ne_of_lt (Nat.lt_of_lt_of_le (by have := World.block_lt_of_cell? _ _ hw272_2; first | rwa [add_block] at this | exact this) GW280.out)) | (dsimp only; exact Nat.ne_of_lt (Nat.lt_of_lt_of_le (by have := World.block_lt_of_cell? _ _ hw272_2; first | rwa [add_block] at this | exact this) GW280.out))) _).trans (((cell_far (p := ⟨gb280, _, none⟩) (by first | exact Nat.ne_of_lt (Nat.lt_of_lt_of_le (by have := World.block_lt_of_cell? _ _ hw272_2; first | rwa [add_block] at this | exact this) GW280.out) | (rw [add_block]; exact Nat.ne_of_lt (Nat.lt_of_lt_of_le (by have := World.block_lt_of_cell? _ _ hw272_2; first | rwa [add_block] at this | exact this) GW280.out)) | (show (Addr.add _ _).block ≠ _; rw [add_block]; exact Nat.ne_of_lt (Nat.lt_of_lt_of_le (by have := World.block_lt_of_cell? _ _ hw272_2; first | rwa [add_block] at this | exact this) GW280.out)) | (dsimp only; exact Nat.ne_of_lt (Nat.lt_of_lt_of_le (by have := World.block_lt_of_cell? _ _ hw272_2; first | rwa [add_block] at this | exact this) GW280.out))) _).trans (((cell_far (p := ⟨gb280, _, none⟩) (by first | exact Nat.ne_of_lt (Nat.lt_of_lt_of_le (by have := World.block_lt_of_cell? _ _ hw272_2; first | rwa [add_block] at this | exact this) GW280.out) | (rw [add_block]; exact Nat.ne_of_lt (Nat.lt_of_lt_of_le (by have := World.block_lt_of_cell? _ _ hw272_2; first | rwa [add_block] at this | exact this) GW280.out)) | (show (Addr.add _ _).block ≠ _; rw [add_block]; exact Nat.ne_of_lt (Nat.lt_of_lt_of_le (by have := World.block_lt_of_cell? _ _ hw272_2; first | rwa [add_block] at this | exact this) GW280.out)) | (dsimp only; exact Nat.ne_of_lt (Nat.lt_of_lt_of_le (by have := World.block_lt_of_cell? _ _ hw272_2; first | rwa [add_block] at this | exact this) GW280.out))) _).trans (((cell_far (p := ⟨gb280, _, none⟩) (by first | exact Nat.ne_of_lt (Nat.lt_of_lt_of_le (by have := World.block_lt_of_cell? _ _ hw272_2; first | rwa [add_block] at this | exact this) GW280.out) | (rw [add_block]; exact Nat.ne_of_lt (Nat.lt_of_lt_of_le (by have := World.block_lt_of_cell? _ _ hw272_2; first | rwa [add_block] at this | exact this) GW280.out)) | (show (Addr.add _ _).block ≠ _; rw [add_block]; exact Nat.ne_of_lt (Nat.lt_of_lt_of_le (by have := World.block_lt_of_cell? _ _ hw272_2; first | rwa [add_block] at this | exact this) GW280.out)) | (dsimp only; exact Nat.ne_of_lt (Nat.lt_of_lt_of_le (by have := World.block_lt_of_cell? _ _ hw272_2; first | rwa [add_block] at this | exact this) GW280.out))) _).trans (((cell_far (p := ⟨gb280, _, none⟩) (by first | exact Nat.ne_of_lt (Nat.lt_of_lt_of_le (by have := World.block_lt_of_cell? _ _ hw272_2; first | rwa [add_block] at this | exact this) GW280.out) | (rw [add_block]; exact Nat.ne_of_lt (Nat.lt_of_lt_of_le (by have := World.block_lt_of_cell? _ _ hw272_2; first | rwa [add_block] at this | exact this) GW280.out)) | (show (Addr.add _ _).block ≠ _; rw [add_block]; exact Nat.ne_of_lt (Nat.lt_of_lt_of_le (by have := World.block_lt_of_cell? _ _ hw272_2; first | rwa [add_block] at this | exact this) GW280.out)) | (dsimp only; exact Nat.ne_of_lt (Nat.lt_of_lt_of_le (by have := World.block_lt_of_cell? _ _ hw272_2; first | rwa [add_block] at this | exact this) GW280.out))) _).trans (((cell_far (p := ⟨gb280, _, none⟩) (by first | exact Nat.ne_of_lt (Nat.lt_of_lt_of_le (by have := World.block_lt_of_cell? _ _ hw272_2; first | rwa [add_block] at this | exact this) GW280.out) | (rw [add_block]; exact Nat.ne_of_lt (Nat.lt_of_lt_of_le (by have := World.block_lt_of_cell? _ _ hw272_2; first | rwa [add_block] at this | exact this) GW280.out)) | (show (Addr.add _ _).block ≠ _; rw [add_block]; exact Nat.ne_of_lt (Nat.lt_of_lt_of_le (by have := World.block_lt_of_cell? _ _ hw272_2; first | rwa [add_block] at this | exact this) GW280.out)) | (dsimp only; exact Nat.ne_of_lt (Nat.lt_of_lt_of_le (by have := World.block_lt_of_cell? _ _ hw272_2; first | rwa [add_block] at this | exact this) GW280.out))) _).trans (hHeld.2.2.2.2.2.2.2.2.1)))))))))))), ((cell_far (p := ⟨gb280, _, none⟩) (by first | exact Nat.ne_of_lt (Nat.lt_of_lt_of_le (by have := World.block_lt_of_cell? _ _ hw272_3; first | rwa [add_block] at this | exact this) GW280.out) | (rw [add_block]; exact Nat.ne_of_lt (Nat.lt_of_lt_of_le (by have := World.block_lt_of_cell? _ _ hw272_3; first | rwa [add_block] at this | exact this) GW280.out)) | (show (Addr.add _ _).block ≠ _; rw [add_block]; exact Nat.ne_of_lt (Nat.lt_of_lt_of_le (by have := World.block_lt_of_cell? _ _ hw272_3; first | rwa [add_block] at this | exact this) GW280.out)) | (dsimp only; exact Nat.ne_of_lt (Nat.lt_of_lt_of_le (by have := World.block_lt_of_cell? _ _ hw272_3; first | rwa [add_block] at this | exact this) GW280.out))) _).trans (((cell_far (p := ⟨gb280, _, none⟩) (by first | exact Nat.ne_of_lt (Nat.lt_of_lt_of_le (by have := World.block_lt_of_cell? _ _ hw272_3; first | rwa [add_block] at this | exact this) GW280.out) | (rw [add_block]; exact Nat.ne_of_lt (Nat.lt_of_lt_of_le (by have := World.block_lt_of_cell? _ _ hw272_3; first | rwa [add_block] at this | exact this) GW280.out)) | (show (Addr.add _ _).block ≠ _; rw [add_block]; exact Nat.ne_of_lt (Nat.lt_of_lt_of_le (by have := World.block_lt_of_cell? _ _ hw272_3; first | rwa [add_block] at this | exact this) GW280.out)) | (dsimp only; exact Nat.ne_of_lt (Nat.lt_of_lt_of_le (by have := World.block_lt_of_cell? _ _ hw272_3; first | rwa [add_block] at this | exact this) GW280.out))) _).trans (((cell_far (p := ⟨gb280, _, none⟩) (by first | exact Nat.ne_of_lt (Nat.lt_of_lt_of_le (by have := World.block_lt_of_cell? _ _ hw272_3; first | rwa [add_block] at this | exact this) GW280.out) | (rw [add_block]; exact Nat.ne_of_lt (Nat.lt_of_lt_of_le (by have := World.block_lt_of_cell? _ _ hw272_3; first | rwa [add_block] at this | exact this) GW280.out)) | (show (Addr.add _ _).block ≠ _; rw [add_block]; exact Nat.ne_of_lt (Nat.lt_of_lt_of_le (by have := World.block_lt_of_cell? _ _ hw272_3; first | rwa [add_block] at this | exact this) GW280.out)) | (dsimp only; exact Nat.ne_of_lt (Nat.lt_of_lt_of_le (by have := World.block_lt_of_cell? _ _ hw272_3; first | rwa [add_block] at this | exact this) GW280.out))) _).trans (((cell_far (p := ⟨gb280, _, none⟩) (by first | exact Nat.ne_of_lt (Nat.lt_of_lt_of_le (by have := World.block_lt_of_cell? _ _ hw272_3; first | rwa [add_block] at this | exact this) GW280.out) | (rw [add_block]; exact Nat.ne_of_lt (Nat.lt_of_lt_of_le (by have := World.block_lt_of_cell? _ _ hw272_3; first | rwa [add_block] at this | exact this) GW280.out)) | (show (Addr.add _ _).block ≠ _; rw [add_block]; exact Nat.ne_of_lt (Nat.lt_of_lt_of_le (by have := World.block_lt_of_cell? _ _ hw272_3; first | rwa [add_block] at this | exact this) GW280.out)) | (dsimp only; exact Nat.ne_of_lt (Nat.lt_of_lt_of_le (by have := World.block_lt_of_cell? _ _ hw272_3; first | rwa [add_block] at this | exact this) GW280.out))) _).trans (((cell_far (p := ⟨gb280, _, none⟩) (by first | exact Nat.ne_of_lt (Nat.lt_of_lt_of_le (by have := World.block_lt_of_cell? _ _ hw272_3; first | rwa [add_block] at this | exact this) GW280.out) | (rw [add_block]; exact Nat.ne_of_lt (Nat.lt_of_lt_of_le (by have := World.block_lt_of_cell? _ _ hw272_3; first | rwa [add_block] at this | exact this) GW280.out)) | (show (Addr.add _ _).block ≠ _; rw [add_block]; exact Nat.ne_of_lt (Nat.lt_of_lt_of_le (by have := World.block_lt_of_cell? _ _ hw272_3; first | rwa [add_block] at this | exact this) GW280.out)) | (dsimp only; exact Nat.ne_of_lt (Nat.lt_of_lt_of_le (by have := World.block_lt_of_cell? _ _ hw272_3; first | rwa [add_block] at this | exact this) GW280.out))) _).trans (((cell_far (p := ⟨gb280, _, none⟩) (by first | exact Nat.ne_of_lt (Nat.lt_of_lt_of_le (by have := World.block_lt_of_cell? _ _ hw272_3; first | rwa [add_block] at this | exact this) GW280.out) | (rw [add_block]; exact Nat.ne_of_lt (Nat.lt_of_lt_of_le (by have := World.block_lt_of_cell? _ _ hw272_3; first | rwa [add_block] at this | exact this) GW280.out)) | (show (Addr.add _ _).block ≠ _; rw [add_block]; exact Nat.ne_of_lt (Nat.lt_of_lt_of_le (by have := World.block_lt_of_cell? _ _ hw272_3; first | rwa [add_block] at this | exact this) GW280.out)) | (dsimp only; exact Nat.ne_of_lt (Nat.lt_of_lt_of_le (by have := World.block_lt_of_cell? _ _ hw272_3; first | rwa [add_block] at this | exact this) GW280.out))) _).trans (hHeld.2.2.2.2.2.2.2.2.2.1)))))))))))), ((cell_far (p := ⟨gb280, _, none⟩) (by first | exact Nat.ne_of_lt (Nat.lt_of_lt_of_le (by have := World.block_lt_of_cell? _ _ hw272_4; first | rwa [add_block] at this | exact this) GW280.out) | (rw [add_block]; exact Nat.ne_of_lt (Nat.lt_of_lt_of_le (by have := World.block_lt_of_cell? _ _ hw272_4; first | rwa [add_block] at this | exact this) GW280.out)) | (show (Addr.add _ _).block ≠ _; rw [add_block]; exact Nat.ne_of_lt (Nat.lt_of_lt_of_le (by have := World.block_lt_of_cell? _ _ hw272_4; first | rwa [add_block] at this | exact this) GW280.out)) | (dsimp only; exact Nat.ne_of_lt (Nat.lt_of_lt_of_le (by have := World.block_lt_of_cell? _ _ hw272_4; first | rwa [add_block] at this | exact this) GW280.out))) _).trans (((cell_far (p := ⟨gb280, _, none⟩) (by first | exact Nat.ne_of_lt (Nat.lt_of_lt_of_le (by have := World.block_lt_of_cell? _ _ hw272_4; first | rwa [add_block] at this | exact this) GW280.out) | (rw [add_block]; exact Nat.ne_of_lt (Nat.lt_of_lt_of_le (by have := World.block_lt_of_cell? _ _ hw272_4; first | rwa [add_block] at this | exact this) GW280.out)) | (show (Addr.add _ _).block ≠ _; rw [add_block]; exact Nat.ne_of_lt (Nat.lt_of_lt_of_le (by have := World.block_lt_of_cell? _ _ hw272_4; first | rwa [add_block] at this | exact this) GW280.out)) | (dsimp only; exact Nat.ne_of_lt (Nat.lt_of_lt_of_le (by have := World.block_lt_of_cell? _ _ hw272_4; first | rwa [add_block] at this | exact this) GW280.out))) _).trans (((cell_far (p := ⟨gb280, _, none⟩) (by first | exact Nat.ne_of_lt (Nat.lt_of_lt_of_le (by have := World.block_lt_of_cell? _ _ hw272_4; first | rwa [add_block] at this | exact this) GW280.out) | (rw [add_block]; exact Nat.ne_of_lt (Nat.lt_of_lt_of_le (by have := World.block_lt_of_cell? _ _ hw272_4; first | rwa [add_block] at this | exact this) GW280.out)) | (show (Addr.add _ _).block ≠ _; rw [add_block]; exact Nat.ne_of_lt (Nat.lt_of_lt_of_le (by have := World.block_lt_of_cell? _ _ hw272_4; first | rwa [add_block] at this | exact this) GW280.out)) | (dsimp only; exact Nat.ne_of_lt (Nat.lt_of_lt_of_le (by have := World.block_lt_of_cell? _ _ hw272_4; first | rwa [add_block] at this | exact this) GW280.out))) _).trans (((cell_far (p := ⟨gb280, _, none⟩) (by first | exact Nat.ne_of_lt (Nat.lt_of_lt_of_le (by have := World.block_lt_of_cell? _ _ hw272_4; first | rwa [add_block] at this | exact this) GW280.out) | (rw [add_block]; exact Nat.ne_of_lt (Nat.lt_of_lt_of_le (by have := World.block_lt_of_cell? _ _ hw272_4; first | rwa [add_block] at this | exact this) GW280.out)) | (show (Addr.add _ _).block ≠ _; rw [add_block]; exact Nat.ne_of_lt (Nat.lt_of_lt_of_le (by have := World.block_lt_of_cell? _ _ hw272_4; first | rwa [add_block] at this | exact this) GW280.out)) | (dsimp only; exact Nat.ne_of_lt (Nat.lt_of_lt_of_le (by have := World.block_lt_of_cell? _ _ hw272_4; first | rwa [add_block] at this | exact this) GW280.out))) _).trans (((cell_far (p := ⟨gb280, _, none⟩) (by first | exact Nat.ne_of_lt (Nat.lt_of_lt_of_le (by have := World.block_lt_of_cell? _ _ hw272_4; first | rwa [add_block] at this | exact this) GW280.out) | (rw [add_block]; exact Nat.ne_of_lt (Nat.lt_of_lt_of_le (by have := World.block_lt_of_cell? _ _ hw272_4; first | rwa [add_block] at this | exact this) GW280.out)) | (show (Addr.add _ _).block ≠ _; rw [add_block]; exact Nat.ne_of_lt (Nat.lt_of_lt_of_le (by have := World.block_lt_of_cell? _ _ hw272_4; first | rwa [add_block] at this | exact this) GW280.out)) | (dsimp only; exact Nat.ne_of_lt (Nat.lt_of_lt_of_le (by have := World.block_lt_of_cell? _ _ hw272_4; first | rwa [add_block] at this | exact this) GW280.out))) _).trans (((cell_far (p := ⟨gb280, _, none⟩) (by first | exact Nat.ne_of_lt (Nat.lt_of_lt_of_le (by have := World.block_lt_of_cell? _ _ hw272_4; first | rwa [add_block] at this | exact this) GW280.out) | (rw [add_block]; exact Nat.ne_of_lt (Nat.lt_of_lt_of_le (by have := World.block_lt_of_cell? _ _ hw272_4; first | rwa [add_block] at this | exact this) GW280.out)) | (show (Addr.add _ _).block ≠ _; rw [add_block]; exact Nat.ne_of_lt (Nat.lt_of_lt_of_le (by have := World.block_lt_of_cell? _ _ hw272_4; first | rwa [add_block] at this | exact this) GW280.out)) | (dsimp only; exact Nat.ne_of_lt (Nat.lt_of_lt_of_le (by have := World.block_lt_of_cell? _ _ hw272_4; first | rwa [add_block] at this | exact this) GW280.out))) _).trans (hHeld.2.2.2.2.2.2.2.2.2.2))))))))))))⟩ (fun hHeld => ?_)
                  clear hK K
                  refine pur 12 (some 15) #[true, true, true, true, true, true, true, true, true, true, true, true, true] HT_ ?_
                  refine done_ (done_of HT_.out (by kernel_rfl)) ?_
                  try go_wp2
                  go_meet
                  case rel => exact ⟨_, (x250000_24), (x250001_24), (x250002_24), (x250003_24), (x250004_24), (x250005_24), H', ⟨by have := HJ3.out; have := HK2.out; have := HJ21.out; have := HJ24.out; have := HJ56.out; first | omega | exact Nat.le_refl _⟩, bkmA BK248, bkfA BK249, hbA HB⟩
                 ·rw [if_neg c67] at H
                  have c67b0 : (t279 == 1) = false := beq_eq_false_iff_ne.mpr c67
                  have c67b1 : (t279 != 1) = true := bne_iff_ne.mpr c67
                  have H' := Aside0.mk H
                  clear H
                  try go_wp2
                  replace BK248 := Aside0.mk (blk_drew BK248.out)
                  replace BK249 := Aside0.mk (blk_drew BK249.out)
                  replace HB := Aside0.mk (below_drew1 HB.out)
                  have p272 : 0 ≤ (x45_2 : Int) := pos_
                  have q272 : x45_2 < (l1.length : Int) := pos_
                  obtain ⟨ad272, A272_4, c272_4, e272, hx272_0, hx272_1, hx272_2, hx272_3, hx272_4, hl272_4, hi272_4⟩ := at_T36 HR1.out x45_2 p272 q272
                  have hw272_4 := hx272_4
                  have hw272_3 := hx272_3
                  have hw272_2 := hx272_2
                  have hw272_1 := hx272_1
                  have hw272_0 := hx272_0
                  cases e272
                  replace hx272_0 := (HB.out.cell (World.block_lt_of_cell? w _ hx272_0)).trans hx272_0
                  replace hx272_1 := (HB.out.cell (World.block_lt_of_cell? w _ hx272_1)).trans hx272_1
                  replace hx272_2 := (HB.out.cell (World.block_lt_of_cell? w _ hx272_2)).trans hx272_2
                  replace hx272_3 := (HB.out.cell (World.block_lt_of_cell? w _ hx272_3)).trans hx272_3
                  replace hx272_4 := (HB.out.cell (World.block_lt_of_cell? w _ hx272_4)).trans hx272_4
                  have HR272_4 := Aside0.mk hi272_4
                  have HC272_4 := Aside0.mk hl272_4
                  clear hi272_4 hl272_4
                  replace p272 := eq_true p272
                  replace q272 := eq_true q272
                  refine start_ (n := 13) (S := fun w' => w'.cell? ⟨gb249, 0, none⟩ = some (.string x250000_24) ∧ w'.cell? ⟨gb249, 1, none⟩ = some (.string x250001_24) ∧ w'.cell? ⟨gb249, 2, none⟩ = some (.bool x250002_24) ∧ w'.cell? ⟨gb249, 3, none⟩ = some (.string x250003_24) ∧ w'.cell? ⟨gb249, 4, none⟩ = some (.int .i64 x250004_24) ∧ w'.cell? ⟨gb249, 5, none⟩ = some (.int .i64 x250005_24) ∧ w'.cell? (ad272.add ((x45_2).toNat * 5)) = some (.int .i64 ((rd_T36 l1 x45_2).f0)) ∧ w'.cell? ⟨(ad272.add ((x45_2).toNat * 5)).block, (ad272.add ((x45_2).toNat * 5)).off + 1, none⟩ = some (.int .i64 ((rd_T36 l1 x45_2).f1)) ∧ w'.cell? ⟨(ad272.add ((x45_2).toNat * 5)).block, (ad272.add ((x45_2).toNat * 5)).off + 2, none⟩ = some (.int .i64 ((rd_T36 l1 x45_2).f2)) ∧ w'.cell? ⟨(ad272.add ((x45_2).toNat * 5)).block, (ad272.add ((x45_2).toNat * 5)).off + 3, none⟩ = some (.string ((rd_T36 l1 x45_2).f3)) ∧ w'.cell? ⟨(ad272.add ((x45_2).toNat * 5)).block, (ad272.add ((x45_2).toNat * 5)).off + 4, none⟩ = some (.slice A272_4 ((rd_T36 l1 x45_2).f4).length c272_4)) (ds := []) #[false, false, false, false, false, false, false, false, false, false, false, false, false] (by kernel_rfl) rfl rfl ⟨(blk_cell BK249.out 0).trans rfl, (blk_cell BK249.out 1).trans rfl, (blk_cell BK249.out 2).trans rfl, (blk_cell BK249.out 3).trans rfl, (blk_cell BK249.out 4).trans rfl, (blk_cell BK249.out 5).trans rfl, ((HB.out.cell (World.block_lt_of_cell? w _ hw272_0)).trans hw272_0), ((HB.out.cell (World.block_lt_of_cell? w _ hw272_1)).trans hw272_1), ((HB.out.cell (World.block_lt_of_cell? w _ hw272_2)).trans hw272_2), ((HB.out.cell (World.block_lt_of_cell? w _ hw272_3)).trans hw272_3), ((HB.out.cell (World.block_lt_of_cell? w _ hw272_4)).trans hw272_4)⟩ (fun hHeld => ?_); refine with_tabW hopmeshlaw49_InstallNothing.tab20 hopmeshlaw49_InstallNothing.bits20 (fun HT_ HW_ => ?_)
                  generalize wc.drew = w78 at BK248 BK249 HB HR272_4 hx272_0 hx272_1 hx272_2 hx272_3 hx272_4 hHeld ⊢
                  refine pur 1 (some 94) #[false, true, false, false, false, false, false, false, false, false, false, false, false] HT_ ?_
                  refine pur 2 (some 95) #[false, true, true, false, false, false, false, false, false, false, false, false, false] HT_ ?_
                  refine pur 3 (some 96) #[false, true, true, true, false, false, false, false, false, false, false, false, false] HT_ ?_
                  refine pur 5 (some 98) #[false, true, true, true, false, true, false, false, false, false, false, false, false] HT_ ?_
                  refine tak 0 (some 93) #[true, true, true, true, false, true, false, false, false, false, false, false, false] HT_ HW_ hHeld rfl (Or.inl ⟨by rfl, by rintro w' ⟨s0, s1, s2, s3, s4, s5, s6, s7, s8, s9, s10⟩; go_simp; with_reducible rfl⟩) ?_
                  refine tak 4 (some 97) #[true, true, true, true, true, true, false, false, false, false, false, false, false] HT_ HW_ hHeld rfl (Or.inl ⟨by rfl, by rintro w' ⟨s0, s1, s2, s3, s4, s5, s6, s7, s8, s9, s10⟩; go_simp; with_reducible rfl⟩) ?_
                  refine join_ (σ := Nat) 2 #[true, true, true, true, true, true, true, true, true, true, true, false, false] (fun s_ => [(99, .tuple #[.agg #[.string t273, .string t274, .bool t275, .string t276, .int .i64 t277, .int .i64 t278], .int .i64 t279]), (14, .pointer (some ⟨s_, 0, none⟩)), (92, .tuple #[.agg #[.string t273, .string t274, .bool t275, .string t276, .int .i64 t277, .int .i64 t278], .int .i64 t279]), (100, .agg #[.string t273, .string t274, .bool t275, .string t276, .int .i64 t277, .int .i64 t278]), (101, .int .i64 t279)]) (fun s_ w' => (w'.cell? ⟨gb249, 0, none⟩ = some (.string x250000_24) ∧ w'.cell? ⟨gb249, 1, none⟩ = some (.string x250001_24) ∧ w'.cell? ⟨gb249, 2, none⟩ = some (.bool x250002_24) ∧ w'.cell? ⟨gb249, 3, none⟩ = some (.string x250003_24) ∧ w'.cell? ⟨gb249, 4, none⟩ = some (.int .i64 x250004_24) ∧ w'.cell? ⟨gb249, 5, none⟩ = some (.int .i64 x250005_24) ∧ w'.cell? (ad272.add ((x45_2).toNat * 5)) = some (.int .i64 ((rd_T36 l1 x45_2).f0)) ∧ w'.cell? ⟨(ad272.add ((x45_2).toNat * 5)).block, (ad272.add ((x45_2).toNat * 5)).off + 1, none⟩ = some (.int .i64 ((rd_T36 l1 x45_2).f1)) ∧ w'.cell? ⟨(ad272.add ((x45_2).toNat * 5)).block, (ad272.add ((x45_2).toNat * 5)).off + 2, none⟩ = some (.int .i64 ((rd_T36 l1 x45_2).f2)) ∧ w'.cell? ⟨(ad272.add ((x45_2).toNat * 5)).block, (ad272.add ((x45_2).toNat * 5)).off + 3, none⟩ = some (.string ((rd_T36 l1 x45_2).f3)) ∧ w'.cell? ⟨(ad272.add ((x45_2).toNat * 5)).block, (ad272.add ((x45_2).toNat * 5)).off + 4, none⟩ = some (.slice A272_4 ((rd_T36 l1 x45_2).f4).length c272_4)) ∧ (w'.heap[gb248]? = some (mobj x249000_24)) ∧ (w'.heap[gb249]? = some (.cells #[.string x250000_24, .string x250001_24, .bool x250002_24, .string x250003_24, .int .i64 x250004_24, .int .i64 x250005_24] 28 (0, 0))) ∧ (w'.heap[s_]? = some (.cells #[.string (⟨#[]⟩ : ByteArray), .string (⟨#[]⟩ : ByteArray), .bool false, .string (⟨#[]⟩ : ByteArray), .int .i64 0, .int .i64 0] 28 (0, 0))) ∧ (w.heap.size ≤ s_) ∧ (w.heap.size ≤ s_) ∧ (gb248 ≠ s_) ∧ (s_ ≠ gb248) ∧ (gb249 ≠ s_) ∧ (s_ ≠ gb249) ∧ (Below w.heap.size w w')) ?_ ?_
                  rotate_left
                  ·intro hCont
                   refine two_ (i := 6) (j := 10) (Ni := some 99) (Nj := some 14) #[true, true, true, true, true, true, true, false, false, false, false, false, false] #[true, true, true, true, true, true, false, false, false, false, true, false, false] rfl rfl rfl rfl (two_of HT_.out (by kernel_rfl)) (by decide) (by decide) (fun K hK => ?_) (fun K hK => ?_)
                   ·skip
                    refine goes_ Try.func14 (by kernel_rfl) rfl #[.agg #[.string x250000_24, .string x250001_24, .bool x250002_24, .string x250003_24, .int .i64 x250004_24, .int .i64 x250005_24], .agg #[.int .i64 ((rd_T36 l1 x45_2).f0), .int .i64 ((rd_T36 l1 x45_2).f1), .int .i64 ((rd_T36 l1 x45_2).f2), .string ((rd_T36 l1 x45_2).f3), .slice A272_4 ((rd_T36 l1 x45_2).f4).length c272_4], .int .i64 1, .int .i64 x9_21] (by rfl) rfl rfl sma ?_
                    with_reducible refine (install_Take.calls kj56 x250000_24 x250001_24 x250002_24 x250003_24 x250004_24 x250005_24 ((rd_T36 l1 x45_2).f0) ((rd_T36 l1 x45_2).f1) ((rd_T36 l1 x45_2).f2) ((rd_T36 l1 x45_2).f3) _ _ ((rd_T36 l1 x45_2).f4) 1 x9_21 t273 t274 t275 t276 t277 t278 t279 _ ?side1 ?side2 A66.out).mono ?_
                    (case side1 => repeat (first | exact (Kd.C_below HR272_4.out HB.out) | (with_reducible refine Kd.C_alloc ?_ _) | (with_reducible refine Kd.C_drewN ?_ _) | (with_reducible refine Kd.C_drew ?_)))
                    (case side2 => exact HC272_4.out)
                    rintro e w79 ⟨rfl, hb⟩
                    refine ⟨_, rfl, ?_⟩
                    replace BK248 := bkB BK248 hb
                    replace BK249 := bkB BK249 hb
                    replace HB := hbS HB hb
                    (try clear hb)
                    refine hK.out _ _ ⟨(blk_cell BK249.out 0).trans rfl, (blk_cell BK249.out 1).trans rfl, (blk_cell BK249.out 2).trans rfl, (blk_cell BK249.out 3).trans rfl, (blk_cell BK249.out 4).trans rfl, (blk_cell BK249.out 5).trans rfl, ((HB.out.cell (World.block_lt_of_cell? w _ hw272_0)).trans hw272_0), ((HB.out.cell (World.block_lt_of_cell? w _ hw272_1)).trans hw272_1), ((HB.out.cell (World.block_lt_of_cell? w _ hw272_2)).trans hw272_2), ((HB.out.cell (World.block_lt_of_cell? w _ hw272_3)).trans hw272_3), ((HB.out.cell (World.block_lt_of_cell? w _ hw272_4)).trans hw272_4)⟩ (fun hHeld => ?_)
                    clear hK K
                    refine nrm (some 99) ?_
                    refine pur 7 (some 92) #[true, true, true, true, true, true, true, true, false, false, false, false, false] HT_ ?_
                    refine pur 8 (some 100) #[true, true, true, true, true, true, true, true, true, false, false, false, false] HT_ ?_
                    refine pur 9 (some 101) #[true, true, true, true, true, true, true, true, true, true, false, false, false] HT_ ?_
                    refine one_ (i := 10) (N := some 14) #[true, true, true, true, true, true, true, true, true, true, true, false, false] rfl rfl (one_of HT_.out (by kernel_rfl)) (by decide) (fun K hK => ?_)
                    refine boxS 14 #[.string (⟨#[]⟩ : ByteArray), .string (⟨#[]⟩ : ByteArray), .bool false, .string (⟨#[]⟩ : ByteArray), .int .i64 0, .int .i64 0] 28 ?_
                    intro gb280 hg w80 hbox hb
                    have BK280 := Aside0.mk (hbox)
                    have GW280 := gw hg HB
                    have GE280 := gw hg HB
                    replace HB := hbS HB hb
                    have NB248_280 := nbl hg BK248
                    have NB280_248 := nbg hg BK248
                    replace BK248 := bkB BK248 hb
                    have NB249_280 := nbl hg BK249
                    have NB280_249 := nbg hg BK249
                    replace BK249 := bkB BK249 hb
                    clear hb hbox hg
                    refine hK.out _ _ ⟨(blk_cell BK249.out 0).trans rfl, (blk_cell BK249.out 1).trans rfl, (blk_cell BK249.out 2).trans rfl, (blk_cell BK249.out 3).trans rfl, (blk_cell BK249.out 4).trans rfl, (blk_cell BK249.out 5).trans rfl, ((HB.out.cell (World.block_lt_of_cell? w _ hw272_0)).trans hw272_0), ((HB.out.cell (World.block_lt_of_cell? w _ hw272_1)).trans hw272_1), ((HB.out.cell (World.block_lt_of_cell? w _ hw272_2)).trans hw272_2), ((HB.out.cell (World.block_lt_of_cell? w _ hw272_3)).trans hw272_3), ((HB.out.cell (World.block_lt_of_cell? w _ hw272_4)).trans hw272_4)⟩ (fun hHeld => ?_)
                    clear hK K
                    refine nrm (some 14) ?_
                    exact npu (hCont (gb280) _ ⟨hHeld, (bk BK248), (bk BK249), (bk BK280), GW280.out, GE280.out, NB248_280.out, NB280_248.out, NB249_280.out, NB280_249.out, (hbx HB)⟩)
                   ·skip
                    refine boxS 14 #[.string (⟨#[]⟩ : ByteArray), .string (⟨#[]⟩ : ByteArray), .bool false, .string (⟨#[]⟩ : ByteArray), .int .i64 0, .int .i64 0] 28 ?_
                    intro gb280 hg w79 hbox hb
                    have BK280 := Aside0.mk (hbox)
                    have GW280 := gw hg HB
                    have GE280 := gw hg HB
                    replace HB := hbS HB hb
                    have NB248_280 := nbl hg BK248
                    have NB280_248 := nbg hg BK248
                    replace BK248 := bkB BK248 hb
                    have NB249_280 := nbl hg BK249
                    have NB280_249 := nbg hg BK249
                    replace BK249 := bkB BK249 hb
                    clear hb hbox hg
                    refine hK.out _ _ ⟨(blk_cell BK249.out 0).trans rfl, (blk_cell BK249.out 1).trans rfl, (blk_cell BK249.out 2).trans rfl, (blk_cell BK249.out 3).trans rfl, (blk_cell BK249.out 4).trans rfl, (blk_cell BK249.out 5).trans rfl, ((HB.out.cell (World.block_lt_of_cell? w _ hw272_0)).trans hw272_0), ((HB.out.cell (World.block_lt_of_cell? w _ hw272_1)).trans hw272_1), ((HB.out.cell (World.block_lt_of_cell? w _ hw272_2)).trans hw272_2), ((HB.out.cell (World.block_lt_of_cell? w _ hw272_3)).trans hw272_3), ((HB.out.cell (World.block_lt_of_cell? w _ hw272_4)).trans hw272_4)⟩ (fun hHeld => ?_)
                    clear hK K
                    refine nrm (some 14) ?_
                    refine one_ (i := 6) (N := some 99) #[true, true, true, true, true, true, true, false, false, false, true, false, false] rfl rfl (one_of HT_.out (by kernel_rfl)) (by decide) (fun K hK => ?_)
                    refine goes_ Try.func14 (by kernel_rfl) rfl #[.agg #[.string x250000_24, .string x250001_24, .bool x250002_24, .string x250003_24, .int .i64 x250004_24, .int .i64 x250005_24], .agg #[.int .i64 ((rd_T36 l1 x45_2).f0), .int .i64 ((rd_T36 l1 x45_2).f1), .int .i64 ((rd_T36 l1 x45_2).f2), .string ((rd_T36 l1 x45_2).f3), .slice A272_4 ((rd_T36 l1 x45_2).f4).length c272_4], .int .i64 1, .int .i64 x9_21] (by rfl) rfl rfl sma ?_
                    with_reducible refine (install_Take.calls kj56 x250000_24 x250001_24 x250002_24 x250003_24 x250004_24 x250005_24 ((rd_T36 l1 x45_2).f0) ((rd_T36 l1 x45_2).f1) ((rd_T36 l1 x45_2).f2) ((rd_T36 l1 x45_2).f3) _ _ ((rd_T36 l1 x45_2).f4) 1 x9_21 t273 t274 t275 t276 t277 t278 t279 _ ?side1 ?side2 A66.out).mono ?_
                    (case side1 => repeat (first | exact (Kd.C_below HR272_4.out HB.out) | (with_reducible refine Kd.C_alloc ?_ _) | (with_reducible refine Kd.C_drewN ?_ _) | (with_reducible refine Kd.C_drew ?_)))
                    (case side2 => exact HC272_4.out)
                    rintro e w80 ⟨rfl, hb⟩
                    refine ⟨_, rfl, ?_⟩
                    replace BK248 := bkB BK248 hb
                    replace BK249 := bkB BK249 hb
                    replace BK280 := bkB BK280 hb
                    replace HB := hbS HB hb
                    (try clear hb)
                    refine hK.out _ _ ⟨(blk_cell BK249.out 0).trans rfl, (blk_cell BK249.out 1).trans rfl, (blk_cell BK249.out 2).trans rfl, (blk_cell BK249.out 3).trans rfl, (blk_cell BK249.out 4).trans rfl, (blk_cell BK249.out 5).trans rfl, ((HB.out.cell (World.block_lt_of_cell? w _ hw272_0)).trans hw272_0), ((HB.out.cell (World.block_lt_of_cell? w _ hw272_1)).trans hw272_1), ((HB.out.cell (World.block_lt_of_cell? w _ hw272_2)).trans hw272_2), ((HB.out.cell (World.block_lt_of_cell? w _ hw272_3)).trans hw272_3), ((HB.out.cell (World.block_lt_of_cell? w _ hw272_4)).trans hw272_4)⟩ (fun hHeld => ?_)
                    clear hK K
                    refine nrm (some 99) ?_
                    refine pur 7 (some 92) #[true, true, true, true, true, true, true, true, false, false, true, false, false] HT_ ?_
                    refine pur 8 (some 100) #[true, true, true, true, true, true, true, true, true, false, true, false, false] HT_ ?_
                    refine pur 9 (some 101) #[true, true, true, true, true, true, true, true, true, true, true, false, false] HT_ ?_
                    exact npu (hCont (gb280) _ ⟨hHeld, (bk BK248), (bk BK249), (bk BK280), GW280.out, GE280.out, NB248_280.out, NB280_248.out, NB249_280.out, NB280_249.out, (hbx HB)⟩)
                  rintro gb280 w81 ⟨hS_, h0_, h1_, h2_, h3_, h4_, h5_, h6_, h7_, h8_, h9_⟩
                  have n0_ : Aside0 (w81.heap[gb248]? = some (mobj x249000_24)) := ⟨h0_⟩
                  have n1_ : Aside0 (w81.heap[gb249]? = some (.cells #[.string x250000_24, .string x250001_24, .bool x250002_24, .string x250003_24, .int .i64 x250004_24, .int .i64 x250005_24] 28 (0, 0))) := ⟨h1_⟩
                  have n2_ : Aside0 (w81.heap[gb280]? = some (.cells #[.string (⟨#[]⟩ : ByteArray), .string (⟨#[]⟩ : ByteArray), .bool false, .string (⟨#[]⟩ : ByteArray), .int .i64 0, .int .i64 0] 28 (0, 0))) := ⟨h2_⟩
                  have n3_ : Aside0 (w.heap.size ≤ gb280) := ⟨h3_⟩
                  have n4_ : Aside0 (w.heap.size ≤ gb280) := ⟨h4_⟩
                  have n5_ : Aside0 (gb248 ≠ gb280) := ⟨h5_⟩
                  have n6_ : Aside0 (gb280 ≠ gb248) := ⟨h6_⟩
                  have n7_ : Aside0 (gb249 ≠ gb280) := ⟨h7_⟩
                  have n8_ : Aside0 (gb280 ≠ gb249) := ⟨h8_⟩
                  have n9_ : Aside0 (Below w.heap.size w w81) := ⟨h9_⟩
                  clear BK248
                  clear BK249
                  clear HB
                  clear h0_ h1_ h2_ h3_ h4_ h5_ h6_ h7_ h8_ h9_
                  have BK248 := n0_
                  have BK249 := n1_
                  have BK280 := n2_
                  have GW280 := n3_
                  have GE280 := n4_
                  have NB248_280 := n5_
                  have NB280_248 := n6_
                  have NB249_280 := n7_
                  have NB280_249 := n8_
                  have HB := n9_
                  clear n0_ n1_ n2_ n3_ n4_ n5_ n6_ n7_ n8_ n9_
                  have hHeld : w81.cell? ⟨gb249, 0, none⟩ = some (.string x250000_24) ∧ w81.cell? ⟨gb249, 1, none⟩ = some (.string x250001_24) ∧ w81.cell? ⟨gb249, 2, none⟩ = some (.bool x250002_24) ∧ w81.cell? ⟨gb249, 3, none⟩ = some (.string x250003_24) ∧ w81.cell? ⟨gb249, 4, none⟩ = some (.int .i64 x250004_24) ∧ w81.cell? ⟨gb249, 5, none⟩ = some (.int .i64 x250005_24) ∧ w81.cell? (ad272.add ((x45_2).toNat * 5)) = some (.int .i64 ((rd_T36 l1 x45_2).f0)) ∧ w81.cell? ⟨(ad272.add ((x45_2).toNat * 5)).block, (ad272.add ((x45_2).toNat * 5)).off + 1, none⟩ = some (.int .i64 ((rd_T36 l1 x45_2).f1)) ∧ w81.cell? ⟨(ad272.add ((x45_2).toNat * 5)).block, (ad272.add ((x45_2).toNat * 5)).off + 2, none⟩ = some (.int .i64 ((rd_T36 l1 x45_2).f2)) ∧ w81.cell? ⟨(ad272.add ((x45_2).toNat * 5)).block, (ad272.add ((x45_2).toNat * 5)).off + 3, none⟩ = some (.string ((rd_T36 l1 x45_2).f3)) ∧ w81.cell? ⟨(ad272.add ((x45_2).toNat * 5)).block, (ad272.add ((x45_2).toNat * 5)).off + 4, none⟩ = some (.slice A272_4 ((rd_T36 l1 x45_2).f4).length c272_4) := hS_
                  refine norm_ (a' := ?_) ?_ ?_
                  rotate_left
                  ·simp only [putAll, Act.put, List.setIfInBounds_toArray, List.set_cons_zero, List.set_cons_succ]
                   rfl
                  refine one_ (i := 11) (N := none) #[true, true, true, true, true, true, true, true, true, true, true, true, false] rfl rfl (one_of HT_.out (by kernel_rfl)) (by decide) (fun K hK => ?_)
                  have hs82 : w81.cell? ⟨gb280, 0, none⟩ = some (.string (⟨#[]⟩ : ByteArray)) := (blk_cell BK280.out 0).trans rfl
                  have hfs82 := blk_frozen BK280.out 0
                  have hns82_0 := NB248_280.out
                  have hns82_1 := NB249_280.out
                  have hms82_0 := NB280_248.out
                  have hms82_1 := NB280_249.out
                  have hs83 : w81.cell? ⟨gb280, 1, none⟩ = some (.string (⟨#[]⟩ : ByteArray)) := (blk_cell BK280.out 1).trans rfl
                  have hfs83 := blk_frozen BK280.out 1
                  have hns83_0 := NB248_280.out
                  have hns83_1 := NB249_280.out
                  have hms83_0 := NB280_248.out
                  have hms83_1 := NB280_249.out
                  have hs84 : w81.cell? ⟨gb280, 2, none⟩ = some (.bool false) := (blk_cell BK280.out 2).trans rfl
                  have hfs84 := blk_frozen BK280.out 2
                  have hns84_0 := NB248_280.out
                  have hns84_1 := NB249_280.out
                  have hms84_0 := NB280_248.out
                  have hms84_1 := NB280_249.out
                  have hs85 : w81.cell? ⟨gb280, 3, none⟩ = some (.string (⟨#[]⟩ : ByteArray)) := (blk_cell BK280.out 3).trans rfl
                  have hfs85 := blk_frozen BK280.out 3
                  have hns85_0 := NB248_280.out
                  have hns85_1 := NB249_280.out
                  have hms85_0 := NB280_248.out
                  have hms85_1 := NB280_249.out
                  have hs86 : w81.cell? ⟨gb280, 4, none⟩ = some (.int .i64 0) := (blk_cell BK280.out 4).trans rfl
                  have hfs86 := blk_frozen BK280.out 4
                  have hns86_0 := NB248_280.out
                  have hns86_1 := NB249_280.out
                  have hms86_0 := NB280_248.out
                  have hms86_1 := NB280_249.out
                  have hs87 : w81.cell? ⟨gb280, 5, none⟩ = some (.int .i64 0) := (blk_cell BK280.out 5).trans rfl
                  have hfs87 := blk_frozen BK280.out 5
                  have hns87_0 := NB248_280.out
                  have hns87_1 := NB249_280.out
                  have hms87_0 := NB280_248.out
                  have hms87_1 := NB280_249.out
                  refine skip_ (w1 := ?_) (by rfl) rfl ?_ ?_
                  rotate_left
                  ·go_simp
                   rfl
                  refine hK.out _ _ ⟨((cell_far (p := ⟨gb280, _, none⟩) NB249_280.out _).trans (((cell_far (p := ⟨gb280, _, none⟩) NB249_280.out _).trans (((cell_far (p := ⟨gb280, _, none⟩) NB249_280.out _).trans (((cell_far (p := ⟨gb280, _, none⟩) NB249_280.out _).trans (((cell_far (p := ⟨gb280, _, none⟩) NB249_280.out _).trans (((cell_far (p := ⟨gb280, _, none⟩) NB249_280.out _).trans (hHeld.1)))))))))))), ((cell_far (p := ⟨gb280, _, none⟩) NB249_280.out _).trans (((cell_far (p := ⟨gb280, _, none⟩) NB249_280.out _).trans (((cell_far (p := ⟨gb280, _, none⟩) NB249_280.out _).trans (((cell_far (p := ⟨gb280, _, none⟩) NB249_280.out _).trans (((cell_far (p := ⟨gb280, _, none⟩) NB249_280.out _).trans (((cell_far (p := ⟨gb280, _, none⟩) NB249_280.out _).trans (hHeld.2.1)))))))))))), ((cell_far (p := ⟨gb280, _, none⟩) NB249_280.out _).trans (((cell_far (p := ⟨gb280, _, none⟩) NB249_280.out _).trans (((cell_far (p := ⟨gb280, _, none⟩) NB249_280.out _).trans (((cell_far (p := ⟨gb280, _, none⟩) NB249_280.out _).trans (((cell_far (p := ⟨gb280, _, none⟩) NB249_280.out _).trans (((cell_far (p := ⟨gb280, _, none⟩) NB249_280.out _).trans (hHeld.2.2.1)))))))))))), ((cell_far (p := ⟨gb280, _, none⟩) NB249_280.out _).trans (((cell_far (p := ⟨gb280, _, none⟩) NB249_280.out _).trans (((cell_far (p := ⟨gb280, _, none⟩) NB249_280.out _).trans (((cell_far (p := ⟨gb280, _, none⟩) NB249_280.out _).trans (((cell_far (p := ⟨gb280, _, none⟩) NB249_280.out _).trans (((cell_far (p := ⟨gb280, _, none⟩) NB249_280.out _).trans (hHeld.2.2.2.1)))))))))))), ((cell_far (p := ⟨gb280, _, none⟩) NB249_280.out _).trans (((cell_far (p := ⟨gb280, _, none⟩) NB249_280.out _).trans (((cell_far (p := ⟨gb280, _, none⟩) NB249_280.out _).trans (((cell_far (p := ⟨gb280, _, none⟩) NB249_280.out _).trans (((cell_far (p := ⟨gb280, _, none⟩) NB249_280.out _).trans (((cell_far (p := ⟨gb280, _, none⟩) NB249_280.out _).trans (hHeld.2.2.2.2.1)))))))))))), ((cell_far (p := ⟨gb280, _, none⟩) NB249_280.out _).trans (((cell_far (p := ⟨gb280, _, none⟩) NB249_280.out _).trans (((cell_far (p := ⟨gb280, _, none⟩) NB249_280.out _).trans (((cell_far (p := ⟨gb280, _, none⟩) NB249_280.out _).trans (((cell_far (p := ⟨gb280, _, none⟩) NB249_280.out _).trans (((cell_far (p := ⟨gb280, _, none⟩) NB249_280.out _).trans (hHeld.2.2.2.2.2.1)))))))))))), ((cell_far (p := ⟨gb280, _, none⟩) (by first | exact Nat.ne_of_lt (Nat.lt_of_lt_of_le (by have := World.block_lt_of_cell? _ _ hw272_0; first | rwa [add_block] at this | exact this) GW280.out) | (rw [add_block]; exact Nat.ne_of_lt (Nat.lt_of_lt_of_le (by have := World.block_lt_of_cell? _ _ hw272_0; first | rwa [add_block] at this | exact this) GW280.out)) | (show (Addr.add _ _).block ≠ _; rw [add_block]; exact Nat.ne_of_lt (Nat.lt_of_lt_of_le (by have := World.block_lt_of_cell? _ _ hw272_0; first | rwa [add_block] at this | exact this) GW280.out)) | (dsimp only; exact Nat.ne_of_lt (Nat.lt_of_lt_of_le (by have := World.block_lt_of_cell? _ _ hw272_0; first | rwa [add_block] at this | exact this) GW280.out))) _).trans (((cell_far (p := ⟨gb280, _, none⟩) (by first | exact Nat.ne_of_lt (Nat.lt_of_lt_of_le (by have := World.block_lt_of_cell? _ _ hw272_0; first | rwa [add_block] at this | exact this) GW280.out) | (rw [add_block]; exact Nat.ne_of_lt (Nat.lt_of_lt_of_le (by have := World.block_lt_of_cell? _ _ hw272_0; first | rwa [add_block] at this | exact this) GW280.out)) | (show (Addr.add _ _).block ≠ _; rw [add_block]; exact Nat.ne_of_lt (Nat.lt_of_lt_of_le (by have := World.block_lt_of_cell? _ _ hw272_0; first | rwa [add_block] at this | exact this) GW280.out)) | (dsimp only; exact Nat.ne_of_lt (Nat.lt_of_lt_of_le (by have := World.block_lt_of_cell? _ _ hw272_0; first | rwa [add_block] at this | exact this) GW280.out))) _).trans (((cell_far (p := ⟨gb280, _, none⟩) (by first | exact Nat.ne_of_lt (Nat.lt_of_lt_of_le (by have := World.block_lt_of_cell? _ _ hw272_0; first | rwa [add_block] at this | exact this) GW280.out) | (rw [add_block]; exact Nat.ne_of_lt (Nat.lt_of_lt_of_le (by have := World.block_lt_of_cell? _ _ hw272_0; first | rwa [add_block] at this | exact this) GW280.out)) | (show (Addr.add _ _).block ≠ _; rw [add_block]; exact Nat.ne_of_lt (Nat.lt_of_lt_of_le (by have := World.block_lt_of_cell? _ _ hw272_0; first | rwa [add_block] at this | exact this) GW280.out)) | (dsimp only; exact Nat.ne_of_lt (Nat.lt_of_lt_of_le (by have := World.block_lt_of_cell? _ _ hw272_0; first | rwa [add_block] at this | exact this) GW280.out))) _).trans (((cell_far (p := ⟨gb280, _, none⟩) (by first | exact Nat.ne_of_lt (Nat.lt_of_lt_of_le (by have := World.block_lt_of_cell? _ _ hw272_0; first | rwa [add_block] at this | exact this) GW280.out) | (rw [add_block]; exact Nat.ne_of_lt (Nat.lt_of_lt_of_le (by have := World.block_lt_of_cell? _ _ hw272_0; first | rwa [add_block] at this | exact this) GW280.out)) | (show (Addr.add _ _).block ≠ _; rw [add_block]; exact Nat.ne_of_lt (Nat.lt_of_lt_of_le (by have := World.block_lt_of_cell? _ _ hw272_0; first | rwa [add_block] at this | exact this) GW280.out)) | (dsimp only; exact Nat.ne_of_lt (Nat.lt_of_lt_of_le (by have := World.block_lt_of_cell? _ _ hw272_0; first | rwa [add_block] at this | exact this) GW280.out))) _).trans (((cell_far (p := ⟨gb280, _, none⟩) (by first | exact Nat.ne_of_lt (Nat.lt_of_lt_of_le (by have := World.block_lt_of_cell? _ _ hw272_0; first | rwa [add_block] at this | exact this) GW280.out) | (rw [add_block]; exact Nat.ne_of_lt (Nat.lt_of_lt_of_le (by have := World.block_lt_of_cell? _ _ hw272_0; first | rwa [add_block] at this | exact this) GW280.out)) | (show (Addr.add _ _).block ≠ _; rw [add_block]; exact Nat.ne_of_lt (Nat.lt_of_lt_of_le (by have := World.block_lt_of_cell? _ _ hw272_0; first | rwa [add_block] at this | exact this) GW280.out)) | (dsimp only; exact Nat.ne_of_lt (Nat.lt_of_lt_of_le (by have := World.block_lt_of_cell? _ _ hw272_0; first | rwa [add_block] at this | exact this) GW280.out))) _).trans (((cell_far (p := ⟨gb280, _, none⟩) (by first | exact Nat.ne_of_lt (Nat.lt_of_lt_of_le (by have := World.block_lt_of_cell? _ _ hw272_0; first | rwa [add_block] at this | exact this) GW280.out) | (rw [add_block]; exact Nat.ne_of_lt (Nat.lt_of_lt_of_le (by have := World.block_lt_of_cell? _ _ hw272_0; first | rwa [add_block] at this | exact this) GW280.out)) | (show (Addr.add _ _).block ≠ _; rw [add_block]; exact Nat.ne_of_lt (Nat.lt_of_lt_of_le (by have := World.block_lt_of_cell? _ _ hw272_0; first | rwa [add_block] at this | exact this) GW280.out)) | (dsimp only; exact Nat.ne_of_lt (Nat.lt_of_lt_of_le (by have := World.block_lt_of_cell? _ _ hw272_0; first | rwa [add_block] at this | exact this) GW280.out))) _).trans (hHeld.2.2.2.2.2.2.1)))))))))))), ((cell_far (p := ⟨gb280, _, none⟩) (by first | exact Nat.ne_of_lt (Nat.lt_of_lt_of_le (by have := World.block_lt_of_cell? _ _ hw272_1; first | rwa [add_block] at this | exact this) GW280.out) | (rw [add_block]; exact Nat.ne_of_lt (Nat.lt_of_lt_of_le (by have := World.block_lt_of_cell? _ _ hw272_1; first | rwa [add_block] at this | exact this) GW280.out)) | (show (Addr.add _ _).block ≠ _; rw [add_block]; exact Nat.ne_of_lt (Nat.lt_of_lt_of_le (by have := World.block_lt_of_cell? _ _ hw272_1; first | rwa [add_block] at this | exact this) GW280.out)) | (dsimp only; exact Nat.ne_of_lt (Nat.lt_of_lt_of_le (by have := World.block_lt_of_cell? _ _ hw272_1; first | rwa [add_block] at this | exact this) GW280.out))) _).trans (((cell_far (p := ⟨gb280, _, none⟩) (by first | exact Nat.ne_of_lt (Nat.lt_of_lt_of_le (by have := World.block_lt_of_cell? _ _ hw272_1; first | rwa [add_block] at this | exact this) GW280.out) | (rw [add_block]; exact Nat.ne_of_lt (Nat.lt_of_lt_of_le (by have := World.block_lt_of_cell? _ _ hw272_1; first | rwa [add_block] at this | exact this) GW280.out)) | (show (Addr.add _ _).block ≠ _; rw [add_block]; exact Nat.ne_of_lt (Nat.lt_of_lt_of_le (by have := World.block_lt_of_cell? _ _ hw272_1; first | rwa [add_block] at this | exact this) GW280.out)) | (dsimp only; exact Nat.ne_of_lt (Nat.lt_of_lt_of_le (by have := World.block_lt_of_cell? _ _ hw272_1; first | rwa [add_block] at this | exact this) GW280.out))) _).trans (((cell_far (p := ⟨gb280, _, none⟩) (by first | exact Nat.ne_of_lt (Nat.lt_of_lt_of_le (by have := World.block_lt_of_cell? _ _ hw272_1; first | rwa [add_block] at this | exact this) GW280.out) | (rw [add_block]; exact Nat.ne_of_lt (Nat.lt_of_lt_of_le (by have := World.block_lt_of_cell? _ _ hw272_1; first | rwa [add_block] at this | exact this) GW280.out)) | (show (Addr.add _ _).block ≠ _; rw [add_block]; exact Nat.ne_of_lt (Nat.lt_of_lt_of_le (by have := World.block_lt_of_cell? _ _ hw272_1; first | rwa [add_block] at this | exact this) GW280.out)) | (dsimp only; exact Nat.ne_of_lt (Nat.lt_of_lt_of_le (by have := World.block_lt_of_cell? _ _ hw272_1; first | rwa [add_block] at this | exact this) GW280.out))) _).trans (((cell_far (p := ⟨gb280, _, none⟩) (by first | exact Nat.ne_of_lt (Nat.lt_of_lt_of_le (by have := World.block_lt_of_cell? _ _ hw272_1; first | rwa [add_block] at this | exact this) GW280.out) | (rw [add_block]; exact Nat.ne_of_lt (Nat.lt_of_lt_of_le (by have := World.block_lt_of_cell? _ _ hw272_1; first | rwa [add_block] at this | exact this) GW280.out)) | (show (Addr.add _ _).block ≠ _; rw [add_block]; exact Nat.ne_of_lt (Nat.lt_of_lt_of_le (by have := World.block_lt_of_cell? _ _ hw272_1; first | rwa [add_block] at this | exact this) GW280.out)) | (dsimp only; exact Nat.ne_of_lt (Nat.lt_of_lt_of_le (by have := World.block_lt_of_cell? _ _ hw272_1; first | rwa [add_block] at this | exact this) GW280.out))) _).trans (((cell_far (p := ⟨gb280, _, none⟩) (by first | exact Nat.ne_of_lt (Nat.lt_of_lt_of_le (by have := World.block_lt_of_cell? _ _ hw272_1; first | rwa [add_block] at this | exact this) GW280.out) | (rw [add_block]; exact Nat.ne_of_lt (Nat.lt_of_lt_of_le (by have := World.block_lt_of_cell? _ _ hw272_1; first | rwa [add_block] at this | exact this) GW280.out)) | (show (Addr.add _ _).block ≠ _; rw [add_block]; exact Nat.ne_of_lt (Nat.lt_of_lt_of_le (by have := World.block_lt_of_cell? _ _ hw272_1; first | rwa [add_block] at this | exact this) GW280.out)) | (dsimp only; exact Nat.ne_of_lt (Nat.lt_of_lt_of_le (by have := World.block_lt_of_cell? _ _ hw272_1; first | rwa [add_block] at this | exact this) GW280.out))) _).trans (((cell_far (p := ⟨gb280, _, none⟩) (by first | exact Nat.ne_of_lt (Nat.lt_of_lt_of_le (by have := World.block_lt_of_cell? _ _ hw272_1; first | rwa [add_block] at this | exact this) GW280.out) | (rw [add_block]; exact Nat.ne_of_lt (Nat.lt_of_lt_of_le (by have := World.block_lt_of_cell? _ _ hw272_1; first | rwa [add_block] at this | exact this) GW280.out)) | (show (Addr.add _ _).block ≠ _; rw [add_block]; exact Nat.ne_of_lt (Nat.lt_of_lt_of_le (by have := World.block_lt_of_cell? _ _ hw272_1; first | rwa [add_block] at this | exact this) GW280.out)) | (dsimp only; exact Nat.ne_of_lt (Nat.lt_of_lt_of_le (by have := World.block_lt_of_cell? _ _ hw272_1; first | rwa [add_block] at this | exact this) GW280.out))) _).trans (hHeld.2.2.2.2.2.2.2.1)))))))))))), ((cell_far (p := ⟨gb280, _, none⟩) (by first | exact Nat.ne_of_lt (Nat.lt_of_lt_of_le (by have := World.block_lt_of_cell? _ _ hw272_2; first | rwa [add_block] at this | exact this) GW280.out) | (rw [add_block]; exact Nat.ne_of_lt (Nat.lt_of_lt_of_le (by have := World.block_lt_of_cell? _ _ hw272_2; first | rwa [add_block] at this | exact this) GW280.out)) | (show (Addr.add _ _).block ≠ _; rw [add_block]; exact Nat.ne_of_lt (Nat.lt_of_lt_of_le (by have := World.block_lt_of_cell? _ _ hw272_2; first | rwa [add_block] at this | exact this) GW280.out)) | (dsimp only; exact Nat.ne_of_lt (Nat.lt_of_lt_of_le (by have := World.block_lt_of_cell? _ _ hw272_2; first | rwa [add_block] at this | exact this) GW280.out))) _).trans (((cell_far (p := ⟨gb280, _, none⟩) (by first | exact Nat.ne_of_lt (Nat.lt_of_lt_of_le (by have := World.block_lt_of_cell? _ _ hw272_2; first | rwa [add_block] at this | exact this) GW280.out) | (rw [add_block]; exact Nat.ne_of_lt (Nat.lt_of_lt_of_le (by have := World.block_lt_of_cell? _ _ hw272_2; first | rwa [add_block] at this | exact this) GW280.out)) | (show (Addr.add _ _).block ≠ _; rw [add_block]; exact Nat.ne_of_lt (Nat.lt_of_lt_of_le (by have := World.block_lt_of_cell? _ _ hw272_2; first | rwa [add_block] at this | exact this) GW280.out)) | (dsimp only; exact Nat.ne_of_lt (Nat.lt_of_lt_of_le (by have := World.block_lt_of_cell? _ _ hw272_2; first | rwa [add_block] at this | exact this) GW280.out))) _).trans (((cell_far (p := ⟨gb280, _, none⟩) (by first | exact Nat.ne_of_lt (Nat.lt_of_lt_of_le (by have := World.block_lt_of_cell? _ _ hw272_2; first | rwa [add_block] at this | exact this) GW280.out) | (rw [add_block]; exact Nat.ne_of_lt (Nat.lt_of_lt_of_le (by have := World.block_lt_of_cell? _ _ hw272_2; first | rwa [add_block] at this | exact this) GW280.out)) | (show (Addr.add _ _).block ≠ _; rw [add_block]; exact Nat.ne_of_lt (Nat.lt_of_lt_of_le (by have := World.block_lt_of_cell? _ _ hw272_2; first | rwa [add_block] at this | exact this) GW280.out)) | (dsimp only; exact Nat.ne_of_lt (Nat.lt_of_lt_of_le (by have := World.block_lt_of_cell? _ _ hw272_2; first | rwa [add_block] at this | exact this) GW280.out))) _).trans (((cell_far (p := ⟨gb280, _, none⟩) (by first | exact Nat.ne_of_lt (Nat.lt_of_lt_of_le (by have := World.block_lt_of_cell? _ _ hw272_2; first | rwa [add_block] at this | exact this) GW280.out) | (rw [add_block]; exact Nat.ne_of_lt (Nat.lt_of_lt_of_le (by have := World.block_lt_of_cell? _ _ hw272_2; first | rwa [add_block] at this | exact this) GW280.out)) | (show (Addr.add _ _).block ≠ _; rw [add_block]; exact Nat.ne_of_lt (Nat.lt_of_lt_of_le (by have := World.block_lt_of_cell? _ _ hw272_2; first | rwa [add_block] at this | exact this) GW280.out)) | (dsimp only; exact Nat.ne_of_lt (Nat.lt_of_lt_of_le (by have := World.block_lt_of_cell? _ _ hw272_2; first | rwa [add_block] at this | exact this) GW280.out))) _).trans (((cell_far (p := ⟨gb280, _, none⟩) (by first | exact Nat.ne_of_lt (Nat.lt_of_lt_of_le (by have := World.block_lt_of_cell? _ _ hw272_2; first | rwa [add_block] at this | exact this) GW280.out) | (rw [add_block]; exact Nat.ne_of_lt (Nat.lt_of_lt_of_le (by have := World.block_lt_of_cell? _ _ hw272_2; first | rwa [add_block] at this | exact this) GW280.out)) | (show (Addr.add _ _).block ≠ _; rw [add_block]; exact Nat.ne_of_lt (Nat.lt_of_lt_of_le (by have := World.block_lt_of_cell? _ _ hw272_2; first | rwa [add_block] at this | exact this) GW280.out)) | (dsimp only; exact Nat.ne_of_lt (Nat.lt_of_lt_of_le (by have := World.block_lt_of_cell? _ _ hw272_2; first | rwa [add_block] at this | exact this) GW280.out))) _).trans (((cell_far (p := ⟨gb280, _, none⟩) (by first | exact Nat.ne_of_lt (Nat.lt_of_lt_of_le (by have := World.block_lt_of_cell? _ _ hw272_2; first | rwa [add_block] at this | exact this) GW280.out) | (rw [add_block]; exact Nat.ne_of_lt (Nat.lt_of_lt_of_le (by have := World.block_lt_of_cell? _ _ hw272_2; first | rwa [add_block] at this | exact this) GW280.out)) | (show (Addr.add _ _).block ≠ _; rw [add_block]; exact Nat.ne_of_lt (Nat.lt_of_lt_of_le (by have := World.block_lt_of_cell? _ _ hw272_2; first | rwa [add_block] at this | exact this) GW280.out)) | (dsimp only; exact Nat.ne_of_lt (Nat.lt_of_lt_of_le (by have := World.block_lt_of_cell? _ _ hw272_2; first | rwa [add_block] at this | exact this) GW280.out))) _).trans (hHeld.2.2.2.2.2.2.2.2.1)))))))))))), ((cell_far (p := ⟨gb280, _, none⟩) (by first | exact Nat.ne_of_lt (Nat.lt_of_lt_of_le (by have := World.block_lt_of_cell? _ _ hw272_3; first | rwa [add_block] at this | exact this) GW280.out) | (rw [add_block]; exact Nat.ne_of_lt (Nat.lt_of_lt_of_le (by have := World.block_lt_of_cell? _ _ hw272_3; first | rwa [add_block] at this | exact this) GW280.out)) | (show (Addr.add _ _).block ≠ _; rw [add_block]; exact Nat.ne_of_lt (Nat.lt_of_lt_of_le (by have := World.block_lt_of_cell? _ _ hw272_3; first | rwa [add_block] at this | exact this) GW280.out)) | (dsimp only; exact Nat.ne_of_lt (Nat.lt_of_lt_of_le (by have := World.block_lt_of_cell? _ _ hw272_3; first | rwa [add_block] at this | exact this) GW280.out))) _).trans (((cell_far (p := ⟨gb280, _, none⟩) (by first | exact Nat.ne_of_lt (Nat.lt_of_lt_of_le (by have := World.block_lt_of_cell? _ _ hw272_3; first | rwa [add_block] at this | exact this) GW280.out) | (rw [add_block]; exact Nat.ne_of_lt (Nat.lt_of_lt_of_le (by have := World.block_lt_of_cell? _ _ hw272_3; first | rwa [add_block] at this | exact this) GW280.out)) | (show (Addr.add _ _).block ≠ _; rw [add_block]; exact Nat.ne_of_lt (Nat.lt_of_lt_of_le (by have := World.block_lt_of_cell? _ _ hw272_3; first | rwa [add_block] at this | exact this) GW280.out)) | (dsimp only; exact Nat.ne_of_lt (Nat.lt_of_lt_of_le (by have := World.block_lt_of_cell? _ _ hw272_3; first | rwa [add_block] at this | exact this) GW280.out))) _).trans (((cell_far (p := ⟨gb280, _, none⟩) (by first | exact Nat.ne_of_lt (Nat.lt_of_lt_of_le (by have := World.block_lt_of_cell? _ _ hw272_3; first | rwa [add_block] at this | exact this) GW280.out) | (rw [add_block]; exact Nat.ne_of_lt (Nat.lt_of_lt_of_le (by have := World.block_lt_of_cell? _ _ hw272_3; first | rwa [add_block] at this | exact this) GW280.out)) | (show (Addr.add _ _).block ≠ _; rw [add_block]; exact Nat.ne_of_lt (Nat.lt_of_lt_of_le (by have := World.block_lt_of_cell? _ _ hw272_3; first | rwa [add_block] at this | exact this) GW280.out)) | (dsimp only; exact Nat.ne_of_lt (Nat.lt_of_lt_of_le (by have := World.block_lt_of_cell? _ _ hw272_3; first | rwa [add_block] at this | exact this) GW280.out))) _).trans (((cell_far (p := ⟨gb280, _, none⟩) (by first | exact Nat.ne_of_lt (Nat.lt_of_lt_of_le (by have := World.block_lt_of_cell? _ _ hw272_3; first | rwa [add_block] at this | exact this) GW280.out) | (rw [add_block]; exact Nat.ne_of_lt (Nat.lt_of_lt_of_le (by have := World.block_lt_of_cell? _ _ hw272_3; first | rwa [add_block] at this | exact this) GW280.out)) | (show (Addr.add _ _).block ≠ _; rw [add_block]; exact Nat.ne_of_lt (Nat.lt_of_lt_of_le (by have := World.block_lt_of_cell? _ _ hw272_3; first | rwa [add_block] at this | exact this) GW280.out)) | (dsimp only; exact Nat.ne_of_lt (Nat.lt_of_lt_of_le (by have := World.block_lt_of_cell? _ _ hw272_3; first | rwa [add_block] at this | exact this) GW280.out))) _).trans (((cell_far (p := ⟨gb280, _, none⟩) (by first | exact Nat.ne_of_lt (Nat.lt_of_lt_of_le (by have := World.block_lt_of_cell? _ _ hw272_3; first | rwa [add_block] at this | exact this) GW280.out) | (rw [add_block]; exact Nat.ne_of_lt (Nat.lt_of_lt_of_le (by have := World.block_lt_of_cell? _ _ hw272_3; first | rwa [add_block] at this | exact this) GW280.out)) | (show (Addr.add _ _).block ≠ _; rw [add_block]; exact Nat.ne_of_lt (Nat.lt_of_lt_of_le (by have := World.block_lt_of_cell? _ _ hw272_3; first | rwa [add_block] at this | exact this) GW280.out)) | (dsimp only; exact Nat.ne_of_lt (Nat.lt_of_lt_of_le (by have := World.block_lt_of_cell? _ _ hw272_3; first | rwa [add_block] at this | exact this) GW280.out))) _).trans (((cell_far (p := ⟨gb280, _, none⟩) (by first | exact Nat.ne_of_lt (Nat.lt_of_lt_of_le (by have := World.block_lt_of_cell? _ _ hw272_3; first | rwa [add_block] at this | exact this) GW280.out) | (rw [add_block]; exact Nat.ne_of_lt (Nat.lt_of_lt_of_le (by have := World.block_lt_of_cell? _ _ hw272_3; first | rwa [add_block] at this | exact this) GW280.out)) | (show (Addr.add _ _).block ≠ _; rw [add_block]; exact Nat.ne_of_lt (Nat.lt_of_lt_of_le (by have := World.block_lt_of_cell? _ _ hw272_3; first | rwa [add_block] at this | exact this) GW280.out)) | (dsimp only; exact Nat.ne_of_lt (Nat.lt_of_lt_of_le (by have := World.block_lt_of_cell? _ _ hw272_3; first | rwa [add_block] at this | exact this) GW280.out))) _).trans (hHeld.2.2.2.2.2.2.2.2.2.1)))))))))))), ((cell_far (p := ⟨gb280, _, none⟩) (by first | exact Nat.ne_of_lt (Nat.lt_of_lt_of_le (by have := World.block_lt_of_cell? _ _ hw272_4; first | rwa [add_block] at this | exact this) GW280.out) | (rw [add_block]; exact Nat.ne_of_lt (Nat.lt_of_lt_of_le (by have := World.block_lt_of_cell? _ _ hw272_4; first | rwa [add_block] at this | exact this) GW280.out)) | (show (Addr.add _ _).block ≠ _; rw [add_block]; exact Nat.ne_of_lt (Nat.lt_of_lt_of_le (by have := World.block_lt_of_cell? _ _ hw272_4; first | rwa [add_block] at this | exact this) GW280.out)) | (dsimp only; exact Nat.ne_of_lt (Nat.lt_of_lt_of_le (by have := World.block_lt_of_cell? _ _ hw272_4; first | rwa [add_block] at this | exact this) GW280.out))) _).trans (((cell_far (p := ⟨gb280, _, none⟩) (by first | exact Nat.ne_of_lt (Nat.lt_of_lt_of_le (by have := World.block_lt_of_cell? _ _ hw272_4; first | rwa [add_block] at this | exact this) GW280.out) | (rw [add_block]; exact Nat.ne_of_lt (Nat.lt_of_lt_of_le (by have := World.block_lt_of_cell? _ _ hw272_4; first | rwa [add_block] at this | exact this) GW280.out)) | (show (Addr.add _ _).block ≠ _; rw [add_block]; exact Nat.ne_of_lt (Nat.lt_of_lt_of_le (by have := World.block_lt_of_cell? _ _ hw272_4; first | rwa [add_block] at this | exact this) GW280.out)) | (dsimp only; exact Nat.ne_of_lt (Nat.lt_of_lt_of_le (by have := World.block_lt_of_cell? _ _ hw272_4; first | rwa [add_block] at this | exact this) GW280.out))) _).trans (((cell_far (p := ⟨gb280, _, none⟩) (by first | exact Nat.ne_of_lt (Nat.lt_of_lt_of_le (by have := World.block_lt_of_cell? _ _ hw272_4; first | rwa [add_block] at this | exact this) GW280.out) | (rw [add_block]; exact Nat.ne_of_lt (Nat.lt_of_lt_of_le (by have := World.block_lt_of_cell? _ _ hw272_4; first | rwa [add_block] at this | exact this) GW280.out)) | (show (Addr.add _ _).block ≠ _; rw [add_block]; exact Nat.ne_of_lt (Nat.lt_of_lt_of_le (by have := World.block_lt_of_cell? _ _ hw272_4; first | rwa [add_block] at this | exact this) GW280.out)) | (dsimp only; exact Nat.ne_of_lt (Nat.lt_of_lt_of_le (by have := World.block_lt_of_cell? _ _ hw272_4; first | rwa [add_block] at this | exact this) GW280.out))) _).trans (((cell_far (p := ⟨gb280, _, none⟩) (by first | exact Nat.ne_of_lt (Nat.lt_of_lt_of_le (by have := World.block_lt_of_cell? _ _ hw272_4; first | rwa [add_block] at this | exact this) GW280.out) | (rw [add_block]; exact Nat.ne_of_lt (Nat.lt_of_lt_of_le (by have := World.block_lt_of_cell? _ _ hw272_4; first | rwa [add_block] at this | exact this) GW280.out)) | (show (Addr.add _ _).block ≠ _; rw [add_block]; exact Nat.ne_of_lt (Nat.lt_of_lt_of_le (by have := World.block_lt_of_cell? _ _ hw272_4; first | rwa [add_block] at this | exact this) GW280.out)) | (dsimp only; exact Nat.ne_of_lt (Nat.lt_of_lt_of_le (by have := World.block_lt_of_cell? _ _ hw272_4; first | rwa [add_block] at this | exact this) GW280.out))) _).trans (((cell_far (p := ⟨gb280, _, none⟩) (by first | exact Nat.ne_of_lt (Nat.lt_of_lt_of_le (by have := World.block_lt_of_cell? _ _ hw272_4; first | rwa [add_block] at this | exact this) GW280.out) | (rw [add_block]; exact Nat.ne_of_lt (Nat.lt_of_lt_of_le (by have := World.block_lt_of_cell? _ _ hw272_4; first | rwa [add_block] at this | exact this) GW280.out)) | (show (Addr.add _ _).block ≠ _; rw [add_block]; exact Nat.ne_of_lt (Nat.lt_of_lt_of_le (by have := World.block_lt_of_cell? _ _ hw272_4; first | rwa [add_block] at this | exact this) GW280.out)) | (dsimp only; exact Nat.ne_of_lt (Nat.lt_of_lt_of_le (by have := World.block_lt_of_cell? _ _ hw272_4; first | rwa [add_block] at this | exact this) GW280.out))) _).trans (((cell_far (p := ⟨gb280, _, none⟩) (by first | exact Nat.ne_of_lt (Nat.lt_of_lt_of_le (by have := World.block_lt_of_cell? _ _ hw272_4; first | rwa [add_block] at this | exact this) GW280.out) | (rw [add_block]; exact Nat.ne_of_lt (Nat.lt_of_lt_of_le (by have := World.block_lt_of_cell? _ _ hw272_4; first | rwa [add_block] at this | exact this) GW280.out)) | (show (Addr.add _ _).block ≠ _; rw [add_block]; exact Nat.ne_of_lt (Nat.lt_of_lt_of_le (by have := World.block_lt_of_cell? _ _ hw272_4; first | rwa [add_block] at this | exact this) GW280.out)) | (dsimp only; exact Nat.ne_of_lt (Nat.lt_of_lt_of_le (by have := World.block_lt_of_cell? _ _ hw272_4; first | rwa [add_block] at this | exact this) GW280.out))) _).trans (hHeld.2.2.2.2.2.2.2.2.2.2))))))))))))⟩ (fun hHeld => ?_)
                  clear hK K
                  refine pur 12 (some 15) #[true, true, true, true, true, true, true, true, true, true, true, true, true] HT_ ?_
                  refine done_ (done_of HT_.out (by kernel_rfl)) ?_
                  have hnb88 := NB280_248.out
                  have hnc88 := NB248_280.out
                  have hnb89 := NB280_249.out
                  have hnc89 := NB249_280.out
                  obtain ⟨z0, z1, z2, z3, z4, z5, y0, y1, y2, y3, y4, y5⟩ := bc6 BK280
                  have hnb91 := NB249_248.out
                  have hnc91 := NB248_249.out
                  obtain ⟨z0, z1, z2, z3, z4, z5, y0, y1, y2, y3, y4, y5⟩ := bc6 BK249
                  try go_wp2
                  go_meet
                  case rel => exact ⟨_, (t273), (t274), (t275), (t276), (t277), (t278), H', ⟨by have := HJ3.out; have := HK2.out; have := HJ21.out; have := HJ24.out; have := HJ56.out; first | omega | exact Nat.le_refl _⟩, bkmA BK248, bkpA BK249, hbA HB⟩
                ·rw [if_neg c65] at H
                 exact absurd H (by simp)
               ·rw [if_neg c64] at H
                exact absurd H (by simp)
              ·replace c63 := Bool.eq_false_iff.mpr c63
               subst c63
               rw [if_neg (show ¬ (false = true) by decide)] at H
               have H' := Aside0.mk H
               clear H
               go_wp2
               go_meet
               case rel => exact ⟨_, (x250000_24), (x250001_24), (x250002_24), (x250003_24), (x250004_24), (x250005_24), H', ⟨by have := HJ3.out; have := HK2.out; have := HJ21.out; have := HJ24.out; have := HJ56.out; first | omega | exact Nat.le_refl _⟩, bkA BK248, bkA BK249, hbA HB⟩
             case rest =>
              clear HC62
              try clear c1
              try clear c2
              obtain ⟨kq, x250000_61, x250001_61, x250002_61, x250003_61, x250004_61, x250005_61, HA, HJ61, BK248, BK249, HB⟩ := hcut
              cases kq with
              | zero => exact absurd HA.out (by simp [hopmeshlaw49_InstallNothing.j5])
              | succ kj61 =>
               have H := HA.out
               clear HA
               simp only [hopmeshlaw49_InstallNothing.j5] at H
               replace H := Option.bind_eq_some_iff.mp H
               obtain ⟨⟨t281, t282, t283, t284, t285, t286, t287, t288⟩, A930, H⟩ := H
               (try dsimp only at H)
               have A93 := Aside0.mk A930
               clear A930
               by_cases c94 : t288 = 0
               ·rw [if_pos c94] at H
                have c94b0 : (t288 == 0) = true := beq_iff_eq.mpr c94
                have c94b1 : (t288 != 0) = false := bne_eq_false_iff_eq.mpr c94
                clear c94
                by_cases c95 : mhas x249000_24 t281 = true
                ·rw [if_pos c95] at H
                 by_cases c96 : t287 = true
                 ·subst c96
                  rw [if_pos rfl] at H
                  by_cases c97 : x250002_61 = true
                  ·subst c97
                   rw [if_pos rfl] at H
                   replace H := Option.bind_eq_some_iff.mp H
                   obtain ⟨t290, A980, H⟩ := H
                   (try dsimp only at H)
                   have A98 := Aside0.mk A980
                   clear A980
                   by_cases c99 : t290 = 0
                   ·rw [if_pos c99] at H
                    have c99b0 : (t290 == 0) = true := beq_iff_eq.mpr c99
                    have c99b1 : (t290 != 0) = false := bne_eq_false_iff_eq.mpr c99
                    clear c99
                    have H' := Aside0.mk H
                    clear H
                    have hnb100 := NB249_248.out
                    have hnc100 := NB248_249.out
                    obtain ⟨z0, z1, z2, z3, z4, z5, y0, y1, y2, y3, y4, y5⟩ := bc6 BK249
                    go_wp2_with (first | ((with_reducible refine gate_callee (f := 15) rfl ?_); refine goesL_ (some 108) rfl rfl Try.func15 (by kernel_rfl) rfl #[.agg #[.string x250000_61, .string x250001_61, .bool true, .string x250003_61, .int .i64 x250004_61, .int .i64 x250005_61], .int .i64 x9_21] rfl sma ?_; (with_reducible refine (install_Step.calls kj61 x250000_61 x250001_61 true x250003_61 x250004_61 x250005_61 x9_21 t281 t282 t283 t284 t285 t286 true t288 _ A93.out).mono ?_); rintro e w102 ⟨rfl, hb⟩; refine ⟨_, rfl, ?_⟩; replace BK248 := bkB BK248 hb; replace BK249 := bkB BK249 hb; replace HB := hbS HB hb; (try clear hb); (try clear hb2); (try clear hk); (try clear hi)) | ((with_reducible refine gate_dst (N := 16) rfl ?_); (try (refine gate_guard (by rfl) ?_; dsimp only)); refine boxE 16 #[.string (⟨#[]⟩ : ByteArray), .string (⟨#[]⟩ : ByteArray), .bool false, .string (⟨#[]⟩ : ByteArray), .int .i64 0, .int .i64 0] 28 ?_; intro gb289 hg w103 hbox hb; have BK289 := Aside0.mk (hbox); have GW289 := gw hg HB; have GE289 := gw hg HB; replace HB := hbS HB hb; have NB248_289 := nbl hg BK248; have NB289_248 := nbg hg BK248; replace BK248 := bkB BK248 hb; have NB249_289 := nbl hg BK249; have NB289_249 := nbg hg BK249; replace BK249 := bkB BK249 hb; clear hb hbox hg; have hnb104 := NB289_248.out; have hnc104 := NB248_289.out; have hnb105 := NB289_249.out; have hnc105 := NB249_289.out; obtain ⟨z0, z1, z2, z3, z4, z5, y0, y1, y2, y3, y4, y5⟩ := bc6 BK289; obtain ⟨z0, z1, z2, z3, z4, z5, y0, y1, y2, y3, y4, y5⟩ := bc6 BK249) | (go_at_call 16; (with_reducible refine (install_Check.calls kj61 t281 t282 t283 t284 t285 t286 t290 _ A98.out).mono ?_); rintro e w109 ⟨rfl, hb⟩; replace BK248 := bkmB BK248 hb; replace BK249 := bkfB BK249 hb; replace BK289 := Aside0.mk (blk_below (o := .cells #[.string t281, .string t282, .bool t283, .string t284, .int .i64 t285, .int .i64 t286] 28 (0, 0)) (bkp BK289) hb); replace HB := hbS HB hb; (try clear hb); (try clear hb2); (try clear hk); (try clear hi); obtain ⟨z0, z1, z2, z3, z4, z5, y0, y1, y2, y3, y4, y5⟩ := bc6 BK289; obtain ⟨z0, z1, z2, z3, z4, z5, y0, y1, y2, y3, y4, y5⟩ := bc6 BK249) | ((with_reducible refine gate_dst (N := 118) rfl ?_); (try (refine gate_guard (by rfl) ?_; dsimp only)); refine look_event gb248 x249000_24 t281 true 26 9 4 _ _ Try.underlying26 Try.underlying9 (zero4 _) (bkm BK248) c95 ?_))
                    go_roundg kj61
                    case measure => have := HJ3.out; have := HK2.out; have := HJ21.out; have := HJ24.out; have := HJ56.out; have := HJ61.out; omega
                    case rel => exact ⟨(x9_21), (wrap64 (x45_2 + 1)), (x249000_24), (t281), (t282), (t283), (t284), (t285), (t286), rfs, rfs, H', ⟨by have := HJ3.out; have := HK2.out; have := HJ21.out; have := HJ24.out; have := HJ56.out; have := HJ61.out; omega⟩, bkmA BK248, bkpA BK249, hbA HB⟩
                   ·rw [if_neg c99] at H
                    exact absurd H (by simp)
                  ·replace c97 := Bool.eq_false_iff.mpr c97
                   subst c97
                   rw [if_neg (show ¬ (false = true) by decide)] at H
                   exact absurd H (by simp)
                 ·replace c96 := Bool.eq_false_iff.mpr c96
                  subst c96
                  rw [if_neg (show ¬ (false = true) by decide)] at H
                  replace H := Option.bind_eq_some_iff.mp H
                  obtain ⟨t291, A1120, H⟩ := H
                  (try dsimp only at H)
                  have A112 := Aside0.mk A1120
                  clear A1120
                  by_cases c113 : t291 = 0
                  ·rw [if_pos c113] at H
                   have c113b0 : (t291 == 0) = true := beq_iff_eq.mpr c113
                   have c113b1 : (t291 != 0) = false := bne_eq_false_iff_eq.mpr c113
                   clear c113
                   have H' := Aside0.mk H
                   clear H
                   have hnb114 := NB249_248.out
                   have hnc114 := NB248_249.out
                   obtain ⟨z0, z1, z2, z3, z4, z5, y0, y1, y2, y3, y4, y5⟩ := bc6 BK249
                   go_wp2_with (first | ((with_reducible refine gate_callee (f := 15) rfl ?_); refine goesL_ (some 108) rfl rfl Try.func15 (by kernel_rfl) rfl #[.agg #[.string x250000_61, .string x250001_61, .bool x250002_61, .string x250003_61, .int .i64 x250004_61, .int .i64 x250005_61], .int .i64 x9_21] rfl sma ?_; (with_reducible refine (install_Step.calls kj61 x250000_61 x250001_61 x250002_61 x250003_61 x250004_61 x250005_61 x9_21 t281 t282 t283 t284 t285 t286 false t288 _ A93.out).mono ?_); rintro e w116 ⟨rfl, hb⟩; refine ⟨_, rfl, ?_⟩; replace BK248 := bkB BK248 hb; replace BK249 := bkB BK249 hb; replace HB := hbS HB hb; (try clear hb); (try clear hb2); (try clear hk); (try clear hi)) | ((with_reducible refine gate_dst (N := 16) rfl ?_); (try (refine gate_guard (by rfl) ?_; dsimp only)); refine boxE 16 #[.string (⟨#[]⟩ : ByteArray), .string (⟨#[]⟩ : ByteArray), .bool false, .string (⟨#[]⟩ : ByteArray), .int .i64 0, .int .i64 0] 28 ?_; intro gb289 hg w117 hbox hb; have BK289 := Aside0.mk (hbox); have GW289 := gw hg HB; have GE289 := gw hg HB; replace HB := hbS HB hb; have NB248_289 := nbl hg BK248; have NB289_248 := nbg hg BK248; replace BK248 := bkB BK248 hb; have NB249_289 := nbl hg BK249; have NB289_249 := nbg hg BK249; replace BK249 := bkB BK249 hb; clear hb hbox hg; have hnb118 := NB289_248.out; have hnc118 := NB248_289.out; have hnb119 := NB289_249.out; have hnc119 := NB249_289.out; obtain ⟨z0, z1, z2, z3, z4, z5, y0, y1, y2, y3, y4, y5⟩ := bc6 BK289) | (go_at_call 16; (with_reducible refine (install_Check.calls kj61 t281 t282 t283 t284 t285 t286 t291 _ A112.out).mono ?_); rintro e w122 ⟨rfl, hb⟩; replace BK248 := bkmB BK248 hb; replace BK249 := bkfB BK249 hb; replace BK289 := Aside0.mk (blk_below (o := .cells #[.string t281, .string t282, .bool t283, .string t284, .int .i64 t285, .int .i64 t286] 28 (0, 0)) (bkp BK289) hb); replace HB := hbS HB hb; (try clear hb); (try clear hb2); (try clear hk); (try clear hi); obtain ⟨z0, z1, z2, z3, z4, z5, y0, y1, y2, y3, y4, y5⟩ := bc6 BK289; obtain ⟨z0, z1, z2, z3, z4, z5, y0, y1, y2, y3, y4, y5⟩ := bc6 BK249) | ((with_reducible refine gate_dst (N := 118) rfl ?_); (try (refine gate_guard (by rfl) ?_; dsimp only)); refine look_event gb248 x249000_24 t281 true 26 9 4 _ _ Try.underlying26 Try.underlying9 (zero4 _) (bkm BK248) c95 ?_))
                   go_roundg kj61
                   case measure => have := HJ3.out; have := HK2.out; have := HJ21.out; have := HJ24.out; have := HJ56.out; have := HJ61.out; omega
                   case rel => exact ⟨(x9_21), (wrap64 (x45_2 + 1)), (x249000_24), (t281), (t282), (t283), (t284), (t285), (t286), rfs, rfs, H', ⟨by have := HJ3.out; have := HK2.out; have := HJ21.out; have := HJ24.out; have := HJ56.out; have := HJ61.out; omega⟩, bkmA BK248, bkpA BK249, hbA HB⟩
                  ·rw [if_neg c113] at H
                   exact absurd H (by simp)
                ·rw [if_neg c95] at H
                 exact absurd H (by simp)
               ·rw [if_neg c94] at H
                exact absurd H (by simp)
      ·rw [if_neg c21] at H
       have c21b0 : decide (x45_2 < ji16) = false := decide_eq_false c21
       clear c21
       obtain rfl := Option.some.inj H
       go_wp2
       go_ret
       exact ⟨by first | rfl | (simp [errW_none, errW_some] <;> rfl) | (simp only [← hji16]; first | rfl | (simp [errW_none, errW_some] <;> rfl)) | (simp [*, errW_none, errW_some] <;> rfl), hbx HB⟩
end Go.Proofs.Ytdigplhjfjchnaa.PQ
