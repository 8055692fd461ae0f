-- Printed by fprint.py and zip.py, programs of this session's, over the kit's print; Lean checks it.
import Derived.Test.YtdigplhjfjchnaaZ0
import Derived.Test.YtdigplhjfjchnaaZf16
import Derived.Test.YtdigplhjfjchnaaZf43
import Derived.Test.YtdigplhjfjchnaaZf44
import Derived.Test.YtdigplhjfjchnaaZf75
namespace Go.Proofs.Ytdigplhjfjchnaa.PQ
open Go.RowKit Go.Proofs.YtdigplhjfjchnaaW.PrintWords Go.Proofs.YtdigplhjfjchnaaW.PrintLast Go.Proofs.YtdigplhjfjchnaaW.PrintMore
attribute [local go_sem] max2_int min2_int max_two min_two max_three min_three max_four min_four   -- for this text's walks alone
set_option linter.unusedVariables false
set_option linter.unusedSimpArgs false
theorem install_Take_1.calls (a0 a1 : Int) (g : Nat) (w : World) (hg : w.heap[g]? = some (.cells #[.int .i64 a1] 3 (0, 0))) :
 Calls Try.prog 46 #[.int .i64 a0, .pointer (some ⟨g, 0, none⟩)] w fun e w' => e = .returned (.bool (a0 == a1)) ∧ Drawn0 w w' := by
 have hc0 : w.cell? ⟨g, 0, none⟩ = some (.int .i64 a1) := (blk_cell hg 0).trans rfl
 clear hg
 go_enter Try.func46, Try.ntmps46
 go_wp2
 go_ret
 exact ⟨rfl, Drawn0.refl _⟩
set_option maxHeartbeats 8000000 in
set_option maxRecDepth 100000 in
theorem take_index.calls (k : Nat) (A0 : Option Addr) (c0 : Nat) (l0 : List Int) (a1 : Int) (r : Int) (g : Nat) (w : World) (hr0 : Kd.C (Kd.int .i64) w A0 l0.length l0) (hc0 : l0.length ≤ c0)
 (hg : w.heap[g]? = some (.cells #[.int .i64 a1] 3 (0, 0))) (h : slices_Index_int_int.f k l0 a1 = some r) :
 Calls Try.prog 73 #[.slice A0 l0.length c0, .func (.func 46) #[] #[.pointer (some ⟨g, 0, none⟩)]] w fun e w' => e = .returned (.int .i64 r) ∧ Drawn0 w w' := by
 have HR0 := Aside0.mk hr0
 have HC0 := Aside0.mk hc0
 have HG := Aside0.mk hg
 clear hr0 hc0 hg
 have H : (slices_Index_int_int.l0 k l0 a1 (l0.length : Int) 0) = some r := h
 clear h
 have H' := Aside0.mk H
 clear H
 go_enter Try.func73, Try.ntmps73
 go_wp2
 go_loopg [8] k (fun kq v8 w' => ∃ (x8_1 : Int), v8 = .int .i64 x8_1 ∧ Aside0 (slices_Index_int_int.l0 kq l0 a1 (l0.length : Int) x8_1 = some r) ∧ Aside0 (kq ≤ k) ∧ Drawn0 w w')
 case atStart => exact ⟨(0), rfs, H', ⟨Nat.le_refl _⟩, by repeat (first | exact Drawn0.refl _ | apply Drawn0.step)⟩
 case round =>
  clear H'
  obtain ⟨x8_1, rfl, HA, HK1, ⟨m1, rfl⟩⟩ := hrel
  cases gk with
  | zero => exact absurd HA.out (by simp [slices_Index_int_int.l0])
  | succ k1 =>
   have H := HA.out
   clear HA
   simp only [slices_Index_int_int.l0] at H
   by_cases c3 : x8_1 < (l0.length : Int)
   ·rw [if_pos c3] at H
    have c3b0 : decide (x8_1 < (l0.length : Int)) = true := decide_eq_true c3
    clear c3
    by_cases c4 : 0 ≤ x8_1
    ·rw [if_pos c4] at H
     have c4b0 : decide (0 ≤ x8_1) = true := decide_eq_true c4
     clear c4
     by_cases c5 : x8_1 < (l0.length : Int)
     ·rw [if_pos c5] at H
      have c5b0 : decide (x8_1 < (l0.length : Int)) = true := decide_eq_true c5
      clear c5
      have p352 : 0 ≤ (x8_1 : Int) := pos_
      have q352 : x8_1 < (l0.length : Int) := pos_
      obtain ⟨ad352, e352, hx352_0⟩ := Kd.at_int HR0.out x8_1 p352 q352
      cases e352
      replace p352 := eq_true p352
      replace q352 := eq_true q352
      by_cases c6 : a1 = (rd l0 x8_1)
      ·rw [if_pos c6] at H
       have c6b0 : ((rd l0 x8_1) == a1) = true := beq_iff_eq.mpr c6.symm
       clear c6
       obtain rfl := Option.some.inj H
       go_wp2_with (go_at_call 46; (with_reducible refine (install_Take_1.calls (rd l0 x8_1) a1 g _ ?side1).mono ?_); (case side1 => exact blk_drewN HG.out _); rintro e w' ⟨rfl, ⟨nd, rfl⟩⟩)
       go_ret
       exact ⟨by first | rfl | (simp; done) | (simp [*]; done), by repeat (first | exact Drawn0.refl _ | apply Drawn0.step)⟩
      ·rw [if_neg c6] at H
       have c6b0 : ((rd l0 x8_1) == a1) = false := beq_eq_false_iff_ne.mpr (fun e => c6 e.symm)
       clear c6
       have H' := Aside0.mk H
       clear H
       go_wp2_with (go_at_call 46; (with_reducible refine (install_Take_1.calls (rd l0 x8_1) a1 g _ ?side1).mono ?_); (case side1 => exact blk_drewN HG.out _); rintro e w' ⟨rfl, ⟨nd, rfl⟩⟩)
       go_roundg k1
       case measure => have := HK1.out; omega
       case rel => exact ⟨(wrap64 (x8_1 + 1)), rfs, H', ⟨by have := HK1.out; omega⟩, by repeat (first | exact Drawn0.refl _ | apply Drawn0.step)⟩
     ·rw [if_neg c5] at H
      exact absurd H (by simp)
    ·rw [if_neg c4] at H
     exact absurd H (by simp)
   ·rw [if_neg c3] at H
    have c3b0 : decide (x8_1 < (l0.length : Int)) = false := decide_eq_false c3
    clear c3
    obtain rfl := Option.some.inj H
    go_wp2
    go_ret
    exact ⟨by first | rfl | (simp; done) | (simp [*]; done), by repeat (first | exact Drawn0.refl _ | apply Drawn0.step)⟩
def take_contains.f (k : Nat) (l0 : List Int) (a1 : Int) : Option (Bool) := (slices_Index_int_int.f k l0 a1).bind fun t => (some (decide (t ≥ 0)))
theorem take_contains.mono : ∀ a0 a1 k, LeO (take_contains.f k a0 a1) (take_contains.f (k + 1) a0 a1) := by
 intro a0 a1 k
 unfold take_contains.f
 exact LeO.bind (slices_Index_int_int.mono _ _ _) (fun _ => LeO.refl _)
set_option maxHeartbeats 8000000 in
set_option maxRecDepth 100000 in
theorem take_contains.calls (k : Nat) (A0 : Option Addr) (c0 : Nat) (l0 : List Int) (a1 : Int) (r : Bool) (g : Nat) (w : World) (hr0 : Kd.C (Kd.int .i64) w A0 l0.length l0) (hc0 : l0.length ≤ c0)
 (hg : w.heap[g]? = some (.cells #[.int .i64 a1] 3 (0, 0))) (h : take_contains.f k l0 a1 = some r) :
 Calls Try.prog 45 #[.slice A0 l0.length c0, .func (.func 46) #[] #[.pointer (some ⟨g, 0, none⟩)]] w fun e w' => e = .returned (.bool r) ∧ Drawn0 w w' := by
 have HR0 := Aside0.mk hr0
 have HC0 := Aside0.mk hc0
 have HG := Aside0.mk hg
 clear hr0 hc0 hg
 have H : ((slices_Index_int_int.f k l0 a1).bind fun t => (some (decide (t ≥ 0)))) = some r := h
 clear h
 replace H := Option.bind_eq_some_iff.mp H
 obtain ⟨t, A1, H⟩ := H
 obtain rfl := Option.some.inj H
 have A2 := Aside0.mk A1
 clear A1 H
 go_enter Try.func45, Try.ntmps45
 go_wp2_with (go_at_call 73; (with_reducible refine (take_index.calls k _ _ l0 a1 t g _ HR0.out HC0.out HG.out A2.out).mono ?_); rintro e w' ⟨rfl, ⟨nd, rfl⟩⟩)
 go_ret
 exact ⟨by first | rfl | (simp; done) | (simp [*]; done), by repeat (first | exact Drawn0.refl _ | apply Drawn0.step)⟩
mutual
def install_Take.j0 : Nat → Int → Bool → ByteArray → ByteArray → Bool → ByteArray → Int → Int → Int → Int → Int → ByteArray → List Int → Int → Option (ByteArray × ByteArray × Bool × ByteArray × Int × Int × Int)
 | 0, _, _, _, _, _, _, _, _, _, _, _, _, _, _ => none
 | k + 1, x3, x11, x125000, x125001, x125002, x125003, x125004, x125005, x126000, x126001, x126002, x126003, x126004, x127000 => if x11 = true then (some ((⟨#[]⟩ : ByteArray), (⟨#[]⟩ : ByteArray), false, (⟨#[]⟩ : ByteArray), 0, 0, 1)) else (if x127000 < 0 then (install_Take.j1 k x3 true x125000 x125001 x125002 x125003 x125004 x125005 x126000 x126001 x126002 x126003 x126004 x127000) else (if x127000 ≥ 32 then (install_Take.j1 k x3 true x125000 x125001 x125002 x125003 x125004 x125005 x126000 x126001 x126002 x126003 x126004 x127000) else (if x3 < 0 then (install_Take.j1 k x3 true x125000 x125001 x125002 x125003 x125004 x125005 x126000 x126001 x126002 x126003 x126004 x127000) else (install_Take.j1 k x3 (decide (x3 > 1073741824)) x125000 x125001 x125002 x125003 x125004 x125005 x126000 x126001 x126002 x126003 x126004 x127000))))
def install_Take.j1 : Nat → Int → Bool → ByteArray → ByteArray → Bool → ByteArray → Int → Int → Int → Int → Int → ByteArray → List Int → Int → Option (ByteArray × ByteArray × Bool × ByteArray × Int × Int × Int)
 | 0, _, _, _, _, _, _, _, _, _, _, _, _, _, _ => none
 | k + 1, x3, x21, x125000, x125001, x125002, x125003, x125004, x125005, x126000, x126001, x126002, x126003, x126004, x127000 => if x21 = true then (some ((⟨#[]⟩ : ByteArray), (⟨#[]⟩ : ByteArray), false, (⟨#[]⟩ : ByteArray), 0, 0, 2)) else (if x126000 ≤ x125005 then (some (x125000, x125001, x125002, x125003, x125004, x125005, 23)) else ((take_contains.f k x126004 x127000).bind fun t130 => (if t130 = true then (if x126001 = 2 then (if x125002 = true then (if x125003.toList = x126003.toList then ((install_disarm.f x125000 x125001 x125002 x125003 x125004 x126000).bind fun bt131 => (some (bt131.1, bt131.2.1, bt131.2.2.1, bt131.2.2.2.1, bt131.2.2.2.2.1, bt131.2.2.2.2.2, 0))) else (some (x125000, x125001, x125002, x125003, x125004, x126000, 0))) else (some (x125000, x125001, x125002, x125003, x125004, x126000, 0))) else (if x125001.toList = x126003.toList then (if x126002 ≤ x3 then (some (x125000, x125001, x125002, x125003, x125004, x126000, 15)) else (some (x125000, x125001, true, x126003, x126002, x126000, 0))) else (some (x125000, x125001, x125002, x125003, x125004, x126000, 7)))) else (some (x125000, x125001, x125002, x125003, x125004, x126000, 0)))))
end
def install_Take.f (k : Nat) (a0_0 : ByteArray) (a0_1 : ByteArray) (a0_2 : Bool) (a0_3 : ByteArray) (a0_4 : Int) (a0_5 : Int) (a1_0 : Int) (a1_1 : Int) (a1_2 : Int) (a1_3 : ByteArray) (l1_4 : List Int) (a2 : Int) (a3 : Int) : Option (ByteArray × ByteArray × Bool × ByteArray × Int × Int × Int) := (install_Check.f k a0_0 a0_1 a0_2 a0_3 a0_4 a0_5).bind fun t128 => (if t128 = 0 then ((install_command.f k a1_0 a1_1 a1_2 a1_3 l1_4).bind fun t129 => (install_Take.j0 k a3 (!t129) a0_0 a0_1 a0_2 a0_3 a0_4 a0_5 a1_0 a1_1 a1_2 a1_3 l1_4 a2)) else (install_Take.j0 k a3 true a0_0 a0_1 a0_2 a0_3 a0_4 a0_5 a1_0 a1_1 a1_2 a1_3 l1_4 a2))
theorem install_Take.mono_l : ∀ k, (∀ y0 y1 y2 y3 y4 y5 y6 y7 y8 y9 y10 y11 y12 y13, LeO (install_Take.j0 k y0 y1 y2 y3 y4 y5 y6 y7 y8 y9 y10 y11 y12 y13) (install_Take.j0 (k + 1) y0 y1 y2 y3 y4 y5 y6 y7 y8 y9 y10 y11 y12 y13)) ∧ (∀ y0 y1 y2 y3 y4 y5 y6 y7 y8 y9 y10 y11 y12 y13, LeO (install_Take.j1 k y0 y1 y2 y3 y4 y5 y6 y7 y8 y9 y10 y11 y12 y13) (install_Take.j1 (k + 1) y0 y1 y2 y3 y4 y5 y6 y7 y8 y9 y10 y11 y12 y13))
 | 0 => ⟨fun _ _ _ _ _ _ _ _ _ _ _ _ _ _ r h => by simp [install_Take.j0] at h, fun _ _ _ _ _ _ _ _ _ _ _ _ _ _ r h => by simp [install_Take.j1] at h⟩
 | k + 1 => by
  obtain ⟨ih0, ih1⟩ := install_Take.mono_l k
  refine ⟨?_, ?_⟩
  ·intro y0 y1 y2 y3 y4 y5 y6 y7 y8 y9 y10 y11 y12 y13
   unfold install_Take.j0
   repeat' first
   | (with_reducible exact ih0 _ _ _ _ _ _ _ _ _ _ _ _ _ _)
   | (with_reducible exact ih1 _ _ _ _ _ _ _ _ _ _ _ _ _ _)
   | (with_reducible exact install_Check.mono _ _ _ _ _ _ _)
   | (with_reducible exact install_command.mono _ _ _ _ _ _)
   | (with_reducible exact take_contains.mono _ _ _)
   | (with_reducible exact LeO.refl _)
   | (with_reducible exact LeO.none _)
   | (with_reducible refine LeO.ite ?_ ?_)
   | (with_reducible refine LeO.bind ?_ (fun _ => ?_))
   | exact ih0 _ _ _ _ _ _ _ _ _ _ _ _ _ _
   | exact ih1 _ _ _ _ _ _ _ _ _ _ _ _ _ _
   | exact install_Check.mono _ _ _ _ _ _ _
   | exact install_command.mono _ _ _ _ _ _
   | exact take_contains.mono _ _ _
   | exact LeO.none _
   | refine LeO.ite ?_ ?_
   | refine LeO.bind ?_ (fun _ => ?_)
  ·intro y0 y1 y2 y3 y4 y5 y6 y7 y8 y9 y10 y11 y12 y13
   unfold install_Take.j1
   repeat' first
   | (with_reducible exact ih0 _ _ _ _ _ _ _ _ _ _ _ _ _ _)
   | (with_reducible exact ih1 _ _ _ _ _ _ _ _ _ _ _ _ _ _)
   | (with_reducible exact install_Check.mono _ _ _ _ _ _ _)
   | (with_reducible exact install_command.mono _ _ _ _ _ _)
   | (with_reducible exact take_contains.mono _ _ _)
   | (with_reducible exact LeO.refl _)
   | (with_reducible exact LeO.none _)
   | (with_reducible refine LeO.ite ?_ ?_)
   | (with_reducible refine LeO.bind ?_ (fun _ => ?_))
   | exact ih0 _ _ _ _ _ _ _ _ _ _ _ _ _ _
   | exact ih1 _ _ _ _ _ _ _ _ _ _ _ _ _ _
   | exact install_Check.mono _ _ _ _ _ _ _
   | exact install_command.mono _ _ _ _ _ _
   | exact take_contains.mono _ _ _
   | exact LeO.none _
   | refine LeO.ite ?_ ?_
   | refine LeO.bind ?_ (fun _ => ?_)
theorem install_Take.mono : ∀ a0 a1 a2 a3 a4 a5 a6 a7 a8 a9 a10 a11 a12 k, LeO (install_Take.f k a0 a1 a2 a3 a4 a5 a6 a7 a8 a9 a10 a11 a12) (install_Take.f (k + 1) a0 a1 a2 a3 a4 a5 a6 a7 a8 a9 a10 a11 a12) := by
 intro a0 a1 a2 a3 a4 a5 a6 a7 a8 a9 a10 a11 a12 k
 obtain ⟨ih0, ih1⟩ := install_Take.mono_l k
 unfold install_Take.f
 repeat' first
  | (with_reducible exact ih0 _ _ _ _ _ _ _ _ _ _ _ _ _ _)
  | (with_reducible exact ih1 _ _ _ _ _ _ _ _ _ _ _ _ _ _)
  | (with_reducible exact install_Check.mono _ _ _ _ _ _ _)
  | (with_reducible exact install_command.mono _ _ _ _ _ _)
  | (with_reducible exact take_contains.mono _ _ _)
  | (with_reducible exact LeO.refl _)
  | (with_reducible exact LeO.none _)
  | (with_reducible refine LeO.ite ?_ ?_)
  | (with_reducible refine LeO.bind ?_ (fun _ => ?_))
  | exact ih0 _ _ _ _ _ _ _ _ _ _ _ _ _ _
  | exact ih1 _ _ _ _ _ _ _ _ _ _ _ _ _ _
  | exact install_Check.mono _ _ _ _ _ _ _
  | exact install_command.mono _ _ _ _ _ _
  | exact take_contains.mono _ _ _
  | exact LeO.none _
  | refine LeO.ite ?_ ?_
  | refine LeO.bind ?_ (fun _ => ?_)
def install_Take.T19 : Bool × List (List Nat × List Nat) := (true, [([], []), ([0], [0]), ([], []), ([2], [2]), ([], []), ([4], [4]), ([0, 1, 4, 5], []), ([6, 1, 5, 0, 1, 4, 5], [1, 6]), ([0, 1, 2, 3, 4, 5, 6, 7], []), ([8, 3, 7, 0, 1, 2, 3, 4, 5, 6, 7], [3, 8])])
def install_Take.B19 : List Nat := [0, 1, 0, 4, 0, 16, 51, 115, 255, 511]
theorem install_Take.tab19 : rtab .any (opsOf Try.f14 19) = install_Take.T19 := by kernel_rfl
theorem install_Take.bits19 : waitsOk install_Take.T19.2 install_Take.B19 = true := by kernel_rfl
set_option maxHeartbeats 8000000 in
set_option maxRecDepth 100000 in
theorem install_Take.calls (k : Nat) (a0_0 : ByteArray) (a0_1 : ByteArray) (a0_2 : Bool) (a0_3 : ByteArray) (a0_4 : Int) (a0_5 : Int) (a1_0 : Int) (a1_1 : Int) (a1_2 : Int) (a1_3 : ByteArray) (A1_4 : Option Addr) (c1_4 : Nat) (l1_4 : List Int) (a2 : Int) (a3 : Int) (r1 : ByteArray) (r2 : ByteArray) (r3 : Bool) (r4 : ByteArray) (r5 : Int) (r6 : Int) (r7 : Int) (w : World) (hr1_4 : Kd.C (Kd.int .i64) w A1_4 l1_4.length l1_4) (hc1_4 : l1_4.length ≤ c1_4) (h : install_Take.f k a0_0 a0_1 a0_2 a0_3 a0_4 a0_5 a1_0 a1_1 a1_2 a1_3 l1_4 a2 a3 = some (r1, r2, r3, r4, r5, r6, r7)) :
 Calls Try.prog 14 #[.agg #[.string a0_0, .string a0_1, .bool a0_2, .string a0_3, .int .i64 a0_4, .int .i64 a0_5], .agg #[.int .i64 a1_0, .int .i64 a1_1, .int .i64 a1_2, .string a1_3, .slice A1_4 l1_4.length c1_4], .int .i64 a2, .int .i64 a3] w fun e w' => e = .returned (.tuple #[.agg #[.string r1, .string r2, .bool r3, .string r4, .int .i64 r5, .int .i64 r6], .int .i64 r7]) ∧ Below w.heap.size w w' := by
 have hu28 := Try.underlying28
 have hu36 := Try.underlying36
 have HR1_4 := Aside0.mk hr1_4
 have HC1_4 := Aside0.mk hc1_4
 clear hr1_4 hc1_4
 have HB := Aside0.mk (Below.refl w.heap.size w)
 have H : ((install_Check.f k a0_0 a0_1 a0_2 a0_3 a0_4 a0_5).bind fun t128 => (if t128 = 0 then ((install_command.f k a1_0 a1_1 a1_2 a1_3 l1_4).bind fun t129 => (install_Take.j0 k a3 (!t129) a0_0 a0_1 a0_2 a0_3 a0_4 a0_5 a1_0 a1_1 a1_2 a1_3 l1_4 a2)) else (install_Take.j0 k a3 true a0_0 a0_1 a0_2 a0_3 a0_4 a0_5 a1_0 a1_1 a1_2 a1_3 l1_4 a2))) = some (r1, r2, r3, r4, r5, r6, r7) := h
 clear h
 have HC5 := Aside0.mk H
 clear H
 go_enter Try.func14, Try.ntmps14
 go_upto_region 1 with (first | ((with_reducible refine gate_dst (N := 4) rfl ?_); refine boxE 4 #[.string a0_0, .string a0_1, .bool a0_2, .string a0_3, .int .i64 a0_4, .int .i64 a0_5] 28 ?_; intro gb124 hg w6 hbox hb; have BK124 := Aside0.mk (hbox); have GW124 := gw hg HB; have GE124 := gw hg HB; replace HB := hbS HB hb; clear hb hbox hg) | ((with_reducible refine gate_dst (N := 5) rfl ?_); refine boxE 5 #[.int .i64 a1_0, .int .i64 a1_1, .int .i64 a1_2, .string a1_3, .slice A1_4 l1_4.length c1_4] 36 ?_; intro gb125 hg w7 hbox hb; have BK125 := Aside0.mk (hbox); have GW125 := gw hg HB; have GE125 := gw hg HB; replace HB := hbS HB hb; have NB124_125 := nbl hg BK124; have NB125_124 := nbg hg BK124; replace BK124 := bkB BK124 hb; clear hb hbox hg) | ((with_reducible refine gate_dst (N := 6) rfl ?_); refine boxE 6 #[.int .i64 a2] 3 ?_; intro gb126 hg w8 hbox hb; have BK126 := Aside0.mk (hbox); have GW126 := gw hg HB; have GE126 := gw hg HB; replace HB := hbS HB hb; have NB124_126 := nbl hg BK124; have NB126_124 := nbg hg BK124; replace BK124 := bkB BK124 hb; have NB125_126 := nbl hg BK125; have NB126_125 := nbg hg BK125; replace BK125 := bkB BK125 hb; clear hb hbox hg) | ((with_reducible refine gate_dst (N := 8) rfl ?_); refine boxE 8 #[.string (⟨#[]⟩ : ByteArray), .string (⟨#[]⟩ : ByteArray), .bool false, .string (⟨#[]⟩ : ByteArray), .int .i64 0, .int .i64 0] 28 ?_; intro gb127 hg w9 hbox hb; have BK127 := Aside0.mk (hbox); have GW127 := gw hg HB; have GE127 := gw hg HB; replace HB := hbS HB hb; have NB124_127 := nbl hg BK124; have NB127_124 := nbg hg BK124; replace BK124 := bkB BK124 hb; have NB125_127 := nbl hg BK125; have NB127_125 := nbg hg BK125; replace BK125 := bkB BK125 hb; have NB126_127 := nbl hg BK126; have NB127_126 := nbg hg BK126; replace BK126 := bkB BK126 hb; clear hb hbox hg))
 (try simp only [Act.put, List.setIfInBounds_toArray, List.set_cons_zero, List.set_cons_succ])
 go_cut [11] (fun v11 wc => ∃ (kq : Nat) (x11_4 : Bool), v11 = .bool x11_4 ∧ Aside0 (install_Take.j0 kq a3 x11_4 a0_0 a0_1 a0_2 a0_3 a0_4 a0_5 a1_0 a1_1 a1_2 a1_3 l1_4 a2 = some (r1, r2, r3, r4, r5, r6, r7)) ∧ Aside0 (kq ≤ k) ∧ Aside0 (wc.heap[gb124]? = some (.cells #[.string a0_0, .string a0_1, .bool a0_2, .string a0_3, .int .i64 a0_4, .int .i64 a0_5] 28 (0, 0))) ∧ Aside0 (wc.heap[gb125]? = some (.cells #[.int .i64 a1_0, .int .i64 a1_1, .int .i64 a1_2, .string a1_3, (.slice A1_4 l1_4.length c1_4)] 36 (0, 0))) ∧ Aside0 (wc.heap[gb126]? = some (.cells #[.int .i64 a2] 3 (0, 0))) ∧ Aside0 (wc.heap[gb127]? = some (.cells #[.string (⟨#[]⟩ : ByteArray), .string (⟨#[]⟩ : ByteArray), .bool false, .string (⟨#[]⟩ : ByteArray), .int .i64 0, .int .i64 0] 28 (0, 0))) ∧ Aside0 (Below w.heap.size w wc))
 case first =>
  have H := HC5.out
  clear HC5
  replace H := Option.bind_eq_some_iff.mp H
  obtain ⟨t128, A100, H⟩ := H
  (try dsimp only at H)
  have A10 := Aside0.mk A100
  clear A100
  by_cases c11 : t128 = 0
  ·rw [if_pos c11] at H
   have c11b0 : (t128 == 0) = true := beq_iff_eq.mpr c11
   have c11b1 : (t128 != 0) = false := bne_eq_false_iff_eq.mpr c11
   clear c11
   (first | rw [c11b0] | (simp only [i64_w, i32_w]; rw [c11b0]) | skip)
   replace H := Option.bind_eq_some_iff.mp H
   obtain ⟨t129, A120, H⟩ := H
   (try dsimp only at H)
   have A12 := Aside0.mk A120
   clear A120
   have H' := Aside0.mk H
   clear H
   have hnb13 := NB124_125.out
   have hnc13 := NB125_124.out
   have hnb14 := NB124_126.out
   have hnc14 := NB126_124.out
   have hnb15 := NB124_127.out
   have hnc15 := NB127_124.out
   obtain ⟨z0, z1, z2, z3, z4, z5, y0, y1, y2, y3, y4, y5⟩ := bc6 BK124
   go_wp2_with (first | ((with_reducible refine gate_callee (f := 16) rfl ?_); refine goesL_ (some 13) rfl rfl Try.func16 (by kernel_rfl) rfl #[.agg #[.string a0_0, .string a0_1, .bool a0_2, .string a0_3, .int .i64 a0_4, .int .i64 a0_5]] rfl sma ?_; (with_reducible refine (install_Check.calls k a0_0 a0_1 a0_2 a0_3 a0_4 a0_5 t128 _ A10.out).mono ?_); rintro e w17 ⟨rfl, hb⟩; refine ⟨_, rfl, ?_⟩; replace BK124 := bkB BK124 hb; replace BK125 := bkB BK125 hb; replace BK126 := bkB BK126 hb; replace BK127 := bkB BK127 hb; replace HB := hbS HB hb; (try clear hb); (try clear hb2); (try clear hk); (try clear hi); have hnb18 := NB125_126.out; have hnc18 := NB126_125.out; have hnb19 := NB125_127.out; have hnc19 := NB127_125.out; obtain ⟨z0, z1, z2, z3, z4, y0, y1, y2, y3, y4⟩ := bc5 BK125) | (go_at_call 44; (with_reducible refine (install_command.calls k a1_0 a1_1 a1_2 a1_3 _ _ l1_4 t129 _ (cb HR1_4 HB) HC1_4.out A12.out).mono ?_); rintro e w21 ⟨rfl, hb⟩; replace BK124 := bkB BK124 hb; replace BK125 := bkB BK125 hb; replace BK126 := bkB BK126 hb; replace BK127 := bkB BK127 hb; replace HB := hbS HB hb; (try clear hb); (try clear hb2); (try clear hk); (try clear hi)))
   go_meet
   case rel => exact ⟨_, (!t129), rfs, H', kle, bkA BK124, bkA BK125, bkA BK126, bkA BK127, hbA HB⟩
  ·rw [if_neg c11] at H
   have c11b0 : (t128 == 0) = false := beq_eq_false_iff_ne.mpr c11
   have c11b1 : (t128 != 0) = true := bne_iff_ne.mpr c11
   (first | rw [c11b0] | (simp only [i64_w, i32_w]; rw [c11b0]) | skip)
   have H' := Aside0.mk H
   clear H
   have hnb22 := NB124_125.out
   have hnc22 := NB125_124.out
   have hnb23 := NB124_126.out
   have hnc23 := NB126_124.out
   have hnb24 := NB124_127.out
   have hnc24 := NB127_124.out
   obtain ⟨z0, z1, z2, z3, z4, z5, y0, y1, y2, y3, y4, y5⟩ := bc6 BK124
   go_wp2_with (first | ((with_reducible refine gate_callee (f := 16) rfl ?_); refine goesL_ (some 13) rfl rfl Try.func16 (by kernel_rfl) rfl #[.agg #[.string a0_0, .string a0_1, .bool a0_2, .string a0_3, .int .i64 a0_4, .int .i64 a0_5]] rfl sma ?_; (with_reducible refine (install_Check.calls k a0_0 a0_1 a0_2 a0_3 a0_4 a0_5 t128 _ A10.out).mono ?_); rintro e w26 ⟨rfl, hb⟩; refine ⟨_, rfl, ?_⟩; replace BK124 := bkB BK124 hb; replace BK125 := bkB BK125 hb; replace BK126 := bkB BK126 hb; replace BK127 := bkB BK127 hb; replace HB := hbS HB hb; (try clear hb); (try clear hb2); (try clear hk); (try clear hi)))
   go_meet
   case rel => exact ⟨_, (true), rfs, H', kle, bkA BK124, bkA BK125, bkA BK126, bkA BK127, hbA HB⟩
 case rest =>
  clear HC5
  obtain ⟨kq, x11_4, rfl, HA, HJ4, BK124, BK125, BK126, BK127, HB⟩ := hcut
  cases kq with
  | zero => exact absurd HA.out (by simp [install_Take.j0])
  | succ kj4 =>
   have H := HA.out
   clear HA
   simp only [install_Take.j0] at H
   by_cases c27 : x11_4 = true
   ·subst c27
    rw [if_pos rfl] at H
    simp only [Option.some.injEq, Prod.mk.injEq] at H
    obtain ⟨rfl, rfl, rfl, rfl, rfl, rfl, rfl⟩ := H
    have hnb28 := NB127_124.out
    have hnc28 := NB124_127.out
    have hnb29 := NB127_125.out
    have hnc29 := NB125_127.out
    have hnb30 := NB127_126.out
    have hnc30 := NB126_127.out
    obtain ⟨z0, z1, z2, z3, z4, z5, y0, y1, y2, y3, y4, y5⟩ := bc6 BK127
    go_wp2
    refine bodyPost_ret (results_ct rfl _ _ gb127 28 #[.string (⟨#[]⟩ : ByteArray), .string (⟨#[]⟩ : ByteArray), .bool false, .string (⟨#[]⟩ : ByteArray), .int .i64 0, .int .i64 0] (0, 0) _ rfl (bkp BK127) Try.underlying28 rfl (by kernel_rfl)) rfl ?_
    exact ⟨rerr, hbx HB⟩
   ·replace c27 := Bool.eq_false_iff.mpr c27
    subst c27
    rw [if_neg (show ¬ (false = true) by decide)] at H
    have HC32 := Aside0.mk H
    clear H
    go_upto_region 3 with (fail)
    go_cut [21] (fun v21 wc => ∃ (kq : Nat) (x21_31 : Bool), v21 = .bool x21_31 ∧ Aside0 (install_Take.j1 kq a3 x21_31 a0_0 a0_1 a0_2 a0_3 a0_4 a0_5 a1_0 a1_1 a1_2 a1_3 l1_4 a2 = some (r1, r2, r3, r4, r5, r6, r7)) ∧ Aside0 (kq ≤ kj4) ∧ Aside0 (wc.heap[gb124]? = some (.cells #[.string a0_0, .string a0_1, .bool a0_2, .string a0_3, .int .i64 a0_4, .int .i64 a0_5] 28 (0, 0))) ∧ Aside0 (wc.heap[gb125]? = some (.cells #[.int .i64 a1_0, .int .i64 a1_1, .int .i64 a1_2, .string a1_3, (.slice A1_4 l1_4.length c1_4)] 36 (0, 0))) ∧ Aside0 (wc.heap[gb126]? = some (.cells #[.int .i64 a2] 3 (0, 0))) ∧ Aside0 (wc.heap[gb127]? = some (.cells #[.string (⟨#[]⟩ : ByteArray), .string (⟨#[]⟩ : ByteArray), .bool false, .string (⟨#[]⟩ : ByteArray), .int .i64 0, .int .i64 0] 28 (0, 0))) ∧ Aside0 (Below w.heap.size w wc))
    case first =>
     have H := HC32.out
     clear HC32
     by_cases c33 : a2 < 0
     ·rw [if_pos c33] at H
      have c33b0 : decide (a2 < 0) = true := decide_eq_true c33
      clear c33
      (first | rw [c33b0] | (simp only [i64_w, i32_w]; rw [c33b0]) | skip)
      have H' := Aside0.mk H
      clear H
      have hnb34 := NB126_124.out
      have hnc34 := NB124_126.out
      have hnb35 := NB126_125.out
      have hnc35 := NB125_126.out
      have hnb36 := NB126_127.out
      have hnc36 := NB127_126.out
      obtain ⟨z0, y0⟩ := bc1 BK126
      go_wp2
      go_meet
      case rel => exact ⟨_, (true), rfs, H', ⟨by have := HJ4.out; first | omega | exact Nat.le_refl _⟩, bkA BK124, bkA BK125, bkA BK126, bkA BK127, hbA HB⟩
     ·rw [if_neg c33] at H
      have c33b0 : decide (a2 < 0) = false := decide_eq_false c33
      clear c33
      (first | rw [c33b0] | (simp only [i64_w, i32_w]; rw [c33b0]) | skip)
      by_cases c38 : a2 ≥ 32
      ·rw [if_pos c38] at H
       have c38b0 : decide (32 ≤ a2) = true := decide_eq_true c38
       clear c38
       have H' := Aside0.mk H
       clear H
       have hnb39 := NB126_124.out
       have hnc39 := NB124_126.out
       have hnb40 := NB126_125.out
       have hnc40 := NB125_126.out
       have hnb41 := NB126_127.out
       have hnc41 := NB127_126.out
       obtain ⟨z0, y0⟩ := bc1 BK126
       go_wp2
       go_meet
       case rel => exact ⟨_, (true), rfs, H', ⟨by have := HJ4.out; first | omega | exact Nat.le_refl _⟩, bkA BK124, bkA BK125, bkA BK126, bkA BK127, hbA HB⟩
      ·rw [if_neg c38] at H
       have c38b0 : decide (32 ≤ a2) = false := decide_eq_false c38
       clear c38
       by_cases c43 : a3 < 0
       ·rw [if_pos c43] at H
        have c43b0 : decide (a3 < 0) = true := decide_eq_true c43
        clear c43
        have H' := Aside0.mk H
        clear H
        have hnb44 := NB126_124.out
        have hnc44 := NB124_126.out
        have hnb45 := NB126_125.out
        have hnc45 := NB125_126.out
        have hnb46 := NB126_127.out
        have hnc46 := NB127_126.out
        obtain ⟨z0, y0⟩ := bc1 BK126
        go_wp2
        go_meet
        case rel => exact ⟨_, (true), rfs, H', ⟨by have := HJ4.out; first | omega | exact Nat.le_refl _⟩, bkA BK124, bkA BK125, bkA BK126, bkA BK127, hbA HB⟩
       ·rw [if_neg c43] at H
        have c43b0 : decide (a3 < 0) = false := decide_eq_false c43
        clear c43
        have H' := Aside0.mk H
        clear H
        have hnb48 := NB126_124.out
        have hnc48 := NB124_126.out
        have hnb49 := NB126_125.out
        have hnc49 := NB125_126.out
        have hnb50 := NB126_127.out
        have hnc50 := NB127_126.out
        obtain ⟨z0, y0⟩ := bc1 BK126
        go_wp2
        go_meet
        case rel => exact ⟨_, (decide (a3 > 1073741824)), rfs, H', ⟨by have := HJ4.out; first | omega | exact Nat.le_refl _⟩, bkA BK124, bkA BK125, bkA BK126, bkA BK127, hbA HB⟩
    case rest =>
     clear HC32
     try clear c27
     obtain ⟨kq, x21_31, rfl, HA, HJ31, BK124, BK125, BK126, BK127, HB⟩ := hcut
     cases kq with
     | zero => exact absurd HA.out (by simp [install_Take.j1])
     | succ kj31 =>
      have H := HA.out
      clear HA
      simp only [install_Take.j1] at H
      by_cases c52 : x21_31 = true
      ·subst c52
       rw [if_pos rfl] at H
       simp only [Option.some.injEq, Prod.mk.injEq] at H
       obtain ⟨rfl, rfl, rfl, rfl, rfl, rfl, rfl⟩ := H
       have hnb53 := NB127_124.out
       have hnc53 := NB124_127.out
       have hnb54 := NB127_125.out
       have hnc54 := NB125_127.out
       have hnb55 := NB127_126.out
       have hnc55 := NB126_127.out
       obtain ⟨z0, z1, z2, z3, z4, z5, y0, y1, y2, y3, y4, y5⟩ := bc6 BK127
       go_wp2
       refine bodyPost_ret (results_ct rfl _ _ gb127 28 #[.string (⟨#[]⟩ : ByteArray), .string (⟨#[]⟩ : ByteArray), .bool false, .string (⟨#[]⟩ : ByteArray), .int .i64 0, .int .i64 0] (0, 0) _ rfl (bkp BK127) Try.underlying28 rfl (by kernel_rfl)) rfl ?_
       exact ⟨rerr, hbx HB⟩
      ·replace c52 := Bool.eq_false_iff.mpr c52
       subst c52
       rw [if_neg (show ¬ (false = true) by decide)] at H
       by_cases c57 : a1_0 ≤ a0_5
       ·rw [if_pos c57] at H
        have c57b0 : decide (a1_0 ≤ a0_5) = true := decide_eq_true c57
        clear c57
        simp only [Option.some.injEq, Prod.mk.injEq] at H
        obtain ⟨rfl, rfl, rfl, rfl, rfl, rfl, rfl⟩ := H
        have hnb58 := NB125_124.out
        have hnc58 := NB124_125.out
        have hnb59 := NB125_126.out
        have hnc59 := NB126_125.out
        have hnb60 := NB125_127.out
        have hnc60 := NB127_125.out
        obtain ⟨z0, z1, z2, z3, z4, y0, y1, y2, y3, y4⟩ := bc5 BK125
        have hnb62 := NB124_126.out
        have hnc62 := NB126_124.out
        have hnb63 := NB124_127.out
        have hnc63 := NB127_124.out
        obtain ⟨z0, z1, z2, z3, z4, z5, y0, y1, y2, y3, y4, y5⟩ := bc6 BK124
        have hnb65 := NB127_126.out
        have hnc65 := NB126_127.out
        obtain ⟨z0, z1, z2, z3, z4, z5, y0, y1, y2, y3, y4, y5⟩ := bc6 BK127
        go_wp2
        refine bodyPost_ret (results_ct rfl _ _ gb127 28 #[.string a0_0, .string a0_1, .bool a0_2, .string a0_3, .int .i64 a0_4, .int .i64 a0_5] (0, 0) _ rfl (bkp BK127) Try.underlying28 rfl (by kernel_rfl)) rfl ?_
        exact ⟨rerr, hbx HB⟩
       ·rw [if_neg c57] at H
        have c57b0 : decide (a1_0 ≤ a0_5) = false := decide_eq_false c57
        clear c57
        replace H := Option.bind_eq_some_iff.mp H
        obtain ⟨t130, A670, H⟩ := H
        (try dsimp only at H)
        have A67 := Aside0.mk A670
        clear A670
        by_cases c68 : t130 = true
        ·subst c68
         rw [if_pos rfl] at H
         by_cases c69 : a1_1 = 2
         ·rw [if_pos c69] at H
          have c69b0 : (a1_1 == 2) = true := beq_iff_eq.mpr c69
          have c69b1 : (a1_1 != 2) = false := bne_eq_false_iff_eq.mpr c69
          clear c69
          by_cases c70 : a0_2 = true
          ·subst c70
           rw [if_pos rfl] at H
           by_cases c71 : a0_3.toList = a1_3.toList
           ·rw [if_pos c71] at H
            have c71b0 : (a0_3.toList == a1_3.toList) = true := beq_iff_eq.mpr c71
            have c71b1 : (a0_3.toList != a1_3.toList) = false := bne_eq_false_iff_eq.mpr c71
            clear c71
            replace H := Option.bind_eq_some_iff.mp H
            obtain ⟨⟨t131, t132, t133, t134, t135, t136⟩, A720, H⟩ := H
            (try dsimp only at H)
            have A72 := Aside0.mk A720
            clear A720
            simp only [Option.some.injEq, Prod.mk.injEq] at H
            obtain ⟨rfl, rfl, rfl, rfl, rfl, rfl, rfl⟩ := H
            have hnb73 := NB125_124.out
            have hnc73 := NB124_125.out
            have hnb74 := NB125_126.out
            have hnc74 := NB126_125.out
            have hnb75 := NB125_127.out
            have hnc75 := NB127_125.out
            obtain ⟨z0, z1, z2, z3, z4, y0, y1, y2, y3, y4⟩ := bc5 BK125
            have hnb77 := NB124_126.out
            have hnc77 := NB126_124.out
            have hnb78 := NB124_127.out
            have hnc78 := NB127_124.out
            obtain ⟨z0, z1, z2, z3, z4, z5, y0, y1, y2, y3, y4, y5⟩ := bc6 BK124
            go_wp2_with (first | ((with_reducible refine gate_callee (f := 45) rfl ?_); refine goesL_ (some 50) rfl rfl Try.func45 (by kernel_rfl) rfl #[.slice A1_4 l1_4.length c1_4, .func (.func 46) #[] #[.pointer (some ⟨gb126, 0, none⟩)]] rfl sma ?_; (with_reducible refine (take_contains.calls kj31 _ _ l1_4 a2 true gb126 _ ?side1 HC1_4.out ?side3 A67.out).mono ?_); (case side1 => exact Kd.C_below HR1_4.out (hbx HB)); (case side3 => repeat (first | (with_reducible first | exact BK126.out | refine blk_drewN ?_ _ | refine blk_drew ?_ | refine blk_alloc ?_ _) | refine blk_far ?_ NB126_124.out _ | refine blk_far ?_ NB126_125.out _ | refine blk_far ?_ NB126_127.out _)); rintro e w' ⟨rfl, ⟨nd, rfl⟩⟩; refine ⟨_, rfl, ?_⟩) | ((with_reducible refine gate_callee (f := 43) rfl ?_); refine goesL_ (some 69) rfl rfl Try.func43 (by kernel_rfl) rfl #[.agg #[.string a0_0, .string a0_1, .bool true, .string a0_3, .int .i64 a0_4, .int .i64 a1_0]] rfl sma ?_; (with_reducible refine (install_disarm.calls a0_0 a0_1 true a0_3 a0_4 a1_0 t131 t132 t133 t134 t135 t136 _ A72.out).mono ?_); rintro e w80 ⟨rfl, hb⟩; refine ⟨_, rfl, ?_⟩; replace BK124 := Aside0.mk (blk_below (o := .cells #[.string a0_0, .string a0_1, .bool true, .string a0_3, .int .i64 a0_4, .int .i64 a1_0] 28 (0, 0)) (bkp BK124) hb); replace BK125 := bkfB BK125 hb; replace BK126 := bkfB BK126 hb; replace BK127 := bkfB BK127 hb; replace HB := hbS HB hb; (try clear hb); (try clear hb2); (try clear hk); (try clear hi); obtain ⟨z0, z1, z2, z3, z4, z5, y0, y1, y2, y3, y4, y5⟩ := bc6 BK124; have hnb82 := NB127_126.out; have hnc82 := NB126_127.out; obtain ⟨z0, z1, z2, z3, z4, z5, y0, y1, y2, y3, y4, y5⟩ := bc6 BK127))
            refine bodyPost_ret (results_ct rfl _ _ gb127 28 #[.string t131, .string t132, .bool t133, .string t134, .int .i64 t135, .int .i64 t136] (0, 0) _ rfl (bkp BK127) Try.underlying28 rfl (by kernel_rfl)) rfl ?_
            exact ⟨rerr, hbx HB⟩
           ·rw [if_neg c71] at H
            have c71b0 : (a0_3.toList == a1_3.toList) = false := beq_eq_false_iff_ne.mpr c71
            have c71b1 : (a0_3.toList != a1_3.toList) = true := bne_iff_ne.mpr c71
            simp only [Option.some.injEq, Prod.mk.injEq] at H
            obtain ⟨rfl, rfl, rfl, rfl, rfl, rfl, rfl⟩ := H
            have hnb84 := NB125_124.out
            have hnc84 := NB124_125.out
            have hnb85 := NB125_126.out
            have hnc85 := NB126_125.out
            have hnb86 := NB125_127.out
            have hnc86 := NB127_125.out
            obtain ⟨z0, z1, z2, z3, z4, y0, y1, y2, y3, y4⟩ := bc5 BK125
            have hnb88 := NB124_126.out
            have hnc88 := NB126_124.out
            have hnb89 := NB124_127.out
            have hnc89 := NB127_124.out
            obtain ⟨z0, z1, z2, z3, z4, z5, y0, y1, y2, y3, y4, y5⟩ := bc6 BK124
            go_wp2_with (first | ((with_reducible refine gate_callee (f := 45) rfl ?_); refine goesL_ (some 50) rfl rfl Try.func45 (by kernel_rfl) rfl #[.slice A1_4 l1_4.length c1_4, .func (.func 46) #[] #[.pointer (some ⟨gb126, 0, none⟩)]] rfl sma ?_; (with_reducible refine (take_contains.calls kj31 _ _ l1_4 a2 true gb126 _ ?side1 HC1_4.out ?side3 A67.out).mono ?_); (case side1 => exact Kd.C_below HR1_4.out (hbx HB)); (case side3 => repeat (first | (with_reducible first | exact BK126.out | refine blk_drewN ?_ _ | refine blk_drew ?_ | refine blk_alloc ?_ _) | refine blk_far ?_ NB126_124.out _ | refine blk_far ?_ NB126_125.out _ | refine blk_far ?_ NB126_127.out _)); rintro e w' ⟨rfl, ⟨nd, rfl⟩⟩; refine ⟨_, rfl, ?_⟩; have hnb91 := NB127_126.out; have hnc91 := NB126_127.out; obtain ⟨z0, z1, z2, z3, z4, z5, y0, y1, y2, y3, y4, y5⟩ := bc6 BK127))
            refine bodyPost_ret (results_ct rfl _ _ gb127 28 #[.string a0_0, .string a0_1, .bool true, .string a0_3, .int .i64 a0_4, .int .i64 a1_0] (0, 0) _ rfl (bkp BK127) Try.underlying28 rfl (by kernel_rfl)) rfl ?_
            exact ⟨rerr, hbx HB⟩
          ·replace c70 := Bool.eq_false_iff.mpr c70
           subst c70
           rw [if_neg (show ¬ (false = true) by decide)] at H
           simp only [Option.some.injEq, Prod.mk.injEq] at H
           obtain ⟨rfl, rfl, rfl, rfl, rfl, rfl, rfl⟩ := H
           have hnb93 := NB125_124.out
           have hnc93 := NB124_125.out
           have hnb94 := NB125_126.out
           have hnc94 := NB126_125.out
           have hnb95 := NB125_127.out
           have hnc95 := NB127_125.out
           obtain ⟨z0, z1, z2, z3, z4, y0, y1, y2, y3, y4⟩ := bc5 BK125
           have hnb97 := NB124_126.out
           have hnc97 := NB126_124.out
           have hnb98 := NB124_127.out
           have hnc98 := NB127_124.out
           obtain ⟨z0, z1, z2, z3, z4, z5, y0, y1, y2, y3, y4, y5⟩ := bc6 BK124
           go_wp2_with (first | ((with_reducible refine gate_callee (f := 45) rfl ?_); refine goesL_ (some 50) rfl rfl Try.func45 (by kernel_rfl) rfl #[.slice A1_4 l1_4.length c1_4, .func (.func 46) #[] #[.pointer (some ⟨gb126, 0, none⟩)]] rfl sma ?_; (with_reducible refine (take_contains.calls kj31 _ _ l1_4 a2 true gb126 _ ?side1 HC1_4.out ?side3 A67.out).mono ?_); (case side1 => exact Kd.C_below HR1_4.out (hbx HB)); (case side3 => repeat (first | (with_reducible first | exact BK126.out | refine blk_drewN ?_ _ | refine blk_drew ?_ | refine blk_alloc ?_ _) | refine blk_far ?_ NB126_124.out _ | refine blk_far ?_ NB126_125.out _ | refine blk_far ?_ NB126_127.out _)); rintro e w' ⟨rfl, ⟨nd, rfl⟩⟩; refine ⟨_, rfl, ?_⟩; have hnb100 := NB127_126.out; have hnc100 := NB126_127.out; obtain ⟨z0, z1, z2, z3, z4, z5, y0, y1, y2, y3, y4, y5⟩ := bc6 BK127))
           refine bodyPost_ret (results_ct rfl _ _ gb127 28 #[.string a0_0, .string a0_1, .bool false, .string a0_3, .int .i64 a0_4, .int .i64 a1_0] (0, 0) _ rfl (bkp BK127) Try.underlying28 rfl (by kernel_rfl)) rfl ?_
           exact ⟨rerr, hbx HB⟩
         ·rw [if_neg c69] at H
          have c69b0 : (a1_1 == 2) = false := beq_eq_false_iff_ne.mpr c69
          have c69b1 : (a1_1 != 2) = true := bne_iff_ne.mpr c69
          by_cases c102 : a0_1.toList = a1_3.toList
          ·rw [if_pos c102] at H
           have c102b0 : (a0_1.toList == a1_3.toList) = true := beq_iff_eq.mpr c102
           have c102b1 : (a0_1.toList != a1_3.toList) = false := bne_eq_false_iff_eq.mpr c102
           clear c102
           by_cases c103 : a1_2 ≤ a3
           ·rw [if_pos c103] at H
            have c103b0 : decide (a1_2 ≤ a3) = true := decide_eq_true c103
            clear c103
            simp only [Option.some.injEq, Prod.mk.injEq] at H
            obtain ⟨rfl, rfl, rfl, rfl, rfl, rfl, rfl⟩ := H
            have hnb104 := NB125_124.out
            have hnc104 := NB124_125.out
            have hnb105 := NB125_126.out
            have hnc105 := NB126_125.out
            have hnb106 := NB125_127.out
            have hnc106 := NB127_125.out
            obtain ⟨z0, z1, z2, z3, z4, y0, y1, y2, y3, y4⟩ := bc5 BK125
            have hnb108 := NB124_126.out
            have hnc108 := NB126_124.out
            have hnb109 := NB124_127.out
            have hnc109 := NB127_124.out
            obtain ⟨z0, z1, z2, z3, z4, z5, y0, y1, y2, y3, y4, y5⟩ := bc6 BK124
            go_wp2_with (first | ((with_reducible refine gate_callee (f := 45) rfl ?_); refine goesL_ (some 50) rfl rfl Try.func45 (by kernel_rfl) rfl #[.slice A1_4 l1_4.length c1_4, .func (.func 46) #[] #[.pointer (some ⟨gb126, 0, none⟩)]] rfl sma ?_; (with_reducible refine (take_contains.calls kj31 _ _ l1_4 a2 true gb126 _ ?side1 HC1_4.out ?side3 A67.out).mono ?_); (case side1 => exact Kd.C_below HR1_4.out (hbx HB)); (case side3 => repeat (first | (with_reducible first | exact BK126.out | refine blk_drewN ?_ _ | refine blk_drew ?_ | refine blk_alloc ?_ _) | refine blk_far ?_ NB126_124.out _ | refine blk_far ?_ NB126_125.out _ | refine blk_far ?_ NB126_127.out _)); rintro e w' ⟨rfl, ⟨nd, rfl⟩⟩; refine ⟨_, rfl, ?_⟩; have hnb111 := NB127_126.out; have hnc111 := NB126_127.out; obtain ⟨z0, z1, z2, z3, z4, z5, y0, y1, y2, y3, y4, y5⟩ := bc6 BK127))
            refine bodyPost_ret (results_ct rfl _ _ gb127 28 #[.string a0_0, .string a0_1, .bool a0_2, .string a0_3, .int .i64 a0_4, .int .i64 a1_0] (0, 0) _ rfl (bkp BK127) Try.underlying28 rfl (by kernel_rfl)) rfl ?_
            exact ⟨rerr, hbx HB⟩
           ·rw [if_neg c103] at H
            have c103b0 : decide (a1_2 ≤ a3) = false := decide_eq_false c103
            clear c103
            simp only [Option.some.injEq, Prod.mk.injEq] at H
            obtain ⟨rfl, rfl, rfl, rfl, rfl, rfl, rfl⟩ := H
            have hnb113 := NB125_124.out
            have hnc113 := NB124_125.out
            have hnb114 := NB125_126.out
            have hnc114 := NB126_125.out
            have hnb115 := NB125_127.out
            have hnc115 := NB127_125.out
            obtain ⟨z0, z1, z2, z3, z4, y0, y1, y2, y3, y4⟩ := bc5 BK125
            have hnb117 := NB124_126.out
            have hnc117 := NB126_124.out
            have hnb118 := NB124_127.out
            have hnc118 := NB127_124.out
            obtain ⟨z0, z1, z2, z3, z4, z5, y0, y1, y2, y3, y4, y5⟩ := bc6 BK124
            try go_wp2_with (first | ((with_reducible refine gate_callee (f := 45) rfl ?_); refine goesL_ (some 50) rfl rfl Try.func45 (by kernel_rfl) rfl #[.slice A1_4 l1_4.length c1_4, .func (.func 46) #[] #[.pointer (some ⟨gb126, 0, none⟩)]] rfl sma ?_; (with_reducible refine (take_contains.calls kj31 _ _ l1_4 a2 true gb126 _ ?side1 HC1_4.out ?side3 A67.out).mono ?_); (case side1 => exact Kd.C_below HR1_4.out (hbx HB)); (case side3 => repeat (first | (with_reducible first | exact BK126.out | refine blk_drewN ?_ _ | refine blk_drew ?_ | refine blk_alloc ?_ _) | refine blk_far ?_ NB126_124.out _ | refine blk_far ?_ NB126_125.out _ | refine blk_far ?_ NB126_127.out _)); rintro e w' ⟨rfl, ⟨nd, rfl⟩⟩; refine ⟨_, rfl, ?_⟩))
            have n0_ : Aside0 ((wc.setCell ⟨gb124, 5, none⟩ (.int .i64 a1_0)).heap[gb124]? = some (.cells #[.string a0_0, .string a0_1, .bool a0_2, .string a0_3, .int .i64 a0_4, .int .i64 a1_0] 28 (0, 0))) := bkpA BK124
            have n1_ : Aside0 ((wc.setCell ⟨gb124, 5, none⟩ (.int .i64 a1_0)).heap[gb125]? = some (.cells #[.int .i64 a1_0, .int .i64 a1_1, .int .i64 a1_2, .string a1_3, .slice A1_4 l1_4.length c1_4] 36 (0, 0))) := bkfA BK125
            have n2_ : Aside0 ((wc.setCell ⟨gb124, 5, none⟩ (.int .i64 a1_0)).heap[gb126]? = some (.cells #[.int .i64 a2] 3 (0, 0))) := bkfA BK126
            have n3_ : Aside0 ((wc.setCell ⟨gb124, 5, none⟩ (.int .i64 a1_0)).heap[gb127]? = some (.cells #[.string (⟨#[]⟩ : ByteArray), .string (⟨#[]⟩ : ByteArray), .bool false, .string (⟨#[]⟩ : ByteArray), .int .i64 0, .int .i64 0] 28 (0, 0))) := bkfA BK127
            have n4_ : Aside0 (Below w.heap.size w (wc.setCell ⟨gb124, 5, none⟩ (.int .i64 a1_0))) := hbA HB
            (try clear BK124)
            (try clear BK125)
            (try clear BK126)
            (try clear BK127)
            (try clear HB)
            generalize (wc.setCell ⟨gb124, 5, none⟩ (.int .i64 a1_0)) = w120 at n0_ n1_ n2_ n3_ n4_ ⊢
            have BK124 := n0_
            have BK125 := n1_
            have BK126 := n2_
            have BK127 := n3_
            have HB := n4_
            clear n0_ n1_ n2_ n3_ n4_
            (try (rw [drewN_self w120]; generalize hq_ : World.drewN w120 _ = w120; replace BK124 := bkq BK124 hq_; replace BK125 := bkq BK125 hq_; replace BK126 := bkq BK126 hq_; replace BK127 := bkq BK127 hq_; replace HB := hbq HB hq_; clear hq_))
            replace BK124 := Aside0.mk (blk_drew BK124.out)
            replace BK125 := Aside0.mk (blk_drew BK125.out)
            replace BK126 := Aside0.mk (blk_drew BK126.out)
            replace BK127 := Aside0.mk (blk_drew BK127.out)
            replace HB := Aside0.mk (below_drew1 HB.out)
            refine start_ (n := 10) (S := fun w' => w'.cell? ⟨gb125, 0, none⟩ = some (.int .i64 a1_0) ∧ w'.cell? ⟨gb125, 1, none⟩ = some (.int .i64 a1_1) ∧ w'.cell? ⟨gb125, 2, none⟩ = some (.int .i64 a1_2) ∧ w'.cell? ⟨gb125, 3, none⟩ = some (.string a1_3) ∧ w'.cell? ⟨gb125, 4, none⟩ = some (.slice A1_4 l1_4.length c1_4)) (ds := []) #[false, false, false, false, false, false, false, false, false, false] (by kernel_rfl) rfl rfl ⟨(blk_cell BK125.out 0).trans rfl, (blk_cell BK125.out 1).trans rfl, (blk_cell BK125.out 2).trans rfl, (blk_cell BK125.out 3).trans rfl, (blk_cell BK125.out 4).trans rfl⟩ (fun hHeld => ?_); refine with_tabW install_Take.tab19 install_Take.bits19 (fun HT_ HW_ => ?_)
            generalize w120.drew = w121 at BK124 BK125 BK126 BK127 HB hHeld ⊢
            refine pur 0 (some 84) #[true, false, false, false, false, false, false, false, false, false] HT_ ?_
            refine pur 2 (some 86) #[true, false, true, false, false, false, false, false, false, false] HT_ ?_
            refine pur 4 (some 88) #[true, false, true, false, true, false, false, false, false, false] HT_ ?_
            refine tak 1 (some 85) #[true, true, true, false, true, false, false, false, false, false] HT_ HW_ hHeld rfl (Or.inl ⟨by rfl, by rintro w' ⟨s0, s1, s2, s3, s4⟩; go_simp; with_reducible rfl⟩) ?_
            refine tak 3 (some 87) #[true, true, true, true, true, false, false, false, false, false] HT_ HW_ hHeld rfl (Or.inl ⟨by rfl, by rintro w' ⟨s0, s1, s2, s3, s4⟩; go_simp; with_reducible rfl⟩) ?_
            refine one_ (i := 5) (N := none) #[true, true, true, true, true, true, false, false, false, false] rfl rfl (one_of HT_.out (by kernel_rfl)) (by decide) (fun K hK => ?_)
            have hs122 : w121.cell? ⟨gb124, 2, none⟩ = some (.bool a0_2) := (blk_cell BK124.out 2).trans rfl
            have hfs122 := blk_frozen BK124.out 2
            have hns122_1 := NB125_124.out
            have hns122_2 := NB126_124.out
            have hns122_3 := NB127_124.out
            have hms122_1 := NB124_125.out
            have hms122_2 := NB124_126.out
            have hms122_3 := NB124_127.out
            refine skip_ (w1 := ?_) (by rfl) rfl ?_ ?_
            rotate_left
            ·go_simp
             rfl
            refine hK.out _ _ ⟨((cell_far (p := ⟨gb124, _, none⟩) NB125_124.out _).trans (hHeld.1)), ((cell_far (p := ⟨gb124, _, none⟩) NB125_124.out _).trans (hHeld.2.1)), ((cell_far (p := ⟨gb124, _, none⟩) NB125_124.out _).trans (hHeld.2.2.1)), ((cell_far (p := ⟨gb124, _, none⟩) NB125_124.out _).trans (hHeld.2.2.2.1)), ((cell_far (p := ⟨gb124, _, none⟩) NB125_124.out _).trans (hHeld.2.2.2.2))⟩ (fun hHeld => ?_)
            clear hK K
            refine pur 6 (some 89) #[true, true, true, true, true, true, true, false, false, false] HT_ ?_
            refine one_ (i := 7) (N := none) #[true, true, true, true, true, true, true, true, false, false] rfl rfl (one_of HT_.out (by kernel_rfl)) (by decide) (fun K hK => ?_)
            have hs123 : w121.cell? ⟨gb124, 3, none⟩ = some (.string a0_3) := (blk_cell BK124.out 3).trans rfl
            have hfs123 := blk_frozen BK124.out 3
            have hns123_1 := NB125_124.out
            have hns123_2 := NB126_124.out
            have hns123_3 := NB127_124.out
            have hms123_1 := NB124_125.out
            have hms123_2 := NB124_126.out
            have hms123_3 := NB124_127.out
            refine skip_ (w1 := ?_) (by rfl) rfl ?_ ?_
            rotate_left
            ·go_simp
             rfl
            refine hK.out _ _ ⟨((cell_far (p := ⟨gb124, _, none⟩) NB125_124.out _).trans (hHeld.1)), ((cell_far (p := ⟨gb124, _, none⟩) NB125_124.out _).trans (hHeld.2.1)), ((cell_far (p := ⟨gb124, _, none⟩) NB125_124.out _).trans (hHeld.2.2.1)), ((cell_far (p := ⟨gb124, _, none⟩) NB125_124.out _).trans (hHeld.2.2.2.1)), ((cell_far (p := ⟨gb124, _, none⟩) NB125_124.out _).trans (hHeld.2.2.2.2))⟩ (fun hHeld => ?_)
            clear hK K
            refine pur 8 (some 90) #[true, true, true, true, true, true, true, true, true, false] HT_ ?_
            refine one_ (i := 9) (N := none) #[true, true, true, true, true, true, true, true, true, true] rfl rfl (one_of HT_.out (by kernel_rfl)) (by decide) (fun K hK => ?_)
            have hs124 : w121.cell? ⟨gb124, 4, none⟩ = some (.int .i64 a0_4) := (blk_cell BK124.out 4).trans rfl
            have hfs124 := blk_frozen BK124.out 4
            have hns124_1 := NB125_124.out
            have hns124_2 := NB126_124.out
            have hns124_3 := NB127_124.out
            have hms124_1 := NB124_125.out
            have hms124_2 := NB124_126.out
            have hms124_3 := NB124_127.out
            refine skip_ (w1 := ?_) (by rfl) rfl ?_ ?_
            rotate_left
            ·go_simp
             rfl
            refine hK.out _ _ ⟨((cell_far (p := ⟨gb124, _, none⟩) NB125_124.out _).trans (hHeld.1)), ((cell_far (p := ⟨gb124, _, none⟩) NB125_124.out _).trans (hHeld.2.1)), ((cell_far (p := ⟨gb124, _, none⟩) NB125_124.out _).trans (hHeld.2.2.1)), ((cell_far (p := ⟨gb124, _, none⟩) NB125_124.out _).trans (hHeld.2.2.2.1)), ((cell_far (p := ⟨gb124, _, none⟩) NB125_124.out _).trans (hHeld.2.2.2.2))⟩ (fun hHeld => ?_)
            clear hK K
            refine done_ (done_of HT_.out (by kernel_rfl)) ?_
            obtain ⟨z0, z1, z2, z3, z4, z5, y0, y1, y2, y3, y4, y5⟩ := bc6 BK124
            have hnb126 := NB127_126.out
            have hnc126 := NB126_127.out
            obtain ⟨z0, z1, z2, z3, z4, z5, y0, y1, y2, y3, y4, y5⟩ := bc6 BK127
            try go_wp2
            refine bodyPost_ret (results_ct rfl _ _ gb127 28 #[.string a0_0, .string a0_1, .bool true, .string a1_3, .int .i64 a1_2, .int .i64 a1_0] (0, 0) _ rfl (bkp BK127) Try.underlying28 rfl (by kernel_rfl)) rfl ?_
            exact ⟨rerr, hbx HB⟩
          ·rw [if_neg c102] at H
           have c102b0 : (a0_1.toList == a1_3.toList) = false := beq_eq_false_iff_ne.mpr c102
           have c102b1 : (a0_1.toList != a1_3.toList) = true := bne_iff_ne.mpr c102
           simp only [Option.some.injEq, Prod.mk.injEq] at H
           obtain ⟨rfl, rfl, rfl, rfl, rfl, rfl, rfl⟩ := H
           have hnb128 := NB125_124.out
           have hnc128 := NB124_125.out
           have hnb129 := NB125_126.out
           have hnc129 := NB126_125.out
           have hnb130 := NB125_127.out
           have hnc130 := NB127_125.out
           obtain ⟨z0, z1, z2, z3, z4, y0, y1, y2, y3, y4⟩ := bc5 BK125
           have hnb132 := NB124_126.out
           have hnc132 := NB126_124.out
           have hnb133 := NB124_127.out
           have hnc133 := NB127_124.out
           obtain ⟨z0, z1, z2, z3, z4, z5, y0, y1, y2, y3, y4, y5⟩ := bc6 BK124
           go_wp2_with (first | ((with_reducible refine gate_callee (f := 45) rfl ?_); refine goesL_ (some 50) rfl rfl Try.func45 (by kernel_rfl) rfl #[.slice A1_4 l1_4.length c1_4, .func (.func 46) #[] #[.pointer (some ⟨gb126, 0, none⟩)]] rfl sma ?_; (with_reducible refine (take_contains.calls kj31 _ _ l1_4 a2 true gb126 _ ?side1 HC1_4.out ?side3 A67.out).mono ?_); (case side1 => exact Kd.C_below HR1_4.out (hbx HB)); (case side3 => repeat (first | (with_reducible first | exact BK126.out | refine blk_drewN ?_ _ | refine blk_drew ?_ | refine blk_alloc ?_ _) | refine blk_far ?_ NB126_124.out _ | refine blk_far ?_ NB126_125.out _ | refine blk_far ?_ NB126_127.out _)); rintro e w' ⟨rfl, ⟨nd, rfl⟩⟩; refine ⟨_, rfl, ?_⟩; have hnb135 := NB127_126.out; have hnc135 := NB126_127.out; obtain ⟨z0, z1, z2, z3, z4, z5, y0, y1, y2, y3, y4, y5⟩ := bc6 BK127))
           refine bodyPost_ret (results_ct rfl _ _ gb127 28 #[.string a0_0, .string a0_1, .bool a0_2, .string a0_3, .int .i64 a0_4, .int .i64 a1_0] (0, 0) _ rfl (bkp BK127) Try.underlying28 rfl (by kernel_rfl)) rfl ?_
           exact ⟨rerr, hbx HB⟩
        ·replace c68 := Bool.eq_false_iff.mpr c68
         subst c68
         rw [if_neg (show ¬ (false = true) by decide)] at H
         simp only [Option.some.injEq, Prod.mk.injEq] at H
         obtain ⟨rfl, rfl, rfl, rfl, rfl, rfl, rfl⟩ := H
         have hnb137 := NB125_124.out
         have hnc137 := NB124_125.out
         have hnb138 := NB125_126.out
         have hnc138 := NB126_125.out
         have hnb139 := NB125_127.out
         have hnc139 := NB127_125.out
         obtain ⟨z0, z1, z2, z3, z4, y0, y1, y2, y3, y4⟩ := bc5 BK125
         have hnb141 := NB124_126.out
         have hnc141 := NB126_124.out
         have hnb142 := NB124_127.out
         have hnc142 := NB127_124.out
         obtain ⟨z0, z1, z2, z3, z4, z5, y0, y1, y2, y3, y4, y5⟩ := bc6 BK124
         go_wp2_with (first | ((with_reducible refine gate_callee (f := 45) rfl ?_); refine goesL_ (some 50) rfl rfl Try.func45 (by kernel_rfl) rfl #[.slice A1_4 l1_4.length c1_4, .func (.func 46) #[] #[.pointer (some ⟨gb126, 0, none⟩)]] rfl sma ?_; (with_reducible refine (take_contains.calls kj31 _ _ l1_4 a2 false gb126 _ ?side1 HC1_4.out ?side3 A67.out).mono ?_); (case side1 => exact Kd.C_below HR1_4.out (hbx HB)); (case side3 => repeat (first | (with_reducible first | exact BK126.out | refine blk_drewN ?_ _ | refine blk_drew ?_ | refine blk_alloc ?_ _) | refine blk_far ?_ NB126_124.out _ | refine blk_far ?_ NB126_125.out _ | refine blk_far ?_ NB126_127.out _)); rintro e w' ⟨rfl, ⟨nd, rfl⟩⟩; refine ⟨_, rfl, ?_⟩; have hnb144 := NB127_126.out; have hnc144 := NB126_127.out; obtain ⟨z0, z1, z2, z3, z4, z5, y0, y1, y2, y3, y4, y5⟩ := bc6 BK127))
         refine bodyPost_ret (results_ct rfl _ _ gb127 28 #[.string a0_0, .string a0_1, .bool a0_2, .string a0_3, .int .i64 a0_4, .int .i64 a1_0] (0, 0) _ rfl (bkp BK127) Try.underlying28 rfl (by kernel_rfl)) rfl ?_
         exact ⟨rerr, hbx HB⟩
end Go.Proofs.Ytdigplhjfjchnaa.PQ
