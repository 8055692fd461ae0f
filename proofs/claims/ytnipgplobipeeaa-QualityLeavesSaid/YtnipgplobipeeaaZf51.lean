-- Printed by fprint.py and zip.py, programs of this session's, over the kit's print; Lean checks it.
import Derived.Test.YtnipgplobipeeaaZ0
namespace Go.Proofs.Ytnipgplobipeeaa.PQ
open Go.RowKit Go.Proofs.YtnipgplobipeeaaW.PrintWords Go.Proofs.YtnipgplobipeeaaW.PrintLast Go.Proofs.YtnipgplobipeeaaW.PrintMore
attribute [local go_sem] max2_int min2_int max_two min_two max_three min_three max_four min_four   -- for this text's walks alone
set_option linter.unusedVariables false
set_option linter.unusedSimpArgs false
def hopmeshref12_hold.l0 : Nat → Int → Int → Option (Bool)
 | 0, _, _ => none
 | k + 1, x0, x3 => if x3 ≤ 64 then (if x0 = x3 then (some true) else (hopmeshref12_hold.l0 k x0 (wrap64 (2 * x3)))) else (some (x0 == 0))
def hopmeshref12_hold.f (k : Nat) (a0 : Int) : Option (Bool) := hopmeshref12_hold.l0 k a0 1
theorem hopmeshref12_hold.mono_l : ∀ k, (∀ y0 y1, LeO (hopmeshref12_hold.l0 k y0 y1) (hopmeshref12_hold.l0 (k + 1) y0 y1))
 | 0 => fun _ _ r h => by simp [hopmeshref12_hold.l0] at h
 | k + 1 => by
  have ih0 := hopmeshref12_hold.mono_l k
  ·intro y0 y1
   unfold hopmeshref12_hold.l0
   repeat' first
   | (with_reducible exact ih0 _ _)
   | (with_reducible exact LeO.refl _)
   | (with_reducible exact LeO.none _)
   | (with_reducible refine LeO.ite ?_ ?_)
   | (with_reducible refine LeO.bind ?_ (fun _ => ?_))
   | exact ih0 _ _
   | exact LeO.none _
   | refine LeO.ite ?_ ?_
   | refine LeO.bind ?_ (fun _ => ?_)
theorem hopmeshref12_hold.mono : ∀ a0 k, LeO (hopmeshref12_hold.f k a0) (hopmeshref12_hold.f (k + 1) a0) := by
 intro a0 k
 have ih0 := hopmeshref12_hold.mono_l k
 unfold hopmeshref12_hold.f
 repeat' first
  | (with_reducible exact ih0 _ _)
  | (with_reducible exact LeO.refl _)
  | (with_reducible exact LeO.none _)
  | (with_reducible refine LeO.ite ?_ ?_)
  | (with_reducible refine LeO.bind ?_ (fun _ => ?_))
  | exact ih0 _ _
  | exact LeO.none _
  | refine LeO.ite ?_ ?_
  | refine LeO.bind ?_ (fun _ => ?_)
set_option maxHeartbeats 8000000 in
set_option maxRecDepth 100000 in
theorem hopmeshref12_hold.calls (k : Nat) (a0 : Int) (r : Bool) (w : World) (h : hopmeshref12_hold.f k a0 = some r) :
 Calls Try.prog 51 #[.int .i64 a0] w fun e w' => e = .returned (.bool r) ∧ Drawn0 w w' := by
 have H : (hopmeshref12_hold.l0 k a0 1) = some r := h
 clear h
 have H' := Aside0.mk H
 clear H
 go_enter Try.func51, Try.ntmps51
 go_wp2
 go_loopg [3] k (fun kq v3 w' => ∃ (x3_1 : Int), v3 = .int .i64 x3_1 ∧ Aside0 (hopmeshref12_hold.l0 kq a0 x3_1 = some r) ∧ Aside0 (kq ≤ k) ∧ Drawn0 w w')
 case atStart => exact ⟨(1), rfs, H', ⟨Nat.le_refl _⟩, by repeat (first | exact Drawn0.refl _ | apply Drawn0.step)⟩
 case round =>
  clear H'
  obtain ⟨x3_1, rfl, HA, HK1, ⟨m1, rfl⟩⟩ := hrel
  cases gk with
  | zero => exact absurd HA.out (by simp [hopmeshref12_hold.l0])
  | succ k1 =>
   have H := HA.out
   clear HA
   simp only [hopmeshref12_hold.l0] at H
   by_cases c2 : x3_1 ≤ 64
   ·rw [if_pos c2] at H
    have c2b0 : decide (x3_1 ≤ 64) = true := decide_eq_true c2
    clear c2
    by_cases c3 : a0 = x3_1
    ·rw [if_pos c3] at H
     have c3b0 : (a0 == x3_1) = true := beq_iff_eq.mpr c3
     have c3b1 : (a0 != x3_1) = false := bne_eq_false_iff_eq.mpr c3
     clear c3
     obtain rfl := Option.some.inj H
     go_wp2
     go_ret
     exact ⟨by first | rfl | (simp; done) | (simp [*]; done), by repeat (first | exact Drawn0.refl _ | apply Drawn0.step)⟩
    ·rw [if_neg c3] at H
     have c3b0 : (a0 == x3_1) = false := beq_eq_false_iff_ne.mpr c3
     have c3b1 : (a0 != x3_1) = true := bne_iff_ne.mpr c3
     have H' := Aside0.mk H
     clear H
     go_wp2
     go_roundg k1
     case measure => have := HK1.out; omega
     case rel => exact ⟨(wrap64 (2 * x3_1)), rfs, H', ⟨by have := HK1.out; omega⟩, by repeat (first | exact Drawn0.refl _ | apply Drawn0.step)⟩
   ·rw [if_neg c2] at H
    have c2b0 : decide (x3_1 ≤ 64) = false := decide_eq_false c2
    clear c2
    obtain rfl := Option.some.inj H
    go_wp2
    go_ret
    exact ⟨by first | rfl | (simp; done) | (simp [*]; done), by repeat (first | exact Drawn0.refl _ | apply Drawn0.step)⟩
end Go.Proofs.Ytnipgplobipeeaa.PQ
