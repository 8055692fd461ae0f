-- Printed by fprint.py and zip.py, programs of this session's, over the kit's print; Lean checks it.
import Derived.Test.YtnipgplobipeeaaZ0
import Derived.Test.YtnipgplobipeeaaZf48
namespace Go.Proofs.Ytnipgplobipeeaa.PQ
open Go.RowKit Go.Proofs.YtnipgplobipeeaaW.PrintWords Go.Proofs.YtnipgplobipeeaaW.PrintLast Go.Proofs.YtnipgplobipeeaaW.PrintMore
attribute [local go_sem] max2_int min2_int max_two min_two max_three min_three max_four min_four   -- for this text's walks alone
set_option linter.unusedVariables false
set_option linter.unusedSimpArgs false
def api_Counts_33.f (k : Nat) (l0 : List (S34))  : Option (Bool) := (api_Counts_48.f k l0).bind fun t602 => (some (decide (t602 ≥ 0)))
theorem api_Counts_33.mono : ∀ a0 k, LeO (api_Counts_33.f k a0) (api_Counts_33.f (k + 1) a0) := by
 intro a0 k
 unfold api_Counts_33.f
 repeat' first
  | (with_reducible exact api_Counts_48.mono _ _)
  | (with_reducible exact LeO.refl _)
  | (with_reducible exact LeO.none _)
  | (with_reducible refine LeO.ite ?_ ?_)
  | (with_reducible refine LeO.bind ?_ (fun _ => ?_))
  | exact api_Counts_48.mono _ _
  | exact LeO.none _
  | refine LeO.ite ?_ ?_
  | refine LeO.bind ?_ (fun _ => ?_)
set_option maxHeartbeats 8000000 in
set_option maxRecDepth 100000 in
theorem api_Counts_33.calls (k : Nat) (A0 : Option Addr) (c0 : Nat) (l0 : List (S34))  (r : Bool) (w : World) (hr0 : Kd.C k34 w A0 l0.length l0) (hc0 : l0.length ≤ c0) (h : api_Counts_33.f k l0 = some r) :
 Calls Try.prog 33 #[.slice A0 l0.length c0, .func (.func 34) #[] #[]] w fun e w' => e = .returned (.bool r) ∧ Below w.heap.size w w' := by
 have HR0 := Aside0.mk hr0
 have HC0 := Aside0.mk hc0
 clear hr0 hc0
 have HB := Aside0.mk (Below.refl w.heap.size w)
 have H : ((api_Counts_48.f k l0).bind fun t602 => (some (decide (t602 ≥ 0)))) = some r := h
 clear h
 replace H := Option.bind_eq_some_iff.mp H
 obtain ⟨t602, A30, H⟩ := H
 (try dsimp only at H)
 have A3 := Aside0.mk A30
 clear A30
 obtain rfl := Option.some.inj H
 go_enter Try.func33, Try.ntmps33
 go_wp2_with (first | ((with_reducible refine gate_callee (f := 48) rfl ?_); refine goesL_ (some 7) rfl rfl Try.func48 (by kernel_rfl) rfl #[.slice A0 l0.length c0, .func (.func 34) #[] #[]] rfl sma ?_; (with_reducible refine (api_Counts_48.calls k _ _ l0  t602 _ ?side1 HC0.out A3.out).mono ?_); (case side1 => repeat (first | exact HR0.out | (with_reducible refine Kd.C_alloc ?_ _) | (with_reducible refine Kd.C_drewN ?_ _) | (with_reducible refine Kd.C_drew ?_))); rintro e w4 ⟨rfl, hb⟩; refine ⟨_, rfl, ?_⟩; replace HB := hbS HB hb; (try clear hb); (try clear hb2); (try clear hk); (try clear hi)))
 go_ret
 exact ⟨rerr, hbx HB⟩
end Go.Proofs.Ytnipgplobipeeaa.PQ
