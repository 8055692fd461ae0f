-- Printed by fprint.py and zip.py, programs of this session's, over the kit's print; Lean checks it.
import Derived.Test.YtdigplhjfjchnaaZ0
namespace Go.Proofs.Ytdigplhjfjchnaa.PQ
open Go.RowKit Go.Proofs.YtdigplhjfjchnaaW.PrintWords Go.Proofs.YtdigplhjfjchnaaW.PrintLast Go.Proofs.YtdigplhjfjchnaaW.PrintMore
attribute [local go_sem] max2_int min2_int max_two min_two max_three min_three max_four min_four   -- for this text's walks alone
set_option linter.unusedVariables false
set_option linter.unusedSimpArgs false
def hopmeshlaw49_order_1.f (a0_0 : Int) (a0_1 : Int) (a0_2 : Int) (a1_0 : Int) (a1_1 : Int) (a1_2 : Int) : Option (Int) := some (wrap64 ((wrap64 (a0_2)) - (wrap64 (a1_2))))
set_option maxHeartbeats 8000000 in
set_option maxRecDepth 100000 in
theorem hopmeshlaw49_order_1.calls (a0_0 : Int) (a0_1 : Int) (a0_2 : Int) (a1_0 : Int) (a1_1 : Int) (a1_2 : Int) (r : Int) (w : World) (h : hopmeshlaw49_order_1.f a0_0 a0_1 a0_2 a1_0 a1_1 a1_2 = some r) :
 Calls Try.prog 50 #[.agg #[.int .u8 a0_0, .int .u8 a0_1, .int .u8 a0_2], .agg #[.int .u8 a1_0, .int .u8 a1_1, .int .u8 a1_2]] w fun e w' => e = .returned (.int .i64 r) ∧ Below w.heap.size w w' := by
 have hu47 := Try.underlying47
 have HB := Aside0.mk (Below.refl w.heap.size w)
 have H : (some (wrap64 ((wrap64 (a0_2)) - (wrap64 (a1_2))))) = some r := h
 clear h
 obtain rfl := Option.some.inj H
 go_enter Try.func50, Try.ntmps50
 go_wp2_with (first | ((with_reducible refine gate_dst (N := 2) rfl ?_); refine boxE 2 #[.int .u8 a0_0, .int .u8 a0_1, .int .u8 a0_2] 47 ?_; intro gb292 hg w3 hbox hb; have BK292 := Aside0.mk (hbox); have GW292 := gw hg HB; have GE292 := gw hg HB; replace HB := hbS HB hb; clear hb hbox hg) | ((with_reducible refine gate_dst (N := 3) rfl ?_); refine boxE 3 #[.int .u8 a1_0, .int .u8 a1_1, .int .u8 a1_2] 47 ?_; intro gb293 hg w4 hbox hb; have BK293 := Aside0.mk (hbox); have GW293 := gw hg HB; have GE293 := gw hg HB; replace HB := hbS HB hb; have NB292_293 := nbl hg BK292; have NB293_292 := nbg hg BK292; replace BK292 := bkB BK292 hb; clear hb hbox hg; have hnb5 := NB292_293.out; have hnc5 := NB293_292.out; obtain ⟨z0, z1, z2, y0, y1, y2⟩ := bc3 BK292; obtain ⟨z0, z1, z2, y0, y1, y2⟩ := bc3 BK293))
 go_ret
 exact ⟨rerr, hbx HB⟩
end Go.Proofs.Ytdigplhjfjchnaa.PQ
