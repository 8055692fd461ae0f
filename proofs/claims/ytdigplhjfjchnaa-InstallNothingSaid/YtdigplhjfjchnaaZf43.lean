-- Printed by fprint.py and zip.py, programs of this session's, over the kit's print; Lean checks it.
import Derived.Test.YtdigplhjfjchnaaZ0
namespace Go.Proofs.Ytdigplhjfjchnaa.PQ
open Go.RowKit Go.Proofs.YtdigplhjfjchnaaW.PrintWords Go.Proofs.YtdigplhjfjchnaaW.PrintLast Go.Proofs.YtdigplhjfjchnaaW.PrintMore
attribute [local go_sem] max2_int min2_int max_two min_two max_three min_three max_four min_four   -- for this text's walks alone
set_option linter.unusedVariables false
set_option linter.unusedSimpArgs false
def install_disarm.f (a0_0 : ByteArray) (a0_1 : ByteArray) (a0_2 : Bool) (a0_3 : ByteArray) (a0_4 : Int) (a0_5 : Int) : Option (ByteArray × ByteArray × Bool × ByteArray × Int × Int) := some (a0_0, a0_1, false, (⟨#[]⟩ : ByteArray), 0, a0_5)
set_option maxHeartbeats 8000000 in
set_option maxRecDepth 100000 in
theorem install_disarm.calls (a0_0 : ByteArray) (a0_1 : ByteArray) (a0_2 : Bool) (a0_3 : ByteArray) (a0_4 : Int) (a0_5 : Int) (r1 : ByteArray) (r2 : ByteArray) (r3 : Bool) (r4 : ByteArray) (r5 : Int) (r6 : Int) (w : World) (h : install_disarm.f a0_0 a0_1 a0_2 a0_3 a0_4 a0_5 = some (r1, r2, r3, r4, r5, r6)) :
 Calls Try.prog 43 #[.agg #[.string a0_0, .string a0_1, .bool a0_2, .string a0_3, .int .i64 a0_4, .int .i64 a0_5]] w fun e w' => e = .returned (.agg #[.string r1, .string r2, .bool r3, .string r4, .int .i64 r5, .int .i64 r6]) ∧ Below w.heap.size w w' := by
 have hu28 := Try.underlying28
 have HB := Aside0.mk (Below.refl w.heap.size w)
 have H : (some (a0_0, a0_1, false, (⟨#[]⟩ : ByteArray), 0, a0_5)) = some (r1, r2, r3, r4, r5, r6) := h
 clear h
 simp only [Option.some.injEq, Prod.mk.injEq] at H
 obtain ⟨rfl, rfl, rfl, rfl, rfl, rfl⟩ := H
 go_enter Try.func43, Try.ntmps43
 go_wp2_with (first | ((with_reducible refine gate_dst (N := 1) rfl ?_); refine boxE 1 #[.string a0_0, .string a0_1, .bool a0_2, .string a0_3, .int .i64 a0_4, .int .i64 a0_5] 28 ?_; intro gb106 hg w2 hbox hb; have BK106 := Aside0.mk (hbox); have GW106 := gw hg HB; have GE106 := gw hg HB; replace HB := hbS HB hb; clear hb hbox hg) | ((with_reducible refine gate_dst (N := 2) rfl ?_); refine boxE 2 #[.string (⟨#[]⟩ : ByteArray), .string (⟨#[]⟩ : ByteArray), .bool false, .string (⟨#[]⟩ : ByteArray), .int .i64 0, .int .i64 0] 28 ?_; intro gb107 hg w3 hbox hb; have BK107 := Aside0.mk (hbox); have GW107 := gw hg HB; have GE107 := gw hg HB; replace HB := hbS HB hb; have NB106_107 := nbl hg BK106; have NB107_106 := nbg hg BK106; replace BK106 := bkB BK106 hb; clear hb hbox hg; have hnb4 := NB106_107.out; have hnc4 := NB107_106.out; obtain ⟨z0, z1, z2, z3, z4, z5, y0, y1, y2, y3, y4, y5⟩ := bc6 BK106; obtain ⟨z0, z1, z2, z3, z4, z5, y0, y1, y2, y3, y4, y5⟩ := bc6 BK107))
 refine bodyPost_ret (results_cell_row rfl _ _ gb107 28 #[.string a0_0, .string a0_1, .bool false, .string (⟨#[]⟩ : ByteArray), .int .i64 0, .int .i64 a0_5] (0, 0) _ rfl (bkp BK107) Try.underlying28 rfl (by kernel_rfl)) rfl ?_
 exact ⟨rerr, hbx HB⟩
end Go.Proofs.Ytdigplhjfjchnaa.PQ
