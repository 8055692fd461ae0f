-- Printed by fprint.py and zip.py, programs of this session's, over the kit's print; Lean checks it.
import Derived.Test.YtdigplhjfjchnaaZ0
import Derived.Test.YtdigplhjfjchnaaZf57
import Derived.Test.YtdigplhjfjchnaaZf60
namespace Go.Proofs.Ytdigplhjfjchnaa.PQ
open Go.RowKit Go.Proofs.YtdigplhjfjchnaaW.PrintWords Go.Proofs.YtdigplhjfjchnaaW.PrintLast Go.Proofs.YtdigplhjfjchnaaW.PrintMore
attribute [local go_sem] max2_int min2_int max_two min_two max_three min_three max_four min_four   -- for this text's walks alone
set_option linter.unusedVariables false
set_option linter.unusedSimpArgs false
def hopmeshref49_Decode.l0 : Nat → Int → Int → Int → Int → Int → ByteArray → List Int → Option (Int × Int × Int × ByteArray × List Int × Int)
 | 0, _, _, _, _, _, _, _ => none
 | k + 1, x5, x6, x629000, x629001, x629002, x629003, x629004 => if x6 < 32 then (if 0 ≤ x6 then (if (Go.bits .and .i64 (shr .i64 x5 x6) 1) = 1 then (if x629004.length < 17592186044416 then (hopmeshref49_Decode.l0 k x5 (wrap64 (x6 + 1)) x629000 x629001 x629002 x629003 (x629004 ++ [x6])) else (none)) else (hopmeshref49_Decode.l0 k x5 (wrap64 (x6 + 1)) x629000 x629001 x629002 x629003 x629004)) else (none)) else ((hopmeshref49_Command.f k x629000 x629001 x629002 x629003 x629004).bind fun t633 => (if t633 = true then (some (x629000, x629001, x629002, x629003, x629004, 0)) else (some (0, 0, 0, (⟨#[]⟩ : ByteArray), ([] : List Int), 10))))
def hopmeshref49_Decode.f (k : Nat) (a0 : ByteArray) : Option (Int × Int × Int × ByteArray × List Int × Int) := if (a0.size : Int) = 44 then (if 0 ≤ 1 then (if 1 ≤ (a0.size : Int) then ((hopmeshref49_number.f k (a0.extract 0 1)).bind fun t625 => (if 1 ≤ 4 then (if 4 ≤ (a0.size : Int) then ((hopmeshref49_number.f k (a0.extract 1 4)).bind fun t626 => (if 4 ≤ 8 then (if 8 ≤ (a0.size : Int) then ((hopmeshref49_number.f k (a0.extract 4 8)).bind fun t627 => (if 8 ≤ 40 then (if 40 ≤ (a0.size : Int) then ((hopmeshref49_number.f k (a0.extract 40 a0.size)).bind fun t629 => (hopmeshref49_Decode.l0 k t629 0 t626 t625 t627 (a0.extract 8 40) ([] : List Int))) else (none)) else (none))) else (none)) else (none))) else (none)) else (none))) else (none)) else (none)) else (some (0, 0, 0, (⟨#[]⟩ : ByteArray), ([] : List Int), 10))
theorem hopmeshref49_Decode.mono_l : ∀ k, (∀ y0 y1 y2 y3 y4 y5 y6, LeO (hopmeshref49_Decode.l0 k y0 y1 y2 y3 y4 y5 y6) (hopmeshref49_Decode.l0 (k + 1) y0 y1 y2 y3 y4 y5 y6))
 | 0 => fun _ _ _ _ _ _ _ r h => by simp [hopmeshref49_Decode.l0] at h
 | k + 1 => by
  have ih0 := hopmeshref49_Decode.mono_l k
  ·intro y0 y1 y2 y3 y4 y5 y6
   unfold hopmeshref49_Decode.l0
   repeat' first
   | (with_reducible exact ih0 _ _ _ _ _ _ _)
   | (with_reducible exact hopmeshref49_Command.mono _ _ _ _ _ _)
   | (with_reducible exact hopmeshref49_number.mono _ _)
   | (with_reducible exact LeO.refl _)
   | (with_reducible exact LeO.none _)
   | (with_reducible refine LeO.ite ?_ ?_)
   | (with_reducible refine LeO.bind ?_ (fun _ => ?_))
   | exact ih0 _ _ _ _ _ _ _
   | exact hopmeshref49_Command.mono _ _ _ _ _ _
   | exact hopmeshref49_number.mono _ _
   | exact LeO.none _
   | refine LeO.ite ?_ ?_
   | refine LeO.bind ?_ (fun _ => ?_)
theorem hopmeshref49_Decode.mono : ∀ a0 k, LeO (hopmeshref49_Decode.f k a0) (hopmeshref49_Decode.f (k + 1) a0) := by
 intro a0 k
 have ih0 := hopmeshref49_Decode.mono_l k
 unfold hopmeshref49_Decode.f
 repeat' first
  | (with_reducible exact ih0 _ _ _ _ _ _ _)
  | (with_reducible exact hopmeshref49_Command.mono _ _ _ _ _ _)
  | (with_reducible exact hopmeshref49_number.mono _ _)
  | (with_reducible exact LeO.refl _)
  | (with_reducible exact LeO.none _)
  | (with_reducible refine LeO.ite ?_ ?_)
  | (with_reducible refine LeO.bind ?_ (fun _ => ?_))
  | exact ih0 _ _ _ _ _ _ _
  | exact hopmeshref49_Command.mono _ _ _ _ _ _
  | exact hopmeshref49_number.mono _ _
  | exact LeO.none _
  | refine LeO.ite ?_ ?_
  | refine LeO.bind ?_ (fun _ => ?_)
def hopmeshref49_Decode.T3 : Bool × List (List Nat × List Nat) := (true, [([], []), ([0], [0]), ([1], [1]), ([], []), ([3], [3]), ([4, 2], [4]), ([], []), ([6], [6]), ([7, 5], [7]), ([], []), ([9], [9]), ([2, 5, 8, 10], [2, 5, 8, 10]), ([], []), ([12, 11, 8, 0, 1, 2, 3, 4, 5, 6, 7, 8, 9, 10, 11, 12], [11, 12])])
def hopmeshref49_Decode.B3 : List Nat := [0, 1, 3, 0, 8, 31, 0, 64, 255, 0, 512, 2047, 0, 8191]
theorem hopmeshref49_Decode.tab3 : rtab .any (opsOf Try.f27 3) = hopmeshref49_Decode.T3 := by kernel_rfl
theorem hopmeshref49_Decode.bits3 : waitsOk hopmeshref49_Decode.T3.2 hopmeshref49_Decode.B3 = true := by kernel_rfl
set_option maxHeartbeats 8000000 in
set_option maxRecDepth 100000 in
theorem hopmeshref49_Decode.calls (k : Nat) (a0 : ByteArray) (r1 : Int) (r2 : Int) (r3 : Int) (r4 : ByteArray) (r5 : List Int) (r6 : Int) (w : World) (h : hopmeshref49_Decode.f k a0 = some (r1, r2, r3, r4, r5, r6)) :
 Calls Try.prog 27 #[.string a0] w fun e w' => ∃ v4_ : Value, e = .returned (.tuple #[.agg #[.int .i64 r1, .int .i64 r2, .int .i64 r3, .string r4, v4_], .int .i64 r6]) ∧ Kd.R (Kd.int .i64) 3 w' w.heap.size (fun _ => True) v4_ r5 ∧ Below w.heap.size w w' := by
 have hu36 := Try.underlying36
 have HB := Aside0.mk (Below.refl w.heap.size w)
 have H : (if (a0.size : Int) = 44 then (if 0 ≤ 1 then (if 1 ≤ (a0.size : Int) then ((hopmeshref49_number.f k (a0.extract 0 1)).bind fun t625 => (if 1 ≤ 4 then (if 4 ≤ (a0.size : Int) then ((hopmeshref49_number.f k (a0.extract 1 4)).bind fun t626 => (if 4 ≤ 8 then (if 8 ≤ (a0.size : Int) then ((hopmeshref49_number.f k (a0.extract 4 8)).bind fun t627 => (if 8 ≤ 40 then (if 40 ≤ (a0.size : Int) then ((hopmeshref49_number.f k (a0.extract 40 a0.size)).bind fun t629 => (hopmeshref49_Decode.l0 k t629 0 t626 t625 t627 (a0.extract 8 40) ([] : List Int))) else (none)) else (none))) else (none)) else (none))) else (none)) else (none))) else (none)) else (none)) else (some (0, 0, 0, (⟨#[]⟩ : ByteArray), ([] : List Int), 10))) = some (r1, r2, r3, r4, r5, r6) := h
 clear h
 by_cases c2 : (a0.size : Int) = 44
 ·rw [if_pos c2] at H
  have c2b0 : ((a0.size : Int) == 44) = true := beq_iff_eq.mpr c2
  have c2b1 : ((a0.size : Int) != 44) = false := bne_eq_false_iff_eq.mpr c2
  clear c2
  by_cases c3 : 0 ≤ 1
  ·rw [if_pos c3] at H
   have c3b0 := eq_true c3
   have c3b1 : decide (0 ≤ 1) = true := decide_eq_true c3
   clear c3
   by_cases c4 : 1 ≤ (a0.size : Int)
   ·rw [if_pos c4] at H
    have c4b0 := eq_true c4
    have c4b1 : decide (1 ≤ (a0.size : Int)) = true := decide_eq_true c4
    clear c4
    replace H := Option.bind_eq_some_iff.mp H
    obtain ⟨t625, A50, H⟩ := H
    (try dsimp only at H)
    have A5 := Aside0.mk A50
    clear A50
    by_cases c6 : 1 ≤ 4
    ·rw [if_pos c6] at H
     have c6b0 := eq_true c6
     have c6b1 : decide (1 ≤ 4) = true := decide_eq_true c6
     clear c6
     by_cases c7 : 4 ≤ (a0.size : Int)
     ·rw [if_pos c7] at H
      have c7b0 := eq_true c7
      have c7b1 : decide (4 ≤ (a0.size : Int)) = true := decide_eq_true c7
      clear c7
      replace H := Option.bind_eq_some_iff.mp H
      obtain ⟨t626, A80, H⟩ := H
      (try dsimp only at H)
      have A8 := Aside0.mk A80
      clear A80
      by_cases c9 : 4 ≤ 8
      ·rw [if_pos c9] at H
       have c9b0 := eq_true c9
       have c9b1 : decide (4 ≤ 8) = true := decide_eq_true c9
       clear c9
       by_cases c10 : 8 ≤ (a0.size : Int)
       ·rw [if_pos c10] at H
        have c10b0 := eq_true c10
        have c10b1 : decide (8 ≤ (a0.size : Int)) = true := decide_eq_true c10
        clear c10
        replace H := Option.bind_eq_some_iff.mp H
        obtain ⟨t627, A110, H⟩ := H
        (try dsimp only at H)
        have A11 := Aside0.mk A110
        clear A110
        by_cases c12 : 8 ≤ 40
        ·rw [if_pos c12] at H
         have c12b0 := eq_true c12
         have c12b1 : decide (8 ≤ 40) = true := decide_eq_true c12
         clear c12
         by_cases c13 : 40 ≤ (a0.size : Int)
         ·rw [if_pos c13] at H
          have c13b0 := eq_true c13
          have c13b1 : decide (40 ≤ (a0.size : Int)) = true := decide_eq_true c13
          clear c13
          have c14b0 := eq_true (pos_ : 40 ≤ (a0.size : Int))
          replace H := Option.bind_eq_some_iff.mp H
          obtain ⟨t629, A150, H⟩ := H
          (try dsimp only at H)
          have A15 := Aside0.mk A150
          clear A150
          have H' := Aside0.mk H
          clear H
          go_enter Try.func27, Try.ntmps27
          try go_wp2_with (first | ((with_reducible refine gate_dst (N := 2) rfl ?_); refine boxE 2 #[.int .i64 0, .int .i64 0, .int .i64 0, .string (⟨#[]⟩ : ByteArray), .slice none 0 0] 36 ?_; intro gb624 hg w16 hbox hb; have BK624 := Aside0.mk (hbox); have GW624 := gw hg HB; have GE624 := gw hg HB; replace HB := hbS HB hb; clear hb hbox hg))
          replace BK624 := Aside0.mk (blk_drew BK624.out)
          replace HB := Aside0.mk (below_drew1 HB.out)
          refine start_ (n := 14) (S := fun w' => True) (ds := []) #[false, false, false, false, false, false, false, false, false, false, false, false, false, false] (by kernel_rfl) rfl rfl trivial (fun hHeld => ?_); refine with_tabW hopmeshref49_Decode.tab3 hopmeshref49_Decode.bits3 (fun HT_ HW_ => ?_)
          generalize w16.drew = w17 at BK624 HB hHeld ⊢
          refine pur 0 (some 11) #[true, false, false, false, false, false, false, false, false, false, false, false, false, false] HT_ ?_
          refine pur 1 (some 12) #[true, true, false, false, false, false, false, false, false, false, false, false, false, false] HT_ ?_
          refine pur 3 (some 14) #[true, true, false, true, false, false, false, false, false, false, false, false, false, false] HT_ ?_
          refine pur 4 (some 15) #[true, true, false, true, true, false, false, false, false, false, false, false, false, false] HT_ ?_
          refine pur 6 (some 17) #[true, true, false, true, true, false, true, false, false, false, false, false, false, false] HT_ ?_
          refine pur 7 (some 18) #[true, true, false, true, true, false, true, true, false, false, false, false, false, false] HT_ ?_
          refine pur 9 (some 20) #[true, true, false, true, true, false, true, true, false, true, false, false, false, false] HT_ ?_
          refine pur 10 (some 21) #[true, true, false, true, true, false, true, true, false, true, true, false, false, false] HT_ ?_
          refine join_ (σ := Nat) 1 #[true, true, true, true, true, true, true, true, true, true, true, true, true, false] (fun s_ => [(13, .int .i64 t625), (16, .int .i64 t626), (19, .int .i64 t627), (4, .pointer (some ⟨s_, 0, none⟩)), (22, .agg #[.int .i64 t626, .int .i64 t625, .int .i64 t627, .string (a0.extract 8 40), .slice none 0 0])]) (fun s_ w' => (w'.heap[gb624]? = some (.cells #[.int .i64 0, .int .i64 0, .int .i64 0, .string (⟨#[]⟩ : ByteArray), .slice none 0 0] 36 (0, 0))) ∧ (w'.heap[s_]? = some (.cells #[.int .i64 0, .int .i64 0, .int .i64 0, .string (⟨#[]⟩ : ByteArray), .slice none 0 0] 36 (0, 0))) ∧ (w.heap.size ≤ s_) ∧ (w.heap.size ≤ s_) ∧ (gb624 ≠ s_) ∧ (s_ ≠ gb624) ∧ (Below w.heap.size w w')) ?_ ?_
          rotate_left
          ·intro hCont
           refine two_ (i := 2) (j := 12) (Ni := some 13) (Nj := some 4) #[true, true, true, true, true, false, true, true, false, true, true, false, false, false] #[true, true, false, true, true, false, true, true, false, true, true, false, true, false] rfl rfl rfl rfl (two_of HT_.out (by kernel_rfl)) (by decide) (by decide) (fun K hK => ?_) (fun K hK => ?_)
           ·skip
            refine goes_ Try.func60 (by kernel_rfl) rfl #[.string (a0.extract 0 1)] (by rfl) rfl rfl sma ?_
            with_reducible refine (hopmeshref49_number.calls k (a0.extract 0 1) t625 _ A5.out).mono ?_
            rintro e w' ⟨rfl, ⟨nd, rfl⟩⟩
            refine ⟨_, rfl, ?_⟩
            refine hK.out _ _ trivial (fun hHeld => ?_)
            clear hK K
            refine nrm (some 13) ?_
            refine two_ (i := 5) (j := 12) (Ni := some 16) (Nj := some 4) #[true, true, true, true, true, true, true, true, false, true, true, false, false, false] #[true, true, true, true, true, false, true, true, false, true, true, false, true, false] rfl rfl rfl rfl (two_of HT_.out (by kernel_rfl)) (by decide) (by decide) (fun K hK => ?_) (fun K hK => ?_)
            ·skip
             refine goes_ Try.func60 (by kernel_rfl) rfl #[.string (a0.extract 1 4)] (by rfl) rfl rfl sma ?_
             with_reducible refine (hopmeshref49_number.calls k (a0.extract 1 4) t626 _ A8.out).mono ?_
             rintro e w' ⟨rfl, ⟨nd, rfl⟩⟩
             refine ⟨_, rfl, ?_⟩
             refine hK.out _ _ trivial (fun hHeld => ?_)
             clear hK K
             refine nrm (some 16) ?_
             refine two_ (i := 8) (j := 12) (Ni := some 19) (Nj := some 4) #[true, true, true, true, true, true, true, true, true, true, true, false, false, false] #[true, true, true, true, true, true, true, true, false, true, true, false, true, false] rfl rfl rfl rfl (two_of HT_.out (by kernel_rfl)) (by decide) (by decide) (fun K hK => ?_) (fun K hK => ?_)
             ·skip
              refine goes_ Try.func60 (by kernel_rfl) rfl #[.string (a0.extract 4 8)] (by rfl) rfl rfl sma ?_
              with_reducible refine (hopmeshref49_number.calls k (a0.extract 4 8) t627 _ A11.out).mono ?_
              rintro e w' ⟨rfl, ⟨nd, rfl⟩⟩
              refine ⟨_, rfl, ?_⟩
              refine hK.out _ _ trivial (fun hHeld => ?_)
              clear hK K
              refine nrm (some 19) ?_
              refine pur 11 (some 22) #[true, true, true, true, true, true, true, true, true, true, true, true, false, false] HT_ ?_
              refine one_ (i := 12) (N := some 4) #[true, true, true, true, true, true, true, true, true, true, true, true, true, false] rfl rfl (one_of HT_.out (by kernel_rfl)) (by decide) (fun K hK => ?_)
              refine boxS 4 #[.int .i64 0, .int .i64 0, .int .i64 0, .string (⟨#[]⟩ : ByteArray), .slice none 0 0] 36 ?_
              intro gb628 hg w18 hbox hb
              have BK628 := Aside0.mk (hbox)
              have GW628 := gw hg HB
              have GE628 := gw hg HB
              replace HB := hbS HB hb
              have NB624_628 := nbl hg BK624
              have NB628_624 := nbg hg BK624
              replace BK624 := bkB BK624 hb
              clear hb hbox hg
              refine hK.out _ _ trivial (fun hHeld => ?_)
              clear hK K
              refine nrm (some 4) ?_
              exact npu (hCont (gb628) _ ⟨(bk BK624), (bk BK628), GW628.out, GE628.out, NB624_628.out, NB628_624.out, (hbx HB)⟩)
             ·skip
              refine boxS 4 #[.int .i64 0, .int .i64 0, .int .i64 0, .string (⟨#[]⟩ : ByteArray), .slice none 0 0] 36 ?_
              intro gb628 hg w18 hbox hb
              have BK628 := Aside0.mk (hbox)
              have GW628 := gw hg HB
              have GE628 := gw hg HB
              replace HB := hbS HB hb
              have NB624_628 := nbl hg BK624
              have NB628_624 := nbg hg BK624
              replace BK624 := bkB BK624 hb
              clear hb hbox hg
              refine hK.out _ _ trivial (fun hHeld => ?_)
              clear hK K
              refine nrm (some 4) ?_
              refine one_ (i := 8) (N := some 19) #[true, true, true, true, true, true, true, true, true, true, true, false, true, false] rfl rfl (one_of HT_.out (by kernel_rfl)) (by decide) (fun K hK => ?_)
              refine goes_ Try.func60 (by kernel_rfl) rfl #[.string (a0.extract 4 8)] (by rfl) rfl rfl sma ?_
              with_reducible refine (hopmeshref49_number.calls k (a0.extract 4 8) t627 _ A11.out).mono ?_
              rintro e w' ⟨rfl, ⟨nd, rfl⟩⟩
              refine ⟨_, rfl, ?_⟩
              refine hK.out _ _ trivial (fun hHeld => ?_)
              clear hK K
              refine nrm (some 19) ?_
              refine pur 11 (some 22) #[true, true, true, true, true, true, true, true, true, true, true, true, true, false] HT_ ?_
              exact npu (hCont (gb628) _ ⟨(bk BK624), (bk BK628), GW628.out, GE628.out, NB624_628.out, NB628_624.out, (hbx HB)⟩)
            ·skip
             refine boxS 4 #[.int .i64 0, .int .i64 0, .int .i64 0, .string (⟨#[]⟩ : ByteArray), .slice none 0 0] 36 ?_
             intro gb628 hg w18 hbox hb
             have BK628 := Aside0.mk (hbox)
             have GW628 := gw hg HB
             have GE628 := gw hg HB
             replace HB := hbS HB hb
             have NB624_628 := nbl hg BK624
             have NB628_624 := nbg hg BK624
             replace BK624 := bkB BK624 hb
             clear hb hbox hg
             refine hK.out _ _ trivial (fun hHeld => ?_)
             clear hK K
             refine nrm (some 4) ?_
             refine one_ (i := 5) (N := some 16) #[true, true, true, true, true, true, true, true, false, true, true, false, true, false] rfl rfl (one_of HT_.out (by kernel_rfl)) (by decide) (fun K hK => ?_)
             refine goes_ Try.func60 (by kernel_rfl) rfl #[.string (a0.extract 1 4)] (by rfl) rfl rfl sma ?_
             with_reducible refine (hopmeshref49_number.calls k (a0.extract 1 4) t626 _ A8.out).mono ?_
             rintro e w' ⟨rfl, ⟨nd, rfl⟩⟩
             refine ⟨_, rfl, ?_⟩
             refine hK.out _ _ trivial (fun hHeld => ?_)
             clear hK K
             refine nrm (some 16) ?_
             refine one_ (i := 8) (N := some 19) #[true, true, true, true, true, true, true, true, true, true, true, false, true, false] rfl rfl (one_of HT_.out (by kernel_rfl)) (by decide) (fun K hK => ?_)
             refine goes_ Try.func60 (by kernel_rfl) rfl #[.string (a0.extract 4 8)] (by rfl) rfl rfl sma ?_
             with_reducible refine (hopmeshref49_number.calls k (a0.extract 4 8) t627 _ A11.out).mono ?_
             rintro e w' ⟨rfl, ⟨nd, rfl⟩⟩
             refine ⟨_, rfl, ?_⟩
             refine hK.out _ _ trivial (fun hHeld => ?_)
             clear hK K
             refine nrm (some 19) ?_
             refine pur 11 (some 22) #[true, true, true, true, true, true, true, true, true, true, true, true, true, false] HT_ ?_
             exact npu (hCont (gb628) _ ⟨(bk BK624), (bk BK628), GW628.out, GE628.out, NB624_628.out, NB628_624.out, (hbx HB)⟩)
           ·skip
            refine boxS 4 #[.int .i64 0, .int .i64 0, .int .i64 0, .string (⟨#[]⟩ : ByteArray), .slice none 0 0] 36 ?_
            intro gb628 hg w18 hbox hb
            have BK628 := Aside0.mk (hbox)
            have GW628 := gw hg HB
            have GE628 := gw hg HB
            replace HB := hbS HB hb
            have NB624_628 := nbl hg BK624
            have NB628_624 := nbg hg BK624
            replace BK624 := bkB BK624 hb
            clear hb hbox hg
            refine hK.out _ _ trivial (fun hHeld => ?_)
            clear hK K
            refine nrm (some 4) ?_
            refine one_ (i := 2) (N := some 13) #[true, true, true, true, true, false, true, true, false, true, true, false, true, false] rfl rfl (one_of HT_.out (by kernel_rfl)) (by decide) (fun K hK => ?_)
            refine goes_ Try.func60 (by kernel_rfl) rfl #[.string (a0.extract 0 1)] (by rfl) rfl rfl sma ?_
            with_reducible refine (hopmeshref49_number.calls k (a0.extract 0 1) t625 _ A5.out).mono ?_
            rintro e w' ⟨rfl, ⟨nd, rfl⟩⟩
            refine ⟨_, rfl, ?_⟩
            refine hK.out _ _ trivial (fun hHeld => ?_)
            clear hK K
            refine nrm (some 13) ?_
            refine one_ (i := 5) (N := some 16) #[true, true, true, true, true, true, true, true, false, true, true, false, true, false] rfl rfl (one_of HT_.out (by kernel_rfl)) (by decide) (fun K hK => ?_)
            refine goes_ Try.func60 (by kernel_rfl) rfl #[.string (a0.extract 1 4)] (by rfl) rfl rfl sma ?_
            with_reducible refine (hopmeshref49_number.calls k (a0.extract 1 4) t626 _ A8.out).mono ?_
            rintro e w' ⟨rfl, ⟨nd, rfl⟩⟩
            refine ⟨_, rfl, ?_⟩
            refine hK.out _ _ trivial (fun hHeld => ?_)
            clear hK K
            refine nrm (some 16) ?_
            refine one_ (i := 8) (N := some 19) #[true, true, true, true, true, true, true, true, true, true, true, false, true, false] rfl rfl (one_of HT_.out (by kernel_rfl)) (by decide) (fun K hK => ?_)
            refine goes_ Try.func60 (by kernel_rfl) rfl #[.string (a0.extract 4 8)] (by rfl) rfl rfl sma ?_
            with_reducible refine (hopmeshref49_number.calls k (a0.extract 4 8) t627 _ A11.out).mono ?_
            rintro e w' ⟨rfl, ⟨nd, rfl⟩⟩
            refine ⟨_, rfl, ?_⟩
            refine hK.out _ _ trivial (fun hHeld => ?_)
            clear hK K
            refine nrm (some 19) ?_
            refine pur 11 (some 22) #[true, true, true, true, true, true, true, true, true, true, true, true, true, false] HT_ ?_
            exact npu (hCont (gb628) _ ⟨(bk BK624), (bk BK628), GW628.out, GE628.out, NB624_628.out, NB628_624.out, (hbx HB)⟩)
          rintro gb628 w19 ⟨h0_, h1_, h2_, h3_, h4_, h5_, h6_⟩
          have n0_ : Aside0 (w19.heap[gb624]? = some (.cells #[.int .i64 0, .int .i64 0, .int .i64 0, .string (⟨#[]⟩ : ByteArray), .slice none 0 0] 36 (0, 0))) := ⟨h0_⟩
          have n1_ : Aside0 (w19.heap[gb628]? = some (.cells #[.int .i64 0, .int .i64 0, .int .i64 0, .string (⟨#[]⟩ : ByteArray), .slice none 0 0] 36 (0, 0))) := ⟨h1_⟩
          have n2_ : Aside0 (w.heap.size ≤ gb628) := ⟨h2_⟩
          have n3_ : Aside0 (w.heap.size ≤ gb628) := ⟨h3_⟩
          have n4_ : Aside0 (gb624 ≠ gb628) := ⟨h4_⟩
          have n5_ : Aside0 (gb628 ≠ gb624) := ⟨h5_⟩
          have n6_ : Aside0 (Below w.heap.size w w19) := ⟨h6_⟩
          clear BK624
          clear HB
          clear h0_ h1_ h2_ h3_ h4_ h5_ h6_
          have BK624 := n0_
          have BK628 := n1_
          have GW628 := n2_
          have GE628 := n3_
          have NB624_628 := n4_
          have NB628_624 := n5_
          have HB := n6_
          clear n0_ n1_ n2_ n3_ n4_ n5_ n6_
          have hHeld := trivial
          refine norm_ (a' := ?_) ?_ ?_
          rotate_left
          ·simp only [putAll, Act.put, List.setIfInBounds_toArray, List.set_cons_zero, List.set_cons_succ]
           rfl
          refine one_ (i := 13) (N := none) #[true, true, true, true, true, true, true, true, true, true, true, true, true, true] rfl rfl (one_of HT_.out (by kernel_rfl)) (by decide) (fun K hK => ?_)
          have hs20 : w19.cell? ⟨gb628, 0, none⟩ = some (.int .i64 0) := (blk_cell BK628.out 0).trans rfl
          have hfs20 := blk_frozen BK628.out 0
          have hns20_0 := NB624_628.out
          have hms20_0 := NB628_624.out
          have hs21 : w19.cell? ⟨gb628, 1, none⟩ = some (.int .i64 0) := (blk_cell BK628.out 1).trans rfl
          have hfs21 := blk_frozen BK628.out 1
          have hns21_0 := NB624_628.out
          have hms21_0 := NB628_624.out
          have hs22 : w19.cell? ⟨gb628, 2, none⟩ = some (.int .i64 0) := (blk_cell BK628.out 2).trans rfl
          have hfs22 := blk_frozen BK628.out 2
          have hns22_0 := NB624_628.out
          have hms22_0 := NB628_624.out
          have hs23 : w19.cell? ⟨gb628, 3, none⟩ = some (.string (⟨#[]⟩ : ByteArray)) := (blk_cell BK628.out 3).trans rfl
          have hfs23 := blk_frozen BK628.out 3
          have hns23_0 := NB624_628.out
          have hms23_0 := NB628_624.out
          have hs24 : w19.cell? ⟨gb628, 4, none⟩ = some (.slice none 0 0) := (blk_cell BK628.out 4).trans rfl
          have hfs24 := blk_frozen BK628.out 4
          have hns24_0 := NB624_628.out
          have hms24_0 := NB628_624.out
          refine skip_ (w1 := ?_) (by rfl) rfl ?_ ?_
          rotate_left
          ·go_simp
           rfl
          refine hK.out _ _ trivial (fun hHeld => ?_)
          clear hK K
          refine done_ (done_of HT_.out (by kernel_rfl)) ?_
          try go_wp2_with (first | ((with_reducible refine gate_callee (f := 60) rfl ?_); refine goesL_ (some 25) rfl rfl Try.func60 (by kernel_rfl) rfl #[.string (a0.extract 40 a0.size)] rfl sma ?_; (with_reducible refine (hopmeshref49_number.calls k (a0.extract 40 a0.size) t629 _ A15.out).mono ?_); rintro e w' ⟨rfl, ⟨nd, rfl⟩⟩; refine ⟨_, rfl, ?_⟩))
          go_loopg [6] k (fun kq v6 w' => ∃ (x6_1 : Int) (x629004_1 : List Int) (u629004 : Value), v6 = .int .i64 x6_1 ∧ Aside0 (hopmeshref49_Decode.l0 kq t629 x6_1 t626 t625 t627 (a0.extract 8 40) x629004_1 = some (r1, r2, r3, r4, r5, r6)) ∧ Aside0 (kq ≤ k) ∧ Aside0 (Kd.R (Kd.int .i64) 3 w' w.heap.size (fun _ => True) u629004 x629004_1) ∧ Aside0 (w'.heap[gb624]? = some (.cells #[.int .i64 0, .int .i64 0, .int .i64 0, .string (⟨#[]⟩ : ByteArray), (.slice none 0 0)] 36 (0, 0))) ∧ Aside0 (w'.heap[gb628]? = some (.cells #[.int .i64 t626, .int .i64 t625, .int .i64 t627, .string (a0.extract 8 40), u629004] 36 (0, 0))) ∧ Aside0 (Below w.heap.size w w'))
          case atStart => exact ⟨(0), (([] : List Int)), (.slice none 0 0), rfs, H', ⟨Nat.le_refl _⟩, ⟨rnil⟩, bkfA BK624, bkpA BK628, hbA HB⟩
          case round =>
           clear H'
           try clear c2
           try clear c2b0
           try clear c2b1
           try clear c3
           try clear c3b0
           try clear c3b1
           try clear c4
           try clear c4b0
           try clear c4b1
           try clear c6
           try clear c6b0
           try clear c6b1
           try clear c7
           try clear c7b0
           try clear c7b1
           try clear c9
           try clear c9b0
           try clear c9b1
           try clear c10
           try clear c10b0
           try clear c10b1
           try clear c12
           try clear c12b0
           try clear c12b1
           try clear c13
           try clear c13b0
           try clear c13b1
           try clear c14b0
           obtain ⟨x6_1, x629004_1, u629004, rfl, HA, HK1, HO_629004, BK624, BK628, HB⟩ := hrel
           cases gk with
           | zero => exact absurd HA.out (by simp [hopmeshref49_Decode.l0])
           | succ k1 =>
            have H := HA.out
            clear HA
            simp only [hopmeshref49_Decode.l0] at H
            by_cases c25 : x6_1 < 32
            ·rw [if_pos c25] at H
             have c25b0 : decide (x6_1 < 32) = true := decide_eq_true c25
             clear c25
             by_cases c26 : 0 ≤ x6_1
             ·rw [if_pos c26] at H
              have c26b0 := eq_true c26
              have c26b1 : decide (0 ≤ x6_1) = true := decide_eq_true c26
              clear c26
              obtain ⟨ji27, hji27⟩ : ∃ j_ : Int, (shr .i64 t629 x6_1) = j_ := ⟨_, rfl⟩
              replace H : (if (Go.bits .and .i64 (ji27) 1) = 1 then (if x629004_1.length < 17592186044416 then (hopmeshref49_Decode.l0 k1 t629 (wrap64 (x6_1 + 1)) t626 t625 t627 (a0.extract 8 40) (x629004_1 ++ [x6_1])) else (none)) else (hopmeshref49_Decode.l0 k1 t629 (wrap64 (x6_1 + 1)) t626 t625 t627 (a0.extract 8 40) x629004_1)) = some (r1, r2, r3, r4, r5, r6) := by first | (rw [hji27] at H; exact H) | (simp only [hji27] at H ⊢; exact H)
              have hji27_ : (t629 / 2 ^ min x6_1.toNat 64) = ji27 := hji27
              have hji27z : x6_1 ≤ 64 → (t629 / 2 ^ x6_1.toNat) = ji27 := shr_small hji27
              by_cases c28 : (Go.bits .and .i64 (ji27) 1) = 1
              ·rw [if_pos c28] at H
               have c28b0 : ((Go.bits .and .i64 (ji27) 1) == 1) = true := beq_iff_eq.mpr c28
               have c28b1 : ((Go.bits .and .i64 (ji27) 1) != 1) = false := bne_eq_false_iff_eq.mpr c28
               clear c28
               by_cases c29 : x629004_1.length < 17592186044416
               ·rw [if_pos c29] at H
                have LMc29 := Aside0.mk c29
                clear c29
                obtain ⟨y630, hy630⟩ : ∃ y_ : List Int, y_ = (x629004_1 ++ [x6_1]) := ⟨_, rfl⟩
                replace H : (hopmeshref49_Decode.l0 k1 t629 (wrap64 (x6_1 + 1)) t626 t625 t627 (a0.extract 8 40) y630) = some (r1, r2, r3, r4, r5, r6) := by first | (rw [hy630]; with_reducible exact H) | (have H2_ := (Option.bind_some _ _).symm.trans H; rw [hy630]; with_reducible exact H2_) | (have H2_ := (Option.bind_some _ _).symm.trans H; with_reducible exact H2_) | with_reducible exact H | (rw [hy630]; exact H) | exact H
                have Ny630 := Aside0.mk hy630
                clear hy630
                have H' := Aside0.mk H
                clear H
                have hnb30 := NB628_624.out
                have hnc30 := NB624_628.out
                obtain ⟨z0, z1, z2, z3, z4, y0, y1, y2, y3, y4⟩ := bc5 BK628
                go_wp2_with (first | ((with_reducible refine gate_builtin (b := .append) (xs := #[.tmp 36, .tmp 38]) rfl ?_); at_builtin; refine Kd.R_append (Kd.int .i64) (w0 := w) w.heap.size rfl (.tmp 36) (.tmp 38) 34 3 (.int .i64 0) 8 rfl Try.underlying34 info3 rfl (by decide) (by omega) u629004 x629004_1 x6_1 [.int .i64 x6_1] (fun _ => True) (fun _ => False) rfl rfl ?aP (fun _ hk => hk.elim) ?aF ?aO ?aB ?aS ?aL ?_; (case aP => exact rfl); (case aB => exact (hbx HB)); (case aF => exact (fun _ _ => trivial)); (case aO => exact (ro HO_629004)); (case aS => exact (below_size (hbx HB))); (case aL => have := LMc29.out; omega); intro v631 w32 ho hb hg hat; rw [← Ny630.out] at ho; replace BK624 := Aside0.mk (blk_grown (bk BK624) hg (Kd.R_ne HO_629004.out BK624.out (by decide))); replace BK628 := Aside0.mk (blk_grown (bk BK628) hg (Kd.R_ne HO_629004.out BK628.out (by decide))); replace HB := Aside0.mk (hb); have HO632 := Aside0.mk (ho); clear HO_629004; clear ho hb hg hat; obtain ⟨Ao33, co33, eo33⟩ := Kd.R_slice HO632.out; subst eo33; obtain ⟨z0, z1, z2, z3, z4, y0, y1, y2, y3, y4⟩ := bc5 BK628))
                go_roundg k1
                case measure => have := HK1.out; omega
                case rel => exact ⟨(wrap64 (x6_1 + 1)), (y630), (.slice Ao33 y630.length co33), rfs, H', ⟨by have := HK1.out; omega⟩, ⟨Kd.R_mono (rty (rfo HO632) BK628) (fun _ hk => trivial)⟩, bkfA BK624, bkpA BK628, hbA HB⟩
               ·rw [if_neg c29] at H
                exact absurd H (by simp)
              ·rw [if_neg c28] at H
               have c28b0 : ((Go.bits .and .i64 (ji27) 1) == 1) = false := beq_eq_false_iff_ne.mpr c28
               have c28b1 : ((Go.bits .and .i64 (ji27) 1) != 1) = true := bne_iff_ne.mpr c28
               have H' := Aside0.mk H
               clear H
               go_wp2
               go_roundg k1
               case measure => have := HK1.out; omega
               case rel => exact ⟨(wrap64 (x6_1 + 1)), (x629004_1), (u629004), rfs, H', ⟨by have := HK1.out; omega⟩, roA HO_629004, bkA BK624, bkA BK628, hbA HB⟩
             ·rw [if_neg c26] at H
              exact absurd H (by simp)
            ·rw [if_neg c25] at H
             have c25b0 : decide (x6_1 < 32) = false := decide_eq_false c25
             clear c25
             replace H := Option.bind_eq_some_iff.mp H
             obtain ⟨t633, A350, H⟩ := H
             (try dsimp only at H)
             have A35 := Aside0.mk A350
             clear A350
             by_cases c36 : t633 = true
             ·subst c36
              rw [if_pos rfl] at H
              simp only [Option.some.injEq, Prod.mk.injEq] at H
              obtain ⟨rfl, rfl, rfl, rfl, rfl, rfl⟩ := H
              have hnb37 := NB628_624.out
              have hnc37 := NB624_628.out
              obtain ⟨z0, z1, z2, z3, z4, y0, y1, y2, y3, y4⟩ := bc5 BK628
              obtain ⟨Ao39, co39, eo39⟩ := Kd.R_slice HO_629004.out
              subst eo39
              go_wp2_with (first | ((with_reducible refine gate_callee (f := 57) rfl ?_); refine goesL_ (some 42) rfl rfl Try.func57 (by kernel_rfl) rfl #[.agg #[.int .i64 t626, .int .i64 t625, .int .i64 t627, .string (a0.extract 8 40), .slice Ao39 x629004_1.length co39]] rfl sma ?_; (with_reducible refine (hopmeshref49_Command.calls k1 t626 t625 t627 (a0.extract 8 40) _ _ x629004_1 true _ ?side1 ?side2 A35.out).mono ?_); (case side1 => repeat (first | exact (Kd.R_reads' HO_629004.out).2.2 | (with_reducible refine Kd.C_alloc ?_ _) | (with_reducible refine Kd.C_drewN ?_ _) | (with_reducible refine Kd.C_drew ?_))); (case side2 => exact (Kd.R_reads' HO_629004.out).2.1); rintro e w40 ⟨rfl, hb⟩; refine ⟨_, rfl, ?_⟩; replace HO_629004 := rB HO_629004 hb; replace BK624 := bkB BK624 hb; replace BK628 := bkB BK628 hb; replace HB := hbS HB hb; (try clear hb); (try clear hb2); (try clear hk); (try clear hi); obtain ⟨z0, z1, z2, z3, z4, y0, y1, y2, y3, y4⟩ := bc5 BK628; obtain ⟨z0, z1, z2, z3, z4, y0, y1, y2, y3, y4⟩ := bc5 BK624))
              refine bodyPost_ret (results_ct rfl _ _ gb624 36 #[.int .i64 t626, .int .i64 t625, .int .i64 t627, .string (a0.extract 8 40), .slice Ao39 x629004_1.length co39] (0, 0) _ rfl (bkp BK624) Try.underlying36 rfl (by kernel_rfl)) rfl ?_
              exact ⟨_, rerr, Kd.R_mono (rty (rfo HO_629004) BK624) (fun _ hk => trivial), hbx HB⟩
             ·replace c36 := Bool.eq_false_iff.mpr c36
              subst c36
              rw [if_neg (show ¬ (false = true) by decide)] at H
              simp only [Option.some.injEq, Prod.mk.injEq] at H
              obtain ⟨rfl, rfl, rfl, rfl, rfl, rfl⟩ := H
              have hnb43 := NB628_624.out
              have hnc43 := NB624_628.out
              obtain ⟨z0, z1, z2, z3, z4, y0, y1, y2, y3, y4⟩ := bc5 BK628
              obtain ⟨Ao45, co45, eo45⟩ := Kd.R_slice HO_629004.out
              subst eo45
              go_wp2_with (first | ((with_reducible refine gate_callee (f := 57) rfl ?_); refine goesL_ (some 42) rfl rfl Try.func57 (by kernel_rfl) rfl #[.agg #[.int .i64 t626, .int .i64 t625, .int .i64 t627, .string (a0.extract 8 40), .slice Ao45 x629004_1.length co45]] rfl sma ?_; (with_reducible refine (hopmeshref49_Command.calls k1 t626 t625 t627 (a0.extract 8 40) _ _ x629004_1 false _ ?side1 ?side2 A35.out).mono ?_); (case side1 => repeat (first | exact (Kd.R_reads' HO_629004.out).2.2 | (with_reducible refine Kd.C_alloc ?_ _) | (with_reducible refine Kd.C_drewN ?_ _) | (with_reducible refine Kd.C_drew ?_))); (case side2 => exact (Kd.R_reads' HO_629004.out).2.1); rintro e w46 ⟨rfl, hb⟩; refine ⟨_, rfl, ?_⟩; replace HO_629004 := rB HO_629004 hb; replace BK624 := bkB BK624 hb; replace BK628 := bkB BK628 hb; replace HB := hbS HB hb; (try clear hb); (try clear hb2); (try clear hk); (try clear hi); obtain ⟨z0, z1, z2, z3, z4, y0, y1, y2, y3, y4⟩ := bc5 BK624))
              refine bodyPost_ret (results_ct rfl _ _ gb624 36 #[.int .i64 0, .int .i64 0, .int .i64 0, .string (⟨#[]⟩ : ByteArray), .slice none 0 0] (0, 0) _ rfl (bkp BK624) Try.underlying36 rfl (by kernel_rfl)) rfl ?_
              exact ⟨_, rerr, rnil, hbx HB⟩
         ·rw [if_neg c13] at H
          exact absurd H (by simp)
        ·rw [if_neg c12] at H
         exact absurd H (by simp)
       ·rw [if_neg c10] at H
        exact absurd H (by simp)
      ·rw [if_neg c9] at H
       exact absurd H (by simp)
     ·rw [if_neg c7] at H
      exact absurd H (by simp)
    ·rw [if_neg c6] at H
     exact absurd H (by simp)
   ·rw [if_neg c4] at H
    exact absurd H (by simp)
  ·rw [if_neg c3] at H
   exact absurd H (by simp)
 ·rw [if_neg c2] at H
  have c2b0 : ((a0.size : Int) == 44) = false := beq_eq_false_iff_ne.mpr c2
  have c2b1 : ((a0.size : Int) != 44) = true := bne_iff_ne.mpr c2
  simp only [Option.some.injEq, Prod.mk.injEq] at H
  obtain ⟨rfl, rfl, rfl, rfl, rfl, rfl⟩ := H
  go_enter Try.func27, Try.ntmps27
  go_wp2_with (first | ((with_reducible refine gate_dst (N := 2) rfl ?_); refine boxE 2 #[.int .i64 0, .int .i64 0, .int .i64 0, .string (⟨#[]⟩ : ByteArray), .slice none 0 0] 36 ?_; intro gb624 hg w48 hbox hb; have BK624 := Aside0.mk (hbox); have GW624 := gw hg HB; have GE624 := gw hg HB; replace HB := hbS HB hb; clear hb hbox hg; obtain ⟨z0, z1, z2, z3, z4, y0, y1, y2, y3, y4⟩ := bc5 BK624))
  refine bodyPost_ret (results_ct rfl _ _ gb624 36 #[.int .i64 0, .int .i64 0, .int .i64 0, .string (⟨#[]⟩ : ByteArray), .slice none 0 0] (0, 0) _ rfl (bkp BK624) Try.underlying36 rfl (by kernel_rfl)) rfl ?_
  exact ⟨_, rerr, rnil, hbx HB⟩
end Go.Proofs.Ytdigplhjfjchnaa.PQ
