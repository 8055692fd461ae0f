-- Printed by fprint.py and zip.py, programs of this session's, over the kit's print; Lean checks it.
import Derived.Test.YtdigplhjfjchnaaZ0
import Derived.Test.YtdigplhjfjchnaaZf11
import Derived.Test.YtdigplhjfjchnaaZf12
import Derived.Test.YtdigplhjfjchnaaZf14
import Derived.Test.YtdigplhjfjchnaaZf15
import Derived.Test.YtdigplhjfjchnaaZf18
import Derived.Test.YtdigplhjfjchnaaZf20
import Derived.Test.YtdigplhjfjchnaaZf24
namespace Go.Proofs.Ytdigplhjfjchnaa.PQ
open Go.RowKit Go.Proofs.YtdigplhjfjchnaaW.PrintWords Go.Proofs.YtdigplhjfjchnaaW.PrintLast Go.Proofs.YtdigplhjfjchnaaW.PrintMore
attribute [local go_sem] max2_int min2_int max_two min_two max_three min_three max_four min_four   -- for this text's walks alone
set_option linter.unusedVariables false
set_option linter.unusedSimpArgs false
def hopmeshlaw49_awake.f (k : Nat)  : Option (Bool) := (hopmeshlaw49_id.f (⟨#[120]⟩ : ByteArray)).bind fun t184 => ((install_Complete.f k (⟨#[]⟩ : ByteArray) (⟨#[]⟩ : ByteArray) false (⟨#[]⟩ : ByteArray) 0 0 t184).bind fun bt185 => ((hopmeshlaw49_id.f (⟨#[120]⟩ : ByteArray)).bind fun t193 => ((some (([0, 3] : List Int) : List Int)).bind fun y194 => ((install_Take.f k bt185.1 bt185.2.1 bt185.2.2.1 bt185.2.2.2.1 bt185.2.2.2.2.1 bt185.2.2.2.2.2.1 1 1 50 t193 y194 3 40).bind fun bt198 => ((install_Step.f k bt198.1 bt198.2.1 bt198.2.2.1 bt198.2.2.2.1 bt198.2.2.2.2.1 bt198.2.2.2.2.2.1 50).bind fun bt206 => ((install_Take.f k bt185.1 bt185.2.1 bt185.2.2.1 bt185.2.2.2.1 bt185.2.2.2.2.1 bt185.2.2.2.2.2.1 1 1 50 t193 y194 3 50).bind fun bt215 => ((install_Encode.f k 1 1 50 t193 y194).bind fun bt223 => ((hopmeshlaw49_id.f (⟨#[120]⟩ : ByteArray)).bind fun t225 => ((install_New.f k t225 (([3] : List Int))).bind fun bt229 => (if bt185.2.2.2.2.2.2 = 0 then (if bt198.2.2.2.2.2.2 = 0 then (if bt206.2.2.2.2.2.2.2 = 0 then (if bt215.2.2.2.2.2.2 = 15 then (if bt223.2 = 0 then (if bt229.2.2.2.2.2.2 = 0 then (if bt198.2.2.1 = true then (if bt206.2.2.2.2.2.2.1 = true then ((hopmeshlaw49_id.f (⟨#[120]⟩ : ByteArray)).bind fun t243 => (if bt206.1.toList = t243.toList then (if bt206.2.2.1 = true then (none) else (if bt215.2.2.1 = true then (none) else (if (bt223.1.size : Int) = 44 then ((install_Ready.f k bt229.1 bt229.2.1 bt229.2.2.1 bt229.2.2.2.1 bt229.2.2.2.2.1 bt229.2.2.2.2.2.1).bind fun t244 => (some (!t244))) else (none)))) else (none))) else (none)) else (none)) else (none)) else (none)) else (none)) else (none)) else (none)) else (none)))))))))))
theorem hopmeshlaw49_awake.mono : ∀ k, LeO (hopmeshlaw49_awake.f k ) (hopmeshlaw49_awake.f (k + 1) ) := by
 intro  k
 unfold hopmeshlaw49_awake.f
 repeat' first
  | (with_reducible exact install_Complete.mono _ _ _ _ _ _ _ _)
  | (with_reducible exact install_Encode.mono _ _ _ _ _ _)
  | (with_reducible exact install_New.mono _ _ _)
  | (with_reducible exact install_Ready.mono _ _ _ _ _ _ _)
  | (with_reducible exact install_Step.mono _ _ _ _ _ _ _ _)
  | (with_reducible exact install_Take.mono _ _ _ _ _ _ _ _ _ _ _ _ _ _)
  | (with_reducible exact LeO.refl _)
  | (with_reducible exact LeO.none _)
  | (with_reducible refine LeO.ite ?_ ?_)
  | (with_reducible refine LeO.bind ?_ (fun _ => ?_))
  | exact install_Complete.mono _ _ _ _ _ _ _ _
  | exact install_Encode.mono _ _ _ _ _ _
  | exact install_New.mono _ _ _
  | exact install_Ready.mono _ _ _ _ _ _ _
  | exact install_Step.mono _ _ _ _ _ _ _ _
  | exact install_Take.mono _ _ _ _ _ _ _ _ _ _ _ _ _ _
  | exact LeO.none _
  | refine LeO.ite ?_ ?_
  | refine LeO.bind ?_ (fun _ => ?_)
def hopmeshlaw49_awake.T8 : Bool × List (List Nat × List Nat) := (true, [([], []), ([0], [0]), ([1], [1]), ([2], [2]), ([3, 2], [2, 3]), ([2, 4], [2, 4]), ([5, 2], [5]), ([6], [6]), ([7, 6], [6, 7]), ([6, 8], [6, 8]), ([9, 6], [9]), ([10], [10]), ([11, 10], [10, 11]), ([10, 12], [10, 12]), ([13, 10], [13]), ([14], [14]), ([15, 14], [14, 15]), ([14, 16], [14, 16]), ([17, 14], [17]), ([18], [18]), ([19, 18], [18, 19]), ([18, 20], [18, 20]), ([21, 18], [21]), ([22], [22]), ([23, 22], [22, 23]), ([22, 24], [22, 24]), ([25, 22], [25]), ([26], [26]), ([26, 27], [26, 27]), ([28, 26], [28]), ([29], [29]), ([30, 29], [29, 30]), ([29, 29], [29]), ([31, 32, 29], [29, 31, 32]), ([29, 33], [29, 33]), ([34, 32], [34]), ([35], [35]), ([36, 35], [35, 36]), ([37, 35], [35, 37]), ([35, 38], [35, 38]), ([39, 35], [39]), ([40], [40]), ([41, 40], [40, 41]), ([42, 40], [40, 42]), ([40, 43], [40, 43]), ([44, 40], [44]), ([45], [45]), ([46, 45], [45, 46]), ([47, 45], [45, 47]), ([45, 48], [45, 48]), ([49, 45], [49]), ([50], [50]), ([51, 50, 50], [50, 51]), ([52, 50], [50, 52]), ([50, 53], [50, 53]), ([54, 52, 0, 1, 2, 3, 4, 5, 6, 7, 8, 9, 10, 11, 12, 13, 14, 15, 16, 17, 18, 19, 20, 21, 22, 23, 24, 25, 26, 27, 28, 29, 30, 31, 32, 33, 34, 35, 36, 37, 38, 39, 40, 41, 42, 43, 44, 45, 46, 47, 48, 49, 50, 51, 52, 53, 54], [54])])
def hopmeshlaw49_awake.B8 : List Nat := [0, 1, 3, 7, 15, 31, 63, 127, 255, 511, 1023, 2047, 4095, 8191, 16383, 32767, 65535, 131071, 262143, 524287, 1048575, 2097151, 4194303, 8388607, 16777215, 33554431, 67108863, 134217727, 268435455, 536870911, 1073741823, 2147483647, 1073741823, 8589934591, 17179869183, 34359738367, 68719476735, 137438953471, 274877906943, 549755813887, 1099511627775, 2199023255551, 4398046511103, 8796093022207, 17592186044415, 35184372088831, 70368744177663, 140737488355327, 281474976710655, 562949953421311, 1125899906842623, 2251799813685247, 4503599627370495, 9007199254740991, 18014398509481983, 36028797018963967]
theorem hopmeshlaw49_awake.tab8 : rtab .any (opsOf Try.f10 8) = hopmeshlaw49_awake.T8 := by kernel_rfl
theorem hopmeshlaw49_awake.bits8 : waitsOk hopmeshlaw49_awake.T8.2 hopmeshlaw49_awake.B8 = true := by kernel_rfl
set_option maxHeartbeats 8000000 in
set_option maxRecDepth 100000 in
theorem hopmeshlaw49_awake.calls (k : Nat)  (r : Bool) (w : World) (h : hopmeshlaw49_awake.f k  = some r) :
 Calls Try.prog 10 #[] w fun e w' => e = .returned (.bool r) ∧ Below w.heap.size w w' := by
 have hu28 := Try.underlying28
 have hu36 := Try.underlying36
 have hu50 := Try.underlying50
 have HB := Aside0.mk (Below.refl w.heap.size w)
 have H : ((hopmeshlaw49_id.f (⟨#[120]⟩ : ByteArray)).bind fun t184 => ((install_Complete.f k (⟨#[]⟩ : ByteArray) (⟨#[]⟩ : ByteArray) false (⟨#[]⟩ : ByteArray) 0 0 t184).bind fun bt185 => ((hopmeshlaw49_id.f (⟨#[120]⟩ : ByteArray)).bind fun t193 => ((some (([0, 3] : List Int) : List Int)).bind fun y194 => ((install_Take.f k bt185.1 bt185.2.1 bt185.2.2.1 bt185.2.2.2.1 bt185.2.2.2.2.1 bt185.2.2.2.2.2.1 1 1 50 t193 y194 3 40).bind fun bt198 => ((install_Step.f k bt198.1 bt198.2.1 bt198.2.2.1 bt198.2.2.2.1 bt198.2.2.2.2.1 bt198.2.2.2.2.2.1 50).bind fun bt206 => ((install_Take.f k bt185.1 bt185.2.1 bt185.2.2.1 bt185.2.2.2.1 bt185.2.2.2.2.1 bt185.2.2.2.2.2.1 1 1 50 t193 y194 3 50).bind fun bt215 => ((install_Encode.f k 1 1 50 t193 y194).bind fun bt223 => ((hopmeshlaw49_id.f (⟨#[120]⟩ : ByteArray)).bind fun t225 => ((install_New.f k t225 (([3] : List Int))).bind fun bt229 => (if bt185.2.2.2.2.2.2 = 0 then (if bt198.2.2.2.2.2.2 = 0 then (if bt206.2.2.2.2.2.2.2 = 0 then (if bt215.2.2.2.2.2.2 = 15 then (if bt223.2 = 0 then (if bt229.2.2.2.2.2.2 = 0 then (if bt198.2.2.1 = true then (if bt206.2.2.2.2.2.2.1 = true then ((hopmeshlaw49_id.f (⟨#[120]⟩ : ByteArray)).bind fun t243 => (if bt206.1.toList = t243.toList then (if bt206.2.2.1 = true then (none) else (if bt215.2.2.1 = true then (none) else (if (bt223.1.size : Int) = 44 then ((install_Ready.f k bt229.1 bt229.2.1 bt229.2.2.1 bt229.2.2.2.1 bt229.2.2.2.2.1 bt229.2.2.2.2.2.1).bind fun t244 => (some (!t244))) else (none)))) else (none))) else (none)) else (none)) else (none)) else (none)) else (none)) else (none)) else (none)) else (none)))))))))))) = some r := h
 clear h
 replace H := Option.bind_eq_some_iff.mp H
 obtain ⟨t184, A10, H⟩ := H
 (try dsimp only at H)
 have A1 := Aside0.mk A10
 clear A10
 replace H := Option.bind_eq_some_iff.mp H
 obtain ⟨⟨t185, t186, t187, t188, t189, t190, t191⟩, A20, H⟩ := H
 (try dsimp only at H)
 have A2 := Aside0.mk A20
 clear A20
 replace H := Option.bind_eq_some_iff.mp H
 obtain ⟨t193, A30, H⟩ := H
 (try dsimp only at H)
 have A3 := Aside0.mk A30
 clear A30
 obtain ⟨y194, hy194⟩ : ∃ y_ : List Int, y_ = (([0, 3] : List Int)) := ⟨_, rfl⟩
 replace H : ((install_Take.f k t185 t186 t187 t188 t189 t190 1 1 50 t193 y194 3 40).bind fun bt198 => ((install_Step.f k bt198.1 bt198.2.1 bt198.2.2.1 bt198.2.2.2.1 bt198.2.2.2.2.1 bt198.2.2.2.2.2.1 50).bind fun bt206 => ((install_Take.f k t185 t186 t187 t188 t189 t190 1 1 50 t193 y194 3 50).bind fun bt215 => ((install_Encode.f k 1 1 50 t193 y194).bind fun bt223 => ((hopmeshlaw49_id.f (⟨#[120]⟩ : ByteArray)).bind fun t225 => ((install_New.f k t225 (([3] : List Int))).bind fun bt229 => (if t191 = 0 then (if bt198.2.2.2.2.2.2 = 0 then (if bt206.2.2.2.2.2.2.2 = 0 then (if bt215.2.2.2.2.2.2 = 15 then (if bt223.2 = 0 then (if bt229.2.2.2.2.2.2 = 0 then (if bt198.2.2.1 = true then (if bt206.2.2.2.2.2.2.1 = true then ((hopmeshlaw49_id.f (⟨#[120]⟩ : ByteArray)).bind fun t243 => (if bt206.1.toList = t243.toList then (if bt206.2.2.1 = true then (none) else (if bt215.2.2.1 = true then (none) else (if (bt223.1.size : Int) = 44 then ((install_Ready.f k bt229.1 bt229.2.1 bt229.2.2.1 bt229.2.2.2.1 bt229.2.2.2.2.1 bt229.2.2.2.2.2.1).bind fun t244 => (some (!t244))) else (none)))) else (none))) else (none)) else (none)) else (none)) else (none)) else (none)) else (none)) else (none)) else (none)))))))) = some r := by first | (rw [hy194]; with_reducible exact H) | (have H2_ := (Option.bind_some _ _).symm.trans H; rw [hy194]; with_reducible exact H2_) | (have H2_ := (Option.bind_some _ _).symm.trans H; with_reducible exact H2_) | with_reducible exact H | (rw [hy194]; exact H) | exact H
 have Ny194 := Aside0.mk hy194
 clear hy194
 replace H := Option.bind_eq_some_iff.mp H
 obtain ⟨⟨t198, t199, t200, t201, t202, t203, t204⟩, A40, H⟩ := H
 (try dsimp only at H)
 have A4 := Aside0.mk A40
 clear A40
 replace H := Option.bind_eq_some_iff.mp H
 obtain ⟨⟨t206, t207, t208, t209, t210, t211, t212, t213⟩, A50, H⟩ := H
 (try dsimp only at H)
 have A5 := Aside0.mk A50
 clear A50
 replace H := Option.bind_eq_some_iff.mp H
 obtain ⟨⟨t215, t216, t217, t218, t219, t220, t221⟩, A60, H⟩ := H
 (try dsimp only at H)
 have A6 := Aside0.mk A60
 clear A60
 replace H := Option.bind_eq_some_iff.mp H
 obtain ⟨⟨t223, t224⟩, A70, H⟩ := H
 (try dsimp only at H)
 have A7 := Aside0.mk A70
 clear A70
 replace H := Option.bind_eq_some_iff.mp H
 obtain ⟨t225, A80, H⟩ := H
 (try dsimp only at H)
 have A8 := Aside0.mk A80
 clear A80
 obtain ⟨y226, hy226⟩ : ∃ y_ : List Int, y_ = (([3] : List Int)) := ⟨_, rfl⟩
 replace H : ((install_New.f k t225 y226).bind fun bt229 => (if t191 = 0 then (if t204 = 0 then (if t213 = 0 then (if t221 = 15 then (if t224 = 0 then (if bt229.2.2.2.2.2.2 = 0 then (if t200 = true then (if t212 = true then ((hopmeshlaw49_id.f (⟨#[120]⟩ : ByteArray)).bind fun t243 => (if t206.toList = t243.toList then (if t208 = true then (none) else (if t217 = true then (none) else (if (t223.size : Int) = 44 then ((install_Ready.f k bt229.1 bt229.2.1 bt229.2.2.1 bt229.2.2.2.1 bt229.2.2.2.2.1 bt229.2.2.2.2.2.1).bind fun t244 => (some (!t244))) else (none)))) else (none))) else (none)) else (none)) else (none)) else (none)) else (none)) else (none)) else (none)) else (none))) = some r := by first | (rw [hy226]; with_reducible exact H) | (have H2_ := (Option.bind_some _ _).symm.trans H; rw [hy226]; with_reducible exact H2_) | (have H2_ := (Option.bind_some _ _).symm.trans H; with_reducible exact H2_) | with_reducible exact H | (rw [hy226]; exact H) | exact H
 have Ny226 := Aside0.mk hy226
 clear hy226
 replace H := Option.bind_eq_some_iff.mp H
 obtain ⟨⟨t229, t230, t233, t236, t239, t240, t241⟩, A90, H⟩ := H
 (try dsimp only at H)
 have A9 := Aside0.mk A90
 clear A90
 by_cases c10 : t191 = 0
 ·rw [if_pos c10] at H
  have c10b0 : (t191 == 0) = true := beq_iff_eq.mpr c10
  have c10b1 : (t191 != 0) = false := bne_eq_false_iff_eq.mpr c10
  clear c10
  by_cases c11 : t204 = 0
  ·rw [if_pos c11] at H
   have c11b0 : (t204 == 0) = true := beq_iff_eq.mpr c11
   have c11b1 : (t204 != 0) = false := bne_eq_false_iff_eq.mpr c11
   clear c11
   by_cases c12 : t213 = 0
   ·rw [if_pos c12] at H
    have c12b0 : (t213 == 0) = true := beq_iff_eq.mpr c12
    have c12b1 : (t213 != 0) = false := bne_eq_false_iff_eq.mpr c12
    clear c12
    by_cases c13 : t221 = 15
    ·rw [if_pos c13] at H
     have c13b0 : (t221 == 15) = true := beq_iff_eq.mpr c13
     have c13b1 : (t221 != 15) = false := bne_eq_false_iff_eq.mpr c13
     clear c13
     by_cases c14 : t224 = 0
     ·rw [if_pos c14] at H
      have c14b0 : (t224 == 0) = true := beq_iff_eq.mpr c14
      have c14b1 : (t224 != 0) = false := bne_eq_false_iff_eq.mpr c14
      clear c14
      by_cases c15 : t241 = 0
      ·rw [if_pos c15] at H
       have c15b0 : (t241 == 0) = true := beq_iff_eq.mpr c15
       have c15b1 : (t241 != 0) = false := bne_eq_false_iff_eq.mpr c15
       clear c15
       by_cases c16 : t200 = true
       ·subst c16
        rw [if_pos rfl] at H
        by_cases c17 : t212 = true
        ·subst c17
         rw [if_pos rfl] at H
         replace H := Option.bind_eq_some_iff.mp H
         obtain ⟨t243, A180, H⟩ := H
         (try dsimp only at H)
         have A18 := Aside0.mk A180
         clear A180
         by_cases c19 : t206.toList = t243.toList
         ·rw [if_pos c19] at H
          have c19b0 : (t206.toList == t243.toList) = true := beq_iff_eq.mpr c19
          have c19b1 : (t206.toList != t243.toList) = false := bne_eq_false_iff_eq.mpr c19
          clear c19
          by_cases c20 : t208 = true
          ·subst c20
           rw [if_pos rfl] at H
           exact absurd H (by simp)
          ·replace c20 := Bool.eq_false_iff.mpr c20
           subst c20
           rw [if_neg (show ¬ (false = true) by decide)] at H
           by_cases c21 : t217 = true
           ·subst c21
            rw [if_pos rfl] at H
            exact absurd H (by simp)
           ·replace c21 := Bool.eq_false_iff.mpr c21
            subst c21
            rw [if_neg (show ¬ (false = true) by decide)] at H
            by_cases c22 : (t223.size : Int) = 44
            ·rw [if_pos c22] at H
             have c22b0 : ((t223.size : Int) == 44) = true := beq_iff_eq.mpr c22
             have c22b1 : ((t223.size : Int) != 44) = false := bne_eq_false_iff_eq.mpr c22
             clear c22
             replace H := Option.bind_eq_some_iff.mp H
             obtain ⟨t244, A230, H⟩ := H
             (try dsimp only at H)
             have A23 := Aside0.mk A230
             clear A230
             obtain rfl := Option.some.inj H
             go_enter Try.func10, Try.ntmps10
             try go_wp2_with (first | ((with_reducible refine gate_callee (f := 11) rfl ?_); refine goesL_ (some 17) rfl rfl Try.func11 (by kernel_rfl) rfl #[.string (⟨#[120]⟩ : ByteArray)] rfl sma ?_; (with_reducible refine (hopmeshlaw49_id.calls (⟨#[120]⟩ : ByteArray) t184 _ A1.out).mono ?_); rintro e w24 ⟨rfl, hb⟩; refine ⟨_, rfl, ?_⟩; replace HB := hbS HB hb; (try clear hb); (try clear hb2); (try clear hk); (try clear hi)) | ((with_reducible refine gate_callee (f := 12) rfl ?_); refine goesL_ (some 18) rfl rfl Try.func12 (by kernel_rfl) rfl #[.agg #[.string (⟨#[]⟩ : ByteArray), .string (⟨#[]⟩ : ByteArray), .bool false, .string (⟨#[]⟩ : ByteArray), .int .i64 0, .int .i64 0], .string t184] rfl sma ?_; (with_reducible refine (install_Complete.calls k (⟨#[]⟩ : ByteArray) (⟨#[]⟩ : ByteArray) false (⟨#[]⟩ : ByteArray) 0 0 t184 t185 t186 t187 t188 t189 t190 t191 _ A2.out).mono ?_); rintro e w25 ⟨rfl, hb⟩; refine ⟨_, rfl, ?_⟩; replace HB := hbS HB hb; (try clear hb); (try clear hb2); (try clear hk); (try clear hi)) | ((with_reducible refine gate_dst (N := 1) rfl ?_); (try (refine gate_guard (by rfl) ?_; dsimp only)); refine boxE 1 #[.string (⟨#[]⟩ : ByteArray), .string (⟨#[]⟩ : ByteArray), .bool false, .string (⟨#[]⟩ : ByteArray), .int .i64 0, .int .i64 0] 28 ?_; intro gb192 hg w26 hbox hb; have BK192 := Aside0.mk (hbox); have GW192 := gw hg HB; have GE192 := gw hg HB; replace HB := hbS HB hb; clear hb hbox hg; obtain ⟨z0, z1, z2, z3, z4, z5, y0, y1, y2, y3, y4, y5⟩ := bc6 BK192) | ((with_reducible refine gate_callee (f := 11) rfl ?_); refine goesL_ (some 21) rfl rfl Try.func11 (by kernel_rfl) rfl #[.string (⟨#[120]⟩ : ByteArray)] rfl sma ?_; (with_reducible refine (hopmeshlaw49_id.calls (⟨#[120]⟩ : ByteArray) t193 _ A3.out).mono ?_); rintro e w28 ⟨rfl, hb⟩; refine ⟨_, rfl, ?_⟩; replace BK192 := Aside0.mk (blk_below (o := .cells #[.string t185, .string t186, .bool t187, .string t188, .int .i64 t189, .int .i64 t190] 28 (0, 0)) (bkp BK192) hb); replace HB := hbS HB hb; (try clear hb); (try clear hb2); (try clear hk); (try clear hi)) | ((with_reducible refine gate_dst (N := 22) rfl ?_); (try (refine gate_guard (by rfl) ?_; dsimp only)); refine Kd.R_lit (Kd.int .i64) _ 3 ?hg (N := 22) ?hd (xs := ([0, 3] : List Int)) (inner := [.int .i64 0, .int .i64 3]) (ok := fun _ => True) (okp := fun _ => True) ?hr ?hp (fun _ hk => hk) trivial (Below.refl _ _) (Nat.le_refl _) (by simp) ?_; (case hd => rfl); (case hg => rfl); (case hr => first | (go_simp; done) | (go_simp; rfl)); (case hp => exact (Reps.one (show Kd.M (Kd.int .i64) _ _ _ 0 [.int .i64 0] from rfl) (Reps.one (show Kd.M (Kd.int .i64) _ _ _ 3 [.int .i64 3] from rfl) (Reps.none _ _)))); intro v195 w29 ho30 hb hg_ hnew_; clear hg_ hnew_; (first | rw [← Ny194.out] at ho30 | (simp only [Int.reduceToNat] at ho30; rw [← Ny194.out] at ho30)); have HO196 := Aside0.mk (Kd.R_lower ho30 (below_size (hbx HB))); replace BK192 := bkB BK192 hb; replace HB := hbS HB hb; clear hb ho30; obtain ⟨Ao31, co31, eo31⟩ := Kd.R_slice HO196.out; subst eo31) | ((with_reducible refine gate_dst (N := 3) rfl ?_); (try (refine gate_guard (by rfl) ?_; dsimp only)); refine boxE 3 #[.int .i64 0, .int .i64 0, .int .i64 0, .string (⟨#[]⟩ : ByteArray), .slice none 0 0] 36 ?_; intro gb197 hg w32 hbox hb; replace HO196 := rB HO196 hb; have BK197 := Aside0.mk (hbox); have GW197 := gw hg HB; have GE197 := gw hg HB; replace HB := hbS HB hb; have NB192_197 := nbl hg BK192; have NB197_192 := nbg hg BK192; replace BK192 := bkB BK192 hb; clear hb hbox hg; have hnb33 := NB197_192.out; have hnc33 := NB192_197.out; obtain ⟨z0, z1, z2, z3, z4, y0, y1, y2, y3, y4⟩ := bc5 BK197; obtain ⟨z0, z1, z2, z3, z4, z5, y0, y1, y2, y3, y4, y5⟩ := bc6 BK192) | ((with_reducible refine gate_callee (f := 14) rfl ?_); refine goesL_ (some 27) rfl rfl Try.func14 (by kernel_rfl) rfl #[.agg #[.string t185, .string t186, .bool t187, .string t188, .int .i64 t189, .int .i64 t190], .agg #[.int .i64 1, .int .i64 1, .int .i64 50, .string t193, .slice Ao31 y194.length co31], .int .i64 3, .int .i64 40] rfl sma ?_; (with_reducible refine (install_Take.calls k t185 t186 t187 t188 t189 t190 1 1 50 t193 _ _ y194 3 40 t198 t199 true t201 t202 t203 t204 _ ?side1 ?side2 A4.out).mono ?_); (case side1 => refine (Kd.R_reads' (e := 3) (base := w.heap.size) (ok := fun k_ => True) (n := y194.length) (c := co31) ?_).2.2; exact (rfo HO196)); (case side2 => exact (Kd.R_reads' HO196.out).2.1); rintro e w36 ⟨rfl, hb⟩; refine ⟨_, rfl, ?_⟩; replace HO196 := Aside0.mk (Kd.R_below (rfo HO196) hb); replace BK192 := bkfB BK192 hb; replace BK197 := Aside0.mk (blk_below (o := .cells #[.int .i64 1, .int .i64 1, .int .i64 50, .string t193, .slice Ao31 y194.length co31] 36 (0, 0)) (bkp BK197) hb); replace HB := hbS HB hb; (try clear hb); (try clear hb2); (try clear hk); (try clear hi)) | ((with_reducible refine gate_dst (N := 4) rfl ?_); (try (refine gate_guard (by rfl) ?_; dsimp only)); refine boxE 4 #[.string (⟨#[]⟩ : ByteArray), .string (⟨#[]⟩ : ByteArray), .bool false, .string (⟨#[]⟩ : ByteArray), .int .i64 0, .int .i64 0] 28 ?_; intro gb205 hg w37 hbox hb; replace HO196 := rB HO196 hb; have BK205 := Aside0.mk (hbox); have GW205 := gw hg HB; have GE205 := gw hg HB; replace HB := hbS HB hb; have NB192_205 := nbl hg BK192; have NB205_192 := nbg hg BK192; replace BK192 := bkB BK192 hb; have NB197_205 := nbl hg BK197; have NB205_197 := nbg hg BK197; replace BK197 := bkB BK197 hb; clear hb hbox hg; have hnb38 := NB205_192.out; have hnc38 := NB192_205.out; have hnb39 := NB205_197.out; have hnc39 := NB197_205.out; obtain ⟨z0, z1, z2, z3, z4, z5, y0, y1, y2, y3, y4, y5⟩ := bc6 BK205) | ((with_reducible refine gate_callee (f := 15) rfl ?_); refine goesL_ (some 32) rfl rfl Try.func15 (by kernel_rfl) rfl #[.agg #[.string t198, .string t199, .bool true, .string t201, .int .i64 t202, .int .i64 t203], .int .i64 50] rfl sma ?_; (with_reducible refine (install_Step.calls k t198 t199 true t201 t202 t203 50 t206 t207 false t209 t210 t211 true t213 _ A5.out).mono ?_); rintro e w41 ⟨rfl, hb⟩; refine ⟨_, rfl, ?_⟩; replace HO196 := Aside0.mk (Kd.R_below (rfo HO196) hb); replace BK192 := bkfB BK192 hb; replace BK197 := bkfB BK197 hb; replace BK205 := Aside0.mk (blk_below (o := .cells #[.string t198, .string t199, .bool true, .string t201, .int .i64 t202, .int .i64 t203] 28 (0, 0)) (bkp BK205) hb); replace HB := hbS HB hb; (try clear hb); (try clear hb2); (try clear hk); (try clear hi)) | ((with_reducible refine gate_dst (N := 6) rfl ?_); (try (refine gate_guard (by rfl) ?_; dsimp only)); refine boxE 6 #[.string (⟨#[]⟩ : ByteArray), .string (⟨#[]⟩ : ByteArray), .bool false, .string (⟨#[]⟩ : ByteArray), .int .i64 0, .int .i64 0] 28 ?_; intro gb214 hg w42 hbox hb; replace HO196 := rB HO196 hb; have BK214 := Aside0.mk (hbox); have GW214 := gw hg HB; have GE214 := gw hg HB; replace HB := hbS HB hb; have NB192_214 := nbl hg BK192; have NB214_192 := nbg hg BK192; replace BK192 := bkB BK192 hb; have NB197_214 := nbl hg BK197; have NB214_197 := nbg hg BK197; replace BK197 := bkB BK197 hb; have NB205_214 := nbl hg BK205; have NB214_205 := nbg hg BK205; replace BK205 := bkB BK205 hb; clear hb hbox hg; have hnb43 := NB214_192.out; have hnc43 := NB192_214.out; have hnb44 := NB214_197.out; have hnc44 := NB197_214.out; have hnb45 := NB214_205.out; have hnc45 := NB205_214.out; obtain ⟨z0, z1, z2, z3, z4, z5, y0, y1, y2, y3, y4, y5⟩ := bc6 BK214; obtain ⟨z0, z1, z2, z3, z4, z5, y0, y1, y2, y3, y4, y5⟩ := bc6 BK192; obtain ⟨z0, z1, z2, z3, z4, y0, y1, y2, y3, y4⟩ := bc5 BK197) | ((with_reducible refine gate_callee (f := 14) rfl ?_); refine goesL_ (some 39) rfl rfl Try.func14 (by kernel_rfl) rfl #[.agg #[.string t185, .string t186, .bool t187, .string t188, .int .i64 t189, .int .i64 t190], .agg #[.int .i64 1, .int .i64 1, .int .i64 50, .string t193, .slice Ao31 y194.length co31], .int .i64 3, .int .i64 50] rfl sma ?_; (with_reducible refine (install_Take.calls k t185 t186 t187 t188 t189 t190 1 1 50 t193 _ _ y194 3 50 t215 t216 false t218 t219 t220 t221 _ ?side1 ?side2 A6.out).mono ?_); (case side1 => refine (Kd.R_reads' (e := 3) (base := w.heap.size) (ok := fun k_ => True) (n := y194.length) (c := co31) ?_).2.2; exact (rfo HO196)); (case side2 => exact (Kd.R_reads' HO196.out).2.1); rintro e w49 ⟨rfl, hb⟩; refine ⟨_, rfl, ?_⟩; replace HO196 := Aside0.mk (Kd.R_below (rfo HO196) hb); replace BK192 := bkfB BK192 hb; replace BK197 := bkfB BK197 hb; replace BK205 := bkfB BK205 hb; replace BK214 := Aside0.mk (blk_below (o := .cells #[.string t206, .string t207, .bool false, .string t209, .int .i64 t210, .int .i64 t211] 28 (0, 0)) (bkp BK214) hb); replace HB := hbS HB hb; (try clear hb); (try clear hb2); (try clear hk); (try clear hi)) | ((with_reducible refine gate_dst (N := 9) rfl ?_); (try (refine gate_guard (by rfl) ?_; dsimp only)); refine boxE 9 #[.string (⟨#[]⟩ : ByteArray), .string (⟨#[]⟩ : ByteArray), .bool false, .string (⟨#[]⟩ : ByteArray), .int .i64 0, .int .i64 0] 28 ?_; intro gb222 hg w50 hbox hb; replace HO196 := rB HO196 hb; have BK222 := Aside0.mk (hbox); have GW222 := gw hg HB; have GE222 := gw hg HB; replace HB := hbS HB hb; have NB192_222 := nbl hg BK192; have NB222_192 := nbg hg BK192; replace BK192 := bkB BK192 hb; have NB197_222 := nbl hg BK197; have NB222_197 := nbg hg BK197; replace BK197 := bkB BK197 hb; have NB205_222 := nbl hg BK205; have NB222_205 := nbg hg BK205; replace BK205 := bkB BK205 hb; have NB214_222 := nbl hg BK214; have NB222_214 := nbg hg BK214; replace BK214 := bkB BK214 hb; clear hb hbox hg; have hnb51 := NB222_192.out; have hnc51 := NB192_222.out; have hnb52 := NB222_197.out; have hnc52 := NB197_222.out; have hnb53 := NB222_205.out; have hnc53 := NB205_222.out; have hnb54 := NB222_214.out; have hnc54 := NB214_222.out; obtain ⟨z0, z1, z2, z3, z4, z5, y0, y1, y2, y3, y4, y5⟩ := bc6 BK222; obtain ⟨z0, z1, z2, z3, z4, y0, y1, y2, y3, y4⟩ := bc5 BK197) | ((with_reducible refine gate_callee (f := 24) rfl ?_); refine goesL_ (some 44) rfl rfl Try.func24 (by kernel_rfl) rfl #[.agg #[.int .i64 1, .int .i64 1, .int .i64 50, .string t193, .slice Ao31 y194.length co31]] rfl sma ?_; (with_reducible refine (install_Encode.calls k 1 1 50 t193 _ _ y194 t223 t224 _ ?side1 ?side2 A7.out).mono ?_); (case side1 => refine (Kd.R_reads' (e := 3) (base := w.heap.size) (ok := fun k_ => True) (n := y194.length) (c := co31) ?_).2.2; exact (rfo HO196)); (case side2 => exact (Kd.R_reads' HO196.out).2.1); rintro e w57 ⟨rfl, hb⟩; refine ⟨_, rfl, ?_⟩; replace HO196 := Aside0.mk (Kd.R_below (rfo HO196) hb); replace BK192 := bkfB BK192 hb; replace BK197 := bkfB BK197 hb; replace BK205 := bkfB BK205 hb; replace BK214 := bkfB BK214 hb; replace BK222 := Aside0.mk (blk_below (o := .cells #[.string t215, .string t216, .bool false, .string t218, .int .i64 t219, .int .i64 t220] 28 (0, 0)) (bkp BK222) hb); replace HB := hbS HB hb; (try clear hb); (try clear hb2); (try clear hk); (try clear hi)) | ((with_reducible refine gate_callee (f := 11) rfl ?_); refine goesL_ (some 48) rfl rfl Try.func11 (by kernel_rfl) rfl #[.string (⟨#[120]⟩ : ByteArray)] rfl sma ?_; (with_reducible refine (hopmeshlaw49_id.calls (⟨#[120]⟩ : ByteArray) t225 _ A8.out).mono ?_); rintro e w58 ⟨rfl, hb⟩; refine ⟨_, rfl, ?_⟩; replace HO196 := rB HO196 hb; replace BK192 := bkB BK192 hb; replace BK197 := bkB BK197 hb; replace BK205 := bkB BK205 hb; replace BK214 := bkB BK214 hb; replace BK222 := bkB BK222 hb; replace HB := hbS HB hb; (try clear hb); (try clear hb2); (try clear hk); (try clear hi)) | ((with_reducible refine gate_dst (N := 49) rfl ?_); (try (refine gate_guard (by rfl) ?_; dsimp only)); refine Kd.R_lit (Kd.int .i64) _ 3 ?hg (N := 49) ?hd (xs := ([3] : List Int)) (inner := [.int .i64 3]) (ok := fun _ => True) (okp := fun _ => True) ?hr ?hp (fun _ hk => hk) trivial (Below.refl _ _) (Nat.le_refl _) (by simp) ?_; (case hd => rfl); (case hg => rfl); (case hr => first | (go_simp; done) | (go_simp; rfl)); (case hp => exact (Reps.one (show Kd.M (Kd.int .i64) _ _ _ 3 [.int .i64 3] from rfl) (Reps.none _ _))); intro v227 w59 ho60 hb hg_ hnew_; clear hg_ hnew_; (first | rw [← Ny226.out] at ho60 | (simp only [Int.reduceToNat] at ho60; rw [← Ny226.out] at ho60)); have HO228 := Aside0.mk (Kd.R_lower (Kd.R_new' ho60 (Kd.R_lt (ro HO196))) (below_size (hbx HB))); replace HO196 := Aside0.mk (Kd.R_elder' (ro HO196) (Kd.R_base ho60) hb); replace BK192 := bkB BK192 hb; replace BK197 := bkB BK197 hb; replace BK205 := bkB BK205 hb; replace BK214 := bkB BK214 hb; replace BK222 := bkB BK222 hb; replace HB := hbS HB hb; clear hb ho60; obtain ⟨Ao61, co61, eo61⟩ := Kd.R_slice HO228.out; subst eo61) | ((with_reducible refine gate_callee (f := 18) rfl ?_); refine goesL_ (some 50) rfl rfl Try.func18 (by kernel_rfl) rfl #[.string t225, .slice Ao61 y226.length co61] rfl sma ?_; (with_reducible refine (install_New.calls k t225 _ _ y226 t229 t230 t233 t236 t239 t240 t241 _ ?side1 ?side2 A9.out).mono ?_); (case side1 => repeat (first | exact (Kd.R_reads' HO228.out).2.2 | (with_reducible refine Kd.C_alloc ?_ _) | (with_reducible refine Kd.C_drewN ?_ _) | (with_reducible refine Kd.C_drew ?_))); (case side2 => exact (Kd.R_reads' HO228.out).2.1); rintro e w62 ⟨v231, v234, v237, rfl, ho0, ho1, ho2, hb⟩; refine ⟨_, rfl, ?_⟩; have HO232 := Aside0.mk (Kd.R_lower (Kd.R_new' (Kd.R_new' ho0 (Kd.R_lt (ro HO196))) (Kd.R_lt (ro HO228))) (below_size (hbx HB))); replace HO196 := Aside0.mk (Kd.R_elder' (ro HO196) (Kd.R_base ho0) hb); replace HO228 := Aside0.mk (Kd.R_elder' (ro HO228) (Kd.R_base ho0) hb); have HO235 := Aside0.mk (Kd.R_lower ho1 (below_size (hbx HB))); have HO238 := Aside0.mk (Kd.R_lower ho2 (below_size (hbx HB))); replace BK192 := bkB BK192 hb; replace BK197 := bkB BK197 hb; replace BK205 := bkB BK205 hb; replace BK214 := bkB BK214 hb; replace BK222 := bkB BK222 hb; replace HB := hbS HB hb; (try clear hb); (try clear hb2); (try clear hk); (try clear hi); (try clear ho0); (try clear ho1); (try clear ho2)) | ((with_reducible refine gate_dst (N := 13) rfl ?_); (try (refine gate_guard (by rfl) ?_; dsimp only)); refine boxE 13 #[.string (⟨#[]⟩ : ByteArray), .slice none 0 0, .slice none 0 0, .slice none 0 0, .int .i64 0, .int .i64 0] 50 ?_; intro gb242 hg w63 hbox hb; replace HO196 := rB HO196 hb; replace HO228 := rB HO228 hb; replace HO232 := rB HO232 hb; replace HO235 := rB HO235 hb; replace HO238 := rB HO238 hb; have BK242 := Aside0.mk (hbox); have GW242 := gw hg HB; have GE242 := gw hg HB; replace HB := hbS HB hb; have NB192_242 := nbl hg BK192; have NB242_192 := nbg hg BK192; replace BK192 := bkB BK192 hb; have NB197_242 := nbl hg BK197; have NB242_197 := nbg hg BK197; replace BK197 := bkB BK197 hb; have NB205_242 := nbl hg BK205; have NB242_205 := nbg hg BK205; replace BK205 := bkB BK205 hb; have NB214_242 := nbl hg BK214; have NB242_214 := nbg hg BK214; replace BK214 := bkB BK214 hb; have NB222_242 := nbl hg BK222; have NB242_222 := nbg hg BK222; replace BK222 := bkB BK222 hb; clear hb hbox hg; have hnb64 := NB242_192.out; have hnc64 := NB192_242.out; have hnb65 := NB242_197.out; have hnc65 := NB197_242.out; have hnb66 := NB242_205.out; have hnc66 := NB205_242.out; have hnb67 := NB242_214.out; have hnc67 := NB214_242.out; have hnb68 := NB242_222.out; have hnc68 := NB222_242.out; obtain ⟨z0, z1, z2, z3, z4, z5, y0, y1, y2, y3, y4, y5⟩ := bc6 BK242; obtain ⟨Ao70, co70, eo70⟩ := Kd.R_slice HO232.out; subst eo70; obtain ⟨Ao71, co71, eo71⟩ := Kd.R_slice HO235.out; subst eo71; obtain ⟨Ao72, co72, eo72⟩ := Kd.R_slice HO238.out; subst eo72))
             have n0_ : Aside0 (Kd.R (Kd.int .i64) 3 ((((((w63.setCell ⟨gb242, 0, none⟩ (.string t229)).setCell ⟨gb242, 1, none⟩ (.slice Ao70 t230.length co70)).setCell ⟨gb242, 2, none⟩ (.slice Ao71 t233.length co71)).setCell ⟨gb242, 3, none⟩ (.slice Ao72 t236.length co72)).setCell ⟨gb242, 4, none⟩ (.int .i64 t239)).setCell ⟨gb242, 5, none⟩ (.int .i64 t240)) w.heap.size (fun k_ => some k_ ≠ (.slice Ao61 y226.length co61 : Value).ownBlock ∧ some k_ ≠ (.slice Ao70 t230.length co70 : Value).ownBlock) (.slice Ao31 y194.length co31) y194) := ⟨Kd.R_mono (rty (rfo HO196) BK242) (fun _ hk => ⟨hk.1.1.2, hk.1.2⟩)⟩
             have n1_ : Aside0 (Kd.R (Kd.int .i64) 3 ((((((w63.setCell ⟨gb242, 0, none⟩ (.string t229)).setCell ⟨gb242, 1, none⟩ (.slice Ao70 t230.length co70)).setCell ⟨gb242, 2, none⟩ (.slice Ao71 t233.length co71)).setCell ⟨gb242, 3, none⟩ (.slice Ao72 t236.length co72)).setCell ⟨gb242, 4, none⟩ (.int .i64 t239)).setCell ⟨gb242, 5, none⟩ (.int .i64 t240)) w.heap.size (fun k_ => some k_ ≠ (.slice Ao31 y194.length co31 : Value).ownBlock ∧ some k_ ≠ (.slice Ao70 t230.length co70 : Value).ownBlock) (.slice Ao61 y226.length co61) y226) := ⟨Kd.R_mono (rty (rfo HO228) BK242) (fun _ hk => ⟨hk.1.1.2, hk.1.2⟩)⟩
             have n2_ : Aside0 (Kd.R (Kd.int .i64) 3 ((((((w63.setCell ⟨gb242, 0, none⟩ (.string t229)).setCell ⟨gb242, 1, none⟩ (.slice Ao70 t230.length co70)).setCell ⟨gb242, 2, none⟩ (.slice Ao71 t233.length co71)).setCell ⟨gb242, 3, none⟩ (.slice Ao72 t236.length co72)).setCell ⟨gb242, 4, none⟩ (.int .i64 t239)).setCell ⟨gb242, 5, none⟩ (.int .i64 t240)) w.heap.size (fun k_ => some k_ ≠ (.slice Ao31 y194.length co31 : Value).ownBlock ∧ some k_ ≠ (.slice Ao61 y226.length co61 : Value).ownBlock) (.slice Ao70 t230.length co70) t230) := ⟨Kd.R_mono (rty (rfo HO232) BK242) (fun _ hk => ⟨hk.1.1.2, hk.1.2⟩)⟩
             have n3_ : Aside0 (Kd.R Kd.bool 4 ((((((w63.setCell ⟨gb242, 0, none⟩ (.string t229)).setCell ⟨gb242, 1, none⟩ (.slice Ao70 t230.length co70)).setCell ⟨gb242, 2, none⟩ (.slice Ao71 t233.length co71)).setCell ⟨gb242, 3, none⟩ (.slice Ao72 t236.length co72)).setCell ⟨gb242, 4, none⟩ (.int .i64 t239)).setCell ⟨gb242, 5, none⟩ (.int .i64 t240)) w.heap.size (fun k_ => some k_ ≠ (.slice Ao72 t236.length co72 : Value).ownBlock) (.slice Ao71 t233.length co71) t233) := rfA HO235
             have n4_ : Aside0 (Kd.R Kd.bool 4 ((((((w63.setCell ⟨gb242, 0, none⟩ (.string t229)).setCell ⟨gb242, 1, none⟩ (.slice Ao70 t230.length co70)).setCell ⟨gb242, 2, none⟩ (.slice Ao71 t233.length co71)).setCell ⟨gb242, 3, none⟩ (.slice Ao72 t236.length co72)).setCell ⟨gb242, 4, none⟩ (.int .i64 t239)).setCell ⟨gb242, 5, none⟩ (.int .i64 t240)) w.heap.size (fun k_ => some k_ ≠ (.slice Ao71 t233.length co71 : Value).ownBlock) (.slice Ao72 t236.length co72) t236) := rfA HO238
             have n5_ : Aside0 (((((((w63.setCell ⟨gb242, 0, none⟩ (.string t229)).setCell ⟨gb242, 1, none⟩ (.slice Ao70 t230.length co70)).setCell ⟨gb242, 2, none⟩ (.slice Ao71 t233.length co71)).setCell ⟨gb242, 3, none⟩ (.slice Ao72 t236.length co72)).setCell ⟨gb242, 4, none⟩ (.int .i64 t239)).setCell ⟨gb242, 5, none⟩ (.int .i64 t240)).heap[gb192]? = some (.cells #[.string t185, .string t186, .bool t187, .string t188, .int .i64 t189, .int .i64 t190] 28 (0, 0))) := bkfA BK192
             have n6_ : Aside0 (((((((w63.setCell ⟨gb242, 0, none⟩ (.string t229)).setCell ⟨gb242, 1, none⟩ (.slice Ao70 t230.length co70)).setCell ⟨gb242, 2, none⟩ (.slice Ao71 t233.length co71)).setCell ⟨gb242, 3, none⟩ (.slice Ao72 t236.length co72)).setCell ⟨gb242, 4, none⟩ (.int .i64 t239)).setCell ⟨gb242, 5, none⟩ (.int .i64 t240)).heap[gb197]? = some (.cells #[.int .i64 1, .int .i64 1, .int .i64 50, .string t193, .slice Ao31 y194.length co31] 36 (0, 0))) := bkfA BK197
             have n7_ : Aside0 (((((((w63.setCell ⟨gb242, 0, none⟩ (.string t229)).setCell ⟨gb242, 1, none⟩ (.slice Ao70 t230.length co70)).setCell ⟨gb242, 2, none⟩ (.slice Ao71 t233.length co71)).setCell ⟨gb242, 3, none⟩ (.slice Ao72 t236.length co72)).setCell ⟨gb242, 4, none⟩ (.int .i64 t239)).setCell ⟨gb242, 5, none⟩ (.int .i64 t240)).heap[gb205]? = some (.cells #[.string t198, .string t199, .bool true, .string t201, .int .i64 t202, .int .i64 t203] 28 (0, 0))) := bkfA BK205
             have n8_ : Aside0 (((((((w63.setCell ⟨gb242, 0, none⟩ (.string t229)).setCell ⟨gb242, 1, none⟩ (.slice Ao70 t230.length co70)).setCell ⟨gb242, 2, none⟩ (.slice Ao71 t233.length co71)).setCell ⟨gb242, 3, none⟩ (.slice Ao72 t236.length co72)).setCell ⟨gb242, 4, none⟩ (.int .i64 t239)).setCell ⟨gb242, 5, none⟩ (.int .i64 t240)).heap[gb214]? = some (.cells #[.string t206, .string t207, .bool false, .string t209, .int .i64 t210, .int .i64 t211] 28 (0, 0))) := bkfA BK214
             have n9_ : Aside0 (((((((w63.setCell ⟨gb242, 0, none⟩ (.string t229)).setCell ⟨gb242, 1, none⟩ (.slice Ao70 t230.length co70)).setCell ⟨gb242, 2, none⟩ (.slice Ao71 t233.length co71)).setCell ⟨gb242, 3, none⟩ (.slice Ao72 t236.length co72)).setCell ⟨gb242, 4, none⟩ (.int .i64 t239)).setCell ⟨gb242, 5, none⟩ (.int .i64 t240)).heap[gb222]? = some (.cells #[.string t215, .string t216, .bool false, .string t218, .int .i64 t219, .int .i64 t220] 28 (0, 0))) := bkfA BK222
             have n10_ : Aside0 (((((((w63.setCell ⟨gb242, 0, none⟩ (.string t229)).setCell ⟨gb242, 1, none⟩ (.slice Ao70 t230.length co70)).setCell ⟨gb242, 2, none⟩ (.slice Ao71 t233.length co71)).setCell ⟨gb242, 3, none⟩ (.slice Ao72 t236.length co72)).setCell ⟨gb242, 4, none⟩ (.int .i64 t239)).setCell ⟨gb242, 5, none⟩ (.int .i64 t240)).heap[gb242]? = some (.cells #[.string t229, .slice Ao70 t230.length co70, .slice Ao71 t233.length co71, .slice Ao72 t236.length co72, .int .i64 t239, .int .i64 t240] 50 (0, 0))) := bkpA BK242
             have n11_ : Aside0 (Below w.heap.size w ((((((w63.setCell ⟨gb242, 0, none⟩ (.string t229)).setCell ⟨gb242, 1, none⟩ (.slice Ao70 t230.length co70)).setCell ⟨gb242, 2, none⟩ (.slice Ao71 t233.length co71)).setCell ⟨gb242, 3, none⟩ (.slice Ao72 t236.length co72)).setCell ⟨gb242, 4, none⟩ (.int .i64 t239)).setCell ⟨gb242, 5, none⟩ (.int .i64 t240))) := hbA HB
             (try clear HO196)
             (try clear HO228)
             (try clear HO232)
             (try clear HO235)
             (try clear HO238)
             (try clear BK192)
             (try clear BK197)
             (try clear BK205)
             (try clear BK214)
             (try clear BK222)
             (try clear BK242)
             (try clear HB)
             generalize ((((((w63.setCell ⟨gb242, 0, none⟩ (.string t229)).setCell ⟨gb242, 1, none⟩ (.slice Ao70 t230.length co70)).setCell ⟨gb242, 2, none⟩ (.slice Ao71 t233.length co71)).setCell ⟨gb242, 3, none⟩ (.slice Ao72 t236.length co72)).setCell ⟨gb242, 4, none⟩ (.int .i64 t239)).setCell ⟨gb242, 5, none⟩ (.int .i64 t240)) = w73 at n0_ n1_ n2_ n3_ n4_ n5_ n6_ n7_ n8_ n9_ n10_ n11_ ⊢
             have HO196 := n0_
             have HO228 := n1_
             have HO232 := n2_
             have HO235 := n3_
             have HO238 := n4_
             have BK192 := n5_
             have BK197 := n6_
             have BK205 := n7_
             have BK214 := n8_
             have BK222 := n9_
             have BK242 := n10_
             have HB := n11_
             clear n0_ n1_ n2_ n3_ n4_ n5_ n6_ n7_ n8_ n9_ n10_ n11_
             replace HO196 := Aside0.mk (Kd.R_drew HO196.out)
             replace HO228 := Aside0.mk (Kd.R_drew HO228.out)
             replace HO232 := Aside0.mk (Kd.R_drew HO232.out)
             replace HO235 := Aside0.mk (Kd.R_drew HO235.out)
             replace HO238 := Aside0.mk (Kd.R_drew HO238.out)
             replace BK192 := Aside0.mk (blk_drew BK192.out)
             replace BK197 := Aside0.mk (blk_drew BK197.out)
             replace BK205 := Aside0.mk (blk_drew BK205.out)
             replace BK214 := Aside0.mk (blk_drew BK214.out)
             replace BK222 := Aside0.mk (blk_drew BK222.out)
             replace BK242 := Aside0.mk (blk_drew BK242.out)
             replace HB := Aside0.mk (below_drew1 HB.out)
             refine start_ (n := 56) (S := fun w' => w'.cell? ⟨gb205, 0, none⟩ = some (.string t198) ∧ w'.cell? ⟨gb205, 1, none⟩ = some (.string t199) ∧ w'.cell? ⟨gb205, 2, none⟩ = some (.bool true) ∧ w'.cell? ⟨gb205, 3, none⟩ = some (.string t201) ∧ w'.cell? ⟨gb205, 4, none⟩ = some (.int .i64 t202) ∧ w'.cell? ⟨gb205, 5, none⟩ = some (.int .i64 t203) ∧ w'.cell? ⟨gb214, 0, none⟩ = some (.string t206) ∧ w'.cell? ⟨gb214, 1, none⟩ = some (.string t207) ∧ w'.cell? ⟨gb214, 2, none⟩ = some (.bool false) ∧ w'.cell? ⟨gb214, 3, none⟩ = some (.string t209) ∧ w'.cell? ⟨gb214, 4, none⟩ = some (.int .i64 t210) ∧ w'.cell? ⟨gb214, 5, none⟩ = some (.int .i64 t211) ∧ w'.cell? ⟨gb222, 0, none⟩ = some (.string t215) ∧ w'.cell? ⟨gb222, 1, none⟩ = some (.string t216) ∧ w'.cell? ⟨gb222, 2, none⟩ = some (.bool false) ∧ w'.cell? ⟨gb222, 3, none⟩ = some (.string t218) ∧ w'.cell? ⟨gb222, 4, none⟩ = some (.int .i64 t219) ∧ w'.cell? ⟨gb222, 5, none⟩ = some (.int .i64 t220) ∧ w'.cell? ⟨gb242, 0, none⟩ = some (.string t229) ∧ w'.cell? ⟨gb242, 1, none⟩ = some (.slice Ao70 t230.length co70) ∧ w'.cell? ⟨gb242, 2, none⟩ = some (.slice Ao71 t233.length co71) ∧ w'.cell? ⟨gb242, 3, none⟩ = some (.slice Ao72 t236.length co72) ∧ w'.cell? ⟨gb242, 4, none⟩ = some (.int .i64 t239) ∧ w'.cell? ⟨gb242, 5, none⟩ = some (.int .i64 t240)) (ds := []) #[false, false, false, false, false, false, false, false, false, false, false, false, false, false, false, false, false, false, false, false, false, false, false, false, false, false, false, false, false, false, false, false, false, false, false, false, false, false, false, false, false, false, false, false, false, false, false, false, false, false, false, false, false, false, false, false] (by kernel_rfl) rfl rfl ⟨(blk_cell BK205.out 0).trans rfl, (blk_cell BK205.out 1).trans rfl, (blk_cell BK205.out 2).trans rfl, (blk_cell BK205.out 3).trans rfl, (blk_cell BK205.out 4).trans rfl, (blk_cell BK205.out 5).trans rfl, (blk_cell BK214.out 0).trans rfl, (blk_cell BK214.out 1).trans rfl, (blk_cell BK214.out 2).trans rfl, (blk_cell BK214.out 3).trans rfl, (blk_cell BK214.out 4).trans rfl, (blk_cell BK214.out 5).trans rfl, (blk_cell BK222.out 0).trans rfl, (blk_cell BK222.out 1).trans rfl, (blk_cell BK222.out 2).trans rfl, (blk_cell BK222.out 3).trans rfl, (blk_cell BK222.out 4).trans rfl, (blk_cell BK222.out 5).trans rfl, (blk_cell BK242.out 0).trans rfl, (blk_cell BK242.out 1).trans rfl, (blk_cell BK242.out 2).trans rfl, (blk_cell BK242.out 3).trans rfl, (blk_cell BK242.out 4).trans rfl, (blk_cell BK242.out 5).trans rfl⟩ (fun hHeld => ?_); refine with_tabW hopmeshlaw49_awake.tab8 hopmeshlaw49_awake.bits8 (fun HT_ HW_ => ?_)
             generalize w73.drew = w74 at HO196 HO228 HO232 HO235 HO238 BK192 BK197 BK205 BK214 BK222 BK242 HB hHeld ⊢
             refine pur 0 (some 53) #[true, false, false, false, false, false, false, false, false, false, false, false, false, false, false, false, false, false, false, false, false, false, false, false, false, false, false, false, false, false, false, false, false, false, false, false, false, false, false, false, false, false, false, false, false, false, false, false, false, false, false, false, false, false, false, false] HT_ ?_
             refine pur 1 (some 54) #[true, true, false, false, false, false, false, false, false, false, false, false, false, false, false, false, false, false, false, false, false, false, false, false, false, false, false, false, false, false, false, false, false, false, false, false, false, false, false, false, false, false, false, false, false, false, false, false, false, false, false, false, false, false, false, false] HT_ ?_
             refine pur 2 (some 55) #[true, true, true, false, false, false, false, false, false, false, false, false, false, false, false, false, false, false, false, false, false, false, false, false, false, false, false, false, false, false, false, false, false, false, false, false, false, false, false, false, false, false, false, false, false, false, false, false, false, false, false, false, false, false, false, false] HT_ ?_
             refine pur 3 (some 56) #[true, true, true, true, false, false, false, false, false, false, false, false, false, false, false, false, false, false, false, false, false, false, false, false, false, false, false, false, false, false, false, false, false, false, false, false, false, false, false, false, false, false, false, false, false, false, false, false, false, false, false, false, false, false, false, false] HT_ ?_
             refine pur 4 (some 57) #[true, true, true, true, true, false, false, false, false, false, false, false, false, false, false, false, false, false, false, false, false, false, false, false, false, false, false, false, false, false, false, false, false, false, false, false, false, false, false, false, false, false, false, false, false, false, false, false, false, false, false, false, false, false, false, false] HT_ ?_
             refine pur 5 (some 58) #[true, true, true, true, true, true, false, false, false, false, false, false, false, false, false, false, false, false, false, false, false, false, false, false, false, false, false, false, false, false, false, false, false, false, false, false, false, false, false, false, false, false, false, false, false, false, false, false, false, false, false, false, false, false, false, false] HT_ ?_
             refine pur 6 (some 59) #[true, true, true, true, true, true, true, false, false, false, false, false, false, false, false, false, false, false, false, false, false, false, false, false, false, false, false, false, false, false, false, false, false, false, false, false, false, false, false, false, false, false, false, false, false, false, false, false, false, false, false, false, false, false, false, false] HT_ ?_
             refine pur 7 (some 60) #[true, true, true, true, true, true, true, true, false, false, false, false, false, false, false, false, false, false, false, false, false, false, false, false, false, false, false, false, false, false, false, false, false, false, false, false, false, false, false, false, false, false, false, false, false, false, false, false, false, false, false, false, false, false, false, false] HT_ ?_
             refine pur 8 (some 61) #[true, true, true, true, true, true, true, true, true, false, false, false, false, false, false, false, false, false, false, false, false, false, false, false, false, false, false, false, false, false, false, false, false, false, false, false, false, false, false, false, false, false, false, false, false, false, false, false, false, false, false, false, false, false, false, false] HT_ ?_
             refine pur 9 (some 62) #[true, true, true, true, true, true, true, true, true, true, false, false, false, false, false, false, false, false, false, false, false, false, false, false, false, false, false, false, false, false, false, false, false, false, false, false, false, false, false, false, false, false, false, false, false, false, false, false, false, false, false, false, false, false, false, false] HT_ ?_
             refine pur 10 (some 63) #[true, true, true, true, true, true, true, true, true, true, true, false, false, false, false, false, false, false, false, false, false, false, false, false, false, false, false, false, false, false, false, false, false, false, false, false, false, false, false, false, false, false, false, false, false, false, false, false, false, false, false, false, false, false, false, false] HT_ ?_
             refine pur 11 (some 64) #[true, true, true, true, true, true, true, true, true, true, true, true, false, false, false, false, false, false, false, false, false, false, false, false, false, false, false, false, false, false, false, false, false, false, false, false, false, false, false, false, false, false, false, false, false, false, false, false, false, false, false, false, false, false, false, false] HT_ ?_
             refine pur 12 (some 65) #[true, true, true, true, true, true, true, true, true, true, true, true, true, false, false, false, false, false, false, false, false, false, false, false, false, false, false, false, false, false, false, false, false, false, false, false, false, false, false, false, false, false, false, false, false, false, false, false, false, false, false, false, false, false, false, false] HT_ ?_
             refine pur 13 (some 66) #[true, true, true, true, true, true, true, true, true, true, true, true, true, true, false, false, false, false, false, false, false, false, false, false, false, false, false, false, false, false, false, false, false, false, false, false, false, false, false, false, false, false, false, false, false, false, false, false, false, false, false, false, false, false, false, false] HT_ ?_
             refine pur 14 (some 67) #[true, true, true, true, true, true, true, true, true, true, true, true, true, true, true, false, false, false, false, false, false, false, false, false, false, false, false, false, false, false, false, false, false, false, false, false, false, false, false, false, false, false, false, false, false, false, false, false, false, false, false, false, false, false, false, false] HT_ ?_
             refine pur 15 (some 68) #[true, true, true, true, true, true, true, true, true, true, true, true, true, true, true, true, false, false, false, false, false, false, false, false, false, false, false, false, false, false, false, false, false, false, false, false, false, false, false, false, false, false, false, false, false, false, false, false, false, false, false, false, false, false, false, false] HT_ ?_
             refine pur 16 (some 69) #[true, true, true, true, true, true, true, true, true, true, true, true, true, true, true, true, true, false, false, false, false, false, false, false, false, false, false, false, false, false, false, false, false, false, false, false, false, false, false, false, false, false, false, false, false, false, false, false, false, false, false, false, false, false, false, false] HT_ ?_
             refine pur 17 (some 70) #[true, true, true, true, true, true, true, true, true, true, true, true, true, true, true, true, true, true, false, false, false, false, false, false, false, false, false, false, false, false, false, false, false, false, false, false, false, false, false, false, false, false, false, false, false, false, false, false, false, false, false, false, false, false, false, false] HT_ ?_
             refine pur 18 (some 71) #[true, true, true, true, true, true, true, true, true, true, true, true, true, true, true, true, true, true, true, false, false, false, false, false, false, false, false, false, false, false, false, false, false, false, false, false, false, false, false, false, false, false, false, false, false, false, false, false, false, false, false, false, false, false, false, false] HT_ ?_
             refine pur 19 (some 72) #[true, true, true, true, true, true, true, true, true, true, true, true, true, true, true, true, true, true, true, true, false, false, false, false, false, false, false, false, false, false, false, false, false, false, false, false, false, false, false, false, false, false, false, false, false, false, false, false, false, false, false, false, false, false, false, false] HT_ ?_
             refine pur 20 (some 73) #[true, true, true, true, true, true, true, true, true, true, true, true, true, true, true, true, true, true, true, true, true, false, false, false, false, false, false, false, false, false, false, false, false, false, false, false, false, false, false, false, false, false, false, false, false, false, false, false, false, false, false, false, false, false, false, false] HT_ ?_
             refine pur 21 (some 74) #[true, true, true, true, true, true, true, true, true, true, true, true, true, true, true, true, true, true, true, true, true, true, false, false, false, false, false, false, false, false, false, false, false, false, false, false, false, false, false, false, false, false, false, false, false, false, false, false, false, false, false, false, false, false, false, false] HT_ ?_
             refine pur 22 (some 75) #[true, true, true, true, true, true, true, true, true, true, true, true, true, true, true, true, true, true, true, true, true, true, true, false, false, false, false, false, false, false, false, false, false, false, false, false, false, false, false, false, false, false, false, false, false, false, false, false, false, false, false, false, false, false, false, false] HT_ ?_
             refine pur 23 (some 76) #[true, true, true, true, true, true, true, true, true, true, true, true, true, true, true, true, true, true, true, true, true, true, true, true, false, false, false, false, false, false, false, false, false, false, false, false, false, false, false, false, false, false, false, false, false, false, false, false, false, false, false, false, false, false, false, false] HT_ ?_
             refine tak 24 (some 77) #[true, true, true, true, true, true, true, true, true, true, true, true, true, true, true, true, true, true, true, true, true, true, true, true, true, false, false, false, false, false, false, false, false, false, false, false, false, false, false, false, false, false, false, false, false, false, false, false, false, false, false, false, false, false, false, false] HT_ HW_ hHeld rfl (Or.inl ⟨by rfl, by rintro w' ⟨s0, s1, s2, s3, s4, s5, s6, s7, s8, s9, s10, s11, s12, s13, s14, s15, s16, s17, s18, s19, s20, s21, s22, s23⟩; go_simp; with_reducible rfl⟩) ?_
             refine pur 25 (some 78) #[true, true, true, true, true, true, true, true, true, true, true, true, true, true, true, true, true, true, true, true, true, true, true, true, true, true, false, false, false, false, false, false, false, false, false, false, false, false, false, false, false, false, false, false, false, false, false, false, false, false, false, false, false, false, false, false] HT_ ?_
             refine pur 26 (some 79) #[true, true, true, true, true, true, true, true, true, true, true, true, true, true, true, true, true, true, true, true, true, true, true, true, true, true, true, false, false, false, false, false, false, false, false, false, false, false, false, false, false, false, false, false, false, false, false, false, false, false, false, false, false, false, false, false] HT_ ?_
             refine pur 27 (some 80) #[true, true, true, true, true, true, true, true, true, true, true, true, true, true, true, true, true, true, true, true, true, true, true, true, true, true, true, true, false, false, false, false, false, false, false, false, false, false, false, false, false, false, false, false, false, false, false, false, false, false, false, false, false, false, false, false] HT_ ?_
             refine pur 28 (some 81) #[true, true, true, true, true, true, true, true, true, true, true, true, true, true, true, true, true, true, true, true, true, true, true, true, true, true, true, true, true, false, false, false, false, false, false, false, false, false, false, false, false, false, false, false, false, false, false, false, false, false, false, false, false, false, false, false] HT_ ?_
             refine pur 29 (some 82) #[true, true, true, true, true, true, true, true, true, true, true, true, true, true, true, true, true, true, true, true, true, true, true, true, true, true, true, true, true, true, false, false, false, false, false, false, false, false, false, false, false, false, false, false, false, false, false, false, false, false, false, false, false, false, false, false] HT_ ?_
             refine pur 30 (some 83) #[true, true, true, true, true, true, true, true, true, true, true, true, true, true, true, true, true, true, true, true, true, true, true, true, true, true, true, true, true, true, true, false, false, false, false, false, false, false, false, false, false, false, false, false, false, false, false, false, false, false, false, false, false, false, false, false] HT_ ?_
             refine tak 31 (some 84) #[true, true, true, true, true, true, true, true, true, true, true, true, true, true, true, true, true, true, true, true, true, true, true, true, true, true, true, true, true, true, true, true, false, false, false, false, false, false, false, false, false, false, false, false, false, false, false, false, false, false, false, false, false, false, false, false] HT_ HW_ hHeld rfl (Or.inl ⟨by rfl, by rintro w' ⟨s0, s1, s2, s3, s4, s5, s6, s7, s8, s9, s10, s11, s12, s13, s14, s15, s16, s17, s18, s19, s20, s21, s22, s23⟩; go_simp; with_reducible rfl⟩) ?_
             refine one_ (i := 32) (N := some 85) #[true, true, true, true, true, true, true, true, true, true, true, true, true, true, true, true, true, true, true, true, true, true, true, true, true, true, true, true, true, true, true, true, true, false, false, false, false, false, false, false, false, false, false, false, false, false, false, false, false, false, false, false, false, false, false, false] rfl rfl (one_of HT_.out (by kernel_rfl)) (by decide) (fun K hK => ?_)
             refine goes_ Try.func11 (by kernel_rfl) rfl #[.string (⟨#[120]⟩ : ByteArray)] (by rfl) rfl rfl sma ?_
             with_reducible refine (hopmeshlaw49_id.calls (⟨#[120]⟩ : ByteArray) t243 _ A18.out).mono ?_
             rintro e w75 ⟨rfl, hb⟩
             refine ⟨_, rfl, ?_⟩
             replace HO196 := rB HO196 hb
             replace HO228 := rB HO228 hb
             replace HO232 := rB HO232 hb
             replace HO235 := rB HO235 hb
             replace HO238 := rB HO238 hb
             replace BK192 := bkB BK192 hb
             replace BK197 := bkB BK197 hb
             replace BK205 := bkB BK205 hb
             replace BK214 := bkB BK214 hb
             replace BK222 := bkB BK222 hb
             replace BK242 := bkB BK242 hb
             replace HB := hbS HB hb
             (try clear hb)
             (try clear hb2)
             (try clear hk)
             (try clear hi)
             refine hK.out _ _ ⟨(blk_cell BK205.out 0).trans rfl, (blk_cell BK205.out 1).trans rfl, (blk_cell BK205.out 2).trans rfl, (blk_cell BK205.out 3).trans rfl, (blk_cell BK205.out 4).trans rfl, (blk_cell BK205.out 5).trans rfl, (blk_cell BK214.out 0).trans rfl, (blk_cell BK214.out 1).trans rfl, (blk_cell BK214.out 2).trans rfl, (blk_cell BK214.out 3).trans rfl, (blk_cell BK214.out 4).trans rfl, (blk_cell BK214.out 5).trans rfl, (blk_cell BK222.out 0).trans rfl, (blk_cell BK222.out 1).trans rfl, (blk_cell BK222.out 2).trans rfl, (blk_cell BK222.out 3).trans rfl, (blk_cell BK222.out 4).trans rfl, (blk_cell BK222.out 5).trans rfl, (blk_cell BK242.out 0).trans rfl, (blk_cell BK242.out 1).trans rfl, (blk_cell BK242.out 2).trans rfl, (blk_cell BK242.out 3).trans rfl, (blk_cell BK242.out 4).trans rfl, (blk_cell BK242.out 5).trans rfl⟩ (fun hHeld => ?_)
             clear hK K
             refine nrm (some 85) ?_
             refine pur 33 (some 86) #[true, true, true, true, true, true, true, true, true, true, true, true, true, true, true, true, true, true, true, true, true, true, true, true, true, true, true, true, true, true, true, true, true, true, false, false, false, false, false, false, false, false, false, false, false, false, false, false, false, false, false, false, false, false, false, false] HT_ ?_
             refine pur 34 (some 87) #[true, true, true, true, true, true, true, true, true, true, true, true, true, true, true, true, true, true, true, true, true, true, true, true, true, true, true, true, true, true, true, true, true, true, true, false, false, false, false, false, false, false, false, false, false, false, false, false, false, false, false, false, false, false, false, false] HT_ ?_
             refine pur 35 (some 88) #[true, true, true, true, true, true, true, true, true, true, true, true, true, true, true, true, true, true, true, true, true, true, true, true, true, true, true, true, true, true, true, true, true, true, true, true, false, false, false, false, false, false, false, false, false, false, false, false, false, false, false, false, false, false, false, false] HT_ ?_
             refine pur 36 (some 89) #[true, true, true, true, true, true, true, true, true, true, true, true, true, true, true, true, true, true, true, true, true, true, true, true, true, true, true, true, true, true, true, true, true, true, true, true, true, false, false, false, false, false, false, false, false, false, false, false, false, false, false, false, false, false, false, false] HT_ ?_
             refine tak 37 (some 90) #[true, true, true, true, true, true, true, true, true, true, true, true, true, true, true, true, true, true, true, true, true, true, true, true, true, true, true, true, true, true, true, true, true, true, true, true, true, true, false, false, false, false, false, false, false, false, false, false, false, false, false, false, false, false, false, false] HT_ HW_ hHeld rfl (Or.inl ⟨by rfl, by rintro w' ⟨s0, s1, s2, s3, s4, s5, s6, s7, s8, s9, s10, s11, s12, s13, s14, s15, s16, s17, s18, s19, s20, s21, s22, s23⟩; go_simp; with_reducible rfl⟩) ?_
             refine pur 38 (some 91) #[true, true, true, true, true, true, true, true, true, true, true, true, true, true, true, true, true, true, true, true, true, true, true, true, true, true, true, true, true, true, true, true, true, true, true, true, true, true, true, false, false, false, false, false, false, false, false, false, false, false, false, false, false, false, false, false] HT_ ?_
             refine pur 39 (some 92) #[true, true, true, true, true, true, true, true, true, true, true, true, true, true, true, true, true, true, true, true, true, true, true, true, true, true, true, true, true, true, true, true, true, true, true, true, true, true, true, true, false, false, false, false, false, false, false, false, false, false, false, false, false, false, false, false] HT_ ?_
             refine pur 40 (some 93) #[true, true, true, true, true, true, true, true, true, true, true, true, true, true, true, true, true, true, true, true, true, true, true, true, true, true, true, true, true, true, true, true, true, true, true, true, true, true, true, true, true, false, false, false, false, false, false, false, false, false, false, false, false, false, false, false] HT_ ?_
             refine pur 41 (some 94) #[true, true, true, true, true, true, true, true, true, true, true, true, true, true, true, true, true, true, true, true, true, true, true, true, true, true, true, true, true, true, true, true, true, true, true, true, true, true, true, true, true, true, false, false, false, false, false, false, false, false, false, false, false, false, false, false] HT_ ?_
             refine tak 42 (some 95) #[true, true, true, true, true, true, true, true, true, true, true, true, true, true, true, true, true, true, true, true, true, true, true, true, true, true, true, true, true, true, true, true, true, true, true, true, true, true, true, true, true, true, true, false, false, false, false, false, false, false, false, false, false, false, false, false] HT_ HW_ hHeld rfl (Or.inl ⟨by rfl, by rintro w' ⟨s0, s1, s2, s3, s4, s5, s6, s7, s8, s9, s10, s11, s12, s13, s14, s15, s16, s17, s18, s19, s20, s21, s22, s23⟩; go_simp; with_reducible rfl⟩) ?_
             refine pur 43 (some 96) #[true, true, true, true, true, true, true, true, true, true, true, true, true, true, true, true, true, true, true, true, true, true, true, true, true, true, true, true, true, true, true, true, true, true, true, true, true, true, true, true, true, true, true, true, false, false, false, false, false, false, false, false, false, false, false, false] HT_ ?_
             refine pur 44 (some 97) #[true, true, true, true, true, true, true, true, true, true, true, true, true, true, true, true, true, true, true, true, true, true, true, true, true, true, true, true, true, true, true, true, true, true, true, true, true, true, true, true, true, true, true, true, true, false, false, false, false, false, false, false, false, false, false, false] HT_ ?_
             refine pur 45 (some 98) #[true, true, true, true, true, true, true, true, true, true, true, true, true, true, true, true, true, true, true, true, true, true, true, true, true, true, true, true, true, true, true, true, true, true, true, true, true, true, true, true, true, true, true, true, true, true, false, false, false, false, false, false, false, false, false, false] HT_ ?_
             refine pur 46 (some 99) #[true, true, true, true, true, true, true, true, true, true, true, true, true, true, true, true, true, true, true, true, true, true, true, true, true, true, true, true, true, true, true, true, true, true, true, true, true, true, true, true, true, true, true, true, true, true, true, false, false, false, false, false, false, false, false, false] HT_ ?_
             refine pur 47 (some 100) #[true, true, true, true, true, true, true, true, true, true, true, true, true, true, true, true, true, true, true, true, true, true, true, true, true, true, true, true, true, true, true, true, true, true, true, true, true, true, true, true, true, true, true, true, true, true, true, true, false, false, false, false, false, false, false, false] HT_ ?_
             refine pur 48 (some 101) #[true, true, true, true, true, true, true, true, true, true, true, true, true, true, true, true, true, true, true, true, true, true, true, true, true, true, true, true, true, true, true, true, true, true, true, true, true, true, true, true, true, true, true, true, true, true, true, true, true, false, false, false, false, false, false, false] HT_ ?_
             refine pur 49 (some 102) #[true, true, true, true, true, true, true, true, true, true, true, true, true, true, true, true, true, true, true, true, true, true, true, true, true, true, true, true, true, true, true, true, true, true, true, true, true, true, true, true, true, true, true, true, true, true, true, true, true, true, false, false, false, false, false, false] HT_ ?_
             refine pur 50 (some 103) #[true, true, true, true, true, true, true, true, true, true, true, true, true, true, true, true, true, true, true, true, true, true, true, true, true, true, true, true, true, true, true, true, true, true, true, true, true, true, true, true, true, true, true, true, true, true, true, true, true, true, true, false, false, false, false, false] HT_ ?_
             refine tak 51 (some 104) #[true, true, true, true, true, true, true, true, true, true, true, true, true, true, true, true, true, true, true, true, true, true, true, true, true, true, true, true, true, true, true, true, true, true, true, true, true, true, true, true, true, true, true, true, true, true, true, true, true, true, true, true, false, false, false, false] HT_ HW_ hHeld rfl (Or.inl ⟨by rfl, by rintro w' ⟨s0, s1, s2, s3, s4, s5, s6, s7, s8, s9, s10, s11, s12, s13, s14, s15, s16, s17, s18, s19, s20, s21, s22, s23⟩; go_simp; with_reducible rfl⟩) ?_
             refine one_ (i := 52) (N := some 105) #[true, true, true, true, true, true, true, true, true, true, true, true, true, true, true, true, true, true, true, true, true, true, true, true, true, true, true, true, true, true, true, true, true, true, true, true, true, true, true, true, true, true, true, true, true, true, true, true, true, true, true, true, true, false, false, false] rfl rfl (one_of HT_.out (by kernel_rfl)) (by decide) (fun K hK => ?_)
             refine goes_ Try.func20 (by kernel_rfl) rfl #[.agg #[.string t229, .slice Ao70 t230.length co70, .slice Ao71 t233.length co71, .slice Ao72 t236.length co72, .int .i64 t239, .int .i64 t240]] (by rfl) rfl rfl sma ?_
             with_reducible refine (install_Ready.calls k t229 _ _ t230 _ _ t233 _ _ t236 t239 t240 t244 _ ?side1 ?side2 ?side3 ?side4 ?side5 ?side6 A23.out).mono ?_
             (case side1 => repeat (first | exact (Kd.R_reads' HO232.out).2.2 | (with_reducible refine Kd.C_alloc ?_ _) | (with_reducible refine Kd.C_drewN ?_ _) | (with_reducible refine Kd.C_drew ?_)))
             (case side2 => exact (Kd.R_reads' HO232.out).2.1)
             (case side3 => repeat (first | exact (Kd.R_reads' HO235.out).2.2 | (with_reducible refine Kd.C_alloc ?_ _) | (with_reducible refine Kd.C_drewN ?_ _) | (with_reducible refine Kd.C_drew ?_)))
             (case side4 => exact (Kd.R_reads' HO235.out).2.1)
             (case side5 => repeat (first | exact (Kd.R_reads' HO238.out).2.2 | (with_reducible refine Kd.C_alloc ?_ _) | (with_reducible refine Kd.C_drewN ?_ _) | (with_reducible refine Kd.C_drew ?_)))
             (case side6 => exact (Kd.R_reads' HO238.out).2.1)
             rintro e w76 ⟨rfl, hb⟩
             refine ⟨_, rfl, ?_⟩
             replace HO196 := rB HO196 hb
             replace HO228 := rB HO228 hb
             replace HO232 := rB HO232 hb
             replace HO235 := rB HO235 hb
             replace HO238 := rB HO238 hb
             replace BK192 := bkB BK192 hb
             replace BK197 := bkB BK197 hb
             replace BK205 := bkB BK205 hb
             replace BK214 := bkB BK214 hb
             replace BK222 := bkB BK222 hb
             replace BK242 := bkB BK242 hb
             replace HB := hbS HB hb
             (try clear hb)
             (try clear hb2)
             (try clear hk)
             (try clear hi)
             refine hK.out _ _ ⟨(blk_cell BK205.out 0).trans rfl, (blk_cell BK205.out 1).trans rfl, (blk_cell BK205.out 2).trans rfl, (blk_cell BK205.out 3).trans rfl, (blk_cell BK205.out 4).trans rfl, (blk_cell BK205.out 5).trans rfl, (blk_cell BK214.out 0).trans rfl, (blk_cell BK214.out 1).trans rfl, (blk_cell BK214.out 2).trans rfl, (blk_cell BK214.out 3).trans rfl, (blk_cell BK214.out 4).trans rfl, (blk_cell BK214.out 5).trans rfl, (blk_cell BK222.out 0).trans rfl, (blk_cell BK222.out 1).trans rfl, (blk_cell BK222.out 2).trans rfl, (blk_cell BK222.out 3).trans rfl, (blk_cell BK222.out 4).trans rfl, (blk_cell BK222.out 5).trans rfl, (blk_cell BK242.out 0).trans rfl, (blk_cell BK242.out 1).trans rfl, (blk_cell BK242.out 2).trans rfl, (blk_cell BK242.out 3).trans rfl, (blk_cell BK242.out 4).trans rfl, (blk_cell BK242.out 5).trans rfl⟩ (fun hHeld => ?_)
             clear hK K
             refine nrm (some 105) ?_
             refine pur 53 (some 106) #[true, true, true, true, true, true, true, true, true, true, true, true, true, true, true, true, true, true, true, true, true, true, true, true, true, true, true, true, true, true, true, true, true, true, true, true, true, true, true, true, true, true, true, true, true, true, true, true, true, true, true, true, true, true, false, false] HT_ ?_
             refine pur 54 (some 107) #[true, true, true, true, true, true, true, true, true, true, true, true, true, true, true, true, true, true, true, true, true, true, true, true, true, true, true, true, true, true, true, true, true, true, true, true, true, true, true, true, true, true, true, true, true, true, true, true, true, true, true, true, true, true, true, false] HT_ ?_
             refine pur 55 (some 0) #[true, true, true, true, true, true, true, true, true, true, true, true, true, true, true, true, true, true, true, true, true, true, true, true, true, true, true, true, true, true, true, true, true, true, true, true, true, true, true, true, true, true, true, true, true, true, true, true, true, true, true, true, true, true, true, true] HT_ ?_
             refine done_ (done_of HT_.out (by kernel_rfl)) ?_
             try go_wp2
             go_ret
             exact ⟨rerr, hbx HB⟩
            ·rw [if_neg c22] at H
             have c22b0 : ((t223.size : Int) == 44) = false := beq_eq_false_iff_ne.mpr c22
             have c22b1 : ((t223.size : Int) != 44) = true := bne_iff_ne.mpr c22
             exact absurd H (by simp)
         ·rw [if_neg c19] at H
          have c19b0 : (t206.toList == t243.toList) = false := beq_eq_false_iff_ne.mpr c19
          have c19b1 : (t206.toList != t243.toList) = true := bne_iff_ne.mpr c19
          exact absurd H (by simp)
        ·replace c17 := Bool.eq_false_iff.mpr c17
         subst c17
         rw [if_neg (show ¬ (false = true) by decide)] at H
         exact absurd H (by simp)
       ·replace c16 := Bool.eq_false_iff.mpr c16
        subst c16
        rw [if_neg (show ¬ (false = true) by decide)] at H
        exact absurd H (by simp)
      ·rw [if_neg c15] at H
       have c15b0 : (t241 == 0) = false := beq_eq_false_iff_ne.mpr c15
       have c15b1 : (t241 != 0) = true := bne_iff_ne.mpr c15
       exact absurd H (by simp)
     ·rw [if_neg c14] at H
      have c14b0 : (t224 == 0) = false := beq_eq_false_iff_ne.mpr c14
      have c14b1 : (t224 != 0) = true := bne_iff_ne.mpr c14
      exact absurd H (by simp)
    ·rw [if_neg c13] at H
     have c13b0 : (t221 == 15) = false := beq_eq_false_iff_ne.mpr c13
     have c13b1 : (t221 != 15) = true := bne_iff_ne.mpr c13
     exact absurd H (by simp)
   ·rw [if_neg c12] at H
    have c12b0 : (t213 == 0) = false := beq_eq_false_iff_ne.mpr c12
    have c12b1 : (t213 != 0) = true := bne_iff_ne.mpr c12
    exact absurd H (by simp)
  ·rw [if_neg c11] at H
   have c11b0 : (t204 == 0) = false := beq_eq_false_iff_ne.mpr c11
   have c11b1 : (t204 != 0) = true := bne_iff_ne.mpr c11
   exact absurd H (by simp)
 ·rw [if_neg c10] at H
  have c10b0 : (t191 == 0) = false := beq_eq_false_iff_ne.mpr c10
  have c10b1 : (t191 != 0) = true := bne_iff_ne.mpr c10
  exact absurd H (by simp)
end Go.Proofs.Ytdigplhjfjchnaa.PQ
