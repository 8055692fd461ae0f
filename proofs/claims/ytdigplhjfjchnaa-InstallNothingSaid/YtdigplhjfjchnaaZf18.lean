-- Printed by fprint.py and zip.py, programs of this session's, over the kit's print; Lean checks it.
import Derived.Test.YtdigplhjfjchnaaZ0
import Derived.Test.YtdigplhjfjchnaaZf42
import Derived.Test.YtdigplhjfjchnaaZf51
import Derived.Test.YtdigplhjfjchnaaZf52
namespace Go.Proofs.Ytdigplhjfjchnaa.PQ
open Go.RowKit Go.Proofs.YtdigplhjfjchnaaW.PrintWords Go.Proofs.YtdigplhjfjchnaaW.PrintLast Go.Proofs.YtdigplhjfjchnaaW.PrintMore
attribute [local go_sem] max2_int min2_int max_two min_two max_three min_three max_four min_four   -- for this text's walks alone
set_option linter.unusedVariables false
set_option linter.unusedSimpArgs false
def install_New.f (k : Nat) (a0 : ByteArray) (l1 : List Int) : Option (ByteArray × List Int × List Bool × List Bool × Int × Int × Int) := (install_identifier.f a0).bind fun t153 => (if t153 = true then ((install_list.f k l1).bind fun t154 => (if t154 = true then ((slices_Clone_int_int.f l1).bind fun t155 => (if 0 ≤ (l1.length : Int) then (if ((l1.length : Int) : Int).toNat ≤ 281474976710656 then (some (a0, t155, (List.replicate ((l1.length : Int) : Int).toNat false), (List.replicate ((l1.length : Int) : Int).toNat false), 0, 0, 0)) else (none)) else (none))) else (some ((⟨#[]⟩ : ByteArray), ([] : List Int), ([] : List Bool), ([] : List Bool), 0, 0, 1)))) else (some ((⟨#[]⟩ : ByteArray), ([] : List Int), ([] : List Bool), ([] : List Bool), 0, 0, 1)))
theorem install_New.mono : ∀ a0 a1 k, LeO (install_New.f k a0 a1) (install_New.f (k + 1) a0 a1) := by
 intro a0 a1 k
 unfold install_New.f
 repeat' first
  | (with_reducible exact install_list.mono _ _)
  | (with_reducible exact LeO.refl _)
  | (with_reducible exact LeO.none _)
  | (with_reducible refine LeO.ite ?_ ?_)
  | (with_reducible refine LeO.bind ?_ (fun _ => ?_))
  | exact install_list.mono _ _
  | exact LeO.none _
  | refine LeO.ite ?_ ?_
  | refine LeO.bind ?_ (fun _ => ?_)
def install_New.T4 : Bool × List (List Nat × List Nat) := (true, [([], []), ([], []), ([1], [1]), ([], []), ([3, 3], [3]), ([], []), ([5, 5], [5]), ([0, 2, 4, 6], [0, 2, 4, 6]), ([7, 2, 0, 1, 2, 3, 4, 5, 6, 7], [7]), ([8, 0, 1, 2, 3, 4, 5, 6, 7, 8], [])])
def install_New.B4 : List Nat := [0, 0, 2, 0, 8, 0, 32, 127, 255, 511]
theorem install_New.tab4 : rtab .any (opsOf Try.f18 4) = install_New.T4 := by kernel_rfl
theorem install_New.bits4 : waitsOk install_New.T4.2 install_New.B4 = true := by kernel_rfl
set_option maxHeartbeats 8000000 in
set_option maxRecDepth 100000 in
theorem install_New.calls (k : Nat) (a0 : ByteArray) (A1 : Option Addr) (c1 : Nat) (l1 : List Int) (r1 : ByteArray) (r2 : List Int) (r3 : List Bool) (r4 : List Bool) (r5 : Int) (r6 : Int) (r7 : Int) (w : World) (hr1 : Kd.C (Kd.int .i64) w A1 l1.length l1) (hc1 : l1.length ≤ c1) (h : install_New.f k a0 l1 = some (r1, r2, r3, r4, r5, r6, r7)) :
 Calls Try.prog 18 #[.string a0, .slice A1 l1.length c1] w fun e w' => ∃ v1_ v2_ v3_ : Value, e = .returned (.tuple #[.agg #[.string r1, v1_, v2_, v3_, .int .i64 r5, .int .i64 r6], .int .i64 r7]) ∧ Kd.R (Kd.int .i64) 3 w' w.heap.size (fun _ => True) v1_ r2 ∧ Kd.R Kd.bool 4 w' w.heap.size (fun k_ => some k_ ≠ (v3_ : Value).ownBlock) v2_ r3 ∧ Kd.R Kd.bool 4 w' w.heap.size (fun k_ => some k_ ≠ (v2_ : Value).ownBlock) v3_ r4 ∧ Below w.heap.size w w' := by
 have hu50 := Try.underlying50
 have HR1 := Aside0.mk hr1
 have HC1 := Aside0.mk hc1
 clear hr1 hc1
 have HB := Aside0.mk (Below.refl w.heap.size w)
 have H : ((install_identifier.f a0).bind fun t153 => (if t153 = true then ((install_list.f k l1).bind fun t154 => (if t154 = true then ((slices_Clone_int_int.f l1).bind fun t155 => (if 0 ≤ (l1.length : Int) then (if ((l1.length : Int) : Int).toNat ≤ 281474976710656 then (some (a0, t155, (List.replicate ((l1.length : Int) : Int).toNat false), (List.replicate ((l1.length : Int) : Int).toNat false), 0, 0, 0)) else (none)) else (none))) else (some ((⟨#[]⟩ : ByteArray), ([] : List Int), ([] : List Bool), ([] : List Bool), 0, 0, 1)))) else (some ((⟨#[]⟩ : ByteArray), ([] : List Int), ([] : List Bool), ([] : List Bool), 0, 0, 1)))) = some (r1, r2, r3, r4, r5, r6, r7) := h
 clear h
 replace H := Option.bind_eq_some_iff.mp H
 obtain ⟨t153, A30, H⟩ := H
 (try dsimp only at H)
 have A3 := Aside0.mk A30
 clear A30
 by_cases c4 : t153 = true
 ·subst c4
  rw [if_pos rfl] at H
  replace H := Option.bind_eq_some_iff.mp H
  obtain ⟨t154, A50, H⟩ := H
  (try dsimp only at H)
  have A5 := Aside0.mk A50
  clear A50
  by_cases c6 : t154 = true
  ·subst c6
   rw [if_pos rfl] at H
   replace H := Option.bind_eq_some_iff.mp H
   obtain ⟨t155, A70, H⟩ := H
   (try dsimp only at H)
   have A7 := Aside0.mk A70
   clear A70
   by_cases c8 : 0 ≤ (l1.length : Int)
   ·rw [if_pos c8] at H
    have c8b0 := eq_true c8
    have c8b1 : decide (0 ≤ (l1.length : Int)) = true := decide_eq_true c8
    clear c8
    by_cases c9 : ((l1.length : Int) : Int).toNat ≤ 281474976710656
    ·rw [if_pos c9] at H
     have c9b0 := eq_true c9
     have c9b1 : decide (((l1.length : Int) : Int).toNat ≤ 281474976710656) = true := decide_eq_true c9
     clear c9
     obtain ⟨y158, hy158⟩ : ∃ y_ : List Bool, y_ = (List.replicate ((l1.length : Int) : Int).toNat false) := ⟨_, rfl⟩
     replace H : (some (a0, t155, y158, (List.replicate ((l1.length : Int) : Int).toNat false), 0, 0, 0)) = some (r1, r2, r3, r4, r5, r6, r7) := by first | (rw [hy158]; with_reducible exact H) | (have H2_ := (Option.bind_some _ _).symm.trans H; rw [hy158]; with_reducible exact H2_) | (have H2_ := (Option.bind_some _ _).symm.trans H; with_reducible exact H2_) | with_reducible exact H | (rw [hy158]; exact H) | exact H
     have Ny158 := Aside0.mk hy158
     clear hy158
     obtain ⟨y161, hy161⟩ : ∃ y_ : List Bool, y_ = (List.replicate ((l1.length : Int) : Int).toNat false) := ⟨_, rfl⟩
     replace H : (some (a0, t155, y158, y161, 0, 0, 0)) = some (r1, r2, r3, r4, r5, r6, r7) := by first | (rw [hy161]; with_reducible exact H) | (have H2_ := (Option.bind_some _ _).symm.trans H; rw [hy161]; with_reducible exact H2_) | (have H2_ := (Option.bind_some _ _).symm.trans H; with_reducible exact H2_) | with_reducible exact H | (rw [hy161]; exact H) | exact H
     have Ny161 := Aside0.mk hy161
     clear hy161
     simp only [Option.some.injEq, Prod.mk.injEq] at H
     obtain ⟨rfl, rfl, rfl, rfl, rfl, rfl, rfl⟩ := H
     go_enter Try.func18, Try.ntmps18
     try go_wp2_with (first | ((with_reducible refine gate_dst (N := 4) rfl ?_); refine boxE 4 #[.string (⟨#[]⟩ : ByteArray), .slice none 0 0, .slice none 0 0, .slice none 0 0, .int .i64 0, .int .i64 0] 50 ?_; intro gb152 hg w10 hbox hb; have BK152 := Aside0.mk (hbox); have GW152 := gw hg HB; have GE152 := gw hg HB; replace HB := hbS HB hb; clear hb hbox hg) | ((with_reducible refine gate_callee (f := 42) rfl ?_); refine goesL_ (some 8) rfl rfl Try.func42 (by kernel_rfl) rfl #[.string a0] rfl sma ?_; (with_reducible refine (install_identifier.calls a0 true _ A3.out).mono ?_); rintro e w' ⟨rfl, ⟨nd, rfl⟩⟩; refine ⟨_, rfl, ?_⟩; (try (rw [drewN_self w10]; generalize hq_ : World.drewN w10 _ = w10; replace BK152 := bkq BK152 hq_; replace HB := hbq HB hq_; clear hq_))) | (go_at_call 51; (with_reducible refine (install_list.calls k _ _ l1 true _ (cb HR1 HB) HC1.out A5.out).mono ?_); rintro e w' ⟨rfl, ⟨nd, rfl⟩⟩; (try (rw [drewN_self w10]; generalize hq_ : World.drewN w10 _ = w10; replace BK152 := bkq BK152 hq_; replace HB := hbq HB hq_; clear hq_))))
     replace BK152 := Aside0.mk (blk_drew BK152.out)
     replace HB := Aside0.mk (below_drew1 HB.out)
     refine start_ (n := 10) (S := fun w' => True) (ds := []) #[false, false, false, false, false, false, false, false, false, false] (by kernel_rfl) rfl rfl trivial (fun hHeld => ?_); refine with_tabW install_New.tab4 install_New.bits4 (fun HT_ HW_ => ?_)
     generalize w10.drew = w11 at BK152 HB hHeld ⊢
     refine pur 0 (some 18) #[true, false, false, false, false, false, false, false, false, false] HT_ ?_
     refine pur 1 (some 19) #[true, true, false, false, false, false, false, false, false, false] HT_ ?_
     refine pur 3 (some 21) #[true, true, false, true, false, false, false, false, false, false] HT_ ?_
     refine pur 5 (some 23) #[true, true, false, true, false, true, false, false, false, false] HT_ ?_
     refine join_ (σ := Value × Value × Value) 3 #[true, true, true, true, true, true, true, false, false, false] (fun s_ => [(20, s_.1), (22, s_.2.1), (24, s_.2.2)]) (fun s_ w' => (Kd.R (Kd.int .i64) 3 w' w.heap.size (fun _ => True) s_.1 t155) ∧ (Kd.R Kd.bool 4 w' w.heap.size (fun k_ => some k_ ≠ (s_.2.2 : Value).ownBlock) s_.2.1 y158) ∧ (Kd.R Kd.bool 4 w' w.heap.size (fun k_ => some k_ ≠ (s_.2.1 : Value).ownBlock) s_.2.2 y161) ∧ (w'.heap[gb152]? = some (.cells #[.string (⟨#[]⟩ : ByteArray), .slice none 0 0, .slice none 0 0, .slice none 0 0, .int .i64 0, .int .i64 0] 50 (0, 0))) ∧ (Below w.heap.size w w')) ?_ ?_
     rotate_left
     ·intro hJ2_4_6
      refine join_ (σ := Value × Value) 4 #[true, true, true, true, true, true, false, false, false, false] (fun s_ => [(20, s_.1), (22, s_.2)]) (fun s_ w' => (Kd.R (Kd.int .i64) 3 w' w.heap.size (fun _ => True) s_.1 t155) ∧ (Kd.R Kd.bool 4 w' w.heap.size (fun _ => True) s_.2 y158) ∧ (w'.heap[gb152]? = some (.cells #[.string (⟨#[]⟩ : ByteArray), .slice none 0 0, .slice none 0 0, .slice none 0 0, .int .i64 0, .int .i64 0] 50 (0, 0))) ∧ (Below w.heap.size w w')) ?_ ?_
      rotate_left
      ·intro hJ2_4
       refine join_ (σ := Value × Value) 4 #[true, true, true, true, false, true, true, false, false, false] (fun s_ => [(20, s_.1), (24, s_.2)]) (fun s_ w' => (Kd.R (Kd.int .i64) 3 w' w.heap.size (fun _ => True) s_.1 t155) ∧ (Kd.R Kd.bool 4 w' w.heap.size (fun _ => True) s_.2 y161) ∧ (w'.heap[gb152]? = some (.cells #[.string (⟨#[]⟩ : ByteArray), .slice none 0 0, .slice none 0 0, .slice none 0 0, .int .i64 0, .int .i64 0] 50 (0, 0))) ∧ (Below w.heap.size w w')) ?_ ?_
       rotate_left
       ·intro hJ2_6
        refine join_ (σ := Value × Value) 4 #[true, true, false, true, true, true, true, false, false, false] (fun s_ => [(22, s_.1), (24, s_.2)]) (fun s_ w' => (Kd.R Kd.bool 4 w' w.heap.size (fun k_ => some k_ ≠ (s_.2 : Value).ownBlock) s_.1 y158) ∧ (Kd.R Kd.bool 4 w' w.heap.size (fun k_ => some k_ ≠ (s_.1 : Value).ownBlock) s_.2 y161) ∧ (w'.heap[gb152]? = some (.cells #[.string (⟨#[]⟩ : ByteArray), .slice none 0 0, .slice none 0 0, .slice none 0 0, .int .i64 0, .int .i64 0] 50 (0, 0))) ∧ (Below w.heap.size w w')) ?_ ?_
        rotate_left
        ·intro hJ4_6
         refine join_ (σ := Value) 5 #[true, true, true, true, false, true, false, false, false, false] (fun s_ => [(20, s_)]) (fun s_ w' => (Kd.R (Kd.int .i64) 3 w' w.heap.size (fun _ => True) s_ t155) ∧ (w'.heap[gb152]? = some (.cells #[.string (⟨#[]⟩ : ByteArray), .slice none 0 0, .slice none 0 0, .slice none 0 0, .int .i64 0, .int .i64 0] 50 (0, 0))) ∧ (Below w.heap.size w w')) ?_ ?_
         rotate_left
         ·intro hJ2
          refine join_ (σ := Value) 5 #[true, true, false, true, true, true, false, false, false, false] (fun s_ => [(22, s_)]) (fun s_ w' => (Kd.R Kd.bool 4 w' w.heap.size (fun _ => True) s_ y158) ∧ (w'.heap[gb152]? = some (.cells #[.string (⟨#[]⟩ : ByteArray), .slice none 0 0, .slice none 0 0, .slice none 0 0, .int .i64 0, .int .i64 0] 50 (0, 0))) ∧ (Below w.heap.size w w')) ?_ ?_
          rotate_left
          ·intro hJ4
           refine join_ (σ := Value) 5 #[true, true, false, true, false, true, true, false, false, false] (fun s_ => [(24, s_)]) (fun s_ w' => (Kd.R Kd.bool 4 w' w.heap.size (fun _ => True) s_ y161) ∧ (w'.heap[gb152]? = some (.cells #[.string (⟨#[]⟩ : ByteArray), .slice none 0 0, .slice none 0 0, .slice none 0 0, .int .i64 0, .int .i64 0] 50 (0, 0))) ∧ (Below w.heap.size w w')) ?_ ?_
           rotate_left
           ·intro hJ6
            refine three_ (i := 2) (j := 4) (k := 6) (Ni := some 20) (Nj := some 22) (Nk := some 24) #[true, true, true, true, false, true, false, false, false, false] #[true, true, false, true, true, true, false, false, false, false] #[true, true, false, true, false, true, true, false, false, false] rfl rfl rfl rfl rfl rfl (three_of HT_.out (by kernel_rfl)) (by decide) (by decide) (by decide) (fun K hK => ?_) (fun K hK => ?_) (fun K hK => ?_)
            ·skip
             refine goes_ Try.func52 (by kernel_rfl) rfl #[.slice A1 l1.length c1] (by rfl) rfl rfl sma ?_
             with_reducible refine (slices_Clone_int_int.calls _ _ l1 t155 _ ?side1 ?side2 A7.out).mono ?_
             (case side1 => repeat (first | exact (Kd.C_below HR1.out HB.out) | (with_reducible refine Kd.C_alloc ?_ _) | (with_reducible refine Kd.C_drewN ?_ _) | (with_reducible refine Kd.C_drew ?_)))
             (case side2 => exact HC1.out)
             rintro e w12 ⟨v156, rfl, ho0, hb⟩
             refine ⟨_, rfl, ?_⟩
             have HO157 := Aside0.mk (Kd.R_lower ho0 (below_size (hbx HB)))
             replace BK152 := bkB BK152 hb
             replace HB := hbS HB hb
             (try clear hb)
             (try clear ho0)
             refine hK.out _ _ trivial (fun hHeld => ?_)
             clear hK K
             refine nrm (some 20) ?_
             exact npu (hJ2 (v156) _ ⟨(ro HO157), (bk BK152), (hbx HB)⟩)
            ·skip
             refine Kd.R_make_step Kd.bool _ 4 (by rfl) (N := 22) rfl 22 _ _ rfl (l1.length : Int) rfl rfl Try.underlying22 (.bool false) 1 info4 rfl (by decide) (by omega) false (ok := fun _ => True) (okp := fun _ => True) rfl (fun _ hk => hk) trivial (pos_) (Nat.le_trans (Nat.mul_le_mul_right _ (pos_ : (l1.length : Int).toNat ≤ 281474976710656)) (by omega)) (Below.refl _ _) (Nat.le_refl _) ?_
             intro v159 w12 ho13 hb hg_ hnew_
             clear hg_ hnew_
             (first | rw [← Ny158.out] at ho13 | (simp only [Int.reduceToNat] at ho13; rw [← Ny158.out] at ho13))
             have HO160 := Aside0.mk (Kd.R_lower ho13 (below_size (hbx HB)))
             replace BK152 := bkB BK152 hb
             replace HB := hbS HB hb
             clear hb ho13
             refine hK.out _ _ trivial (fun hHeld => ?_)
             clear hK K
             refine nrm (some 22) ?_
             exact npu (hJ4 (v159) _ ⟨(ro HO160), (bk BK152), (hbx HB)⟩)
            ·skip
             refine Kd.R_make_step Kd.bool _ 4 (by rfl) (N := 24) rfl 22 _ _ rfl (l1.length : Int) rfl rfl Try.underlying22 (.bool false) 1 info4 rfl (by decide) (by omega) false (ok := fun _ => True) (okp := fun _ => True) rfl (fun _ hk => hk) trivial (pos_) (Nat.le_trans (Nat.mul_le_mul_right _ (pos_ : (l1.length : Int).toNat ≤ 281474976710656)) (by omega)) (Below.refl _ _) (Nat.le_refl _) ?_
             intro v162 w12 ho13 hb hg_ hnew_
             clear hg_ hnew_
             (first | rw [← Ny161.out] at ho13 | (simp only [Int.reduceToNat] at ho13; rw [← Ny161.out] at ho13))
             have HO163 := Aside0.mk (Kd.R_lower ho13 (below_size (hbx HB)))
             replace BK152 := bkB BK152 hb
             replace HB := hbS HB hb
             clear hb ho13
             refine hK.out _ _ trivial (fun hHeld => ?_)
             clear hK K
             refine nrm (some 24) ?_
             exact npu (hJ6 (v162) _ ⟨(ro HO163), (bk BK152), (hbx HB)⟩)
           ·skip
            rintro v162 w14 ⟨h0_, h1_, h2_⟩
            have n0_ : Aside0 (Kd.R Kd.bool 4 w14 w.heap.size (fun _ => True) v162 y161) := ⟨h0_⟩
            have n1_ : Aside0 (w14.heap[gb152]? = some (.cells #[.string (⟨#[]⟩ : ByteArray), .slice none 0 0, .slice none 0 0, .slice none 0 0, .int .i64 0, .int .i64 0] 50 (0, 0))) := ⟨h1_⟩
            have n2_ : Aside0 (Below w.heap.size w w14) := ⟨h2_⟩
            clear BK152
            clear HB
            clear h0_ h1_ h2_
            have HO163 := n0_
            have BK152 := n1_
            have HB := n2_
            clear n0_ n1_ n2_
            have hHeld := trivial
            refine norm_ (a' := ?_) ?_ ?_
            rotate_left
            ·simp only [putAll, Act.put, List.setIfInBounds_toArray, List.set_cons_zero, List.set_cons_succ]
             rfl
            refine two_ (i := 2) (j := 4) (Ni := some 20) (Nj := some 22) #[true, true, true, true, false, true, true, false, false, false] #[true, true, false, true, true, true, true, false, false, false] rfl rfl rfl rfl (two_of HT_.out (by kernel_rfl)) (by decide) (by decide) (fun K hK => ?_) (fun K hK => ?_)
            ·skip
             refine goes_ Try.func52 (by kernel_rfl) rfl #[.slice A1 l1.length c1] (by rfl) rfl rfl sma ?_
             with_reducible refine (slices_Clone_int_int.calls _ _ l1 t155 _ ?side1 ?side2 A7.out).mono ?_
             (case side1 => repeat (first | exact (Kd.C_below HR1.out HB.out) | (with_reducible refine Kd.C_alloc ?_ _) | (with_reducible refine Kd.C_drewN ?_ _) | (with_reducible refine Kd.C_drew ?_)))
             (case side2 => exact HC1.out)
             rintro e w15 ⟨v156, rfl, ho0, hb⟩
             refine ⟨_, rfl, ?_⟩
             replace HO163 := rB HO163 hb
             have HO157 := Aside0.mk (Kd.R_lower ho0 (below_size (hbx HB)))
             replace BK152 := bkB BK152 hb
             replace HB := hbS HB hb
             (try clear hb)
             (try clear ho0)
             refine hK.out _ _ trivial (fun hHeld => ?_)
             clear hK K
             refine nrm (some 20) ?_
             exact npu (hJ2_6 (v156, v162) _ ⟨(ro HO157), (ro HO163), (bk BK152), (hbx HB)⟩)
            ·skip
             refine Kd.R_make_step Kd.bool _ 4 (by rfl) (N := 22) rfl 22 _ _ rfl (l1.length : Int) rfl rfl Try.underlying22 (.bool false) 1 info4 rfl (by decide) (by omega) false (ok := fun _ => True) (okp := fun _ => True) rfl (fun _ hk => hk) trivial (pos_) (Nat.le_trans (Nat.mul_le_mul_right _ (pos_ : (l1.length : Int).toNat ≤ 281474976710656)) (by omega)) (Below.refl _ _) (Nat.le_refl _) ?_
             intro v159 w15 ho16 hb hg_ hnew_
             clear hg_ hnew_
             (first | rw [← Ny158.out] at ho16 | (simp only [Int.reduceToNat] at ho16; rw [← Ny158.out] at ho16))
             have HO160 := Aside0.mk (Kd.R_lower (Kd.R_new' ho16 (Kd.R_lt (ro HO163))) (below_size (hbx HB)))
             replace HO163 := Aside0.mk (Kd.R_elder' (ro HO163) (Kd.R_base ho16) hb)
             replace BK152 := bkB BK152 hb
             replace HB := hbS HB hb
             clear hb ho16
             refine hK.out _ _ trivial (fun hHeld => ?_)
             clear hK K
             refine nrm (some 22) ?_
             exact npu (hJ4_6 (v159, v162) _ ⟨(by (with_reducible repeat (first | apply Kd.R_alloc | apply Kd.R_drewN | apply Kd.R_drew)); exact Kd.R_mono HO160.out (fun _ hk => hk.2)), (by (with_reducible repeat (first | apply Kd.R_alloc | apply Kd.R_drewN | apply Kd.R_drew)); exact Kd.R_mono HO163.out (fun _ hk => hk.2)), (bk BK152), (hbx HB)⟩)
          ·skip
           rintro v159 w14 ⟨h0_, h1_, h2_⟩
           have n0_ : Aside0 (Kd.R Kd.bool 4 w14 w.heap.size (fun _ => True) v159 y158) := ⟨h0_⟩
           have n1_ : Aside0 (w14.heap[gb152]? = some (.cells #[.string (⟨#[]⟩ : ByteArray), .slice none 0 0, .slice none 0 0, .slice none 0 0, .int .i64 0, .int .i64 0] 50 (0, 0))) := ⟨h1_⟩
           have n2_ : Aside0 (Below w.heap.size w w14) := ⟨h2_⟩
           clear BK152
           clear HB
           clear h0_ h1_ h2_
           have HO160 := n0_
           have BK152 := n1_
           have HB := n2_
           clear n0_ n1_ n2_
           have hHeld := trivial
           refine norm_ (a' := ?_) ?_ ?_
           rotate_left
           ·simp only [putAll, Act.put, List.setIfInBounds_toArray, List.set_cons_zero, List.set_cons_succ]
            rfl
           refine two_ (i := 2) (j := 6) (Ni := some 20) (Nj := some 24) #[true, true, true, true, true, true, false, false, false, false] #[true, true, false, true, true, true, true, false, false, false] rfl rfl rfl rfl (two_of HT_.out (by kernel_rfl)) (by decide) (by decide) (fun K hK => ?_) (fun K hK => ?_)
           ·skip
            refine goes_ Try.func52 (by kernel_rfl) rfl #[.slice A1 l1.length c1] (by rfl) rfl rfl sma ?_
            with_reducible refine (slices_Clone_int_int.calls _ _ l1 t155 _ ?side1 ?side2 A7.out).mono ?_
            (case side1 => repeat (first | exact (Kd.C_below HR1.out HB.out) | (with_reducible refine Kd.C_alloc ?_ _) | (with_reducible refine Kd.C_drewN ?_ _) | (with_reducible refine Kd.C_drew ?_)))
            (case side2 => exact HC1.out)
            rintro e w15 ⟨v156, rfl, ho0, hb⟩
            refine ⟨_, rfl, ?_⟩
            replace HO160 := rB HO160 hb
            have HO157 := Aside0.mk (Kd.R_lower ho0 (below_size (hbx HB)))
            replace BK152 := bkB BK152 hb
            replace HB := hbS HB hb
            (try clear hb)
            (try clear ho0)
            refine hK.out _ _ trivial (fun hHeld => ?_)
            clear hK K
            refine nrm (some 20) ?_
            exact npu (hJ2_4 (v156, v159) _ ⟨(ro HO157), (ro HO160), (bk BK152), (hbx HB)⟩)
           ·skip
            refine Kd.R_make_step Kd.bool _ 4 (by rfl) (N := 24) rfl 22 _ _ rfl (l1.length : Int) rfl rfl Try.underlying22 (.bool false) 1 info4 rfl (by decide) (by omega) false (ok := fun _ => True) (okp := fun _ => True) rfl (fun _ hk => hk) trivial (pos_) (Nat.le_trans (Nat.mul_le_mul_right _ (pos_ : (l1.length : Int).toNat ≤ 281474976710656)) (by omega)) (Below.refl _ _) (Nat.le_refl _) ?_
            intro v162 w15 ho16 hb hg_ hnew_
            clear hg_ hnew_
            (first | rw [← Ny161.out] at ho16 | (simp only [Int.reduceToNat] at ho16; rw [← Ny161.out] at ho16))
            have HO163 := Aside0.mk (Kd.R_lower (Kd.R_new' ho16 (Kd.R_lt (ro HO160))) (below_size (hbx HB)))
            replace HO160 := Aside0.mk (Kd.R_elder' (ro HO160) (Kd.R_base ho16) hb)
            replace BK152 := bkB BK152 hb
            replace HB := hbS HB hb
            clear hb ho16
            refine hK.out _ _ trivial (fun hHeld => ?_)
            clear hK K
            refine nrm (some 24) ?_
            exact npu (hJ4_6 (v159, v162) _ ⟨(by (with_reducible repeat (first | apply Kd.R_alloc | apply Kd.R_drewN | apply Kd.R_drew)); exact Kd.R_mono HO160.out (fun _ hk => hk.2)), (by (with_reducible repeat (first | apply Kd.R_alloc | apply Kd.R_drewN | apply Kd.R_drew)); exact Kd.R_mono HO163.out (fun _ hk => hk.2)), (bk BK152), (hbx HB)⟩)
         ·skip
          rintro v156 w13 ⟨h0_, h1_, h2_⟩
          have n0_ : Aside0 (Kd.R (Kd.int .i64) 3 w13 w.heap.size (fun _ => True) v156 t155) := ⟨h0_⟩
          have n1_ : Aside0 (w13.heap[gb152]? = some (.cells #[.string (⟨#[]⟩ : ByteArray), .slice none 0 0, .slice none 0 0, .slice none 0 0, .int .i64 0, .int .i64 0] 50 (0, 0))) := ⟨h1_⟩
          have n2_ : Aside0 (Below w.heap.size w w13) := ⟨h2_⟩
          clear BK152
          clear HB
          clear h0_ h1_ h2_
          have HO157 := n0_
          have BK152 := n1_
          have HB := n2_
          clear n0_ n1_ n2_
          have hHeld := trivial
          refine norm_ (a' := ?_) ?_ ?_
          rotate_left
          ·simp only [putAll, Act.put, List.setIfInBounds_toArray, List.set_cons_zero, List.set_cons_succ]
           rfl
          refine two_ (i := 4) (j := 6) (Ni := some 22) (Nj := some 24) #[true, true, true, true, true, true, false, false, false, false] #[true, true, true, true, false, true, true, false, false, false] rfl rfl rfl rfl (two_of HT_.out (by kernel_rfl)) (by decide) (by decide) (fun K hK => ?_) (fun K hK => ?_)
          ·skip
           refine Kd.R_make_step Kd.bool _ 4 (by rfl) (N := 22) rfl 22 _ _ rfl (l1.length : Int) rfl rfl Try.underlying22 (.bool false) 1 info4 rfl (by decide) (by omega) false (ok := fun _ => True) (okp := fun _ => True) rfl (fun _ hk => hk) trivial (pos_) (Nat.le_trans (Nat.mul_le_mul_right _ (pos_ : (l1.length : Int).toNat ≤ 281474976710656)) (by omega)) (Below.refl _ _) (Nat.le_refl _) ?_
           intro v159 w14 ho15 hb hg_ hnew_
           clear hg_ hnew_
           (first | rw [← Ny158.out] at ho15 | (simp only [Int.reduceToNat] at ho15; rw [← Ny158.out] at ho15))
           replace HO157 := rB HO157 hb
           have HO160 := Aside0.mk (Kd.R_lower ho15 (below_size (hbx HB)))
           replace BK152 := bkB BK152 hb
           replace HB := hbS HB hb
           clear hb ho15
           refine hK.out _ _ trivial (fun hHeld => ?_)
           clear hK K
           refine nrm (some 22) ?_
           exact npu (hJ2_4 (v156, v159) _ ⟨(ro HO157), (ro HO160), (bk BK152), (hbx HB)⟩)
          ·skip
           refine Kd.R_make_step Kd.bool _ 4 (by rfl) (N := 24) rfl 22 _ _ rfl (l1.length : Int) rfl rfl Try.underlying22 (.bool false) 1 info4 rfl (by decide) (by omega) false (ok := fun _ => True) (okp := fun _ => True) rfl (fun _ hk => hk) trivial (pos_) (Nat.le_trans (Nat.mul_le_mul_right _ (pos_ : (l1.length : Int).toNat ≤ 281474976710656)) (by omega)) (Below.refl _ _) (Nat.le_refl _) ?_
           intro v162 w14 ho15 hb hg_ hnew_
           clear hg_ hnew_
           (first | rw [← Ny161.out] at ho15 | (simp only [Int.reduceToNat] at ho15; rw [← Ny161.out] at ho15))
           replace HO157 := rB HO157 hb
           have HO163 := Aside0.mk (Kd.R_lower ho15 (below_size (hbx HB)))
           replace BK152 := bkB BK152 hb
           replace HB := hbS HB hb
           clear hb ho15
           refine hK.out _ _ trivial (fun hHeld => ?_)
           clear hK K
           refine nrm (some 24) ?_
           exact npu (hJ2_6 (v156, v162) _ ⟨(ro HO157), (ro HO163), (bk BK152), (hbx HB)⟩)
        ·skip
         rintro ⟨v159, v162⟩ w16 ⟨h0_, h1_, h2_, h3_⟩
         have n0_ : Aside0 (Kd.R Kd.bool 4 w16 w.heap.size (fun k_ => some k_ ≠ (v162 : Value).ownBlock) v159 y158) := ⟨h0_⟩
         have n1_ : Aside0 (Kd.R Kd.bool 4 w16 w.heap.size (fun k_ => some k_ ≠ (v159 : Value).ownBlock) v162 y161) := ⟨h1_⟩
         have n2_ : Aside0 (w16.heap[gb152]? = some (.cells #[.string (⟨#[]⟩ : ByteArray), .slice none 0 0, .slice none 0 0, .slice none 0 0, .int .i64 0, .int .i64 0] 50 (0, 0))) := ⟨h2_⟩
         have n3_ : Aside0 (Below w.heap.size w w16) := ⟨h3_⟩
         clear BK152
         clear HB
         clear h0_ h1_ h2_ h3_
         have HO160 := n0_
         have HO163 := n1_
         have BK152 := n2_
         have HB := n3_
         clear n0_ n1_ n2_ n3_
         have hHeld := trivial
         refine norm_ (a' := ?_) ?_ ?_
         rotate_left
         ·simp only [putAll, Act.put, List.setIfInBounds_toArray, List.set_cons_zero, List.set_cons_succ]
          rfl
         refine one_ (i := 2) (N := some 20) #[true, true, true, true, true, true, true, false, false, false] rfl rfl (one_of HT_.out (by kernel_rfl)) (by decide) (fun K hK => ?_)
         refine goes_ Try.func52 (by kernel_rfl) rfl #[.slice A1 l1.length c1] (by rfl) rfl rfl sma ?_
         with_reducible refine (slices_Clone_int_int.calls _ _ l1 t155 _ ?side1 ?side2 A7.out).mono ?_
         (case side1 => repeat (first | exact (Kd.C_below HR1.out HB.out) | (with_reducible refine Kd.C_alloc ?_ _) | (with_reducible refine Kd.C_drewN ?_ _) | (with_reducible refine Kd.C_drew ?_)))
         (case side2 => exact HC1.out)
         rintro e w17 ⟨v156, rfl, ho0, hb⟩
         refine ⟨_, rfl, ?_⟩
         replace HO160 := rB HO160 hb
         replace HO163 := rB HO163 hb
         have HO157 := Aside0.mk (Kd.R_lower ho0 (below_size (hbx HB)))
         replace BK152 := bkB BK152 hb
         replace HB := hbS HB hb
         (try clear hb)
         (try clear ho0)
         obtain ⟨Ao18, co18, eo18⟩ := Kd.R_slice HO163.out
         (first | subst eo18 | (injection eo18 with f1_ f2_ f3_; have f4_ := f1_.symm; have f5_ := f3_.symm; clear f1_ f2_ f3_; subst f4_; subst f5_))
         obtain ⟨Ao19, co19, eo19⟩ := Kd.R_slice HO160.out
         (first | subst eo19 | (injection eo19 with f1_ f2_ f3_; have f4_ := f1_.symm; have f5_ := f3_.symm; clear f1_ f2_ f3_; subst f4_; subst f5_))
         obtain ⟨Ao20, co20, eo20⟩ := Kd.R_slice HO157.out
         (first | subst eo20 | (injection eo20 with f1_ f2_ f3_; have f4_ := f1_.symm; have f5_ := f3_.symm; clear f1_ f2_ f3_; subst f4_; subst f5_))
         refine hK.out _ _ trivial (fun hHeld => ?_)
         clear hK K
         refine nrm (some 20) ?_
         exact npu (hJ2_4_6 (.slice Ao20 t155.length co20, .slice Ao19 y158.length co19, .slice Ao18 y161.length co18) _ ⟨(ro HO157), (ro HO160), (ro HO163), (bk BK152), (hbx HB)⟩)
       ·skip
        rintro ⟨v156, v162⟩ w15 ⟨h0_, h1_, h2_, h3_⟩
        have n0_ : Aside0 (Kd.R (Kd.int .i64) 3 w15 w.heap.size (fun _ => True) v156 t155) := ⟨h0_⟩
        have n1_ : Aside0 (Kd.R Kd.bool 4 w15 w.heap.size (fun _ => True) v162 y161) := ⟨h1_⟩
        have n2_ : Aside0 (w15.heap[gb152]? = some (.cells #[.string (⟨#[]⟩ : ByteArray), .slice none 0 0, .slice none 0 0, .slice none 0 0, .int .i64 0, .int .i64 0] 50 (0, 0))) := ⟨h2_⟩
        have n3_ : Aside0 (Below w.heap.size w w15) := ⟨h3_⟩
        clear BK152
        clear HB
        clear h0_ h1_ h2_ h3_
        have HO157 := n0_
        have HO163 := n1_
        have BK152 := n2_
        have HB := n3_
        clear n0_ n1_ n2_ n3_
        have hHeld := trivial
        refine norm_ (a' := ?_) ?_ ?_
        rotate_left
        ·simp only [putAll, Act.put, List.setIfInBounds_toArray, List.set_cons_zero, List.set_cons_succ]
         rfl
        refine one_ (i := 4) (N := some 22) #[true, true, true, true, true, true, true, false, false, false] rfl rfl (one_of HT_.out (by kernel_rfl)) (by decide) (fun K hK => ?_)
        refine Kd.R_make_step Kd.bool _ 4 (by rfl) (N := 22) rfl 22 _ _ rfl (l1.length : Int) rfl rfl Try.underlying22 (.bool false) 1 info4 rfl (by decide) (by omega) false (ok := fun _ => True) (okp := fun _ => True) rfl (fun _ hk => hk) trivial (pos_) (Nat.le_trans (Nat.mul_le_mul_right _ (pos_ : (l1.length : Int).toNat ≤ 281474976710656)) (by omega)) (Below.refl _ _) (Nat.le_refl _) ?_
        intro v159 w16 ho17 hb hg_ hnew_
        clear hg_ hnew_
        (first | rw [← Ny158.out] at ho17 | (simp only [Int.reduceToNat] at ho17; rw [← Ny158.out] at ho17))
        replace HO157 := rB HO157 hb
        have HO160 := Aside0.mk (Kd.R_lower (Kd.R_new' ho17 (Kd.R_lt (ro HO163))) (below_size (hbx HB)))
        replace HO163 := Aside0.mk (Kd.R_elder' (ro HO163) (Kd.R_base ho17) hb)
        replace BK152 := bkB BK152 hb
        replace HB := hbS HB hb
        clear hb ho17
        obtain ⟨Ao18, co18, eo18⟩ := Kd.R_slice HO163.out
        (first | subst eo18 | (injection eo18 with f1_ f2_ f3_; have f4_ := f1_.symm; have f5_ := f3_.symm; clear f1_ f2_ f3_; subst f4_; subst f5_))
        obtain ⟨Ao19, co19, eo19⟩ := Kd.R_slice HO160.out
        (first | subst eo19 | (injection eo19 with f1_ f2_ f3_; have f4_ := f1_.symm; have f5_ := f3_.symm; clear f1_ f2_ f3_; subst f4_; subst f5_))
        obtain ⟨Ao20, co20, eo20⟩ := Kd.R_slice HO157.out
        (first | subst eo20 | (injection eo20 with f1_ f2_ f3_; have f4_ := f1_.symm; have f5_ := f3_.symm; clear f1_ f2_ f3_; subst f4_; subst f5_))
        refine hK.out _ _ trivial (fun hHeld => ?_)
        clear hK K
        refine nrm (some 22) ?_
        exact npu (hJ2_4_6 (.slice Ao20 t155.length co20, .slice Ao19 y158.length co19, .slice Ao18 y161.length co18) _ ⟨(ro HO157), (by (with_reducible repeat (first | apply Kd.R_alloc | apply Kd.R_drewN | apply Kd.R_drew)); exact Kd.R_mono HO160.out (fun _ hk => hk.2)), (by (with_reducible repeat (first | apply Kd.R_alloc | apply Kd.R_drewN | apply Kd.R_drew)); exact Kd.R_mono HO163.out (fun _ hk => hk.2)), (bk BK152), (hbx HB)⟩)
      ·skip
       rintro ⟨v156, v159⟩ w15 ⟨h0_, h1_, h2_, h3_⟩
       have n0_ : Aside0 (Kd.R (Kd.int .i64) 3 w15 w.heap.size (fun _ => True) v156 t155) := ⟨h0_⟩
       have n1_ : Aside0 (Kd.R Kd.bool 4 w15 w.heap.size (fun _ => True) v159 y158) := ⟨h1_⟩
       have n2_ : Aside0 (w15.heap[gb152]? = some (.cells #[.string (⟨#[]⟩ : ByteArray), .slice none 0 0, .slice none 0 0, .slice none 0 0, .int .i64 0, .int .i64 0] 50 (0, 0))) := ⟨h2_⟩
       have n3_ : Aside0 (Below w.heap.size w w15) := ⟨h3_⟩
       clear BK152
       clear HB
       clear h0_ h1_ h2_ h3_
       have HO157 := n0_
       have HO160 := n1_
       have BK152 := n2_
       have HB := n3_
       clear n0_ n1_ n2_ n3_
       have hHeld := trivial
       refine norm_ (a' := ?_) ?_ ?_
       rotate_left
       ·simp only [putAll, Act.put, List.setIfInBounds_toArray, List.set_cons_zero, List.set_cons_succ]
        rfl
       refine one_ (i := 6) (N := some 24) #[true, true, true, true, true, true, true, false, false, false] rfl rfl (one_of HT_.out (by kernel_rfl)) (by decide) (fun K hK => ?_)
       refine Kd.R_make_step Kd.bool _ 4 (by rfl) (N := 24) rfl 22 _ _ rfl (l1.length : Int) rfl rfl Try.underlying22 (.bool false) 1 info4 rfl (by decide) (by omega) false (ok := fun _ => True) (okp := fun _ => True) rfl (fun _ hk => hk) trivial (pos_) (Nat.le_trans (Nat.mul_le_mul_right _ (pos_ : (l1.length : Int).toNat ≤ 281474976710656)) (by omega)) (Below.refl _ _) (Nat.le_refl _) ?_
       intro v162 w16 ho17 hb hg_ hnew_
       clear hg_ hnew_
       (first | rw [← Ny161.out] at ho17 | (simp only [Int.reduceToNat] at ho17; rw [← Ny161.out] at ho17))
       replace HO157 := rB HO157 hb
       have HO163 := Aside0.mk (Kd.R_lower (Kd.R_new' ho17 (Kd.R_lt (ro HO160))) (below_size (hbx HB)))
       replace HO160 := Aside0.mk (Kd.R_elder' (ro HO160) (Kd.R_base ho17) hb)
       replace BK152 := bkB BK152 hb
       replace HB := hbS HB hb
       clear hb ho17
       obtain ⟨Ao18, co18, eo18⟩ := Kd.R_slice HO163.out
       (first | subst eo18 | (injection eo18 with f1_ f2_ f3_; have f4_ := f1_.symm; have f5_ := f3_.symm; clear f1_ f2_ f3_; subst f4_; subst f5_))
       obtain ⟨Ao19, co19, eo19⟩ := Kd.R_slice HO160.out
       (first | subst eo19 | (injection eo19 with f1_ f2_ f3_; have f4_ := f1_.symm; have f5_ := f3_.symm; clear f1_ f2_ f3_; subst f4_; subst f5_))
       obtain ⟨Ao20, co20, eo20⟩ := Kd.R_slice HO157.out
       (first | subst eo20 | (injection eo20 with f1_ f2_ f3_; have f4_ := f1_.symm; have f5_ := f3_.symm; clear f1_ f2_ f3_; subst f4_; subst f5_))
       refine hK.out _ _ trivial (fun hHeld => ?_)
       clear hK K
       refine nrm (some 24) ?_
       exact npu (hJ2_4_6 (.slice Ao20 t155.length co20, .slice Ao19 y158.length co19, .slice Ao18 y161.length co18) _ ⟨(ro HO157), (by (with_reducible repeat (first | apply Kd.R_alloc | apply Kd.R_drewN | apply Kd.R_drew)); exact Kd.R_mono HO160.out (fun _ hk => hk.2)), (by (with_reducible repeat (first | apply Kd.R_alloc | apply Kd.R_drewN | apply Kd.R_drew)); exact Kd.R_mono HO163.out (fun _ hk => hk.2)), (bk BK152), (hbx HB)⟩)
     rintro ⟨v156, v159, v162⟩ w20 ⟨h0_, h1_, h2_, h3_, h4_⟩
     have n0_ : Aside0 (Kd.R (Kd.int .i64) 3 w20 w.heap.size (fun _ => True) v156 t155) := ⟨h0_⟩
     have n1_ : Aside0 (Kd.R Kd.bool 4 w20 w.heap.size (fun k_ => some k_ ≠ (v162 : Value).ownBlock) v159 y158) := ⟨h1_⟩
     have n2_ : Aside0 (Kd.R Kd.bool 4 w20 w.heap.size (fun k_ => some k_ ≠ (v159 : Value).ownBlock) v162 y161) := ⟨h2_⟩
     have n3_ : Aside0 (w20.heap[gb152]? = some (.cells #[.string (⟨#[]⟩ : ByteArray), .slice none 0 0, .slice none 0 0, .slice none 0 0, .int .i64 0, .int .i64 0] 50 (0, 0))) := ⟨h3_⟩
     have n4_ : Aside0 (Below w.heap.size w w20) := ⟨h4_⟩
     clear BK152
     clear HB
     clear h0_ h1_ h2_ h3_ h4_
     have HO157 := n0_
     have HO160 := n1_
     have HO163 := n2_
     have BK152 := n3_
     have HB := n4_
     clear n0_ n1_ n2_ n3_ n4_
     have hHeld := trivial
     obtain ⟨Ao21, co21, eo21⟩ := Kd.R_slice HO163.out
     (first | subst eo21 | (injection eo21 with f1_ f2_ f3_; have f4_ := f1_.symm; have f5_ := f3_.symm; clear f1_ f2_ f3_; subst f4_; subst f5_))
     obtain ⟨Ao22, co22, eo22⟩ := Kd.R_slice HO160.out
     (first | subst eo22 | (injection eo22 with f1_ f2_ f3_; have f4_ := f1_.symm; have f5_ := f3_.symm; clear f1_ f2_ f3_; subst f4_; subst f5_))
     obtain ⟨Ao23, co23, eo23⟩ := Kd.R_slice HO157.out
     (first | subst eo23 | (injection eo23 with f1_ f2_ f3_; have f4_ := f1_.symm; have f5_ := f3_.symm; clear f1_ f2_ f3_; subst f4_; subst f5_))
     refine norm_ (a' := ?_) ?_ ?_
     rotate_left
     ·simp only [putAll, Act.put, List.setIfInBounds_toArray, List.set_cons_zero, List.set_cons_succ]
      rfl
     refine pur 7 (some 25) #[true, true, true, true, true, true, true, true, false, false] HT_ ?_
     refine one_ (i := 8) (N := none) #[true, true, true, true, true, true, true, true, true, false] rfl rfl (one_of HT_.out (by kernel_rfl)) (by decide) (fun K hK => ?_)
     have hs24 : w20.cell? ⟨gb152, 0, none⟩ = some (.string (⟨#[]⟩ : ByteArray)) := (blk_cell BK152.out 0).trans rfl
     have hfs24 := blk_frozen BK152.out 0
     have hs25 : w20.cell? ⟨gb152, 1, none⟩ = some (.slice none 0 0) := (blk_cell BK152.out 1).trans rfl
     have hfs25 := blk_frozen BK152.out 1
     have hs26 : w20.cell? ⟨gb152, 2, none⟩ = some (.slice none 0 0) := (blk_cell BK152.out 2).trans rfl
     have hfs26 := blk_frozen BK152.out 2
     have hs27 : w20.cell? ⟨gb152, 3, none⟩ = some (.slice none 0 0) := (blk_cell BK152.out 3).trans rfl
     have hfs27 := blk_frozen BK152.out 3
     have hs28 : w20.cell? ⟨gb152, 4, none⟩ = some (.int .i64 0) := (blk_cell BK152.out 4).trans rfl
     have hfs28 := blk_frozen BK152.out 4
     have hs29 : w20.cell? ⟨gb152, 5, none⟩ = some (.int .i64 0) := (blk_cell BK152.out 5).trans rfl
     have hfs29 := blk_frozen BK152.out 5
     refine skip_ (w1 := ?_) (by rfl) rfl ?_ ?_
     rotate_left
     ·go_simp
      rfl
     refine hK.out _ _ trivial (fun hHeld => ?_)
     clear hK K
     refine pur 9 (some 5) #[true, true, true, true, true, true, true, true, true, true] HT_ ?_
     refine done_ (done_of HT_.out (by kernel_rfl)) ?_
     try go_wp2
     refine bodyPost_ret (results_ct rfl _ _ gb152 50 #[.string a0, .slice Ao23 t155.length co23, .slice Ao22 y158.length co22, .slice Ao21 y161.length co21, .int .i64 0, .int .i64 0] (0, 0) _ rfl (bkp BK152) Try.underlying50 rfl (by kernel_rfl)) rfl ?_
     exact ⟨_, _, _, rerr, Kd.R_mono (rty (rfo HO157) BK152) (fun _ hk => trivial), rfo HO160, rfo HO163, hbx HB⟩
    ·rw [if_neg c9] at H
     exact absurd H (by simp)
   ·rw [if_neg c8] at H
    exact absurd H (by simp)
  ·replace c6 := Bool.eq_false_iff.mpr c6
   subst c6
   rw [if_neg (show ¬ (false = true) by decide)] at H
   simp only [Option.some.injEq, Prod.mk.injEq] at H
   obtain ⟨rfl, rfl, rfl, rfl, rfl, rfl, rfl⟩ := H
   go_enter Try.func18, Try.ntmps18
   go_wp2_with (first | ((with_reducible refine gate_dst (N := 4) rfl ?_); refine boxE 4 #[.string (⟨#[]⟩ : ByteArray), .slice none 0 0, .slice none 0 0, .slice none 0 0, .int .i64 0, .int .i64 0] 50 ?_; intro gb152 hg w30 hbox hb; have BK152 := Aside0.mk (hbox); have GW152 := gw hg HB; have GE152 := gw hg HB; replace HB := hbS HB hb; clear hb hbox hg) | ((with_reducible refine gate_callee (f := 42) rfl ?_); refine goesL_ (some 8) rfl rfl Try.func42 (by kernel_rfl) rfl #[.string a0] rfl sma ?_; (with_reducible refine (install_identifier.calls a0 true _ A3.out).mono ?_); rintro e w' ⟨rfl, ⟨nd, rfl⟩⟩; refine ⟨_, rfl, ?_⟩; (try (rw [drewN_self w30]; generalize hq_ : World.drewN w30 _ = w30; replace BK152 := bkq BK152 hq_; replace HB := hbq HB hq_; clear hq_))) | (go_at_call 51; (with_reducible refine (install_list.calls k _ _ l1 false _ (cb HR1 HB) HC1.out A5.out).mono ?_); rintro e w' ⟨rfl, ⟨nd, rfl⟩⟩; (try (rw [drewN_self w30]; generalize hq_ : World.drewN w30 _ = w30; replace BK152 := bkq BK152 hq_; replace HB := hbq HB hq_; clear hq_)); obtain ⟨z0, z1, z2, z3, z4, z5, y0, y1, y2, y3, y4, y5⟩ := bc6 BK152))
   refine bodyPost_ret (results_ct rfl _ _ gb152 50 #[.string (⟨#[]⟩ : ByteArray), .slice none 0 0, .slice none 0 0, .slice none 0 0, .int .i64 0, .int .i64 0] (0, 0) _ rfl (bkp BK152) Try.underlying50 rfl (by kernel_rfl)) rfl ?_
   exact ⟨_, _, _, rerr, rnil, rnil, rnil, hbx HB⟩
 ·replace c4 := Bool.eq_false_iff.mpr c4
  subst c4
  rw [if_neg (show ¬ (false = true) by decide)] at H
  simp only [Option.some.injEq, Prod.mk.injEq] at H
  obtain ⟨rfl, rfl, rfl, rfl, rfl, rfl, rfl⟩ := H
  go_enter Try.func18, Try.ntmps18
  go_wp2_with (first | ((with_reducible refine gate_dst (N := 4) rfl ?_); refine boxE 4 #[.string (⟨#[]⟩ : ByteArray), .slice none 0 0, .slice none 0 0, .slice none 0 0, .int .i64 0, .int .i64 0] 50 ?_; intro gb152 hg w32 hbox hb; have BK152 := Aside0.mk (hbox); have GW152 := gw hg HB; have GE152 := gw hg HB; replace HB := hbS HB hb; clear hb hbox hg) | ((with_reducible refine gate_callee (f := 42) rfl ?_); refine goesL_ (some 8) rfl rfl Try.func42 (by kernel_rfl) rfl #[.string a0] rfl sma ?_; (with_reducible refine (install_identifier.calls a0 false _ A3.out).mono ?_); rintro e w' ⟨rfl, ⟨nd, rfl⟩⟩; refine ⟨_, rfl, ?_⟩; (try (rw [drewN_self w32]; generalize hq_ : World.drewN w32 _ = w32; replace BK152 := bkq BK152 hq_; replace HB := hbq HB hq_; clear hq_)); obtain ⟨z0, z1, z2, z3, z4, z5, y0, y1, y2, y3, y4, y5⟩ := bc6 BK152))
  refine bodyPost_ret (results_ct rfl _ _ gb152 50 #[.string (⟨#[]⟩ : ByteArray), .slice none 0 0, .slice none 0 0, .slice none 0 0, .int .i64 0, .int .i64 0] (0, 0) _ rfl (bkp BK152) Try.underlying50 rfl (by kernel_rfl)) rfl ?_
  exact ⟨_, _, _, rerr, rnil, rnil, rnil, hbx HB⟩
end Go.Proofs.Ytdigplhjfjchnaa.PQ
