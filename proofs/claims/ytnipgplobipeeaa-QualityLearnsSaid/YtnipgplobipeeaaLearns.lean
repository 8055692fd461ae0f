/-
  The plain law QualityLearns: Valid, Note, Close and Black answer like the reference's, for any learner, rules and channel. No condition.
-/
import Derived.Test.YtnipgplobipeeaaRefClose
import Derived.Test.YtnipgplobipeeaaZf8
namespace Go.Proofs.Ytnipgplobipeeaa.PureN
open Go.RowKit Go.Proofs.Ytnipgplobipeeaa.PQ Go.Proofs.Ytnipgplobipeeaa.PureB Go.Proofs.YtnipgplobipeeaaW.PrintWords Go.Proofs.YtnipgplobipeeaaW.PrintLast Go.Proofs.YtnipgplobipeeaaW.PrintMore

abbrev Res : Type := Int × List S34 × List Int × List Int × Int
def Fits (v : Res) : Prop := v.2.1.length ≤ 20 ∧ v.2.2.1.length ≤ 20 ∧ v.2.2.2.1.length ≤ 20
theorem err_fits (e : Int) : Fits (0, [], [], [], e) := ⟨Nat.zero_le _, Nat.zero_le _, Nat.zero_le _⟩
theorem radd (a b : Int) (t : Bool) : hopmeshref12_Add.f a b t = quality_Add.f a b t := rfl
theorem add_some (a b : Int) (t : Bool) : ∃ x y e, quality_Add.f a b t = some (x, y, e) := by
  unfold quality_Add.f
  rcases check_or a b with h | h
  · rw [h, Option.bind_some, if_pos rfl]
    repeat' split
    all_goals exact ⟨_, _, _, rfl⟩
  · rw [h, Option.bind_some, if_neg (by decide)]
    exact ⟨_, _, _, rfl⟩
theorem note_alike (k : Nat) (R : Int) (cs : List S34) (us hs : List Int) (ch : Int) (t : Bool) (l1 : cs.length ≤ 20) (l2 : us.length ≤ 20) (l3 : hs.length ≤ 20) :
    ∃ v : Res, quality_Note.f (k + 61) R cs us hs ch t = some v ∧ hopmeshref12_Note.f (k + 61) R cs us hs ch t = some v ∧ Fits v := by
  have va := valid_dec (k + 41) R cs us hs
  have ra := rvalid_dec (k + 1) R cs us hs
  rw [show k + 41 + 20 = k + 61 by omega] at va
  rw [show k + 1 + 60 = k + 61 by omega] at ra
  have stop : hopmeshref12_Note.j0 (k + 61) ch t true R cs us hs = some (0, [], [], [], 2) := by
    rw [show k + 61 = (k + 60) + 1 by omega]
    unfold hopmeshref12_Note.j0
    rfl
  unfold quality_Note.f hopmeshref12_Note.f
  rw [va, ra, Option.bind_some, Option.bind_some]
  by_cases ho : Ok R cs us hs
  · rw [if_pos ho, if_pos rfl, if_pos rfl]
    by_cases h1 : ch < 0
    · rw [if_pos h1, if_pos h1, stop]
      exact ⟨_, rfl, rfl, err_fits 2⟩
    · rw [if_neg h1, if_neg h1]
      by_cases h2 : ch ≥ 16
      · rw [if_pos h2, decide_eq_true h2, stop]
        exact ⟨_, rfl, rfl, err_fits 2⟩
      · rw [if_neg h2, decide_eq_false h2]
        have lc := ho.lc
        have lu := ho.lu
        have lh := ho.lh
        obtain ⟨x, y, e, hadd⟩ := add_some (rd_T34 cs ch).f0 (rd_T34 cs ch).f1 t
        rw [show k + 61 = (k + 60) + 1 by omega]
        unfold hopmeshref12_Note.j0
        simp only [Bool.false_eq_true, if_false]
        rw [if_pos (show 0 ≤ ch by omega), if_pos (show ch < (cs.length : Int) by omega), if_pos (show 0 ≤ ch by omega), if_pos (show ch < (cs.length : Int) by omega), radd, hadd, Option.bind_some, Option.bind_some]
        by_cases he : e = 0
        · subst he
          rw [if_pos rfl, if_pos rfl, clone_val R cs us hs lc lu lh, copy_val R cs us hs l1 l2 l3, Option.bind_some, if_pos (show ch < (cs.length : Int) by omega)]
          refine ⟨_, rfl, rfl, ?_, ?_, ?_⟩
          · show (cs.set ch.toNat _).length ≤ 20
            rw [List.length_set]; exact l1
          · exact l2
          · exact l3
        · rw [if_neg (show ¬ ((x, y, e) : Int × Int × Int).2.2 = 0 from he), if_neg (show ¬ ((x, y, e) : Int × Int × Int).2.2 = 0 from he)]
          exact ⟨_, rfl, rfl, err_fits e⟩
  · rw [if_neg ho, if_neg (by decide), if_neg (by decide)]
    exact ⟨_, rfl, rfl, err_fits 1⟩
theorem black_loop (R : Int) (cs : List S34) (us hs : List Int) (lu : us.length = 16) : ∀ (n i k : Nat) (acc : List Int), i + n = 16 → acc.length ≤ i →
    ∃ r : List Int, r.length ≤ 16 ∧ quality_Black.l0 (n + 1 + k) acc us (us.length : Int) (i : Int) = some (r, 0) ∧ hopmeshref12_Black.l0 (n + 1 + k) acc (i : Int) R cs us hs = some (r, 0)
  | 0, i, k, acc, hi, ha => by
    rw [show 0 + 1 + k = k + 1 by omega]
    unfold quality_Black.l0 hopmeshref12_Black.l0
    rw [if_neg (by omega), if_neg (by omega)]
    exact ⟨acc, by omega, rfl, rfl⟩
  | n + 1, i, k, acc, hi, ha => by
    rw [show n + 1 + 1 + k = (n + 1 + k) + 1 by omega]
    unfold quality_Black.l0 hopmeshref12_Black.l0
    rw [if_pos (show (i : Int) < (us.length : Int) by omega), if_pos (show (0 : Int) ≤ (i : Int) by omega), if_pos (show (i : Int) < (us.length : Int) by omega), if_pos (show (i : Int) < 16 by omega), if_pos (show (0 : Int) ≤ (i : Int) by omega), if_pos (show (i : Int) < (us.length : Int) by omega), wrap_nat i (by omega)]
    by_cases h : rd us (i : Int) = 0
    · rw [if_pos h, if_pos h]
      exact black_loop R cs us hs lu n (i + 1) k acc (by omega) (by omega)
    · rw [if_neg h, if_neg h, if_pos (show acc.length < 17592186044416 by omega), if_pos (show acc.length < 17592186044416 by omega)]
      exact black_loop R cs us hs lu n (i + 1) k (acc ++ [(i : Int)]) (by omega) (by simp; omega)
theorem black_alike (k : Nat) (R : Int) (cs : List S34) (us hs : List Int) : ∃ (r : List Int) (e : Int), r.length ≤ 16 ∧ quality_Black.f (k + 60) R cs us hs = some (r, e) ∧ hopmeshref12_Black.f (k + 60) R cs us hs = some (r, e) := by
  have va := valid_dec (k + 40) R cs us hs
  have ra := rvalid_dec k R cs us hs
  rw [show k + 40 + 20 = k + 60 by omega] at va
  unfold quality_Black.f hopmeshref12_Black.f
  rw [va, ra, Option.bind_some, Option.bind_some]
  by_cases ho : Ok R cs us hs
  · rw [if_pos ho, if_pos rfl, if_pos rfl]
    obtain ⟨r, h1, h2, h3⟩ := black_loop R cs us hs ho.lu 16 0 (k + 43) [] rfl (Nat.le_refl _)
    rw [show 16 + 1 + (k + 43) = k + 60 by omega] at h2 h3
    exact ⟨r, 0, h1, h2, h3⟩
  · rw [if_neg ho, if_neg (by decide), if_neg (by decide)]
    exact ⟨[], 1, Nat.zero_le _, rfl, rfl⟩
theorem equal_loop (a : List Int) (h20 : a.length ≤ 16) : ∀ (n i k : Nat), i + n = a.length → slices_Equal_int_int.l0 (n + 1 + k) a a (a.length : Int) (i : Int) = some true
  | 0, i, k, hi => by
    rw [show 0 + 1 + k = k + 1 by omega]
    unfold slices_Equal_int_int.l0
    rw [if_neg (by omega)]
  | n + 1, i, k, hi => by
    rw [show n + 1 + 1 + k = (n + 1 + k) + 1 by omega]
    unfold slices_Equal_int_int.l0
    rw [if_pos (by omega), if_pos (by omega), if_pos (by omega), if_pos (by omega), if_pos rfl, wrap_nat i (by omega)]
    exact equal_loop a h20 n (i + 1) k (by omega)
theorem equal_self (k : Nat) (a : List Int) (h : a.length ≤ 16) : slices_Equal_int_int.f (k + 20) a a = some true := by
  unfold slices_Equal_int_int.f
  rw [if_pos rfl]
  have := equal_loop a h a.length 0 (k + 19 - a.length) (by omega)
  rw [show a.length + 1 + (k + 19 - a.length) = k + 20 by omega] at this
  exact this
theorem awake100 : hopmeshlaw12_awake.f 100 = some true := by kernel_rfl
theorem awake_more (k : Nat) : hopmeshlaw12_awake.f (k + 100) = some true := at_rounds hopmeshlaw12_awake.mono (by omega) awake100
theorem learns (k : Nat) (R : Int) (cs : List S34) (us hs : List Int) (m0 m1 m2 m3 ch : Int) : hopmeshlaw12_QualityLearns.f (k + 201) R cs us hs m0 m1 m2 m3 ch = some true := by
  have aw := awake_more (k + 101)
  rw [show k + 101 + 100 = k + 201 by omega] at aw
  unfold hopmeshlaw12_QualityLearns.f
  rw [aw, Option.bind_some, if_pos rfl, few_val, Option.bind_some]
  by_cases hf : cs.length ≤ 20 ∧ us.length ≤ 20 ∧ hs.length ≤ 20
  · obtain ⟨l1, l2, l3⟩ := hf
    rw [decide_eq_true ⟨l1, l2, l3⟩, if_pos rfl, copy_val R cs us hs l1 l2 l3, Option.bind_some]
    obtain ⟨⟨v0, v1, v2, v3, v4⟩, n1, n2, f1, f2, f3⟩ := note_alike (k + 140) R cs us hs ch (Int.tmod m1 2 == 0) l1 l2 l3
    rw [show k + 140 + 61 = k + 201 by omega] at n1 n2
    have c1 := PureC.closed_val (k + 1) m0 m1 m2 m3 R cs us hs l1 l2 l3
    rw [show k + 1 + 200 = k + 201 by omega] at c1
    have c2 := PureL.rclose_val k m0 m1 m2 m3 R cs us hs l1 l2 l3
    obtain ⟨g1, g2, g3⟩ := PureC.close_fits m0 m1 m2 m3 R cs us hs
    generalize PureC.closeR m0 m1 m2 m3 R cs us hs = w at c1 c2 g1 g2 g3
    obtain ⟨w0, w1, w2, w3, w4⟩ := w
    obtain ⟨r, e, h1, b1, b2⟩ := black_alike (k + 141) R cs us hs
    rw [show k + 141 + 60 = k + 201 by omega] at b1 b2
    have va := valid_dec (k + 181) R cs us hs
    have ra := rvalid_dec (k + 141) R cs us hs
    rw [show k + 181 + 20 = k + 201 by omega] at va
    rw [show k + 141 + 60 = k + 201 by omega] at ra
    have s1 := same_val (k + 131) v0 v1 v2 v3 f1 f2 f3
    have s2 := same_val (k + 131) w0 w1 w2 w3 g1 g2 g3
    rw [show k + 131 + 70 = k + 201 by omega] at s1 s2
    have q := equal_self (k + 181) r h1
    rw [show k + 181 + 20 = k + 201 by omega] at q
    rw [n1, Option.bind_some, n2, Option.bind_some, c1, Option.bind_some, c2, Option.bind_some, Option.bind_some, b1, Option.bind_some, b2, Option.bind_some, Option.bind_some, va, Option.bind_some, ra, Option.bind_some, if_pos rfl, s1, Option.bind_some, if_pos rfl, if_pos rfl, s2, Option.bind_some, if_pos rfl, if_pos rfl, q, Option.bind_some, if_pos rfl]
    simp
  · rw [decide_eq_false hf, if_neg (by decide)]
theorem learns_walk (n : Int) (A1 : Option Addr) (c1 : Nat) (l1 : List S34) (A2 : Option Addr) (c2 : Nat) (l2 : List Int) (A3 : Option Addr) (c3 : Nat) (l3 : List Int) (a b c d ch : Int) (w : World)
    (r1 : Kd.C k34 w A1 l1.length l1) (g1 : l1.length ≤ c1) (r2 : Kd.C (Kd.int .i64) w A2 l2.length l2) (g2 : l2.length ≤ c2) (r3 : Kd.C (Kd.int .i64) w A3 l3.length l3) (g3 : l3.length ≤ c3) :
    Calls Try.prog 8 #[.agg #[.int .i64 n, .slice A1 l1.length c1, .slice A2 l2.length c2, .slice A3 l3.length c3], .agg #[.int .i64 a, .int .i64 b, .int .i64 c, .int .i64 d], .int .i64 ch] w fun e w' => e = .returned (.bool true) ∧ Below w.heap.size w w' :=
  hopmeshlaw12_QualityLearns.calls 301 n A1 c1 l1 A2 c2 l2 A3 c3 l3 a b c d ch true w r1 g1 r2 g2 r3 g3 (learns 100 n l1 l2 l3 a b c d ch)
end Go.Proofs.Ytnipgplobipeeaa.PureN
