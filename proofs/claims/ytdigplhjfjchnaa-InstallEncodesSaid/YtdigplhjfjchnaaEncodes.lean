/-
  The plain law InstallEncodes: the two printed Encodes and Decodes answer alike, and each undoes the other. No condition beyond the sizes that the law itself asks for.
-/
import Derived.Test.YtdigplhjfjchnaaZf7
namespace Go.Proofs.Ytdigplhjfjchnaa.PureE
open Go.RowKit Go.Proofs.Ytdigplhjfjchnaa.PQ Go.Proofs.YtdigplhjfjchnaaW.PrintWords Go.Proofs.YtdigplhjfjchnaaW.PrintLast Go.Proofs.YtdigplhjfjchnaaW.PrintMore

theorem wrap_in (n : Int) (h : -9223372036854775808 ≤ n ∧ n ≤ 9223372036854775807) : wrap64 n = n := by unfold wrap64; omega
theorem wrap_nat (i : Nat) (h : i < 1000000) : wrap64 ((i : Int) + 1) = ((i + 1 : Nat) : Int) := by rw [wrap_in _ (by omega)]; omega
theorem wrap_pred (i : Nat) (h : i < 1000000) : wrap64 (((i + 1 : Nat) : Int) - 1) = (i : Int) := by rw [wrap_in _ (by omega)]; omega
/-- What a list of nodes has to be. -/
def Step (l : List Int) (j : Nat) : Prop := 0 ≤ rd l (j : Int) ∧ rd l (j : Int) < 32 ∧ (0 < j → rd l ((j - 1 : Nat) : Int) < rd l (j : Int))
def ListOk (l : List Int) : Prop := 0 < l.length ∧ ∀ j, j < l.length → Step l j
theorem list_loop (l : List Int) (hl : l.length ≤ 40) : ∀ (n i k : Nat), i + n = l.length → (∀ j, j < i → Step l j) →
    ∃ b, install_list.l0 (n + 1 + k) l l (l.length : Int) (i : Int) = some b ∧ hopmeshref49_nodes.l0 (n + 1 + k) l (i : Int) = some b ∧ (b = true ↔ ListOk l)
  | 0, i, k, hi, h => by
    rw [show 0 + 1 + k = k + 1 by omega]
    unfold install_list.l0 hopmeshref49_nodes.l0
    rw [if_neg (by omega), if_neg (by omega)]
    refine ⟨_, rfl, rfl, ?_⟩
    rw [decide_eq_true_eq]
    exact ⟨fun h1 => ⟨by omega, fun j hj => h j (by omega)⟩, fun h1 => by have := h1.1; omega⟩
  | n + 1, i, k, hi, h => by
    rw [show n + 1 + 1 + k = (n + 1 + k) + 1 by omega]
    unfold install_list.l0 hopmeshref49_nodes.l0
    rw [if_pos (show (i : Int) < (l.length : Int) by omega), if_pos (show (0 : Int) ≤ (i : Int) by omega), if_pos (show (i : Int) < (l.length : Int) by omega), if_pos (show (i : Int) < (l.length : Int) by omega), if_pos (show (0 : Int) ≤ (i : Int) by omega), wrap_nat i (by omega)]
    have bad : ¬ Step l i → ∃ b, some false = some b ∧ some false = some b ∧ (b = true ↔ ListOk l) := fun h0 => ⟨false, rfl, rfl, fun e => (by cases e), fun e => absurd (e.2 i (by omega)) h0⟩
    have good : Step l i → ∃ b, install_list.l0 (n + 1 + k) l l (l.length : Int) ((i + 1 : Nat) : Int) = some b ∧ hopmeshref49_nodes.l0 (n + 1 + k) l ((i + 1 : Nat) : Int) = some b ∧ (b = true ↔ ListOk l) := fun h0 =>
      list_loop l hl n (i + 1) k (by omega) fun j hj => by
        rcases Nat.lt_or_ge j i with h1 | h1
        · exact h j h1
        · rw [show j = i by omega]; exact h0
    by_cases h1 : rd l (i : Int) < 0
    · rw [if_pos h1, if_pos h1]
      exact bad fun h0 => by have := h0.1; omega
    · rw [if_neg h1, if_neg h1]
      by_cases h2 : rd l (i : Int) ≥ 32
      · rw [if_pos h2, if_pos h2]
        exact bad fun h0 => by have := h0.2.1; omega
      · rw [if_neg h2, if_neg h2]
        by_cases h3 : (i : Int) > 0
        · obtain ⟨m, rfl⟩ : ∃ m, i = m + 1 := ⟨i - 1, by omega⟩
          rw [if_pos h3, if_pos h3, wrap_pred m (by omega), if_pos (show (0 : Int) ≤ (m : Int) by omega), if_pos (show (m : Int) < (l.length : Int) by omega), if_pos (show (0 : Int) ≤ (m : Int) by omega), if_pos (show (m : Int) < (l.length : Int) by omega)]
          by_cases h4 : rd l (m : Int) ≥ rd l ((m + 1 : Nat) : Int)
          · rw [if_pos h4, if_pos h4]
            exact bad fun h0 => by have := h0.2.2 (by omega); rw [Nat.add_sub_cancel] at this; omega
          · rw [if_neg h4, if_neg h4]
            exact good ⟨by omega, by omega, fun _ => by rw [Nat.add_sub_cancel]; omega⟩
        · rw [if_neg h3, if_neg h3]
          exact good ⟨by omega, by omega, fun h => by omega⟩
theorem list_val (k : Nat) (l : List Int) (hl : l.length ≤ 40) : ∃ b, install_list.f (k + 41) l = some b ∧ hopmeshref49_nodes.f (k + 41) l = some b ∧ (b = true ↔ ListOk l) := by
  unfold install_list.f hopmeshref49_nodes.f
  have := list_loop l hl l.length 0 (k + 40 - l.length) (by omega) (fun j hj => absurd hj (Nat.not_lt_zero _))
  rw [show l.length + 1 + (k + 40 - l.length) = k + 41 by omega] at this
  exact this
/-- What a command has to be. -/
structure CmdOk (n kind slot : Int) (id : ByteArray) (l : List Int) : Prop where
  n : 1 ≤ n ∧ n ≤ 1048576
  kind : kind = 1 ∧ 1 ≤ slot ∧ slot ≤ 1073741824 ∨ kind = 2 ∧ slot = 0
  id : id.size = 32
  l : ListOk l
theorem beq32 (id : ByteArray) : ((id.size : Int) == 32) = decide (id.size = 32) := by
  by_cases h : id.size = 32
  · rw [decide_eq_true h]; simp [h]
  · rw [decide_eq_false h]; simp; omega
theorem mine_val (k : Nat) (n kind slot : Int) (id : ByteArray) (l : List Int) (hl : l.length ≤ 40) : ∃ b, install_command.f (k + 42) n kind slot id l = some b ∧ (b = true ↔ CmdOk n kind slot id l) := by
  obtain ⟨b, hb, _, hbb⟩ := list_val (k + 1) l hl
  rw [show k + 1 + 41 = k + 42 by omega] at hb
  have stop : install_command.j0 (k + 42) true n kind slot id l = some false := by
    rw [show k + 42 = (k + 41) + 1 by omega]
    unfold install_command.j0
    rfl
  unfold install_command.f install_identifier.f
  have bad : ¬ CmdOk n kind slot id l → ∃ b, some false = some b ∧ (b = true ↔ CmdOk n kind slot id l) := fun h => ⟨false, rfl, fun e => (by cases e), fun e => absurd e h⟩
  by_cases h1 : n < 1
  · rw [if_pos h1, stop]
    exact bad fun h => by have := h.n; omega
  · rw [if_neg h1]
    by_cases h2 : n > 1048576
    · rw [if_pos h2, stop]
      exact bad fun h => by have := h.n; omega
    · rw [if_neg h2, Option.bind_some, beq32]
      by_cases h3 : id.size = 32
      · rw [decide_eq_true h3, if_pos rfl, hb, Option.bind_some]
        cases b with
        | false =>
          rw [Bool.not_false, stop]
          exact bad fun h => by have := hbb.mpr h.l; cases this
        | true =>
          have hL : ListOk l := hbb.mp rfl
          rw [show k + 42 = (k + 41) + 1 by omega]
          unfold install_command.j0
          simp only [Bool.not_true, Bool.false_eq_true, if_false]
          by_cases k1 : kind = 1
          · rw [if_pos k1]
            by_cases s1 : slot ≥ 1
            · rw [if_pos s1]
              refine ⟨_, rfl, ?_⟩
              rw [decide_eq_true_eq]
              exact ⟨fun h => ⟨by omega, .inl ⟨k1, s1, h⟩, h3, hL⟩, fun h => by rcases h.kind with h | h <;> omega⟩
            · rw [if_neg s1]
              exact bad fun h => by rcases h.kind with h | h <;> omega
          · rw [if_neg k1]
            by_cases k2 : kind = 2
            · rw [if_pos k2]
              refine ⟨_, rfl, ?_⟩
              rw [beq_iff_eq]
              exact ⟨fun h => ⟨by omega, .inr ⟨k2, h⟩, h3, hL⟩, fun h => by rcases h.kind with h | h <;> omega⟩
            · rw [if_neg k2]
              exact bad fun h => by rcases h.kind with h | h <;> omega
      · rw [decide_eq_false h3, if_neg (by decide), stop]
        exact bad fun h => h3 h.id
theorem theirs_tail (k : Nat) (n kind slot : Int) (id : ByteArray) (l : List Int) (hl : l.length ≤ 40) (hk : kind = 1 ∧ 1 ≤ slot ∧ slot ≤ 1073741824 ∨ kind = 2 ∧ slot = 0) :
    ∃ b, (if n ≥ 1 then (if n ≤ 1048576 then ((hopmeshref49_Identifier.f id).bind fun t => (if t = true then ((hopmeshref49_nodes.f (k + 41) l).bind fun t => (some t)) else (some false))) else (some false)) else (some false)) = some b ∧ (b = true ↔ CmdOk n kind slot id l) := by
  have bad : ¬ CmdOk n kind slot id l → ∃ b, some false = some b ∧ (b = true ↔ CmdOk n kind slot id l) := fun h => ⟨false, rfl, fun e => (by cases e), fun e => absurd e h⟩
  obtain ⟨b, _, hb, hbb⟩ := list_val k l hl
  by_cases h1 : n ≥ 1
  · rw [if_pos h1]
    by_cases h2 : n ≤ 1048576
    · rw [if_pos h2]
      unfold hopmeshref49_Identifier.f
      rw [Option.bind_some, beq32]
      by_cases h3 : id.size = 32
      · rw [decide_eq_true h3, if_pos rfl, hb, Option.bind_some]
        exact ⟨b, rfl, fun e => ⟨⟨h1, h2⟩, hk, h3, hbb.mp e⟩, fun e => hbb.mpr e.l⟩
      · rw [decide_eq_false h3, if_neg (by decide)]
        exact bad fun h => h3 h.id
    · rw [if_neg h2]
      exact bad fun h => by have := h.n; omega
  · rw [if_neg h1]
    exact bad fun h => by have := h.n; omega
theorem theirs_val (k : Nat) (n kind slot : Int) (id : ByteArray) (l : List Int) (hl : l.length ≤ 40) : ∃ b, hopmeshref49_Command.f (k + 41) n kind slot id l = some b ∧ (b = true ↔ CmdOk n kind slot id l) := by
  have bad : ¬ CmdOk n kind slot id l → ∃ b, some false = some b ∧ (b = true ↔ CmdOk n kind slot id l) := fun h => ⟨false, rfl, fun e => (by cases e), fun e => absurd e h⟩
  unfold hopmeshref49_Command.f
  by_cases k1 : kind = 1
  · have k2 : ¬ kind = 2 := by omega
    simp only [if_pos k1, if_neg k2]
    by_cases s1 : slot ≥ 1
    · rw [if_pos s1]
      by_cases s2 : slot ≤ 1073741824
      · rw [if_pos s2]
        exact theirs_tail k n kind slot id l hl (.inl ⟨k1, s1, s2⟩)
      · rw [if_neg s2]
        exact bad fun h => by rcases h.kind with h | h <;> omega
    · rw [if_neg s1]
      exact bad fun h => by rcases h.kind with h | h <;> omega
  · simp only [if_neg k1]
    by_cases k2 : kind = 2
    · simp only [if_pos k2]
      by_cases s0 : slot = 0
      · simp only [if_pos s0]
        exact theirs_tail k n kind slot id l hl (.inr ⟨k2, s0⟩)
      · simp only [if_neg s0]
        exact bad fun h => by rcases h.kind with h | h <;> omega
    · simp only [if_neg k2]
      exact bad fun h => by rcases h.kind with h | h <;> omega
theorem cmd_val (k : Nat) (n kind slot : Int) (id : ByteArray) (l : List Int) (hl : l.length ≤ 40) : ∃ b, install_command.f (k + 42) n kind slot id l = some b ∧ hopmeshref49_Command.f (k + 42) n kind slot id l = some b ∧ (b = true ↔ CmdOk n kind slot id l) := by
  obtain ⟨b, h1, e1⟩ := mine_val k n kind slot id l hl
  obtain ⟨c, h2, e2⟩ := theirs_val (k + 1) n kind slot id l hl
  rw [show k + 1 + 41 = k + 42 by omega] at h2
  have : b = c := by
    cases b <;> cases c
    · rfl
    · exact absurd (e1.mpr (e2.mp rfl)) (by decide)
    · exact absurd (e2.mpr (e1.mp rfl)) (by decide)
    · rfl
  exact ⟨b, h1, by rw [this]; exact h2, e1⟩
/-! ### Numbers and bytes -/
theorem shr0 (n : Int) : shr .i64 n 0 = n := by unfold shr; simp
theorem shr8 (n : Int) : shr .i64 n 8 = n / 256 := by unfold shr; rfl
theorem shr16 (n : Int) : shr .i64 n 16 = n / 65536 := by unfold shr; rfl
theorem shr24 (n : Int) : shr .i64 n 24 = n / 16777216 := by unfold shr; rfl
def b1 (n : Int) : List Int := [shr .i64 n 0 % 256]
def b3 (n : Int) : List Int := [shr .i64 n 16 % 256, shr .i64 n 8 % 256, shr .i64 n 0 % 256]
def b4 (n : Int) : List Int := [shr .i64 n 24 % 256, shr .i64 n 16 % 256, shr .i64 n 8 % 256, shr .i64 n 0 % 256]
theorem num1 (k : Nat) (n : Int) : install_number.f (k + 10) n 1 = some (strOfNums (b1 n)) := by kernel_rfl
theorem num3 (k : Nat) (n : Int) : install_number.f (k + 10) n 3 = some (strOfNums (b3 n)) := by kernel_rfl
theorem num4 (k : Nat) (n : Int) : install_number.f (k + 10) n 4 = some (strOfNums (b4 n)) := by kernel_rfl
theorem byt1 (k : Nat) (n : Int) : hopmeshref49_bytes.f (k + 10) n 1 = some (strOfNums (b1 n)) := by kernel_rfl
theorem byt3 (k : Nat) (n : Int) : hopmeshref49_bytes.f (k + 10) n 3 = some (strOfNums (b3 n)) := by kernel_rfl
theorem byt4 (k : Nat) (n : Int) : hopmeshref49_bytes.f (k + 10) n 4 = some (strOfNums (b4 n)) := by kernel_rfl
theorem wraps_i64 (n : Int) (h₀ : 0 ≤ n) (h₁ : n < 2 ^ 63) : IntKind.i64.wrap n = n := by rw [IntKind.wrap_i64]; omega
theorem or_val (a b : Nat) (ha : a < 2 ^ 63) (hb : b < 2 ^ 63) : Go.bits .or .i64 (a : Int) (b : Int) = ((a ||| b : Nat) : Int) := (bits_nat .i64 63 (by decide) wraps_i64 a b ha hb).2
theorem join_val (m b : Nat) (hm : m < 16777216) (hb : b < 256) : Go.bits .or .i64 (wrap64 ((m : Int) * 256)) (wrap64 (b : Int)) = ((m * 256 + b : Nat) : Int) := by
  rw [wrap_in _ (by omega), wrap_in _ (by omega), bits_join .i64 63 (by decide) wraps_i64 8 ((m : Int) * 256) (b : Int) (by omega) (by omega) (by omega) (by omega) (by omega) (by omega)]
  omega
def numN (l : List UInt8) (m : Nat) : Nat := l.foldl (fun n b => n * 256 + b.toNat) m
theorem bt_val (s : ByteArray) (i : Nat) (h : i < s.data.toList.length) : bt s (i : Int) = ((s.data.toList[i].toNat : Nat) : Int) := by
  have h' : ((i : Nat) : Int).toNat < s.size := by rw [show ((i : Nat) : Int).toNat = i by omega]; simpa using h
  unfold bt
  rw [dif_pos h']
  have e : ((i : Nat) : Int).toNat = i := by omega
  simp only [e]
  rfl
theorem value_loop (s : ByteArray) (hs : s.size ≤ 4) : ∀ (n i k m : Nat), i + n = s.size → m < 256 ^ i →
    install_value.l0 (n + 1 + k) s (m : Int) (s.size : Int) (i : Int) = some ((numN (s.data.toList.drop i) m : Nat) : Int) ∧ hopmeshref49_number.l0 (n + 1 + k) s (m : Int) (i : Int) = some ((numN (s.data.toList.drop i) m : Nat) : Int)
  | 0, i, k, m, hi, hm => by
    have hl : s.data.toList.length = s.size := rfl
    rw [show 0 + 1 + k = k + 1 by omega]
    unfold install_value.l0 hopmeshref49_number.l0
    rw [if_neg (by omega), if_neg (by omega), List.drop_eq_nil_of_le (by omega)]
    exact ⟨rfl, rfl⟩
  | n + 1, i, k, m, hi, hm => by
    have hl : s.data.toList.length = s.size := rfl
    have h3 : 256 ^ i ≤ 256 ^ 3 := Nat.pow_le_pow_right (by decide) (by omega)
    have hb : s.data.toList[i].toNat < 256 := UInt8.toNat_lt _
    have ih := value_loop s hs n (i + 1) k (m * 256 + s.data.toList[i].toNat) (by omega) (by rw [Nat.pow_succ]; omega)
    have hd : s.data.toList.drop i = s.data.toList[i] :: s.data.toList.drop (i + 1) := List.drop_eq_getElem_cons (by omega)
    rw [show n + 1 + 1 + k = (n + 1 + k) + 1 by omega]
    unfold install_value.l0 hopmeshref49_number.l0
    rw [if_pos (show (i : Int) < (s.size : Int) by omega), if_pos (show (0 : Int) ≤ (i : Int) by omega), if_pos (show (i : Int) < (s.size : Int) by omega), if_pos (show (i : Int) < (s.size : Int) by omega), if_pos (show (0 : Int) ≤ (i : Int) by omega), wrap_nat i (by omega), bt_val s i (by omega), join_val m _ (by omega) hb, hd]
    exact ih
theorem value_val (k : Nat) (s : ByteArray) (hs : s.size ≤ 4) : install_value.f (k + 10) s = some ((numN s.data.toList 0 : Nat) : Int) ∧ hopmeshref49_number.f (k + 10) s = some ((numN s.data.toList 0 : Nat) : Int) := by
  have := value_loop s hs s.size 0 (k + 9 - s.size) 0 (by omega) (by decide)
  rw [show s.size + 1 + (k + 9 - s.size) = k + 10 by omega, List.drop_zero] at this
  exact this
/-! ### The nodes as bits -/
def mask : List Int → Nat → Nat
  | [], m => m
  | a :: t, m => mask t (m ||| 2 ^ a.toNat)
theorem shl_val : ∀ a : Fin 32, shl .i64 1 ((a.val : Nat) : Int) = ((2 ^ a.val : Nat) : Int) := by decide +kernel
theorem or_lt (m a : Nat) (hm : m < 2 ^ 32) (ha : a < 32) : m ||| 2 ^ a < 2 ^ 32 := Nat.or_lt_two_pow hm (Nat.pow_lt_pow_right (by decide) ha)
theorem mask_lt : ∀ (l : List Int) (m : Nat), m < 2 ^ 32 → (∀ x ∈ l, 0 ≤ x ∧ x < 32) → mask l m < 2 ^ 32
  | [], m, hm, _ => hm
  | a :: t, m, hm, h => mask_lt t _ (or_lt m a.toNat hm (by have := h a List.mem_cons_self; omega)) fun x hx => h x (List.mem_cons_of_mem _ hx)
def Enc (n kind slot : Int) (id : ByteArray) (m : Nat) : ByteArray := (((strOfNums (b1 kind) ++ strOfNums (b3 n)) ++ strOfNums (b4 slot)) ++ id) ++ strOfNums (b4 (m : Int))
theorem size1 (x : Int) : (strOfNums (b1 x)).size = 1 := by rw [strOfNums_size]; rfl
theorem size3 (x : Int) : (strOfNums (b3 x)).size = 3 := by rw [strOfNums_size]; rfl
theorem size4 (x : Int) : (strOfNums (b4 x)).size = 4 := by rw [strOfNums_size]; rfl
theorem rd_at (l : List Int) (i : Nat) (h : i < l.length) : rd l (i : Int) = l[i] := by
  unfold rd
  rw [List.getD_eq_getElem?_getD, show ((i : Nat) : Int).toNat = i by omega, List.getElem?_eq_getElem h]
  rfl
theorem encode_loop (n kind slot : Int) (id : ByteArray) (l : List Int) (hid : id.size = 32) (hl : l.length ≤ 40) (hr : ∀ x ∈ l, 0 ≤ x ∧ x < 32) : ∀ (c i k m : Nat), i + c = l.length → m < 2 ^ 32 →
    install_Encode.l0 (c + 1 + (k + 10)) (m : Int) l (l.length : Int) (i : Int) n kind slot id l = some (Enc n kind slot id (mask (l.drop i) m), 0) ∧ hopmeshref49_Encode.l0 (c + 1 + (k + 10)) (m : Int) (i : Int) n kind slot id l = some (Enc n kind slot id (mask (l.drop i) m), 0)
  | 0, i, k, m, hi, hm => by
    rw [show 0 + 1 + (k + 10) = (k + 10) + 1 by omega, List.drop_eq_nil_of_le (by omega)]
    unfold install_Encode.l0 hopmeshref49_Encode.l0
    rw [if_neg (by omega), if_neg (by omega), num1, num3, num4, num4, byt1, byt3, byt4, byt4]
    simp only [Option.bind_some]
    have c1 : (strOfNums (b1 kind)).size + (strOfNums (b3 n)).size ≤ 9223372036854775807 := by rw [size1, size3]; decide
    have c2 : (strOfNums (b1 kind) ++ strOfNums (b3 n)).size + (strOfNums (b4 slot)).size ≤ 9223372036854775807 := by rw [ByteArray.size_append, size1, size3, size4]; decide
    have c3 : ((strOfNums (b1 kind) ++ strOfNums (b3 n)) ++ strOfNums (b4 slot)).size + id.size ≤ 9223372036854775807 := by rw [ByteArray.size_append, ByteArray.size_append, size1, size3, size4, hid]; decide
    have c4 : (((strOfNums (b1 kind) ++ strOfNums (b3 n)) ++ strOfNums (b4 slot)) ++ id).size + (strOfNums (b4 (m : Int))).size ≤ 9223372036854775807 := by rw [ByteArray.size_append, ByteArray.size_append, ByteArray.size_append, size1, size3, size4, size4, hid]; decide
    rw [if_pos c1, if_pos c2, if_pos c3, if_pos c4]
    exact ⟨rfl, rfl⟩
  | c + 1, i, k, m, hi, hm => by
    have hx := hr l[i] (List.getElem_mem _)
    have hd : l.drop i = l[i] :: l.drop (i + 1) := List.drop_eq_getElem_cons (by omega)
    have hs : shl .i64 1 l[i] = ((2 ^ l[i].toNat : Nat) : Int) := by
      have h := shl_val ⟨l[i].toNat, by omega⟩
      rw [show (((⟨l[i].toNat, by omega⟩ : Fin 32).val : Nat) : Int) = l[i] from by show ((l[i].toNat : Nat) : Int) = l[i]; omega] at h
      exact h
    have hp : (2 : Nat) ^ l[i].toNat < 2 ^ 32 := Nat.pow_lt_pow_right (by decide) (by omega)
    have ih := encode_loop n kind slot id l hid hl hr c (i + 1) k (m ||| 2 ^ l[i].toNat) (by omega) (or_lt m _ hm (by omega))
    rw [show c + 1 + 1 + (k + 10) = (c + 1 + (k + 10)) + 1 by omega]
    unfold install_Encode.l0 hopmeshref49_Encode.l0
    rw [rd_at l i (by omega), if_pos (show (i : Int) < (l.length : Int) by omega), if_pos (show (0 : Int) ≤ (i : Int) by omega), if_pos (show (i : Int) < (l.length : Int) by omega), if_pos hx.1, if_pos (show (i : Int) < (l.length : Int) by omega), if_pos (show (0 : Int) ≤ (i : Int) by omega), if_pos hx.1, wrap_nat i (by omega), hs, or_val m _ (by omega) (by omega), hd]
    exact ih
theorem in_range (l : List Int) (h : ListOk l) : ∀ x ∈ l, 0 ≤ x ∧ x < 32 := by
  intro x hx
  obtain ⟨i, hi, rfl⟩ := List.mem_iff_getElem.1 hx
  have := h.2 i hi
  unfold Step at this
  rw [rd_at l i hi] at this
  exact ⟨this.1, this.2.1⟩
/-- Encode, in one word. -/
theorem encode_val (k : Nat) (n kind slot : Int) (id : ByteArray) (l : List Int) (hl : l.length ≤ 40) :
    (CmdOk n kind slot id l ∧ install_Encode.f (k + 60) n kind slot id l = some (Enc n kind slot id (mask l 0), 0) ∧ hopmeshref49_Encode.f (k + 60) n kind slot id l = some (Enc n kind slot id (mask l 0), 0)) ∨
    (¬ CmdOk n kind slot id l ∧ install_Encode.f (k + 60) n kind slot id l = some (⟨#[]⟩, 1) ∧ hopmeshref49_Encode.f (k + 60) n kind slot id l = some (⟨#[]⟩, 1)) := by
  obtain ⟨b, h1, h2, hb⟩ := cmd_val (k + 18) n kind slot id l hl
  rw [show k + 18 + 42 = k + 60 by omega] at h1 h2
  unfold install_Encode.f hopmeshref49_Encode.f
  rw [h1, h2]
  simp only [Option.bind_some]
  cases b with
  | true =>
    have ok := hb.mp rfl
    have := encode_loop n kind slot id l ok.id hl (in_range l ok.l) l.length 0 (k + 49 - l.length) 0 (by omega) (by decide)
    rw [show l.length + 1 + (k + 49 - l.length + 10) = k + 60 by omega, List.drop_zero] at this
    exact .inl ⟨ok, this⟩
  | false => exact .inr ⟨fun h => (by have := hb.mpr h; cases this), rfl, rfl⟩
/-- The nodes that bits name, from i on. -/
def sel (p : Nat → Bool) : Nat → Nat → List Int
  | 0, _ => []
  | n + 1, i => if p i = true then (i : Int) :: sel p n (i + 1) else sel p n (i + 1)
theorem bit_val (b i : Nat) (hb : b < 2 ^ 32) (hi : i < 32) : (Go.bits .and .i64 (shr .i64 (b : Int) (i : Int)) 1 = 1) ↔ b.testBit i = true := by
  have e1 : shr .i64 (b : Int) (i : Int) = ((b / 2 ^ i : Nat) : Int) := by
    unfold shr
    rw [Nat.min_eq_left (by show ((i : Nat) : Int).toNat ≤ 64; omega), show ((i : Nat) : Int).toNat = i by omega]
    simp
  have hlt : b / 2 ^ i < 2 ^ 63 := Nat.lt_of_le_of_lt (Nat.div_le_self _ _) (by omega)
  have e2 := bits_mask .i64 63 (by decide) wraps_i64 1 (by decide) ((b / 2 ^ i : Nat) : Int) (Int.natCast_nonneg _) (by exact_mod_cast hlt)
  rw [show ((2 : Int) ^ 1 - 1) = 1 from rfl, show ((2 : Int) ^ 1) = 2 from rfl] at e2
  rw [e1, e2, Nat.testBit_eq_decide_div_mod_eq, decide_eq_true_eq]
  omega
def dec (t : Bool) (n kind slot : Int) (id : ByteArray) (l : List Int) : Option (Int × Int × Int × ByteArray × List Int × Int) := if t = true then some (n, kind, slot, id, l, 0) else some (0, 0, 0, ⟨#[]⟩, [], 10)
theorem decode_loop (b : Nat) (hb : b < 2 ^ 32) (x0 x1 x2 : Int) (id : ByteArray) : ∀ (n i k : Nat) (acc : List Int), i + n = 32 → acc.length ≤ i →
    install_Decode.l0 (n + 1 + k) (b : Int) (i : Int) x0 x1 x2 id acc = (install_command.f k x0 x1 x2 id (acc ++ sel b.testBit n i)).bind (fun t => dec t x0 x1 x2 id (acc ++ sel b.testBit n i)) ∧
    hopmeshref49_Decode.l0 (n + 1 + k) (b : Int) (i : Int) x0 x1 x2 id acc = (hopmeshref49_Command.f k x0 x1 x2 id (acc ++ sel b.testBit n i)).bind (fun t => dec t x0 x1 x2 id (acc ++ sel b.testBit n i))
  | 0, i, k, acc, hi, ha => by
    rw [show 0 + 1 + k = k + 1 by omega]
    unfold install_Decode.l0 hopmeshref49_Decode.l0 sel
    rw [if_neg (by omega), if_neg (by omega), List.append_nil]
    exact ⟨rfl, rfl⟩
  | n + 1, i, k, acc, hi, ha => by
    rw [show n + 1 + 1 + k = (n + 1 + k) + 1 by omega]
    unfold install_Decode.l0 hopmeshref49_Decode.l0 sel
    rw [if_pos (show (i : Int) < 32 by omega), if_pos (show (0 : Int) ≤ (i : Int) by omega), if_pos (show (i : Int) < 32 by omega), if_pos (show (0 : Int) ≤ (i : Int) by omega), wrap_nat i (by omega)]
    by_cases h : b.testBit i = true
    · have hv := (bit_val b i hb (by omega)).mpr h
      rw [if_pos hv, if_pos hv, if_pos (show acc.length < 17592186044416 by omega), if_pos (show acc.length < 17592186044416 by omega), if_pos h]
      have := decode_loop b hb x0 x1 x2 id n (i + 1) k (acc ++ [(i : Int)]) (by omega) (by simp; omega)
      rw [List.append_assoc] at this
      exact this
    · have hv : ¬ _ := fun e => h ((bit_val b i hb (by omega)).mp e)
      rw [if_neg hv, if_neg hv, if_neg h]
      exact decode_loop b hb x0 x1 x2 id n (i + 1) k acc (by omega) (by omega)
theorem sel_range (p : Nat → Bool) : ∀ (n i : Nat), i + n = 32 → ∀ x ∈ sel p n i, (i : Int) ≤ x ∧ x < 32
  | 0, i, hi, x, hx => by cases hx
  | n + 1, i, hi, x, hx => by
    unfold sel at hx
    split at hx
    · rcases List.mem_cons.mp hx with h | h
      · omega
      · have := sel_range p n (i + 1) (by omega) x h
        omega
    · have := sel_range p n (i + 1) (by omega) x hx
      omega
theorem sel_mem (p : Nat → Bool) (j : Nat) : ∀ (n i : Nat), (j : Int) ∈ sel p n i ↔ i ≤ j ∧ j < i + n ∧ p j = true
  | 0, i => by simp [sel]; omega
  | n + 1, i => by
    have ih := sel_mem p j n (i + 1)
    unfold sel
    by_cases h : p i = true
    · rw [if_pos h, List.mem_cons, ih]
      constructor
      · rintro (a | ⟨a, b, c⟩)
        · have : j = i := by omega
          subst this
          exact ⟨Nat.le_refl _, by omega, h⟩
        · exact ⟨by omega, by omega, c⟩
      · rintro ⟨a, b, c⟩
        rcases Nat.lt_or_ge i j with h1 | h1
        · exact .inr ⟨by omega, by omega, c⟩
        · exact .inl (by omega)
    · rw [if_neg h, ih]
      constructor
      · rintro ⟨a, b, c⟩; exact ⟨by omega, by omega, c⟩
      · rintro ⟨a, b, c⟩
        refine ⟨?_, by omega, c⟩
        rcases Nat.lt_or_ge i j with h1 | h1
        · omega
        · rw [show j = i by omega] at c
          exact absurd c h
theorem sel_len (p : Nat → Bool) : ∀ (n i : Nat), (sel p n i).length ≤ n
  | 0, _ => Nat.le_refl _
  | n + 1, i => by
    unfold sel
    have := sel_len p n (i + 1)
    split
    · simp; omega
    · omega
/-- A list that rises, all of it between i and 32, is what its own members name. -/
theorem sel_self (p : Nat → Bool) : ∀ (n i : Nat) (l : List Int), i + n = 32 → List.Pairwise (· < ·) l → (∀ x ∈ l, (i : Int) ≤ x ∧ x < 32) → (∀ j, i ≤ j → j < 32 → (p j = true ↔ (j : Int) ∈ l)) → sel p n i = l
  | 0, i, l, hi, hp, hr, hm => by
    cases l with
    | nil => rfl
    | cons a t => have := hr a List.mem_cons_self; omega
  | n + 1, i, l, hi, hp, hr, hm => by
    unfold sel
    cases l with
    | nil =>
      have : ¬ p i = true := fun h => by have := (hm i (Nat.le_refl _) (by omega)).mp h; cases this
      rw [if_neg this]
      exact sel_self p n (i + 1) [] (by omega) hp (fun x hx => by cases hx) fun j h1 h2 => hm j (by omega) h2
    | cons a t =>
      obtain ⟨ha, hp2⟩ := List.pairwise_cons.mp hp
      have h0 := hr a List.mem_cons_self
      by_cases hai : a = (i : Int)
      · have : p i = true := (hm i (Nat.le_refl _) (by omega)).mpr (by rw [hai]; exact List.mem_cons_self)
        rw [if_pos this, hai]
        refine congrArg _ (sel_self p n (i + 1) t (by omega) hp2 (fun x hx => ?_) fun j h1 h2 => ?_)
        · have := ha x hx
          have := hr x (List.mem_cons_of_mem _ hx)
          omega
        · rw [hm j (by omega) h2, List.mem_cons]
          exact ⟨fun h => h.resolve_left (by omega), .inr⟩
      · have : ¬ p i = true := fun h => by
          rcases List.mem_cons.mp ((hm i (Nat.le_refl _) (by omega)).mp h) with h1 | h1
          · omega
          · have := ha _ h1; omega
        rw [if_neg this]
        refine sel_self p n (i + 1) (a :: t) (by omega) hp (fun x hx => ?_) fun j h1 h2 => hm j (by omega) h2
        have h1 := hr x hx
        rcases List.mem_cons.mp hx with h2 | h2
        · omega
        · have := ha x h2; omega
theorem rises (l : List Int) (h : ListOk l) : List.Pairwise (· < ·) l := by
  rw [List.pairwise_iff_getElem]
  intro i j hi hj hij
  have key : ∀ d, i + d + 1 < l.length + 0 → l[i]'hi < rd l ((i + d + 1 : Nat) : Int) := by
    intro d
    induction d with
    | zero =>
      intro hd
      have := (h.2 (i + 1) (by omega)).2.2 (by omega)
      rw [Nat.add_sub_cancel, rd_at l i hi] at this
      exact this
    | succ d ih =>
      intro hd
      have h1 := ih (by omega)
      have h2 := (h.2 (i + (d + 1) + 1) (by omega)).2.2 (by omega)
      rw [Nat.add_sub_cancel] at h2
      exact Int.lt_trans h1 h2
  have := key (j - i - 1) (by omega)
  rw [show i + (j - i - 1) + 1 = j by omega, rd_at l j hj] at this
  exact this
theorem list_ok (l : List Int) (h0 : 0 < l.length) (hr : ∀ x ∈ l, 0 ≤ x ∧ x < 32) (hp : List.Pairwise (· < ·) l) : ListOk l := by
  refine ⟨h0, fun j hj => ?_⟩
  have := hr l[j] (List.getElem_mem _)
  unfold Step
  rw [rd_at l j hj]
  refine ⟨this.1, this.2, fun hj0 => ?_⟩
  rw [rd_at l (j - 1) (by omega)]
  exact List.pairwise_iff_getElem.mp hp (j - 1) j (by omega) hj (by omega)
theorem mask_bit (j : Nat) (hj : j < 32) : ∀ (l : List Int) (m : Nat), (∀ x ∈ l, 0 ≤ x ∧ x < 32) → ((mask l m).testBit j = true ↔ m.testBit j = true ∨ (j : Int) ∈ l)
  | [], m, _ => by simp [mask]
  | a :: t, m, h => by
    have ha := h a List.mem_cons_self
    unfold mask
    rw [mask_bit j hj t _ fun x hx => h x (List.mem_cons_of_mem _ hx), Nat.testBit_or, Nat.testBit_two_pow, Bool.or_eq_true, decide_eq_true_eq, List.mem_cons]
    have e : a.toNat = j ↔ (j : Int) = a := by omega
    rw [e, or_assoc]
/-- Decode's nodes out of Encode's bits. -/
theorem nodes_back (l : List Int) (h : ListOk l) : sel (mask l 0).testBit 32 0 = l :=
  sel_self _ 32 0 l rfl (rises l h) (fun x hx => by have := in_range l h x hx; omega) fun j _ hj => by
    rw [mask_bit j hj l 0 (in_range l h)]
    simp
/-- Encode's bits out of Decode's nodes. -/
theorem bits_back (b : Nat) (hb : b < 2 ^ 32) : mask (sel b.testBit 32 0) 0 = b := by
  have hr : ∀ x ∈ sel b.testBit 32 0, 0 ≤ x ∧ x < 32 := fun x hx => by have := sel_range b.testBit 32 0 rfl x hx; omega
  refine Nat.eq_of_testBit_eq fun j => ?_
  rcases Nat.lt_or_ge j 32 with hj | hj
  · have e := mask_bit j hj (sel b.testBit 32 0) 0 hr
    rw [sel_mem] at e
    have : (mask (sel b.testBit 32 0) 0).testBit j = true ↔ b.testBit j = true := by
      rw [e]
      simp [hj]
    exact Bool.eq_iff_iff.mpr this
  · rw [Nat.testBit_lt_two_pow (Nat.lt_of_lt_of_le (mask_lt _ 0 (by decide) hr) (Nat.pow_le_pow_right (by decide) hj)), Nat.testBit_lt_two_pow (Nat.lt_of_lt_of_le hb (Nat.pow_le_pow_right (by decide) hj))]
/-! ### Bytes there and back -/
theorem numN_lt : ∀ (l : List UInt8) (m : Nat), numN l m < (m + 1) * 256 ^ l.length
  | [], m => by simp [numN]
  | a :: t, m => by
    have h := numN_lt t (m * 256 + a.toNat)
    have ha : a.toNat < 256 := UInt8.toNat_lt _
    refine Nat.lt_of_lt_of_le h ?_
    rw [List.length_cons, Nat.pow_succ, Nat.mul_comm (256 ^ t.length) 256, ← Nat.mul_assoc]
    exact Nat.mul_le_mul_right _ (by omega)
theorem ext_list {x y : ByteArray} (h : x.data.toList = y.data.toList) : x = y := by
  cases x with | mk a => cases y with | mk b => exact congrArg ByteArray.mk (Array.toList_inj.mp h)
theorem back1 (x : Int) (h : 0 ≤ x ∧ x < 256) : ((numN (strOfNums (b1 x)).data.toList 0 : Nat) : Int) = x := by
  rw [strOfNums_data]
  simp only [b1, List.map_cons, List.map_nil, numN, List.foldl_cons, List.foldl_nil, UInt8.toNat_ofNat', shr0]
  omega
theorem back3 (x : Int) (h : 0 ≤ x ∧ x < 16777216) : ((numN (strOfNums (b3 x)).data.toList 0 : Nat) : Int) = x := by
  rw [strOfNums_data]
  simp only [b3, List.map_cons, List.map_nil, numN, List.foldl_cons, List.foldl_nil, UInt8.toNat_ofNat', shr0, shr8, shr16]
  omega
theorem back4 (x : Int) (h : 0 ≤ x ∧ x < 4294967296) : ((numN (strOfNums (b4 x)).data.toList 0 : Nat) : Int) = x := by
  rw [strOfNums_data]
  simp only [b4, List.map_cons, List.map_nil, numN, List.foldl_cons, List.foldl_nil, UInt8.toNat_ofNat', shr0, shr8, shr16, shr24]
  omega
theorem of_toNat (u : UInt8) (x : Int) (h : x = (u.toNat : Int)) : UInt8.ofNat x.toNat = u := by
  subst h
  rw [Int.toNat_natCast, UInt8.ofNat_toNat]
theorem again1 (s : ByteArray) (h : s.data.toList.length = 1) : strOfNums (b1 ((numN s.data.toList 0 : Nat) : Int)) = s := by
  obtain ⟨a, ha⟩ := List.length_eq_one_iff.mp h
  refine ext_list ?_
  rw [strOfNums_data, ha]
  have h0 : a.toNat < 256 := UInt8.toNat_lt _
  simp only [b1, List.map_cons, List.map_nil, numN, List.foldl_cons, List.foldl_nil, shr0]
  rw [of_toNat a _ (by omega)]
theorem three {α : Type} : ∀ (l : List α), l.length = 3 → ∃ a b c, l = [a, b, c]
  | [a, b, c], _ => ⟨a, b, c, rfl⟩
theorem again3 (s : ByteArray) (h : s.data.toList.length = 3) : strOfNums (b3 ((numN s.data.toList 0 : Nat) : Int)) = s := by
  obtain ⟨a, b, c, ha⟩ := three _ h
  refine ext_list ?_
  rw [strOfNums_data, ha]
  have h0 : a.toNat < 256 := UInt8.toNat_lt _
  have h1 : b.toNat < 256 := UInt8.toNat_lt _
  have h2 : c.toNat < 256 := UInt8.toNat_lt _
  simp only [b3, List.map_cons, List.map_nil, numN, List.foldl_cons, List.foldl_nil, shr0, shr8, shr16]
  rw [of_toNat a _ (by omega), of_toNat b _ (by omega), of_toNat c _ (by omega)]
theorem four {α : Type} : ∀ (l : List α), l.length = 4 → ∃ a b c d, l = [a, b, c, d]
  | [a, b, c, d], _ => ⟨a, b, c, d, rfl⟩
theorem again4 (s : ByteArray) (h : s.data.toList.length = 4) : strOfNums (b4 ((numN s.data.toList 0 : Nat) : Int)) = s := by
  obtain ⟨a, b, c, d, ha⟩ := four _ h
  refine ext_list ?_
  rw [strOfNums_data, ha]
  have h0 : a.toNat < 256 := UInt8.toNat_lt _
  have h1 : b.toNat < 256 := UInt8.toNat_lt _
  have h2 : c.toNat < 256 := UInt8.toNat_lt _
  have h3 : d.toNat < 256 := UInt8.toNat_lt _
  simp only [b4, List.map_cons, List.map_nil, numN, List.foldl_cons, List.foldl_nil, shr0, shr8, shr16, shr24]
  rw [of_toNat a _ (by omega), of_toNat b _ (by omega), of_toNat c _ (by omega), of_toNat d _ (by omega)]
theorem part (s : ByteArray) (i j : Nat) : (s.extract i j).data.toList = (s.data.toList.drop i).take (j - i) := by
  rw [ByteArray.data_extract, Array.toList_extract, List.extract_eq_take_drop]
theorem enc_list (n kind slot : Int) (id : ByteArray) (m : Nat) : (Enc n kind slot id m).data.toList = (strOfNums (b1 kind)).data.toList ++ ((strOfNums (b3 n)).data.toList ++ ((strOfNums (b4 slot)).data.toList ++ (id.data.toList ++ (strOfNums (b4 (m : Int))).data.toList))) := by
  unfold Enc
  simp only [ByteArray.data_append, Array.toList_append, List.append_assoc]
theorem enc_size (n kind slot : Int) (id : ByteArray) (m : Nat) (h : id.size = 32) : (Enc n kind slot id m).size = 44 := by
  unfold Enc
  simp only [ByteArray.size_append, size1, size3, size4, h]
abbrev Cmd : Type := Int × Int × Int × ByteArray × List Int × Int
/-- What Decode reads in 44 bytes. -/
def K (s : ByteArray) : Int := ((numN (s.extract 0 1).data.toList 0 : Nat) : Int)
def Nn (s : ByteArray) : Int := ((numN (s.extract 1 4).data.toList 0 : Nat) : Int)
def Sl (s : ByteArray) : Int := ((numN (s.extract 4 8).data.toList 0 : Nat) : Int)
def Bi (s : ByteArray) : Nat := numN (s.extract 40 s.size).data.toList 0
def No (s : ByteArray) : List Int := sel (Bi s).testBit 32 0
theorem part_size (s : ByteArray) (h : s.size = 44) : (s.extract 0 1).data.toList.length = 1 ∧ (s.extract 1 4).data.toList.length = 3 ∧ (s.extract 4 8).data.toList.length = 4 ∧ (s.extract 40 s.size).data.toList.length = 4 := by
  have hl : s.data.toList.length = 44 := h
  simp only [part, List.length_take, List.length_drop, hl, h]
  decide
theorem bi_lt (s : ByteArray) (h : s.size = 44) : Bi s < 2 ^ 32 := by
  have := numN_lt (s.extract 40 s.size).data.toList 0
  rw [(part_size s h).2.2.2] at this
  exact this
theorem decode_val (k : Nat) (s : ByteArray) :
    (s.size = 44 ∧ CmdOk (Nn s) (K s) (Sl s) (s.extract 8 40) (No s) ∧ install_Decode.f (k + 100) s = some (Nn s, K s, Sl s, s.extract 8 40, No s, 0) ∧ hopmeshref49_Decode.f (k + 100) s = some (Nn s, K s, Sl s, s.extract 8 40, No s, 0)) ∨
    (¬ (s.size = 44 ∧ CmdOk (Nn s) (K s) (Sl s) (s.extract 8 40) (No s)) ∧ install_Decode.f (k + 100) s = some (0, 0, 0, ⟨#[]⟩, [], 10) ∧ hopmeshref49_Decode.f (k + 100) s = some (0, 0, 0, ⟨#[]⟩, [], 10)) := by
  unfold install_Decode.f hopmeshref49_Decode.f
  by_cases h : s.size = 44
  · have hz : (s.size : Int) = 44 := by omega
    obtain ⟨z1, z2, z3, z4⟩ := part_size s h
    have v1 := value_val (k + 90) (s.extract 0 1) (by rw [show (s.extract 0 1).size = 1 from z1]; decide)
    have v2 := value_val (k + 90) (s.extract 1 4) (by rw [show (s.extract 1 4).size = 3 from z2]; decide)
    have v3 := value_val (k + 90) (s.extract 4 8) (by rw [show (s.extract 4 8).size = 4 from z3]; decide)
    have v4 := value_val (k + 90) (s.extract 40 s.size) (by rw [show (s.extract 40 s.size).size = 4 from z4]; decide)
    rw [show k + 90 + 10 = k + 100 by omega] at v1 v2 v3 v4
    have lp := decode_loop (Bi s) (bi_lt s h) (Nn s) (K s) (Sl s) (s.extract 8 40) 32 0 (k + 67) [] rfl (Nat.le_refl _)
    rw [show 32 + 1 + (k + 67) = k + 100 by omega] at lp
    obtain ⟨b, c1, c2, hb⟩ := cmd_val (k + 25) (Nn s) (K s) (Sl s) (s.extract 8 40) ([] ++ sel (Bi s).testBit 32 0) (by have := sel_len (Bi s).testBit 32 0; simp; omega)
    rw [show k + 25 + 42 = k + 67 by omega] at c1 c2
    rw [c1, c2] at lp
    simp only [List.nil_append, Option.bind_some] at lp hb
    rw [if_pos hz, if_pos hz, if_pos (show (0 : Nat) ≤ 1 by decide), if_pos (show (1 : Int) ≤ (s.size : Int) by omega), v1.1, if_pos (show (0 : Nat) ≤ 1 by decide), if_pos (show (1 : Int) ≤ (s.size : Int) by omega), v1.2]
    simp only [Option.bind_some]
    rw [if_pos (show (1 : Nat) ≤ 4 by decide), if_pos (show (4 : Int) ≤ (s.size : Int) by omega), v2.1, if_pos (show (1 : Nat) ≤ 4 by decide), if_pos (show (4 : Int) ≤ (s.size : Int) by omega), v2.2]
    simp only [Option.bind_some]
    rw [if_pos (show (4 : Nat) ≤ 8 by decide), if_pos (show (8 : Int) ≤ (s.size : Int) by omega), v3.1, if_pos (show (4 : Nat) ≤ 8 by decide), if_pos (show (8 : Int) ≤ (s.size : Int) by omega), v3.2]
    simp only [Option.bind_some]
    rw [if_pos (show (8 : Nat) ≤ 40 by decide), if_pos (show (40 : Int) ≤ (s.size : Int) by omega), v4.1, if_pos (show (8 : Nat) ≤ 40 by decide), if_pos (show (40 : Int) ≤ (s.size : Int) by omega), v4.2]
    simp only [Option.bind_some]
    cases b with
    | true => exact .inl ⟨h, hb.mp rfl, lp.1, lp.2⟩
    | false => exact .inr ⟨fun e => (by have := hb.mpr e.2; cases this), lp.1, lp.2⟩
  · have hz : ¬ (s.size : Int) = 44 := by omega
    rw [if_neg hz, if_neg hz]
    exact .inr ⟨fun e => h e.1, rfl, rfl⟩
/-- What Encode wrote, Decode reads. -/
theorem there (n kind slot : Int) (id : ByteArray) (l : List Int) (h : CmdOk n kind slot id l) :
    K (Enc n kind slot id (mask l 0)) = kind ∧ Nn (Enc n kind slot id (mask l 0)) = n ∧ Sl (Enc n kind slot id (mask l 0)) = slot ∧ (Enc n kind slot id (mask l 0)).extract 8 40 = id ∧ No (Enc n kind slot id (mask l 0)) = l := by
  have hm := mask_lt l 0 (by decide) (in_range l h.l)
  have hk := h.kind
  have hn := h.n
  have hL := enc_list n kind slot id (mask l 0)
  have hsz := enc_size n kind slot id (mask l 0) h.id
  have hid : id.data.toList.length = 32 := h.id
  have p1 : ((Enc n kind slot id (mask l 0)).extract 0 1).data.toList = (strOfNums (b1 kind)).data.toList := by rw [part, hL]; rfl
  have p2 : ((Enc n kind slot id (mask l 0)).extract 1 4).data.toList = (strOfNums (b3 n)).data.toList := by rw [part, hL]; rfl
  have p3 : ((Enc n kind slot id (mask l 0)).extract 4 8).data.toList = (strOfNums (b4 slot)).data.toList := by rw [part, hL]; rfl
  have p4 : ((Enc n kind slot id (mask l 0)).extract 8 40).data.toList = id.data.toList := by
    rw [part, hL]
    show (id.data.toList ++ (strOfNums (b4 ((mask l 0 : Nat) : Int))).data.toList).take 32 = _
    rw [List.take_append_of_le_length (by omega), List.take_of_length_le (by omega)]
  have p5 : ((Enc n kind slot id (mask l 0)).extract 40 (Enc n kind slot id (mask l 0)).size).data.toList = (strOfNums (b4 ((mask l 0 : Nat) : Int))).data.toList := by
    rw [part, hL, hsz]
    show ((id.data.toList ++ (strOfNums (b4 ((mask l 0 : Nat) : Int))).data.toList).drop 32).take 4 = _
    rw [List.drop_append_of_le_length (by omega), List.drop_eq_nil_of_le (by omega)]
    rfl
  have hb : Bi (Enc n kind slot id (mask l 0)) = mask l 0 := by
    have := back4 ((mask l 0 : Nat) : Int) (by omega)
    unfold Bi
    rw [p5]
    omega
  refine ⟨?_, ?_, ?_, ext_list p4, ?_⟩
  · unfold K
    rw [p1]
    exact back1 kind (by rcases hk with h | h <;> omega)
  · unfold Nn
    rw [p2]
    exact back3 n (by omega)
  · unfold Sl
    rw [p3]
    exact back4 slot (by rcases hk with h | h <;> omega)
  · unfold No
    rw [hb]
    exact nodes_back l h.l
/-- What Decode read, Encode writes. -/
theorem back (s : ByteArray) (h : s.size = 44) : Enc (Nn s) (K s) (Sl s) (s.extract 8 40) (mask (No s) 0) = s := by
  obtain ⟨z1, z2, z3, z4⟩ := part_size s h
  have hb : mask (No s) 0 = Bi s := bits_back (Bi s) (bi_lt s h)
  have hl : s.data.toList.length = 44 := h
  refine ext_list ?_
  rw [enc_list, hb]
  unfold K Nn Sl Bi
  rw [again1 _ z1, again3 _ z2, again4 _ z3, again4 _ z4]
  simp only [part, h]
  show (s.data.toList.drop 0).take 1 ++ ((s.data.toList.drop 1).take 3 ++ ((s.data.toList.drop 4).take 4 ++ ((s.data.toList.drop 8).take 32 ++ (s.data.toList.drop 40).take 4))) = s.data.toList
  generalize s.data.toList = L at hl
  have e5 : L.drop 40 = (L.drop 40).take 4 := (List.take_of_length_le (by rw [List.length_drop]; omega)).symm
  have e4 : L.drop 8 = (L.drop 8).take 32 ++ L.drop 40 := by
    have := (List.take_append_drop 32 (L.drop 8)).symm
    rw [List.drop_drop] at this
    exact this
  have e3 : L.drop 4 = (L.drop 4).take 4 ++ L.drop 8 := by
    have := (List.take_append_drop 4 (L.drop 4)).symm
    rw [List.drop_drop] at this
    exact this
  have e2 : L.drop 1 = (L.drop 1).take 3 ++ L.drop 4 := by
    have := (List.take_append_drop 3 (L.drop 1)).symm
    rw [List.drop_drop] at this
    exact this
  rw [← e5, ← e4, ← e3, ← e2, List.drop_zero]
  exact List.take_append_drop 1 L
theorem ints_loop (l : List Int) (hl : l.length ≤ 40) : ∀ (n i k : Nat), i + n = l.length → hopmeshref49_ints.l0 (n + 1 + k) l l (i : Int) = some true
  | 0, i, k, hi => by
    rw [show 0 + 1 + k = k + 1 by omega]
    unfold hopmeshref49_ints.l0
    rw [if_neg (by omega)]
  | n + 1, i, k, hi => by
    rw [show n + 1 + 1 + k = (n + 1 + k) + 1 by omega]
    unfold hopmeshref49_ints.l0
    rw [if_pos (by omega), if_pos (by omega), if_pos (by omega), if_pos rfl, wrap_nat i (by omega)]
    exact ints_loop l hl n (i + 1) k (by omega)
theorem same_val (k : Nat) (n kind slot : Int) (id : ByteArray) (l : List Int) (hl : l.length ≤ 40) : hopmeshref49_SameCommand.f (k + 50) n kind slot id l n kind slot id l = some true := by
  unfold hopmeshref49_SameCommand.f hopmeshref49_ints.f
  have := ints_loop l hl l.length 0 (k + 49 - l.length) (by omega)
  rw [show l.length + 1 + (k + 49 - l.length) = k + 50 by omega] at this
  rw [if_pos rfl, if_pos rfl, if_pos rfl, if_pos rfl, if_pos rfl]
  show (hopmeshref49_ints.l0 (k + 50) l l ((0 : Nat) : Int)).bind _ = _
  rw [this]
  rfl
/-! ### The law -/
theorem awake_val : hopmeshlaw49_awake.f 200 = some true := by kernel_rfl
theorem j0_true (k : Nat) (n kind slot : Int) (id : ByteArray) (l : List Int) (a : ByteArray) : hopmeshlaw49_InstallEncodes.j0 (k + 1) a true n kind slot id l = (hopmeshlaw49_awake.f k).bind fun t => some t := by
  unfold hopmeshlaw49_InstallEncodes.j0
  rfl
theorem j0_stop (n kind slot : Int) (id : ByteArray) (l : List Int) (a : ByteArray) : hopmeshlaw49_InstallEncodes.j0 201 a true n kind slot id l = some true :=
  (j0_true 200 n kind slot id l a).trans (by rw [awake_val]; rfl)
theorem last_step (s : ByteArray) (h : s.size = 44) (ok : CmdOk (Nn s) (K s) (Sl s) (s.extract 8 40) (No s)) (k : Nat) : install_Encode.f (k + 60) (Nn s) (K s) (Sl s) (s.extract 8 40) (No s) = some (s, 0) := by
  rcases encode_val k (Nn s) (K s) (Sl s) (s.extract 8 40) (No s) (by have := sel_len (Bi s).testBit 32 0; unfold No; omega) with ⟨_, h1, _⟩ | ⟨h0, _⟩
  · rw [h1, back s h]
  · exact absurd ok h0
theorem encodes (n kind slot : Int) (id : ByteArray) (l : List Int) (a : ByteArray) : hopmeshlaw49_InstallEncodes.f 201 n kind slot id l a = some true := by
  unfold hopmeshlaw49_InstallEncodes.f
  rw [show hopmeshlaw49_awake.f 201 = some true from by kernel_rfl]
  simp only [Option.bind_some, if_true]
  unfold hopmeshref49_Few.f
  by_cases h1 : (id.size : Int) ≤ 100
  · rw [if_pos h1]
    by_cases h2 : (l.length : Int) ≤ 40
    · rw [decide_eq_true h2]
      simp only [Option.bind_some, if_true]
      by_cases h3 : (a.size : Int) > 100
      · rw [decide_eq_true h3]
        exact j0_stop n kind slot id l a
      · rw [decide_eq_false h3]
        show hopmeshlaw49_InstallEncodes.j0 (200 + 1) a false n kind slot id l = some true
        have hl : l.length ≤ 40 := by omega
        have hn : (No a).length ≤ 40 := by have := sel_len (Bi a).testBit 32 0; unfold No; omega
        unfold hopmeshlaw49_InstallEncodes.j0
        simp only [Bool.false_eq_true, if_false]
        -- what Decode says of the data
        have tail2 : ∀ (k : Nat) (e : Int) (x0 x1 x2 : Int) (x3 : ByteArray) (x4 : List Int), (e = 0 → a.size = 44 ∧ CmdOk (Nn a) (K a) (Sl a) (a.extract 8 40) (No a) ∧ x0 = Nn a ∧ x1 = K a ∧ x2 = Sl a ∧ x3 = a.extract 8 40 ∧ x4 = No a) →
            (if e = 0 then ((install_Encode.f (k + 60) x0 x1 x2 x3 x4).bind fun t => (if t.2 = 0 then (some (t.1.toList == a.toList)) else (none))) else (some true)) = some true := by
          intro k e x0 x1 x2 x3 x4 h
          by_cases he : e = 0
          · obtain ⟨hs, ok, rfl, rfl, rfl, rfl, rfl⟩ := h he
            rw [if_pos he, last_step a hs ok k, Option.bind_some]
            simp
          · rw [if_neg he]
        have tail1 : ∀ (e6 e10 : Int) (x5 : ByteArray) (x0 x1 x2 : Int) (x3 : ByteArray) (x4 : List Int), (e6 = 0 → CmdOk n kind slot id l ∧ x5 = Enc n kind slot id (mask l 0)) → (e10 = 0 → a.size = 44 ∧ CmdOk (Nn a) (K a) (Sl a) (a.extract 8 40) (No a) ∧ x0 = Nn a ∧ x1 = K a ∧ x2 = Sl a ∧ x3 = a.extract 8 40 ∧ x4 = No a) →
            hopmeshlaw49_InstallEncodes.j1 200 a x5 e6 e10 (e10 != e10) n kind slot id l x0 x1 x2 x3 x4 = some true := by
          intro e6 e10 x5 x0 x1 x2 x3 x4 h6 h10
          show hopmeshlaw49_InstallEncodes.j1 (199 + 1) a x5 e6 e10 (e10 != e10) n kind slot id l x0 x1 x2 x3 x4 = some true
          unfold hopmeshlaw49_InstallEncodes.j1
          simp only [bne_self_eq_false, Bool.false_eq_true, if_false]
          by_cases he : e6 = 0
          · obtain ⟨ok, rfl⟩ := h6 he
            obtain ⟨t1, t2, t3, t4, t5⟩ := there n kind slot id l ok
            have hsz := enc_size n kind slot id (mask l 0) ok.id
            rw [if_pos he]
            rcases decode_val 99 (Enc n kind slot id (mask l 0)) with ⟨_, _, d, _⟩ | ⟨d, _⟩
            · rw [t1, t2, t3, t4, t5] at d
              rw [show 99 + 100 = 199 from rfl] at d
              rw [d]
              simp only [Option.bind_some, if_true]
              have sv := same_val 149 n kind slot id l hl
              rw [show 149 + 50 = 199 from rfl] at sv
              rw [sv]
              simp only [Option.bind_some, Bool.not_true]
              show hopmeshlaw49_InstallEncodes.j2 (198 + 1) a e10 false x0 x1 x2 x3 x4 = some true
              unfold hopmeshlaw49_InstallEncodes.j2
              simp only [Bool.false_eq_true, if_false]
              exact tail2 138 e10 x0 x1 x2 x3 x4 h10
            · refine absurd ⟨hsz, ?_⟩ d
              rw [t1, t2, t3, t4, t5]
              exact ok
          · rw [if_neg he]
            exact tail2 139 e10 x0 x1 x2 x3 x4 h10
        obtain ⟨e5, e6, q1, q2, q3⟩ : ∃ (e5 : ByteArray) (e6 : Int), install_Encode.f 200 n kind slot id l = some (e5, e6) ∧ hopmeshref49_Encode.f 200 n kind slot id l = some (e5, e6) ∧ (e6 = 0 → CmdOk n kind slot id l ∧ e5 = Enc n kind slot id (mask l 0)) := by
          rcases encode_val 140 n kind slot id l hl with ⟨ok, p1, p2⟩ | ⟨_, p1, p2⟩
          · exact ⟨_, _, p1, p2, fun _ => ⟨ok, rfl⟩⟩
          · exact ⟨_, _, p1, p2, fun e => (by cases e)⟩
        obtain ⟨x0, x1, x2, x3, x4, e10, r1, r2, r3, r4⟩ : ∃ (x0 x1 x2 : Int) (x3 : ByteArray) (x4 : List Int) (e10 : Int), install_Decode.f 200 a = some (x0, x1, x2, x3, x4, e10) ∧ hopmeshref49_Decode.f 200 a = some (x0, x1, x2, x3, x4, e10) ∧ x4.length ≤ 40 ∧ (e10 = 0 → a.size = 44 ∧ CmdOk (Nn a) (K a) (Sl a) (a.extract 8 40) (No a) ∧ x0 = Nn a ∧ x1 = K a ∧ x2 = Sl a ∧ x3 = a.extract 8 40 ∧ x4 = No a) := by
          rcases decode_val 100 a with ⟨hs, ok, p1, p2⟩ | ⟨_, p1, p2⟩
          · exact ⟨_, _, _, _, _, _, p1, p2, hn, fun _ => ⟨hs, ok, rfl, rfl, rfl, rfl, rfl⟩⟩
          · exact ⟨_, _, _, _, _, _, p1, p2, Nat.zero_le _, fun e => (by cases e)⟩
        rw [q1, q2, r1, r2]
        simp only [Option.bind_some, if_true]
        have sv := same_val 150 x0 x1 x2 x3 x4 r3
        rw [show 150 + 50 = 200 from rfl] at sv
        rw [sv]
        simp only [Option.bind_some, if_true]
        exact tail1 e6 e10 e5 x0 x1 x2 x3 x4 q3 r4
    · rw [decide_eq_false h2]
      simp only [Option.bind_some]
      rw [if_neg (by decide)]
      exact j0_stop n kind slot id l a
  · rw [if_neg h1]
    simp only [Option.bind_some]
    rw [if_neg (by decide)]
    exact j0_stop n kind slot id l a
theorem encodes_walk (n kind slot : Int) (id : ByteArray) (A : Option Addr) (c : Nat) (l : List Int) (a : ByteArray) (w : World) (r : Kd.C (Kd.int .i64) w A l.length l) (g : l.length ≤ c) :
    Calls Try.prog 7 #[.agg #[.int .i64 n, .int .i64 kind, .int .i64 slot, .string id, .slice A l.length c], .string a] w fun e w' => e = .returned (.bool true) ∧ Below w.heap.size w w' :=
  hopmeshlaw49_InstallEncodes.calls 201 n kind slot id A c l a true w r g (encodes n kind slot id l a)
end Go.Proofs.Ytdigplhjfjchnaa.PureE
