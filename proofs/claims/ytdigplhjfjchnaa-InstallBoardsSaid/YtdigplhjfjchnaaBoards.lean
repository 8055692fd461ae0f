/-
  The plain law InstallBoards: what the program and the reference answer of a board is the same. No condition beyond the sizes that the law itself asks for.
-/
import Derived.Test.YtdigplhjfjchnaaZf8d
namespace Go.Proofs.Ytdigplhjfjchnaa.PureB
open Go.RowKit Go.Proofs.Ytdigplhjfjchnaa.PQ Go.Proofs.YtdigplhjfjchnaaW.PrintWords Go.Proofs.YtdigplhjfjchnaaW.PrintLast Go.Proofs.YtdigplhjfjchnaaW.PrintMore
theorem wrap_in (n : Int) (h : -9223372036854775808 ≤ n ∧ n ≤ 9223372036854775807) : wrap64 n = n:=by unfold wrap64;omega
theorem wrap_nat (i : Nat) (h : i < 1000000) : wrap64 ((i : Int) + 1) = ((i + 1 : Nat) : Int):=by rw [wrap_in _ (by omega)];omega
theorem wrap_pred (i : Nat) (h : i < 1000000) : wrap64 (((i + 1 : Nat) : Int) - 1) = (i : Int):=by rw [wrap_in _ (by omega)];omega
/-- What a list of nodes has to be. -/
def Step (l : List Int) (j : Nat) : Prop:=0 ≤ rd l (j : Int) ∧ rd l (j : Int) < 32 ∧ (0 < j → rd l ((j - 1 : Nat) : Int) < rd l (j : Int))
def ListOk (l : List Int) : Prop:=0 < l.length ∧ ∀ j,j < l.length → Step l j
theorem list_loop (l : List Int) (hl : l.length ≤ 40) : ∀ (n i k : Nat),i + n = l.length → (∀ j,j < i → Step l j) →
    ∃ b,install_list.l0 (n + 1 + k) l l (l.length : Int) (i : Int) = some b ∧ hopmeshref49_nodes.l0 (n + 1 + k) l (i : Int) = some b ∧ (b = true ↔ ListOk l)
  | 0,i,k,hi,h => by
    rw [show 0 + 1 + k = k + 1 by omega]
    unfold install_list.l0 hopmeshref49_nodes.l0
    rw [if_neg (by omega),if_neg (by omega)]
    refine ⟨_,rfl,rfl,?_⟩
    rw [decide_eq_true_eq]
    exact ⟨fun h1 => ⟨by omega,fun j hj => h j (by omega)⟩,fun h1 => by have:=h1.1;omega⟩
  | n + 1,i,k,hi,h => by
    rw [show n + 1 + 1 + k = (n + 1 + k) + 1 by omega]
    unfold install_list.l0 hopmeshref49_nodes.l0
    rw [if_pos (show (i : Int) < (l.length : Int) by omega),if_pos (show (0 : Int) ≤ (i : Int) by omega),if_pos (show (i : Int) < (l.length : Int) by omega),if_pos (show (i : Int) < (l.length : Int) by omega),if_pos (show (0 : Int) ≤ (i : Int) by omega),wrap_nat i (by omega)]
    have bad : ¬ Step l i → ∃ b,some false = some b ∧ some false = some b ∧ (b = true ↔ ListOk l):=fun h0 => ⟨false,rfl,rfl,fun e => (by cases e),fun e => absurd (e.2 i (by omega)) h0⟩
    have good : Step l i → ∃ b,install_list.l0 (n + 1 + k) l l (l.length : Int) ((i + 1 : Nat) : Int) = some b ∧ hopmeshref49_nodes.l0 (n + 1 + k) l ((i + 1 : Nat) : Int) = some b ∧ (b = true ↔ ListOk l):=fun h0 =>
      list_loop l hl n (i + 1) k (by omega) fun j hj => by
        rcases Nat.lt_or_ge j i with h1 | h1
        · exact h j h1
        · rw [show j = i by omega];exact h0
    by_cases h1 : rd l (i : Int) < 0
    · rw [if_pos h1,if_pos h1]
      exact bad fun h0 => by have:=h0.1;omega
    · rw [if_neg h1,if_neg h1]
      by_cases h2 : rd l (i : Int) ≥ 32
      · rw [if_pos h2,if_pos h2]
        exact bad fun h0 => by have:=h0.2.1;omega
      · rw [if_neg h2,if_neg h2]
        by_cases h3 : (i : Int) > 0
        · obtain ⟨m,rfl⟩ : ∃ m,i = m + 1:=⟨i - 1,by omega⟩
          rw [if_pos h3,if_pos h3,wrap_pred m (by omega),if_pos (show (0 : Int) ≤ (m : Int) by omega),if_pos (show (m : Int) < (l.length : Int) by omega),if_pos (show (0 : Int) ≤ (m : Int) by omega),if_pos (show (m : Int) < (l.length : Int) by omega)]
          by_cases h4 : rd l (m : Int) ≥ rd l ((m + 1 : Nat) : Int)
          · rw [if_pos h4,if_pos h4]
            exact bad fun h0 => by have:=h0.2.2 (by omega);rw [Nat.add_sub_cancel] at this;omega
          · rw [if_neg h4,if_neg h4]
            exact good ⟨by omega,by omega,fun _ => by rw [Nat.add_sub_cancel];omega⟩
        · rw [if_neg h3,if_neg h3]
          exact good ⟨by omega,by omega,fun h => by omega⟩
theorem list_val (k : Nat) (l : List Int) (hl : l.length ≤ 40) : ∃ b,install_list.f (k + 41) l = some b ∧ hopmeshref49_nodes.f (k + 41) l = some b ∧ (b = true ↔ ListOk l):=by
  unfold install_list.f hopmeshref49_nodes.f
  have:=list_loop l hl l.length 0 (k + 40 - l.length) (by omega) (fun j hj => absurd hj (Nat.not_lt_zero _))
  rw [show l.length + 1 + (k + 40 - l.length) = k + 41 by omega] at this
  exact this
theorem list_both (l : List Int) (hl : l.length ≤ 40) (K : Nat) (hK : 100 ≤ K) : ∃ b,install_list.f K l = some b ∧ hopmeshref49_nodes.f K l = some b:=by
  obtain ⟨b,h1,h2,_⟩:=list_val (K - 41) l hl
  rw [show K - 41 + 41 = K by omega] at h1 h2
  exact ⟨b,h1,h2⟩
theorem index_loop (l : List Int) (x : Int) (hl : l.length ≤ 40) : ∀ (d i K : Nat),i + d = l.length → d + 1 ≤ K → ∃ r : Int,slices_Index_int_int.l0 K l x (l.length : Int) (i : Int) = some r ∧ hopmeshref49_find.l0 K l x (i : Int) = some r ∧ (r < 0 ∨ 0 ≤ r ∧ r < (l.length : Int)):=by
  intro d
  induction d with
  | zero =>
    intro i K hi hK
    obtain ⟨k,rfl⟩ : ∃ k,K = k + 1:=⟨K - 1,by omega⟩
    unfold slices_Index_int_int.l0 hopmeshref49_find.l0
    rw [if_neg (by omega),if_neg (by omega)]
    exact ⟨-1,rfl,rfl,.inl (by omega)⟩
  | succ d ih =>
    intro i K hi hK
    obtain ⟨k,rfl⟩ : ∃ k,K = k + 1:=⟨K - 1,by omega⟩
    unfold slices_Index_int_int.l0 hopmeshref49_find.l0
    rw [if_pos (show (i : Int) < (l.length : Int) by omega),if_pos (show (0 : Int) ≤ (i : Int) by omega),if_pos (show (i : Int) < (l.length : Int) by omega),if_pos (show (i : Int) < (l.length : Int) by omega),if_pos (show (0 : Int) ≤ (i : Int) by omega),wrap_nat i (by omega)]
    by_cases c : x = rd l (i : Int)
    · rw [if_pos c,if_pos c.symm]
      exact ⟨(i : Int),rfl,rfl,.inr (by omega)⟩
    · rw [if_neg c,if_neg (fun h => c h.symm)]
      exact ih (i + 1) k (by omega) (by omega)
theorem index_both (l : List Int) (x : Int) (hl : l.length ≤ 40) (K : Nat) (hK : 100 ≤ K) : ∃ r : Int,slices_Index_int_int.f K l x = some r ∧ hopmeshref49_find.f K l x = some r ∧ (r < 0 ∨ 0 ≤ r ∧ r < (l.length : Int)):=
  index_loop l x hl l.length 0 K (by omega) (by omega)
theorem drop_at (l : List Bool) (i : Nat) (h : i < l.length) : l.drop i = rdOf false l (i : Int) :: l.drop (i + 1):=by
  rw [List.drop_eq_getElem_cons h]
  congr 1
  unfold rdOf
  rw [Int.toNat_natCast,List.getD_eq_getElem?_getD,List.getElem?_eq_getElem h]
  rfl
theorem has_loop (l : List Bool) (b : Bool) (hl : l.length ≤ 41) : ∀ (d i K : Nat),i + d = l.length → d + 1 ≤ K → ∃ r : Int,slices_Index_bool_bool.l0 K l b (l.length : Int) (i : Int) = some r ∧ decide (r ≥ 0) = (l.drop i).any (fun y => b == y):=by
  intro d
  induction d with
  | zero =>
    intro i K hi hK
    obtain ⟨k,rfl⟩ : ∃ k,K = k + 1:=⟨K - 1,by omega⟩
    unfold slices_Index_bool_bool.l0
    rw [if_neg (by omega),List.drop_eq_nil_of_le (by omega)]
    exact ⟨-1,rfl,rfl⟩
  | succ d ih =>
    intro i K hi hK
    obtain ⟨k,rfl⟩ : ∃ k,K = k + 1:=⟨K - 1,by omega⟩
    unfold slices_Index_bool_bool.l0
    rw [if_pos (by omega),if_pos (by omega),if_pos (by omega),drop_at l i (by omega),List.any_cons,wrap_nat i (by omega)]
    cases c : (b == rdOf false l (i : Int)) with
    | true =>
      rw [if_pos rfl,Bool.true_or]
      exact ⟨(i : Int),rfl,decide_eq_true (by omega)⟩
    | false =>
      rw [if_neg (by decide),Bool.false_or]
      exact ih (i + 1) k (by omega) (by omega)
theorem has_val (l : List Bool) (b : Bool) (hl : l.length ≤ 41) (K : Nat) (hK : 50 ≤ K) : slices_Contains_bool_bool.f K l b = some (l.any (fun y => b == y)):=by
  obtain ⟨r,hr,he⟩:=has_loop l b hl l.length 0 K (by omega) (by omega)
  have hr' : slices_Index_bool_bool.l0 K l b (l.length : Int) 0 = some r:=hr
  unfold slices_Contains_bool_bool.f slices_Index_bool_bool.f
  rw [hr',Option.bind_some,he,List.drop_zero]
section
variable (id : ByteArray) (l : List Int) (d t : List Bool) (m s : Int)
theorem vloop (ht : t.length ≤ 41) : ∀ (e i K : Nat) (x : Bool),i + e = t.length → e + 1 ≤ K → hopmeshref49_Valid.l0 K x (i : Int) id l d t m s = some (if (x && (decide (m > 0) || !((t.drop i).any (fun y => true == y)))) = true then (if m = 0 then (if s = 0 then 0 else 1) else 0) else 1):=by
  intro e
  induction e with
  | zero =>
    intro i K x hi hK
    obtain ⟨k,rfl⟩ : ∃ k,K = k + 1:=⟨K - 1,by omega⟩
    unfold hopmeshref49_Valid.l0
    rw [if_neg (by omega),List.drop_eq_nil_of_le (by omega)]
    cases x with
    | false => rw [if_neg (by decide),if_neg (by simp)]
    | true =>
      rw [if_pos rfl,if_pos (show (true && (decide (m > 0) || !(([] : List Bool).any fun y => true == y))) = true by simp)]
      by_cases c : m = 0
      · rw [if_pos c,if_pos c]
        by_cases c2 : s = 0
        · rw [if_pos c2,if_pos c2]
        · rw [if_neg c2,if_neg c2]
      · rw [if_neg c,if_neg c]
  | succ e ih =>
    intro i K x hi hK
    obtain ⟨k,rfl⟩ : ∃ k,K = k + 1:=⟨K - 1,by omega⟩
    have nx:=fun y => ih (i + 1) k y (by omega) (by omega)
    unfold hopmeshref49_Valid.l0
    rw [if_pos (by omega),drop_at t i (by omega),List.any_cons,wrap_nat i (by omega)]
    cases x with
    | false =>
      rw [if_neg (by decide),nx]
      simp only [Bool.false_and]
    | true =>
      rw [if_pos rfl,if_pos (by omega)]
      cases rdOf false t (i : Int) with
      | true =>
        rw [if_pos rfl,nx]
        cases decide (m > 0) <;> simp
      | false =>
        rw [if_neg (by decide),nx]
        simp
theorem rj0 (k : Nat) (x : Bool) (ht : t.length ≤ 41) (hk : 50 ≤ k) : hopmeshref49_Valid.j0 (k + 1) x id l d t m s = some (if (x && (decide (m > 0) || !(t.any (fun y => true == y)))) = true then (if m = 0 then (if s = 0 then 0 else 1) else 0) else 1):=by
  have h:=vloop id l d t m s ht t.length 0 k x (by omega) (by omega)
  rw [List.drop_zero] at h
  exact h
theorem rbad (k : Nat) (ht : t.length ≤ 41) (hk : 50 ≤ k) : hopmeshref49_Valid.j0 (k + 1) false id l d t m s = some 1:=by
  rw [rj0 id l d t m s k false ht hk,Bool.false_and,if_neg (by decide)]
theorem ibad (k : Nat) : install_Valid.j0 (k + 1) true id l d t m s = some 1:=rfl
theorem igood (k : Nat) : install_Valid.j0 (k + 1) false id l d t m s = if m = 0 then (if s = 0 then ((slices_Contains_bool_bool.f k t true).bind fun r => (if r = true then some 1 else some 0)) else some 1) else some 0:=rfl
/-- A board that both call valid. -/
structure Fit : Prop where
  dl : d.length = l.length
  tl : t.length = l.length
  m : 0 ≤ m ∧ m ≤ 1048576
  s : 0 ≤ s ∧ s ≤ 1073741824
theorem valid_both (hl : l.length ≤ 40) (ht : t.length ≤ 40) (K : Nat) (hK : 120 ≤ K) : ∃ v : Int,install_Valid.f K id l d t m s = some v ∧ hopmeshref49_Valid.f K id l d t m s = some v ∧ (v = 0 ∧ Fit l d t m s ∨ v = 1):=by
  obtain ⟨k,rfl⟩ : ∃ k,K = k + 1:=⟨K - 1,by omega⟩
  obtain ⟨b,b1,b2⟩:=list_both l hl (k + 1) (by omega)
  have rb:=rbad id l d t m s k (by omega) (by omega)
  have ib:=ibad id l d t m s k
  unfold install_Valid.f hopmeshref49_Valid.f install_identifier.f hopmeshref49_Identifier.f
  rw [Option.bind_some,Option.bind_some,b1,b2,Option.bind_some,Option.bind_some]
  by_cases c1 : ((id.size : Int) == 32) = true
  · rw [if_pos c1,if_pos c1]
    by_cases c2 : b = true
    · rw [if_pos c2,if_pos c2]
      by_cases c3 : (d.length : Int) = (l.length : Int)
      · rw [if_pos c3,if_pos c3]
        by_cases c4 : (t.length : Int) = (l.length : Int)
        · rw [if_pos c4,if_pos c4]
          by_cases c5 : m < 0
          · rw [if_pos c5,if_neg (show ¬ m ≥ 0 by omega),ib,rb];exact ⟨1,rfl,rfl,.inr rfl⟩
          · rw [if_neg c5,if_pos (show m ≥ 0 by omega)]
            by_cases c6 : m > 1048576
            · rw [if_pos c6,if_neg (show ¬ m ≤ 1048576 by omega),ib,rb];exact ⟨1,rfl,rfl,.inr rfl⟩
            · rw [if_neg c6,if_pos (show m ≤ 1048576 by omega)]
              by_cases c7 : s < 0
              · rw [if_pos c7,if_neg (show ¬ s ≥ 0 by omega),ib,rb];exact ⟨1,rfl,rfl,.inr rfl⟩
              · rw [if_neg c7,if_pos (show s ≥ 0 by omega)]
                by_cases c8 : s > 1073741824
                · rw [decide_eq_true c8,decide_eq_false (show ¬ s ≤ 1073741824 by omega),ib,rb];exact ⟨1,rfl,rfl,.inr rfl⟩
                · rw [decide_eq_false c8,decide_eq_true (show s ≤ 1073741824 by omega),igood,rj0 id l d t m s k true (by omega) (by omega),has_val t true (by omega) k (by omega),Option.bind_some]
                  have fit : Fit l d t m s:=⟨by omega,by omega,by omega,by omega⟩
                  by_cases c9 : m = 0
                  · rw [if_pos c9,if_pos c9,decide_eq_false (show ¬ m > 0 by omega)]
                    by_cases c10 : s = 0
                    · rw [if_pos c10,if_pos c10]
                      cases t.any (fun y => true == y) with
                      | true => exact ⟨1,rfl,rfl,.inr rfl⟩
                      | false => exact ⟨0,rfl,rfl,.inl ⟨rfl,fit⟩⟩
                    · rw [if_neg c10,if_neg c10]
                      refine ⟨1,rfl,?_,.inr rfl⟩
                      split <;> rfl
                  · rw [if_neg c9,if_neg c9,decide_eq_true (show m > 0 by omega),Bool.true_or,Bool.true_and,if_pos rfl]
                    exact ⟨0,rfl,rfl,.inl ⟨rfl,fit⟩⟩
        · rw [if_neg c4,if_neg c4,ib,rb];exact ⟨1,rfl,rfl,.inr rfl⟩
      · rw [if_neg c3,if_neg c3,ib,rb];exact ⟨1,rfl,rfl,.inr rfl⟩
    · rw [if_neg c2,if_neg c2,ib,rb];exact ⟨1,rfl,rfl,.inr rfl⟩
  · rw [if_neg c1,if_neg c1,ib,rb];exact ⟨1,rfl,rfl,.inr rfl⟩
theorem any_all (x : List Bool) : (!(x.any (fun y => false == y))) = x.all (fun y => y):=by
  induction x with
  | nil => rfl
  | cons a x ih =>
    rw [List.any_cons,List.all_cons,← ih]
    cases a <;> simp
theorem rloop (hd : d.length ≤ 41) : ∀ (e i K : Nat) (x : Bool),i + e = d.length → e + 1 ≤ K → hopmeshref49_Ready.l0 K x (i : Int) id l d t m s = some (x && (d.drop i).all (fun y => y)):=by
  intro e
  induction e with
  | zero =>
    intro i K x hi hK
    obtain ⟨k,rfl⟩ : ∃ k,K = k + 1:=⟨K - 1,by omega⟩
    unfold hopmeshref49_Ready.l0
    rw [List.drop_eq_nil_of_le (by omega)]
    cases x with
    | false => rw [if_neg (by decide)];rfl
    | true => rw [if_pos rfl,if_neg (by omega)];rfl
  | succ e ih =>
    intro i K x hi hK
    obtain ⟨k,rfl⟩ : ∃ k,K = k + 1:=⟨K - 1,by omega⟩
    unfold hopmeshref49_Ready.l0
    cases x with
    | false => rw [if_neg (by decide),Bool.false_and]
    | true => rw [if_pos rfl,if_pos (by omega),if_pos (by omega),wrap_nat i (by omega),ih (i + 1) k _ (by omega) (by omega),drop_at d i (by omega),List.all_cons,Bool.true_and]
theorem aloop (ht : t.length ≤ 41) : ∀ (e i K : Nat) (x : Bool),i + e = t.length → e + 1 ≤ K → hopmeshref49_Agreed.l0 K x (i : Int) id l d t m s = some (x && (t.drop i).all (fun y => y)):=by
  intro e
  induction e with
  | zero =>
    intro i K x hi hK
    obtain ⟨k,rfl⟩ : ∃ k,K = k + 1:=⟨K - 1,by omega⟩
    unfold hopmeshref49_Agreed.l0
    rw [List.drop_eq_nil_of_le (by omega)]
    cases x with
    | false => rw [if_neg (by decide)];rfl
    | true => rw [if_pos rfl,if_neg (by omega)];rfl
  | succ e ih =>
    intro i K x hi hK
    obtain ⟨k,rfl⟩ : ∃ k,K = k + 1:=⟨K - 1,by omega⟩
    unfold hopmeshref49_Agreed.l0
    cases x with
    | false => rw [if_neg (by decide),Bool.false_and]
    | true => rw [if_pos rfl,if_pos (by omega),if_pos (by omega),wrap_nat i (by omega),ih (i + 1) k _ (by omega) (by omega),drop_at t i (by omega),List.all_cons,Bool.true_and]
theorem aj0 (k : Nat) (x : Bool) (ht : t.length ≤ 41) (hk : 50 ≤ k) : hopmeshref49_Agreed.j0 (k + 1) x id l d t m s = some (x && t.all (fun y => y)):=by
  have h:=aloop id l d t m s ht t.length 0 k x (by omega) (by omega)
  rw [List.drop_zero] at h
  exact h
theorem ready_both (hl : l.length ≤ 40) (hd : d.length ≤ 40) (ht : t.length ≤ 40) (K : Nat) (hK : 120 ≤ K) : ∃ b,install_Ready.f K id l d t m s = some b ∧ hopmeshref49_Ready.f K id l d t m s = some b:=by
  obtain ⟨v,v1,v2,hv⟩:=valid_both id l d t m s hl ht K hK
  have r:=fun x => rloop id l d t m s (by omega) d.length 0 K x (by omega) (by omega)
  simp only [List.drop_zero] at r
  have r' : ∀ x,hopmeshref49_Ready.l0 K x 0 id l d t m s = some (x && d.all (fun y => y)):=r
  unfold install_Ready.f hopmeshref49_Ready.f
  rw [v1,v2,Option.bind_some,Option.bind_some,r']
  rcases hv with ⟨rfl,_⟩ | rfl
  · rw [if_pos rfl,has_val d false (by omega) K (by omega),Option.bind_some,any_all]
    exact ⟨_,rfl,rfl⟩
  · rw [if_neg (by decide)]
    exact ⟨false,rfl,rfl⟩
theorem agreed_both (hl : l.length ≤ 40) (ht : t.length ≤ 40) (K : Nat) (hK : 120 ≤ K) : ∃ b,install_Agreed.f K id l d t m s = some b ∧ hopmeshref49_Agreed.f K id l d t m s = some b:=by
  obtain ⟨v,v1,v2,hv⟩:=valid_both id l d t m s hl ht K hK
  obtain ⟨k,rfl⟩ : ∃ k,K = k + 1:=⟨K - 1,by omega⟩
  unfold install_Agreed.f hopmeshref49_Agreed.f
  rw [v1,v2,Option.bind_some,Option.bind_some,aj0 id l d t m s k _ (by omega) (by omega),aj0 id l d t m s k _ (by omega) (by omega)]
  rcases hv with ⟨rfl,f⟩ | rfl
  · rw [if_pos rfl,if_pos rfl]
    by_cases c : s = 0
    · rw [if_pos c,decide_eq_false (show ¬ s > 0 by omega)]
      exact ⟨false,rfl,rfl⟩
    · have:=f.s
      rw [if_neg c,decide_eq_true (show s > 0 by omega),has_val t false (by omega) (k + 1) (by omega),Option.bind_some,any_all]
      exact ⟨_,rfl,rfl⟩
  · rw [if_neg (by decide),if_neg (by decide)]
    exact ⟨false,rfl,rfl⟩
theorem own_val (hl : l.length ≤ 40) (hd : d.length ≤ 40) (ht : t.length ≤ 40) : install_own.f id l d t m s = some (id,l,d,t,m,s):=by
  unfold install_own.f slices_Clone_int_int.f install_own_1.f
  rw [if_pos (by omega),Option.bind_some,if_pos (by omega),Option.bind_some,if_pos (by omega),Option.bind_some]
theorem clone_val (hl : l.length ≤ 40) (hd : d.length ≤ 40) (ht : t.length ≤ 40) : hopmeshref49_clone.f id l d t m s = some (id,l,d,t,m,s):=by
  unfold hopmeshref49_clone.f
  rw [Option.bind_some,if_pos (by simp;omega),Option.bind_some,if_pos (by simp;omega),Option.bind_some,if_pos (by simp;omega)]
  rfl
/-- What both answer to a question after a node. -/
theorem find_both (node : Int) (hl : l.length ≤ 40) (hd : d.length ≤ 40) (ht : t.length ≤ 40) (K : Nat) (hK : 120 ≤ K) :
    (∃ r : Int,install_find.f K id l d t m s node = some (id,l,d,t,m,s,r,0) ∧ hopmeshref49_at.f K id l d t m s node = some (r,0) ∧ 0 ≤ r ∧ r < (l.length : Int) ∧ Fit l d t m s) ∨
    ∃ e : Int,e ≠ 0 ∧ install_find.f K id l d t m s node = some (⟨#[]⟩,[],[],[],0,0,0,e) ∧ hopmeshref49_at.f K id l d t m s node = some (0,e):=by
  obtain ⟨v,v1,v2,hv⟩:=valid_both id l d t m s hl ht K hK
  obtain ⟨r,r1,r2,hr⟩:=index_both l node hl K (by omega)
  unfold install_find.f hopmeshref49_at.f
  rw [v1,v2,Option.bind_some,Option.bind_some,r1,r2,Option.bind_some,Option.bind_some]
  rcases hv with ⟨rfl,f⟩ | rfl
  · rw [if_pos rfl,if_pos rfl]
    rcases hr with h | h
    · rw [if_pos h,if_pos h]
      exact .inr ⟨7,by decide,rfl,rfl⟩
    · rw [if_neg (by omega),if_neg (by omega),own_val id l d t m s hl hd ht,Option.bind_some]
      exact .inl ⟨r,rfl,rfl,h.1,h.2,f⟩
  · rw [if_neg (by decide),if_neg (by decide)]
    exact .inr ⟨1,by decide,rfl,rfl⟩
end
theorem ints_loop (l : List Int) (hl : l.length ≤ 41) : ∀ (e i K : Nat),i + e = l.length → e + 1 ≤ K → hopmeshref49_ints.l0 K l l (i : Int) = some true:=by
  intro e
  induction e with
  | zero =>
    intro i K hi hK
    obtain ⟨k,rfl⟩ : ∃ k,K = k + 1:=⟨K - 1,by omega⟩
    unfold hopmeshref49_ints.l0
    rw [if_neg (by omega)]
  | succ e ih =>
    intro i K hi hK
    obtain ⟨k,rfl⟩ : ∃ k,K = k + 1:=⟨K - 1,by omega⟩
    unfold hopmeshref49_ints.l0
    rw [if_pos (by omega),if_pos (by omega),if_pos (by omega),if_pos rfl,wrap_nat i (by omega)]
    exact ih (i + 1) k (by omega) (by omega)
theorem ints_same (l : List Int) (hl : l.length ≤ 41) (K : Nat) (hK : 50 ≤ K) : hopmeshref49_ints.f K l l = some true:=by
  unfold hopmeshref49_ints.f
  rw [if_pos rfl]
  exact ints_loop l hl l.length 0 K (by omega) (by omega)
section
variable (id : ByteArray) (l : List Int) (d t : List Bool) (m s : Int)
theorem same1 (ht : t.length ≤ 41) : ∀ (e i K : Nat),i + e = t.length → e + 1 ≤ K → hopmeshref49_SameBoard.l1 K (i : Int) id l d t m s id l d t m s = some true:=by
  intro e
  induction e with
  | zero =>
    intro i K hi hK
    obtain ⟨k,rfl⟩ : ∃ k,K = k + 1:=⟨K - 1,by omega⟩
    unfold hopmeshref49_SameBoard.l1
    rw [if_neg (by omega)]
  | succ e ih =>
    intro i K hi hK
    obtain ⟨k,rfl⟩ : ∃ k,K = k + 1:=⟨K - 1,by omega⟩
    unfold hopmeshref49_SameBoard.l1
    rw [if_pos (by omega),if_pos (by omega),if_pos (by omega),if_neg (by simp),wrap_nat i (by omega)]
    exact ih (i + 1) k (by omega) (by omega)
theorem same0 (hd : d.length ≤ 41) (ht : t.length ≤ 41) : ∀ (e i K : Nat),i + e = d.length → e + 60 ≤ K → hopmeshref49_SameBoard.l0 K (i : Int) id l d t m s id l d t m s = some true:=by
  intro e
  induction e with
  | zero =>
    intro i K hi hK
    obtain ⟨k,rfl⟩ : ∃ k,K = k + 1:=⟨K - 1,by omega⟩
    unfold hopmeshref49_SameBoard.l0
    rw [if_neg (by omega)]
    exact same1 id l d t m s ht t.length 0 k (by omega) (by omega)
  | succ e ih =>
    intro i K hi hK
    obtain ⟨k,rfl⟩ : ∃ k,K = k + 1:=⟨K - 1,by omega⟩
    unfold hopmeshref49_SameBoard.l0
    rw [if_pos (by omega),if_pos (by omega),if_pos (by omega),if_neg (by simp),wrap_nat i (by omega)]
    exact ih (i + 1) k (by omega) (by omega)
theorem sj0 (k : Nat) : hopmeshref49_SameBoard.j0 (k + 1) false id l d t m s id l d t m s = hopmeshref49_SameBoard.l0 k 0 id l d t m s id l d t m s:=rfl
theorem same_board (hl : l.length ≤ 41) (hd : d.length ≤ 41) (ht : t.length ≤ 41) (K : Nat) (hK : 120 ≤ K) : hopmeshref49_SameBoard.f K id l d t m s id l d t m s = some true:=by
  obtain ⟨k,rfl⟩ : ∃ k,K = k + 1:=⟨K - 1,by omega⟩
  unfold hopmeshref49_SameBoard.f
  rw [if_pos rfl,ints_same l hl (k + 1) (by omega),Option.bind_some,if_pos rfl,if_pos rfl,if_pos rfl,if_pos rfl,bne_self_eq_false,sj0]
  exact same0 id l d t m s hd ht d.length 0 k (by omega) (by omega)
theorem same_command (a b c : Int) (hl : l.length ≤ 41) (K : Nat) (hK : 120 ≤ K) : hopmeshref49_SameCommand.f K a b c id l a b c id l = some true:=by
  unfold hopmeshref49_SameCommand.f
  rw [if_pos rfl,if_pos rfl,if_pos rfl,if_pos rfl,ints_same l hl K (by omega),Option.bind_some]
abbrev Board:=ByteArray × List Int × List Bool × List Bool × Int × Int
/-- The rows of an answer are small. -/
def Small (x : List Int) (y z : List Bool) : Prop:=x.length ≤ 40 ∧ y.length ≤ 40 ∧ z.length ≤ 40
theorem small0 : Small [] [] []:=⟨by decide,by decide,by decide⟩
theorem new_both (hl : l.length ≤ 40) (K : Nat) (hK : 120 ≤ K) : ∃ a x y z p q e,install_New.f K id l = some (a,x,y,z,p,q,e) ∧ hopmeshref49_New.f K id l = some (a,x,y,z,p,q,e) ∧ Small x y z:=by
  obtain ⟨b,b1,b2⟩:=list_both l hl K (by omega)
  have hc : slices_Clone_int_int.f l = some l:=by unfold slices_Clone_int_int.f;rw [if_pos (by omega)]
  have h1 : ([] : List Int).length + l.length < 17592186044416:=by simp;omega
  have h2 : (0 : Int) ≤ (l.length : Int):=by omega
  have h3 : ((l.length : Int)).toNat ≤ 281474976710656:=by omega
  unfold install_New.f hopmeshref49_New.f install_identifier.f hopmeshref49_Identifier.f
  rw [Option.bind_some,Option.bind_some,b1,b2,Option.bind_some,Option.bind_some,hc]
  cases c1 : ((id.size : Int) == 32) with
  | false => exact ⟨_,_,_,_,_,_,_,rfl,rfl,small0⟩
  | true =>
    cases b with
    | false => exact ⟨_,_,_,_,_,_,_,rfl,rfl,small0⟩
    | true =>
      refine ⟨id,l,List.replicate l.length false,List.replicate l.length false,0,0,0,?_,?_,hl,by rw [List.length_replicate];exact hl,by rw [List.length_replicate];exact hl⟩
      · rw [if_pos rfl,if_pos rfl,Option.bind_some,if_pos h2,if_pos h3,Int.toNat_natCast]
      · rw [if_pos rfl,if_pos rfl,Option.bind_some,if_pos h1,if_pos h2,if_pos h3,Int.toNat_natCast,List.nil_append]
theorem report_both (node : Int) (name : ByteArray) (hl : l.length ≤ 40) (hd : d.length ≤ 40) (ht : t.length ≤ 40) (K : Nat) (hK : 120 ≤ K) : ∃ a x y z p q e,install_Report.f K id l d t m s node name = some (a,x,y,z,p,q,e) ∧ hopmeshref49_Report.f K id l d t m s node name = some (a,x,y,z,p,q,e) ∧ Small x y z:=by
  unfold install_Report.f hopmeshref49_Report.f
  rcases find_both id l d t m s node hl hd ht K hK with ⟨r,f1,f2,r0,r1,fit⟩ | ⟨e,he,f1,f2⟩
  · rw [f1,f2,Option.bind_some,Option.bind_some,if_pos rfl,if_pos rfl,clone_val id l d t m s hl hd ht,Option.bind_some,if_pos r0,if_pos (show r < (d.length : Int) by rw [fit.dl];exact r1)]
    exact ⟨_,_,_,_,_,_,_,rfl,rfl,hl,by rw [List.length_set];exact hd,ht⟩
  · rw [f1,f2,Option.bind_some,Option.bind_some,if_neg he,if_neg he]
    exact ⟨_,_,_,_,_,_,_,rfl,rfl,small0⟩
theorem set_same (x : List Bool) (r : Int) (b : Bool) (h : rdOf false x r = b) : x.set r.toNat b = x:=by
  rcases Nat.lt_or_ge r.toNat x.length with c | c
  · have e : x[r.toNat] = b:=by
      unfold rdOf at h
      rw [List.getD_eq_getElem?_getD,List.getElem?_eq_getElem c] at h
      exact h
    rw [← e]
    exact List.set_getElem_self c
  · exact List.set_eq_of_length_le c
theorem ack_both (node n : Int) (hl : l.length ≤ 40) (hd : d.length ≤ 40) (ht : t.length ≤ 40) (K : Nat) (hK : 120 ≤ K) : ∃ a x y z p q e,install_Acknowledge.f K id l d t m s node n = some (a,x,y,z,p,q,e) ∧ hopmeshref49_Acknowledge.f K id l d t m s node n = some (a,x,y,z,p,q,e) ∧ Small x y z:=by
  unfold install_Acknowledge.f hopmeshref49_Acknowledge.f
  rcases find_both id l d t m s node hl hd ht K hK with ⟨r,f1,f2,r0,r1,fit⟩ | ⟨e,he,f1,f2⟩
  · rw [f1,f2,Option.bind_some,Option.bind_some,if_pos rfl,if_pos rfl,clone_val id l d t m s hl hd ht,Option.bind_some,if_pos r0,if_pos r0,if_pos (show r < (t.length : Int) by rw [fit.tl];exact r1),if_pos (show r < (t.length : Int) by rw [fit.tl];exact r1)]
    have fm:=fit.m
    have sm : ∀ b,Small l d (t.set r.toNat b):=fun b => ⟨hl,hd,by rw [List.length_set];exact ht⟩
    have stay : ∀ b,rdOf false t r = b → t.set r.toNat b = t:=fun b h => set_same t r b h
    by_cases c1 : n = m
    · rw [if_pos c1]
      by_cases c2 : n > 0
      · rw [if_pos c2]
        refine ⟨_,_,_,_,_,_,_,rfl,?_,sm true⟩
        cases c3 : rdOf false t r with
        | true => rw [if_pos rfl]
        | false => rw [if_neg (by decide),if_pos (show m > 0 by omega),show (n == m) = true from beq_iff_eq.mpr c1]
      · rw [if_neg c2]
        refine ⟨_,_,_,_,_,_,_,rfl,?_,⟨hl,hd,ht⟩⟩
        cases c3 : rdOf false t r with
        | true => rw [if_pos rfl];simp only [stay true c3]
        | false => rw [if_neg (by decide),if_neg (show ¬ m > 0 by omega)];simp only [stay false c3]
    · rw [if_neg c1]
      refine ⟨_,_,_,_,_,_,_,rfl,?_,⟨hl,hd,ht⟩⟩
      cases c3 : rdOf false t r with
      | true => rw [if_pos rfl];simp only [stay true c3]
      | false =>
        rw [if_neg (by decide),show (n == m) = false from beq_eq_false_iff_ne.mpr c1]
        by_cases c4 : m > 0
        · rw [if_pos c4];simp only [stay false c3]
        · rw [if_neg c4];simp only [stay false c3]
  · rw [f1,f2,Option.bind_some,Option.bind_some,if_neg he,if_neg he]
    exact ⟨_,_,_,_,_,_,_,rfl,rfl,small0⟩
theorem send_both (kind slot : Int) (hl : l.length ≤ 40) (hd : d.length ≤ 40) (ht : t.length ≤ 40) (fit : Fit l d t m s) : ∃ a x y z p q b1 b2 b3 b4 b5 e,install_order.f id l d t m s kind slot = some (a,x,y,z,p,q,b1,b2,b3,b4,b5,e) ∧ hopmeshref49_send.f id l d t m s kind slot = some (a,x,y,z,p,q,b1,b2,b3,b4,b5,e) ∧ Small x y z ∧ b5.length ≤ 40:=by
  unfold install_order.f hopmeshref49_send.f slices_Clone_int_int.f
  by_cases c : m = 1048576
  · rw [if_pos c,if_pos c]
    exact ⟨_,_,_,_,_,_,_,_,_,_,_,_,rfl,rfl,small0,by decide⟩
  · rw [if_neg c,if_neg c,own_val id l d t m s hl hd ht,clone_val id l d t m s hl hd ht,Option.bind_some,Option.bind_some,if_pos (show l.length < 17592186044416 by omega),Option.bind_some,if_pos (show (0 : Int) ≤ (l.length : Int) by omega),if_pos (show ((l.length : Int)).toNat ≤ 281474976710656 by omega),Option.bind_some,if_pos (show ([] : List Int).length + l.length < 17592186044416 by simp;omega),List.nil_append,Int.toNat_natCast,fit.tl]
    exact ⟨_,_,_,_,_,_,_,_,_,_,_,_,rfl,rfl,⟨hl,hd,by rw [List.length_replicate];exact hl⟩,hl⟩
theorem order_both (slot : Int) (hl : l.length ≤ 40) (hd : d.length ≤ 40) (ht : t.length ≤ 40) (K : Nat) (hK : 120 ≤ K) : ∃ a x y z p q b1 b2 b3 b4 b5 e,install_Order.f K id l d t m s slot = some (a,x,y,z,p,q,b1,b2,b3,b4,b5,e) ∧ hopmeshref49_Order.f K id l d t m s slot = some (a,x,y,z,p,q,b1,b2,b3,b4,b5,e) ∧ Small x y z ∧ b5.length ≤ 40:=by
  obtain ⟨v,v1,v2,hv⟩:=valid_both id l d t m s hl ht K hK
  obtain ⟨b,r1,r2⟩:=ready_both id l d t m s hl hd ht K hK
  unfold install_Order.f hopmeshref49_Order.f
  rw [v1,v2,Option.bind_some,Option.bind_some,r1,r2,Option.bind_some,Option.bind_some]
  rcases hv with ⟨rfl,fit⟩ | rfl
  · rw [if_pos rfl,if_pos rfl]
    cases b with
    | false =>
      rw [if_neg (by decide),if_neg (by decide)]
      exact ⟨_,_,_,_,_,_,_,_,_,_,_,_,rfl,rfl,small0,by decide⟩
    | true =>
      rw [if_pos rfl,if_pos rfl]
      by_cases c1 : slot < 1
      · rw [if_pos c1,if_pos c1]
        exact ⟨_,_,_,_,_,_,_,_,_,_,_,_,rfl,rfl,small0,by decide⟩
      · rw [if_neg c1,if_neg c1]
        by_cases c2 : slot > 1073741824
        · rw [if_pos c2,if_pos c2]
          exact ⟨_,_,_,_,_,_,_,_,_,_,_,_,rfl,rfl,small0,by decide⟩
        · rw [if_neg c2,if_neg c2]
          obtain ⟨a,x,y,z,p,q,b1,b2,b3,b4,b5,e,s1,s2,sm,s5⟩:=send_both id l d t m s 1 slot hl hd ht fit
          rw [s1,s2]
          exact ⟨_,_,_,_,_,_,_,_,_,_,_,_,rfl,rfl,sm,s5⟩
  · rw [if_neg (by decide),if_neg (by decide)]
    exact ⟨_,_,_,_,_,_,_,_,_,_,_,_,rfl,rfl,small0,by decide⟩
theorem withdraw_both (hl : l.length ≤ 40) (hd : d.length ≤ 40) (ht : t.length ≤ 40) (K : Nat) (hK : 120 ≤ K) : ∃ a x y z p q b1 b2 b3 b4 b5 e,install_Withdraw.f K id l d t m s = some (a,x,y,z,p,q,b1,b2,b3,b4,b5,e) ∧ hopmeshref49_Withdraw.f K id l d t m s = some (a,x,y,z,p,q,b1,b2,b3,b4,b5,e) ∧ Small x y z ∧ b5.length ≤ 40:=by
  obtain ⟨v,v1,v2,hv⟩:=valid_both id l d t m s hl ht K hK
  unfold install_Withdraw.f hopmeshref49_Withdraw.f
  rw [v1,v2,Option.bind_some,Option.bind_some]
  rcases hv with ⟨rfl,fit⟩ | rfl
  · rw [if_pos rfl,if_pos rfl]
    by_cases c1 : s = 0
    · rw [if_pos c1,if_pos c1]
      exact ⟨_,_,_,_,_,_,_,_,_,_,_,_,rfl,rfl,small0,by decide⟩
    · rw [if_neg c1,if_neg c1]
      obtain ⟨a,x,y,z,p,q,b1,b2,b3,b4,b5,e,s1,s2,sm,s5⟩:=send_both id l d t m s 2 0 hl hd ht fit
      rw [s1,s2]
      exact ⟨_,_,_,_,_,_,_,_,_,_,_,_,rfl,rfl,sm,s5⟩
  · rw [if_neg (by decide),if_neg (by decide)]
    exact ⟨_,_,_,_,_,_,_,_,_,_,_,_,rfl,rfl,small0,by decide⟩
section
variable (hl : l.length ≤ 40) (hd : d.length ≤ 40) (ht : t.length ≤ 40)
include hl hd ht
theorem way4 (K : Nat) (hK : 200 ≤ K) : hopmeshlaw49_InstallBoards.j4 K false id l d t m s = some true:=by
  obtain ⟨k,rfl⟩ : ∃ k,K = k + 1:=⟨K - 1,by omega⟩
  obtain ⟨a,x,y,z,p,q,b1,b2,b3,b4,b5,e,s1,s2,sm,s5⟩:=withdraw_both id l d t m s hl hd ht k (by omega)
  unfold Small at sm
  have e1:=same_board a x y z p q (by omega) (by omega) (by omega) k (by omega)
  have e2:=same_command b4 b5 b1 b2 b3 (by omega) k (by omega)
  unfold hopmeshlaw49_InstallBoards.j4
  show (if false = true then _ else _) = _
  rw [if_neg (by decide),s1,Option.bind_some,s2,Option.bind_some,e1,Option.bind_some,if_pos rfl,e2,Option.bind_some,if_pos rfl,beq_self_eq_true]
theorem way3 (slot : Int) (K : Nat) (hK : 210 ≤ K) : hopmeshlaw49_InstallBoards.j3 K slot false id l d t m s = some true:=by
  obtain ⟨k,rfl⟩ : ∃ k,K = k + 1:=⟨K - 1,by omega⟩
  obtain ⟨a,x,y,z,p,q,b1,b2,b3,b4,b5,e,s1,s2,sm,s5⟩:=order_both id l d t m s slot hl hd ht k (by omega)
  unfold Small at sm
  have e1:=same_board a x y z p q (by omega) (by omega) (by omega) k (by omega)
  have e2:=same_command b4 b5 b1 b2 b3 (by omega) k (by omega)
  unfold hopmeshlaw49_InstallBoards.j3
  show (if false = true then _ else _) = _
  rw [if_neg (by decide),s1,Option.bind_some,s2,Option.bind_some,e1,Option.bind_some,if_pos rfl,e2,Option.bind_some,if_pos rfl,bne_self_eq_false]
  exact way4 id l d t m s hl hd ht k (by omega)
theorem way2 (node slot : Int) (K : Nat) (hK : 220 ≤ K) : hopmeshlaw49_InstallBoards.j2 K node slot false id l d t m s = some true:=by
  obtain ⟨k,rfl⟩ : ∃ k,K = k + 1:=⟨K - 1,by omega⟩
  obtain ⟨a,x,y,z,p,q,e,s1,s2,sm⟩:=ack_both id l d t m s node slot hl hd ht k (by omega)
  unfold Small at sm
  have e1:=same_board a x y z p q (by omega) (by omega) (by omega) k (by omega)
  unfold hopmeshlaw49_InstallBoards.j2
  show (if false = true then _ else _) = _
  rw [if_neg (by decide),s1,Option.bind_some,s2,Option.bind_some,e1,Option.bind_some,if_pos rfl,bne_self_eq_false]
  exact way3 id l d t m s hl hd ht slot k (by omega)
theorem way1 (name : ByteArray) (node slot : Int) (K : Nat) (hK : 230 ≤ K) : hopmeshlaw49_InstallBoards.j1 K name node slot false id l d t m s = some true:=by
  obtain ⟨k,rfl⟩ : ∃ k,K = k + 1:=⟨K - 1,by omega⟩
  obtain ⟨a,x,y,z,p,q,e,s1,s2,sm⟩:=report_both id l d t m s node name hl hd ht k (by omega)
  unfold Small at sm
  have e1:=same_board a x y z p q (by omega) (by omega) (by omega) k (by omega)
  unfold hopmeshlaw49_InstallBoards.j1
  show (if false = true then _ else _) = _
  rw [if_neg (by decide),s1,Option.bind_some,s2,Option.bind_some,e1,Option.bind_some,if_pos rfl,bne_self_eq_false]
  exact way2 id l d t m s hl hd ht node slot k (by omega)
end
end
theorem awake_more (K : Nat) (hK : 62 ≤ K) : hopmeshlaw49_awake.f K = some true := by
  obtain ⟨k, rfl⟩ : ∃ k, K = k + 62 := ⟨K - 62, by omega⟩
  kernel_rfl
theorem j0_t (k : Nat) (name : ByteArray) (node slot : Int) (id : ByteArray) (l : List Int) (d t : List Bool) (m s : Int) : hopmeshlaw49_InstallBoards.j0 (k + 1) name node slot true id l d t m s = (hopmeshlaw49_awake.f k).bind fun r => some r:=rfl
theorem way0 (name : ByteArray) (node slot : Int) (id : ByteArray) (l : List Int) (d t : List Bool) (m s : Int) (hl : l.length ≤ 40) (hd : d.length ≤ 40) (ht : t.length ≤ 40) (K : Nat) (hK : 240 ≤ K) : hopmeshlaw49_InstallBoards.j0 K name node slot false id l d t m s = some true:=by
  obtain ⟨k,rfl⟩ : ∃ k,K = k + 1:=⟨K - 1,by omega⟩
  obtain ⟨a,x,y,z,p,q,e,s1,s2,sm⟩:=new_both name l hl k (by omega)
  obtain ⟨v,v1,v2,_⟩:=valid_both id l d t m s hl ht k (by omega)
  obtain ⟨b,r1,r2⟩:=ready_both id l d t m s hl hd ht k (by omega)
  obtain ⟨c,a1,a2⟩:=agreed_both id l d t m s hl ht k (by omega)
  unfold Small at sm
  have e1:=same_board a x y z p q (by omega) (by omega) (by omega) k (by omega)
  have w:=way1 id l d t m s hl hd ht name node slot k (by omega)
  unfold hopmeshlaw49_InstallBoards.j0
  show (if false = true then _ else _) = _
  rw [if_neg (by decide),s1,Option.bind_some,s2,Option.bind_some,e1,Option.bind_some,if_pos rfl,if_pos rfl,v1,Option.bind_some,v2,Option.bind_some,if_pos rfl,r1,Option.bind_some,r2,Option.bind_some,if_neg (by simp),a1,Option.bind_some,a2,Option.bind_some,bne_self_eq_false]
  exact w
theorem boards (K : Nat) (hK : 300 ≤ K) (id : ByteArray) (l : List Int) (d t : List Bool) (m s : Int) (name : ByteArray) (node slot : Int) : hopmeshlaw49_InstallBoards.f K id l d t m s name node slot = some true:=by
  obtain ⟨k,rfl⟩ : ∃ k,K = k + 1:=⟨K - 1,by omega⟩
  have aw : hopmeshlaw49_InstallBoards.j0 (k + 1) name node slot true id l d t m s = some true:=by rw [j0_t,awake_more k (by omega),Option.bind_some]
  unfold hopmeshlaw49_InstallBoards.f hopmeshref49_FewBoard.f
  rw [awake_more (k + 1) (by omega),Option.bind_some,if_pos rfl]
  by_cases c1 : (id.size : Int) ≤ 100
  · rw [if_pos c1]
    by_cases c2 : (l.length : Int) ≤ 40
    · rw [if_pos c2]
      by_cases c3 : (d.length : Int) ≤ 40
      · rw [if_pos c3,Option.bind_some]
        by_cases c4 : (t.length : Int) ≤ 40
        · rw [decide_eq_true c4,if_pos rfl]
          by_cases c5 : (name.size : Int) > 100
          · rw [decide_eq_true c5];exact aw
          · rw [decide_eq_false c5]
            exact way0 name node slot id l d t m s (by omega) (by omega) (by omega) (k + 1) (by omega)
        · rw [decide_eq_false c4,if_neg (by decide)];exact aw
      · rw [if_neg c3,Option.bind_some,if_neg (by decide)];exact aw
    · rw [if_neg c2,Option.bind_some,if_neg (by decide)];exact aw
  · rw [if_neg c1,Option.bind_some,if_neg (by decide)];exact aw
end Go.Proofs.Ytdigplhjfjchnaa.PureB
