/-
  A board (a string, a row of numbers, two rows of Bools, two numbers) as an argument of a law: opened to what the walks speak of. No condition.
-/
import Derived.Test.YtdigplhjfjchnaaOpen
namespace Go.Proofs.Ytdigplhjfjchnaa.Open
open Go.Joins Go.ChangeShapes Go.WideShapes Go.RowKit Go.Deep Go.Proofs.Ytdigplhjfjchnaa.PQ Go.Proofs.YtdigplhjfjchnaaW.PrintWords
theorem array6 {α : Type} {cs : Array α} (h : cs.size = 6) : ∃ c0 c1 c2 c3 c4 c5,cs = #[c0,c1,c2,c3,c4,c5]:=by
  obtain ⟨l⟩:=cs
  match l,h with
  | [c0,c1,c2,c3,c4,c5],_ => exact ⟨c0,c1,c2,c3,c4,c5,rfl⟩
section
variable {H : Type} {enc : TypeId × Value → H} {P : Program} {w : World} {base : Nat} {spare : Nat → Bool} {held : Bool}
theorem trod_struct6 {t : TypeId} {f0 f1 f2 f3 f4 f5 : Field} {fuel : Nat} {cs : List Value} {x : DataW H × List MemPlace} (ht : P.underlying t = some (.struct #[f0,f1,f2,f3,f4,f5])) (h : DataW.trod enc P w base spare held fuel t cs = some x) :
    ∃ y0 y1 y2 y3 y4 y5 n,cs.length = P.cellsOf t ∧ DataW.trod enc P w base spare held n f0.type ((cs.drop f0.offset).take (P.cellsOf f0.type)) = some y0 ∧
      DataW.trod enc P w base spare held n f1.type ((cs.drop f1.offset).take (P.cellsOf f1.type)) = some y1 ∧ DataW.trod enc P w base spare held n f2.type ((cs.drop f2.offset).take (P.cellsOf f2.type)) = some y2 ∧
      DataW.trod enc P w base spare held n f3.type ((cs.drop f3.offset).take (P.cellsOf f3.type)) = some y3 ∧ DataW.trod enc P w base spare held n f4.type ((cs.drop f4.offset).take (P.cellsOf f4.type)) = some y4 ∧
      DataW.trod enc P w base spare held n f5.type ((cs.drop f5.offset).take (P.cellsOf f5.type)) = some y5:=by
  obtain ⟨xs,n,_,rfl,hl,hlen,hf⟩:=DataW.trod_struct ht h
  match xs,hlen with
  | [y0,y1,y2,y3,y4,y5],_ => exact ⟨y0,y1,y2,y3,y4,y5,n,hl,by simpa using hf 0 f0 rfl,by simpa using hf 1 f1 rfl,by simpa using hf 2 f2 rfl,by simpa using hf 3 f3 rfl,by simpa using hf 4 f4 rfl,by simpa using hf 5 f5 rfl⟩
theorem open_agg6 {r : Reach} {b0 : Nat} {t : TypeId} {f0 f1 f2 f3 f4 f5 : Field} {v : Value} {d : DataW H} {p : List MemPlace} (hs : P.underlying t = some (.struct #[f0,f1,f2,f3,f4,f5])) (hone : oneCellFields P #[f0,f1,f2,f3,f4,f5] = true) (hC : P.cellsOf t = 6)
    (hv : Value.okWide P w r b0 t v) (h : DataW.Trod enc P w base spare held t v d p) :
    ∃ (v0 v1 v2 v3 v4 v5 : Value) (y0 y1 y2 y3 y4 y5 : DataW H × List MemPlace) (n : Nat),v = .agg #[v0,v1,v2,v3,v4,v5] ∧
      DataW.trod enc P w base spare held n f0.type [v0] = some y0 ∧ DataW.trod enc P w base spare held n f1.type [v1] = some y1 ∧ DataW.trod enc P w base spare held n f2.type [v2] = some y2 ∧ DataW.trod enc P w base spare held n f3.type [v3] = some y3 ∧ DataW.trod enc P w base spare held n f4.type [v4] = some y4 ∧ DataW.trod enc P w base spare held n f5.type [v5] = some y5:=by
  obtain ⟨cs,rfl,hsz⟩:=okWide_struct hs hv
  obtain ⟨c0,c1,c2,c3,c4,c5,rfl⟩:=array6 (hsz.trans hC)
  obtain ⟨fuel,hf⟩:=h
  obtain ⟨y0,y1,y2,y3,y4,y5,n,_,h0,h1,h2,h3,h4,h5⟩:=trod_struct6 hs hf
  obtain ⟨o0,k0⟩:=hone_of hone 0 f0 rfl
  obtain ⟨o1,k1⟩:=hone_of hone 1 f1 rfl
  obtain ⟨o2,k2⟩:=hone_of hone 2 f2 rfl
  obtain ⟨o3,k3⟩:=hone_of hone 3 f3 rfl
  obtain ⟨o4,k4⟩:=hone_of hone 4 f4 rfl
  obtain ⟨o5,k5⟩:=hone_of hone 5 f5 rfl
  exact ⟨c0,c1,c2,c3,c4,c5,y0,y1,y2,y3,y4,y5,n,rfl,by simpa [Value.cells,o0,k0] using h0,by simpa [Value.cells,o1,k1] using h1,by simpa [Value.cells,o2,k2] using h2,by simpa [Value.cells,o3,k3] using h3,by simpa [Value.cells,o4,k4] using h4,by simpa [Value.cells,o5,k5] using h5⟩
end
section
variable {H : Type} {enc : TypeId × Value → H} {w : World} {base : Nat} {spare : Nat → Bool} {held : Bool}
def boolIn (y : DataW H × List MemPlace) : Bool:=match y.1 with | .lit (.bool b) => b | _ => false
theorem bools_cell {fuel : Nat} {v : Value} {x : DataW H × List MemPlace} (hf : DataW.trod enc Try.prog w base spare held fuel 22 [v] = some x) :
    ∃ (A : Option Addr) (c : Nat) (zs : List Bool),v = .slice A zs.length c ∧ zs.length ≤ c ∧ Kd.C Kd.bool w A zs.length zs:=by
  rcases DataW.trod_slice Try.underlying22 hf with ⟨hcs,_⟩ | ⟨a,len,cap,elems,rest,n,_,hcs,hx,hb,hl,hm,hlen,hel,_,_⟩
  · obtain rfl : v = .slice none 0 0:=by simpa using hcs
    exact ⟨none,0,[],rfl,Nat.le_refl _,⟨rfl,by simp,fun h => absurd h (by simp)⟩⟩
  · obtain rfl : v = .slice (some a) len cap:=by simpa using hcs
    have hm':=maxLen_le
    have lz : (elems.map boolIn).length = len:=by rw [List.length_map];exact hlen
    refine ⟨some a,cap,elems.map boolIn,by rw [lz],by omega,⟨rfl,by omega,fun _ => ⟨a,rfl,fun j p hp => ?_⟩⟩⟩
    rw [List.getElem?_map] at hp
    cases hy : elems[j]? with
    | none => rw [hy] at hp;cases hp
    | some y =>
      rw [hy] at hp
      have hj : j < len:=by
        rcases Nat.lt_or_ge j len with hj | hj
        · exact hj
        · rw [List.getElem?_eq_none (by omega)] at hy
          cases hy
      have he:=hel j hj
      rw [hy,show Try.prog.cellsOf 4 = 1 by kernel_rfl,Nat.mul_one,Option.bind_eq_some_iff] at he
      obtain ⟨cs,hc,ht⟩:=he
      obtain ⟨b,rfl,rfl⟩:=DataW.trod_bool Try.underlying4 ht
      have hcell:=cell_of_cells?_one hc
      obtain rfl : b = p:=by simpa [boolIn] using hp
      refine ⟨[.bool b],rfl,rfl,fun i u hu => ?_⟩
      have hi : i = 0:=by
        rcases Nat.eq_zero_or_pos i with hi | hi
        · exact hi
        · rw [List.getElem?_eq_none (show [Value.bool b].length ≤ i from hi)] at hu
          cases hu
      subst hi
      rw [show j * Kd.bool.sz + 0 = j from Nat.mul_one j,hcell]
      simp at hu
      rw [← hu]
theorem cells50 : Try.prog.cellsOf 50 = 6:=by kernel_rfl
set_option maxRecDepth 100000 in
theorem board_open {b0 : Nat} {r : Reach} {v : Value} {d : DataW H} {p : List MemPlace} (hs : ∀ b,spare b = true) (hv : Value.okWide Try.prog w r b0 50 v) (h : DataW.Trod enc Try.prog w base spare held 50 v d p) :
    ∃ (id : ByteArray) (A1 : Option Addr) (c1 : Nat) (l1 : List Int) (A2 : Option Addr) (c2 : Nat) (l2 : List Bool) (A3 : Option Addr) (c3 : Nat) (l3 : List Bool) (m s : Int),
      v = .agg #[.string id,.slice A1 l1.length c1,.slice A2 l2.length c2,.slice A3 l3.length c3,.int .i64 m,.int .i64 s] ∧ Kd.C (Kd.int .i64) w A1 l1.length l1 ∧ l1.length ≤ c1 ∧ Kd.C Kd.bool w A2 l2.length l2 ∧ l2.length ≤ c2 ∧ Kd.C Kd.bool w A3 l3.length l3 ∧ l3.length ≤ c3:=by
  obtain ⟨c0,c1,c2,c3,c4,c5,y0,y1,y2,y3,y4,y5,m,rfl,h0,h1,h2,h3,h4,h5⟩:=open_agg6 Try.underlying50 (by kernel_rfl) cells50 hv h
  obtain ⟨id,e0,_,_⟩:=Go.DataW.trod_string Try.underlying9 h0
  obtain ⟨n,e4,_,_⟩:=DataW.trod_int Try.underlying3 h4
  obtain ⟨k,e5,_,_⟩:=DataW.trod_int Try.underlying3 h5
  simp at e0 e4 e5
  subst e0 e4 e5
  obtain ⟨A1,q1,l1,rfl,g1,r1,_⟩:=ints_open h1 hs
  obtain ⟨A2,q2,l2,rfl,g2,r2⟩:=bools_cell h2
  obtain ⟨A3,q3,l3,rfl,g3,r3⟩:=bools_cell h3
  exact ⟨id,A1,q1,l1,A2,q2,l2,A3,q3,l3,n,k,rfl,r1,g1,r2,g2,r3,g3⟩
end
end Go.Proofs.Ytdigplhjfjchnaa.Open
