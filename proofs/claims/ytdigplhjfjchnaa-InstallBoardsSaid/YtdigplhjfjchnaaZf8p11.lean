-- Printed by fprint.py and zip.py, programs of this session's, over the kit's print; Lean checks it.
import Derived.Test.YtdigplhjfjchnaaZf8p15
namespace Go.Proofs.Ytdigplhjfjchnaa.PQ
open Go.RowKit Go.Proofs.YtdigplhjfjchnaaW.PrintWords Go.Proofs.YtdigplhjfjchnaaW.PrintLast Go.Proofs.YtdigplhjfjchnaaW.PrintMore
attribute [local go_sem] max2_int min2_int max_two min_two max_three min_three max_four min_four   -- for this text's walks alone
set_option linter.unusedVariables false
set_option linter.unusedSimpArgs false
set_option maxHeartbeats 8000000 in
set_option maxRecDepth 100000 in
theorem hopmeshlaw49_InstallBoards.part11 (k : Nat) (a0_0 : ByteArray) (A0_1 : Option Addr) (c0_1 : Nat) (l0_1 : List Int) (A0_2 : Option Addr) (c0_2 : Nat) (l0_2 : List Bool) (A0_3 : Option Addr) (c0_3 : Nat) (l0_3 : List Bool) (a0_4 a0_5 : Int) (a1 : ByteArray) (a2 a3 : Int) (r : Bool) (w : World) (gb893 kj4 gb910 gb924 kj22 : Nat) (t932 : ByteArray) (t933 : List Int) (t936 : List Bool) (t939 : List Bool) (t942 t943 t944 : Int) (t945 : ByteArray) (t946 : List Int) (t949 : List Bool) (t952 : List Bool) (t955 t956 t957 : Int) (Ao90 : Option Addr) (co90 : Nat) (Ao91 : Option Addr) (co91 : Nat) (Ao92 : Option Addr) (co92 : Nat) (Ao97 : Option Addr) (co97 : Nat) (Ao98 : Option Addr) (co98 : Nat) (Ao99 : Option Addr) (co99 : Nat) (wc : World) (kj82 : Nat) (t959 : ByteArray) (t960 : List Int) (t963 : List Bool) (t966 : List Bool) (t969 t970 t971 : Int) (t972 : ByteArray) (t973 : List Int) (t976 : List Bool) (t979 : List Bool) (t982 t983 t984 : Int) (U15 U16 U17 U18 U19 U20 U21 U22 U23 U24 U25 U26 U27 U28 U29 U30 U31 U32 U33 U34 U35 U36 U37 U38 U39 U40 U41 U42 U43 U44 U45 U46 U47 U48 U49 U50 U51 U52 U53 U54 U55 U56 U57 U58 U59 U60 U61 U62 U63 U64 U65 U66 U67 U68 U69 U70 U71 U72 U73 U74 U75 U76 U77 U78 U79 U80 U81 U82 U83 U84 U85 U86 U87 U88 U89 U90 U91 U92 U93 U95 U96 U97 U98 U99 U100 U101 U102 U103 U104 U105 U106 U107 U108 U109 U110 U111 U112 U113 U114 U115 U116 U117 U118 U119 U120 U121 U122 U123 U124 U125 U126 U127 U128 U129 U130 U131 U132 U133 U134 U135 U136 U137 U138 U139 U140 U141 U142 U143 U144 U145 U146 U147 U148 U149 U150 U151 U152 U153 U154 U155 U156 U157 U158 U159 U160 U161 U162 U163 U164 U165 U166 U167 U168 U169 U170 U171 : Value) (HR0_1 : Aside0 (Kd.C (Kd.int IntKind.i64) w A0_1 (List.length l0_1) l0_1)) (HC0_1 : Aside0 (List.length l0_1 ≤ c0_1)) (HR0_2 : Aside0 (Kd.C Kd.bool w A0_2 (List.length l0_2) l0_2)) (HC0_2 : Aside0 (List.length l0_2 ≤ c0_2)) (HR0_3 : Aside0 (Kd.C Kd.bool w A0_3 (List.length l0_3) l0_3)) (HC0_3 : Aside0 (List.length l0_3 ≤ c0_3)) (GE893 : Aside0 (Array.size (World.heap w) ≤ gb893)) (HJ4 : Aside0 (kj4 + (1 : Nat) ≤ k)) (GE910 : Aside0 (Array.size (World.heap w) ≤ gb910)) (NB893_910 : Aside0 (gb893 ≠ gb910)) (NB910_893 : Aside0 (gb910 ≠ gb893)) (GE924 : Aside0 (Array.size (World.heap w) ≤ gb924)) (NB893_924 : Aside0 (gb893 ≠ gb924)) (NB924_893 : Aside0 (gb924 ≠ gb893)) (NB910_924 : Aside0 (gb910 ≠ gb924)) (NB924_910 : Aside0 (gb924 ≠ gb910)) (HJ22 : Aside0 (kj22 + (1 : Nat) ≤ kj4)) (HO_911001 : Aside0 (Kd.R (Kd.int IntKind.i64) (3 : Nat) wc (Array.size (World.heap w)) (fun (k_ : Nat) => some k_ ≠ Value.ownBlock (Value.slice Ao97 (List.length t946) co97)) (Value.slice Ao90 (List.length t933) co90) t933)) (HO_911002 : Aside0 (Kd.R Kd.bool (4 : Nat) wc (Array.size (World.heap w)) (fun (k_ : Nat) => some k_ ≠ Value.ownBlock (Value.slice Ao92 (List.length t939) co92) ∧ some k_ ≠ Value.ownBlock (Value.slice Ao98 (List.length t949) co98) ∧ some k_ ≠ Value.ownBlock (Value.slice Ao99 (List.length t952) co99)) (Value.slice Ao91 (List.length t936) co91) t936)) (HO_911003 : Aside0 (Kd.R Kd.bool (4 : Nat) wc (Array.size (World.heap w)) (fun (k_ : Nat) => some k_ ≠ Value.ownBlock (Value.slice Ao91 (List.length t936) co91) ∧ some k_ ≠ Value.ownBlock (Value.slice Ao98 (List.length t949) co98) ∧ some k_ ≠ Value.ownBlock (Value.slice Ao99 (List.length t952) co99)) (Value.slice Ao92 (List.length t939) co92) t939)) (HO_925001 : Aside0 (Kd.R (Kd.int IntKind.i64) (3 : Nat) wc (Array.size (World.heap w)) (fun (k_ : Nat) => some k_ ≠ Value.ownBlock (Value.slice Ao90 (List.length t933) co90)) (Value.slice Ao97 (List.length t946) co97) t946)) (HO_925002 : Aside0 (Kd.R Kd.bool (4 : Nat) wc (Array.size (World.heap w)) (fun (k_ : Nat) => some k_ ≠ Value.ownBlock (Value.slice Ao91 (List.length t936) co91) ∧ some k_ ≠ Value.ownBlock (Value.slice Ao92 (List.length t939) co92) ∧ some k_ ≠ Value.ownBlock (Value.slice Ao99 (List.length t952) co99)) (Value.slice Ao98 (List.length t949) co98) t949)) (HO_925003 : Aside0 (Kd.R Kd.bool (4 : Nat) wc (Array.size (World.heap w)) (fun (k_ : Nat) => some k_ ≠ Value.ownBlock (Value.slice Ao91 (List.length t936) co91) ∧ some k_ ≠ Value.ownBlock (Value.slice Ao92 (List.length t939) co92) ∧ some k_ ≠ Value.ownBlock (Value.slice Ao98 (List.length t949) co98)) (Value.slice Ao99 (List.length t952) co99) t952)) (BK893 : Aside0 ((World.heap wc)[gb893]? = some (Obj.cells #[Value.string a0_0,Value.slice A0_1 (List.length l0_1) c0_1,Value.slice A0_2 (List.length l0_2) c0_2,Value.slice A0_3 (List.length l0_3) c0_3,Value.int IntKind.i64 a0_4,Value.int IntKind.i64 a0_5] (50 : TypeId)))) (BK910 : Aside0 ((World.heap wc)[gb910]? = some (Obj.cells #[Value.string t932,Value.slice Ao90 (List.length t933) co90,Value.slice Ao91 (List.length t936) co91,Value.slice Ao92 (List.length t939) co92,Value.int IntKind.i64 t942,Value.int IntKind.i64 t943] (50 : TypeId)))) (BK924 : Aside0 ((World.heap wc)[gb924]? = some (Obj.cells #[Value.string t945,Value.slice Ao97 (List.length t946) co97,Value.slice Ao98 (List.length t949) co98,Value.slice Ao99 (List.length t952) co99,Value.int IntKind.i64 t955,Value.int IntKind.i64 t956] (50 : TypeId)))) (HB : Aside0 (Below (Array.size (World.heap w)) w wc)) (HJ82 : Aside0 (kj82 + (1 : Nat) ≤ kj22)) (A115 : Aside0 (install_Acknowledge.f kj82 a0_0 l0_1 l0_2 l0_3 a0_4 a0_5 a2 a3 = some (t959,t960,t963,t966,t969,t970,t971))) (A116 : Aside0 (hopmeshref49_Acknowledge.f kj82 a0_0 l0_1 l0_2 l0_3 a0_4 a0_5 a2 a3 = some (t972,t973,t976,t979,t982,t983,t984))) (HC117 : Aside0 ((Option.bind (hopmeshref49_SameBoard.f kj82 t959 t960 t963 t966 t969 t970 t972 t973 t976 t979 t982 t983) fun (t985 : Bool) => if t985 = true then j3 kj82 a3 (t971 != t984) a0_0 l0_1 l0_2 l0_3 a0_4 a0_5 else j3 kj82 a3 true a0_0 l0_1 l0_2 l0_3 a0_4 a0_5) = some r)) (z747_ : Act → World → Prop) (cc0_ cc1_ : Code) :
 let z26_ : Exit → Act → World → Prop:=bodyPost Try.prog Try.f8 fun (e : Ending) (w' : World) => e = Ending.returned (Value.bool r) ∧ Below (Array.size (World.heap w)) w w';(∀ (a : Act) (w : World),Code.wp Try.prog cc1_ z26_ a w → z747_ a w) → Option.bind Try.f8.body (codeAt [1,1,1,1,1,1,1,1,0]) = some cc0_ → Option.bind Try.f8.body (codeAt [1,1,1,1,1,1,1,1,1]) = some cc1_ → Code.wp Try.prog cc0_ (Exit.then z747_ z26_) ⟨#[Value.agg #[Value.string a0_0,Value.slice A0_1 (List.length l0_1) c0_1,Value.slice A0_2 (List.length l0_2) c0_2,Value.slice A0_3 (List.length l0_3) c0_3,Value.int IntKind.i64 a0_4,Value.int IntKind.i64 a0_5],Value.string a1,Value.int IntKind.i64 a2,Value.int IntKind.i64 a3,Value.pointer (some { block:=gb893,off:=(0 : Nat) }),undef,undef,undef,Value.bool false,Value.pointer (some { block:=gb910,off:=(0 : Nat) }),Value.int IntKind.i64 t944,Value.pointer (some { block:=gb924,off:=(0 : Nat) }),Value.int IntKind.i64 t957,undef,undef,U15,U16,U17,U18,U19,U20,U21,U22,U23,U24,U25,U26,U27,U28,U29,U30,U31,U32,U33,U34,U35,U36,U37,U38,U39,U40,U41,U42,U43,U44,U45,U46,U47,U48,U49,U50,U51,U52,U53,U54,U55,U56,U57,U58,U59,U60,U61,U62,U63,U64,U65,U66,U67,U68,U69,U70,U71,U72,U73,U74,U75,U76,U77,U78,U79,U80,U81,U82,U83,U84,U85,U86,U87,U88,U89,U90,U91,U92,U93,Value.bool false,U95,U96,U97,U98,U99,U100,U101,U102,U103,U104,U105,U106,U107,U108,U109,U110,U111,U112,U113,U114,U115,U116,U117,U118,U119,U120,U121,U122,U123,U124,U125,U126,U127,U128,U129,U130,U131,U132,U133,U134,U135,U136,U137,U138,U139,U140,U141,U142,U143,U144,U145,U146,U147,U148,U149,U150,U151,U152,U153,U154,U155,U156,U157,U158,U159,U160,U161,U162,U163,U164,U165,U166,U167,U168,U169,U170,U171],[]⟩ (wc):=by
 intro z26_ hk0_ hc0_ hc1_
 conv at hc0_ => lhs;whnf
 replace hc0_:=Option.some.inj hc0_
 subst hc0_
 conv at hc1_ => lhs;whnf
 replace hc1_:=Option.some.inj hc1_
 subst hc1_
 have hu50:=Try.underlying50
 have hu36:=Try.underlying36
 have hnb118:=NB893_910.out
 have hnc118:=NB910_893.out
 have hnb119:=NB893_924.out
 have hnc119:=NB924_893.out
 obtain ⟨z0,z1,z2,z3,z4,z5,y0,y1,y2,y3,y4,y5⟩:=bc6 BK893
 go_upto_region 13 with (first | ((with_reducible refine gate_callee (f:=23) rfl ?_);refine goesL_ (some 99) rfl rfl Try.func23 (by kernel_rfl) rfl #[.agg #[.string a0_0,.slice A0_1 l0_1.length c0_1,.slice A0_2 l0_2.length c0_2,.slice A0_3 l0_3.length c0_3,.int .i64 a0_4,.int .i64 a0_5],.int .i64 a2,.int .i64 a3] rfl sma ?_;(with_reducible refine (install_Acknowledge.calls kj82 a0_0 _ _ l0_1 _ _ l0_2 _ _ l0_3 a0_4 a0_5 a2 a3 t959 t960 t963 t966 t969 t970 t971 _ (cb HR0_1 HB) HC0_1.out (cb HR0_2 HB) HC0_2.out (cb HR0_3 HB) HC0_3.out A115.out).mono ?_);rintro e w121 ⟨v961,v964,v967,rfl,ho0,ho1,ho2,hb⟩;refine ⟨_,rfl,?_⟩;have HO962:=Aside0.mk (Kd.R_lower (Kd.R_new' (Kd.R_new' ho0 (Kd.R_lt (ro HO_911001))) (Kd.R_lt (ro HO_925001))) (below_size (hbx HB)));replace HO_911001:=Aside0.mk (Kd.R_elder' (ro HO_911001) (Kd.R_base ho0) hb);replace HO_925001:=Aside0.mk (Kd.R_elder' (ro HO_925001) (Kd.R_base ho0) hb);have HO965:=Aside0.mk (Kd.R_lower (Kd.R_new' (Kd.R_new' (Kd.R_new' (Kd.R_new' ho1 (Kd.R_lt (ro HO_911002))) (Kd.R_lt (ro HO_911003))) (Kd.R_lt (ro HO_925002))) (Kd.R_lt (ro HO_925003))) (below_size (hbx HB)));have HO968:=Aside0.mk (Kd.R_lower (Kd.R_new' (Kd.R_new' (Kd.R_new' (Kd.R_new' ho2 (Kd.R_lt (ro HO_911002))) (Kd.R_lt (ro HO_911003))) (Kd.R_lt (ro HO_925002))) (Kd.R_lt (ro HO_925003))) (below_size (hbx HB)));replace HO_911002:=Aside0.mk (Kd.R_mono (Kd.R_told (Kd.R_told (Kd.R_old (ro HO_911002) hb) (Kd.R_base ho1)) (Kd.R_base ho2)) (fun _ h_ => h_.1));replace HO_911003:=Aside0.mk (Kd.R_mono (Kd.R_told (Kd.R_told (Kd.R_old (ro HO_911003) hb) (Kd.R_base ho1)) (Kd.R_base ho2)) (fun _ h_ => h_.1));replace HO_925002:=Aside0.mk (Kd.R_mono (Kd.R_told (Kd.R_told (Kd.R_old (ro HO_925002) hb) (Kd.R_base ho1)) (Kd.R_base ho2)) (fun _ h_ => h_.1));replace HO_925003:=Aside0.mk (Kd.R_mono (Kd.R_told (Kd.R_told (Kd.R_old (ro HO_925003) hb) (Kd.R_base ho1)) (Kd.R_base ho2)) (fun _ h_ => h_.1));replace BK893:=bkB BK893 hb;replace BK910:=bkB BK910 hb;replace BK924:=bkB BK924 hb;replace HB:=hbS HB hb;(try clear hb);(try clear hb2);(try clear hk);(try clear hi);(try clear ho0);(try clear ho1);(try clear ho2);have hnb122:=NB910_924.out;have hnc122:=NB924_910.out;obtain ⟨z0,z1,z2,z3,z4,z5,y0,y1,y2,y3,y4,y5⟩:=bc6 BK910;obtain ⟨Ao124,co124,eo124⟩:=Kd.R_slice HO962.out;subst eo124;obtain ⟨Ao125,co125,eo125⟩:=Kd.R_slice HO965.out;subst eo125;obtain ⟨Ao126,co126,eo126⟩:=Kd.R_slice HO968.out;subst eo126) | ((with_reducible refine gate_store (t:=50) (p:=9) rfl ?_);refine store_event (t:=50) (p:=9) (v:=?vo_w127) (w1:=((((((w121.setCell ⟨gb910,0,none⟩ (.string t959)).setCell ⟨gb910,1,none⟩ (.slice Ao124 t960.length co124)).setCell ⟨gb910,2,none⟩ (.slice Ao125 t963.length co125)).setCell ⟨gb910,3,none⟩ (.slice Ao126 t966.length co126)).setCell ⟨gb910,4,none⟩ (.int .i64 t969)).setCell ⟨gb910,5,none⟩ (.int .i64 t970))) ?hg ?ho ?hn ?hr ?_;(case ho => rfl);(case hg => rfl);(case hn => rfl);(case hr => first | (go_simp;done) | (go_simp;rfl));intro w127 hw;have n0_:=rsw HO_911001 hw;have n1_ : Aside0 (Kd.R Kd.bool 4 w127 w.heap.size (fun k_ => some k_ ≠ (.slice Ao92 t939.length co92 : Value).ownBlock ∧ some k_ ≠ (.slice Ao98 t949.length co98 : Value).ownBlock ∧ some k_ ≠ (.slice Ao99 t952.length co99 : Value).ownBlock ∧ some k_ ≠ (.slice Ao125 t963.length co125 : Value).ownBlock ∧ some k_ ≠ (.slice Ao126 t966.length co126 : Value).ownBlock) (.slice Ao91 t936.length co91) t936):=⟨(by rw [hw];exact (Kd.R_mono (rty (rfo HO_911002) BK910) (fun _ hk => ⟨hk.1.1.1.1,⟨hk.1.1.1.2.1,⟨hk.1.1.1.2.2,⟨hk.1.1.2,hk.1.2⟩⟩⟩⟩)))⟩;have n2_ : Aside0 (Kd.R Kd.bool 4 w127 w.heap.size (fun k_ => some k_ ≠ (.slice Ao91 t936.length co91 : Value).ownBlock ∧ some k_ ≠ (.slice Ao98 t949.length co98 : Value).ownBlock ∧ some k_ ≠ (.slice Ao99 t952.length co99 : Value).ownBlock ∧ some k_ ≠ (.slice Ao125 t963.length co125 : Value).ownBlock ∧ some k_ ≠ (.slice Ao126 t966.length co126 : Value).ownBlock) (.slice Ao92 t939.length co92) t939):=⟨(by rw [hw];exact (Kd.R_mono (rty (rfo HO_911003) BK910) (fun _ hk => ⟨hk.1.1.1.1,⟨hk.1.1.1.2.1,⟨hk.1.1.1.2.2,⟨hk.1.1.2,hk.1.2⟩⟩⟩⟩)))⟩;have n3_:=rsw HO_925001 hw;have n4_ : Aside0 (Kd.R Kd.bool 4 w127 w.heap.size (fun k_ => some k_ ≠ (.slice Ao91 t936.length co91 : Value).ownBlock ∧ some k_ ≠ (.slice Ao92 t939.length co92 : Value).ownBlock ∧ some k_ ≠ (.slice Ao99 t952.length co99 : Value).ownBlock ∧ some k_ ≠ (.slice Ao125 t963.length co125 : Value).ownBlock ∧ some k_ ≠ (.slice Ao126 t966.length co126 : Value).ownBlock) (.slice Ao98 t949.length co98) t949):=⟨(by rw [hw];exact (Kd.R_mono (rty (rfo HO_925002) BK910) (fun _ hk => ⟨hk.1.1.1.1,⟨hk.1.1.1.2.1,⟨hk.1.1.1.2.2,⟨hk.1.1.2,hk.1.2⟩⟩⟩⟩)))⟩;have n5_ : Aside0 (Kd.R Kd.bool 4 w127 w.heap.size (fun k_ => some k_ ≠ (.slice Ao91 t936.length co91 : Value).ownBlock ∧ some k_ ≠ (.slice Ao92 t939.length co92 : Value).ownBlock ∧ some k_ ≠ (.slice Ao98 t949.length co98 : Value).ownBlock ∧ some k_ ≠ (.slice Ao125 t963.length co125 : Value).ownBlock ∧ some k_ ≠ (.slice Ao126 t966.length co126 : Value).ownBlock) (.slice Ao99 t952.length co99) t952):=⟨(by rw [hw];exact (Kd.R_mono (rty (rfo HO_925003) BK910) (fun _ hk => ⟨hk.1.1.1.1,⟨hk.1.1.1.2.1,⟨hk.1.1.1.2.2,⟨hk.1.1.2,hk.1.2⟩⟩⟩⟩)))⟩;have n6_ : Aside0 (Kd.R (Kd.int .i64) 3 w127 w.heap.size (fun k_ => some k_ ≠ (.slice Ao90 t933.length co90 : Value).ownBlock ∧ some k_ ≠ (.slice Ao97 t946.length co97 : Value).ownBlock) (.slice Ao124 t960.length co124) t960):=⟨(by rw [hw];exact (Kd.R_mono (rty (rfo HO962) BK910) (fun _ hk => ⟨hk.1.1.2,hk.1.2⟩)))⟩;have n7_ : Aside0 (Kd.R Kd.bool 4 w127 w.heap.size (fun k_ => some k_ ≠ (.slice Ao91 t936.length co91 : Value).ownBlock ∧ some k_ ≠ (.slice Ao92 t939.length co92 : Value).ownBlock ∧ some k_ ≠ (.slice Ao98 t949.length co98 : Value).ownBlock ∧ some k_ ≠ (.slice Ao99 t952.length co99 : Value).ownBlock ∧ some k_ ≠ (.slice Ao126 t966.length co126 : Value).ownBlock) (.slice Ao125 t963.length co125) t963):=⟨(by rw [hw];exact (Kd.R_mono (rty (rfo HO965) BK910) (fun _ hk => ⟨hk.1.1.1.1.2,⟨hk.1.1.1.2,⟨hk.1.1.2,⟨hk.1.2,hk.1.1.1.1.1⟩⟩⟩⟩)))⟩;have n8_ : Aside0 (Kd.R Kd.bool 4 w127 w.heap.size (fun k_ => some k_ ≠ (.slice Ao91 t936.length co91 : Value).ownBlock ∧ some k_ ≠ (.slice Ao92 t939.length co92 : Value).ownBlock ∧ some k_ ≠ (.slice Ao98 t949.length co98 : Value).ownBlock ∧ some k_ ≠ (.slice Ao99 t952.length co99 : Value).ownBlock ∧ some k_ ≠ (.slice Ao125 t963.length co125 : Value).ownBlock) (.slice Ao126 t966.length co126) t966):=⟨(by rw [hw];exact (Kd.R_mono (rty (rfo HO968) BK910) (fun _ hk => ⟨hk.1.1.1.1.2,⟨hk.1.1.1.2,⟨hk.1.1.2,⟨hk.1.2,hk.1.1.1.1.1⟩⟩⟩⟩)))⟩;have n9_:=bsw BK893 hw;have n10_ : Aside0 (w127.heap[gb910]? = some (.cells #[.string t959,.slice Ao124 t960.length co124,.slice Ao125 t963.length co125,.slice Ao126 t966.length co126,.int .i64 t969,.int .i64 t970] 50 (0,0))):=⟨(by rw [hw];exact (bkp BK910))⟩;have n11_:=bsw BK924 hw;have n12_:=hsw HB hw;clear hw;clear HO_911001;clear HO_911002;clear HO_911003;clear HO_925001;clear HO_925002;clear HO_925003;clear HO962;clear HO965;clear HO968;clear BK893;clear BK910;clear BK924;clear HB;have HO_911001:=n0_;have HO_911002:=n1_;have HO_911003:=n2_;have HO_925001:=n3_;have HO_925002:=n4_;have HO_925003:=n5_;have HO962:=n6_;have HO965:=n7_;have HO968:=n8_;have BK893:=n9_;have BK910:=n10_;have BK924:=n11_;have HB:=n12_;clear n0_ n1_ n2_ n3_ n4_ n5_ n6_ n7_ n8_ n9_ n10_ n11_ n12_;obtain ⟨z0,z1,z2,z3,z4,z5,y0,y1,y2,y3,y4,y5⟩:=bc6 BK893) | ((with_reducible refine gate_callee (f:=37) rfl ?_);refine goesL_ (some 106) rfl rfl Try.func37 (by kernel_rfl) rfl #[.agg #[.string a0_0,.slice A0_1 l0_1.length c0_1,.slice A0_2 l0_2.length c0_2,.slice A0_3 l0_3.length c0_3,.int .i64 a0_4,.int .i64 a0_5],.int .i64 a2,.int .i64 a3] rfl sma ?_;(with_reducible refine (hopmeshref49_Acknowledge.calls kj82 a0_0 _ _ l0_1 _ _ l0_2 _ _ l0_3 a0_4 a0_5 a2 a3 t972 t973 t976 t979 t982 t983 t984 _ (cb HR0_1 HB) HC0_1.out (cb HR0_2 HB) HC0_2.out (cb HR0_3 HB) HC0_3.out A116.out).mono ?_);rintro e w129 ⟨v974,v977,v980,rfl,ho0,ho1,ho2,hb⟩;refine ⟨_,rfl,?_⟩;have HO975:=Aside0.mk (Kd.R_lower (Kd.R_new' (Kd.R_new' (Kd.R_new' ho0 (Kd.R_lt (ro HO_911001))) (Kd.R_lt (ro HO_925001))) (Kd.R_lt (ro HO962))) (below_size (hbx HB)));replace HO_911001:=Aside0.mk (Kd.R_elder' (ro HO_911001) (Kd.R_base ho0) hb);replace HO_925001:=Aside0.mk (Kd.R_elder' (ro HO_925001) (Kd.R_base ho0) hb);replace HO962:=Aside0.mk (Kd.R_elder' (ro HO962) (Kd.R_base ho0) hb);have HO978:=Aside0.mk (Kd.R_lower (Kd.R_new' (Kd.R_new' (Kd.R_new' (Kd.R_new' (Kd.R_new' (Kd.R_new' ho1 (Kd.R_lt (ro HO_911002))) (Kd.R_lt (ro HO_911003))) (Kd.R_lt (ro HO_925002))) (Kd.R_lt (ro HO_925003))) (Kd.R_lt (ro HO965))) (Kd.R_lt (ro HO968))) (below_size (hbx HB)));have HO981:=Aside0.mk (Kd.R_lower (Kd.R_new' (Kd.R_new' (Kd.R_new' (Kd.R_new' (Kd.R_new' (Kd.R_new' ho2 (Kd.R_lt (ro HO_911002))) (Kd.R_lt (ro HO_911003))) (Kd.R_lt (ro HO_925002))) (Kd.R_lt (ro HO_925003))) (Kd.R_lt (ro HO965))) (Kd.R_lt (ro HO968))) (below_size (hbx HB)));replace HO_911002:=Aside0.mk (Kd.R_mono (Kd.R_told (Kd.R_told (Kd.R_old (ro HO_911002) hb) (Kd.R_base ho1)) (Kd.R_base ho2)) (fun _ h_ => h_.1));replace HO_911003:=Aside0.mk (Kd.R_mono (Kd.R_told (Kd.R_told (Kd.R_old (ro HO_911003) hb) (Kd.R_base ho1)) (Kd.R_base ho2)) (fun _ h_ => h_.1));replace HO_925002:=Aside0.mk (Kd.R_mono (Kd.R_told (Kd.R_told (Kd.R_old (ro HO_925002) hb) (Kd.R_base ho1)) (Kd.R_base ho2)) (fun _ h_ => h_.1));replace HO_925003:=Aside0.mk (Kd.R_mono (Kd.R_told (Kd.R_told (Kd.R_old (ro HO_925003) hb) (Kd.R_base ho1)) (Kd.R_base ho2)) (fun _ h_ => h_.1));replace HO965:=Aside0.mk (Kd.R_mono (Kd.R_told (Kd.R_told (Kd.R_old (ro HO965) hb) (Kd.R_base ho1)) (Kd.R_base ho2)) (fun _ h_ => h_.1));replace HO968:=Aside0.mk (Kd.R_mono (Kd.R_told (Kd.R_told (Kd.R_old (ro HO968) hb) (Kd.R_base ho1)) (Kd.R_base ho2)) (fun _ h_ => h_.1));replace BK893:=bkB BK893 hb;replace BK910:=bkB BK910 hb;replace BK924:=bkB BK924 hb;replace HB:=hbS HB hb;(try clear hb);(try clear hb2);(try clear hk);(try clear hi);(try clear ho0);(try clear ho1);(try clear ho2);obtain ⟨z0,z1,z2,z3,z4,z5,y0,y1,y2,y3,y4,y5⟩:=bc6 BK924;obtain ⟨Ao131,co131,eo131⟩:=Kd.R_slice HO975.out;subst eo131;obtain ⟨Ao132,co132,eo132⟩:=Kd.R_slice HO978.out;subst eo132;obtain ⟨Ao133,co133,eo133⟩:=Kd.R_slice HO981.out;subst eo133))
 (try simp only [Act.put,List.setIfInBounds_toArray,List.set_cons_zero,List.set_cons_succ])
 go_cut [117] (fun v117 wc => ∃ (kq : Nat) (x117_116 : Bool),v117 = .bool x117_116 ∧ Aside0 (hopmeshlaw49_InstallBoards.j3 kq a3 x117_116 a0_0 l0_1 l0_2 l0_3 a0_4 a0_5 = some r) ∧ Aside0 (kq ≤ kj82) ∧ Aside0 (Kd.R (Kd.int .i64) 3 wc w.heap.size (fun k_ => some k_ ≠ ((.slice Ao131 t973.length co131) : Value).ownBlock) (.slice Ao124 t960.length co124) t960) ∧ Aside0 (Kd.R Kd.bool 4 wc w.heap.size (fun k_ => some k_ ≠ ((.slice Ao126 t966.length co126) : Value).ownBlock ∧ some k_ ≠ ((.slice Ao132 t976.length co132) : Value).ownBlock ∧ some k_ ≠ ((.slice Ao133 t979.length co133) : Value).ownBlock) (.slice Ao125 t963.length co125) t963) ∧ Aside0 (Kd.R Kd.bool 4 wc w.heap.size (fun k_ => some k_ ≠ ((.slice Ao125 t963.length co125) : Value).ownBlock ∧ some k_ ≠ ((.slice Ao132 t976.length co132) : Value).ownBlock ∧ some k_ ≠ ((.slice Ao133 t979.length co133) : Value).ownBlock) (.slice Ao126 t966.length co126) t966) ∧ Aside0 (Kd.R (Kd.int .i64) 3 wc w.heap.size (fun k_ => some k_ ≠ ((.slice Ao124 t960.length co124) : Value).ownBlock) (.slice Ao131 t973.length co131) t973) ∧ Aside0 (Kd.R Kd.bool 4 wc w.heap.size (fun k_ => some k_ ≠ ((.slice Ao125 t963.length co125) : Value).ownBlock ∧ some k_ ≠ ((.slice Ao126 t966.length co126) : Value).ownBlock ∧ some k_ ≠ ((.slice Ao133 t979.length co133) : Value).ownBlock) (.slice Ao132 t976.length co132) t976) ∧ Aside0 (Kd.R Kd.bool 4 wc w.heap.size (fun k_ => some k_ ≠ ((.slice Ao125 t963.length co125) : Value).ownBlock ∧ some k_ ≠ ((.slice Ao126 t966.length co126) : Value).ownBlock ∧ some k_ ≠ ((.slice Ao132 t976.length co132) : Value).ownBlock) (.slice Ao133 t979.length co133) t979) ∧ Aside0 (wc.heap[gb893]? = some (.cells #[.string a0_0,(.slice A0_1 l0_1.length c0_1),(.slice A0_2 l0_2.length c0_2),(.slice A0_3 l0_3.length c0_3),.int .i64 a0_4,.int .i64 a0_5] 50 (0,0))) ∧ Aside0 (wc.heap[gb910]? = some (.cells #[.string t959,(.slice Ao124 t960.length co124),(.slice Ao125 t963.length co125),(.slice Ao126 t966.length co126),.int .i64 t969,.int .i64 t970] 50 (0,0))) ∧ Aside0 (wc.heap[gb924]? = some (.cells #[.string t972,(.slice Ao131 t973.length co131),(.slice Ao132 t976.length co132),(.slice Ao133 t979.length co133),.int .i64 t982,.int .i64 t983] 50 (0,0))) ∧ Aside0 (Below w.heap.size w wc))
 case first =>
  have H:=HC117.out
  clear HC117
  replace H:=Option.bind_eq_some_iff.mp H
  obtain ⟨t985,A1340,H⟩:=H
  (try dsimp only at H)
  have A134:=Aside0.mk A1340
  clear A1340
  by_cases c135 : t985 = true
  ·subst c135
   rw [if_pos rfl] at H
   have H':=Aside0.mk H
   clear H
   have hnb136:=NB910_893.out
   have hnc136:=NB893_910.out
   have hnb137:=NB910_924.out
   have hnc137:=NB924_910.out
   obtain ⟨z0,z1,z2,z3,z4,z5,y0,y1,y2,y3,y4,y5⟩:=bc6 BK910
   have hnb139:=NB924_893.out
   have hnc139:=NB893_924.out
   obtain ⟨z0,z1,z2,z3,z4,z5,y0,y1,y2,y3,y4,y5⟩:=bc6 BK924
   go_wp2_with (first | ((with_reducible refine gate_callee (f:=31) rfl ?_);refine goesL_ (some 111) rfl rfl Try.func31 (by kernel_rfl) rfl #[.agg #[.string t959,.slice Ao124 t960.length co124,.slice Ao125 t963.length co125,.slice Ao126 t966.length co126,.int .i64 t969,.int .i64 t970],.agg #[.string t972,.slice Ao131 t973.length co131,.slice Ao132 t976.length co132,.slice Ao133 t979.length co133,.int .i64 t982,.int .i64 t983]] rfl sma ?_;(with_reducible refine (hopmeshref49_SameBoard.calls kj82 t959 _ _ t960 _ _ t963 _ _ t966 t969 t970 t972 _ _ t973 _ _ t976 _ _ t979 t982 t983 true _ ?side1 ?side2 ?side3 ?side4 ?side5 ?side6 ?side7 ?side8 ?side9 ?side10 ?side11 ?side12 A134.out).mono ?_);(case side1 => refine (Kd.R_reads' (e:=3) (base:=w.heap.size) (ok:=fun k_ => ((some k_ ≠ (.slice Ao90 t933.length co90 : Value).ownBlock ∧ some k_ ≠ (.slice Ao97 t946.length co97 : Value).ownBlock) ∧ some k_ ≠ (.slice Ao131 t973.length co131 : Value).ownBlock)) (n:=t960.length) (c:=co124) ?_).2.2;exact (rfo HO962));(case side2 => exact (Kd.R_reads' HO962.out).2.1);(case side3 => refine (Kd.R_reads' (e:=4) (base:=w.heap.size) (ok:=fun k_ => (((some k_ ≠ (.slice Ao91 t936.length co91 : Value).ownBlock ∧ (some k_ ≠ (.slice Ao92 t939.length co92 : Value).ownBlock ∧ (some k_ ≠ (.slice Ao98 t949.length co98 : Value).ownBlock ∧ (some k_ ≠ (.slice Ao99 t952.length co99 : Value).ownBlock ∧ some k_ ≠ (.slice Ao126 t966.length co126 : Value).ownBlock)))) ∧ some k_ ≠ (.slice Ao132 t976.length co132 : Value).ownBlock) ∧ some k_ ≠ (.slice Ao133 t979.length co133 : Value).ownBlock)) (n:=t963.length) (c:=co125) ?_).2.2;exact (rfo HO965));(case side4 => exact (Kd.R_reads' HO965.out).2.1);(case side5 => refine (Kd.R_reads' (e:=4) (base:=w.heap.size) (ok:=fun k_ => (((some k_ ≠ (.slice Ao91 t936.length co91 : Value).ownBlock ∧ (some k_ ≠ (.slice Ao92 t939.length co92 : Value).ownBlock ∧ (some k_ ≠ (.slice Ao98 t949.length co98 : Value).ownBlock ∧ (some k_ ≠ (.slice Ao99 t952.length co99 : Value).ownBlock ∧ some k_ ≠ (.slice Ao125 t963.length co125 : Value).ownBlock)))) ∧ some k_ ≠ (.slice Ao132 t976.length co132 : Value).ownBlock) ∧ some k_ ≠ (.slice Ao133 t979.length co133 : Value).ownBlock)) (n:=t966.length) (c:=co126) ?_).2.2;exact (rfo HO968));(case side6 => exact (Kd.R_reads' HO968.out).2.1);(case side7 => refine (Kd.R_reads' (e:=3) (base:=w.heap.size) (ok:=fun k_ => (((True ∧ some k_ ≠ (.slice Ao90 t933.length co90 : Value).ownBlock) ∧ some k_ ≠ (.slice Ao97 t946.length co97 : Value).ownBlock) ∧ some k_ ≠ (.slice Ao124 t960.length co124 : Value).ownBlock)) (n:=t973.length) (c:=co131) ?_).2.2;exact (rfo HO975));(case side8 => exact (Kd.R_reads' HO975.out).2.1);(case side9 => refine (Kd.R_reads' (e:=4) (base:=w.heap.size) (ok:=fun k_ => ((((((some k_ ≠ (.slice Ao133 t979.length co133 : Value).ownBlock ∧ some k_ ≠ (.slice Ao91 t936.length co91 : Value).ownBlock) ∧ some k_ ≠ (.slice Ao92 t939.length co92 : Value).ownBlock) ∧ some k_ ≠ (.slice Ao98 t949.length co98 : Value).ownBlock) ∧ some k_ ≠ (.slice Ao99 t952.length co99 : Value).ownBlock) ∧ some k_ ≠ (.slice Ao125 t963.length co125 : Value).ownBlock) ∧ some k_ ≠ (.slice Ao126 t966.length co126 : Value).ownBlock)) (n:=t976.length) (c:=co132) ?_).2.2;exact (rfo HO978));(case side10 => exact (Kd.R_reads' HO978.out).2.1);(case side11 => refine (Kd.R_reads' (e:=4) (base:=w.heap.size) (ok:=fun k_ => ((((((some k_ ≠ (.slice Ao132 t976.length co132 : Value).ownBlock ∧ some k_ ≠ (.slice Ao91 t936.length co91 : Value).ownBlock) ∧ some k_ ≠ (.slice Ao92 t939.length co92 : Value).ownBlock) ∧ some k_ ≠ (.slice Ao98 t949.length co98 : Value).ownBlock) ∧ some k_ ≠ (.slice Ao99 t952.length co99 : Value).ownBlock) ∧ some k_ ≠ (.slice Ao125 t963.length co125 : Value).ownBlock) ∧ some k_ ≠ (.slice Ao126 t966.length co126 : Value).ownBlock)) (n:=t979.length) (c:=co133) ?_).2.2;exact (rfo HO981));(case side12 => exact (Kd.R_reads' HO981.out).2.1);rintro e w141 ⟨rfl,hb⟩;refine ⟨_,rfl,?_⟩;replace HO_911001:=Aside0.mk (Kd.R_below (rfo HO_911001) hb);replace HO_911002:=Aside0.mk (Kd.R_below (rfo HO_911002) hb);replace HO_911003:=Aside0.mk (Kd.R_below (rfo HO_911003) hb);replace HO_925001:=Aside0.mk (Kd.R_below (rfo HO_925001) hb);replace HO_925002:=Aside0.mk (Kd.R_below (rfo HO_925002) hb);replace HO_925003:=Aside0.mk (Kd.R_below (rfo HO_925003) hb);replace HO962:=Aside0.mk (Kd.R_below (rfo HO962) hb);replace HO965:=Aside0.mk (Kd.R_below (rfo HO965) hb);replace HO968:=Aside0.mk (Kd.R_below (rfo HO968) hb);replace HO975:=Aside0.mk (Kd.R_below (rfo HO975) hb);replace HO978:=Aside0.mk (Kd.R_below (rfo HO978) hb);replace HO981:=Aside0.mk (Kd.R_below (rfo HO981) hb);replace BK893:=bkfB BK893 hb;replace BK910:=bkfB BK910 hb;replace BK924:=Aside0.mk (blk_below (o:=.cells #[.string t972,.slice Ao131 t973.length co131,.slice Ao132 t976.length co132,.slice Ao133 t979.length co133,.int .i64 t982,.int .i64 t983] 50 (0,0)) (bkp BK924) hb);replace HB:=hbS HB hb;(try clear hb);(try clear hb2);(try clear hk);(try clear hi)))
   go_meet
   case rel => exact ⟨_,((t971 != t984)),rfs,H',⟨by have:=HJ4.out;have:=HJ22.out;have:=HJ82.out;first | omega | exact Nat.le_refl _⟩,⟨by (with_reducible repeat (first | apply Kd.R_alloc | apply Kd.R_drewN | apply Kd.R_drew));exact Kd.R_mono HO962.out (fun _ hk => hk.2)⟩,⟨by (with_reducible repeat (first | apply Kd.R_alloc | apply Kd.R_drewN | apply Kd.R_drew));exact Kd.R_mono HO965.out (fun _ hk => ⟨hk.1.1.2.2.2.2,⟨hk.1.2,hk.2⟩⟩)⟩,⟨by (with_reducible repeat (first | apply Kd.R_alloc | apply Kd.R_drewN | apply Kd.R_drew));exact Kd.R_mono HO968.out (fun _ hk => ⟨hk.1.1.2.2.2.2,⟨hk.1.2,hk.2⟩⟩)⟩,⟨by (with_reducible repeat (first | apply Kd.R_alloc | apply Kd.R_drewN | apply Kd.R_drew));exact Kd.R_mono HO975.out (fun _ hk => hk.2)⟩,⟨by (with_reducible repeat (first | apply Kd.R_alloc | apply Kd.R_drewN | apply Kd.R_drew));exact Kd.R_mono HO978.out (fun _ hk => ⟨hk.1.2,⟨hk.2,hk.1.1.1.1.1.1⟩⟩)⟩,⟨by (with_reducible repeat (first | apply Kd.R_alloc | apply Kd.R_drewN | apply Kd.R_drew));exact Kd.R_mono HO981.out (fun _ hk => ⟨hk.1.2,⟨hk.2,hk.1.1.1.1.1.1⟩⟩)⟩,bkA BK893,bkA BK910,bkA BK924,hbA HB⟩
  ·replace c135:=Bool.eq_false_iff.mpr c135
   subst c135
   rw [if_neg (show ¬ (false = true) by decide)] at H
   have H':=Aside0.mk H
   clear H
   have hnb142:=NB910_893.out
   have hnc142:=NB893_910.out
   have hnb143:=NB910_924.out
   have hnc143:=NB924_910.out
   obtain ⟨z0,z1,z2,z3,z4,z5,y0,y1,y2,y3,y4,y5⟩:=bc6 BK910
   have hnb145:=NB924_893.out
   have hnc145:=NB893_924.out
   obtain ⟨z0,z1,z2,z3,z4,z5,y0,y1,y2,y3,y4,y5⟩:=bc6 BK924
   go_wp2_with (first | ((with_reducible refine gate_callee (f:=31) rfl ?_);refine goesL_ (some 111) rfl rfl Try.func31 (by kernel_rfl) rfl #[.agg #[.string t959,.slice Ao124 t960.length co124,.slice Ao125 t963.length co125,.slice Ao126 t966.length co126,.int .i64 t969,.int .i64 t970],.agg #[.string t972,.slice Ao131 t973.length co131,.slice Ao132 t976.length co132,.slice Ao133 t979.length co133,.int .i64 t982,.int .i64 t983]] rfl sma ?_;(with_reducible refine (hopmeshref49_SameBoard.calls kj82 t959 _ _ t960 _ _ t963 _ _ t966 t969 t970 t972 _ _ t973 _ _ t976 _ _ t979 t982 t983 false _ ?side1 ?side2 ?side3 ?side4 ?side5 ?side6 ?side7 ?side8 ?side9 ?side10 ?side11 ?side12 A134.out).mono ?_);(case side1 => refine (Kd.R_reads' (e:=3) (base:=w.heap.size) (ok:=fun k_ => ((some k_ ≠ (.slice Ao90 t933.length co90 : Value).ownBlock ∧ some k_ ≠ (.slice Ao97 t946.length co97 : Value).ownBlock) ∧ some k_ ≠ (.slice Ao131 t973.length co131 : Value).ownBlock)) (n:=t960.length) (c:=co124) ?_).2.2;exact (rfo HO962));(case side2 => exact (Kd.R_reads' HO962.out).2.1);(case side3 => refine (Kd.R_reads' (e:=4) (base:=w.heap.size) (ok:=fun k_ => (((some k_ ≠ (.slice Ao91 t936.length co91 : Value).ownBlock ∧ (some k_ ≠ (.slice Ao92 t939.length co92 : Value).ownBlock ∧ (some k_ ≠ (.slice Ao98 t949.length co98 : Value).ownBlock ∧ (some k_ ≠ (.slice Ao99 t952.length co99 : Value).ownBlock ∧ some k_ ≠ (.slice Ao126 t966.length co126 : Value).ownBlock)))) ∧ some k_ ≠ (.slice Ao132 t976.length co132 : Value).ownBlock) ∧ some k_ ≠ (.slice Ao133 t979.length co133 : Value).ownBlock)) (n:=t963.length) (c:=co125) ?_).2.2;exact (rfo HO965));(case side4 => exact (Kd.R_reads' HO965.out).2.1);(case side5 => refine (Kd.R_reads' (e:=4) (base:=w.heap.size) (ok:=fun k_ => (((some k_ ≠ (.slice Ao91 t936.length co91 : Value).ownBlock ∧ (some k_ ≠ (.slice Ao92 t939.length co92 : Value).ownBlock ∧ (some k_ ≠ (.slice Ao98 t949.length co98 : Value).ownBlock ∧ (some k_ ≠ (.slice Ao99 t952.length co99 : Value).ownBlock ∧ some k_ ≠ (.slice Ao125 t963.length co125 : Value).ownBlock)))) ∧ some k_ ≠ (.slice Ao132 t976.length co132 : Value).ownBlock) ∧ some k_ ≠ (.slice Ao133 t979.length co133 : Value).ownBlock)) (n:=t966.length) (c:=co126) ?_).2.2;exact (rfo HO968));(case side6 => exact (Kd.R_reads' HO968.out).2.1);(case side7 => refine (Kd.R_reads' (e:=3) (base:=w.heap.size) (ok:=fun k_ => (((True ∧ some k_ ≠ (.slice Ao90 t933.length co90 : Value).ownBlock) ∧ some k_ ≠ (.slice Ao97 t946.length co97 : Value).ownBlock) ∧ some k_ ≠ (.slice Ao124 t960.length co124 : Value).ownBlock)) (n:=t973.length) (c:=co131) ?_).2.2;exact (rfo HO975));(case side8 => exact (Kd.R_reads' HO975.out).2.1);(case side9 => refine (Kd.R_reads' (e:=4) (base:=w.heap.size) (ok:=fun k_ => ((((((some k_ ≠ (.slice Ao133 t979.length co133 : Value).ownBlock ∧ some k_ ≠ (.slice Ao91 t936.length co91 : Value).ownBlock) ∧ some k_ ≠ (.slice Ao92 t939.length co92 : Value).ownBlock) ∧ some k_ ≠ (.slice Ao98 t949.length co98 : Value).ownBlock) ∧ some k_ ≠ (.slice Ao99 t952.length co99 : Value).ownBlock) ∧ some k_ ≠ (.slice Ao125 t963.length co125 : Value).ownBlock) ∧ some k_ ≠ (.slice Ao126 t966.length co126 : Value).ownBlock)) (n:=t976.length) (c:=co132) ?_).2.2;exact (rfo HO978));(case side10 => exact (Kd.R_reads' HO978.out).2.1);(case side11 => refine (Kd.R_reads' (e:=4) (base:=w.heap.size) (ok:=fun k_ => ((((((some k_ ≠ (.slice Ao132 t976.length co132 : Value).ownBlock ∧ some k_ ≠ (.slice Ao91 t936.length co91 : Value).ownBlock) ∧ some k_ ≠ (.slice Ao92 t939.length co92 : Value).ownBlock) ∧ some k_ ≠ (.slice Ao98 t949.length co98 : Value).ownBlock) ∧ some k_ ≠ (.slice Ao99 t952.length co99 : Value).ownBlock) ∧ some k_ ≠ (.slice Ao125 t963.length co125 : Value).ownBlock) ∧ some k_ ≠ (.slice Ao126 t966.length co126 : Value).ownBlock)) (n:=t979.length) (c:=co133) ?_).2.2;exact (rfo HO981));(case side12 => exact (Kd.R_reads' HO981.out).2.1);rintro e w147 ⟨rfl,hb⟩;refine ⟨_,rfl,?_⟩;replace HO_911001:=Aside0.mk (Kd.R_below (rfo HO_911001) hb);replace HO_911002:=Aside0.mk (Kd.R_below (rfo HO_911002) hb);replace HO_911003:=Aside0.mk (Kd.R_below (rfo HO_911003) hb);replace HO_925001:=Aside0.mk (Kd.R_below (rfo HO_925001) hb);replace HO_925002:=Aside0.mk (Kd.R_below (rfo HO_925002) hb);replace HO_925003:=Aside0.mk (Kd.R_below (rfo HO_925003) hb);replace HO962:=Aside0.mk (Kd.R_below (rfo HO962) hb);replace HO965:=Aside0.mk (Kd.R_below (rfo HO965) hb);replace HO968:=Aside0.mk (Kd.R_below (rfo HO968) hb);replace HO975:=Aside0.mk (Kd.R_below (rfo HO975) hb);replace HO978:=Aside0.mk (Kd.R_below (rfo HO978) hb);replace HO981:=Aside0.mk (Kd.R_below (rfo HO981) hb);replace BK893:=bkfB BK893 hb;replace BK910:=bkfB BK910 hb;replace BK924:=Aside0.mk (blk_below (o:=.cells #[.string t972,.slice Ao131 t973.length co131,.slice Ao132 t976.length co132,.slice Ao133 t979.length co133,.int .i64 t982,.int .i64 t983] 50 (0,0)) (bkp BK924) hb);replace HB:=hbS HB hb;(try clear hb);(try clear hb2);(try clear hk);(try clear hi)))
   go_meet
   case rel => exact ⟨_,(true),rfs,H',⟨by have:=HJ4.out;have:=HJ22.out;have:=HJ82.out;first | omega | exact Nat.le_refl _⟩,⟨by (with_reducible repeat (first | apply Kd.R_alloc | apply Kd.R_drewN | apply Kd.R_drew));exact Kd.R_mono HO962.out (fun _ hk => hk.2)⟩,⟨by (with_reducible repeat (first | apply Kd.R_alloc | apply Kd.R_drewN | apply Kd.R_drew));exact Kd.R_mono HO965.out (fun _ hk => ⟨hk.1.1.2.2.2.2,⟨hk.1.2,hk.2⟩⟩)⟩,⟨by (with_reducible repeat (first | apply Kd.R_alloc | apply Kd.R_drewN | apply Kd.R_drew));exact Kd.R_mono HO968.out (fun _ hk => ⟨hk.1.1.2.2.2.2,⟨hk.1.2,hk.2⟩⟩)⟩,⟨by (with_reducible repeat (first | apply Kd.R_alloc | apply Kd.R_drewN | apply Kd.R_drew));exact Kd.R_mono HO975.out (fun _ hk => hk.2)⟩,⟨by (with_reducible repeat (first | apply Kd.R_alloc | apply Kd.R_drewN | apply Kd.R_drew));exact Kd.R_mono HO978.out (fun _ hk => ⟨hk.1.2,⟨hk.2,hk.1.1.1.1.1.1⟩⟩)⟩,⟨by (with_reducible repeat (first | apply Kd.R_alloc | apply Kd.R_drewN | apply Kd.R_drew));exact Kd.R_mono HO981.out (fun _ hk => ⟨hk.1.2,⟨hk.2,hk.1.1.1.1.1.1⟩⟩)⟩,bkA BK893,bkA BK910,bkA BK924,hbA HB⟩
 case rest =>
  clear HC117
  try clear c80
  try clear c114
  try clear hcz120_0
  try clear hcz120_1
  try clear hcz120_2
  try clear hcz120_3
  try clear hcz120_4
  try clear hcz120_5
  try clear hcz123_0
  try clear hcz123_1
  try clear hcz123_2
  try clear hcz123_3
  try clear hcz123_4
  try clear hcz123_5
  try clear hcz128_0
  try clear hcz128_1
  try clear hcz128_2
  try clear hcz128_3
  try clear hcz128_4
  try clear hcz128_5
  try clear hcz130_0
  try clear hcz130_1
  try clear hcz130_2
  try clear hcz130_3
  try clear hcz130_4
  try clear hcz130_5
  try clear hcz86_0
  try clear hcz86_1
  try clear hcz86_2
  try clear hcz86_3
  try clear hcz86_4
  try clear hcz86_5
  try clear hcz89_0
  try clear hcz89_1
  try clear hcz89_2
  try clear hcz89_3
  try clear hcz89_4
  try clear hcz89_5
  try clear hcz94_0
  try clear hcz94_1
  try clear hcz94_2
  try clear hcz94_3
  try clear hcz94_4
  try clear hcz94_5
  try clear hcz96_0
  try clear hcz96_1
  try clear hcz96_2
  try clear hcz96_3
  try clear hcz96_4
  try clear hcz96_5
  try clear hfz120_0
  try clear hfz120_1
  try clear hfz120_2
  try clear hfz120_3
  try clear hfz120_4
  try clear hfz120_5
  try clear hfz123_0
  try clear hfz123_1
  try clear hfz123_2
  try clear hfz123_3
  try clear hfz123_4
  try clear hfz123_5
  try clear hfz128_0
  try clear hfz128_1
  try clear hfz128_2
  try clear hfz128_3
  try clear hfz128_4
  try clear hfz128_5
  try clear hfz130_0
  try clear hfz130_1
  try clear hfz130_2
  try clear hfz130_3
  try clear hfz130_4
  try clear hfz130_5
  try clear hfz86_0
  try clear hfz86_1
  try clear hfz86_2
  try clear hfz86_3
  try clear hfz86_4
  try clear hfz86_5
  try clear hfz89_0
  try clear hfz89_1
  try clear hfz89_2
  try clear hfz89_3
  try clear hfz89_4
  try clear hfz89_5
  try clear hfz94_0
  try clear hfz94_1
  try clear hfz94_2
  try clear hfz94_3
  try clear hfz94_4
  try clear hfz94_5
  try clear hfz96_0
  try clear hfz96_1
  try clear hfz96_2
  try clear hfz96_3
  try clear hfz96_4
  try clear hfz96_5
  obtain ⟨kq,x117_116,rfl,HA,HJ116,HO_911001,HO_911002,HO_911003,HO_925001,HO_925002,HO_925003,BK893,BK910,BK924,HB⟩:=hcut
  cases kq with
  | zero => exact absurd HA.out (by simp [hopmeshlaw49_InstallBoards.j3])
  | succ kj116 =>
   have H:=HA.out
   clear HA
   simp only [hopmeshlaw49_InstallBoards.j3] at H
   by_cases c148 : x117_116 = true
   ·subst c148
    rw [if_pos rfl] at H
    exact absurd H (by simp)
   ·replace c148:=Bool.eq_false_iff.mpr c148
    subst c148
    rw [if_neg (show ¬ (false = true) by decide)] at H
    replace H:=Option.bind_eq_some_iff.mp H
    obtain ⟨⟨t986,t987,t990,t993,t996,t997,t998,t999,t1000,t1001,t1002,t1005⟩,A1490,H⟩:=H
    (try dsimp only at H)
    have A149:=Aside0.mk A1490
    clear A1490
    replace H:=Option.bind_eq_some_iff.mp H
    obtain ⟨⟨t1007,t1008,t1011,t1014,t1017,t1018,t1019,t1020,t1021,t1022,t1023,t1026⟩,A1500,H⟩:=H
    (try dsimp only at H)
    have A150:=Aside0.mk A1500
    clear A1500
    have HC151:=Aside0.mk H
    clear H
    go_upto_region 15 with (fail)
    exact hopmeshlaw49_InstallBoards.part15 _ _ _ _ _ _ _ _ _ _ _ _ _ _ _ _ _ _ _ _ _ _ _ _ _ _ _ _ _ _ _ _ _ _ _ _ _ _ _ _ _ _ _ _ _ _ _ _ _ _ _ _ _ _ _ _ _ _ _ _ _ _ _ _ _ _ _ _ _ _ _ _ _ _ _ _ _ _ _ _ _ _ _ _ _ _ _ _ _ _ _ _ _ _ _ _ _ _ _ _ _ _ _ _ _ _ _ _ _ _ _ _ _ _ _ _ _ _ _ _ _ _ _ _ _ _ _ _ _ _ _ _ _ _ _ _ _ _ _ _ _ _ _ _ _ _ _ _ _ _ _ _ _ _ _ _ _ _ _ _ _ _ _ _ _ _ _ _ _ _ _ _ _ _ _ _ _ _ _ _ _ _ _ _ _ _ _ _ _ _ _ _ _ _ _ _ _ _ _ _ _ _ _ _ _ _ _ _ _ _ _ _ _ _ _ _ _ _ _ _ _ _ _ _ _ _ _ _ _ _ _ _ HR0_1 HC0_1 HR0_2 HC0_2 HR0_3 HC0_3 GE893 HJ4 GE910 NB893_910 NB910_893 GE924 NB893_924 NB924_893 NB910_924 NB924_910 HJ22 HJ82 HO_911001 HO_911002 HO_911003 HO_925001 HO_925002 HO_925003 BK893 BK910 BK924 HB HJ116 A149 A150 HC151 _ _ _ ‹_› (by kernel_rfl) (by kernel_rfl)
end Go.Proofs.Ytdigplhjfjchnaa.PQ
