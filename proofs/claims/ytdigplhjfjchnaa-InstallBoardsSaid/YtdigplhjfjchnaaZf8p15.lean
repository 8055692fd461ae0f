-- Printed by fprint.py and zip.py, programs of this session's, over the kit's print; Lean checks it.
import Derived.Test.YtdigplhjfjchnaaZf8p19
namespace Go.Proofs.Ytdigplhjfjchnaa.PQ
open Go.RowKit Go.Proofs.YtdigplhjfjchnaaW.PrintWords Go.Proofs.YtdigplhjfjchnaaW.PrintLast Go.Proofs.YtdigplhjfjchnaaW.PrintMore
attribute [local go_sem] max2_int min2_int max_two min_two max_three min_three max_four min_four   -- for this text's walks alone
set_option linter.unusedVariables false
set_option linter.unusedSimpArgs false
set_option maxHeartbeats 8000000 in
set_option maxRecDepth 100000 in
theorem hopmeshlaw49_InstallBoards.part15 (k : Nat) (a0_0 : ByteArray) (A0_1 : Option Addr) (c0_1 : Nat) (l0_1 : List Int) (A0_2 : Option Addr) (c0_2 : Nat) (l0_2 : List Bool) (A0_3 : Option Addr) (c0_3 : Nat) (l0_3 : List Bool) (a0_4 a0_5 : Int) (a1 : ByteArray) (a2 a3 : Int) (r : Bool) (w : World) (gb893 kj4 gb910 gb924 kj22 kj82 : Nat) (t959 : ByteArray) (t960 : List Int) (t963 : List Bool) (t966 : List Bool) (t969 t970 t971 : Int) (t972 : ByteArray) (t973 : List Int) (t976 : List Bool) (t979 : List Bool) (t982 t983 t984 : Int) (Ao124 : Option Addr) (co124 : Nat) (Ao125 : Option Addr) (co125 : Nat) (Ao126 : Option Addr) (co126 : Nat) (Ao131 : Option Addr) (co131 : Nat) (Ao132 : Option Addr) (co132 : Nat) (Ao133 : Option Addr) (co133 : Nat) (wc : World) (kj116 : Nat) (t986 : ByteArray) (t987 : List Int) (t990 : List Bool) (t993 : List Bool) (t996 t997 t998 t999 t1000 : Int) (t1001 : ByteArray) (t1002 : List Int) (t1005 : Int) (t1007 : ByteArray) (t1008 : List Int) (t1011 : List Bool) (t1014 : List Bool) (t1017 t1018 t1019 t1020 t1021 : Int) (t1022 : ByteArray) (t1023 : List Int) (t1026 : Int) (U15 U16 U17 U18 U19 U20 U21 U22 U23 U24 U25 U26 U27 U28 U29 U30 U31 U32 U33 U34 U35 U36 U37 U38 U39 U40 U41 U42 U43 U44 U45 U46 U47 U48 U49 U50 U51 U52 U53 U54 U55 U56 U57 U58 U59 U60 U61 U62 U63 U64 U65 U66 U67 U68 U69 U70 U71 U72 U73 U74 U75 U76 U77 U78 U79 U80 U81 U82 U83 U84 U85 U86 U87 U88 U89 U90 U91 U92 U93 U94 U95 U96 U97 U98 U99 U100 U101 U102 U103 U104 U105 U106 U107 U108 U109 U110 U111 U112 U113 U114 U115 U116 U118 U119 U120 U121 U122 U123 U124 U125 U126 U127 U128 U129 U130 U131 U132 U133 U134 U135 U136 U137 U138 U139 U140 U141 U142 U143 U144 U145 U146 U147 U148 U149 U150 U151 U152 U153 U154 U155 U156 U157 U158 U159 U160 U161 U162 U163 U164 U165 U166 U167 U168 U169 U170 U171 : Value) (HR0_1 : Aside0 (Kd.C (Kd.int IntKind.i64) w A0_1 (List.length l0_1) l0_1)) (HC0_1 : Aside0 (List.length l0_1 ≤ c0_1)) (HR0_2 : Aside0 (Kd.C Kd.bool w A0_2 (List.length l0_2) l0_2)) (HC0_2 : Aside0 (List.length l0_2 ≤ c0_2)) (HR0_3 : Aside0 (Kd.C Kd.bool w A0_3 (List.length l0_3) l0_3)) (HC0_3 : Aside0 (List.length l0_3 ≤ c0_3)) (GE893 : Aside0 (Array.size (World.heap w) ≤ gb893)) (HJ4 : Aside0 (kj4 + (1 : Nat) ≤ k)) (GE910 : Aside0 (Array.size (World.heap w) ≤ gb910)) (NB893_910 : Aside0 (gb893 ≠ gb910)) (NB910_893 : Aside0 (gb910 ≠ gb893)) (GE924 : Aside0 (Array.size (World.heap w) ≤ gb924)) (NB893_924 : Aside0 (gb893 ≠ gb924)) (NB924_893 : Aside0 (gb924 ≠ gb893)) (NB910_924 : Aside0 (gb910 ≠ gb924)) (NB924_910 : Aside0 (gb924 ≠ gb910)) (HJ22 : Aside0 (kj22 + (1 : Nat) ≤ kj4)) (HJ82 : Aside0 (kj82 + (1 : Nat) ≤ kj22)) (HO_911001 : Aside0 (Kd.R (Kd.int IntKind.i64) (3 : Nat) wc (Array.size (World.heap w)) (fun (k_ : Nat) => some k_ ≠ Value.ownBlock (Value.slice Ao131 (List.length t973) co131)) (Value.slice Ao124 (List.length t960) co124) t960)) (HO_911002 : Aside0 (Kd.R Kd.bool (4 : Nat) wc (Array.size (World.heap w)) (fun (k_ : Nat) => some k_ ≠ Value.ownBlock (Value.slice Ao126 (List.length t966) co126) ∧ some k_ ≠ Value.ownBlock (Value.slice Ao132 (List.length t976) co132) ∧ some k_ ≠ Value.ownBlock (Value.slice Ao133 (List.length t979) co133)) (Value.slice Ao125 (List.length t963) co125) t963)) (HO_911003 : Aside0 (Kd.R Kd.bool (4 : Nat) wc (Array.size (World.heap w)) (fun (k_ : Nat) => some k_ ≠ Value.ownBlock (Value.slice Ao125 (List.length t963) co125) ∧ some k_ ≠ Value.ownBlock (Value.slice Ao132 (List.length t976) co132) ∧ some k_ ≠ Value.ownBlock (Value.slice Ao133 (List.length t979) co133)) (Value.slice Ao126 (List.length t966) co126) t966)) (HO_925001 : Aside0 (Kd.R (Kd.int IntKind.i64) (3 : Nat) wc (Array.size (World.heap w)) (fun (k_ : Nat) => some k_ ≠ Value.ownBlock (Value.slice Ao124 (List.length t960) co124)) (Value.slice Ao131 (List.length t973) co131) t973)) (HO_925002 : Aside0 (Kd.R Kd.bool (4 : Nat) wc (Array.size (World.heap w)) (fun (k_ : Nat) => some k_ ≠ Value.ownBlock (Value.slice Ao125 (List.length t963) co125) ∧ some k_ ≠ Value.ownBlock (Value.slice Ao126 (List.length t966) co126) ∧ some k_ ≠ Value.ownBlock (Value.slice Ao133 (List.length t979) co133)) (Value.slice Ao132 (List.length t976) co132) t976)) (HO_925003 : Aside0 (Kd.R Kd.bool (4 : Nat) wc (Array.size (World.heap w)) (fun (k_ : Nat) => some k_ ≠ Value.ownBlock (Value.slice Ao125 (List.length t963) co125) ∧ some k_ ≠ Value.ownBlock (Value.slice Ao126 (List.length t966) co126) ∧ some k_ ≠ Value.ownBlock (Value.slice Ao132 (List.length t976) co132)) (Value.slice Ao133 (List.length t979) co133) t979)) (BK893 : Aside0 ((World.heap wc)[gb893]? = some (Obj.cells #[Value.string a0_0,Value.slice A0_1 (List.length l0_1) c0_1,Value.slice A0_2 (List.length l0_2) c0_2,Value.slice A0_3 (List.length l0_3) c0_3,Value.int IntKind.i64 a0_4,Value.int IntKind.i64 a0_5] (50 : TypeId)))) (BK910 : Aside0 ((World.heap wc)[gb910]? = some (Obj.cells #[Value.string t959,Value.slice Ao124 (List.length t960) co124,Value.slice Ao125 (List.length t963) co125,Value.slice Ao126 (List.length t966) co126,Value.int IntKind.i64 t969,Value.int IntKind.i64 t970] (50 : TypeId)))) (BK924 : Aside0 ((World.heap wc)[gb924]? = some (Obj.cells #[Value.string t972,Value.slice Ao131 (List.length t973) co131,Value.slice Ao132 (List.length t976) co132,Value.slice Ao133 (List.length t979) co133,Value.int IntKind.i64 t982,Value.int IntKind.i64 t983] (50 : TypeId)))) (HB : Aside0 (Below (Array.size (World.heap w)) w wc)) (HJ116 : Aside0 (kj116 + (1 : Nat) ≤ kj82)) (A149 : Aside0 (install_Order.f kj116 a0_0 l0_1 l0_2 l0_3 a0_4 a0_5 a3 = some (t986,t987,t990,t993,t996,t997,t998,t999,t1000,t1001,t1002,t1005))) (A150 : Aside0 (hopmeshref49_Order.f kj116 a0_0 l0_1 l0_2 l0_3 a0_4 a0_5 a3 = some (t1007,t1008,t1011,t1014,t1017,t1018,t1019,t1020,t1021,t1022,t1023,t1026))) (HC151 : Aside0 ((Option.bind (hopmeshref49_SameBoard.f kj116 t986 t987 t990 t993 t996 t997 t1007 t1008 t1011 t1014 t1017 t1018) fun (t1028 : Bool) => if t1028 = true then Option.bind (hopmeshref49_SameCommand.f kj116 t998 t999 t1000 t1001 t1002 t1019 t1020 t1021 t1022 t1023) fun (t1029 : Bool) => if t1029 = true then j4 kj116 (t1005 != t1026) a0_0 l0_1 l0_2 l0_3 a0_4 a0_5 else j4 kj116 true a0_0 l0_1 l0_2 l0_3 a0_4 a0_5 else j4 kj116 true a0_0 l0_1 l0_2 l0_3 a0_4 a0_5) = some r)) (z1017_ : Act → World → Prop) (cc0_ cc1_ : Code) :
 let z26_ : Exit → Act → World → Prop:=bodyPost Try.prog Try.f8 fun (e : Ending) (w' : World) => e = Ending.returned (Value.bool r) ∧ Below (Array.size (World.heap w)) w w';(∀ (a : Act) (w : World),Code.wp Try.prog cc1_ z26_ a w → z1017_ a w) → Option.bind Try.f8.body (codeAt [1,1,1,1,1,1,1,1,1,1,1,0]) = some cc0_ → Option.bind Try.f8.body (codeAt [1,1,1,1,1,1,1,1,1,1,1,1]) = some cc1_ → Code.wp Try.prog cc0_ (Exit.then z1017_ z26_) ⟨#[Value.agg #[Value.string a0_0,Value.slice A0_1 (List.length l0_1) c0_1,Value.slice A0_2 (List.length l0_2) c0_2,Value.slice A0_3 (List.length l0_3) c0_3,Value.int IntKind.i64 a0_4,Value.int IntKind.i64 a0_5],Value.string a1,Value.int IntKind.i64 a2,Value.int IntKind.i64 a3,Value.pointer (some { block:=gb893,off:=(0 : Nat) }),undef,undef,undef,Value.bool false,Value.pointer (some { block:=gb910,off:=(0 : Nat) }),Value.int IntKind.i64 t971,Value.pointer (some { block:=gb924,off:=(0 : Nat) }),Value.int IntKind.i64 t984,undef,undef,U15,U16,U17,U18,U19,U20,U21,U22,U23,U24,U25,U26,U27,U28,U29,U30,U31,U32,U33,U34,U35,U36,U37,U38,U39,U40,U41,U42,U43,U44,U45,U46,U47,U48,U49,U50,U51,U52,U53,U54,U55,U56,U57,U58,U59,U60,U61,U62,U63,U64,U65,U66,U67,U68,U69,U70,U71,U72,U73,U74,U75,U76,U77,U78,U79,U80,U81,U82,U83,U84,U85,U86,U87,U88,U89,U90,U91,U92,U93,U94,U95,U96,U97,U98,U99,U100,U101,U102,U103,U104,U105,U106,U107,U108,U109,U110,U111,U112,U113,U114,U115,U116,Value.bool false,U118,U119,U120,U121,U122,U123,U124,U125,U126,U127,U128,U129,U130,U131,U132,U133,U134,U135,U136,U137,U138,U139,U140,U141,U142,U143,U144,U145,U146,U147,U148,U149,U150,U151,U152,U153,U154,U155,U156,U157,U158,U159,U160,U161,U162,U163,U164,U165,U166,U167,U168,U169,U170,U171],[]⟩ (wc):=by
 intro z26_ hk0_ hc0_ hc1_
 conv at hc0_ => lhs;whnf
 replace hc0_:=Option.some.inj hc0_
 subst hc0_
 conv at hc1_ => lhs;whnf
 replace hc1_:=Option.some.inj hc1_
 subst hc1_
 have hu50:=Try.underlying50
 have hu36:=Try.underlying36
 have hnb152:=NB893_910.out
 have hnc152:=NB910_893.out
 have hnb153:=NB893_924.out
 have hnc153:=NB924_893.out
 obtain ⟨z0,z1,z2,z3,z4,z5,y0,y1,y2,y3,y4,y5⟩:=bc6 BK893
 go_upto_region 17 with (first | ((with_reducible refine gate_callee (f:=22) rfl ?_);refine goesL_ (some 121) rfl rfl Try.func22 (by kernel_rfl) rfl #[.agg #[.string a0_0,.slice A0_1 l0_1.length c0_1,.slice A0_2 l0_2.length c0_2,.slice A0_3 l0_3.length c0_3,.int .i64 a0_4,.int .i64 a0_5],.int .i64 a3] rfl sma ?_;(with_reducible refine (install_Order.calls kj116 a0_0 _ _ l0_1 _ _ l0_2 _ _ l0_3 a0_4 a0_5 a3 t986 t987 t990 t993 t996 t997 t998 t999 t1000 t1001 t1002 t1005 _ (cb HR0_1 HB) HC0_1.out (cb HR0_2 HB) HC0_2.out (cb HR0_3 HB) HC0_3.out A149.out).mono ?_);rintro e w155 ⟨v988,v991,v994,v1003,rfl,ho0,ho1,ho2,ho3,hb⟩;refine ⟨_,rfl,?_⟩;have HO989:=Aside0.mk (Kd.R_lower (Kd.R_new' (Kd.R_new' ho0 (Kd.R_lt (ro HO_911001))) (Kd.R_lt (ro HO_925001))) (below_size (hbx HB)));have HO992:=Aside0.mk (Kd.R_lower (Kd.R_new' (Kd.R_new' (Kd.R_new' (Kd.R_new' ho1 (Kd.R_lt (ro HO_911002))) (Kd.R_lt (ro HO_911003))) (Kd.R_lt (ro HO_925002))) (Kd.R_lt (ro HO_925003))) (below_size (hbx HB)));have HO995:=Aside0.mk (Kd.R_lower (Kd.R_new' (Kd.R_new' (Kd.R_new' (Kd.R_new' ho2 (Kd.R_lt (ro HO_911002))) (Kd.R_lt (ro HO_911003))) (Kd.R_lt (ro HO_925002))) (Kd.R_lt (ro HO_925003))) (below_size (hbx HB)));replace HO_911002:=Aside0.mk (Kd.R_mono (Kd.R_told (Kd.R_told (Kd.R_old (ro HO_911002) hb) (Kd.R_base ho1)) (Kd.R_base ho2)) (fun _ h_ => h_.1));replace HO_911003:=Aside0.mk (Kd.R_mono (Kd.R_told (Kd.R_told (Kd.R_old (ro HO_911003) hb) (Kd.R_base ho1)) (Kd.R_base ho2)) (fun _ h_ => h_.1));replace HO_925002:=Aside0.mk (Kd.R_mono (Kd.R_told (Kd.R_told (Kd.R_old (ro HO_925002) hb) (Kd.R_base ho1)) (Kd.R_base ho2)) (fun _ h_ => h_.1));replace HO_925003:=Aside0.mk (Kd.R_mono (Kd.R_told (Kd.R_told (Kd.R_old (ro HO_925003) hb) (Kd.R_base ho1)) (Kd.R_base ho2)) (fun _ h_ => h_.1));have HO1004:=Aside0.mk (Kd.R_lower (Kd.R_new' (Kd.R_new' ho3 (Kd.R_lt (ro HO_911001))) (Kd.R_lt (ro HO_925001))) (below_size (hbx HB)));replace HO_911001:=Aside0.mk (Kd.R_mono (Kd.R_told (Kd.R_told (Kd.R_old (ro HO_911001) hb) (Kd.R_base ho0)) (Kd.R_base ho3)) (fun _ h_ => h_.1));replace HO_925001:=Aside0.mk (Kd.R_mono (Kd.R_told (Kd.R_told (Kd.R_old (ro HO_925001) hb) (Kd.R_base ho0)) (Kd.R_base ho3)) (fun _ h_ => h_.1));replace BK893:=bkB BK893 hb;replace BK910:=bkB BK910 hb;replace BK924:=bkB BK924 hb;replace HB:=hbS HB hb;(try clear hb);(try clear hb2);(try clear hk);(try clear hi);(try clear ho0);(try clear ho1);(try clear ho2);(try clear ho3)) | ((with_reducible refine gate_dst (N:=13) rfl ?_);(try (refine gate_guard (by rfl) ?_;dsimp only));refine boxE 13 #[.int .i64 0,.int .i64 0,.int .i64 0,.string (⟨#[]⟩ : ByteArray),.slice none 0 0] 36 ?_;intro gb1006 hg w156 hbox hb;replace HO_911001:=rB HO_911001 hb;replace HO_911002:=rB HO_911002 hb;replace HO_911003:=rB HO_911003 hb;replace HO_925001:=rB HO_925001 hb;replace HO_925002:=rB HO_925002 hb;replace HO_925003:=rB HO_925003 hb;replace HO989:=rB HO989 hb;replace HO992:=rB HO992 hb;replace HO995:=rB HO995 hb;replace HO1004:=rB HO1004 hb;have BK1006:=Aside0.mk (hbox);have GW1006:=gw hg HB;have GE1006:=gw hg HB;replace HB:=hbS HB hb;have NB893_1006:=nbl hg BK893;have NB1006_893:=nbg hg BK893;replace BK893:=bkB BK893 hb;have NB910_1006:=nbl hg BK910;have NB1006_910:=nbg hg BK910;replace BK910:=bkB BK910 hb;have NB924_1006:=nbl hg BK924;have NB1006_924:=nbg hg BK924;replace BK924:=bkB BK924 hb;clear hb hbox hg;have hnb157:=NB910_924.out;have hnc157:=NB924_910.out;have hnb158:=NB910_1006.out;have hnc158:=NB1006_910.out;obtain ⟨z0,z1,z2,z3,z4,z5,y0,y1,y2,y3,y4,y5⟩:=bc6 BK910;obtain ⟨Ao160,co160,eo160⟩:=Kd.R_slice HO989.out;subst eo160;obtain ⟨Ao161,co161,eo161⟩:=Kd.R_slice HO992.out;subst eo161;obtain ⟨Ao162,co162,eo162⟩:=Kd.R_slice HO995.out;subst eo162) | ((with_reducible refine gate_store (t:=50) (p:=9) rfl ?_);refine store_event (t:=50) (p:=9) (v:=?vo_w163) (w1:=((((((w156.setCell ⟨gb910,0,none⟩ (.string t986)).setCell ⟨gb910,1,none⟩ (.slice Ao160 t987.length co160)).setCell ⟨gb910,2,none⟩ (.slice Ao161 t990.length co161)).setCell ⟨gb910,3,none⟩ (.slice Ao162 t993.length co162)).setCell ⟨gb910,4,none⟩ (.int .i64 t996)).setCell ⟨gb910,5,none⟩ (.int .i64 t997))) ?hg ?ho ?hn ?hr ?_;(case ho => rfl);(case hg => rfl);(case hn => rfl);(case hr => first | (go_simp;done) | (go_simp;rfl));intro w163 hw;have n0_ : Aside0 (Kd.R (Kd.int .i64) 3 w163 w.heap.size (fun k_ => some k_ ≠ (.slice Ao131 t973.length co131 : Value).ownBlock ∧ some k_ ≠ (.slice Ao160 t987.length co160 : Value).ownBlock ∧ some k_ ≠ (v1003 : Value).ownBlock) (.slice Ao124 t960.length co124) t960):=⟨(by rw [hw];exact (Kd.R_mono (rty (rfo HO_911001) BK910) (fun _ hk => ⟨hk.1.1.1,⟨hk.1.1.2,hk.1.2⟩⟩)))⟩;have n1_ : Aside0 (Kd.R Kd.bool 4 w163 w.heap.size (fun k_ => some k_ ≠ (.slice Ao126 t966.length co126 : Value).ownBlock ∧ some k_ ≠ (.slice Ao132 t976.length co132 : Value).ownBlock ∧ some k_ ≠ (.slice Ao133 t979.length co133 : Value).ownBlock ∧ some k_ ≠ (.slice Ao161 t990.length co161 : Value).ownBlock ∧ some k_ ≠ (.slice Ao162 t993.length co162 : Value).ownBlock) (.slice Ao125 t963.length co125) t963):=⟨(by rw [hw];exact (Kd.R_mono (rty (rfo HO_911002) BK910) (fun _ hk => ⟨hk.1.1.1.1,⟨hk.1.1.1.2.1,⟨hk.1.1.1.2.2,⟨hk.1.1.2,hk.1.2⟩⟩⟩⟩)))⟩;have n2_ : Aside0 (Kd.R Kd.bool 4 w163 w.heap.size (fun k_ => some k_ ≠ (.slice Ao125 t963.length co125 : Value).ownBlock ∧ some k_ ≠ (.slice Ao132 t976.length co132 : Value).ownBlock ∧ some k_ ≠ (.slice Ao133 t979.length co133 : Value).ownBlock ∧ some k_ ≠ (.slice Ao161 t990.length co161 : Value).ownBlock ∧ some k_ ≠ (.slice Ao162 t993.length co162 : Value).ownBlock) (.slice Ao126 t966.length co126) t966):=⟨(by rw [hw];exact (Kd.R_mono (rty (rfo HO_911003) BK910) (fun _ hk => ⟨hk.1.1.1.1,⟨hk.1.1.1.2.1,⟨hk.1.1.1.2.2,⟨hk.1.1.2,hk.1.2⟩⟩⟩⟩)))⟩;have n3_ : Aside0 (Kd.R (Kd.int .i64) 3 w163 w.heap.size (fun k_ => some k_ ≠ (.slice Ao124 t960.length co124 : Value).ownBlock ∧ some k_ ≠ (.slice Ao160 t987.length co160 : Value).ownBlock ∧ some k_ ≠ (v1003 : Value).ownBlock) (.slice Ao131 t973.length co131) t973):=⟨(by rw [hw];exact (Kd.R_mono (rty (rfo HO_925001) BK910) (fun _ hk => ⟨hk.1.1.1,⟨hk.1.1.2,hk.1.2⟩⟩)))⟩;have n4_ : Aside0 (Kd.R Kd.bool 4 w163 w.heap.size (fun k_ => some k_ ≠ (.slice Ao125 t963.length co125 : Value).ownBlock ∧ some k_ ≠ (.slice Ao126 t966.length co126 : Value).ownBlock ∧ some k_ ≠ (.slice Ao133 t979.length co133 : Value).ownBlock ∧ some k_ ≠ (.slice Ao161 t990.length co161 : Value).ownBlock ∧ some k_ ≠ (.slice Ao162 t993.length co162 : Value).ownBlock) (.slice Ao132 t976.length co132) t976):=⟨(by rw [hw];exact (Kd.R_mono (rty (rfo HO_925002) BK910) (fun _ hk => ⟨hk.1.1.1.1,⟨hk.1.1.1.2.1,⟨hk.1.1.1.2.2,⟨hk.1.1.2,hk.1.2⟩⟩⟩⟩)))⟩;have n5_ : Aside0 (Kd.R Kd.bool 4 w163 w.heap.size (fun k_ => some k_ ≠ (.slice Ao125 t963.length co125 : Value).ownBlock ∧ some k_ ≠ (.slice Ao126 t966.length co126 : Value).ownBlock ∧ some k_ ≠ (.slice Ao132 t976.length co132 : Value).ownBlock ∧ some k_ ≠ (.slice Ao161 t990.length co161 : Value).ownBlock ∧ some k_ ≠ (.slice Ao162 t993.length co162 : Value).ownBlock) (.slice Ao133 t979.length co133) t979):=⟨(by rw [hw];exact (Kd.R_mono (rty (rfo HO_925003) BK910) (fun _ hk => ⟨hk.1.1.1.1,⟨hk.1.1.1.2.1,⟨hk.1.1.1.2.2,⟨hk.1.1.2,hk.1.2⟩⟩⟩⟩)))⟩;have n6_ : Aside0 (Kd.R (Kd.int .i64) 3 w163 w.heap.size (fun k_ => some k_ ≠ (.slice Ao124 t960.length co124 : Value).ownBlock ∧ some k_ ≠ (.slice Ao131 t973.length co131 : Value).ownBlock ∧ some k_ ≠ (v1003 : Value).ownBlock) (.slice Ao160 t987.length co160) t987):=⟨(by rw [hw];exact (Kd.R_mono (rty (rfo HO989) BK910) (fun _ hk => ⟨hk.1.1.2,⟨hk.1.2,hk.1.1.1⟩⟩)))⟩;have n7_ : Aside0 (Kd.R Kd.bool 4 w163 w.heap.size (fun k_ => some k_ ≠ (.slice Ao125 t963.length co125 : Value).ownBlock ∧ some k_ ≠ (.slice Ao126 t966.length co126 : Value).ownBlock ∧ some k_ ≠ (.slice Ao132 t976.length co132 : Value).ownBlock ∧ some k_ ≠ (.slice Ao133 t979.length co133 : Value).ownBlock ∧ some k_ ≠ (.slice Ao162 t993.length co162 : Value).ownBlock) (.slice Ao161 t990.length co161) t990):=⟨(by rw [hw];exact (Kd.R_mono (rty (rfo HO992) BK910) (fun _ hk => ⟨hk.1.1.1.1.2,⟨hk.1.1.1.2,⟨hk.1.1.2,⟨hk.1.2,hk.1.1.1.1.1⟩⟩⟩⟩)))⟩;have n8_ : Aside0 (Kd.R Kd.bool 4 w163 w.heap.size (fun k_ => some k_ ≠ (.slice Ao125 t963.length co125 : Value).ownBlock ∧ some k_ ≠ (.slice Ao126 t966.length co126 : Value).ownBlock ∧ some k_ ≠ (.slice Ao132 t976.length co132 : Value).ownBlock ∧ some k_ ≠ (.slice Ao133 t979.length co133 : Value).ownBlock ∧ some k_ ≠ (.slice Ao161 t990.length co161 : Value).ownBlock) (.slice Ao162 t993.length co162) t993):=⟨(by rw [hw];exact (Kd.R_mono (rty (rfo HO995) BK910) (fun _ hk => ⟨hk.1.1.1.1.2,⟨hk.1.1.1.2,⟨hk.1.1.2,⟨hk.1.2,hk.1.1.1.1.1⟩⟩⟩⟩)))⟩;have n9_ : Aside0 (Kd.R (Kd.int .i64) 3 w163 w.heap.size (fun k_ => some k_ ≠ (.slice Ao124 t960.length co124 : Value).ownBlock ∧ some k_ ≠ (.slice Ao131 t973.length co131 : Value).ownBlock ∧ some k_ ≠ (.slice Ao160 t987.length co160 : Value).ownBlock) v1003 t1002):=⟨(by rw [hw];exact (Kd.R_mono (rty (rfo HO1004) BK910) (fun _ hk => ⟨hk.1.1.2,⟨hk.1.2,hk.1.1.1⟩⟩)))⟩;have n10_:=bsw BK893 hw;have n11_ : Aside0 (w163.heap[gb910]? = some (.cells #[.string t986,.slice Ao160 t987.length co160,.slice Ao161 t990.length co161,.slice Ao162 t993.length co162,.int .i64 t996,.int .i64 t997] 50 (0,0))):=⟨(by rw [hw];exact (bkp BK910))⟩;have n12_:=bsw BK924 hw;have n13_:=bsw BK1006 hw;have n14_:=hsw HB hw;clear hw;clear HO_911001;clear HO_911002;clear HO_911003;clear HO_925001;clear HO_925002;clear HO_925003;clear HO989;clear HO992;clear HO995;clear HO1004;clear BK893;clear BK910;clear BK924;clear BK1006;clear HB;have HO_911001:=n0_;have HO_911002:=n1_;have HO_911003:=n2_;have HO_925001:=n3_;have HO_925002:=n4_;have HO_925003:=n5_;have HO989:=n6_;have HO992:=n7_;have HO995:=n8_;have HO1004:=n9_;have BK893:=n10_;have BK910:=n11_;have BK924:=n12_;have BK1006:=n13_;have HB:=n14_;clear n0_ n1_ n2_ n3_ n4_ n5_ n6_ n7_ n8_ n9_ n10_ n11_ n12_ n13_ n14_;have hnb164:=NB1006_893.out;have hnc164:=NB893_1006.out;have hnb165:=NB1006_924.out;have hnc165:=NB924_1006.out;obtain ⟨z0,z1,z2,z3,z4,y0,y1,y2,y3,y4⟩:=bc5 BK1006;obtain ⟨Ao167,co167,eo167⟩:=Kd.R_slice HO1004.out;subst eo167) | ((with_reducible refine gate_store (t:=36) (p:=13) rfl ?_);refine store_event (t:=36) (p:=13) (v:=?vo_w168) (w1:=(((((w163.setCell ⟨gb1006,0,none⟩ (.int .i64 t998)).setCell ⟨gb1006,1,none⟩ (.int .i64 t999)).setCell ⟨gb1006,2,none⟩ (.int .i64 t1000)).setCell ⟨gb1006,3,none⟩ (.string t1001)).setCell ⟨gb1006,4,none⟩ (.slice Ao167 t1002.length co167))) ?hg ?ho ?hn ?hr ?_;(case ho => rfl);(case hg => rfl);(case hn => rfl);(case hr => first | (go_simp;done) | (go_simp;rfl));intro w168 hw;have n0_:=rsw HO_911001 hw;have n1_:=rsw HO_911002 hw;have n2_:=rsw HO_911003 hw;have n3_:=rsw HO_925001 hw;have n4_:=rsw HO_925002 hw;have n5_:=rsw HO_925003 hw;have n6_:=rsw HO989 hw;have n7_:=rsw HO992 hw;have n8_:=rsw HO995 hw;have n9_:=rsw HO1004 hw;have n10_:=bsw BK893 hw;have n11_:=bsw BK910 hw;have n12_:=bsw BK924 hw;have n13_ : Aside0 (w168.heap[gb1006]? = some (.cells #[.int .i64 t998,.int .i64 t999,.int .i64 t1000,.string t1001,.slice Ao167 t1002.length co167] 36 (0,0))):=⟨(by rw [hw];exact (bkp BK1006))⟩;have n14_:=hsw HB hw;clear hw;clear HO_911001;clear HO_911002;clear HO_911003;clear HO_925001;clear HO_925002;clear HO_925003;clear HO989;clear HO992;clear HO995;clear HO1004;clear BK893;clear BK910;clear BK924;clear BK1006;clear HB;have HO_911001:=n0_;have HO_911002:=n1_;have HO_911003:=n2_;have HO_925001:=n3_;have HO_925002:=n4_;have HO_925003:=n5_;have HO989:=n6_;have HO992:=n7_;have HO995:=n8_;have HO1004:=n9_;have BK893:=n10_;have BK910:=n11_;have BK924:=n12_;have BK1006:=n13_;have HB:=n14_;clear n0_ n1_ n2_ n3_ n4_ n5_ n6_ n7_ n8_ n9_ n10_ n11_ n12_ n13_ n14_;obtain ⟨z0,z1,z2,z3,z4,z5,y0,y1,y2,y3,y4,y5⟩:=bc6 BK893) | ((with_reducible refine gate_callee (f:=38) rfl ?_);refine goesL_ (some 128) rfl rfl Try.func38 (by kernel_rfl) rfl #[.agg #[.string a0_0,.slice A0_1 l0_1.length c0_1,.slice A0_2 l0_2.length c0_2,.slice A0_3 l0_3.length c0_3,.int .i64 a0_4,.int .i64 a0_5],.int .i64 a3] rfl sma ?_;(with_reducible refine (hopmeshref49_Order.calls kj116 a0_0 _ _ l0_1 _ _ l0_2 _ _ l0_3 a0_4 a0_5 a3 t1007 t1008 t1011 t1014 t1017 t1018 t1019 t1020 t1021 t1022 t1023 t1026 _ (cb HR0_1 HB) HC0_1.out (cb HR0_2 HB) HC0_2.out (cb HR0_3 HB) HC0_3.out A150.out).mono ?_);rintro e w170 ⟨v1009,v1012,v1015,v1024,rfl,ho0,ho1,ho2,ho3,hb⟩;refine ⟨_,rfl,?_⟩;have HO1010:=Aside0.mk (Kd.R_lower (Kd.R_new' (Kd.R_new' (Kd.R_new' (Kd.R_new' ho0 (Kd.R_lt (ro HO_911001))) (Kd.R_lt (ro HO_925001))) (Kd.R_lt (ro HO989))) (Kd.R_lt (ro HO1004))) (below_size (hbx HB)));have HO1013:=Aside0.mk (Kd.R_lower (Kd.R_new' (Kd.R_new' (Kd.R_new' (Kd.R_new' (Kd.R_new' (Kd.R_new' ho1 (Kd.R_lt (ro HO_911002))) (Kd.R_lt (ro HO_911003))) (Kd.R_lt (ro HO_925002))) (Kd.R_lt (ro HO_925003))) (Kd.R_lt (ro HO992))) (Kd.R_lt (ro HO995))) (below_size (hbx HB)));have HO1016:=Aside0.mk (Kd.R_lower (Kd.R_new' (Kd.R_new' (Kd.R_new' (Kd.R_new' (Kd.R_new' (Kd.R_new' ho2 (Kd.R_lt (ro HO_911002))) (Kd.R_lt (ro HO_911003))) (Kd.R_lt (ro HO_925002))) (Kd.R_lt (ro HO_925003))) (Kd.R_lt (ro HO992))) (Kd.R_lt (ro HO995))) (below_size (hbx HB)));replace HO_911002:=Aside0.mk (Kd.R_mono (Kd.R_told (Kd.R_told (Kd.R_old (ro HO_911002) hb) (Kd.R_base ho1)) (Kd.R_base ho2)) (fun _ h_ => h_.1));replace HO_911003:=Aside0.mk (Kd.R_mono (Kd.R_told (Kd.R_told (Kd.R_old (ro HO_911003) hb) (Kd.R_base ho1)) (Kd.R_base ho2)) (fun _ h_ => h_.1));replace HO_925002:=Aside0.mk (Kd.R_mono (Kd.R_told (Kd.R_told (Kd.R_old (ro HO_925002) hb) (Kd.R_base ho1)) (Kd.R_base ho2)) (fun _ h_ => h_.1));replace HO_925003:=Aside0.mk (Kd.R_mono (Kd.R_told (Kd.R_told (Kd.R_old (ro HO_925003) hb) (Kd.R_base ho1)) (Kd.R_base ho2)) (fun _ h_ => h_.1));replace HO992:=Aside0.mk (Kd.R_mono (Kd.R_told (Kd.R_told (Kd.R_old (ro HO992) hb) (Kd.R_base ho1)) (Kd.R_base ho2)) (fun _ h_ => h_.1));replace HO995:=Aside0.mk (Kd.R_mono (Kd.R_told (Kd.R_told (Kd.R_old (ro HO995) hb) (Kd.R_base ho1)) (Kd.R_base ho2)) (fun _ h_ => h_.1));have HO1025:=Aside0.mk (Kd.R_lower (Kd.R_new' (Kd.R_new' (Kd.R_new' (Kd.R_new' ho3 (Kd.R_lt (ro HO_911001))) (Kd.R_lt (ro HO_925001))) (Kd.R_lt (ro HO989))) (Kd.R_lt (ro HO1004))) (below_size (hbx HB)));replace HO_911001:=Aside0.mk (Kd.R_mono (Kd.R_told (Kd.R_told (Kd.R_old (ro HO_911001) hb) (Kd.R_base ho0)) (Kd.R_base ho3)) (fun _ h_ => h_.1));replace HO_925001:=Aside0.mk (Kd.R_mono (Kd.R_told (Kd.R_told (Kd.R_old (ro HO_925001) hb) (Kd.R_base ho0)) (Kd.R_base ho3)) (fun _ h_ => h_.1));replace HO989:=Aside0.mk (Kd.R_mono (Kd.R_told (Kd.R_told (Kd.R_old (ro HO989) hb) (Kd.R_base ho0)) (Kd.R_base ho3)) (fun _ h_ => h_.1));replace HO1004:=Aside0.mk (Kd.R_mono (Kd.R_told (Kd.R_told (Kd.R_old (ro HO1004) hb) (Kd.R_base ho0)) (Kd.R_base ho3)) (fun _ h_ => h_.1));replace BK893:=bkB BK893 hb;replace BK910:=bkB BK910 hb;replace BK924:=bkB BK924 hb;replace BK1006:=bkB BK1006 hb;replace HB:=hbS HB hb;(try clear hb);(try clear hb2);(try clear hk);(try clear hi);(try clear ho0);(try clear ho1);(try clear ho2);(try clear ho3)) | ((with_reducible refine gate_dst (N:=14) rfl ?_);(try (refine gate_guard (by rfl) ?_;dsimp only));refine boxE 14 #[.int .i64 0,.int .i64 0,.int .i64 0,.string (⟨#[]⟩ : ByteArray),.slice none 0 0] 36 ?_;intro gb1027 hg w171 hbox hb;replace HO_911001:=rB HO_911001 hb;replace HO_911002:=rB HO_911002 hb;replace HO_911003:=rB HO_911003 hb;replace HO_925001:=rB HO_925001 hb;replace HO_925002:=rB HO_925002 hb;replace HO_925003:=rB HO_925003 hb;replace HO989:=rB HO989 hb;replace HO992:=rB HO992 hb;replace HO995:=rB HO995 hb;replace HO1004:=rB HO1004 hb;replace HO1010:=rB HO1010 hb;replace HO1013:=rB HO1013 hb;replace HO1016:=rB HO1016 hb;replace HO1025:=rB HO1025 hb;have BK1027:=Aside0.mk (hbox);have GW1027:=gw hg HB;have GE1027:=gw hg HB;replace HB:=hbS HB hb;have NB893_1027:=nbl hg BK893;have NB1027_893:=nbg hg BK893;replace BK893:=bkB BK893 hb;have NB910_1027:=nbl hg BK910;have NB1027_910:=nbg hg BK910;replace BK910:=bkB BK910 hb;have NB924_1027:=nbl hg BK924;have NB1027_924:=nbg hg BK924;replace BK924:=bkB BK924 hb;have NB1006_1027:=nbl hg BK1006;have NB1027_1006:=nbg hg BK1006;replace BK1006:=bkB BK1006 hb;clear hb hbox hg;have hnb172:=NB924_1027.out;have hnc172:=NB1027_924.out;obtain ⟨z0,z1,z2,z3,z4,z5,y0,y1,y2,y3,y4,y5⟩:=bc6 BK924;obtain ⟨Ao174,co174,eo174⟩:=Kd.R_slice HO1010.out;subst eo174;obtain ⟨Ao175,co175,eo175⟩:=Kd.R_slice HO1013.out;subst eo175;obtain ⟨Ao176,co176,eo176⟩:=Kd.R_slice HO1016.out;subst eo176;have hnb177:=NB1027_893.out;have hnc177:=NB893_1027.out;have hnb178:=NB1027_910.out;have hnc178:=NB910_1027.out;have hnb179:=NB1027_1006.out;have hnc179:=NB1006_1027.out;obtain ⟨z0,z1,z2,z3,z4,y0,y1,y2,y3,y4⟩:=bc5 BK1027;obtain ⟨Ao181,co181,eo181⟩:=Kd.R_slice HO1025.out;subst eo181))
 (try simp only [Act.put,List.setIfInBounds_toArray,List.set_cons_zero,List.set_cons_succ])
 go_cut [146] (fun v146 wc => ∃ (kq : Nat) (x146_150 : Bool),v146 = .bool x146_150 ∧ Aside0 (hopmeshlaw49_InstallBoards.j4 kq x146_150 a0_0 l0_1 l0_2 l0_3 a0_4 a0_5 = some r) ∧ Aside0 (kq ≤ kj116) ∧ Aside0 (Kd.R (Kd.int .i64) 3 wc w.heap.size (fun k_ => some k_ ≠ ((.slice Ao174 t1008.length co174) : Value).ownBlock ∧ some k_ ≠ ((.slice Ao167 t1002.length co167) : Value).ownBlock ∧ some k_ ≠ ((.slice Ao181 t1023.length co181) : Value).ownBlock) (.slice Ao160 t987.length co160) t987) ∧ Aside0 (Kd.R Kd.bool 4 wc w.heap.size (fun k_ => some k_ ≠ ((.slice Ao162 t993.length co162) : Value).ownBlock ∧ some k_ ≠ ((.slice Ao175 t1011.length co175) : Value).ownBlock ∧ some k_ ≠ ((.slice Ao176 t1014.length co176) : Value).ownBlock) (.slice Ao161 t990.length co161) t990) ∧ Aside0 (Kd.R Kd.bool 4 wc w.heap.size (fun k_ => some k_ ≠ ((.slice Ao161 t990.length co161) : Value).ownBlock ∧ some k_ ≠ ((.slice Ao175 t1011.length co175) : Value).ownBlock ∧ some k_ ≠ ((.slice Ao176 t1014.length co176) : Value).ownBlock) (.slice Ao162 t993.length co162) t993) ∧ Aside0 (Kd.R (Kd.int .i64) 3 wc w.heap.size (fun k_ => some k_ ≠ ((.slice Ao160 t987.length co160) : Value).ownBlock ∧ some k_ ≠ ((.slice Ao167 t1002.length co167) : Value).ownBlock ∧ some k_ ≠ ((.slice Ao181 t1023.length co181) : Value).ownBlock) (.slice Ao174 t1008.length co174) t1008) ∧ Aside0 (Kd.R Kd.bool 4 wc w.heap.size (fun k_ => some k_ ≠ ((.slice Ao161 t990.length co161) : Value).ownBlock ∧ some k_ ≠ ((.slice Ao162 t993.length co162) : Value).ownBlock ∧ some k_ ≠ ((.slice Ao176 t1014.length co176) : Value).ownBlock) (.slice Ao175 t1011.length co175) t1011) ∧ Aside0 (Kd.R Kd.bool 4 wc w.heap.size (fun k_ => some k_ ≠ ((.slice Ao161 t990.length co161) : Value).ownBlock ∧ some k_ ≠ ((.slice Ao162 t993.length co162) : Value).ownBlock ∧ some k_ ≠ ((.slice Ao175 t1011.length co175) : Value).ownBlock) (.slice Ao176 t1014.length co176) t1014) ∧ Aside0 (Kd.R (Kd.int .i64) 3 wc w.heap.size (fun k_ => some k_ ≠ ((.slice Ao160 t987.length co160) : Value).ownBlock ∧ some k_ ≠ ((.slice Ao174 t1008.length co174) : Value).ownBlock ∧ some k_ ≠ ((.slice Ao181 t1023.length co181) : Value).ownBlock) (.slice Ao167 t1002.length co167) t1002) ∧ Aside0 (Kd.R (Kd.int .i64) 3 wc w.heap.size (fun k_ => some k_ ≠ ((.slice Ao160 t987.length co160) : Value).ownBlock ∧ some k_ ≠ ((.slice Ao174 t1008.length co174) : Value).ownBlock ∧ some k_ ≠ ((.slice Ao167 t1002.length co167) : Value).ownBlock) (.slice Ao181 t1023.length co181) t1023) ∧ Aside0 (wc.heap[gb893]? = some (.cells #[.string a0_0,(.slice A0_1 l0_1.length c0_1),(.slice A0_2 l0_2.length c0_2),(.slice A0_3 l0_3.length c0_3),.int .i64 a0_4,.int .i64 a0_5] 50 (0,0))) ∧ Aside0 (wc.heap[gb910]? = some (.cells #[.string t986,(.slice Ao160 t987.length co160),(.slice Ao161 t990.length co161),(.slice Ao162 t993.length co162),.int .i64 t996,.int .i64 t997] 50 (0,0))) ∧ Aside0 (wc.heap[gb924]? = some (.cells #[.string t1007,(.slice Ao174 t1008.length co174),(.slice Ao175 t1011.length co175),(.slice Ao176 t1014.length co176),.int .i64 t1017,.int .i64 t1018] 50 (0,0))) ∧ Aside0 (wc.heap[gb1006]? = some (.cells #[.int .i64 t998,.int .i64 t999,.int .i64 t1000,.string t1001,(.slice Ao167 t1002.length co167)] 36 (0,0))) ∧ Aside0 (wc.heap[gb1027]? = some (.cells #[.int .i64 t1019,.int .i64 t1020,.int .i64 t1021,.string t1022,(.slice Ao181 t1023.length co181)] 36 (0,0))) ∧ Aside0 (Below w.heap.size w wc))
 case first =>
  have H:=HC151.out
  clear HC151
  replace H:=Option.bind_eq_some_iff.mp H
  obtain ⟨t1028,A1820,H⟩:=H
  (try dsimp only at H)
  have A182:=Aside0.mk A1820
  clear A1820
  by_cases c183 : t1028 = true
  ·subst c183
   rw [if_pos rfl] at H
   replace H:=Option.bind_eq_some_iff.mp H
   obtain ⟨t1029,A1840,H⟩:=H
   (try dsimp only at H)
   have A184:=Aside0.mk A1840
   clear A1840
   by_cases c185 : t1029 = true
   ·subst c185
    rw [if_pos rfl] at H
    have H':=Aside0.mk H
    clear H
    have hnb186:=NB910_893.out
    have hnc186:=NB893_910.out
    have hnb187:=NB910_924.out
    have hnc187:=NB924_910.out
    have hnb188:=NB910_1006.out
    have hnc188:=NB1006_910.out
    have hnb189:=NB910_1027.out
    have hnc189:=NB1027_910.out
    obtain ⟨z0,z1,z2,z3,z4,z5,y0,y1,y2,y3,y4,y5⟩:=bc6 BK910
    have hnb191:=NB924_893.out
    have hnc191:=NB893_924.out
    have hnb192:=NB924_1006.out
    have hnc192:=NB1006_924.out
    have hnb193:=NB924_1027.out
    have hnc193:=NB1027_924.out
    obtain ⟨z0,z1,z2,z3,z4,z5,y0,y1,y2,y3,y4,y5⟩:=bc6 BK924
    go_wp2_with (first | ((with_reducible refine gate_callee (f:=31) rfl ?_);refine goesL_ (some 134) rfl rfl Try.func31 (by kernel_rfl) rfl #[.agg #[.string t986,.slice Ao160 t987.length co160,.slice Ao161 t990.length co161,.slice Ao162 t993.length co162,.int .i64 t996,.int .i64 t997],.agg #[.string t1007,.slice Ao174 t1008.length co174,.slice Ao175 t1011.length co175,.slice Ao176 t1014.length co176,.int .i64 t1017,.int .i64 t1018]] rfl sma ?_;(with_reducible refine (hopmeshref49_SameBoard.calls kj116 t986 _ _ t987 _ _ t990 _ _ t993 t996 t997 t1007 _ _ t1008 _ _ t1011 _ _ t1014 t1017 t1018 true _ ?side1 ?side2 ?side3 ?side4 ?side5 ?side6 ?side7 ?side8 ?side9 ?side10 ?side11 ?side12 A182.out).mono ?_);(case side1 => refine (Kd.R_reads' (e:=3) (base:=w.heap.size) (ok:=fun k_ => (((some k_ ≠ (.slice Ao124 t960.length co124 : Value).ownBlock ∧ (some k_ ≠ (.slice Ao131 t973.length co131 : Value).ownBlock ∧ some k_ ≠ (.slice Ao167 t1002.length co167 : Value).ownBlock)) ∧ some k_ ≠ (.slice Ao174 t1008.length co174 : Value).ownBlock) ∧ some k_ ≠ (.slice Ao181 t1023.length co181 : Value).ownBlock)) (n:=t987.length) (c:=co160) ?_).2.2;exact (rfo HO989));(case side2 => exact (Kd.R_reads' HO989.out).2.1);(case side3 => refine (Kd.R_reads' (e:=4) (base:=w.heap.size) (ok:=fun k_ => (((some k_ ≠ (.slice Ao125 t963.length co125 : Value).ownBlock ∧ (some k_ ≠ (.slice Ao126 t966.length co126 : Value).ownBlock ∧ (some k_ ≠ (.slice Ao132 t976.length co132 : Value).ownBlock ∧ (some k_ ≠ (.slice Ao133 t979.length co133 : Value).ownBlock ∧ some k_ ≠ (.slice Ao162 t993.length co162 : Value).ownBlock)))) ∧ some k_ ≠ (.slice Ao175 t1011.length co175 : Value).ownBlock) ∧ some k_ ≠ (.slice Ao176 t1014.length co176 : Value).ownBlock)) (n:=t990.length) (c:=co161) ?_).2.2;exact (rfo HO992));(case side4 => exact (Kd.R_reads' HO992.out).2.1);(case side5 => refine (Kd.R_reads' (e:=4) (base:=w.heap.size) (ok:=fun k_ => (((some k_ ≠ (.slice Ao125 t963.length co125 : Value).ownBlock ∧ (some k_ ≠ (.slice Ao126 t966.length co126 : Value).ownBlock ∧ (some k_ ≠ (.slice Ao132 t976.length co132 : Value).ownBlock ∧ (some k_ ≠ (.slice Ao133 t979.length co133 : Value).ownBlock ∧ some k_ ≠ (.slice Ao161 t990.length co161 : Value).ownBlock)))) ∧ some k_ ≠ (.slice Ao175 t1011.length co175 : Value).ownBlock) ∧ some k_ ≠ (.slice Ao176 t1014.length co176 : Value).ownBlock)) (n:=t993.length) (c:=co162) ?_).2.2;exact (rfo HO995));(case side6 => exact (Kd.R_reads' HO995.out).2.1);(case side7 => refine (Kd.R_reads' (e:=3) (base:=w.heap.size) (ok:=fun k_ => ((((some k_ ≠ (.slice Ao181 t1023.length co181 : Value).ownBlock ∧ some k_ ≠ (.slice Ao124 t960.length co124 : Value).ownBlock) ∧ some k_ ≠ (.slice Ao131 t973.length co131 : Value).ownBlock) ∧ some k_ ≠ (.slice Ao160 t987.length co160 : Value).ownBlock) ∧ some k_ ≠ (.slice Ao167 t1002.length co167 : Value).ownBlock)) (n:=t1008.length) (c:=co174) ?_).2.2;exact (rfo HO1010));(case side8 => exact (Kd.R_reads' HO1010.out).2.1);(case side9 => refine (Kd.R_reads' (e:=4) (base:=w.heap.size) (ok:=fun k_ => ((((((some k_ ≠ (.slice Ao176 t1014.length co176 : Value).ownBlock ∧ some k_ ≠ (.slice Ao125 t963.length co125 : Value).ownBlock) ∧ some k_ ≠ (.slice Ao126 t966.length co126 : Value).ownBlock) ∧ some k_ ≠ (.slice Ao132 t976.length co132 : Value).ownBlock) ∧ some k_ ≠ (.slice Ao133 t979.length co133 : Value).ownBlock) ∧ some k_ ≠ (.slice Ao161 t990.length co161 : Value).ownBlock) ∧ some k_ ≠ (.slice Ao162 t993.length co162 : Value).ownBlock)) (n:=t1011.length) (c:=co175) ?_).2.2;exact (rfo HO1013));(case side10 => exact (Kd.R_reads' HO1013.out).2.1);(case side11 => refine (Kd.R_reads' (e:=4) (base:=w.heap.size) (ok:=fun k_ => ((((((some k_ ≠ (.slice Ao175 t1011.length co175 : Value).ownBlock ∧ some k_ ≠ (.slice Ao125 t963.length co125 : Value).ownBlock) ∧ some k_ ≠ (.slice Ao126 t966.length co126 : Value).ownBlock) ∧ some k_ ≠ (.slice Ao132 t976.length co132 : Value).ownBlock) ∧ some k_ ≠ (.slice Ao133 t979.length co133 : Value).ownBlock) ∧ some k_ ≠ (.slice Ao161 t990.length co161 : Value).ownBlock) ∧ some k_ ≠ (.slice Ao162 t993.length co162 : Value).ownBlock)) (n:=t1014.length) (c:=co176) ?_).2.2;exact (rfo HO1016));(case side12 => exact (Kd.R_reads' HO1016.out).2.1);rintro e w195 ⟨rfl,hb⟩;refine ⟨_,rfl,?_⟩;replace HO_911001:=Aside0.mk (Kd.R_below (rfo HO_911001) hb);replace HO_911002:=Aside0.mk (Kd.R_below (rfo HO_911002) hb);replace HO_911003:=Aside0.mk (Kd.R_below (rfo HO_911003) hb);replace HO_925001:=Aside0.mk (Kd.R_below (rfo HO_925001) hb);replace HO_925002:=Aside0.mk (Kd.R_below (rfo HO_925002) hb);replace HO_925003:=Aside0.mk (Kd.R_below (rfo HO_925003) hb);replace HO989:=Aside0.mk (Kd.R_below (rfo HO989) hb);replace HO992:=Aside0.mk (Kd.R_below (rfo HO992) hb);replace HO995:=Aside0.mk (Kd.R_below (rfo HO995) hb);replace HO1004:=Aside0.mk (Kd.R_below (rfo HO1004) hb);replace HO1010:=Aside0.mk (Kd.R_below (rfo HO1010) hb);replace HO1013:=Aside0.mk (Kd.R_below (rfo HO1013) hb);replace HO1016:=Aside0.mk (Kd.R_below (rfo HO1016) hb);replace HO1025:=Aside0.mk (Kd.R_below (rfo HO1025) hb);replace BK893:=bkfB BK893 hb;replace BK910:=bkfB BK910 hb;replace BK924:=Aside0.mk (blk_below (o:=.cells #[.string t1007,.slice Ao174 t1008.length co174,.slice Ao175 t1011.length co175,.slice Ao176 t1014.length co176,.int .i64 t1017,.int .i64 t1018] 50 (0,0)) (bkp BK924) hb);replace BK1006:=bkfB BK1006 hb;replace BK1027:=Aside0.mk (blk_below (o:=.cells #[.int .i64 t1019,.int .i64 t1020,.int .i64 t1021,.string t1022,.slice Ao181 t1023.length co181] 36 (0,0)) (bkp BK1027) hb);replace HB:=hbS HB hb;(try clear hb);(try clear hb2);(try clear hk);(try clear hi);have hnb196:=NB1006_893.out;have hnc196:=NB893_1006.out;have hnb197:=NB1006_1027.out;have hnc197:=NB1027_1006.out;obtain ⟨z0,z1,z2,z3,z4,y0,y1,y2,y3,y4⟩:=bc5 BK1006;have hnb199:=NB1027_893.out;have hnc199:=NB893_1027.out;obtain ⟨z0,z1,z2,z3,z4,y0,y1,y2,y3,y4⟩:=bc5 BK1027) | (go_at_call 28;(with_reducible refine (hopmeshref49_SameCommand.calls kj116 t998 t999 t1000 t1001 _ _ t1002 t1019 t1020 t1021 t1022 _ _ t1023 true _ ?side1 ?side2 ?side3 ?side4 A184.out).mono ?_);(case side1 => repeat (first | exact (Kd.R_reads' HO1004.out).2.2 | (with_reducible refine Kd.C_alloc ?_ _) | (with_reducible refine Kd.C_drewN ?_ _) | (with_reducible refine Kd.C_drew ?_)));(case side2 => exact (Kd.R_reads' HO1004.out).2.1);(case side3 => repeat (first | exact (Kd.R_reads' HO1025.out).2.2 | (with_reducible refine Kd.C_alloc ?_ _) | (with_reducible refine Kd.C_drewN ?_ _) | (with_reducible refine Kd.C_drew ?_)));(case side4 => exact (Kd.R_reads' HO1025.out).2.1);rintro e w201 ⟨rfl,hb⟩;replace HO_911001:=rB HO_911001 hb;replace HO_911002:=rB HO_911002 hb;replace HO_911003:=rB HO_911003 hb;replace HO_925001:=rB HO_925001 hb;replace HO_925002:=rB HO_925002 hb;replace HO_925003:=rB HO_925003 hb;replace HO989:=rB HO989 hb;replace HO992:=rB HO992 hb;replace HO995:=rB HO995 hb;replace HO1004:=rB HO1004 hb;replace HO1010:=rB HO1010 hb;replace HO1013:=rB HO1013 hb;replace HO1016:=rB HO1016 hb;replace HO1025:=rB HO1025 hb;replace BK893:=bkB BK893 hb;replace BK910:=bkB BK910 hb;replace BK924:=bkB BK924 hb;replace BK1006:=bkB BK1006 hb;replace BK1027:=bkB BK1027 hb;replace HB:=hbS HB hb;(try clear hb);(try clear hb2);(try clear hk);(try clear hi)))
    go_meet
    case rel => exact ⟨_,((t1005 != t1026)),rfs,H',⟨by have:=HJ4.out;have:=HJ22.out;have:=HJ82.out;have:=HJ116.out;first | omega | exact Nat.le_refl _⟩,⟨by (with_reducible repeat (first | apply Kd.R_alloc | apply Kd.R_drewN | apply Kd.R_drew));exact Kd.R_mono HO989.out (fun _ hk => ⟨hk.1.2,⟨hk.1.1.2.2,hk.2⟩⟩)⟩,⟨by (with_reducible repeat (first | apply Kd.R_alloc | apply Kd.R_drewN | apply Kd.R_drew));exact Kd.R_mono HO992.out (fun _ hk => ⟨hk.1.1.2.2.2.2,⟨hk.1.2,hk.2⟩⟩)⟩,⟨by (with_reducible repeat (first | apply Kd.R_alloc | apply Kd.R_drewN | apply Kd.R_drew));exact Kd.R_mono HO995.out (fun _ hk => ⟨hk.1.1.2.2.2.2,⟨hk.1.2,hk.2⟩⟩)⟩,⟨by (with_reducible repeat (first | apply Kd.R_alloc | apply Kd.R_drewN | apply Kd.R_drew));exact Kd.R_mono HO1010.out (fun _ hk => ⟨hk.1.2,⟨hk.2,hk.1.1.1.1⟩⟩)⟩,⟨by (with_reducible repeat (first | apply Kd.R_alloc | apply Kd.R_drewN | apply Kd.R_drew));exact Kd.R_mono HO1013.out (fun _ hk => ⟨hk.1.2,⟨hk.2,hk.1.1.1.1.1.1⟩⟩)⟩,⟨by (with_reducible repeat (first | apply Kd.R_alloc | apply Kd.R_drewN | apply Kd.R_drew));exact Kd.R_mono HO1016.out (fun _ hk => ⟨hk.1.2,⟨hk.2,hk.1.1.1.1.1.1⟩⟩)⟩,⟨by (with_reducible repeat (first | apply Kd.R_alloc | apply Kd.R_drewN | apply Kd.R_drew));exact Kd.R_mono HO1004.out (fun _ hk => ⟨hk.1.1.2.2,⟨hk.1.2,hk.2⟩⟩)⟩,⟨by (with_reducible repeat (first | apply Kd.R_alloc | apply Kd.R_drewN | apply Kd.R_drew));exact Kd.R_mono HO1025.out (fun _ hk => ⟨hk.1.2,⟨hk.1.1.1.1,hk.2⟩⟩)⟩,bkA BK893,bkA BK910,bkA BK924,bkA BK1006,bkA BK1027,hbA HB⟩
   ·replace c185:=Bool.eq_false_iff.mpr c185
    subst c185
    rw [if_neg (show ¬ (false = true) by decide)] at H
    have H':=Aside0.mk H
    clear H
    have hnb202:=NB910_893.out
    have hnc202:=NB893_910.out
    have hnb203:=NB910_924.out
    have hnc203:=NB924_910.out
    have hnb204:=NB910_1006.out
    have hnc204:=NB1006_910.out
    have hnb205:=NB910_1027.out
    have hnc205:=NB1027_910.out
    obtain ⟨z0,z1,z2,z3,z4,z5,y0,y1,y2,y3,y4,y5⟩:=bc6 BK910
    have hnb207:=NB924_893.out
    have hnc207:=NB893_924.out
    have hnb208:=NB924_1006.out
    have hnc208:=NB1006_924.out
    have hnb209:=NB924_1027.out
    have hnc209:=NB1027_924.out
    obtain ⟨z0,z1,z2,z3,z4,z5,y0,y1,y2,y3,y4,y5⟩:=bc6 BK924
    go_wp2_with (first | ((with_reducible refine gate_callee (f:=31) rfl ?_);refine goesL_ (some 134) rfl rfl Try.func31 (by kernel_rfl) rfl #[.agg #[.string t986,.slice Ao160 t987.length co160,.slice Ao161 t990.length co161,.slice Ao162 t993.length co162,.int .i64 t996,.int .i64 t997],.agg #[.string t1007,.slice Ao174 t1008.length co174,.slice Ao175 t1011.length co175,.slice Ao176 t1014.length co176,.int .i64 t1017,.int .i64 t1018]] rfl sma ?_;(with_reducible refine (hopmeshref49_SameBoard.calls kj116 t986 _ _ t987 _ _ t990 _ _ t993 t996 t997 t1007 _ _ t1008 _ _ t1011 _ _ t1014 t1017 t1018 true _ ?side1 ?side2 ?side3 ?side4 ?side5 ?side6 ?side7 ?side8 ?side9 ?side10 ?side11 ?side12 A182.out).mono ?_);(case side1 => refine (Kd.R_reads' (e:=3) (base:=w.heap.size) (ok:=fun k_ => (((some k_ ≠ (.slice Ao124 t960.length co124 : Value).ownBlock ∧ (some k_ ≠ (.slice Ao131 t973.length co131 : Value).ownBlock ∧ some k_ ≠ (.slice Ao167 t1002.length co167 : Value).ownBlock)) ∧ some k_ ≠ (.slice Ao174 t1008.length co174 : Value).ownBlock) ∧ some k_ ≠ (.slice Ao181 t1023.length co181 : Value).ownBlock)) (n:=t987.length) (c:=co160) ?_).2.2;exact (rfo HO989));(case side2 => exact (Kd.R_reads' HO989.out).2.1);(case side3 => refine (Kd.R_reads' (e:=4) (base:=w.heap.size) (ok:=fun k_ => (((some k_ ≠ (.slice Ao125 t963.length co125 : Value).ownBlock ∧ (some k_ ≠ (.slice Ao126 t966.length co126 : Value).ownBlock ∧ (some k_ ≠ (.slice Ao132 t976.length co132 : Value).ownBlock ∧ (some k_ ≠ (.slice Ao133 t979.length co133 : Value).ownBlock ∧ some k_ ≠ (.slice Ao162 t993.length co162 : Value).ownBlock)))) ∧ some k_ ≠ (.slice Ao175 t1011.length co175 : Value).ownBlock) ∧ some k_ ≠ (.slice Ao176 t1014.length co176 : Value).ownBlock)) (n:=t990.length) (c:=co161) ?_).2.2;exact (rfo HO992));(case side4 => exact (Kd.R_reads' HO992.out).2.1);(case side5 => refine (Kd.R_reads' (e:=4) (base:=w.heap.size) (ok:=fun k_ => (((some k_ ≠ (.slice Ao125 t963.length co125 : Value).ownBlock ∧ (some k_ ≠ (.slice Ao126 t966.length co126 : Value).ownBlock ∧ (some k_ ≠ (.slice Ao132 t976.length co132 : Value).ownBlock ∧ (some k_ ≠ (.slice Ao133 t979.length co133 : Value).ownBlock ∧ some k_ ≠ (.slice Ao161 t990.length co161 : Value).ownBlock)))) ∧ some k_ ≠ (.slice Ao175 t1011.length co175 : Value).ownBlock) ∧ some k_ ≠ (.slice Ao176 t1014.length co176 : Value).ownBlock)) (n:=t993.length) (c:=co162) ?_).2.2;exact (rfo HO995));(case side6 => exact (Kd.R_reads' HO995.out).2.1);(case side7 => refine (Kd.R_reads' (e:=3) (base:=w.heap.size) (ok:=fun k_ => ((((some k_ ≠ (.slice Ao181 t1023.length co181 : Value).ownBlock ∧ some k_ ≠ (.slice Ao124 t960.length co124 : Value).ownBlock) ∧ some k_ ≠ (.slice Ao131 t973.length co131 : Value).ownBlock) ∧ some k_ ≠ (.slice Ao160 t987.length co160 : Value).ownBlock) ∧ some k_ ≠ (.slice Ao167 t1002.length co167 : Value).ownBlock)) (n:=t1008.length) (c:=co174) ?_).2.2;exact (rfo HO1010));(case side8 => exact (Kd.R_reads' HO1010.out).2.1);(case side9 => refine (Kd.R_reads' (e:=4) (base:=w.heap.size) (ok:=fun k_ => ((((((some k_ ≠ (.slice Ao176 t1014.length co176 : Value).ownBlock ∧ some k_ ≠ (.slice Ao125 t963.length co125 : Value).ownBlock) ∧ some k_ ≠ (.slice Ao126 t966.length co126 : Value).ownBlock) ∧ some k_ ≠ (.slice Ao132 t976.length co132 : Value).ownBlock) ∧ some k_ ≠ (.slice Ao133 t979.length co133 : Value).ownBlock) ∧ some k_ ≠ (.slice Ao161 t990.length co161 : Value).ownBlock) ∧ some k_ ≠ (.slice Ao162 t993.length co162 : Value).ownBlock)) (n:=t1011.length) (c:=co175) ?_).2.2;exact (rfo HO1013));(case side10 => exact (Kd.R_reads' HO1013.out).2.1);(case side11 => refine (Kd.R_reads' (e:=4) (base:=w.heap.size) (ok:=fun k_ => ((((((some k_ ≠ (.slice Ao175 t1011.length co175 : Value).ownBlock ∧ some k_ ≠ (.slice Ao125 t963.length co125 : Value).ownBlock) ∧ some k_ ≠ (.slice Ao126 t966.length co126 : Value).ownBlock) ∧ some k_ ≠ (.slice Ao132 t976.length co132 : Value).ownBlock) ∧ some k_ ≠ (.slice Ao133 t979.length co133 : Value).ownBlock) ∧ some k_ ≠ (.slice Ao161 t990.length co161 : Value).ownBlock) ∧ some k_ ≠ (.slice Ao162 t993.length co162 : Value).ownBlock)) (n:=t1014.length) (c:=co176) ?_).2.2;exact (rfo HO1016));(case side12 => exact (Kd.R_reads' HO1016.out).2.1);rintro e w211 ⟨rfl,hb⟩;refine ⟨_,rfl,?_⟩;replace HO_911001:=Aside0.mk (Kd.R_below (rfo HO_911001) hb);replace HO_911002:=Aside0.mk (Kd.R_below (rfo HO_911002) hb);replace HO_911003:=Aside0.mk (Kd.R_below (rfo HO_911003) hb);replace HO_925001:=Aside0.mk (Kd.R_below (rfo HO_925001) hb);replace HO_925002:=Aside0.mk (Kd.R_below (rfo HO_925002) hb);replace HO_925003:=Aside0.mk (Kd.R_below (rfo HO_925003) hb);replace HO989:=Aside0.mk (Kd.R_below (rfo HO989) hb);replace HO992:=Aside0.mk (Kd.R_below (rfo HO992) hb);replace HO995:=Aside0.mk (Kd.R_below (rfo HO995) hb);replace HO1004:=Aside0.mk (Kd.R_below (rfo HO1004) hb);replace HO1010:=Aside0.mk (Kd.R_below (rfo HO1010) hb);replace HO1013:=Aside0.mk (Kd.R_below (rfo HO1013) hb);replace HO1016:=Aside0.mk (Kd.R_below (rfo HO1016) hb);replace HO1025:=Aside0.mk (Kd.R_below (rfo HO1025) hb);replace BK893:=bkfB BK893 hb;replace BK910:=bkfB BK910 hb;replace BK924:=Aside0.mk (blk_below (o:=.cells #[.string t1007,.slice Ao174 t1008.length co174,.slice Ao175 t1011.length co175,.slice Ao176 t1014.length co176,.int .i64 t1017,.int .i64 t1018] 50 (0,0)) (bkp BK924) hb);replace BK1006:=bkfB BK1006 hb;replace BK1027:=Aside0.mk (blk_below (o:=.cells #[.int .i64 t1019,.int .i64 t1020,.int .i64 t1021,.string t1022,.slice Ao181 t1023.length co181] 36 (0,0)) (bkp BK1027) hb);replace HB:=hbS HB hb;(try clear hb);(try clear hb2);(try clear hk);(try clear hi);have hnb212:=NB1006_893.out;have hnc212:=NB893_1006.out;have hnb213:=NB1006_1027.out;have hnc213:=NB1027_1006.out;obtain ⟨z0,z1,z2,z3,z4,y0,y1,y2,y3,y4⟩:=bc5 BK1006;have hnb215:=NB1027_893.out;have hnc215:=NB893_1027.out;obtain ⟨z0,z1,z2,z3,z4,y0,y1,y2,y3,y4⟩:=bc5 BK1027) | (go_at_call 28;(with_reducible refine (hopmeshref49_SameCommand.calls kj116 t998 t999 t1000 t1001 _ _ t1002 t1019 t1020 t1021 t1022 _ _ t1023 false _ ?side1 ?side2 ?side3 ?side4 A184.out).mono ?_);(case side1 => repeat (first | exact (Kd.R_reads' HO1004.out).2.2 | (with_reducible refine Kd.C_alloc ?_ _) | (with_reducible refine Kd.C_drewN ?_ _) | (with_reducible refine Kd.C_drew ?_)));(case side2 => exact (Kd.R_reads' HO1004.out).2.1);(case side3 => repeat (first | exact (Kd.R_reads' HO1025.out).2.2 | (with_reducible refine Kd.C_alloc ?_ _) | (with_reducible refine Kd.C_drewN ?_ _) | (with_reducible refine Kd.C_drew ?_)));(case side4 => exact (Kd.R_reads' HO1025.out).2.1);rintro e w217 ⟨rfl,hb⟩;replace HO_911001:=rB HO_911001 hb;replace HO_911002:=rB HO_911002 hb;replace HO_911003:=rB HO_911003 hb;replace HO_925001:=rB HO_925001 hb;replace HO_925002:=rB HO_925002 hb;replace HO_925003:=rB HO_925003 hb;replace HO989:=rB HO989 hb;replace HO992:=rB HO992 hb;replace HO995:=rB HO995 hb;replace HO1004:=rB HO1004 hb;replace HO1010:=rB HO1010 hb;replace HO1013:=rB HO1013 hb;replace HO1016:=rB HO1016 hb;replace HO1025:=rB HO1025 hb;replace BK893:=bkB BK893 hb;replace BK910:=bkB BK910 hb;replace BK924:=bkB BK924 hb;replace BK1006:=bkB BK1006 hb;replace BK1027:=bkB BK1027 hb;replace HB:=hbS HB hb;(try clear hb);(try clear hb2);(try clear hk);(try clear hi)))
    go_meet
    case rel => exact ⟨_,(true),rfs,H',⟨by have:=HJ4.out;have:=HJ22.out;have:=HJ82.out;have:=HJ116.out;first | omega | exact Nat.le_refl _⟩,⟨by (with_reducible repeat (first | apply Kd.R_alloc | apply Kd.R_drewN | apply Kd.R_drew));exact Kd.R_mono HO989.out (fun _ hk => ⟨hk.1.2,⟨hk.1.1.2.2,hk.2⟩⟩)⟩,⟨by (with_reducible repeat (first | apply Kd.R_alloc | apply Kd.R_drewN | apply Kd.R_drew));exact Kd.R_mono HO992.out (fun _ hk => ⟨hk.1.1.2.2.2.2,⟨hk.1.2,hk.2⟩⟩)⟩,⟨by (with_reducible repeat (first | apply Kd.R_alloc | apply Kd.R_drewN | apply Kd.R_drew));exact Kd.R_mono HO995.out (fun _ hk => ⟨hk.1.1.2.2.2.2,⟨hk.1.2,hk.2⟩⟩)⟩,⟨by (with_reducible repeat (first | apply Kd.R_alloc | apply Kd.R_drewN | apply Kd.R_drew));exact Kd.R_mono HO1010.out (fun _ hk => ⟨hk.1.2,⟨hk.2,hk.1.1.1.1⟩⟩)⟩,⟨by (with_reducible repeat (first | apply Kd.R_alloc | apply Kd.R_drewN | apply Kd.R_drew));exact Kd.R_mono HO1013.out (fun _ hk => ⟨hk.1.2,⟨hk.2,hk.1.1.1.1.1.1⟩⟩)⟩,⟨by (with_reducible repeat (first | apply Kd.R_alloc | apply Kd.R_drewN | apply Kd.R_drew));exact Kd.R_mono HO1016.out (fun _ hk => ⟨hk.1.2,⟨hk.2,hk.1.1.1.1.1.1⟩⟩)⟩,⟨by (with_reducible repeat (first | apply Kd.R_alloc | apply Kd.R_drewN | apply Kd.R_drew));exact Kd.R_mono HO1004.out (fun _ hk => ⟨hk.1.1.2.2,⟨hk.1.2,hk.2⟩⟩)⟩,⟨by (with_reducible repeat (first | apply Kd.R_alloc | apply Kd.R_drewN | apply Kd.R_drew));exact Kd.R_mono HO1025.out (fun _ hk => ⟨hk.1.2,⟨hk.1.1.1.1,hk.2⟩⟩)⟩,bkA BK893,bkA BK910,bkA BK924,bkA BK1006,bkA BK1027,hbA HB⟩
  ·replace c183:=Bool.eq_false_iff.mpr c183
   subst c183
   rw [if_neg (show ¬ (false = true) by decide)] at H
   have H':=Aside0.mk H
   clear H
   have hnb218:=NB910_893.out
   have hnc218:=NB893_910.out
   have hnb219:=NB910_924.out
   have hnc219:=NB924_910.out
   have hnb220:=NB910_1006.out
   have hnc220:=NB1006_910.out
   have hnb221:=NB910_1027.out
   have hnc221:=NB1027_910.out
   obtain ⟨z0,z1,z2,z3,z4,z5,y0,y1,y2,y3,y4,y5⟩:=bc6 BK910
   have hnb223:=NB924_893.out
   have hnc223:=NB893_924.out
   have hnb224:=NB924_1006.out
   have hnc224:=NB1006_924.out
   have hnb225:=NB924_1027.out
   have hnc225:=NB1027_924.out
   obtain ⟨z0,z1,z2,z3,z4,z5,y0,y1,y2,y3,y4,y5⟩:=bc6 BK924
   go_wp2_with (first | ((with_reducible refine gate_callee (f:=31) rfl ?_);refine goesL_ (some 134) rfl rfl Try.func31 (by kernel_rfl) rfl #[.agg #[.string t986,.slice Ao160 t987.length co160,.slice Ao161 t990.length co161,.slice Ao162 t993.length co162,.int .i64 t996,.int .i64 t997],.agg #[.string t1007,.slice Ao174 t1008.length co174,.slice Ao175 t1011.length co175,.slice Ao176 t1014.length co176,.int .i64 t1017,.int .i64 t1018]] rfl sma ?_;(with_reducible refine (hopmeshref49_SameBoard.calls kj116 t986 _ _ t987 _ _ t990 _ _ t993 t996 t997 t1007 _ _ t1008 _ _ t1011 _ _ t1014 t1017 t1018 false _ ?side1 ?side2 ?side3 ?side4 ?side5 ?side6 ?side7 ?side8 ?side9 ?side10 ?side11 ?side12 A182.out).mono ?_);(case side1 => refine (Kd.R_reads' (e:=3) (base:=w.heap.size) (ok:=fun k_ => (((some k_ ≠ (.slice Ao124 t960.length co124 : Value).ownBlock ∧ (some k_ ≠ (.slice Ao131 t973.length co131 : Value).ownBlock ∧ some k_ ≠ (.slice Ao167 t1002.length co167 : Value).ownBlock)) ∧ some k_ ≠ (.slice Ao174 t1008.length co174 : Value).ownBlock) ∧ some k_ ≠ (.slice Ao181 t1023.length co181 : Value).ownBlock)) (n:=t987.length) (c:=co160) ?_).2.2;exact (rfo HO989));(case side2 => exact (Kd.R_reads' HO989.out).2.1);(case side3 => refine (Kd.R_reads' (e:=4) (base:=w.heap.size) (ok:=fun k_ => (((some k_ ≠ (.slice Ao125 t963.length co125 : Value).ownBlock ∧ (some k_ ≠ (.slice Ao126 t966.length co126 : Value).ownBlock ∧ (some k_ ≠ (.slice Ao132 t976.length co132 : Value).ownBlock ∧ (some k_ ≠ (.slice Ao133 t979.length co133 : Value).ownBlock ∧ some k_ ≠ (.slice Ao162 t993.length co162 : Value).ownBlock)))) ∧ some k_ ≠ (.slice Ao175 t1011.length co175 : Value).ownBlock) ∧ some k_ ≠ (.slice Ao176 t1014.length co176 : Value).ownBlock)) (n:=t990.length) (c:=co161) ?_).2.2;exact (rfo HO992));(case side4 => exact (Kd.R_reads' HO992.out).2.1);(case side5 => refine (Kd.R_reads' (e:=4) (base:=w.heap.size) (ok:=fun k_ => (((some k_ ≠ (.slice Ao125 t963.length co125 : Value).ownBlock ∧ (some k_ ≠ (.slice Ao126 t966.length co126 : Value).ownBlock ∧ (some k_ ≠ (.slice Ao132 t976.length co132 : Value).ownBlock ∧ (some k_ ≠ (.slice Ao133 t979.length co133 : Value).ownBlock ∧ some k_ ≠ (.slice Ao161 t990.length co161 : Value).ownBlock)))) ∧ some k_ ≠ (.slice Ao175 t1011.length co175 : Value).ownBlock) ∧ some k_ ≠ (.slice Ao176 t1014.length co176 : Value).ownBlock)) (n:=t993.length) (c:=co162) ?_).2.2;exact (rfo HO995));(case side6 => exact (Kd.R_reads' HO995.out).2.1);(case side7 => refine (Kd.R_reads' (e:=3) (base:=w.heap.size) (ok:=fun k_ => ((((some k_ ≠ (.slice Ao181 t1023.length co181 : Value).ownBlock ∧ some k_ ≠ (.slice Ao124 t960.length co124 : Value).ownBlock) ∧ some k_ ≠ (.slice Ao131 t973.length co131 : Value).ownBlock) ∧ some k_ ≠ (.slice Ao160 t987.length co160 : Value).ownBlock) ∧ some k_ ≠ (.slice Ao167 t1002.length co167 : Value).ownBlock)) (n:=t1008.length) (c:=co174) ?_).2.2;exact (rfo HO1010));(case side8 => exact (Kd.R_reads' HO1010.out).2.1);(case side9 => refine (Kd.R_reads' (e:=4) (base:=w.heap.size) (ok:=fun k_ => ((((((some k_ ≠ (.slice Ao176 t1014.length co176 : Value).ownBlock ∧ some k_ ≠ (.slice Ao125 t963.length co125 : Value).ownBlock) ∧ some k_ ≠ (.slice Ao126 t966.length co126 : Value).ownBlock) ∧ some k_ ≠ (.slice Ao132 t976.length co132 : Value).ownBlock) ∧ some k_ ≠ (.slice Ao133 t979.length co133 : Value).ownBlock) ∧ some k_ ≠ (.slice Ao161 t990.length co161 : Value).ownBlock) ∧ some k_ ≠ (.slice Ao162 t993.length co162 : Value).ownBlock)) (n:=t1011.length) (c:=co175) ?_).2.2;exact (rfo HO1013));(case side10 => exact (Kd.R_reads' HO1013.out).2.1);(case side11 => refine (Kd.R_reads' (e:=4) (base:=w.heap.size) (ok:=fun k_ => ((((((some k_ ≠ (.slice Ao175 t1011.length co175 : Value).ownBlock ∧ some k_ ≠ (.slice Ao125 t963.length co125 : Value).ownBlock) ∧ some k_ ≠ (.slice Ao126 t966.length co126 : Value).ownBlock) ∧ some k_ ≠ (.slice Ao132 t976.length co132 : Value).ownBlock) ∧ some k_ ≠ (.slice Ao133 t979.length co133 : Value).ownBlock) ∧ some k_ ≠ (.slice Ao161 t990.length co161 : Value).ownBlock) ∧ some k_ ≠ (.slice Ao162 t993.length co162 : Value).ownBlock)) (n:=t1014.length) (c:=co176) ?_).2.2;exact (rfo HO1016));(case side12 => exact (Kd.R_reads' HO1016.out).2.1);rintro e w227 ⟨rfl,hb⟩;refine ⟨_,rfl,?_⟩;replace HO_911001:=Aside0.mk (Kd.R_below (rfo HO_911001) hb);replace HO_911002:=Aside0.mk (Kd.R_below (rfo HO_911002) hb);replace HO_911003:=Aside0.mk (Kd.R_below (rfo HO_911003) hb);replace HO_925001:=Aside0.mk (Kd.R_below (rfo HO_925001) hb);replace HO_925002:=Aside0.mk (Kd.R_below (rfo HO_925002) hb);replace HO_925003:=Aside0.mk (Kd.R_below (rfo HO_925003) hb);replace HO989:=Aside0.mk (Kd.R_below (rfo HO989) hb);replace HO992:=Aside0.mk (Kd.R_below (rfo HO992) hb);replace HO995:=Aside0.mk (Kd.R_below (rfo HO995) hb);replace HO1004:=Aside0.mk (Kd.R_below (rfo HO1004) hb);replace HO1010:=Aside0.mk (Kd.R_below (rfo HO1010) hb);replace HO1013:=Aside0.mk (Kd.R_below (rfo HO1013) hb);replace HO1016:=Aside0.mk (Kd.R_below (rfo HO1016) hb);replace HO1025:=Aside0.mk (Kd.R_below (rfo HO1025) hb);replace BK893:=bkfB BK893 hb;replace BK910:=bkfB BK910 hb;replace BK924:=Aside0.mk (blk_below (o:=.cells #[.string t1007,.slice Ao174 t1008.length co174,.slice Ao175 t1011.length co175,.slice Ao176 t1014.length co176,.int .i64 t1017,.int .i64 t1018] 50 (0,0)) (bkp BK924) hb);replace BK1006:=bkfB BK1006 hb;replace BK1027:=Aside0.mk (blk_below (o:=.cells #[.int .i64 t1019,.int .i64 t1020,.int .i64 t1021,.string t1022,.slice Ao181 t1023.length co181] 36 (0,0)) (bkp BK1027) hb);replace HB:=hbS HB hb;(try clear hb);(try clear hb2);(try clear hk);(try clear hi)))
   go_meet
   case rel => exact ⟨_,(true),rfs,H',⟨by have:=HJ4.out;have:=HJ22.out;have:=HJ82.out;have:=HJ116.out;first | omega | exact Nat.le_refl _⟩,⟨by (with_reducible repeat (first | apply Kd.R_alloc | apply Kd.R_drewN | apply Kd.R_drew));exact Kd.R_mono HO989.out (fun _ hk => ⟨hk.1.2,⟨hk.1.1.2.2,hk.2⟩⟩)⟩,⟨by (with_reducible repeat (first | apply Kd.R_alloc | apply Kd.R_drewN | apply Kd.R_drew));exact Kd.R_mono HO992.out (fun _ hk => ⟨hk.1.1.2.2.2.2,⟨hk.1.2,hk.2⟩⟩)⟩,⟨by (with_reducible repeat (first | apply Kd.R_alloc | apply Kd.R_drewN | apply Kd.R_drew));exact Kd.R_mono HO995.out (fun _ hk => ⟨hk.1.1.2.2.2.2,⟨hk.1.2,hk.2⟩⟩)⟩,⟨by (with_reducible repeat (first | apply Kd.R_alloc | apply Kd.R_drewN | apply Kd.R_drew));exact Kd.R_mono HO1010.out (fun _ hk => ⟨hk.1.2,⟨hk.2,hk.1.1.1.1⟩⟩)⟩,⟨by (with_reducible repeat (first | apply Kd.R_alloc | apply Kd.R_drewN | apply Kd.R_drew));exact Kd.R_mono HO1013.out (fun _ hk => ⟨hk.1.2,⟨hk.2,hk.1.1.1.1.1.1⟩⟩)⟩,⟨by (with_reducible repeat (first | apply Kd.R_alloc | apply Kd.R_drewN | apply Kd.R_drew));exact Kd.R_mono HO1016.out (fun _ hk => ⟨hk.1.2,⟨hk.2,hk.1.1.1.1.1.1⟩⟩)⟩,⟨by (with_reducible repeat (first | apply Kd.R_alloc | apply Kd.R_drewN | apply Kd.R_drew));exact Kd.R_mono HO1004.out (fun _ hk => ⟨hk.1.1.2.2,⟨hk.1.2,hk.2⟩⟩)⟩,⟨by (with_reducible repeat (first | apply Kd.R_alloc | apply Kd.R_drewN | apply Kd.R_drew));exact Kd.R_mono HO1025.out (fun _ hk => ⟨hk.1.2,⟨hk.1.1.1.1,hk.2⟩⟩)⟩,bkA BK893,bkA BK910,bkA BK924,bkA BK1006,bkA BK1027,hbA HB⟩
 case rest =>
  clear HC151
  try clear c18
  try clear c80
  try clear c114
  try clear c148
  try clear hcz120_0
  try clear hcz120_1
  try clear hcz120_2
  try clear hcz120_3
  try clear hcz120_4
  try clear hcz120_5
  try clear hcz123_0
  try clear hcz123_1
  try clear hcz123_2
  try clear hcz123_3
  try clear hcz123_4
  try clear hcz123_5
  try clear hcz128_0
  try clear hcz128_1
  try clear hcz128_2
  try clear hcz128_3
  try clear hcz128_4
  try clear hcz128_5
  try clear hcz130_0
  try clear hcz130_1
  try clear hcz130_2
  try clear hcz130_3
  try clear hcz130_4
  try clear hcz130_5
  try clear hcz154_0
  try clear hcz154_1
  try clear hcz154_2
  try clear hcz154_3
  try clear hcz154_4
  try clear hcz154_5
  try clear hcz159_0
  try clear hcz159_1
  try clear hcz159_2
  try clear hcz159_3
  try clear hcz159_4
  try clear hcz159_5
  try clear hcz166_0
  try clear hcz166_1
  try clear hcz166_2
  try clear hcz166_3
  try clear hcz166_4
  try clear hcz169_0
  try clear hcz169_1
  try clear hcz169_2
  try clear hcz169_3
  try clear hcz169_4
  try clear hcz169_5
  try clear hcz173_0
  try clear hcz173_1
  try clear hcz173_2
  try clear hcz173_3
  try clear hcz173_4
  try clear hcz173_5
  try clear hcz180_0
  try clear hcz180_1
  try clear hcz180_2
  try clear hcz180_3
  try clear hcz180_4
  try clear hcz86_0
  try clear hcz86_1
  try clear hcz86_2
  try clear hcz86_3
  try clear hcz86_4
  try clear hcz86_5
  try clear hcz89_0
  try clear hcz89_1
  try clear hcz89_2
  try clear hcz89_3
  try clear hcz89_4
  try clear hcz89_5
  try clear hcz94_0
  try clear hcz94_1
  try clear hcz94_2
  try clear hcz94_3
  try clear hcz94_4
  try clear hcz94_5
  try clear hcz96_0
  try clear hcz96_1
  try clear hcz96_2
  try clear hcz96_3
  try clear hcz96_4
  try clear hcz96_5
  try clear hfz120_0
  try clear hfz120_1
  try clear hfz120_2
  try clear hfz120_3
  try clear hfz120_4
  try clear hfz120_5
  try clear hfz123_0
  try clear hfz123_1
  try clear hfz123_2
  try clear hfz123_3
  try clear hfz123_4
  try clear hfz123_5
  try clear hfz128_0
  try clear hfz128_1
  try clear hfz128_2
  try clear hfz128_3
  try clear hfz128_4
  try clear hfz128_5
  try clear hfz130_0
  try clear hfz130_1
  try clear hfz130_2
  try clear hfz130_3
  try clear hfz130_4
  try clear hfz130_5
  try clear hfz154_0
  try clear hfz154_1
  try clear hfz154_2
  try clear hfz154_3
  try clear hfz154_4
  try clear hfz154_5
  try clear hfz159_0
  try clear hfz159_1
  try clear hfz159_2
  try clear hfz159_3
  try clear hfz159_4
  try clear hfz159_5
  try clear hfz166_0
  try clear hfz166_1
  try clear hfz166_2
  try clear hfz166_3
  try clear hfz166_4
  try clear hfz169_0
  try clear hfz169_1
  try clear hfz169_2
  try clear hfz169_3
  try clear hfz169_4
  try clear hfz169_5
  try clear hfz173_0
  try clear hfz173_1
  try clear hfz173_2
  try clear hfz173_3
  try clear hfz173_4
  try clear hfz173_5
  try clear hfz180_0
  try clear hfz180_1
  try clear hfz180_2
  try clear hfz180_3
  try clear hfz180_4
  try clear hfz86_0
  try clear hfz86_1
  try clear hfz86_2
  try clear hfz86_3
  try clear hfz86_4
  try clear hfz86_5
  try clear hfz89_0
  try clear hfz89_1
  try clear hfz89_2
  try clear hfz89_3
  try clear hfz89_4
  try clear hfz89_5
  try clear hfz94_0
  try clear hfz94_1
  try clear hfz94_2
  try clear hfz94_3
  try clear hfz94_4
  try clear hfz94_5
  try clear hfz96_0
  try clear hfz96_1
  try clear hfz96_2
  try clear hfz96_3
  try clear hfz96_4
  try clear hfz96_5
  obtain ⟨kq,x146_150,rfl,HA,HJ150,HO_911001,HO_911002,HO_911003,HO_925001,HO_925002,HO_925003,HO_1007004,HO_1028004,BK893,BK910,BK924,BK1006,BK1027,HB⟩:=hcut
  cases kq with
  | zero => exact absurd HA.out (by simp [hopmeshlaw49_InstallBoards.j4])
  | succ kj150 =>
   have H:=HA.out
   clear HA
   simp only [hopmeshlaw49_InstallBoards.j4] at H
   by_cases c228 : x146_150 = true
   ·subst c228
    rw [if_pos rfl] at H
    exact absurd H (by simp)
   ·replace c228:=Bool.eq_false_iff.mpr c228
    subst c228
    rw [if_neg (show ¬ (false = true) by decide)] at H
    replace H:=Option.bind_eq_some_iff.mp H
    obtain ⟨⟨t1030,t1031,t1034,t1037,t1040,t1041,t1042,t1043,t1044,t1045,t1046,t1049⟩,A2290,H⟩:=H
    (try dsimp only at H)
    have A229:=Aside0.mk A2290
    clear A2290
    replace H:=Option.bind_eq_some_iff.mp H
    obtain ⟨⟨t1050,t1051,t1054,t1057,t1060,t1061,t1062,t1063,t1064,t1065,t1066,t1069⟩,A2300,H⟩:=H
    (try dsimp only at H)
    have A230:=Aside0.mk A2300
    clear A2300
    replace H:=Option.bind_eq_some_iff.mp H
    obtain ⟨t1070,A2310,H⟩:=H
    (try dsimp only at H)
    have A231:=Aside0.mk A2310
    clear A2310
    by_cases c232 : t1070 = true
    ·subst c232
     rw [if_pos rfl] at H
     replace H:=Option.bind_eq_some_iff.mp H
     obtain ⟨t1071,A2330,H⟩:=H
     (try dsimp only at H)
     have A233:=Aside0.mk A2330
     clear A2330
     by_cases c234 : t1071 = true
     ·subst c234
      rw [if_pos rfl] at H
      obtain rfl:=Option.some.inj H
      go_upto_region 19 with (fail)
      exact hopmeshlaw49_InstallBoards.part19 _ _ _ _ _ _ _ _ _ _ _ _ _ _ _ _ _ _ _ _ _ _ _ _ _ _ _ _ _ _ _ _ _ _ _ _ _ _ _ _ _ _ _ _ _ _ _ _ _ _ _ _ _ _ _ _ _ _ _ _ _ _ _ _ _ _ _ _ _ _ _ _ _ _ _ _ _ _ _ _ _ _ _ _ _ _ _ _ _ _ _ _ _ _ _ _ _ _ _ _ _ _ _ _ _ _ _ _ _ _ _ _ _ _ _ _ _ _ _ _ _ _ _ _ _ _ _ _ _ _ _ _ _ _ _ _ _ _ _ _ _ _ _ _ _ _ _ _ _ _ _ _ _ _ _ _ _ _ _ _ _ _ _ _ _ _ _ _ _ _ _ _ _ _ _ _ _ _ _ _ _ _ _ _ _ _ _ _ _ _ _ _ _ _ _ _ _ _ _ _ _ _ _ _ _ _ _ _ _ _ _ _ _ _ _ _ _ _ _ _ _ _ _ _ _ _ _ _ _ _ _ _ _ _ _ _ _ _ _ _ _ _ _ HR0_1 HC0_1 HR0_2 HC0_2 HR0_3 HC0_3 GE893 GE910 NB893_910 NB910_893 GE924 NB893_924 NB924_893 NB910_924 NB924_910 GE1006 NB893_1006 NB1006_893 NB910_1006 NB1006_910 NB924_1006 NB1006_924 GE1027 NB893_1027 NB1027_893 NB910_1027 NB1027_910 NB924_1027 NB1027_924 NB1006_1027 NB1027_1006 HO_911001 HO_911002 HO_911003 HO_925001 HO_925002 HO_925003 HO_1007004 HO_1028004 BK893 BK910 BK924 BK1006 BK1027 HB A229 A230 A231 A233 _ _ _ ‹_› (by kernel_rfl) (by kernel_rfl)
     ·replace c234:=Bool.eq_false_iff.mpr c234
      subst c234
      rw [if_neg (show ¬ (false = true) by decide)] at H
      exact absurd H (by simp)
    ·replace c232:=Bool.eq_false_iff.mpr c232
     subst c232
     rw [if_neg (show ¬ (false = true) by decide)] at H
     exact absurd H (by simp)
end Go.Proofs.Ytdigplhjfjchnaa.PQ
