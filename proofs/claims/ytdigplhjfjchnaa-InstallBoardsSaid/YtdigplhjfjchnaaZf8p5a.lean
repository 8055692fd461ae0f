-- Printed by fprint.py and zip.py, programs of this session's, over the kit's print; Lean checks it.
import Derived.Test.YtdigplhjfjchnaaZf8d
namespace Go.Proofs.Ytdigplhjfjchnaa.PQ
open Go.RowKit Go.Proofs.YtdigplhjfjchnaaW.PrintWords Go.Proofs.YtdigplhjfjchnaaW.PrintLast Go.Proofs.YtdigplhjfjchnaaW.PrintMore
attribute [local go_sem] max2_int min2_int max_two min_two max_three min_three max_four min_four   -- for this text's walks alone
set_option linter.unusedVariables false
set_option linter.unusedSimpArgs false
def hopmeshlaw49_InstallBoards.T5_part5a : Bool × List (List Nat × List Nat):=(true,[([],[]),([],[]),([0,1],[0,1]),([2],[2]),([3,2],[3]),([4],[4]),([4],[4]),([5,6,4],[4,5,6]),([4,7],[4,7]),([8,4],[8]),([9],[9]),([10,9,9],[9,10]),([9],[9]),([12,11,9],[9,12]),([11,13,9],[9,11,13]),([9,14],[9,14]),([15,13],[15]),([16],[16]),([17,16,16],[16,17]),([16],[16]),([19,18,16],[16,19]),([18,20,16],[16,18,20]),([16,21],[16,21]),([22,20],[22]),([23],[23]),([24,23,23],[23,24]),([23],[23]),([26,25,23],[23,26]),([25,27,23],[23,25,27]),([23,28],[23,28])])
def hopmeshlaw49_InstallBoards.B5_part5a : List Nat:=[0,0,3,7,15,31,31,127,255,511,1023,2047,1023,8191,16383,32767,65535,131071,262143,131071,1048575,2097151,4194303,8388607,16777215,33554431,16777215,134217727,268435455,536870911]
theorem hopmeshlaw49_InstallBoards.tab5_part5a : rtab .any (opsOf Try.f8 5) = hopmeshlaw49_InstallBoards.T5_part5a:=by kernel_rfl
theorem hopmeshlaw49_InstallBoards.bits5_part5a : waitsOk hopmeshlaw49_InstallBoards.T5_part5a.2 hopmeshlaw49_InstallBoards.B5_part5a = true:=by kernel_rfl
set_option maxHeartbeats 8000000 in
set_option maxRecDepth 100000 in
theorem hopmeshlaw49_InstallBoards.part5a (k : Nat) (a0_0 : ByteArray) (A0_1 : Option Addr) (c0_1 : Nat) (l0_1 : List Int) (A0_2 : Option Addr) (c0_2 : Nat) (l0_2 : List Bool) (A0_3 : Option Addr) (c0_3 : Nat) (l0_3 : List Bool) (a0_4 a0_5 : Int) (a1 : ByteArray) (a2 a3 : Int) (r : Bool) (w : World) (gb893 kj4 : Nat) (t897 : ByteArray) (t898 : List Int) (t901 : List Bool) (t904 : List Bool) (t907 t908 t909 : Int) (t911 : ByteArray) (t912 : List Int) (t915 : List Bool) (t918 : List Bool) (t921 t922 t923 : Int) (gb910 : Nat) (Ao29 : Option Addr) (co29 : Nat) (Ao30 : Option Addr) (co30 : Nat) (Ao31 : Option Addr) (co31 gb924 : Nat) (Ao39 : Option Addr) (co39 : Nat) (Ao40 : Option Addr) (co40 : Nat) (Ao41 : Option Addr) (co41 : Nat) (w51 : World) (t926 t927 : Int) (t928 t929 : Bool) (U15 U16 U17 U18 U19 U20 U21 U22 U23 U24 U25 U27 U42 U43 U44 U45 U46 U47 U48 U49 U50 U51 U52 U53 U54 U55 U56 U57 U58 U59 U60 U61 U62 U63 U64 U65 U66 U67 U68 U69 U70 U71 U72 U73 U74 U75 U76 U77 U78 U79 U80 U81 U82 U83 U84 U85 U86 U87 U88 U89 U90 U91 U92 U93 U94 U95 U96 U97 U98 U99 U100 U101 U102 U103 U104 U105 U106 U107 U108 U109 U110 U111 U112 U113 U114 U115 U116 U117 U118 U119 U120 U121 U122 U123 U124 U125 U126 U127 U128 U129 U130 U131 U132 U133 U134 U135 U136 U137 U138 U139 U140 U141 U142 U143 U144 U145 U146 U147 U148 U149 U150 U151 U152 U153 U154 U155 U156 U157 U158 U159 U160 U161 U162 U163 U164 U165 U166 U167 U168 U169 U170 U171 : Value) (HR0_1 : Aside0 (Kd.C (Kd.int IntKind.i64) w A0_1 (List.length l0_1) l0_1)) (HC0_1 : Aside0 (List.length l0_1 ≤ c0_1)) (HR0_2 : Aside0 (Kd.C Kd.bool w A0_2 (List.length l0_2) l0_2)) (HC0_2 : Aside0 (List.length l0_2 ≤ c0_2)) (HR0_3 : Aside0 (Kd.C Kd.bool w A0_3 (List.length l0_3) l0_3)) (HC0_3 : Aside0 (List.length l0_3 ≤ c0_3)) (GE893 : Aside0 (Array.size (World.heap w) ≤ gb893)) (HJ4 : Aside0 (kj4 + (1 : Nat) ≤ k)) (GE910 : Aside0 (Array.size (World.heap w) ≤ gb910)) (NB893_910 : Aside0 (gb893 ≠ gb910)) (NB910_893 : Aside0 (gb910 ≠ gb893)) (GE924 : Aside0 (Array.size (World.heap w) ≤ gb924)) (NB893_924 : Aside0 (gb893 ≠ gb924)) (NB924_893 : Aside0 (gb924 ≠ gb893)) (NB910_924 : Aside0 (gb910 ≠ gb924)) (NB924_910 : Aside0 (gb924 ≠ gb910)) (HO900 : Aside0 (Kd.R (Kd.int IntKind.i64) (3 : Nat) (World.drew w51) (Array.size (World.heap w)) (fun (k_ : Nat) => some k_ ≠ Value.ownBlock (Value.slice Ao39 (List.length t912) co39)) (Value.slice Ao29 (List.length t898) co29) t898)) (HO903 : Aside0 (Kd.R Kd.bool (4 : Nat) (World.drew w51) (Array.size (World.heap w)) (fun (k_ : Nat) => some k_ ≠ Value.ownBlock (Value.slice Ao31 (List.length t904) co31) ∧ some k_ ≠ Value.ownBlock (Value.slice Ao40 (List.length t915) co40) ∧ some k_ ≠ Value.ownBlock (Value.slice Ao41 (List.length t918) co41)) (Value.slice Ao30 (List.length t901) co30) t901)) (HO906 : Aside0 (Kd.R Kd.bool (4 : Nat) (World.drew w51) (Array.size (World.heap w)) (fun (k_ : Nat) => some k_ ≠ Value.ownBlock (Value.slice Ao30 (List.length t901) co30) ∧ some k_ ≠ Value.ownBlock (Value.slice Ao40 (List.length t915) co40) ∧ some k_ ≠ Value.ownBlock (Value.slice Ao41 (List.length t918) co41)) (Value.slice Ao31 (List.length t904) co31) t904)) (HO914 : Aside0 (Kd.R (Kd.int IntKind.i64) (3 : Nat) (World.drew w51) (Array.size (World.heap w)) (fun (k_ : Nat) => some k_ ≠ Value.ownBlock (Value.slice Ao29 (List.length t898) co29)) (Value.slice Ao39 (List.length t912) co39) t912)) (HO917 : Aside0 (Kd.R Kd.bool (4 : Nat) (World.drew w51) (Array.size (World.heap w)) (fun (k_ : Nat) => some k_ ≠ Value.ownBlock (Value.slice Ao30 (List.length t901) co30) ∧ some k_ ≠ Value.ownBlock (Value.slice Ao31 (List.length t904) co31) ∧ some k_ ≠ Value.ownBlock (Value.slice Ao41 (List.length t918) co41)) (Value.slice Ao40 (List.length t915) co40) t915)) (HO920 : Aside0 (Kd.R Kd.bool (4 : Nat) (World.drew w51) (Array.size (World.heap w)) (fun (k_ : Nat) => some k_ ≠ Value.ownBlock (Value.slice Ao30 (List.length t901) co30) ∧ some k_ ≠ Value.ownBlock (Value.slice Ao31 (List.length t904) co31) ∧ some k_ ≠ Value.ownBlock (Value.slice Ao40 (List.length t915) co40)) (Value.slice Ao41 (List.length t918) co41) t918)) (BK893 : Aside0 ((World.heap (World.drew w51))[gb893]? = some (Obj.cells #[Value.string a0_0,Value.slice A0_1 (List.length l0_1) c0_1,Value.slice A0_2 (List.length l0_2) c0_2,Value.slice A0_3 (List.length l0_3) c0_3,Value.int IntKind.i64 a0_4,Value.int IntKind.i64 a0_5] (50 : TypeId)))) (BK910 : Aside0 ((World.heap (World.drew w51))[gb910]? = some (Obj.cells #[Value.string t897,Value.slice Ao29 (List.length t898) co29,Value.slice Ao30 (List.length t901) co30,Value.slice Ao31 (List.length t904) co31,Value.int IntKind.i64 t907,Value.int IntKind.i64 t908] (50 : TypeId)))) (BK924 : Aside0 ((World.heap (World.drew w51))[gb924]? = some (Obj.cells #[Value.string t911,Value.slice Ao39 (List.length t912) co39,Value.slice Ao40 (List.length t915) co40,Value.slice Ao41 (List.length t918) co41,Value.int IntKind.i64 t921,Value.int IntKind.i64 t922] (50 : TypeId)))) (HB : Aside0 (Below (Array.size (World.heap w)) w (World.drew w51))) (A42 : Aside0 (hopmeshref49_SameBoard.f kj4 t897 t898 t901 t904 t907 t908 t911 t912 t915 t918 t921 t922 = some true)) (c44b0 : (t909 == t923) = true) (c44b1 : (t909 != t923) = false) (A45 : Aside0 (install_Valid.f kj4 a0_0 l0_1 l0_2 l0_3 a0_4 a0_5 = some t926)) (A46 : Aside0 (hopmeshref49_Valid.f kj4 a0_0 l0_1 l0_2 l0_3 a0_4 a0_5 = some t927)) (c47b0 : (t926 == t927) = true) (c47b1 : (t926 != t927) = false) (A48 : Aside0 (install_Ready.f kj4 a0_0 l0_1 l0_2 l0_3 a0_4 a0_5 = some t928)) (A49 : Aside0 (hopmeshref49_Ready.f kj4 a0_0 l0_1 l0_2 l0_3 a0_4 a0_5 = some t929)) (c50b0 : (t928 != t929) = true) (c50b1 : decide (t928 = t929) = false) (c50b2 : (t928 == t929) = false) (c50b3 : ¬t928 = t929) (H' : Aside0 (j1 kj4 a1 a2 a3 true a0_0 l0_1 l0_2 l0_3 a0_4 a0_5 = some r)) (z296_ : Act → World → Prop) (z291_ : Act → World → Prop) (z295_ : Act → World → Prop) (cc0_ : Code) :
 let z26_ : Exit → Act → World → Prop:=bodyPost Try.prog Try.f8 fun (e : Ending) (w' : World) => e = Ending.returned (Value.bool r) ∧ Below (Array.size (World.heap w)) w w';(∀ (a' : Act) (w' : World),Met z295_ a' w' → z296_ a' w') → (∀ (a' : Act) (w' : World),(∃ u15 u16 u17 u18 u19 u20 u21 u22 u23 u24 u25 u26 u27 u28 u29 u30 u31 u32 u33 u34 u35 u36 u37 u38 u39 u40 u41 u42 u43 u44 u45 u46 u47 u48 u49 u50 u51 u52 u53 u54 u55 u56 u57 u58 u59 u60 u61 u62 u63 u64 u65 u66 u67 u68 u69 u70 u71 u72 u73 u74 u75 u76 u77 u78 u79 u80 u81 u82 u83 u84 u85 u86 u87 u88 u89 u90 u91 u92 u93 u94 u95 u96 u97 u98 u99 u100 u101 u102 u103 u104 u105 u106 u107 u108 u109 u110 u111 u112 u113 u114 u115 u116 u117 u118 u119 u120 u121 u122 u123 u124 u125 u126 u127 u128 u129 u130 u131 u132 u133 u134 u135 u136 u137 u138 u139 u140 u141 u142 u143 u144 u145 u146 u147 u148 u149 u150 u151 u152 u153 u154 u155 u156 u157 u158 u159 u160 u161 u162 u163 u164 u165 u166 u167 u168 u169 u170 u171 : Value,(∃ kq : Nat,∃ x71_22 : Bool,u71 = Value.bool x71_22 ∧ Aside0 (j1 kq a1 a2 a3 x71_22 a0_0 l0_1 l0_2 l0_3 a0_4 a0_5 = some r) ∧ Aside0 (kq ≤ kj4) ∧ Aside0 (Kd.R (Kd.int IntKind.i64) (3 : Nat) w' (Array.size (World.heap w)) (fun (k_ : Nat) => some k_ ≠ Value.ownBlock (Value.slice Ao39 (List.length t912) co39)) (Value.slice Ao29 (List.length t898) co29) t898) ∧ Aside0 (Kd.R Kd.bool (4 : Nat) w' (Array.size (World.heap w)) (fun (k_ : Nat) => some k_ ≠ Value.ownBlock (Value.slice Ao31 (List.length t904) co31) ∧ some k_ ≠ Value.ownBlock (Value.slice Ao40 (List.length t915) co40) ∧ some k_ ≠ Value.ownBlock (Value.slice Ao41 (List.length t918) co41)) (Value.slice Ao30 (List.length t901) co30) t901) ∧ Aside0 (Kd.R Kd.bool (4 : Nat) w' (Array.size (World.heap w)) (fun (k_ : Nat) => some k_ ≠ Value.ownBlock (Value.slice Ao30 (List.length t901) co30) ∧ some k_ ≠ Value.ownBlock (Value.slice Ao40 (List.length t915) co40) ∧ some k_ ≠ Value.ownBlock (Value.slice Ao41 (List.length t918) co41)) (Value.slice Ao31 (List.length t904) co31) t904) ∧ Aside0 (Kd.R (Kd.int IntKind.i64) (3 : Nat) w' (Array.size (World.heap w)) (fun (k_ : Nat) => some k_ ≠ Value.ownBlock (Value.slice Ao29 (List.length t898) co29)) (Value.slice Ao39 (List.length t912) co39) t912) ∧ Aside0 (Kd.R Kd.bool (4 : Nat) w' (Array.size (World.heap w)) (fun (k_ : Nat) => some k_ ≠ Value.ownBlock (Value.slice Ao30 (List.length t901) co30) ∧ some k_ ≠ Value.ownBlock (Value.slice Ao31 (List.length t904) co31) ∧ some k_ ≠ Value.ownBlock (Value.slice Ao41 (List.length t918) co41)) (Value.slice Ao40 (List.length t915) co40) t915) ∧ Aside0 (Kd.R Kd.bool (4 : Nat) w' (Array.size (World.heap w)) (fun (k_ : Nat) => some k_ ≠ Value.ownBlock (Value.slice Ao30 (List.length t901) co30) ∧ some k_ ≠ Value.ownBlock (Value.slice Ao31 (List.length t904) co31) ∧ some k_ ≠ Value.ownBlock (Value.slice Ao40 (List.length t915) co40)) (Value.slice Ao41 (List.length t918) co41) t918) ∧ Aside0 ((World.heap w')[gb893]? = some (Obj.cells #[Value.string a0_0,Value.slice A0_1 (List.length l0_1) c0_1,Value.slice A0_2 (List.length l0_2) c0_2,Value.slice A0_3 (List.length l0_3) c0_3,Value.int IntKind.i64 a0_4,Value.int IntKind.i64 a0_5] (50 : TypeId))) ∧ Aside0 ((World.heap w')[gb910]? = some (Obj.cells #[Value.string t897,Value.slice Ao29 (List.length t898) co29,Value.slice Ao30 (List.length t901) co30,Value.slice Ao31 (List.length t904) co31,Value.int IntKind.i64 t907,Value.int IntKind.i64 t908] (50 : TypeId))) ∧ Aside0 ((World.heap w')[gb924]? = some (Obj.cells #[Value.string t911,Value.slice Ao39 (List.length t912) co39,Value.slice Ao40 (List.length t915) co40,Value.slice Ao41 (List.length t918) co41,Value.int IntKind.i64 t921,Value.int IntKind.i64 t922] (50 : TypeId))) ∧ Aside0 (Below (Array.size (World.heap w)) w w')) ∧ a' = { tmps:=#[Value.agg #[Value.string a0_0,Value.slice A0_1 (List.length l0_1) c0_1,Value.slice A0_2 (List.length l0_2) c0_2,Value.slice A0_3 (List.length l0_3) c0_3,Value.int IntKind.i64 a0_4,Value.int IntKind.i64 a0_5],Value.string a1,Value.int IntKind.i64 a2,Value.int IntKind.i64 a3,Value.pointer (some { block:=gb893,off:=(0 : Nat) }),undef,undef,undef,Value.bool false,Value.pointer (some { block:=gb910,off:=(0 : Nat) }),Value.int IntKind.i64 t909,Value.pointer (some { block:=gb924,off:=(0 : Nat) }),Value.int IntKind.i64 t923,undef,undef,u15,u16,u17,u18,u19,u20,u21,u22,u23,u24,u25,u26,u27,u28,u29,u30,u31,u32,u33,u34,u35,u36,u37,u38,u39,u40,u41,u42,u43,u44,u45,u46,u47,u48,u49,u50,u51,u52,u53,u54,u55,u56,u57,u58,u59,u60,u61,u62,u63,u64,u65,u66,u67,u68,u69,u70,u71,u72,u73,u74,u75,u76,u77,u78,u79,u80,u81,u82,u83,u84,u85,u86,u87,u88,u89,u90,u91,u92,u93,u94,u95,u96,u97,u98,u99,u100,u101,u102,u103,u104,u105,u106,u107,u108,u109,u110,u111,u112,u113,u114,u115,u116,u117,u118,u119,u120,u121,u122,u123,u124,u125,u126,u127,u128,u129,u130,u131,u132,u133,u134,u135,u136,u137,u138,u139,u140,u141,u142,u143,u144,u145,u146,u147,u148,u149,u150,u151,u152,u153,u154,u155,u156,u157,u158,u159,u160,u161,u162,u163,u164,u165,u166,u167,u168,u169,u170,u171],defers:=[] }) → z295_ a' w') → Option.bind Try.f8.body (codeAt [1,1,1,1,0,0]) = some cc0_ → Code.wp Try.prog cc0_ (Exit.then z296_ (Exit.then z291_ z26_)) ⟨#[Value.agg #[Value.string a0_0,Value.slice A0_1 (List.length l0_1) c0_1,Value.slice A0_2 (List.length l0_2) c0_2,Value.slice A0_3 (List.length l0_3) c0_3,Value.int IntKind.i64 a0_4,Value.int IntKind.i64 a0_5],Value.string a1,Value.int IntKind.i64 a2,Value.int IntKind.i64 a3,Value.pointer (some { block:=gb893,off:=(0 : Nat) }),undef,undef,undef,Value.bool false,Value.pointer (some { block:=gb910,off:=(0 : Nat) }),Value.int IntKind.i64 t909,Value.pointer (some { block:=gb924,off:=(0 : Nat) }),Value.int IntKind.i64 t923,undef,undef,U15,U16,U17,U18,U19,U20,U21,U22,U23,U24,U25,Value.bool false,U27,Value.tuple #[Value.agg #[Value.string t897,Value.slice Ao29 (List.length t898) co29,Value.slice Ao30 (List.length t901) co30,Value.slice Ao31 (List.length t904) co31,Value.int IntKind.i64 t907,Value.int IntKind.i64 t908],Value.int IntKind.i64 t909],Value.string a1,Value.pointer (some { block:=gb893,off:=(1 : Nat) }),Value.slice A0_1 (List.length l0_1) c0_1,Value.tuple #[Value.agg #[Value.string t897,Value.slice Ao29 (List.length t898) co29,Value.slice Ao30 (List.length t901) co30,Value.slice Ao31 (List.length t904) co31,Value.int IntKind.i64 t907,Value.int IntKind.i64 t908],Value.int IntKind.i64 t909],Value.agg #[Value.string t897,Value.slice Ao29 (List.length t898) co29,Value.slice Ao30 (List.length t901) co30,Value.slice Ao31 (List.length t904) co31,Value.int IntKind.i64 t907,Value.int IntKind.i64 t908],Value.int IntKind.i64 t909,Value.tuple #[Value.agg #[Value.string t911,Value.slice Ao39 (List.length t912) co39,Value.slice Ao40 (List.length t915) co40,Value.slice Ao41 (List.length t918) co41,Value.int IntKind.i64 t921,Value.int IntKind.i64 t922],Value.int IntKind.i64 t923],Value.string a1,Value.pointer (some { block:=gb893,off:=(1 : Nat) }),Value.slice A0_1 (List.length l0_1) c0_1,Value.tuple #[Value.agg #[Value.string t911,Value.slice Ao39 (List.length t912) co39,Value.slice Ao40 (List.length t915) co40,Value.slice Ao41 (List.length t918) co41,Value.int IntKind.i64 t921,Value.int IntKind.i64 t922],Value.int IntKind.i64 t923],Value.agg #[Value.string t911,Value.slice Ao39 (List.length t912) co39,Value.slice Ao40 (List.length t915) co40,Value.slice Ao41 (List.length t918) co41,Value.int IntKind.i64 t921,Value.int IntKind.i64 t922],Value.int IntKind.i64 t923,U42,U43,U44,U45,U46,U47,U48,U49,U50,U51,U52,U53,U54,U55,U56,U57,U58,U59,U60,U61,U62,U63,U64,U65,U66,U67,U68,U69,U70,U71,U72,U73,U74,U75,U76,U77,U78,U79,U80,U81,U82,U83,U84,U85,U86,U87,U88,U89,U90,U91,U92,U93,U94,U95,U96,U97,U98,U99,U100,U101,U102,U103,U104,U105,U106,U107,U108,U109,U110,U111,U112,U113,U114,U115,U116,U117,U118,U119,U120,U121,U122,U123,U124,U125,U126,U127,U128,U129,U130,U131,U132,U133,U134,U135,U136,U137,U138,U139,U140,U141,U142,U143,U144,U145,U146,U147,U148,U149,U150,U151,U152,U153,U154,U155,U156,U157,U158,U159,U160,U161,U162,U163,U164,U165,U166,U167,U168,U169,U170,U171],[]⟩ (w51):=by
 intro z26_ hk0_ hk1_ hc0_
 conv at hc0_ => lhs;whnf
 replace hc0_:=Option.some.inj hc0_
 subst hc0_
 have hu50:=Try.underlying50
 have hu36:=Try.underlying36
 try go_wp2
 refine start_ (n:=30) (S:=fun w' => w'.cell? ⟨gb910,0,none⟩ = some (.string t897) ∧ w'.cell? ⟨gb910,1,none⟩ = some (.slice Ao29 t898.length co29) ∧ w'.cell? ⟨gb910,2,none⟩ = some (.slice Ao30 t901.length co30) ∧ w'.cell? ⟨gb910,3,none⟩ = some (.slice Ao31 t904.length co31) ∧ w'.cell? ⟨gb910,4,none⟩ = some (.int .i64 t907) ∧ w'.cell? ⟨gb910,5,none⟩ = some (.int .i64 t908) ∧ w'.cell? ⟨gb924,0,none⟩ = some (.string t911) ∧ w'.cell? ⟨gb924,1,none⟩ = some (.slice Ao39 t912.length co39) ∧ w'.cell? ⟨gb924,2,none⟩ = some (.slice Ao40 t915.length co40) ∧ w'.cell? ⟨gb924,3,none⟩ = some (.slice Ao41 t918.length co41) ∧ w'.cell? ⟨gb924,4,none⟩ = some (.int .i64 t921) ∧ w'.cell? ⟨gb924,5,none⟩ = some (.int .i64 t922) ∧ w'.cell? ⟨gb893,0,none⟩ = some (.string a0_0) ∧ w'.cell? ⟨gb893,1,none⟩ = some (.slice A0_1 l0_1.length c0_1) ∧ w'.cell? ⟨gb893,2,none⟩ = some (.slice A0_2 l0_2.length c0_2) ∧ w'.cell? ⟨gb893,3,none⟩ = some (.slice A0_3 l0_3.length c0_3) ∧ w'.cell? ⟨gb893,4,none⟩ = some (.int .i64 a0_4) ∧ w'.cell? ⟨gb893,5,none⟩ = some (.int .i64 a0_5)) (ds:=[]) #[false,false,false,false,false,false,false,false,false,false,false,false,false,false,false,false,false,false,false,false,false,false,false,false,false,false,false,false,false,false] (by kernel_rfl) rfl rfl ⟨(blk_cell BK910.out 0).trans rfl,(blk_cell BK910.out 1).trans rfl,(blk_cell BK910.out 2).trans rfl,(blk_cell BK910.out 3).trans rfl,(blk_cell BK910.out 4).trans rfl,(blk_cell BK910.out 5).trans rfl,(blk_cell BK924.out 0).trans rfl,(blk_cell BK924.out 1).trans rfl,(blk_cell BK924.out 2).trans rfl,(blk_cell BK924.out 3).trans rfl,(blk_cell BK924.out 4).trans rfl,(blk_cell BK924.out 5).trans rfl,(blk_cell BK893.out 0).trans rfl,(blk_cell BK893.out 1).trans rfl,(blk_cell BK893.out 2).trans rfl,(blk_cell BK893.out 3).trans rfl,(blk_cell BK893.out 4).trans rfl,(blk_cell BK893.out 5).trans rfl⟩ (fun hHeld => ?_);refine with_tabW hopmeshlaw49_InstallBoards.tab5_part5a hopmeshlaw49_InstallBoards.bits5_part5a (fun HT_ HW_ => ?_)
 generalize w51.drew = w52 at HO900 HO903 HO906 HO914 HO917 HO920 BK893 BK910 BK924 HB hHeld ⊢
 refine tak 0 (some 42) #[true,false,false,false,false,false,false,false,false,false,false,false,false,false,false,false,false,false,false,false,false,false,false,false,false,false,false,false,false,false] HT_ HW_ hHeld rfl (Or.inl ⟨by rfl,by rintro w' ⟨s0,s1,s2,s3,s4,s5,s6,s7,s8,s9,s10,s11,s12,s13,s14,s15,s16,s17⟩;go_simp;with_reducible rfl⟩) ?_
 refine tak 1 (some 43) #[true,true,false,false,false,false,false,false,false,false,false,false,false,false,false,false,false,false,false,false,false,false,false,false,false,false,false,false,false,false] HT_ HW_ hHeld rfl (Or.inl ⟨by rfl,by rintro w' ⟨s0,s1,s2,s3,s4,s5,s6,s7,s8,s9,s10,s11,s12,s13,s14,s15,s16,s17⟩;go_simp;with_reducible rfl⟩) ?_
 refine one_ (i:=2) (N:=some 44) #[true,true,true,false,false,false,false,false,false,false,false,false,false,false,false,false,false,false,false,false,false,false,false,false,false,false,false,false,false,false] rfl rfl (one_of HT_.out (by kernel_rfl)) (by decide) (fun K hK => ?_)
 refine goes_ Try.func31 (by kernel_rfl) rfl #[.agg #[.string t897,.slice Ao29 t898.length co29,.slice Ao30 t901.length co30,.slice Ao31 t904.length co31,.int .i64 t907,.int .i64 t908],.agg #[.string t911,.slice Ao39 t912.length co39,.slice Ao40 t915.length co40,.slice Ao41 t918.length co41,.int .i64 t921,.int .i64 t922]] (by rfl) rfl rfl sma ?_
 with_reducible refine (hopmeshref49_SameBoard.calls kj4 t897 _ _ t898 _ _ t901 _ _ t904 t907 t908 t911 _ _ t912 _ _ t915 _ _ t918 t921 t922 true _ ?side1 ?side2 ?side3 ?side4 ?side5 ?side6 ?side7 ?side8 ?side9 ?side10 ?side11 ?side12 A42.out).mono ?_
 (case side1 => repeat (first | exact (Kd.R_reads' HO900.out).2.2 | (with_reducible refine Kd.C_alloc ?_ _) | (with_reducible refine Kd.C_drewN ?_ _) | (with_reducible refine Kd.C_drew ?_)))
 (case side2 => exact (Kd.R_reads' HO900.out).2.1)
 (case side3 => repeat (first | exact (Kd.R_reads' HO903.out).2.2 | (with_reducible refine Kd.C_alloc ?_ _) | (with_reducible refine Kd.C_drewN ?_ _) | (with_reducible refine Kd.C_drew ?_)))
 (case side4 => exact (Kd.R_reads' HO903.out).2.1)
 (case side5 => repeat (first | exact (Kd.R_reads' HO906.out).2.2 | (with_reducible refine Kd.C_alloc ?_ _) | (with_reducible refine Kd.C_drewN ?_ _) | (with_reducible refine Kd.C_drew ?_)))
 (case side6 => exact (Kd.R_reads' HO906.out).2.1)
 (case side7 => repeat (first | exact (Kd.R_reads' HO914.out).2.2 | (with_reducible refine Kd.C_alloc ?_ _) | (with_reducible refine Kd.C_drewN ?_ _) | (with_reducible refine Kd.C_drew ?_)))
 (case side8 => exact (Kd.R_reads' HO914.out).2.1)
 (case side9 => repeat (first | exact (Kd.R_reads' HO917.out).2.2 | (with_reducible refine Kd.C_alloc ?_ _) | (with_reducible refine Kd.C_drewN ?_ _) | (with_reducible refine Kd.C_drew ?_)))
 (case side10 => exact (Kd.R_reads' HO917.out).2.1)
 (case side11 => repeat (first | exact (Kd.R_reads' HO920.out).2.2 | (with_reducible refine Kd.C_alloc ?_ _) | (with_reducible refine Kd.C_drewN ?_ _) | (with_reducible refine Kd.C_drew ?_)))
 (case side12 => exact (Kd.R_reads' HO920.out).2.1)
 rintro e w53 ⟨rfl,hb⟩
 refine ⟨_,rfl,?_⟩
 replace HO900:=rB HO900 hb
 replace HO903:=rB HO903 hb
 replace HO906:=rB HO906 hb
 replace HO914:=rB HO914 hb
 replace HO917:=rB HO917 hb
 replace HO920:=rB HO920 hb
 replace BK893:=bkB BK893 hb
 replace BK910:=bkB BK910 hb
 replace BK924:=bkB BK924 hb
 replace HB:=hbS HB hb
 (try clear hb)
 (try clear hb2)
 (try clear hk)
 (try clear hi)
 refine hK.out _ _ ⟨(blk_cell BK910.out 0).trans rfl,(blk_cell BK910.out 1).trans rfl,(blk_cell BK910.out 2).trans rfl,(blk_cell BK910.out 3).trans rfl,(blk_cell BK910.out 4).trans rfl,(blk_cell BK910.out 5).trans rfl,(blk_cell BK924.out 0).trans rfl,(blk_cell BK924.out 1).trans rfl,(blk_cell BK924.out 2).trans rfl,(blk_cell BK924.out 3).trans rfl,(blk_cell BK924.out 4).trans rfl,(blk_cell BK924.out 5).trans rfl,(blk_cell BK893.out 0).trans rfl,(blk_cell BK893.out 1).trans rfl,(blk_cell BK893.out 2).trans rfl,(blk_cell BK893.out 3).trans rfl,(blk_cell BK893.out 4).trans rfl,(blk_cell BK893.out 5).trans rfl⟩ (fun hHeld => ?_)
 clear hK K
 refine nrm (some 44) ?_
 refine pur 3 (some 45) #[true,true,true,true,false,false,false,false,false,false,false,false,false,false,false,false,false,false,false,false,false,false,false,false,false,false,false,false,false,false] HT_ ?_
 refine pur 4 (some 46) #[true,true,true,true,true,false,false,false,false,false,false,false,false,false,false,false,false,false,false,false,false,false,false,false,false,false,false,false,false,false] HT_ ?_
 refine pur 5 (some 47) #[true,true,true,true,true,true,false,false,false,false,false,false,false,false,false,false,false,false,false,false,false,false,false,false,false,false,false,false,false,false] HT_ ?_
 refine pur 6 (some 48) #[true,true,true,true,true,true,true,false,false,false,false,false,false,false,false,false,false,false,false,false,false,false,false,false,false,false,false,false,false,false] HT_ ?_
 refine pur 7 (some 49) #[true,true,true,true,true,true,true,true,false,false,false,false,false,false,false,false,false,false,false,false,false,false,false,false,false,false,false,false,false,false] HT_ ?_
 refine pur 8 (some 50) #[true,true,true,true,true,true,true,true,true,false,false,false,false,false,false,false,false,false,false,false,false,false,false,false,false,false,false,false,false,false] HT_ ?_
 refine pur 9 (some 51) #[true,true,true,true,true,true,true,true,true,true,false,false,false,false,false,false,false,false,false,false,false,false,false,false,false,false,false,false,false,false] HT_ ?_
 refine tak 10 (some 52) #[true,true,true,true,true,true,true,true,true,true,true,false,false,false,false,false,false,false,false,false,false,false,false,false,false,false,false,false,false,false] HT_ HW_ hHeld rfl (Or.inl ⟨by rfl,by rintro w' ⟨s0,s1,s2,s3,s4,s5,s6,s7,s8,s9,s10,s11,s12,s13,s14,s15,s16,s17⟩;go_simp;with_reducible rfl⟩) ?_
 refine tak 12 (some 54) #[true,true,true,true,true,true,true,true,true,true,true,false,true,false,false,false,false,false,false,false,false,false,false,false,false,false,false,false,false,false] HT_ HW_ hHeld rfl (Or.inl ⟨by rfl,by rintro w' ⟨s0,s1,s2,s3,s4,s5,s6,s7,s8,s9,s10,s11,s12,s13,s14,s15,s16,s17⟩;go_simp;with_reducible rfl⟩) ?_
 refine one_ (i:=11) (N:=some 53) #[true,true,true,true,true,true,true,true,true,true,true,true,true,false,false,false,false,false,false,false,false,false,false,false,false,false,false,false,false,false] rfl rfl (one_of HT_.out (by kernel_rfl)) (by decide) (fun K hK => ?_)
 refine goes_ Try.func32 (by kernel_rfl) rfl #[.agg #[.string a0_0,.slice A0_1 l0_1.length c0_1,.slice A0_2 l0_2.length c0_2,.slice A0_3 l0_3.length c0_3,.int .i64 a0_4,.int .i64 a0_5]] (by rfl) rfl rfl sma ?_
 with_reducible refine (install_Valid.calls kj4 a0_0 _ _ l0_1 _ _ l0_2 _ _ l0_3 a0_4 a0_5 t926 _ ?side1 ?side2 ?side3 ?side4 ?side5 ?side6 A45.out).mono ?_
 (case side1 => repeat (first | exact (Kd.C_below HR0_1.out HB.out) | (with_reducible refine Kd.C_alloc ?_ _) | (with_reducible refine Kd.C_drewN ?_ _) | (with_reducible refine Kd.C_drew ?_)))
 (case side2 => exact HC0_1.out)
 (case side3 => repeat (first | exact (Kd.C_below HR0_2.out HB.out) | (with_reducible refine Kd.C_alloc ?_ _) | (with_reducible refine Kd.C_drewN ?_ _) | (with_reducible refine Kd.C_drew ?_)))
 (case side4 => exact HC0_2.out)
 (case side5 => repeat (first | exact (Kd.C_below HR0_3.out HB.out) | (with_reducible refine Kd.C_alloc ?_ _) | (with_reducible refine Kd.C_drewN ?_ _) | (with_reducible refine Kd.C_drew ?_)))
 (case side6 => exact HC0_3.out)
 rintro e w54 ⟨rfl,hb⟩
 refine ⟨_,rfl,?_⟩
 replace HO900:=rB HO900 hb
 replace HO903:=rB HO903 hb
 replace HO906:=rB HO906 hb
 replace HO914:=rB HO914 hb
 replace HO917:=rB HO917 hb
 replace HO920:=rB HO920 hb
 replace BK893:=bkB BK893 hb
 replace BK910:=bkB BK910 hb
 replace BK924:=bkB BK924 hb
 replace HB:=hbS HB hb
 (try clear hb)
 (try clear hb2)
 (try clear hk)
 (try clear hi)
 refine hK.out _ _ ⟨(blk_cell BK910.out 0).trans rfl,(blk_cell BK910.out 1).trans rfl,(blk_cell BK910.out 2).trans rfl,(blk_cell BK910.out 3).trans rfl,(blk_cell BK910.out 4).trans rfl,(blk_cell BK910.out 5).trans rfl,(blk_cell BK924.out 0).trans rfl,(blk_cell BK924.out 1).trans rfl,(blk_cell BK924.out 2).trans rfl,(blk_cell BK924.out 3).trans rfl,(blk_cell BK924.out 4).trans rfl,(blk_cell BK924.out 5).trans rfl,(blk_cell BK893.out 0).trans rfl,(blk_cell BK893.out 1).trans rfl,(blk_cell BK893.out 2).trans rfl,(blk_cell BK893.out 3).trans rfl,(blk_cell BK893.out 4).trans rfl,(blk_cell BK893.out 5).trans rfl⟩ (fun hHeld => ?_)
 clear hK K
 refine nrm (some 53) ?_
 refine one_ (i:=13) (N:=some 55) #[true,true,true,true,true,true,true,true,true,true,true,true,true,true,false,false,false,false,false,false,false,false,false,false,false,false,false,false,false,false] rfl rfl (one_of HT_.out (by kernel_rfl)) (by decide) (fun K hK => ?_)
 refine goes_ Try.func33 (by kernel_rfl) rfl #[.agg #[.string a0_0,.slice A0_1 l0_1.length c0_1,.slice A0_2 l0_2.length c0_2,.slice A0_3 l0_3.length c0_3,.int .i64 a0_4,.int .i64 a0_5]] (by rfl) rfl rfl sma ?_
 with_reducible refine (hopmeshref49_Valid.calls kj4 a0_0 _ _ l0_1 _ _ l0_2 _ _ l0_3 a0_4 a0_5 t927 _ ?side1 ?side2 ?side3 ?side4 ?side5 ?side6 A46.out).mono ?_
 (case side1 => repeat (first | exact (Kd.C_below HR0_1.out HB.out) | (with_reducible refine Kd.C_alloc ?_ _) | (with_reducible refine Kd.C_drewN ?_ _) | (with_reducible refine Kd.C_drew ?_)))
 (case side2 => exact HC0_1.out)
 (case side3 => repeat (first | exact (Kd.C_below HR0_2.out HB.out) | (with_reducible refine Kd.C_alloc ?_ _) | (with_reducible refine Kd.C_drewN ?_ _) | (with_reducible refine Kd.C_drew ?_)))
 (case side4 => exact HC0_2.out)
 (case side5 => repeat (first | exact (Kd.C_below HR0_3.out HB.out) | (with_reducible refine Kd.C_alloc ?_ _) | (with_reducible refine Kd.C_drewN ?_ _) | (with_reducible refine Kd.C_drew ?_)))
 (case side6 => exact HC0_3.out)
 rintro e w55 ⟨rfl,hb⟩
 refine ⟨_,rfl,?_⟩
 replace HO900:=rB HO900 hb
 replace HO903:=rB HO903 hb
 replace HO906:=rB HO906 hb
 replace HO914:=rB HO914 hb
 replace HO917:=rB HO917 hb
 replace HO920:=rB HO920 hb
 replace BK893:=bkB BK893 hb
 replace BK910:=bkB BK910 hb
 replace BK924:=bkB BK924 hb
 replace HB:=hbS HB hb
 (try clear hb)
 (try clear hb2)
 (try clear hk)
 (try clear hi)
 refine hK.out _ _ ⟨(blk_cell BK910.out 0).trans rfl,(blk_cell BK910.out 1).trans rfl,(blk_cell BK910.out 2).trans rfl,(blk_cell BK910.out 3).trans rfl,(blk_cell BK910.out 4).trans rfl,(blk_cell BK910.out 5).trans rfl,(blk_cell BK924.out 0).trans rfl,(blk_cell BK924.out 1).trans rfl,(blk_cell BK924.out 2).trans rfl,(blk_cell BK924.out 3).trans rfl,(blk_cell BK924.out 4).trans rfl,(blk_cell BK924.out 5).trans rfl,(blk_cell BK893.out 0).trans rfl,(blk_cell BK893.out 1).trans rfl,(blk_cell BK893.out 2).trans rfl,(blk_cell BK893.out 3).trans rfl,(blk_cell BK893.out 4).trans rfl,(blk_cell BK893.out 5).trans rfl⟩ (fun hHeld => ?_)
 clear hK K
 refine nrm (some 55) ?_
 refine pur 14 (some 56) #[true,true,true,true,true,true,true,true,true,true,true,true,true,true,true,false,false,false,false,false,false,false,false,false,false,false,false,false,false,false] HT_ ?_
 refine pur 15 (some 57) #[true,true,true,true,true,true,true,true,true,true,true,true,true,true,true,true,false,false,false,false,false,false,false,false,false,false,false,false,false,false] HT_ ?_
 refine pur 16 (some 58) #[true,true,true,true,true,true,true,true,true,true,true,true,true,true,true,true,true,false,false,false,false,false,false,false,false,false,false,false,false,false] HT_ ?_
 refine tak 17 (some 59) #[true,true,true,true,true,true,true,true,true,true,true,true,true,true,true,true,true,true,false,false,false,false,false,false,false,false,false,false,false,false] HT_ HW_ hHeld rfl (Or.inl ⟨by rfl,by rintro w' ⟨s0,s1,s2,s3,s4,s5,s6,s7,s8,s9,s10,s11,s12,s13,s14,s15,s16,s17⟩;go_simp;with_reducible rfl⟩) ?_
 refine tak 19 (some 61) #[true,true,true,true,true,true,true,true,true,true,true,true,true,true,true,true,true,true,false,true,false,false,false,false,false,false,false,false,false,false] HT_ HW_ hHeld rfl (Or.inl ⟨by rfl,by rintro w' ⟨s0,s1,s2,s3,s4,s5,s6,s7,s8,s9,s10,s11,s12,s13,s14,s15,s16,s17⟩;go_simp;with_reducible rfl⟩) ?_
 refine one_ (i:=18) (N:=some 60) #[true,true,true,true,true,true,true,true,true,true,true,true,true,true,true,true,true,true,true,true,false,false,false,false,false,false,false,false,false,false] rfl rfl (one_of HT_.out (by kernel_rfl)) (by decide) (fun K hK => ?_)
 refine goes_ Try.func20 (by kernel_rfl) rfl #[.agg #[.string a0_0,.slice A0_1 l0_1.length c0_1,.slice A0_2 l0_2.length c0_2,.slice A0_3 l0_3.length c0_3,.int .i64 a0_4,.int .i64 a0_5]] (by rfl) rfl rfl sma ?_
 with_reducible refine (install_Ready.calls kj4 a0_0 _ _ l0_1 _ _ l0_2 _ _ l0_3 a0_4 a0_5 t928 _ ?side1 ?side2 ?side3 ?side4 ?side5 ?side6 A48.out).mono ?_
 (case side1 => repeat (first | exact (Kd.C_below HR0_1.out HB.out) | (with_reducible refine Kd.C_alloc ?_ _) | (with_reducible refine Kd.C_drewN ?_ _) | (with_reducible refine Kd.C_drew ?_)))
 (case side2 => exact HC0_1.out)
 (case side3 => repeat (first | exact (Kd.C_below HR0_2.out HB.out) | (with_reducible refine Kd.C_alloc ?_ _) | (with_reducible refine Kd.C_drewN ?_ _) | (with_reducible refine Kd.C_drew ?_)))
 (case side4 => exact HC0_2.out)
 (case side5 => repeat (first | exact (Kd.C_below HR0_3.out HB.out) | (with_reducible refine Kd.C_alloc ?_ _) | (with_reducible refine Kd.C_drewN ?_ _) | (with_reducible refine Kd.C_drew ?_)))
 (case side6 => exact HC0_3.out)
 rintro e w56 ⟨rfl,hb⟩
 refine ⟨_,rfl,?_⟩
 replace HO900:=rB HO900 hb
 replace HO903:=rB HO903 hb
 replace HO906:=rB HO906 hb
 replace HO914:=rB HO914 hb
 replace HO917:=rB HO917 hb
 replace HO920:=rB HO920 hb
 replace BK893:=bkB BK893 hb
 replace BK910:=bkB BK910 hb
 replace BK924:=bkB BK924 hb
 replace HB:=hbS HB hb
 (try clear hb)
 (try clear hb2)
 (try clear hk)
 (try clear hi)
 refine hK.out _ _ ⟨(blk_cell BK910.out 0).trans rfl,(blk_cell BK910.out 1).trans rfl,(blk_cell BK910.out 2).trans rfl,(blk_cell BK910.out 3).trans rfl,(blk_cell BK910.out 4).trans rfl,(blk_cell BK910.out 5).trans rfl,(blk_cell BK924.out 0).trans rfl,(blk_cell BK924.out 1).trans rfl,(blk_cell BK924.out 2).trans rfl,(blk_cell BK924.out 3).trans rfl,(blk_cell BK924.out 4).trans rfl,(blk_cell BK924.out 5).trans rfl,(blk_cell BK893.out 0).trans rfl,(blk_cell BK893.out 1).trans rfl,(blk_cell BK893.out 2).trans rfl,(blk_cell BK893.out 3).trans rfl,(blk_cell BK893.out 4).trans rfl,(blk_cell BK893.out 5).trans rfl⟩ (fun hHeld => ?_)
 clear hK K
 refine nrm (some 60) ?_
 refine one_ (i:=20) (N:=some 62) #[true,true,true,true,true,true,true,true,true,true,true,true,true,true,true,true,true,true,true,true,true,false,false,false,false,false,false,false,false,false] rfl rfl (one_of HT_.out (by kernel_rfl)) (by decide) (fun K hK => ?_)
 refine goes_ Try.func34 (by kernel_rfl) rfl #[.agg #[.string a0_0,.slice A0_1 l0_1.length c0_1,.slice A0_2 l0_2.length c0_2,.slice A0_3 l0_3.length c0_3,.int .i64 a0_4,.int .i64 a0_5]] (by rfl) rfl rfl sma ?_
 with_reducible refine (hopmeshref49_Ready.calls kj4 a0_0 _ _ l0_1 _ _ l0_2 _ _ l0_3 a0_4 a0_5 t929 _ ?side1 ?side2 ?side3 ?side4 ?side5 ?side6 A49.out).mono ?_
 (case side1 => repeat (first | exact (Kd.C_below HR0_1.out HB.out) | (with_reducible refine Kd.C_alloc ?_ _) | (with_reducible refine Kd.C_drewN ?_ _) | (with_reducible refine Kd.C_drew ?_)))
 (case side2 => exact HC0_1.out)
 (case side3 => repeat (first | exact (Kd.C_below HR0_2.out HB.out) | (with_reducible refine Kd.C_alloc ?_ _) | (with_reducible refine Kd.C_drewN ?_ _) | (with_reducible refine Kd.C_drew ?_)))
 (case side4 => exact HC0_2.out)
 (case side5 => repeat (first | exact (Kd.C_below HR0_3.out HB.out) | (with_reducible refine Kd.C_alloc ?_ _) | (with_reducible refine Kd.C_drewN ?_ _) | (with_reducible refine Kd.C_drew ?_)))
 (case side6 => exact HC0_3.out)
 rintro e w57 ⟨rfl,hb⟩
 refine ⟨_,rfl,?_⟩
 replace HO900:=rB HO900 hb
 replace HO903:=rB HO903 hb
 replace HO906:=rB HO906 hb
 replace HO914:=rB HO914 hb
 replace HO917:=rB HO917 hb
 replace HO920:=rB HO920 hb
 replace BK893:=bkB BK893 hb
 replace BK910:=bkB BK910 hb
 replace BK924:=bkB BK924 hb
 replace HB:=hbS HB hb
 (try clear hb)
 (try clear hb2)
 (try clear hk)
 (try clear hi)
 refine hK.out _ _ ⟨(blk_cell BK910.out 0).trans rfl,(blk_cell BK910.out 1).trans rfl,(blk_cell BK910.out 2).trans rfl,(blk_cell BK910.out 3).trans rfl,(blk_cell BK910.out 4).trans rfl,(blk_cell BK910.out 5).trans rfl,(blk_cell BK924.out 0).trans rfl,(blk_cell BK924.out 1).trans rfl,(blk_cell BK924.out 2).trans rfl,(blk_cell BK924.out 3).trans rfl,(blk_cell BK924.out 4).trans rfl,(blk_cell BK924.out 5).trans rfl,(blk_cell BK893.out 0).trans rfl,(blk_cell BK893.out 1).trans rfl,(blk_cell BK893.out 2).trans rfl,(blk_cell BK893.out 3).trans rfl,(blk_cell BK893.out 4).trans rfl,(blk_cell BK893.out 5).trans rfl⟩ (fun hHeld => ?_)
 clear hK K
 refine nrm (some 62) ?_
 refine pur 21 (some 63) #[true,true,true,true,true,true,true,true,true,true,true,true,true,true,true,true,true,true,true,true,true,true,false,false,false,false,false,false,false,false] HT_ ?_
 refine pur 22 (some 64) #[true,true,true,true,true,true,true,true,true,true,true,true,true,true,true,true,true,true,true,true,true,true,true,false,false,false,false,false,false,false] HT_ ?_
 refine pur 23 (some 65) #[true,true,true,true,true,true,true,true,true,true,true,true,true,true,true,true,true,true,true,true,true,true,true,true,false,false,false,false,false,false] HT_ ?_
 refine pure_ (i:=24) (N:=some 66) (v:=undef) (a':=?_) #[true,true,true,true,true,true,true,true,true,true,true,true,true,true,true,true,true,true,true,true,true,true,true,true,true,false,false,false,false,false] rfl rfl (any_of HT_.out (by kernel_rfl)) (fun _ _ _ h => h) (Or.inr ⟨by rfl,rfl⟩) ?_ ?_
 rotate_left
 ·simp only [Act.put,List.setIfInBounds_toArray,List.set_cons_zero,List.set_cons_succ,i64_w,i32_w]
  rfl
 refine pure_ (i:=25) (N:=some 67) (v:=undef) (a':=?_) #[true,true,true,true,true,true,true,true,true,true,true,true,true,true,true,true,true,true,true,true,true,true,true,true,true,true,false,false,false,false] rfl rfl (any_of HT_.out (by kernel_rfl)) (fun _ _ _ h => h) (Or.inr ⟨by rfl,rfl⟩) ?_ ?_
 rotate_left
 ·simp only [Act.put,List.setIfInBounds_toArray,List.set_cons_zero,List.set_cons_succ,i64_w,i32_w]
  rfl
 refine pure_ (i:=26) (N:=some 68) (v:=undef) (a':=?_) #[true,true,true,true,true,true,true,true,true,true,true,true,true,true,true,true,true,true,true,true,true,true,true,true,true,true,true,false,false,false] rfl rfl (any_of HT_.out (by kernel_rfl)) (fun _ _ _ h => h) (Or.inr ⟨by rfl,rfl⟩) ?_ ?_
 rotate_left
 ·simp only [Act.put,List.setIfInBounds_toArray,List.set_cons_zero,List.set_cons_succ,i64_w,i32_w]
  rfl
 refine pure_ (i:=27) (N:=some 69) (v:=undef) (a':=?_) #[true,true,true,true,true,true,true,true,true,true,true,true,true,true,true,true,true,true,true,true,true,true,true,true,true,true,true,true,false,false] rfl rfl (any_of HT_.out (by kernel_rfl)) (fun _ _ _ h => h) (Or.inr ⟨by rfl,rfl⟩) ?_ ?_
 rotate_left
 ·simp only [Act.put,List.setIfInBounds_toArray,List.set_cons_zero,List.set_cons_succ,i64_w,i32_w]
  rfl
 refine pure_ (i:=28) (N:=some 70) (v:=undef) (a':=?_) #[true,true,true,true,true,true,true,true,true,true,true,true,true,true,true,true,true,true,true,true,true,true,true,true,true,true,true,true,true,false] rfl rfl (any_of HT_.out (by kernel_rfl)) (fun _ _ _ h => h) (Or.inr ⟨by rfl,rfl⟩) ?_ ?_
 rotate_left
 ·simp only [Act.put,List.setIfInBounds_toArray,List.set_cons_zero,List.set_cons_succ,i64_w,i32_w]
  rfl
 refine pur 29 (some 71) #[true,true,true,true,true,true,true,true,true,true,true,true,true,true,true,true,true,true,true,true,true,true,true,true,true,true,true,true,true,true] HT_ ?_
 refine done_ (done_of HT_.out (by kernel_rfl)) ?_
 try go_wp2
 go_meet
 case rel => exact ⟨_,(true),rfs,H',⟨by have:=HJ4.out;first | omega | exact Nat.le_refl _⟩,roA HO900,roA HO903,roA HO906,roA HO914,roA HO917,roA HO920,bkA BK893,bkA BK910,bkA BK924,hbA HB⟩
end Go.Proofs.Ytdigplhjfjchnaa.PQ
