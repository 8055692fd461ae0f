-- Printed by fprint.py and zip.py, programs of this session's, over the kit's print; Lean checks it.
import Derived.Test.YtdigplhjfjchnaaZC2
import Derived.Test.YtdigplhjfjchnaaZf10
import Derived.Test.YtdigplhjfjchnaaZf19
import Derived.Test.YtdigplhjfjchnaaZc
import Derived.Test.YtdigplhjfjchnaaZf22
import Derived.Test.YtdigplhjfjchnaaZf23
import Derived.Test.YtdigplhjfjchnaaZb
import Derived.Test.YtdigplhjfjchnaaZa
import Derived.Test.YtdigplhjfjchnaaZf30
import Derived.Test.YtdigplhjfjchnaaZf31
import Derived.Test.YtdigplhjfjchnaaZf35
import Derived.Test.YtdigplhjfjchnaaZf36
import Derived.Test.YtdigplhjfjchnaaZf37
import Derived.Test.YtdigplhjfjchnaaZf38
import Derived.Test.YtdigplhjfjchnaaZf39
import Derived.Test.YtdigplhjfjchnaaZf40
namespace Go.Proofs.Ytdigplhjfjchnaa.PQ
open Go.RowKit Go.Proofs.YtdigplhjfjchnaaW.PrintWords Go.Proofs.YtdigplhjfjchnaaW.PrintLast Go.Proofs.YtdigplhjfjchnaaW.PrintMore
attribute [local go_sem] max2_int min2_int max_two min_two max_three min_three max_four min_four   -- for this text's walks alone
set_option linter.unusedVariables false
set_option linter.unusedSimpArgs false
mutual
def hopmeshlaw49_InstallBoards.j0 : Nat → ByteArray → Int → Int → Bool → ByteArray → List Int → List Bool → List Bool → Int → Int → Option (Bool)
 | 0,_,_,_,_,_,_,_,_,_,_ => none
 | k + 1,x1,x2,x3,x26,x894000,x894001,x894002,x894003,x894004,x894005 => if x26 = true then ((hopmeshlaw49_awake.f k).bind fun t896 => (some t896)) else ((install_New.f k x1 x894001).bind fun bt897 => ((hopmeshref49_New.f k x1 x894001).bind fun bt911 => ((hopmeshref49_SameBoard.f k bt897.1 bt897.2.1 bt897.2.2.1 bt897.2.2.2.1 bt897.2.2.2.2.1 bt897.2.2.2.2.2.1 bt911.1 bt911.2.1 bt911.2.2.1 bt911.2.2.2.1 bt911.2.2.2.2.1 bt911.2.2.2.2.2.1).bind fun t925 => (if t925 = true then (if bt897.2.2.2.2.2.2 = bt911.2.2.2.2.2.2 then ((install_Valid.f k x894000 x894001 x894002 x894003 x894004 x894005).bind fun t926 => ((hopmeshref49_Valid.f k x894000 x894001 x894002 x894003 x894004 x894005).bind fun t927 => (if t926 = t927 then ((install_Ready.f k x894000 x894001 x894002 x894003 x894004 x894005).bind fun t928 => ((hopmeshref49_Ready.f k x894000 x894001 x894002 x894003 x894004 x894005).bind fun t929 => (if (t928 != t929) = true then (hopmeshlaw49_InstallBoards.j1 k x1 x2 x3 true x894000 x894001 x894002 x894003 x894004 x894005) else ((install_Agreed.f k x894000 x894001 x894002 x894003 x894004 x894005).bind fun t930 => ((hopmeshref49_Agreed.f k x894000 x894001 x894002 x894003 x894004 x894005).bind fun t931 => (hopmeshlaw49_InstallBoards.j1 k x1 x2 x3 (t930 != t931) x894000 x894001 x894002 x894003 x894004 x894005)))))) else (hopmeshlaw49_InstallBoards.j1 k x1 x2 x3 true x894000 x894001 x894002 x894003 x894004 x894005)))) else (hopmeshlaw49_InstallBoards.j1 k x1 x2 x3 true x894000 x894001 x894002 x894003 x894004 x894005)) else (hopmeshlaw49_InstallBoards.j1 k x1 x2 x3 true x894000 x894001 x894002 x894003 x894004 x894005)))))
def hopmeshlaw49_InstallBoards.j1 : Nat → ByteArray → Int → Int → Bool → ByteArray → List Int → List Bool → List Bool → Int → Int → Option (Bool)
 | 0,_,_,_,_,_,_,_,_,_,_ => none
 | k + 1,x1,x2,x3,x71,x894000,x894001,x894002,x894003,x894004,x894005 => if x71 = true then (none) else ((install_Report.f k x894000 x894001 x894002 x894003 x894004 x894005 x2 x1).bind fun bt932 => ((hopmeshref49_Report.f k x894000 x894001 x894002 x894003 x894004 x894005 x2 x1).bind fun bt945 => ((hopmeshref49_SameBoard.f k bt932.1 bt932.2.1 bt932.2.2.1 bt932.2.2.2.1 bt932.2.2.2.2.1 bt932.2.2.2.2.2.1 bt945.1 bt945.2.1 bt945.2.2.1 bt945.2.2.2.1 bt945.2.2.2.2.1 bt945.2.2.2.2.2.1).bind fun t958 => (if t958 = true then (hopmeshlaw49_InstallBoards.j2 k x2 x3 (bt932.2.2.2.2.2.2 != bt945.2.2.2.2.2.2) x894000 x894001 x894002 x894003 x894004 x894005) else (hopmeshlaw49_InstallBoards.j2 k x2 x3 true x894000 x894001 x894002 x894003 x894004 x894005)))))
def hopmeshlaw49_InstallBoards.j2 : Nat → Int → Int → Bool → ByteArray → List Int → List Bool → List Bool → Int → Int → Option (Bool)
 | 0,_,_,_,_,_,_,_,_,_ => none
 | k + 1,x2,x3,x94,x894000,x894001,x894002,x894003,x894004,x894005 => if x94 = true then (none) else ((install_Acknowledge.f k x894000 x894001 x894002 x894003 x894004 x894005 x2 x3).bind fun bt959 => ((hopmeshref49_Acknowledge.f k x894000 x894001 x894002 x894003 x894004 x894005 x2 x3).bind fun bt972 => ((hopmeshref49_SameBoard.f k bt959.1 bt959.2.1 bt959.2.2.1 bt959.2.2.2.1 bt959.2.2.2.2.1 bt959.2.2.2.2.2.1 bt972.1 bt972.2.1 bt972.2.2.1 bt972.2.2.2.1 bt972.2.2.2.2.1 bt972.2.2.2.2.2.1).bind fun t985 => (if t985 = true then (hopmeshlaw49_InstallBoards.j3 k x3 (bt959.2.2.2.2.2.2 != bt972.2.2.2.2.2.2) x894000 x894001 x894002 x894003 x894004 x894005) else (hopmeshlaw49_InstallBoards.j3 k x3 true x894000 x894001 x894002 x894003 x894004 x894005)))))
def hopmeshlaw49_InstallBoards.j3 : Nat → Int → Bool → ByteArray → List Int → List Bool → List Bool → Int → Int → Option (Bool)
 | 0,_,_,_,_,_,_,_,_ => none
 | k + 1,x3,x117,x894000,x894001,x894002,x894003,x894004,x894005 => if x117 = true then (none) else ((install_Order.f k x894000 x894001 x894002 x894003 x894004 x894005 x3).bind fun bt986 => ((hopmeshref49_Order.f k x894000 x894001 x894002 x894003 x894004 x894005 x3).bind fun bt1007 => ((hopmeshref49_SameBoard.f k bt986.1 bt986.2.1 bt986.2.2.1 bt986.2.2.2.1 bt986.2.2.2.2.1 bt986.2.2.2.2.2.1 bt1007.1 bt1007.2.1 bt1007.2.2.1 bt1007.2.2.2.1 bt1007.2.2.2.2.1 bt1007.2.2.2.2.2.1).bind fun t1028 => (if t1028 = true then ((hopmeshref49_SameCommand.f k bt986.2.2.2.2.2.2.1 bt986.2.2.2.2.2.2.2.1 bt986.2.2.2.2.2.2.2.2.1 bt986.2.2.2.2.2.2.2.2.2.1 bt986.2.2.2.2.2.2.2.2.2.2.1 bt1007.2.2.2.2.2.2.1 bt1007.2.2.2.2.2.2.2.1 bt1007.2.2.2.2.2.2.2.2.1 bt1007.2.2.2.2.2.2.2.2.2.1 bt1007.2.2.2.2.2.2.2.2.2.2.1).bind fun t1029 => (if t1029 = true then (hopmeshlaw49_InstallBoards.j4 k (bt986.2.2.2.2.2.2.2.2.2.2.2 != bt1007.2.2.2.2.2.2.2.2.2.2.2) x894000 x894001 x894002 x894003 x894004 x894005) else (hopmeshlaw49_InstallBoards.j4 k true x894000 x894001 x894002 x894003 x894004 x894005))) else (hopmeshlaw49_InstallBoards.j4 k true x894000 x894001 x894002 x894003 x894004 x894005)))))
def hopmeshlaw49_InstallBoards.j4 : Nat → Bool → ByteArray → List Int → List Bool → List Bool → Int → Int → Option (Bool)
 | 0,_,_,_,_,_,_,_ => none
 | k + 1,x146,x894000,x894001,x894002,x894003,x894004,x894005 => if x146 = true then (none) else ((install_Withdraw.f k x894000 x894001 x894002 x894003 x894004 x894005).bind fun bt1030 => ((hopmeshref49_Withdraw.f k x894000 x894001 x894002 x894003 x894004 x894005).bind fun bt1050 => ((hopmeshref49_SameBoard.f k bt1030.1 bt1030.2.1 bt1030.2.2.1 bt1030.2.2.2.1 bt1030.2.2.2.2.1 bt1030.2.2.2.2.2.1 bt1050.1 bt1050.2.1 bt1050.2.2.1 bt1050.2.2.2.1 bt1050.2.2.2.2.1 bt1050.2.2.2.2.2.1).bind fun t1070 => (if t1070 = true then ((hopmeshref49_SameCommand.f k bt1030.2.2.2.2.2.2.1 bt1030.2.2.2.2.2.2.2.1 bt1030.2.2.2.2.2.2.2.2.1 bt1030.2.2.2.2.2.2.2.2.2.1 bt1030.2.2.2.2.2.2.2.2.2.2.1 bt1050.2.2.2.2.2.2.1 bt1050.2.2.2.2.2.2.2.1 bt1050.2.2.2.2.2.2.2.2.1 bt1050.2.2.2.2.2.2.2.2.2.1 bt1050.2.2.2.2.2.2.2.2.2.2.1).bind fun t1071 => (if t1071 = true then (some (bt1030.2.2.2.2.2.2.2.2.2.2.2 == bt1050.2.2.2.2.2.2.2.2.2.2.2)) else (none))) else (none)))))
end
def hopmeshlaw49_InstallBoards.f (k : Nat) (a0_0 : ByteArray) (l0_1 : List Int) (l0_2 : List Bool) (l0_3 : List Bool) (a0_4 a0_5 : Int) (a1 : ByteArray) (a2 a3 : Int) : Option (Bool):=(hopmeshlaw49_awake.f k).bind fun t894 => (if t894 = true then ((hopmeshref49_FewBoard.f a0_0 l0_1 l0_2 l0_3 a0_4 a0_5).bind fun t895 => (if t895 = true then (hopmeshlaw49_InstallBoards.j0 k a1 a2 a3 (decide ((a1.size : Int) > 100)) a0_0 l0_1 l0_2 l0_3 a0_4 a0_5) else (hopmeshlaw49_InstallBoards.j0 k a1 a2 a3 true a0_0 l0_1 l0_2 l0_3 a0_4 a0_5))) else (hopmeshlaw49_InstallBoards.j0 k a1 a2 a3 true a0_0 l0_1 l0_2 l0_3 a0_4 a0_5))
end Go.Proofs.Ytdigplhjfjchnaa.PQ
