/-
  Part 8 of a proof: a machine of our own for the given program, its laws, and what it says of the program. Nothing here is a claim by itself.
-/
import Derived.Test.YtmcmnpjjnebfcaaGreatDoorK07
import Derived.KernelRfl
set_option linter.all false

namespace Go.Ab.Derive2
open Go Go.Ab
def QR:FuncId×List PV×PV:=(12,[.str [45],.agg [.bool true,.bool false,.sl 1 [.int .i64 (1),.int .i64 (2),.int .i64 (3)] false]],.tup [.agg [.bool false,.bool false,.sl 1 [.int .i64 (2)] false],.int .i64 (0)])
theorem e19_0:∃ n,B1 BY By n Unit AP 0 QR.1 QR.2.1 ()=some (QR.2.2,[],()):=De (n:=60) JP (by kernel_rfl)
def QQ:FuncId×List PV×PV:=(14,[.str [43],.agg [.bool true,.bool false,.sl 1 [.int .i64 (1),.int .i64 (2),.int .i64 (3)] false]],.tup [.agg [.bool true,.bool false,.sl 1 [.int .i64 (1),.int .i64 (3),.int .i64 (6)] false],.int .i64 (0)])
theorem e21_0:∃ n,B1 BY By n Unit AP 0 QQ.1 QQ.2.1 ()=some (QQ.2.2,[],()):=De (n:=60) JP (by kernel_rfl)
def QP:FuncId×List PV×PV:=(15,[.str [45],.agg [.bool true,.bool false,.sl 1 [.int .i64 (1),.int .i64 (2)] false]],.tup [.agg [.bool true,.bool false,.sl 1 [.int .i64 (-1),.int .i64 (-2)] false],.int .i64 (0)])
theorem e23_0:∃ n,B1 BY By n Unit AP 0 QP.1 QP.2.1 ()=some (QP.2.2,[],()):=De (n:=60) JP (by kernel_rfl)
def QO:FuncId×List PV×PV:=(15,[.str [226,141,179],.agg [.bool true,.bool false,.sl 1 [.int .i64 (1),.int .i64 (2)] false]],.tup [.agg [.bool false,.bool false,.nilS],.int .i64 (111)])
theorem e23_1:∃ n,B1 BY By n Unit AP 0 QO.1 QO.2.1 ()=some (QO.2.2,[],()):=De (n:=60) JP (by kernel_rfl)
def QN:FuncId×List PV×PV:=(16,[.agg [.bool false,.bool false,.sl 1 [.int .i64 (2)] false]],.str [50])
theorem e34_0:∃ n,B1 BY By n Unit AP 0 QN.1 QN.2.1 ()=some (QN.2.2,[],()):=De (n:=60) JP (by kernel_rfl)
def QM:FuncId×List PV×PV:=(16,[.agg [.bool true,.bool false,.sl 1 [.int .i64 (1),.int .i64 (3),.int .i64 (6)] false]],.str [49,32,51,32,54])
theorem e34_1:∃ n,B1 BY By n Unit AP 0 QM.1 QM.2.1 ()=some (QM.2.2,[],()):=De (n:=60) JP (by kernel_rfl)
def QL:FuncId×List PV×PV:=(16,[.agg [.bool true,.bool false,.sl 1 [.int .i64 (-1),.int .i64 (-2)] false]],.str [194,175,49,32,194,175,50])
theorem e34_2:∃ n,B1 BY By n Unit AP 0 QL.1 QL.2.1 ()=some (QL.2.2,[],()):=De (n:=60) JP (by kernel_rfl)
def knh:Kf :=
 QR :: QQ :: QP :: QO :: QN :: QM :: QL :: kng
theorem knh_ok:JZ BY By knh:=Dp e19_0<|Dp e21_0<|Dp e23_0<|Dp e23_1<|Dp e34_0<|Dp e34_1<|Dp e34_2<|JP
end Go.Ab.Derive2

