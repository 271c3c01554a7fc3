/-
  Part 7 of a proof: a machine of our own for the given program, its laws, and what it says of the program. Nothing here is a claim by itself.
-/
import Derived.Test.YtmcmnpjjnebfcaaGreatDoorK06
import Derived.KernelRfl
set_option linter.all false

namespace Go.Ab.Derive2
open Go Go.Ab
def Q0:FuncId×List PV×PV:=(6,[.str [45],.agg [.bool false,.bool false,.sl 1 [.int .i64 (1)] false]],.tup [.agg [.bool false,.bool false,.sl 1 [.int .i64 (-1)] false],.int .i64 (0)])
theorem e13_0:∃ n,B1 BY By n Unit AP 0 Q0.1 Q0.2.1 ()=some (Q0.2.2,[],()):=De (n:=60) FF (by kernel_rfl)
def QZ:FuncId×List PV×PV:=(6,[.str [45],.agg [.bool false,.bool false,.sl 1 [.int .i64 (2)] false]],.tup [.agg [.bool false,.bool false,.sl 1 [.int .i64 (-2)] false],.int .i64 (0)])
theorem e13_1:∃ n,B1 BY By n Unit AP 0 QZ.1 QZ.2.1 ()=some (QZ.2.2,[],()):=De (n:=60) FF (by kernel_rfl)
def QY:FuncId×List PV×PV:=(6,[.str [226,141,179],.agg [.bool false,.bool false,.sl 1 [.int .i64 (1)] false]],.tup [.agg [.bool true,.bool false,.sl 1 [.int .i64 (1)] false],.int .i64 (0)])
theorem e13_2:∃ n,B1 BY By n Unit AP 0 QY.1 QY.2.1 ()=some (QY.2.2,[],()):=De (n:=60) FF (by kernel_rfl)
def QX:FuncId×List PV×PV:=(6,[.str [226,141,179],.agg [.bool false,.bool false,.sl 1 [.int .i64 (2)] false]],.tup [.agg [.bool true,.bool false,.sl 1 [.int .i64 (1),.int .i64 (2)] false],.int .i64 (0)])
theorem e13_3:∃ n,B1 BY By n Unit AP 0 QX.1 QX.2.1 ()=some (QX.2.2,[],()):=De (n:=60) FF (by kernel_rfl)
def QW:FuncId×List PV×PV:=(9,[.str [45],.agg [.bool false,.bool false,.sl 1 [.int .i64 (2)] false],.agg [.bool false,.bool false,.sl 1 [.int .i64 (3)] false]],.tup [.agg [.bool false,.bool false,.sl 1 [.int .i64 (-1)] false],.int .i64 (0)])
theorem e16_0:∃ n,B1 BY By n Unit AP 0 QW.1 QW.2.1 ()=some (QW.2.2,[],()):=De (n:=60) FF (by kernel_rfl)
def QV:FuncId×List PV×PV:=(9,[.str [45],.agg [.bool false,.bool false,.sl 1 [.int .i64 (1)] false],.agg [.bool false,.bool false,.sl 1 [.int .i64 (-1)] false]],.tup [.agg [.bool false,.bool false,.sl 1 [.int .i64 (2)] false],.int .i64 (0)])
theorem e16_1:∃ n,B1 BY By n Unit AP 0 QV.1 QV.2.1 ()=some (QV.2.2,[],()):=De (n:=60) FF (by kernel_rfl)
def QU:FuncId×List PV×PV:=(9,[.str [43],.agg [.bool false,.bool false,.sl 1 [.int .i64 (1)] false],.agg [.bool false,.bool false,.sl 1 [.int .i64 (2)] false]],.tup [.agg [.bool false,.bool false,.sl 1 [.int .i64 (3)] false],.int .i64 (0)])
theorem e16_2:∃ n,B1 BY By n Unit AP 0 QU.1 QU.2.1 ()=some (QU.2.2,[],()):=De (n:=60) FF (by kernel_rfl)
def QT:FuncId×List PV×PV:=(9,[.str [43],.agg [.bool false,.bool false,.sl 1 [.int .i64 (2)] false],.agg [.bool false,.bool false,.sl 1 [.int .i64 (3)] false]],.tup [.agg [.bool false,.bool false,.sl 1 [.int .i64 (5)] false],.int .i64 (0)])
theorem e16_3:∃ n,B1 BY By n Unit AP 0 QT.1 QT.2.1 ()=some (QT.2.2,[],()):=De (n:=60) FF (by kernel_rfl)
def QS:FuncId×List PV×PV:=(9,[.str [43],.agg [.bool false,.bool false,.sl 1 [.int .i64 (1)] false],.agg [.bool false,.bool false,.sl 1 [.int .i64 (5)] false]],.tup [.agg [.bool false,.bool false,.sl 1 [.int .i64 (6)] false],.int .i64 (0)])
theorem e16_4:∃ n,B1 BY By n Unit AP 0 QS.1 QS.2.1 ()=some (QS.2.2,[],()):=De (n:=60) FF (by kernel_rfl)
def QH:FuncId×List PV×PV:=(71,[.int .i64 (2)],.str [50])
theorem e98_0:∃ n,B1 BY By n Unit AP 0 QH.1 QH.2.1 ()=some (QH.2.2,[],()):=De (n:=60) FF (by kernel_rfl)
def QG:FuncId×List PV×PV:=(71,[.int .i64 (1)],.str [49])
theorem e98_1:∃ n,B1 BY By n Unit AP 0 QG.1 QG.2.1 ()=some (QG.2.2,[],()):=De (n:=60) FF (by kernel_rfl)
def QF:FuncId×List PV×PV:=(71,[.int .i64 (3)],.str [51])
theorem e98_2:∃ n,B1 BY By n Unit AP 0 QF.1 QF.2.1 ()=some (QF.2.2,[],()):=De (n:=60) FF (by kernel_rfl)
def QE:FuncId×List PV×PV:=(71,[.int .i64 (6)],.str [54])
theorem e98_3:∃ n,B1 BY By n Unit AP 0 QE.1 QE.2.1 ()=some (QE.2.2,[],()):=De (n:=60) FF (by kernel_rfl)
def QD:FuncId×List PV×PV:=(71,[.int .i64 (-1)],.str [194,175,49])
theorem e98_4:∃ n,B1 BY By n Unit AP 0 QD.1 QD.2.1 ()=some (QD.2.2,[],()):=De (n:=60) FF (by kernel_rfl)
def QC:FuncId×List PV×PV:=(71,[.int .i64 (-2)],.str [194,175,50])
theorem e98_5:∃ n,B1 BY By n Unit AP 0 QC.1 QC.2.1 ()=some (QC.2.2,[],()):=De (n:=60) FF (by kernel_rfl)
def kng:Kf :=
 Q0 :: QZ :: QY :: QX :: QW :: QV :: QU :: QT :: QS :: QH :: QG :: QF :: QE :: QD :: QC :: knf
theorem JP:JZ BY By kng:=Dp e13_0<|Dp e13_1<|Dp e13_2<|Dp e13_3<|Dp e16_0<|Dp e16_1<|Dp e16_2<|Dp e16_3<|Dp e16_4<|Dp e98_0<|Dp e98_1<|Dp e98_2<|Dp e98_3<|Dp e98_4<|Dp e98_5<|FF
end Go.Ab.Derive2

