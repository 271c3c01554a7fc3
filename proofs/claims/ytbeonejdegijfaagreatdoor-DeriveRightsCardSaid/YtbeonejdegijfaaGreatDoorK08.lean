/-
  Part 8 of a proof: a machine of our own for the given program, its laws, and what it says of the program. Nothing here is a claim by itself.
-/
import Derived.Test.YtbeonejdegijfaaGreatDoorK07
import Derived.KernelRfl
set_option linter.all false

namespace Go.Ab.Derive2
open Go Go.Ab
def Rt:FuncId×List PV×PV:=(13,[.str [45],.agg [.bool false,.bool false,.sl 1 [.int .i64 (1)] false]],.tup [.agg [.bool false,.bool false,.sl 1 [.int .i64 (-1)] false],.int .i64 (0)])
theorem e13_0:∃ n,Bc Bb A1 n Unit AD 0 Rt.1 Rt.2.1 ()=some (Rt.2.2,[],()):=BI (n:=60) Fk (by kernel_rfl)
def Rs:FuncId×List PV×PV:=(13,[.str [45],.agg [.bool false,.bool false,.sl 1 [.int .i64 (2)] false]],.tup [.agg [.bool false,.bool false,.sl 1 [.int .i64 (-2)] false],.int .i64 (0)])
theorem e13_1:∃ n,Bc Bb A1 n Unit AD 0 Rs.1 Rs.2.1 ()=some (Rs.2.2,[],()):=BI (n:=60) Fk (by kernel_rfl)
def Rq:FuncId×List PV×PV:=(13,[.str [226,141,179],.agg [.bool false,.bool false,.sl 1 [.int .i64 (1)] false]],.tup [.agg [.bool true,.bool false,.sl 1 [.int .i64 (1)] false],.int .i64 (0)])
theorem e13_2:∃ n,Bc Bb A1 n Unit AD 0 Rq.1 Rq.2.1 ()=some (Rq.2.2,[],()):=BI (n:=60) Fk (by kernel_rfl)
def Rp:FuncId×List PV×PV:=(13,[.str [226,141,179],.agg [.bool false,.bool false,.sl 1 [.int .i64 (2)] false]],.tup [.agg [.bool true,.bool false,.sl 1 [.int .i64 (1),.int .i64 (2)] false],.int .i64 (0)])
theorem e13_3:∃ n,Bc Bb A1 n Unit AD 0 Rp.1 Rp.2.1 ()=some (Rp.2.2,[],()):=BI (n:=60) Fk (by kernel_rfl)
def Ro:FuncId×List PV×PV:=(16,[.str [45],.agg [.bool false,.bool false,.sl 1 [.int .i64 (2)] false],.agg [.bool false,.bool false,.sl 1 [.int .i64 (3)] false]],.tup [.agg [.bool false,.bool false,.sl 1 [.int .i64 (-1)] false],.int .i64 (0)])
theorem e16_0:∃ n,Bc Bb A1 n Unit AD 0 Ro.1 Ro.2.1 ()=some (Ro.2.2,[],()):=BI (n:=60) Fk (by kernel_rfl)
def Rm:FuncId×List PV×PV:=(16,[.str [45],.agg [.bool false,.bool false,.sl 1 [.int .i64 (1)] false],.agg [.bool false,.bool false,.sl 1 [.int .i64 (-1)] false]],.tup [.agg [.bool false,.bool false,.sl 1 [.int .i64 (2)] false],.int .i64 (0)])
theorem e16_1:∃ n,Bc Bb A1 n Unit AD 0 Rm.1 Rm.2.1 ()=some (Rm.2.2,[],()):=BI (n:=60) Fk (by kernel_rfl)
def Rl:FuncId×List PV×PV:=(16,[.str [43],.agg [.bool false,.bool false,.sl 1 [.int .i64 (1)] false],.agg [.bool false,.bool false,.sl 1 [.int .i64 (2)] false]],.tup [.agg [.bool false,.bool false,.sl 1 [.int .i64 (3)] false],.int .i64 (0)])
theorem e16_2:∃ n,Bc Bb A1 n Unit AD 0 Rl.1 Rl.2.1 ()=some (Rl.2.2,[],()):=BI (n:=60) Fk (by kernel_rfl)
def Rk:FuncId×List PV×PV:=(16,[.str [43],.agg [.bool false,.bool false,.sl 1 [.int .i64 (2)] false],.agg [.bool false,.bool false,.sl 1 [.int .i64 (3)] false]],.tup [.agg [.bool false,.bool false,.sl 1 [.int .i64 (5)] false],.int .i64 (0)])
theorem e16_3:∃ n,Bc Bb A1 n Unit AD 0 Rk.1 Rk.2.1 ()=some (Rk.2.2,[],()):=BI (n:=60) Fk (by kernel_rfl)
def Rj:FuncId×List PV×PV:=(16,[.str [43],.agg [.bool false,.bool false,.sl 1 [.int .i64 (1)] false],.agg [.bool false,.bool false,.sl 1 [.int .i64 (5)] false]],.tup [.agg [.bool false,.bool false,.sl 1 [.int .i64 (6)] false],.int .i64 (0)])
theorem e16_4:∃ n,Bc Bb A1 n Unit AD 0 Rj.1 Rj.2.1 ()=some (Rj.2.2,[],()):=BI (n:=60) Fk (by kernel_rfl)
def Q8:FuncId×List PV×PV:=(98,[.int .i64 (2)],.str [50])
theorem e98_0:∃ n,Bc Bb A1 n Unit AD 0 Q8.1 Q8.2.1 ()=some (Q8.2.2,[],()):=BI (n:=60) Fk (by kernel_rfl)
def Q7:FuncId×List PV×PV:=(98,[.int .i64 (1)],.str [49])
theorem e98_1:∃ n,Bc Bb A1 n Unit AD 0 Q7.1 Q7.2.1 ()=some (Q7.2.2,[],()):=BI (n:=60) Fk (by kernel_rfl)
def Q6:FuncId×List PV×PV:=(98,[.int .i64 (3)],.str [51])
theorem e98_2:∃ n,Bc Bb A1 n Unit AD 0 Q6.1 Q6.2.1 ()=some (Q6.2.2,[],()):=BI (n:=60) Fk (by kernel_rfl)
def Q5:FuncId×List PV×PV:=(98,[.int .i64 (6)],.str [54])
theorem e98_3:∃ n,Bc Bb A1 n Unit AD 0 Q5.1 Q5.2.1 ()=some (Q5.2.2,[],()):=BI (n:=60) Fk (by kernel_rfl)
def Q4:FuncId×List PV×PV:=(98,[.int .i64 (-1)],.str [194,175,49])
theorem e98_4:∃ n,Bc Bb A1 n Unit AD 0 Q4.1 Q4.2.1 ()=some (Q4.2.2,[],()):=BI (n:=60) Fk (by kernel_rfl)
def Q3:FuncId×List PV×PV:=(98,[.int .i64 (-2)],.str [194,175,50])
theorem e98_5:∃ n,Bc Bb A1 n Unit AD 0 Q3.1 Q3.2.1 ()=some (Q3.2.2,[],()):=BI (n:=60) Fk (by kernel_rfl)
def kng:J1 :=
 Rt :: Rs :: Rq :: Rp :: Ro :: Rm :: Rl :: Rk :: Rj :: Q8 :: Q7 :: Q6 :: Q5 :: Q4 :: Q3 :: knf
theorem JB:JK Bb A1 kng:=CZ e13_0<|CZ e13_1<|CZ e13_2<|CZ e13_3<|CZ e16_0<|CZ e16_1<|CZ e16_2<|CZ e16_3<|CZ e16_4<|CZ e98_0<|CZ e98_1<|CZ e98_2<|CZ e98_3<|CZ e98_4<|CZ e98_5<|Fk
end Go.Ab.Derive2

