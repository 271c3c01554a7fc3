/-
  Part 9 of a proof: a machine of our own for the given program, its laws, and what it says of the program. Nothing here is a claim by itself.
-/
import Derived.Test.YtbeonejdegijfaaGreatDoorK08
import Derived.KernelRfl
set_option linter.all false

namespace Go.Ab.Derive2
open Go Go.Ab
def Ri:FuncId×List PV×PV:=(19,[.str [45],.agg [.bool true,.bool false,.sl 1 [.int .i64 (1),.int .i64 (2),.int .i64 (3)] false]],.tup [.agg [.bool false,.bool false,.sl 1 [.int .i64 (2)] false],.int .i64 (0)])
theorem e19_0:∃ n,Bc Bb A1 n Unit AD 0 Ri.1 Ri.2.1 ()=some (Ri.2.2,[],()):=BI (n:=60) JB (by kernel_rfl)
def Rh:FuncId×List PV×PV:=(21,[.str [43],.agg [.bool true,.bool false,.sl 1 [.int .i64 (1),.int .i64 (2),.int .i64 (3)] false]],.tup [.agg [.bool true,.bool false,.sl 1 [.int .i64 (1),.int .i64 (3),.int .i64 (6)] false],.int .i64 (0)])
theorem e21_0:∃ n,Bc Bb A1 n Unit AD 0 Rh.1 Rh.2.1 ()=some (Rh.2.2,[],()):=BI (n:=60) JB (by kernel_rfl)
def Rg:FuncId×List PV×PV:=(23,[.str [45],.agg [.bool true,.bool false,.sl 1 [.int .i64 (1),.int .i64 (2)] false]],.tup [.agg [.bool true,.bool false,.sl 1 [.int .i64 (-1),.int .i64 (-2)] false],.int .i64 (0)])
theorem e23_0:∃ n,Bc Bb A1 n Unit AD 0 Rg.1 Rg.2.1 ()=some (Rg.2.2,[],()):=BI (n:=60) JB (by kernel_rfl)
def Rf:FuncId×List PV×PV:=(23,[.str [226,141,179],.agg [.bool true,.bool false,.sl 1 [.int .i64 (1),.int .i64 (2)] false]],.tup [.agg [.bool false,.bool false,.nilS],.int .i64 (111)])
theorem e23_1:∃ n,Bc Bb A1 n Unit AD 0 Rf.1 Rf.2.1 ()=some (Rf.2.2,[],()):=BI (n:=60) JB (by kernel_rfl)
def Re:FuncId×List PV×PV:=(34,[.agg [.bool false,.bool false,.sl 1 [.int .i64 (2)] false]],.str [50])
theorem e34_0:∃ n,Bc Bb A1 n Unit AD 0 Re.1 Re.2.1 ()=some (Re.2.2,[],()):=BI (n:=60) JB (by kernel_rfl)
def Rd:FuncId×List PV×PV:=(34,[.agg [.bool true,.bool false,.sl 1 [.int .i64 (1),.int .i64 (3),.int .i64 (6)] false]],.str [49,32,51,32,54])
theorem e34_1:∃ n,Bc Bb A1 n Unit AD 0 Rd.1 Rd.2.1 ()=some (Rd.2.2,[],()):=BI (n:=60) JB (by kernel_rfl)
def Rc:FuncId×List PV×PV:=(34,[.agg [.bool true,.bool false,.sl 1 [.int .i64 (-1),.int .i64 (-2)] false]],.str [194,175,49,32,194,175,50])
theorem e34_2:∃ n,Bc Bb A1 n Unit AD 0 Rc.1 Rc.2.1 ()=some (Rc.2.2,[],()):=BI (n:=60) JB (by kernel_rfl)
def knh:J1 :=
 Ri :: Rh :: Rg :: Rf :: Re :: Rd :: Rc :: kng
theorem C6:JK Bb A1 knh:=CZ e19_0<|CZ e21_0<|CZ e23_0<|CZ e23_1<|CZ e34_0<|CZ e34_1<|CZ e34_2<|JB
end Go.Ab.Derive2

