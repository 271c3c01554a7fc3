/-
  Part 9 of a proof: a machine of our own for the given program, its laws, and what it says of the program. Nothing here is a claim by itself.
-/
import Derived.Test.YtbeonejdegijfaaGreatDoorK08
import Derived.KernelRfl
set_option linter.all false

namespace Go.Ab.Derive2
open Go Go.Ab
def c19_0:FuncId×List PV×PV:=(19,[.str [45],.agg [.bool true,.bool false,.sl 1 [.int .i64 (1),.int .i64 (2),.int .i64 (3)] false]],.tup [.agg [.bool false,.bool false,.sl 1 [.int .i64 (2)] false],.int .i64 (0)])
theorem e19_0:∃ n,qcp sp0 qjd n Unit qbc 0 c19_0.1 c19_0.2.1 ()=some (c19_0.2.2,[],()):=qcl (n:=60) qvs (by kernel_rfl)
def c21_0:FuncId×List PV×PV:=(21,[.str [43],.agg [.bool true,.bool false,.sl 1 [.int .i64 (1),.int .i64 (2),.int .i64 (3)] false]],.tup [.agg [.bool true,.bool false,.sl 1 [.int .i64 (1),.int .i64 (3),.int .i64 (6)] false],.int .i64 (0)])
theorem e21_0:∃ n,qcp sp0 qjd n Unit qbc 0 c21_0.1 c21_0.2.1 ()=some (c21_0.2.2,[],()):=qcl (n:=60) qvs (by kernel_rfl)
def c23_0:FuncId×List PV×PV:=(23,[.str [45],.agg [.bool true,.bool false,.sl 1 [.int .i64 (1),.int .i64 (2)] false]],.tup [.agg [.bool true,.bool false,.sl 1 [.int .i64 (-1),.int .i64 (-2)] false],.int .i64 (0)])
theorem e23_0:∃ n,qcp sp0 qjd n Unit qbc 0 c23_0.1 c23_0.2.1 ()=some (c23_0.2.2,[],()):=qcl (n:=60) qvs (by kernel_rfl)
def c23_1:FuncId×List PV×PV:=(23,[.str [226,141,179],.agg [.bool true,.bool false,.sl 1 [.int .i64 (1),.int .i64 (2)] false]],.tup [.agg [.bool false,.bool false,.nilS],.int .i64 (111)])
theorem e23_1:∃ n,qcp sp0 qjd n Unit qbc 0 c23_1.1 c23_1.2.1 ()=some (c23_1.2.2,[],()):=qcl (n:=60) qvs (by kernel_rfl)
def c34_0:FuncId×List PV×PV:=(34,[.agg [.bool false,.bool false,.sl 1 [.int .i64 (2)] false]],.str [50])
theorem e34_0:∃ n,qcp sp0 qjd n Unit qbc 0 c34_0.1 c34_0.2.1 ()=some (c34_0.2.2,[],()):=qcl (n:=60) qvs (by kernel_rfl)
def c34_1:FuncId×List PV×PV:=(34,[.agg [.bool true,.bool false,.sl 1 [.int .i64 (1),.int .i64 (3),.int .i64 (6)] false]],.str [49,32,51,32,54])
theorem e34_1:∃ n,qcp sp0 qjd n Unit qbc 0 c34_1.1 c34_1.2.1 ()=some (c34_1.2.2,[],()):=qcl (n:=60) qvs (by kernel_rfl)
def c34_2:FuncId×List PV×PV:=(34,[.agg [.bool true,.bool false,.sl 1 [.int .i64 (-1),.int .i64 (-2)] false]],.str [194,175,49,32,194,175,50])
theorem e34_2:∃ n,qcp sp0 qjd n Unit qbc 0 c34_2.1 c34_2.2.1 ()=some (c34_2.2.2,[],()):=qcl (n:=60) qvs (by kernel_rfl)
def knh:Qfb :=
 c19_0 :: c21_0 :: c23_0 :: c23_1 :: c34_0 :: c34_1 :: c34_2 :: kng
theorem Qne:qs1 sp0 qjd knh:=qby e19_0<|qby e21_0<|qby e23_0<|qby e23_1<|qby e34_0<|qby e34_1<|qby e34_2<|qvs
end Go.Ab.Derive2

