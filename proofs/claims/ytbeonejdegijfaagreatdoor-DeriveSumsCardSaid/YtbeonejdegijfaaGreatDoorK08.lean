/-
  Part 8 of a proof: a machine of our own for the given program, its laws, and what it says of the program. Nothing here is a claim by itself.
-/
import Derived.Test.YtbeonejdegijfaaGreatDoorK07
import Derived.KernelRfl
set_option linter.all false

namespace Go.Ab.Derive2
open Go Go.Ab
def c13_0:FuncId×List PV×PV:=(13,[.str [45],.agg [.bool false,.bool false,.sl 1 [.int .i64 (1)] false]],.tup [.agg [.bool false,.bool false,.sl 1 [.int .i64 (-1)] false],.int .i64 (0)])
theorem e13_0:∃ n,qcp sp0 qjd n Unit qbc 0 c13_0.1 c13_0.2.1 ()=some (c13_0.2.2,[],()):=qcl (n:=60) qj8 (by kernel_rfl)
def c13_1:FuncId×List PV×PV:=(13,[.str [45],.agg [.bool false,.bool false,.sl 1 [.int .i64 (2)] false]],.tup [.agg [.bool false,.bool false,.sl 1 [.int .i64 (-2)] false],.int .i64 (0)])
theorem e13_1:∃ n,qcp sp0 qjd n Unit qbc 0 c13_1.1 c13_1.2.1 ()=some (c13_1.2.2,[],()):=qcl (n:=60) qj8 (by kernel_rfl)
def c13_2:FuncId×List PV×PV:=(13,[.str [226,141,179],.agg [.bool false,.bool false,.sl 1 [.int .i64 (1)] false]],.tup [.agg [.bool true,.bool false,.sl 1 [.int .i64 (1)] false],.int .i64 (0)])
theorem e13_2:∃ n,qcp sp0 qjd n Unit qbc 0 c13_2.1 c13_2.2.1 ()=some (c13_2.2.2,[],()):=qcl (n:=60) qj8 (by kernel_rfl)
def c13_3:FuncId×List PV×PV:=(13,[.str [226,141,179],.agg [.bool false,.bool false,.sl 1 [.int .i64 (2)] false]],.tup [.agg [.bool true,.bool false,.sl 1 [.int .i64 (1),.int .i64 (2)] false],.int .i64 (0)])
theorem e13_3:∃ n,qcp sp0 qjd n Unit qbc 0 c13_3.1 c13_3.2.1 ()=some (c13_3.2.2,[],()):=qcl (n:=60) qj8 (by kernel_rfl)
def c16_0:FuncId×List PV×PV:=(16,[.str [45],.agg [.bool false,.bool false,.sl 1 [.int .i64 (2)] false],.agg [.bool false,.bool false,.sl 1 [.int .i64 (3)] false]],.tup [.agg [.bool false,.bool false,.sl 1 [.int .i64 (-1)] false],.int .i64 (0)])
theorem e16_0:∃ n,qcp sp0 qjd n Unit qbc 0 c16_0.1 c16_0.2.1 ()=some (c16_0.2.2,[],()):=qcl (n:=60) qj8 (by kernel_rfl)
def c16_1:FuncId×List PV×PV:=(16,[.str [45],.agg [.bool false,.bool false,.sl 1 [.int .i64 (1)] false],.agg [.bool false,.bool false,.sl 1 [.int .i64 (-1)] false]],.tup [.agg [.bool false,.bool false,.sl 1 [.int .i64 (2)] false],.int .i64 (0)])
theorem e16_1:∃ n,qcp sp0 qjd n Unit qbc 0 c16_1.1 c16_1.2.1 ()=some (c16_1.2.2,[],()):=qcl (n:=60) qj8 (by kernel_rfl)
def c16_2:FuncId×List PV×PV:=(16,[.str [43],.agg [.bool false,.bool false,.sl 1 [.int .i64 (1)] false],.agg [.bool false,.bool false,.sl 1 [.int .i64 (2)] false]],.tup [.agg [.bool false,.bool false,.sl 1 [.int .i64 (3)] false],.int .i64 (0)])
theorem e16_2:∃ n,qcp sp0 qjd n Unit qbc 0 c16_2.1 c16_2.2.1 ()=some (c16_2.2.2,[],()):=qcl (n:=60) qj8 (by kernel_rfl)
def c16_3:FuncId×List PV×PV:=(16,[.str [43],.agg [.bool false,.bool false,.sl 1 [.int .i64 (2)] false],.agg [.bool false,.bool false,.sl 1 [.int .i64 (3)] false]],.tup [.agg [.bool false,.bool false,.sl 1 [.int .i64 (5)] false],.int .i64 (0)])
theorem e16_3:∃ n,qcp sp0 qjd n Unit qbc 0 c16_3.1 c16_3.2.1 ()=some (c16_3.2.2,[],()):=qcl (n:=60) qj8 (by kernel_rfl)
def c16_4:FuncId×List PV×PV:=(16,[.str [43],.agg [.bool false,.bool false,.sl 1 [.int .i64 (1)] false],.agg [.bool false,.bool false,.sl 1 [.int .i64 (5)] false]],.tup [.agg [.bool false,.bool false,.sl 1 [.int .i64 (6)] false],.int .i64 (0)])
theorem e16_4:∃ n,qcp sp0 qjd n Unit qbc 0 c16_4.1 c16_4.2.1 ()=some (c16_4.2.2,[],()):=qcl (n:=60) qj8 (by kernel_rfl)
def c98_0:FuncId×List PV×PV:=(98,[.int .i64 (2)],.str [50])
theorem e98_0:∃ n,qcp sp0 qjd n Unit qbc 0 c98_0.1 c98_0.2.1 ()=some (c98_0.2.2,[],()):=qcl (n:=60) qj8 (by kernel_rfl)
def c98_1:FuncId×List PV×PV:=(98,[.int .i64 (1)],.str [49])
theorem e98_1:∃ n,qcp sp0 qjd n Unit qbc 0 c98_1.1 c98_1.2.1 ()=some (c98_1.2.2,[],()):=qcl (n:=60) qj8 (by kernel_rfl)
def c98_2:FuncId×List PV×PV:=(98,[.int .i64 (3)],.str [51])
theorem e98_2:∃ n,qcp sp0 qjd n Unit qbc 0 c98_2.1 c98_2.2.1 ()=some (c98_2.2.2,[],()):=qcl (n:=60) qj8 (by kernel_rfl)
def c98_3:FuncId×List PV×PV:=(98,[.int .i64 (6)],.str [54])
theorem e98_3:∃ n,qcp sp0 qjd n Unit qbc 0 c98_3.1 c98_3.2.1 ()=some (c98_3.2.2,[],()):=qcl (n:=60) qj8 (by kernel_rfl)
def c98_4:FuncId×List PV×PV:=(98,[.int .i64 (-1)],.str [194,175,49])
theorem e98_4:∃ n,qcp sp0 qjd n Unit qbc 0 c98_4.1 c98_4.2.1 ()=some (c98_4.2.2,[],()):=qcl (n:=60) qj8 (by kernel_rfl)
def c98_5:FuncId×List PV×PV:=(98,[.int .i64 (-2)],.str [194,175,50])
theorem e98_5:∃ n,qcp sp0 qjd n Unit qbc 0 c98_5.1 c98_5.2.1 ()=some (c98_5.2.2,[],()):=qcl (n:=60) qj8 (by kernel_rfl)
def kng:Qfb :=
 c13_0 :: c13_1 :: c13_2 :: c13_3 :: c16_0 :: c16_1 :: c16_2 :: c16_3 :: c16_4 :: c98_0 :: c98_1 :: c98_2 :: c98_3 :: c98_4 :: c98_5 :: knf
theorem qvs:qs1 sp0 qjd kng:=qby e13_0<|qby e13_1<|qby e13_2<|qby e13_3<|qby e16_0<|qby e16_1<|qby e16_2<|qby e16_3<|qby e16_4<|qby e98_0<|qby e98_1<|qby e98_2<|qby e98_3<|qby e98_4<|qby e98_5<|qj8
end Go.Ab.Derive2

