/-
  Part 21 of a proof: a machine of our own for the given program, its laws, and what it says of the program. Nothing here is a claim by itself.
-/
import Derived.Test.YtddfndlppfhcaaaGreatDoorK20
import Derived.KernelRfl
set_option linter.all false

namespace Go.Ab.DocNone
open Go Go.Ab
def c54_0:FuncId×List PV×PV:=(54,[.sl 3 [.agg [.int .i64 (5),.str [102],.str []],.agg [.int .i64 (8),.str [226,134,144],.str [226,134,144]],.agg [.int .i64 (6),.str [43],.str [43]]] false,.sl 2 [] true,.bool false],.tup [.sl 3 [.agg [.int .i64 (9),.str [43],.sl 1 [] false],.agg [.int .i64 (8),.str [102],.sl 1 [.int .i64 (0)] false]] false,.int .i64 (0)])
theorem e54_0:∃ n,qbi sp0 qcl n Unit qba 0 c54_0.1 c54_0.2.1 ()=some (c54_0.2.2,[],()):=qbq (n:=400) qwt qbm (by kernel_rfl)
def c54_1:FuncId×List PV×PV:=(54,[.sl 3 [.agg [.int .i64 (5),.str [102],.str []],.agg [.int .i64 (3),.str [49],.str [49]]] false,.sl 2 [.agg [.str [102],.bool true]] false,.bool false],.tup [.sl 3 [.agg [.int .i64 (14),.str [102],.sl 1 [] false],.agg [.int .i64 (1),.str [49],.sl 1 [] false],.agg [.int .i64 (6),.str [],.sl 1 [.int .i64 (0),.int .i64 (1)] false]] false,.int .i64 (0)])
theorem e54_1:∃ n,qbi sp0 qcl n Unit qba 0 c54_1.1 c54_1.2.1 ()=some (c54_1.2.2,[],()):=qbq (n:=400) qwt qbm (by kernel_rfl)
def c54_2:FuncId×List PV×PV:=(54,[.sl 3 [.agg [.int .i64 (5),.str [97],.str []],.agg [.int .i64 (5),.str [102],.str []]] false,.sl 2 [.agg [.str [102],.bool true]] true,.bool false],.tup [.nilS,.int .i64 (80)])
theorem e54_2:∃ n,qbi sp0 qcl n Unit qba 0 c54_2.1 c54_2.2.1 ()=some (c54_2.2.2,[],()):=qbq (n:=400) qwt qbm (by kernel_rfl)
def c54_3:FuncId×List PV×PV:=(54,[.sl 3 [.agg [.int .i64 (5),.str [102],.str []],.agg [.int .i64 (8),.str [226,134,144],.str [226,134,144]],.agg [.int .i64 (3),.str [50],.str [50]]] false,.sl 2 [] true,.bool false],.tup [.sl 3 [.agg [.int .i64 (1),.str [50],.sl 1 [] false],.agg [.int .i64 (8),.str [102],.sl 1 [.int .i64 (0)] false]] false,.int .i64 (0)])
theorem e54_3:∃ n,qbi sp0 qcl n Unit qba 0 c54_3.1 c54_3.2.1 ()=some (c54_3.2.2,[],()):=qbq (n:=400) qwt qbm (by kernel_rfl)
def c54_4:FuncId×List PV×PV:=(54,[.sl 3 [.agg [.int .i64 (5),.str [102],.str []],.agg [.int .i64 (3),.str [49],.str [49]]] false,.sl 2 [.agg [.str [102],.bool false]] false,.bool false],.tup [.nilS,.int .i64 (80)])
theorem e54_4:∃ n,qbi sp0 qcl n Unit qba 0 c54_4.1 c54_4.2.1 ()=some (c54_4.2.2,[],()):=qbq (n:=400) qwt qbm (by kernel_rfl)
def c54_5:FuncId×List PV×PV:=(54,[.sl 3 [.agg [.int .i64 (5),.str [97],.str []],.agg [.int .i64 (5),.str [102],.str []]] false,.sl 2 [.agg [.str [102],.bool false]] true,.bool false],.tup [.nilS,.int .i64 (80)])
theorem e54_5:∃ n,qbi sp0 qcl n Unit qba 0 c54_5.1 c54_5.2.1 ()=some (c54_5.2.2,[],()):=qbq (n:=400) qwt qbm (by kernel_rfl)
def knl:qt9 :=
 c54_0 :: c54_1 :: c54_2 :: c54_3 :: c54_4 :: c54_5 :: knk
theorem qln:ql3 sp0 qcl knl:=qbb e54_0<|qbb e54_1<|qbb e54_2<|qbb e54_3<|qbb e54_4<|qbb e54_5<|qwt
end Go.Ab.DocNone

