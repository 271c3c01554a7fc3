/-
  Part 19 of a proof: a machine of our own for the given program, its laws, and what it says of the program. Nothing here is a claim by itself.
-/
import Derived.Test.YtddfndlppfhcaaaGreatDoorK17
import Derived.KernelRfl
import Derived.Test.YtddfndlppfhcaaaGreatDoorK18
set_option linter.all false

namespace Go.Ab.DocNone
open Go Go.Ab
def c74_1:FuncId×List PV×PV:=(74,[.sl 3 [.agg [.int .i64 (5),.str [102],.str []],.agg [.int .i64 (3),.str [49],.str [49]]] false,.str [58]],.tup [.sl 1 [.sl 3 [.agg [.int .i64 (5),.str [102],.str []],.agg [.int .i64 (3),.str [49],.str [49]]] false] false,.int .i64 (0)])
theorem e74_1:∃ n,qbi sp0 qcl n Unit qba 0 c74_1.1 c74_1.2.1 ()=some (c74_1.2.2,[],()):=qbq (n:=400) qwu qbm (by kernel_rfl)
def c74_3:FuncId×List PV×PV:=(74,[.sl 3 [.agg [.int .i64 (5),.str [97],.str []],.agg [.int .i64 (5),.str [102],.str []]] false,.str [58]],.tup [.sl 1 [.sl 3 [.agg [.int .i64 (5),.str [97],.str []],.agg [.int .i64 (5),.str [102],.str []]] false] false,.int .i64 (0)])
theorem e74_3:∃ n,qbi sp0 qcl n Unit qba 0 c74_3.1 c74_3.2.1 ()=some (c74_3.2.2,[],()):=qbq (n:=400) qwu qbm (by kernel_rfl)
def c74_5:FuncId×List PV×PV:=(74,[.sl 3 [.agg [.int .i64 (5),.str [102],.str []],.agg [.int .i64 (8),.str [226,134,144],.str [226,134,144]],.agg [.int .i64 (3),.str [50],.str [50]],.agg [.int .i64 (8),.str [226,139,132],.str [226,139,132]],.agg [.int .i64 (5),.str [102],.str []],.agg [.int .i64 (3),.str [49],.str [49]]] false,.str [226,139,132]],.tup [.sl 1 [.sl 3 [.agg [.int .i64 (5),.str [102],.str []],.agg [.int .i64 (8),.str [226,134,144],.str [226,134,144]],.agg [.int .i64 (3),.str [50],.str [50]]] false,.sl 3 [.agg [.int .i64 (5),.str [102],.str []],.agg [.int .i64 (3),.str [49],.str [49]]] false] false,.int .i64 (0)])
theorem e74_5:∃ n,qbi sp0 qcl n Unit qba 0 c74_5.1 c74_5.2.1 ()=some (c74_5.2.2,[],()):=qbq (n:=400) qwu qbm (by kernel_rfl)
end Go.Ab.DocNone

