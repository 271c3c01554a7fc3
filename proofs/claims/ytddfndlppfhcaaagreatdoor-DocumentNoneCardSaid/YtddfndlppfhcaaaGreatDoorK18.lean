/-
  Part 18 of a proof: a machine of our own for the given program, its laws, and what it says of the program. Nothing here is a claim by itself.
-/
import Derived.Test.YtddfndlppfhcaaaGreatDoorK17
import Derived.KernelRfl
set_option linter.all false

namespace Go.Ab.DocNone
open Go Go.Ab
def c74_0:FuncId×List PV×PV:=(74,[.sl 3 [.agg [.int .i64 (5),.str [102],.str []],.agg [.int .i64 (8),.str [226,134,144],.str [226,134,144]],.agg [.int .i64 (6),.str [43],.str [43]],.agg [.int .i64 (8),.str [226,139,132],.str [226,139,132]],.agg [.int .i64 (5),.str [102],.str []],.agg [.int .i64 (3),.str [49],.str [49]]] false,.str [226,139,132]],.tup [.sl 1 [.sl 3 [.agg [.int .i64 (5),.str [102],.str []],.agg [.int .i64 (8),.str [226,134,144],.str [226,134,144]],.agg [.int .i64 (6),.str [43],.str [43]]] false,.sl 3 [.agg [.int .i64 (5),.str [102],.str []],.agg [.int .i64 (3),.str [49],.str [49]]] false] false,.int .i64 (0)])
theorem e74_0:∃ n,qbi sp0 qcl n Unit qba 0 c74_0.1 c74_0.2.1 ()=some (c74_0.2.2,[],()):=qbq (n:=400) qwu qbm (by kernel_rfl)
def c74_2:FuncId×List PV×PV:=(74,[.sl 3 [.agg [.int .i64 (5),.str [97],.str []],.agg [.int .i64 (5),.str [102],.str []]] false,.str [226,139,132]],.tup [.sl 1 [.sl 3 [.agg [.int .i64 (5),.str [97],.str []],.agg [.int .i64 (5),.str [102],.str []]] false] false,.int .i64 (0)])
theorem e74_2:∃ n,qbi sp0 qcl n Unit qba 0 c74_2.1 c74_2.2.1 ()=some (c74_2.2.2,[],()):=qbq (n:=400) qwu qbm (by kernel_rfl)
def c74_4:FuncId×List PV×PV:=(74,[.sl 3 [.agg [.int .i64 (8),.str [41],.str [41]]] false,.str [226,139,132]],.tup [.nilS,.int .i64 (60)])
theorem e74_4:∃ n,qbi sp0 qcl n Unit qba 0 c74_4.1 c74_4.2.1 ()=some (c74_4.2.2,[],()):=qbq (n:=400) qwu qbm (by kernel_rfl)
end Go.Ab.DocNone

