/-
  Part 22 of a proof: a machine of our own for the given program, its laws, and what it says of the program. Nothing here is a claim by itself.
-/
import Derived.Test.YtddfndlppfhcaaaGreatDoorK21
import Derived.KernelRfl
set_option linter.all false

namespace Go.Ab.DocNone
open Go Go.Ab
def c53_0:FuncId×List PV×PV:=(53,[.sl 3 [.agg [.int .i64 (5),.str [102],.str []],.agg [.int .i64 (8),.str [226,134,144],.str [226,134,144]],.agg [.int .i64 (6),.str [43],.str [43]],.agg [.int .i64 (8),.str [226,139,132],.str [226,139,132]],.agg [.int .i64 (5),.str [102],.str []],.agg [.int .i64 (1),.str [32],.str []],.agg [.int .i64 (3),.str [49],.str [49]]] false],.tup [.sl 1 [.sl 3 [.agg [.int .i64 (5),.str [102],.str []],.agg [.int .i64 (8),.str [226,134,144],.str [226,134,144]],.agg [.int .i64 (6),.str [43],.str [43]]] false,.sl 3 [.agg [.int .i64 (5),.str [102],.str []],.agg [.int .i64 (3),.str [49],.str [49]]] false] false,.int .i64 (0)])
theorem e53_0:∃ n,qbi sp0 qcl n Unit qba 0 c53_0.1 c53_0.2.1 ()=some (c53_0.2.2,[],()):=qbq (n:=400) qln qbm (by kernel_rfl)
def c53_1:FuncId×List PV×PV:=(53,[.sl 3 [.agg [.int .i64 (5),.str [97],.str []],.agg [.int .i64 (1),.str [32],.str []],.agg [.int .i64 (5),.str [102],.str []]] false],.tup [.sl 1 [.sl 3 [.agg [.int .i64 (5),.str [97],.str []],.agg [.int .i64 (5),.str [102],.str []]] false] false,.int .i64 (0)])
theorem e53_1:∃ n,qbi sp0 qcl n Unit qba 0 c53_1.1 c53_1.2.1 ()=some (c53_1.2.2,[],()):=qbq (n:=400) qln qbm (by kernel_rfl)
def c53_2:FuncId×List PV×PV:=(53,[.sl 3 [.agg [.int .i64 (8),.str [41],.str [41]]] false],.tup [.sl 1 [.sl 3 [.agg [.int .i64 (8),.str [41],.str [41]]] false] false,.int .i64 (60)])
theorem e53_2:∃ n,qbi sp0 qcl n Unit qba 0 c53_2.1 c53_2.2.1 ()=some (c53_2.2.2,[],()):=qbq (n:=400) qln qbm (by kernel_rfl)
def c53_3:FuncId×List PV×PV:=(53,[.sl 3 [.agg [.int .i64 (5),.str [102],.str []],.agg [.int .i64 (8),.str [226,134,144],.str [226,134,144]],.agg [.int .i64 (3),.str [50],.str [50]],.agg [.int .i64 (8),.str [226,139,132],.str [226,139,132]],.agg [.int .i64 (5),.str [102],.str []],.agg [.int .i64 (1),.str [32],.str []],.agg [.int .i64 (3),.str [49],.str [49]]] false],.tup [.sl 1 [.sl 3 [.agg [.int .i64 (5),.str [102],.str []],.agg [.int .i64 (8),.str [226,134,144],.str [226,134,144]],.agg [.int .i64 (3),.str [50],.str [50]]] false,.sl 3 [.agg [.int .i64 (5),.str [102],.str []],.agg [.int .i64 (3),.str [49],.str [49]]] false] false,.int .i64 (0)])
theorem e53_3:∃ n,qbi sp0 qcl n Unit qba 0 c53_3.1 c53_3.2.1 ()=some (c53_3.2.2,[],()):=qbq (n:=400) qln qbm (by kernel_rfl)
def c30_0:FuncId×List PV×PV:=(30,[.sl 3 [.agg [.int .i64 (5),.str [97],.str []],.agg [.int .i64 (1),.str [32],.str []],.agg [.int .i64 (5),.str [102],.str []]] false,.sl 2 [.agg [.str [102],.bool true]] false,.sl 2 [.agg [.str [102],.bool false]] false],.bool true)
theorem e30_0:∃ n,qbi sp0 qcl n Unit qba 0 c30_0.1 c30_0.2.1 ()=some (c30_0.2.2,[],()):=qbq (n:=400) qln qbm (by kernel_rfl)
def c30_1:FuncId×List PV×PV:=(30,[.sl 3 [.agg [.int .i64 (8),.str [41],.str [41]]] false,.sl 2 [.agg [.str [102],.bool true]] true,.sl 2 [.agg [.str [102],.bool false]] true],.bool false)
theorem e30_1:∃ n,qbi sp0 qcl n Unit qba 0 c30_1.1 c30_1.2.1 ()=some (c30_1.2.2,[],()):=qbq (n:=400) qln qbm (by kernel_rfl)
def c55_0:FuncId×List PV×PV:=(55,[.sl 3 [.agg [.int .i64 (9),.str [43],.sl 1 [] false],.agg [.int .i64 (8),.str [102],.sl 1 [.int .i64 (0)] false]] false],.tup [.agg [.str [102],.bool true],.bool true])
theorem e55_0:∃ n,qbi sp0 qcl n Unit qba 0 c55_0.1 c55_0.2.1 ()=some (c55_0.2.2,[],()):=qbq (n:=400) qln qbm (by kernel_rfl)
def c55_1:FuncId×List PV×PV:=(55,[.sl 3 [.agg [.int .i64 (14),.str [102],.sl 1 [] false],.agg [.int .i64 (1),.str [49],.sl 1 [] false],.agg [.int .i64 (6),.str [],.sl 1 [.int .i64 (0),.int .i64 (1)] false]] false],.tup [.agg [.str [],.bool false],.bool false])
theorem e55_1:∃ n,qbi sp0 qcl n Unit qba 0 c55_1.1 c55_1.2.1 ()=some (c55_1.2.2,[],()):=qbq (n:=400) qln qbm (by kernel_rfl)
def c55_2:FuncId×List PV×PV:=(55,[.nilS],.tup [.agg [.str [],.bool false],.bool false])
theorem e55_2:∃ n,qbi sp0 qcl n Unit qba 0 c55_2.1 c55_2.2.1 ()=some (c55_2.2.2,[],()):=qbq (n:=400) qln qbm (by kernel_rfl)
def c55_3:FuncId×List PV×PV:=(55,[.sl 3 [.agg [.int .i64 (1),.str [50],.sl 1 [] false],.agg [.int .i64 (8),.str [102],.sl 1 [.int .i64 (0)] false]] false],.tup [.agg [.str [102],.bool false],.bool true])
theorem e55_3:∃ n,qbi sp0 qcl n Unit qba 0 c55_3.1 c55_3.2.1 ()=some (c55_3.2.2,[],()):=qbq (n:=400) qln qbm (by kernel_rfl)
def c11_0:FuncId×List PV×PV:=(11,[.sl 3 [.agg [.int .i64 (9),.str [43],.sl 1 [] true],.agg [.int .i64 (8),.str [102],.sl 1 [.int .i64 (0)] false]] false],.str [40,56,58,102,32,57,58,43,41])
theorem e11_0:∃ n,qbi sp0 qcl n Unit qba 0 c11_0.1 c11_0.2.1 ()=some (c11_0.2.2,[],()):=qbq (n:=400) qln qbm (by kernel_rfl)
def c11_1:FuncId×List PV×PV:=(11,[.sl 3 [.agg [.int .i64 (14),.str [102],.sl 1 [] true],.agg [.int .i64 (1),.str [49],.sl 1 [] true],.agg [.int .i64 (6),.str [],.sl 1 [.int .i64 (0),.int .i64 (1)] false]] false],.str [40,54,58,32,49,52,58,102,32,49,58,49,41])
theorem e11_1:∃ n,qbi sp0 qcl n Unit qba 0 c11_1.1 c11_1.2.1 ()=some (c11_1.2.2,[],()):=qbq (n:=400) qln qbm (by kernel_rfl)
def knm:qt9 :=
 c53_0 :: c53_1 :: c53_2 :: c53_3 :: c30_0 :: c30_1 :: c55_0 :: c55_1 :: c55_2 :: c55_3 :: c11_0 :: c11_1 :: knl
theorem knm_ok:ql3 sp0 qcl knm:=qbb e53_0<|qbb e53_1<|qbb e53_2<|qbb e53_3<|qbb e30_0<|qbb e30_1<|qbb e55_0<|qbb e55_1<|qbb e55_2<|qbb e55_3<|qbb e11_0<|qbb e11_1<|qln
end Go.Ab.DocNone

