/-
  Part 16 of a proof: a machine of our own for the given program, its laws, and what it says of the program. Nothing here is a claim by itself.
-/
import Derived.Test.YtddfndlppfhcaaaGreatDoorK13
import Derived.KernelRfl
import Derived.Test.YtddfndlppfhcaaaGreatDoorK15
set_option linter.all false

namespace Go.Ab.DocNone
open Go Go.Ab
def c45_2:FuncId×List PV×PV:=(45,[.str [41]],.sl 3 [.agg [.int .i64 (8),.str [41],.str [41]]] false)
theorem e45_2:∃ n,qbi sp0 qcl n Unit qba 0 c45_2.1 c45_2.2.1 ()=some (c45_2.2.2,[],()):=qbq (n:=400) qc1 qbm (by kernel_rfl)
def c27_1:FuncId×List PV×PV:=(27,[.str [102,226,134,144,50,226,139,132,102,32,49],.str [10]],.sl 1 [.str [102,226,134,144,50,226,139,132,102,32,49]] false)
theorem e27_1:∃ n,qbi sp0 qcl n Unit qba 0 c27_1.1 c27_1.2.1 ()=some (c27_1.2.2,[],()):=qbq (n:=400) qc1 qbm (by kernel_rfl)
def c73_2:FuncId×List PV×PV:=(73,[.sl 3 [.agg [.int .i64 (8),.str [41],.str [41]]] false],.sl 3 [.agg [.int .i64 (8),.str [41],.str [41]]] false)
theorem e73_2:∃ n,qbi sp0 qcl n Unit qba 0 c73_2.1 c73_2.2.1 ()=some (c73_2.2.2,[],()):=qbq (n:=400) qc1 qbm (by kernel_rfl)
def c22_1:FuncId×List PV×PV:=(22,[.sl 3 [.agg [.int .i64 (9),.str [43],.sl 1 [] false],.agg [.int .i64 (8),.str [102],.sl 1 [.int .i64 (0)] false]] false],.bool true)
theorem e22_1:∃ n,qbi sp0 qcl n Unit qba 0 c22_1.1 c22_1.2.1 ()=some (c22_1.2.2,[],()):=qbq (n:=400) qc1 qbm (by kernel_rfl)
def c22_4:FuncId×List PV×PV:=(22,[.sl 3 [.agg [.int .i64 (14),.str [102],.sl 1 [] false],.agg [.int .i64 (1),.str [49],.sl 1 [] false],.agg [.int .i64 (6),.str [],.sl 1 [.int .i64 (0),.int .i64 (1)] false]] false],.bool true)
theorem e22_4:∃ n,qbi sp0 qcl n Unit qba 0 c22_4.1 c22_4.2.1 ()=some (c22_4.2.2,[],()):=qbq (n:=400) qc1 qbm (by kernel_rfl)
def c22_7:FuncId×List PV×PV:=(22,[.sl 3 [.agg [.int .i64 (1),.str [50],.sl 1 [] false],.agg [.int .i64 (8),.str [102],.sl 1 [.int .i64 (0)] false]] false],.bool true)
theorem e22_7:∃ n,qbi sp0 qcl n Unit qba 0 c22_7.1 c22_7.2.1 ()=some (c22_7.2.2,[],()):=qbq (n:=400) qc1 qbm (by kernel_rfl)
def Qm0:FuncId×List PV×PV:=(22,[.sl 3 [.agg [.int .i64 (14),.str [102],.sl 1 [] true],.agg [.int .i64 (1),.str [49],.sl 1 [] true],.agg [.int .i64 (6),.str [],.sl 1 [.int .i64 (0),.int .i64 (1)] false]] false],.bool true)
theorem e22_10:∃ n,qbi sp0 qcl n Unit qba 0 Qm0.1 Qm0.2.1 ()=some (Qm0.2.2,[],()):=qbq (n:=400) qc1 qbm (by kernel_rfl)
def Qnv:FuncId×List PV×PV:=(133,[.int .i64 (1),.str [49],.nilS],.tup [.sl 3 [.agg [.int .i64 (1),.str [49],.nilS]] false,.int .i64 (0)])
theorem e133_2:∃ n,qbi sp0 qcl n Unit qba 0 Qnv.1 Qnv.2.1 ()=some (Qnv.2.2,[],()):=qbq (n:=400) qc1 qbm (by kernel_rfl)
def Qns:FuncId×List PV×PV:=(133,[.int .i64 (1),.str [50],.nilS],.tup [.sl 3 [.agg [.int .i64 (1),.str [50],.nilS]] false,.int .i64 (0)])
theorem e133_5:∃ n,qbi sp0 qcl n Unit qba 0 Qns.1 Qns.2.1 ()=some (Qns.2.2,[],()):=qbq (n:=400) qc1 qbm (by kernel_rfl)
def Qn3:FuncId×List PV×PV:=(124,[.sl 3 [.agg [.int .i64 (5),.str [102],.str []],.agg [.int .i64 (8),.str [226,134,144],.str [226,134,144]],.agg [.int .i64 (6),.str [43],.str [43]]] false],.tup [.sl 1 [.int .i64 (-1),.int .i64 (-1),.int .i64 (-1)] false,.int .i64 (0)])
theorem e124_0:∃ n,qbi sp0 qcl n Unit qba 0 Qn3.1 Qn3.2.1 ()=some (Qn3.2.2,[],()):=qbq (n:=400) qc1 qbm (by kernel_rfl)
def Qn0:FuncId×List PV×PV:=(124,[.sl 3 [.agg [.int .i64 (5),.str [97],.str []],.agg [.int .i64 (5),.str [102],.str []]] false],.tup [.sl 1 [.int .i64 (-1),.int .i64 (-1)] false,.int .i64 (0)])
theorem e124_3:∃ n,qbi sp0 qcl n Unit qba 0 Qn0.1 Qn0.2.1 ()=some (Qn0.2.2,[],()):=qbq (n:=400) qc1 qbm (by kernel_rfl)
end Go.Ab.DocNone

