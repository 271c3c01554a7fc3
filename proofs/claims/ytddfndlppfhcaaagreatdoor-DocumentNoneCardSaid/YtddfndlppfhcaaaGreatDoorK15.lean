/-
  Part 15 of a proof: a machine of our own for the given program, its laws, and what it says of the program. Nothing here is a claim by itself.
-/
import Derived.Test.YtddfndlppfhcaaaGreatDoorK13
import Derived.KernelRfl
import Derived.Test.YtddfndlppfhcaaaGreatDoorK14
set_option linter.all false

namespace Go.Ab.DocNone
open Go Go.Ab
def c45_1:FuncId×List PV×PV:=(45,[.str [97,32,102]],.sl 3 [.agg [.int .i64 (5),.str [97],.str []],.agg [.int .i64 (1),.str [32],.str []],.agg [.int .i64 (5),.str [102],.str []]] false)
theorem e45_1:∃ n,qbi sp0 qcl n Unit qba 0 c45_1.1 c45_1.2.1 ()=some (c45_1.2.2,[],()):=qbq (n:=400) qc1 qbm (by kernel_rfl)
def c27_0:FuncId×List PV×PV:=(27,[.str [102,226,134,144,43,226,139,132,102,32,49,10,97,32,102,10,41],.str [10]],.sl 1 [.str [102,226,134,144,43,226,139,132,102,32,49],.str [97,32,102],.str [41]] false)
theorem e27_0:∃ n,qbi sp0 qcl n Unit qba 0 c27_0.1 c27_0.2.1 ()=some (c27_0.2.2,[],()):=qbq (n:=400) qc1 qbm (by kernel_rfl)
def c73_1:FuncId×List PV×PV:=(73,[.sl 3 [.agg [.int .i64 (5),.str [97],.str []],.agg [.int .i64 (1),.str [32],.str []],.agg [.int .i64 (5),.str [102],.str []]] false],.sl 3 [.agg [.int .i64 (5),.str [97],.str []],.agg [.int .i64 (5),.str [102],.str []]] false)
theorem e73_1:∃ n,qbi sp0 qcl n Unit qba 0 c73_1.1 c73_1.2.1 ()=some (c73_1.2.2,[],()):=qbq (n:=400) qc1 qbm (by kernel_rfl)
def c22_0:FuncId×List PV×PV:=(22,[.sl 3 [.agg [.int .i64 (9),.str [43],.nilS]] false],.bool true)
theorem e22_0:∃ n,qbi sp0 qcl n Unit qba 0 c22_0.1 c22_0.2.1 ()=some (c22_0.2.2,[],()):=qbq (n:=400) qc1 qbm (by kernel_rfl)
def c22_3:FuncId×List PV×PV:=(22,[.sl 3 [.agg [.int .i64 (14),.str [102],.nilS]] false],.bool true)
theorem e22_3:∃ n,qbi sp0 qcl n Unit qba 0 c22_3.1 c22_3.2.1 ()=some (c22_3.2.2,[],()):=qbq (n:=400) qc1 qbm (by kernel_rfl)
def c22_6:FuncId×List PV×PV:=(22,[.sl 3 [.agg [.int .i64 (1),.str [50],.nilS]] false],.bool true)
theorem e22_6:∃ n,qbi sp0 qcl n Unit qba 0 c22_6.1 c22_6.2.1 ()=some (c22_6.2.2,[],()):=qbq (n:=400) qc1 qbm (by kernel_rfl)
def c22_9:FuncId×List PV×PV:=(22,[.sl 3 [.agg [.int .i64 (9),.str [43],.sl 1 [] true],.agg [.int .i64 (8),.str [102],.sl 1 [.int .i64 (0)] false]] false],.bool true)
theorem e22_9:∃ n,qbi sp0 qcl n Unit qba 0 c22_9.1 c22_9.2.1 ()=some (c22_9.2.2,[],()):=qbq (n:=400) qc1 qbm (by kernel_rfl)
def Qnw:FuncId×List PV×PV:=(133,[.int .i64 (8),.str [102],.sl 1 [.sl 3 [.agg [.int .i64 (9),.str [43],.nilS]] false] false],.tup [.sl 3 [.agg [.int .i64 (9),.str [43],.sl 1 [] false],.agg [.int .i64 (8),.str [102],.sl 1 [.int .i64 (0)] false]] false,.int .i64 (0)])
theorem e133_1:∃ n,qbi sp0 qcl n Unit qba 0 Qnw.1 Qnw.2.1 ()=some (Qnw.2.2,[],()):=qbq (n:=400) qc1 qbm (by kernel_rfl)
def Qnt:FuncId×List PV×PV:=(133,[.int .i64 (6),.str [],.sl 1 [.sl 3 [.agg [.int .i64 (14),.str [102],.nilS]] false,.sl 3 [.agg [.int .i64 (1),.str [49],.nilS]] false] false],.tup [.sl 3 [.agg [.int .i64 (14),.str [102],.sl 1 [] false],.agg [.int .i64 (1),.str [49],.sl 1 [] false],.agg [.int .i64 (6),.str [],.sl 1 [.int .i64 (0),.int .i64 (1)] false]] false,.int .i64 (0)])
theorem e133_4:∃ n,qbi sp0 qcl n Unit qba 0 Qnt.1 Qnt.2.1 ()=some (Qnt.2.2,[],()):=qbq (n:=400) qc1 qbm (by kernel_rfl)
def Qnq:FuncId×List PV×PV:=(133,[.int .i64 (3),.str [102],.nilS],.tup [.sl 3 [.agg [.int .i64 (3),.str [102],.nilS]] false,.int .i64 (0)])
theorem e133_7:∃ n,qbi sp0 qcl n Unit qba 0 Qnq.1 Qnq.2.1 ()=some (Qnq.2.2,[],()):=qbq (n:=400) qc1 qbm (by kernel_rfl)
def Qn1:FuncId×List PV×PV:=(124,[.sl 3 [.agg [.int .i64 (5),.str [102],.str []]] true],.tup [.sl 1 [.int .i64 (-1)] false,.int .i64 (0)])
theorem e124_2:∃ n,qbi sp0 qcl n Unit qba 0 Qn1.1 Qn1.2.1 ()=some (Qn1.2.2,[],()):=qbq (n:=400) qc1 qbm (by kernel_rfl)
def Qny:FuncId×List PV×PV:=(124,[.sl 3 [.agg [.int .i64 (5),.str [97],.str []]] true],.tup [.sl 1 [.int .i64 (-1)] false,.int .i64 (0)])
theorem e124_5:∃ n,qbi sp0 qcl n Unit qba 0 Qny.1 Qny.2.1 ()=some (Qny.2.2,[],()):=qbq (n:=400) qc1 qbm (by kernel_rfl)
end Go.Ab.DocNone

