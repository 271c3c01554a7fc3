/-
  Part 14 of a proof: a machine of our own for the given program, its laws, and what it says of the program. Nothing here is a claim by itself.
-/
import Derived.Test.YtddfndlppfhcaaaGreatDoorK13
import Derived.KernelRfl
set_option linter.all false

namespace Go.Ab.DocNone
open Go Go.Ab
def c45_0:FuncId×List PV×PV:=(45,[.str [102,226,134,144,43,226,139,132,102,32,49]],.sl 3 [.agg [.int .i64 (5),.str [102],.str []],.agg [.int .i64 (8),.str [226,134,144],.str [226,134,144]],.agg [.int .i64 (6),.str [43],.str [43]],.agg [.int .i64 (8),.str [226,139,132],.str [226,139,132]],.agg [.int .i64 (5),.str [102],.str []],.agg [.int .i64 (1),.str [32],.str []],.agg [.int .i64 (3),.str [49],.str [49]]] false)
theorem e45_0:∃ n,qbi sp0 qcl n Unit qba 0 c45_0.1 c45_0.2.1 ()=some (c45_0.2.2,[],()):=qbq (n:=400) qc1 qbm (by kernel_rfl)
def c45_3:FuncId×List PV×PV:=(45,[.str [102,226,134,144,50,226,139,132,102,32,49]],.sl 3 [.agg [.int .i64 (5),.str [102],.str []],.agg [.int .i64 (8),.str [226,134,144],.str [226,134,144]],.agg [.int .i64 (3),.str [50],.str [50]],.agg [.int .i64 (8),.str [226,139,132],.str [226,139,132]],.agg [.int .i64 (5),.str [102],.str []],.agg [.int .i64 (1),.str [32],.str []],.agg [.int .i64 (3),.str [49],.str [49]]] false)
theorem e45_3:∃ n,qbi sp0 qcl n Unit qba 0 c45_3.1 c45_3.2.1 ()=some (c45_3.2.2,[],()):=qbq (n:=400) qc1 qbm (by kernel_rfl)
def c73_0:FuncId×List PV×PV:=(73,[.sl 3 [.agg [.int .i64 (5),.str [102],.str []],.agg [.int .i64 (8),.str [226,134,144],.str [226,134,144]],.agg [.int .i64 (6),.str [43],.str [43]],.agg [.int .i64 (8),.str [226,139,132],.str [226,139,132]],.agg [.int .i64 (5),.str [102],.str []],.agg [.int .i64 (1),.str [32],.str []],.agg [.int .i64 (3),.str [49],.str [49]]] false],.sl 3 [.agg [.int .i64 (5),.str [102],.str []],.agg [.int .i64 (8),.str [226,134,144],.str [226,134,144]],.agg [.int .i64 (6),.str [43],.str [43]],.agg [.int .i64 (8),.str [226,139,132],.str [226,139,132]],.agg [.int .i64 (5),.str [102],.str []],.agg [.int .i64 (3),.str [49],.str [49]]] false)
theorem e73_0:∃ n,qbi sp0 qcl n Unit qba 0 c73_0.1 c73_0.2.1 ()=some (c73_0.2.2,[],()):=qbq (n:=400) qc1 qbm (by kernel_rfl)
def c73_3:FuncId×List PV×PV:=(73,[.sl 3 [.agg [.int .i64 (5),.str [102],.str []],.agg [.int .i64 (8),.str [226,134,144],.str [226,134,144]],.agg [.int .i64 (3),.str [50],.str [50]],.agg [.int .i64 (8),.str [226,139,132],.str [226,139,132]],.agg [.int .i64 (5),.str [102],.str []],.agg [.int .i64 (1),.str [32],.str []],.agg [.int .i64 (3),.str [49],.str [49]]] false],.sl 3 [.agg [.int .i64 (5),.str [102],.str []],.agg [.int .i64 (8),.str [226,134,144],.str [226,134,144]],.agg [.int .i64 (3),.str [50],.str [50]],.agg [.int .i64 (8),.str [226,139,132],.str [226,139,132]],.agg [.int .i64 (5),.str [102],.str []],.agg [.int .i64 (3),.str [49],.str [49]]] false)
theorem e73_3:∃ n,qbi sp0 qcl n Unit qba 0 c73_3.1 c73_3.2.1 ()=some (c73_3.2.2,[],()):=qbq (n:=400) qc1 qbm (by kernel_rfl)
def c22_2:FuncId×List PV×PV:=(22,[.sl 3 [.agg [.int .i64 (1),.str [49],.nilS]] false],.bool true)
theorem e22_2:∃ n,qbi sp0 qcl n Unit qba 0 c22_2.1 c22_2.2.1 ()=some (c22_2.2.2,[],()):=qbq (n:=400) qc1 qbm (by kernel_rfl)
def c22_5:FuncId×List PV×PV:=(22,[.nilS],.bool false)
theorem e22_5:∃ n,qbi sp0 qcl n Unit qba 0 c22_5.1 c22_5.2.1 ()=some (c22_5.2.2,[],()):=qbq (n:=400) qc1 qbm (by kernel_rfl)
def c22_8:FuncId×List PV×PV:=(22,[.sl 3 [.agg [.int .i64 (3),.str [102],.nilS]] false],.bool true)
theorem e22_8:∃ n,qbi sp0 qcl n Unit qba 0 c22_8.1 c22_8.2.1 ()=some (c22_8.2.2,[],()):=qbq (n:=400) qc1 qbm (by kernel_rfl)
def Qnx:FuncId×List PV×PV:=(133,[.int .i64 (9),.str [43],.nilS],.tup [.sl 3 [.agg [.int .i64 (9),.str [43],.nilS]] false,.int .i64 (0)])
theorem e133_0:∃ n,qbi sp0 qcl n Unit qba 0 Qnx.1 Qnx.2.1 ()=some (Qnx.2.2,[],()):=qbq (n:=400) qc1 qbm (by kernel_rfl)
def Qnu:FuncId×List PV×PV:=(133,[.int .i64 (14),.str [102],.nilS],.tup [.sl 3 [.agg [.int .i64 (14),.str [102],.nilS]] false,.int .i64 (0)])
theorem e133_3:∃ n,qbi sp0 qcl n Unit qba 0 Qnu.1 Qnu.2.1 ()=some (Qnu.2.2,[],()):=qbq (n:=400) qc1 qbm (by kernel_rfl)
def Qnr:FuncId×List PV×PV:=(133,[.int .i64 (8),.str [102],.sl 1 [.sl 3 [.agg [.int .i64 (1),.str [50],.nilS]] false] false],.tup [.sl 3 [.agg [.int .i64 (1),.str [50],.sl 1 [] false],.agg [.int .i64 (8),.str [102],.sl 1 [.int .i64 (0)] false]] false,.int .i64 (0)])
theorem e133_6:∃ n,qbi sp0 qcl n Unit qba 0 Qnr.1 Qnr.2.1 ()=some (Qnr.2.2,[],()):=qbq (n:=400) qc1 qbm (by kernel_rfl)
def Qn2:FuncId×List PV×PV:=(124,[.sl 3 [.agg [.int .i64 (5),.str [102],.str []],.agg [.int .i64 (3),.str [49],.str [49]]] false],.tup [.sl 1 [.int .i64 (-1),.int .i64 (-1)] false,.int .i64 (0)])
theorem e124_1:∃ n,qbi sp0 qcl n Unit qba 0 Qn2.1 Qn2.2.1 ()=some (Qn2.2.2,[],()):=qbq (n:=400) qc1 qbm (by kernel_rfl)
def Qnz:FuncId×List PV×PV:=(124,[.sl 3 [.agg [.int .i64 (5),.str [102],.str []],.agg [.int .i64 (8),.str [226,134,144],.str [226,134,144]],.agg [.int .i64 (3),.str [50],.str [50]]] false],.tup [.sl 1 [.int .i64 (-1),.int .i64 (-1),.int .i64 (-1)] false,.int .i64 (0)])
theorem e124_4:∃ n,qbi sp0 qcl n Unit qba 0 Qnz.1 Qnz.2.1 ()=some (Qnz.2.2,[],()):=qbq (n:=400) qc1 qbm (by kernel_rfl)
end Go.Ab.DocNone

