/-
  Part 13 of a proof: a machine of our own for the given program, its laws, and what it says of the program. Nothing here is a claim by itself.
-/
import Derived.Test.YtddfndlppfhcaaaGreatDoorK12
import Derived.KernelRfl
set_option linter.all false

namespace Go.Ab.DocNone
open Go Go.Ab
def c88_0:FuncId×List PV×PV:=(88,[.str [102,226,134,144,43,226,139,132,102,32,49]],.tup [.agg [.int .i64 (5),.str [102],.str []],.bool true])
theorem e88_0:∃ n,qbi sp0 qcl n Unit qba 0 c88_0.1 c88_0.2.1 ()=some (c88_0.2.2,[],()):=qbq (n:=400) qjg qbm (by kernel_rfl)
def c88_1:FuncId×List PV×PV:=(88,[.str [226,134,144,43,226,139,132,102,32,49]],.tup [.agg [.int .i64 (8),.str [226,134,144],.str [226,134,144]],.bool true])
theorem e88_1:∃ n,qbi sp0 qcl n Unit qba 0 c88_1.1 c88_1.2.1 ()=some (c88_1.2.2,[],()):=qbq (n:=400) qjg qbm (by kernel_rfl)
def c88_2:FuncId×List PV×PV:=(88,[.str [43,226,139,132,102,32,49]],.tup [.agg [.int .i64 (6),.str [43],.str [43]],.bool true])
theorem e88_2:∃ n,qbi sp0 qcl n Unit qba 0 c88_2.1 c88_2.2.1 ()=some (c88_2.2.2,[],()):=qbq (n:=400) qjg qbm (by kernel_rfl)
def c88_3:FuncId×List PV×PV:=(88,[.str [226,139,132,102,32,49]],.tup [.agg [.int .i64 (8),.str [226,139,132],.str [226,139,132]],.bool true])
theorem e88_3:∃ n,qbi sp0 qcl n Unit qba 0 c88_3.1 c88_3.2.1 ()=some (c88_3.2.2,[],()):=qbq (n:=400) qjg qbm (by kernel_rfl)
def c88_4:FuncId×List PV×PV:=(88,[.str [102,32,49]],.tup [.agg [.int .i64 (5),.str [102],.str []],.bool true])
theorem e88_4:∃ n,qbi sp0 qcl n Unit qba 0 c88_4.1 c88_4.2.1 ()=some (c88_4.2.2,[],()):=qbq (n:=400) qjg qbm (by kernel_rfl)
def c88_5:FuncId×List PV×PV:=(88,[.str [32,49]],.tup [.agg [.int .i64 (1),.str [32],.str []],.bool true])
theorem e88_5:∃ n,qbi sp0 qcl n Unit qba 0 c88_5.1 c88_5.2.1 ()=some (c88_5.2.2,[],()):=qbq (n:=400) qjg qbm (by kernel_rfl)
def c88_6:FuncId×List PV×PV:=(88,[.str [49]],.tup [.agg [.int .i64 (3),.str [49],.str [49]],.bool true])
theorem e88_6:∃ n,qbi sp0 qcl n Unit qba 0 c88_6.1 c88_6.2.1 ()=some (c88_6.2.2,[],()):=qbq (n:=400) qjg qbm (by kernel_rfl)
def c88_7:FuncId×List PV×PV:=(88,[.str []],.tup [.agg [.int .i64 (0),.str [],.str []],.bool false])
theorem e88_7:∃ n,qbi sp0 qcl n Unit qba 0 c88_7.1 c88_7.2.1 ()=some (c88_7.2.2,[],()):=qbq (n:=400) qjg qbm (by kernel_rfl)
def c88_8:FuncId×List PV×PV:=(88,[.str [97,32,102]],.tup [.agg [.int .i64 (5),.str [97],.str []],.bool true])
theorem e88_8:∃ n,qbi sp0 qcl n Unit qba 0 c88_8.1 c88_8.2.1 ()=some (c88_8.2.2,[],()):=qbq (n:=400) qjg qbm (by kernel_rfl)
def c88_9:FuncId×List PV×PV:=(88,[.str [32,102]],.tup [.agg [.int .i64 (1),.str [32],.str []],.bool true])
theorem e88_9:∃ n,qbi sp0 qcl n Unit qba 0 c88_9.1 c88_9.2.1 ()=some (c88_9.2.2,[],()):=qbq (n:=400) qjg qbm (by kernel_rfl)
def Qmz:FuncId×List PV×PV:=(88,[.str [102]],.tup [.agg [.int .i64 (5),.str [102],.str []],.bool true])
theorem e88_10:∃ n,qbi sp0 qcl n Unit qba 0 Qmz.1 Qmz.2.1 ()=some (Qmz.2.2,[],()):=qbq (n:=400) qjg qbm (by kernel_rfl)
def Qmy:FuncId×List PV×PV:=(88,[.str [41]],.tup [.agg [.int .i64 (8),.str [41],.str [41]],.bool true])
theorem e88_11:∃ n,qbi sp0 qcl n Unit qba 0 Qmy.1 Qmy.2.1 ()=some (Qmy.2.2,[],()):=qbq (n:=400) qjg qbm (by kernel_rfl)
def Qmx:FuncId×List PV×PV:=(88,[.str [102,226,134,144,50,226,139,132,102,32,49]],.tup [.agg [.int .i64 (5),.str [102],.str []],.bool true])
theorem e88_12:∃ n,qbi sp0 qcl n Unit qba 0 Qmx.1 Qmx.2.1 ()=some (Qmx.2.2,[],()):=qbq (n:=400) qjg qbm (by kernel_rfl)
def Qmw:FuncId×List PV×PV:=(88,[.str [226,134,144,50,226,139,132,102,32,49]],.tup [.agg [.int .i64 (8),.str [226,134,144],.str [226,134,144]],.bool true])
theorem e88_13:∃ n,qbi sp0 qcl n Unit qba 0 Qmw.1 Qmw.2.1 ()=some (Qmw.2.2,[],()):=qbq (n:=400) qjg qbm (by kernel_rfl)
def Qmv:FuncId×List PV×PV:=(88,[.str [50,226,139,132,102,32,49]],.tup [.agg [.int .i64 (3),.str [50],.str [50]],.bool true])
theorem e88_14:∃ n,qbi sp0 qcl n Unit qba 0 Qmv.1 Qmv.2.1 ()=some (Qmv.2.2,[],()):=qbq (n:=400) qjg qbm (by kernel_rfl)
def kni:qt9 :=
 c88_0 :: c88_1 :: c88_2 :: c88_3 :: c88_4 :: c88_5 :: c88_6 :: c88_7 :: c88_8 :: c88_9 :: Qmz :: Qmy :: Qmx :: Qmw :: Qmv :: knh
theorem qc1:ql3 sp0 qcl kni:=qbb e88_0<|qbb e88_1<|qbb e88_2<|qbb e88_3<|qbb e88_4<|qbb e88_5<|qbb e88_6<|qbb e88_7<|qbb e88_8<|qbb e88_9<|qbb e88_10<|qbb e88_11<|qbb e88_12<|qbb e88_13<|qbb e88_14<|qjg
end Go.Ab.DocNone

