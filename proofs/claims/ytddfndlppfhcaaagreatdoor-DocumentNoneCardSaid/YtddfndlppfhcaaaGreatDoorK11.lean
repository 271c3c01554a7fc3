/-
  Part 11 of a proof: a machine of our own for the given program, its laws, and what it says of the program. Nothing here is a claim by itself.
-/
import Derived.Test.YtddfndlppfhcaaaGreatDoorK08
import Derived.KernelRfl
import Derived.Test.YtddfndlppfhcaaaGreatDoorK10
set_option linter.all false

namespace Go.Ab.DocNone
open Go Go.Ab
def Qnn:FuncId×List PV×PV:=(140,[.str [43,226,139,132,102,32,49]],.tup [.str [43],.int .i64 (1)])
theorem e140_2:∃ n,qbi sp0 qcl n Unit qba 0 Qnn.1 Qnn.2.1 ()=some (Qnn.2.2,[],()):=qbq (n:=400) qf8 qbm (by kernel_rfl)
def Qnk:FuncId×List PV×PV:=(140,[.str [32,49]],.tup [.str [],.int .i64 (0)])
theorem e140_5:∃ n,qbi sp0 qcl n Unit qba 0 Qnk.1 Qnk.2.1 ()=some (Qnk.2.2,[],()):=qbq (n:=400) qf8 qbm (by kernel_rfl)
def Qnh:FuncId×List PV×PV:=(140,[.str [32,102]],.tup [.str [],.int .i64 (0)])
theorem e140_8:∃ n,qbi sp0 qcl n Unit qba 0 Qnh.1 Qnh.2.1 ()=some (Qnh.2.2,[],()):=qbq (n:=400) qf8 qbm (by kernel_rfl)
def Qdh:FuncId×List PV×PV:=(140,[.str [102,226,134,144,50,226,139,132,102,32,49]],.tup [.str [],.int .i64 (0)])
theorem e140_11:∃ n,qbi sp0 qcl n Unit qba 0 Qdh.1 Qdh.2.1 ()=some (Qdh.2.2,[],()):=qbq (n:=400) qf8 qbm (by kernel_rfl)
def Qnf:FuncId×List PV×PV:=(144,[.str []],.int .i64 (0))
theorem e144_0:∃ n,qbi sp0 qcl n Unit qba 0 Qnf.1 Qnf.2.1 ()=some (Qnf.2.2,[],()):=qbq (n:=400) qf8 qbm (by kernel_rfl)
def Qnc:FuncId×List PV×PV:=(144,[.str [226,139,132]],.int .i64 (3))
theorem e144_3:∃ n,qbi sp0 qcl n Unit qba 0 Qnc.1 Qnc.2.1 ()=some (Qnc.2.2,[],()):=qbq (n:=400) qf8 qbm (by kernel_rfl)
end Go.Ab.DocNone

