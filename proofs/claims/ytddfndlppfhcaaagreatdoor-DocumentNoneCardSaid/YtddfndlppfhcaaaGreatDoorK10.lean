/-
  Part 10 of a proof: a machine of our own for the given program, its laws, and what it says of the program. Nothing here is a claim by itself.
-/
import Derived.Test.YtddfndlppfhcaaaGreatDoorK08
import Derived.KernelRfl
import Derived.Test.YtddfndlppfhcaaaGreatDoorK09
set_option linter.all false

namespace Go.Ab.DocNone
open Go Go.Ab
def Qno:FuncId×List PV×PV:=(140,[.str [226,134,144,43,226,139,132,102,32,49]],.tup [.str [226,134,144],.int .i64 (3)])
theorem e140_1:∃ n,qbi sp0 qcl n Unit qba 0 Qno.1 Qno.2.1 ()=some (Qno.2.2,[],()):=qbq (n:=400) qf8 qbm (by kernel_rfl)
def Qnl:FuncId×List PV×PV:=(140,[.str [102,32,49]],.tup [.str [],.int .i64 (0)])
theorem e140_4:∃ n,qbi sp0 qcl n Unit qba 0 Qnl.1 Qnl.2.1 ()=some (Qnl.2.2,[],()):=qbq (n:=400) qf8 qbm (by kernel_rfl)
def Qni:FuncId×List PV×PV:=(140,[.str [97,32,102]],.tup [.str [],.int .i64 (0)])
theorem e140_7:∃ n,qbi sp0 qcl n Unit qba 0 Qni.1 Qni.2.1 ()=some (Qni.2.2,[],()):=qbq (n:=400) qf8 qbm (by kernel_rfl)
def Qdi:FuncId×List PV×PV:=(140,[.str [41]],.tup [.str [41],.int .i64 (1)])
theorem e140_10:∃ n,qbi sp0 qcl n Unit qba 0 Qdi.1 Qdi.2.1 ()=some (Qdi.2.2,[],()):=qbq (n:=400) qf8 qbm (by kernel_rfl)
def Qdf:FuncId×List PV×PV:=(140,[.str [50,226,139,132,102,32,49]],.tup [.str [],.int .i64 (0)])
theorem e140_13:∃ n,qbi sp0 qcl n Unit qba 0 Qdf.1 Qdf.2.1 ()=some (Qdf.2.2,[],()):=qbq (n:=400) qf8 qbm (by kernel_rfl)
def Qnd:FuncId×List PV×PV:=(144,[.str [43]],.int .i64 (1))
theorem e144_2:∃ n,qbi sp0 qcl n Unit qba 0 Qnd.1 Qnd.2.1 ()=some (Qnd.2.2,[],()):=qbq (n:=400) qf8 qbm (by kernel_rfl)
end Go.Ab.DocNone

