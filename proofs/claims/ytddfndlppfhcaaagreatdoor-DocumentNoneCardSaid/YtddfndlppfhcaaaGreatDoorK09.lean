/-
  Part 9 of a proof: a machine of our own for the given program, its laws, and what it says of the program. Nothing here is a claim by itself.
-/
import Derived.Test.YtddfndlppfhcaaaGreatDoorK08
import Derived.KernelRfl
set_option linter.all false

namespace Go.Ab.DocNone
open Go Go.Ab
def Qnp:FuncId×List PV×PV:=(140,[.str [102,226,134,144,43,226,139,132,102,32,49]],.tup [.str [],.int .i64 (0)])
theorem e140_0:∃ n,qbi sp0 qcl n Unit qba 0 Qnp.1 Qnp.2.1 ()=some (Qnp.2.2,[],()):=qbq (n:=400) qf8 qbm (by kernel_rfl)
def Qnm:FuncId×List PV×PV:=(140,[.str [226,139,132,102,32,49]],.tup [.str [226,139,132],.int .i64 (3)])
theorem e140_3:∃ n,qbi sp0 qcl n Unit qba 0 Qnm.1 Qnm.2.1 ()=some (Qnm.2.2,[],()):=qbq (n:=400) qf8 qbm (by kernel_rfl)
def Qnj:FuncId×List PV×PV:=(140,[.str [49]],.tup [.str [],.int .i64 (0)])
theorem e140_6:∃ n,qbi sp0 qcl n Unit qba 0 Qnj.1 Qnj.2.1 ()=some (Qnj.2.2,[],()):=qbq (n:=400) qf8 qbm (by kernel_rfl)
def Qng:FuncId×List PV×PV:=(140,[.str [102]],.tup [.str [],.int .i64 (0)])
theorem e140_9:∃ n,qbi sp0 qcl n Unit qba 0 Qng.1 Qng.2.1 ()=some (Qng.2.2,[],()):=qbq (n:=400) qf8 qbm (by kernel_rfl)
def Qdg:FuncId×List PV×PV:=(140,[.str [226,134,144,50,226,139,132,102,32,49]],.tup [.str [226,134,144],.int .i64 (3)])
theorem e140_12:∃ n,qbi sp0 qcl n Unit qba 0 Qdg.1 Qdg.2.1 ()=some (Qdg.2.2,[],()):=qbq (n:=400) qf8 qbm (by kernel_rfl)
def Qne:FuncId×List PV×PV:=(144,[.str [226,134,144]],.int .i64 (3))
theorem e144_1:∃ n,qbi sp0 qcl n Unit qba 0 Qne.1 Qne.2.1 ()=some (Qne.2.2,[],()):=qbq (n:=400) qf8 qbm (by kernel_rfl)
def Qnb:FuncId×List PV×PV:=(144,[.str [41]],.int .i64 (3))
theorem e144_4:∃ n,qbi sp0 qcl n Unit qba 0 Qnb.1 Qnb.2.1 ()=some (Qnb.2.2,[],()):=qbq (n:=400) qf8 qbm (by kernel_rfl)
end Go.Ab.DocNone

