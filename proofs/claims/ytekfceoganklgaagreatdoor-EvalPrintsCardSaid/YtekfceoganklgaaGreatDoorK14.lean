/- Part 14 of a proof: laws of a machine. -/
import Derived.Test.YtekfceoganklgaaGreatDoorK13
import Derived.KernelRfl
set_option linter.all false

namespace Go.Ab.mm
open Go Go.Ab
def zd4:Ap:=(244,[.str [102,194,168,226,141,179,51]],.mn IU)
theorem e244_0:Aq zd4:=At (n:=400) BG Ay (by kernel_rfl)
def zd5:Ap:=(244,[.str zk89],.mn [.str FQ,.int .i64 3])
theorem e244_6:Aq zd5:=At (n:=400) BG Ay (by kernel_rfl)
def b8:Ap:=(244,[.str [32,50,32,51]],.mn IU)
theorem e244_12:Aq b8:=At (n:=400) BG Ay (by kernel_rfl)
def bU:Ap:=(244,[.str Mq],.mn IU)
theorem e244_18:Aq bU:=At (n:=400) BG Ay (by kernel_rfl)
def zd6:Ap:=(248,[.str [123]],.int .i64 3)
theorem e248_0:Aq zd6:=At (n:=400) BG Ay (by kernel_rfl)
def zd7:Ap:=(248,[.str CT],.int .i64 1)
theorem e248_6:Aq zd7:=At (n:=400) BG Ay (by kernel_rfl)
def bM:Ap:=(248,[.str []],.int .i64 0)
theorem e248_12:Aq bM:=At (n:=400) BG Ay (by kernel_rfl)
end Go.Ab.mm

