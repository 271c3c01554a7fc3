/- Part 17 of a proof: laws of a machine. -/
import Derived.Test.YtekfceoganklgaaGreatDoorK13
import Derived.KernelRfl
set_option linter.all false

namespace Go.Ab.mm
open Go Go.Ab
def zeg:Ap:=(244,[.str zk151],.mn [.str [125],.int .i64 1])
theorem e244_3:Aq zeg:=At (n:=400) BG Ay (by kernel_rfl)
def zeh:Ap:=(244,[.str [226,141,179,51]],.mn [.str CT,.int .i64 3])
theorem e244_9:Aq zeh:=At (n:=400) BG Ay (by kernel_rfl)
def bY:Ap:=(244,[.str [47,49,32,50,32,51]],.mn [.str [47],.int .i64 1])
theorem e244_15:Aq bY:=At (n:=400) BG Ay (by kernel_rfl)
def bR:Ap:=(244,[.str [51]],.mn IU)
theorem e244_21:Aq bR:=At (n:=400) BG Ay (by kernel_rfl)
def zei:Ap:=(248,[.str [195,151]],.int .i64 1)
theorem e248_3:Aq zei:=At (n:=400) BG Ay (by kernel_rfl)
def zej:Ap:=(248,[.str [47]],.int .i64 2)
theorem e248_9:Aq zej:=At (n:=400) BG Ay (by kernel_rfl)
end Go.Ab.mm

