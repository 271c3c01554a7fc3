/- Part 18 of a proof: laws of a machine. -/
import Derived.Test.YtekfceoganklgaaGreatDoorK13
import Derived.KernelRfl
set_option linter.all false

namespace Go.Ab.mm
open Go Go.Ab
def zek:Ap:=(244,[.str [194,168,226,141,179,51]],.mn [.str [194,168],.int .i64 2])
theorem e244_4:Aq zek:=At (n:=400) BG Ay (by kernel_rfl)
def cc:Ap:=(244,[.str zk132],.mn [.str Dc,.int .i64 3])
theorem e244_10:Aq cc:=At (n:=400) BG Ay (by kernel_rfl)
def bX:Ap:=(244,[.str zk117],.mn IU)
theorem e244_16:Aq bX:=At (n:=400) BG Ay (by kernel_rfl)
def bQ:Ap:=(244,[.str zk115],.mn [.str [58],.int .i64 1])
theorem e244_22:Aq bQ:=At (n:=400) BG Ay (by kernel_rfl)
def zel:Ap:=(248,[.str FQ],.int .i64 3)
theorem e248_4:Aq zel:=At (n:=400) BG Ay (by kernel_rfl)
def bO:Ap:=(248,[.str [58]],.int .i64 3)
theorem e248_10:Aq bO:=At (n:=400) BG Ay (by kernel_rfl)
end Go.Ab.mm

