/- Part 19 of a proof: laws of a machine. -/
import Derived.Test.YtekfceoganklgaaGreatDoorK13
import Derived.KernelRfl
set_option linter.all false

namespace Go.Ab.mm
open Go Go.Ab
def zem:Ap:=(244,[.str zk139],.mn [.str [195,151],.int .i64 2])
theorem e244_5:Aq zem:=At (n:=400) BG Ay (by kernel_rfl)
def b9:Ap:=(244,[.str zk99],.mn [.str Dc,.int .i64 3])
theorem e244_11:Aq b9:=At (n:=400) BG Ay (by kernel_rfl)
def bW:Ap:=(244,[.str zk113],.mn IU)
theorem e244_17:Aq bW:=At (n:=400) BG Ay (by kernel_rfl)
def bP:Ap:=(244,[.str zk107],.mn [.str [61],.int .i64 1])
theorem e244_23:Aq bP:=At (n:=400) BG Ay (by kernel_rfl)
def zen:Ap:=(248,[.str FY],.int .i64 3)
theorem e248_5:Aq zen:=At (n:=400) BG Ay (by kernel_rfl)
def bN:Ap:=(248,[.str [61]],.int .i64 1)
theorem e248_11:Aq bN:=At (n:=400) BG Ay (by kernel_rfl)
end Go.Ab.mm

