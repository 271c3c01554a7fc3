/- Part 16 of a proof: laws of a machine. -/
import Derived.Test.YtekfceoganklgaaGreatDoorK13
import Derived.KernelRfl
set_option linter.all false

namespace Go.Ab.mm
open Go Go.Ab
def zec:Ap:=(244,[.str zk98],.mn [.str [123],.int .i64 1])
theorem e244_2:Aq zec:=At (n:=400) BG Ay (by kernel_rfl)
def zed:Ap:=(244,[.str zk122],.mn [.str FY,.int .i64 3])
theorem e244_8:Aq zed:=At (n:=400) BG Ay (by kernel_rfl)
def bZ:Ap:=(244,[.str P8],.mn [.str [43],.int .i64 1])
theorem e244_14:Aq bZ:=At (n:=400) BG Ay (by kernel_rfl)
def bS:Ap:=(244,[.str [50,32,51]],.mn IU)
theorem e244_20:Aq bS:=At (n:=400) BG Ay (by kernel_rfl)
def zee:Ap:=(248,[.str [194,168]],.int .i64 2)
theorem e248_2:Aq zee:=At (n:=400) BG Ay (by kernel_rfl)
def zef:Ap:=(248,[.str [43]],.int .i64 1)
theorem e248_8:Aq zef:=At (n:=400) BG Ay (by kernel_rfl)
end Go.Ab.mm

