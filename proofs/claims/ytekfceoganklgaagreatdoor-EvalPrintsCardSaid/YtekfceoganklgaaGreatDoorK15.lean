/- Part 15 of a proof: laws of a machine. -/
import Derived.Test.YtekfceoganklgaaGreatDoorK13
import Derived.KernelRfl
set_option linter.all false

namespace Go.Ab.mm
open Go Go.Ab
def zd8:Ap:=(244,[.str zk47],.mn IU)
theorem e244_1:Aq zd8:=At (n:=400) BG Ay (by kernel_rfl)
def zd9:Ap:=(244,[.str zk154],.mn [.str FY,.int .i64 3])
theorem e244_7:Aq zd9:=At (n:=400) BG Ay (by kernel_rfl)
def b7:Ap:=(244,[.str [32,51]],.mn IU)
theorem e244_13:Aq b7:=At (n:=400) BG Ay (by kernel_rfl)
def bT:Ap:=(244,[.str zk146],.mn IU)
theorem e244_19:Aq bT:=At (n:=400) BG Ay (by kernel_rfl)
def zea:Ap:=(248,[.str [125]],.int .i64 3)
theorem e248_1:Aq zea:=At (n:=400) BG Ay (by kernel_rfl)
def zeb:Ap:=(248,[.str Dc],.int .i64 4)
theorem e248_7:Aq zeb:=At (n:=400) BG Ay (by kernel_rfl)
end Go.Ab.mm

