/- Part 24 of a proof: laws of a machine. -/
import Derived.Test.YtekfceoganklgaaGreatDoorK20
import Derived.KernelRfl
set_option linter.all false

namespace Go.Ab.mm
open Go Go.Ab
def zeD:Ap:=(162,[.str zk151],.mn [.agg [.int .i64 8,.str [125],.str [125]],.bool true])
theorem e162_3:Aq zeD:=At (n:=400) Bg Ay (by kernel_rfl)
def zeE:Ap:=(162,[.str [226,141,179,51]],.mn [.agg [.int .i64 6,.str CT,.str CT],.bool true])
theorem e162_9:Aq zeE:=At (n:=400) Bg Ay (by kernel_rfl)
def cn:Ap:=(162,[.str [47,49,32,50,32,51]],.mn [.agg [.int .i64 7,.str [47],.str [47]],.bool true])
theorem e162_15:Aq cn:=At (n:=400) Bg Ay (by kernel_rfl)
def cg:Ap:=(162,[.str [51]],.mn [.agg [.int .i64 3,.str [51],.str [51]],.bool true])
theorem e162_21:Aq cg:=At (n:=400) Bg Ay (by kernel_rfl)
def c73_2:Ap:=(73,[.sl 3 zk93 false],.bool true)
theorem e73_2:Aq c73_2:=At (n:=400) Bg Ay (by kernel_rfl)
def c73_8:Ap:=(73,[.sl 3 zdE false],.bool true)
theorem e73_8:Aq c73_8:=At (n:=400) Bg Ay (by kernel_rfl)
def zeF:Ap:=(73,[.sl 3 zk0 false],.bool true)
theorem e73_14:Aq zeF:=At (n:=400) Bg Ay (by kernel_rfl)
def zeG:Ap:=(73,[.sl 3 zk94 false],.bool true)
theorem e73_20:Aq zeG:=At (n:=400) Bg Ay (by kernel_rfl)
def zeH:Ap:=(73,[.sl 3 zk95 false],.bool true)
theorem e73_26:Aq zeH:=At (n:=400) Bg Ay (by kernel_rfl)
end Go.Ab.mm

