/- Part 23 of a proof: laws of a machine. -/
import Derived.Test.YtekfceoganklgaaGreatDoorK20
import Derived.KernelRfl
set_option linter.all false

namespace Go.Ab.mm
open Go Go.Ab
def zey:Ap:=(162,[.str zk98],.mn [.agg [.int .i64 8,.str [123],.str [123]],.bool true])
theorem e162_2:Aq zey:=At (n:=400) Bg Ay (by kernel_rfl)
def zez:Ap:=(162,[.str zk122],.mn [.agg N6,.bool true])
theorem e162_8:Aq zez:=At (n:=400) Bg Ay (by kernel_rfl)
def co:Ap:=(162,[.str P8],.mn [.agg [.int .i64 6,.str [43],.str [43]],.bool true])
theorem e162_14:Aq co:=At (n:=400) Bg Ay (by kernel_rfl)
def ch:Ap:=(162,[.str [50,32,51]],.mn [.agg KY,.bool true])
theorem e162_20:Aq ch:=At (n:=400) Bg Ay (by kernel_rfl)
def c73_1:Ap:=(73,[.sl 3 zk83 false],.bool true)
theorem e73_1:Aq c73_1:=At (n:=400) Bg Ay (by kernel_rfl)
def c73_7:Ap:=(73,[.sl 3 [.agg [.int .i64 14,.str [102],.sl 1 [] true],.agg yd,.agg [.int .i64 9,.str CT,.sl 1 [] true],.agg [.int .i64 1,.str [51],.sl 1 [] true],.agg [.int .i64 6,.str [],.sl 1 [.int .i64 2,.int .i64 3] false],.agg [.int .i64 6,.str [],.sl 1 [.int .i64 1,.int .i64 4] false]] false],.bool true)
theorem e73_7:Aq c73_7:=At (n:=400) Bg Ay (by kernel_rfl)
def zeA:Ap:=(73,[.sl 3 zk4 false],.bool true)
theorem e73_13:Aq zeA:=At (n:=400) Bg Ay (by kernel_rfl)
def zeB:Ap:=(73,[.sl 3 zk86 false],.bool true)
theorem e73_19:Aq zeB:=At (n:=400) Bg Ay (by kernel_rfl)
def zeC:Ap:=(73,[.sl 3 zk15 false],.bool true)
theorem e73_25:Aq zeC:=At (n:=400) Bg Ay (by kernel_rfl)
end Go.Ab.mm

