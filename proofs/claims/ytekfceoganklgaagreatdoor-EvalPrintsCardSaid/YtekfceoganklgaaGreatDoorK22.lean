/- Part 22 of a proof: laws of a machine. -/
import Derived.Test.YtekfceoganklgaaGreatDoorK20
import Derived.KernelRfl
set_option linter.all false

namespace Go.Ab.mm
open Go Go.Ab
def zet:Ap:=(162,[.str zk47],.mn [.agg K5,.bool true])
theorem e162_1:Aq zet:=At (n:=400) Bg Ay (by kernel_rfl)
def zeu:Ap:=(162,[.str zk154],.mn [.agg N6,.bool true])
theorem e162_7:Aq zeu:=At (n:=400) Bg Ay (by kernel_rfl)
def cp:Ap:=(162,[.str [32,51]],.mn zk142)
theorem e162_13:Aq cp:=At (n:=400) Bg Ay (by kernel_rfl)
def ci:Ap:=(162,[.str zk146],.mn [.agg KY,.bool true])
theorem e162_19:Aq ci:=At (n:=400) Bg Ay (by kernel_rfl)
def c73_0:Ap:=(73,[.sl 3 yj false],.bool true)
theorem e73_0:Aq c73_0:=At (n:=400) Bg Ay (by kernel_rfl)
def c73_6:Ap:=(73,[.sl 3 zk90 false],.bool true)
theorem e73_6:Aq c73_6:=At (n:=400) Bg Ay (by kernel_rfl)
def zev:Ap:=(73,[.sl 3 yf false],.bool true)
theorem e73_12:Aq zev:=At (n:=400) Bg Ay (by kernel_rfl)
def zew:Ap:=(73,[.sl 3 [.agg SU,.agg [.int .i64 9,.str [61],.sl 1 [] true],.agg ST,.agg [.int .i64 7,.str [],.sl 1 [.int .i64 0,.int .i64 1,.int .i64 2] false],.agg ST,.agg [.int .i64 12,.str [],.sl 1 [.int .i64 3,.int .i64 4] false],.agg SU,.agg [.int .i64 9,.str [195,151],.sl 1 [] true],.agg [.int .i64 1,.str [50],.sl 1 [] true],.agg [.int .i64 7,.str [],.sl 1 [.int .i64 6,.int .i64 7,.int .i64 8] false],.agg [.int .i64 11,.str [],.sl 1 [.int .i64 5,.int .i64 9] false],.agg [.int .i64 8,.str [102],.sl 1 [.int .i64 10] false]] false],.bool true)
theorem e73_18:Aq zew:=At (n:=400) Bg Ay (by kernel_rfl)
def zex:Ap:=(73,[.sl 3 zk66 false],.bool true)
theorem e73_24:Aq zex:=At (n:=400) Bg Ay (by kernel_rfl)
end Go.Ab.mm

