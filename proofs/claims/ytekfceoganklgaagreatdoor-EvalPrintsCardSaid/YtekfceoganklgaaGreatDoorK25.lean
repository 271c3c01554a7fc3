/- Part 25 of a proof: laws of a machine. -/
import Derived.Test.YtekfceoganklgaaGreatDoorK20
import Derived.KernelRfl
set_option linter.all false

namespace Go.Ab.mm
open Go Go.Ab
def zeI:Ap:=(162,[.str [194,168,226,141,179,51]],.mn [.agg SW,.bool true])
theorem e162_4:Aq zeI:=At (n:=400) Bg Ay (by kernel_rfl)
def ct:Ap:=(162,[.str zk132],.mn [.agg Gw,.bool true])
theorem e162_10:Aq ct:=At (n:=400) Bg Ay (by kernel_rfl)
def cm:Ap:=(162,[.str zk117],.mn [.agg Gr,.bool true])
theorem e162_16:Aq cm:=At (n:=400) Bg Ay (by kernel_rfl)
def cf:Ap:=(162,[.str zk115],.mn [.agg [.int .i64 8,.str [58],.str [58]],.bool true])
theorem e162_22:Aq cf:=At (n:=400) Bg Ay (by kernel_rfl)
def c73_3:Ap:=(73,[.sl 3 zk96 false],.bool true)
theorem e73_3:Aq c73_3:=At (n:=400) Bg Ay (by kernel_rfl)
def c73_9:Ap:=(73,[.sl 3 zk2 false],.bool true)
theorem e73_9:Aq c73_9:=At (n:=400) Bg Ay (by kernel_rfl)
def zeJ:Ap:=(73,[.sl 3 zk5 false],.bool true)
theorem e73_15:Aq zeJ:=At (n:=400) Bg Ay (by kernel_rfl)
def zeK:Ap:=(73,[.sl 3 zk28 false],.bool true)
theorem e73_21:Aq zeK:=At (n:=400) Bg Ay (by kernel_rfl)
end Go.Ab.mm

