/- Part 26 of a proof: laws of a machine. -/
import Derived.Test.YtekfceoganklgaaGreatDoorK20
import Derived.KernelRfl
set_option linter.all false

namespace Go.Ab.mm
open Go Go.Ab
def zeL:Ap:=(162,[.str zk139],.mn [.agg N7,.bool true])
theorem e162_5:Aq zeL:=At (n:=400) Bg Ay (by kernel_rfl)
def cr:Ap:=(162,[.str zk99],.mn [.agg Gw,.bool true])
theorem e162_11:Aq cr:=At (n:=400) Bg Ay (by kernel_rfl)
def ck:Ap:=(162,[.str zk113],.mn [.agg Gr,.bool true])
theorem e162_17:Aq ck:=At (n:=400) Bg Ay (by kernel_rfl)
def ce:Ap:=(162,[.str zk107],.mn [.agg Lt,.bool true])
theorem e162_23:Aq ce:=At (n:=400) Bg Ay (by kernel_rfl)
def c73_4:Ap:=(73,[.sl 3 zdD false],.bool true)
theorem e73_4:Aq c73_4:=At (n:=400) Bg Ay (by kernel_rfl)
def zeM:Ap:=(73,[.sl 3 zk91 false],.bool true)
theorem e73_10:Aq zeM:=At (n:=400) Bg Ay (by kernel_rfl)
def zeN:Ap:=(73,[.sl 3 zk11 false],.bool true)
theorem e73_16:Aq zeN:=At (n:=400) Bg Ay (by kernel_rfl)
def zeO:Ap:=(73,[.sl 3 zk97 false],.bool true)
theorem e73_22:Aq zeO:=At (n:=400) Bg Ay (by kernel_rfl)
end Go.Ab.mm

