/- Part 21 of a proof: laws of a machine. -/
import Derived.Test.YtekfceoganklgaaGreatDoorK20
import Derived.KernelRfl
set_option linter.all false

namespace Go.Ab.mm
open Go Go.Ab
def zeo:Ap:=(162,[.str [102,194,168,226,141,179,51]],.mn [.agg K5,.bool true])
theorem e162_0:Aq zeo:=At (n:=400) Bg Ay (by kernel_rfl)
def zep:Ap:=(162,[.str zk89],.mn [.agg [.int .i64 8,.str FQ,.str FQ],.bool true])
theorem e162_6:Aq zep:=At (n:=400) Bg Ay (by kernel_rfl)
def cq:Ap:=(162,[.str [32,50,32,51]],.mn zk142)
theorem e162_12:Aq cq:=At (n:=400) Bg Ay (by kernel_rfl)
def cj:Ap:=(162,[.str Mq],.mn [.agg [.int .i64 3,.str [49],.str [49]],.bool true])
theorem e162_18:Aq cj:=At (n:=400) Bg Ay (by kernel_rfl)
def cd:Ap:=(162,[.str []],.mn [.agg [.int .i64 0,.str [],.str []],.bool false])
theorem e162_24:Aq cd:=At (n:=400) Bg Ay (by kernel_rfl)
def c73_5:Ap:=(73,[.sl 3 zk10 false],.bool true)
theorem e73_5:Aq c73_5:=At (n:=400) Bg Ay (by kernel_rfl)
def zeq:Ap:=(73,[.sl 3 zk72 false],.bool true)
theorem e73_11:Aq zeq:=At (n:=400) Bg Ay (by kernel_rfl)
def zer:Ap:=(73,[.sl 3 zk17 false],.bool true)
theorem e73_17:Aq zer:=At (n:=400) Bg Ay (by kernel_rfl)
def zes:Ap:=(73,[.sl 3 zk9 false],.bool true)
theorem e73_23:Aq zes:=At (n:=400) Bg Ay (by kernel_rfl)
end Go.Ab.mm

