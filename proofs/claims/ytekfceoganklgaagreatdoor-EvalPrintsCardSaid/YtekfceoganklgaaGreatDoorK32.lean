/- Part 32 of a proof: laws of a machine. -/
import Derived.Test.YtekfceoganklgaaGreatDoorK31
import Derived.KernelRfl
set_option linter.all false

namespace Go.Ab.mm
open Go Go.Ab
def zeZ:Ap:=(210,[.sl 3 MH false],.mn [.sl 1 [.int .i64 (-1),.int .i64 (-1),.int .i64 (-1),.int .i64 (-1)] false,.int .i64 0])
theorem e210_0:Aq zeZ:=At (n:=400) Ff Ay (by kernel_rfl)
def ze0:Ap:=(210,[.sl 3 [.agg K5] true],.mn zk152)
theorem e210_3:Aq ze0:=At (n:=400) Ff Ay (by kernel_rfl)
def ze1:Ap:=(210,[.sl 3 [.agg Gw,.agg N7] true],.mn zk137)
theorem e210_6:Aq ze1:=At (n:=400) Ff Ay (by kernel_rfl)
def ze2:Ap:=(135,[.sl 3 zk7 false,.str FY],.mn zk136)
theorem e135_1:Aq ze2:=At (n:=400) Ff Ay (by kernel_rfl)
def ze3:Ap:=(135,[.sl 3 zk41 false,.str [58]],.mn [.sl 1 [.sl 3 zk41 false] false,.int .i64 0])
theorem e135_4:Aq ze3:=At (n:=400) Ff Ay (by kernel_rfl)
end Go.Ab.mm

