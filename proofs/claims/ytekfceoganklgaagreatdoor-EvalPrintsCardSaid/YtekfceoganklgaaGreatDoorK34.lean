/- Part 34 of a proof: laws of a machine. -/
import Derived.Test.YtekfceoganklgaaGreatDoorK31
import Derived.KernelRfl
set_option linter.all false

namespace Go.Ab.mm
open Go Go.Ab
def ze9:Ap:=(210,[.sl 3 zk6 false],.mn [.sl 1 [.int .i64 (-1),.int .i64 (-1),.int .i64 12,.int .i64 (-1),.int .i64 (-1),.int .i64 (-1),.int .i64 (-1),.int .i64 (-1),.int .i64 (-1),.int .i64 (-1),.int .i64 (-1),.int .i64 (-1),.int .i64 2] false,.int .i64 0])
theorem e210_2:Aq ze9:=At (n:=400) Ff Ay (by kernel_rfl)
def zfa:Ap:=(210,[.sl 3 [.agg [.int .i64 6,.str [43],.str [43]]] true],.mn zk152)
theorem e210_5:Aq zfa:=At (n:=400) Ff Ay (by kernel_rfl)
def zfb:Ap:=(135,[.sl 3 MH false,.str [58]],.mn [.sl 1 [.sl 3 MH false] false,.int .i64 0])
theorem e135_0:Aq zfb:=At (n:=400) Ff Ay (by kernel_rfl)
def zfc:Ap:=(135,[.sl 3 zk3 false,.str [58]],.mn zdC)
theorem e135_3:Aq zfc:=At (n:=400) Ff Ay (by kernel_rfl)
def zfd:Ap:=(135,[.sl 3 zk81 false,.str [58]],.mn [.sl 1 [.sl 3 [.agg Gw,.agg Lt,.agg Gr] false,.sl 3 [.agg Gr] false] false,.int .i64 0])
theorem e135_6:Aq zfd:=At (n:=400) Ff Ay (by kernel_rfl)
end Go.Ab.mm

