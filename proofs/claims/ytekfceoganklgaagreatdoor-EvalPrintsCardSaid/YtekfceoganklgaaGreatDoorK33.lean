/- Part 33 of a proof: laws of a machine. -/
import Derived.Test.YtekfceoganklgaaGreatDoorK31
import Derived.KernelRfl
set_option linter.all false

namespace Go.Ab.mm
open Go Go.Ab
def ze4:Ap:=(210,[.sl 3 [.agg K5,.agg SW,.agg [.int .i64 6,.str CT,.str CT]] true],.mn [.sl 1 [.int .i64 (-1),.int .i64 (-1),.int .i64 (-1)] false,.int .i64 0])
theorem e210_1:Aq ze4:=At (n:=400) Ff Ay (by kernel_rfl)
def ze5:Ap:=(210,[.sl 3 zk3 false],.mn [.sl 1 [.int .i64 (-1),.int .i64 (-1),.int .i64 (-1),.int .i64 (-1),.int .i64 (-1)] false,.int .i64 0])
theorem e210_4:Aq ze5:=At (n:=400) Ff Ay (by kernel_rfl)
def ze6:Ap:=(210,[.sl 3 [.agg Gw,.agg Lt] true],.mn zk137)
theorem e210_7:Aq ze6:=At (n:=400) Ff Ay (by kernel_rfl)
def ze7:Ap:=(135,[.sl 3 zk3 false,.str FY],.mn zdC)
theorem e135_2:Aq ze7:=At (n:=400) Ff Ay (by kernel_rfl)
def ze8:Ap:=(135,[.sl 3 [.agg Gw,.agg Lt,.agg Gr,.agg [.int .i64 8,.str [58],.str [58]],.agg Gr,.agg N6,.agg Gw,.agg N7,.agg KY] true,.str FY],.mn [.sl 1 [.sl 3 zk81 false,.sl 3 zk41 false] false,.int .i64 0])
theorem e135_5:Aq ze8:=At (n:=400) Ff Ay (by kernel_rfl)
end Go.Ab.mm

