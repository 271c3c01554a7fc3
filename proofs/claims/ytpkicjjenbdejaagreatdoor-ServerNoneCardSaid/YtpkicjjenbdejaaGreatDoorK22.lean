/- Part 22 of a proof: laws of a machine. -/
import Derived.Test.YtpkicjjenbdejaaGreatDoorK21
import Derived.KernelRfl
set_option linter.all false

namespace Go.Ab.fC
open Go Go.Ab
def QS:eU×fa×PV:=(176,[.sl 4 [.agg [.int .i64 0,.sl 3 [.agg [.int .i64 3,.str [49],.str [49]],.agg [.int .i64 6,.str [43],.str [43]],.agg [.int .i64 3,.str [50],.str [50]]] false,.sl 3 [.agg [.int .i64 1,.str [49],.sl 1 [] true],.agg [.int .i64 9,.str [43],.sl 1 [] true],.agg [.int .i64 1,.str [50],.sl 1 [] true],.agg [.int .i64 7,.str [],.sl 1 [.int .i64 0,.int .i64 1,.int .i64 2] false]] false,.int .i64 0]] false,.int .i64 9],.fM [.sl 5 [.agg [.int .i64 0,.bool true,.bool false,.bool false,.sl 1 [.int .i64 3] false]] false,.int .i64 8])
theorem e176_0:∃ n,AI Ay Au n Unit Ar 0 QS.1 QS.2.1 ()=some (QS.2.2,[],()):=AT (n:=400) zx Bp (by kernel_rfl)
def knm:EZ :=
 QS :: knl
theorem zy:Ez Ay Au knm:=AW e176_0<|zx
end Go.Ab.fC
namespace Go.Ab.fC
open Go Go.Ab
def QZ:eU×fa×PV:=(115,[.str [49,43,50],.int .i64 9],.fM [.sl 5 [.agg [.int .i64 0,.bool true,.bool false,.bool false,.sl 1 [.int .i64 3] false]] false,.int .i64 8])
theorem e115_0:∃ n,AI Ay Au n Unit Ar 0 QZ.1 QZ.2.1 ()=some (QZ.2.2,[],()):=AT (n:=400) zy Bp (by kernel_rfl)
def knn:EZ :=
 QZ :: knm
theorem zz:Ez Ay Au knn:=AW e115_0<|zy
end Go.Ab.fC

