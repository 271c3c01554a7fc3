/- Part 21 of a proof: laws of a machine. -/
import Derived.Test.YtpkicjjenbdejaaGreatDoorK20
import Derived.KernelRfl
set_option linter.all false

namespace Go.Ab.fC
open Go Go.Ab
def QQ:eU×fa×PV:=(216,[.sl 4 [.agg [.int .i64 0,.sl 3 [.agg [.int .i64 3,.str [49],.str [49]],.agg [.int .i64 6,.str [43],.str [43]],.agg [.int .i64 3,.str [50],.str [50]]] false,.sl 3 [.agg [.int .i64 1,.str [49],.sl 1 [] true],.agg [.int .i64 9,.str [43],.sl 1 [] true],.agg [.int .i64 1,.str [50],.sl 1 [] true],.agg [.int .i64 7,.str [],.sl 1 [.int .i64 0,.int .i64 1,.int .i64 2] false]] false,.int .i64 0]] false],.sl 1 [.sl 3 [.agg [.int .i64 1,.str [49],.sl 1 [] false],.agg [.int .i64 9,.str [43],.sl 1 [] false],.agg [.int .i64 1,.str [50],.sl 1 [] false],.agg [.int .i64 7,.str [],.sl 1 [.int .i64 0,.int .i64 1,.int .i64 2] false]] false] false)
theorem e216_0:∃ n,AI Ay Au n Unit Ar 0 QQ.1 QQ.2.1 ()=some (QQ.2.2,[],()):=AT (n:=400) Ny Bp (by kernel_rfl)
def QP:eU×fa×PV:=(263,[.sl 4 [.agg [.int .i64 0,.sl 3 [.agg [.int .i64 3,.str [49],.str [49]],.agg [.int .i64 6,.str [43],.str [43]],.agg [.int .i64 3,.str [50],.str [50]]] false,.sl 3 [.agg [.int .i64 1,.str [49],.sl 1 [] true],.agg [.int .i64 9,.str [43],.sl 1 [] true],.agg [.int .i64 1,.str [50],.sl 1 [] true],.agg [.int .i64 7,.str [],.sl 1 [.int .i64 0,.int .i64 1,.int .i64 2] false]] false,.int .i64 0]] false],.sl 1 [.fF] false)
theorem e263_0:∃ n,AI Ay Au n Unit Ar 0 QP.1 QP.2.1 ()=some (QP.2.2,[],()):=AT (n:=400) Ny Bp (by kernel_rfl)
end Go.Ab.fC
namespace Go.Ab.fC
open Go Go.Ab
def QD:eU×fa×PV:=(276,[.sl 3 [.agg [.int .i64 1,.str [49],.sl 1 [] false],.agg [.int .i64 9,.str [43],.sl 1 [] false],.agg [.int .i64 1,.str [50],.sl 1 [] false],.agg [.int .i64 7,.str [],.sl 1 [.int .i64 0,.int .i64 1,.int .i64 2] false]] false],.fM [.agg [.str [],.bool false],.bool false])
theorem e276_0:∃ n,AI Ay Au n Unit Ar 0 QD.1 QD.2.1 ()=some (QD.2.2,[],()):=AT (n:=400) Ny Bp (by kernel_rfl)
def Qo:eU×fa×PV:=(371,[.str [43],.agg [.bool false,.bool false,.sl 1 [.int .i64 1] true],.agg [.bool false,.bool false,.sl 1 [.int .i64 2] true]],.fM [.agg [.bool false,.bool false,.sl 1 [.int .i64 3] false],.int .i64 0])
theorem e371_0:∃ n,AI Ay Au n Unit Ar 0 Qo.1 Qo.2.1 ()=some (Qo.2.2,[],()):=AT (n:=400) Ny Bp (by kernel_rfl)
end Go.Ab.fC
namespace Go.Ab.fC
open Go Go.Ab
def knl:EZ :=
 QQ :: QD :: QP :: Qo :: knk
theorem zx:Ez Ay Au knl:=AW e216_0<|AW e276_0<|AW e263_0<|AW e371_0<|Ny
end Go.Ab.fC

