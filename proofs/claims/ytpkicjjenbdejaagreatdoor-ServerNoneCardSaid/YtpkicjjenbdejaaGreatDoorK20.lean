/- Part 20 of a proof: laws of a machine. -/
import Derived.Test.YtpkicjjenbdejaaGreatDoorK19
import Derived.KernelRfl
set_option linter.all false

namespace Go.Ab.fC
open Go Go.Ab
def QE:eU×fa×PV:=(275,[.sl 3 [.agg [.int .i64 3,.str [49],.str [49]],.agg [.int .i64 6,.str [43],.str [43]],.agg [.int .i64 3,.str [50],.str [50]]] false,.sl 2 [] true,.bool false],.fM [.sl 3 [.agg [.int .i64 1,.str [49],.sl 1 [] false],.agg [.int .i64 9,.str [43],.sl 1 [] false],.agg [.int .i64 1,.str [50],.sl 1 [] false],.agg [.int .i64 7,.str [],.sl 1 [.int .i64 0,.int .i64 1,.int .i64 2] false]] false,.int .i64 0])
theorem e275_0:∃ n,AI Ay Au n Unit Ar 0 QE.1 QE.2.1 ()=some (QE.2.2,[],()):=AT (n:=400) Lv Bp (by kernel_rfl)
def Rv:eU×fa×PV:=(17,[.agg [.int .i64 2,.bool false,.int .i64 2,.str [],.fF,.fF],.agg [.int .i64 3,.bool false,.int .i64 0,.str [51,10],.fF,.fF],.fR],.str [123,34,105,100,34,58,50,44,34,114,101,115,117,108,116,34,58,34,51,92,117,48,48,48,97,34,125])
theorem e17_1:∃ n,AI Ay Au n Unit Ar 0 Rv.1 Rv.2.1 ()=some (Rv.2.2,[],()):=AT (n:=400) Lv Bp (by kernel_rfl)
end Go.Ab.fC
namespace Go.Ab.fC
open Go Go.Ab
def QF:eU×fa×PV:=(274,[.sl 3 [.agg [.int .i64 3,.str [49],.str [49]],.agg [.int .i64 6,.str [43],.str [43]],.agg [.int .i64 3,.str [50],.str [50]]] false],.fM [.sl 1 [.sl 3 [.agg [.int .i64 3,.str [49],.str [49]],.agg [.int .i64 6,.str [43],.str [43]],.agg [.int .i64 3,.str [50],.str [50]]] false] false,.int .i64 0])
theorem e274_0:∃ n,AI Ay Au n Unit Ar 0 QF.1 QF.2.1 ()=some (QF.2.2,[],()):=AT (n:=400) Lv Bp (by kernel_rfl)
def Ru:eU×fa×PV:=(17,[.agg [.int .i64 0,.bool false,.int .i64 0,.str [],.fF,.fF],.agg [.int .i64 0,.bool false,.int .i64 0,.str [],.fF,.fF],.iface 85 (.agg [.int .i64 (-32700),.gw 1 489])],.str [123,34,105,100,34,58,110,117,108,108,44,34,101,114,114,111,114,34,58,45,51,50,55,48,48,125])
theorem e17_2:∃ n,AI Ay Au n Unit Ar 0 Ru.1 Ru.2.1 ()=some (Ru.2.2,[],()):=AT (n:=400) Lv Bp (by kernel_rfl)
end Go.Ab.fC
namespace Go.Ab.fC
open Go Go.Ab
def Rw:eU×fa×PV:=(17,[.agg [.int .i64 2,.bool false,.int .i64 1,.str [],.fF,.fF],.agg [.int .i64 2,.bool false,.int .i64 1,.str [],.fF,.fF],.fR],.str [123,34,105,100,34,58,49,44,34,114,101,115,117,108,116,34,58,49,125])
theorem e17_0:∃ n,AI Ay Au n Unit Ar 0 Rw.1 Rw.2.1 ()=some (Rw.2.2,[],()):=AT (n:=400) Lv Bp (by kernel_rfl)
end Go.Ab.fC
namespace Go.Ab.fC
open Go Go.Ab
def knk:EZ :=
 QE :: QF :: Rw :: Rv :: Ru :: knj
theorem Ny:Ez Ay Au knk:=AW e275_0<|AW e274_0<|AW e17_0<|AW e17_1<|AW e17_2<|Lv
end Go.Ab.fC

