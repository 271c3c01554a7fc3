/- Part 17 of a proof: laws of a machine. -/
import Derived.Test.YtpkicjjenbdejaaGreatDoorK16
import Derived.KernelRfl
set_option linter.all false

namespace Go.Ab.fC
open Go Go.Ab
def QJ:eU×fa×PV:=(268,[.str [49,43,50]],.fM [.agg [.int .i64 3,.str [49],.str [49]],.bool true])
theorem e268_0:∃ n,AI Ay Au n Unit Ar 0 QJ.1 QJ.2.1 ()=some (QJ.2.2,[],()):=AT (n:=400) Bt Bp (by kernel_rfl)
def Rx:eU×fa×PV:=(16,[.str [63]],.fM [.agg [.int .i64 0,.bool false,.int .i64 0,.str [],.fF,.fF],.int .i64 150])
theorem e16_2:∃ n,AI Ay Au n Unit Ar 0 Rx.1 Rx.2.1 ()=some (Rx.2.2,[],()):=AT (n:=400) Bt Bp (by kernel_rfl)
def QC:eU×fa×PV:=(307,[.int .i64 1,.str [50],.fF],.fM [.sl 3 [.agg [.int .i64 1,.str [50],.fF]] false,.int .i64 0])
theorem e307_0:∃ n,AI Ay Au n Unit Ar 0 QC.1 QC.2.1 ()=some (QC.2.2,[],()):=AT (n:=400) Bt Bp (by kernel_rfl)
def Qw:eU×fa×PV:=(307,[.int .i64 1,.str [50],.sl 1 [] false],.fM [.sl 3 [.agg [.int .i64 1,.str [50],.fF]] false,.int .i64 0])
theorem e307_6:∃ n,AI Ay Au n Unit Ar 0 Qw.1 Qw.2.1 ()=some (Qw.2.2,[],()):=AT (n:=400) Bt Bp (by kernel_rfl)
end Go.Ab.fC
namespace Go.Ab.fC
open Go Go.Ab
def QI:eU×fa×PV:=(268,[.str [43,50]],.fM [.agg [.int .i64 6,.str [43],.str [43]],.bool true])
theorem e268_1:∃ n,AI Ay Au n Unit Ar 0 QI.1 QI.2.1 ()=some (QI.2.2,[],()):=AT (n:=400) Bt Bp (by kernel_rfl)
def QO:eU×fa×PV:=(264,[.sl 3 [.agg [.int .i64 1,.str [50],.fF]] false],.bool true)
theorem e264_0:∃ n,AI Ay Au n Unit Ar 0 QO.1 QO.2.1 ()=some (QO.2.2,[],()):=AT (n:=400) Bt Bp (by kernel_rfl)
def QB:eU×fa×PV:=(307,[.int .i64 9,.str [43],.fF],.fM [.sl 3 [.agg [.int .i64 9,.str [43],.fF]] false,.int .i64 0])
theorem e307_1:∃ n,AI Ay Au n Unit Ar 0 QB.1 QB.2.1 ()=some (QB.2.2,[],()):=AT (n:=400) Bt Bp (by kernel_rfl)
def QU:eU×fa×PV:=(161,[.sl 3 [.agg [.int .i64 3,.str [49],.str [49]],.agg [.int .i64 6,.str [43],.str [43]],.agg [.int .i64 3,.str [50],.str [50]]] false],.fM [.sl 1 [.int .i64 (-1),.int .i64 (-1),.int .i64 (-1)] false,.int .i64 0])
theorem e161_0:∃ n,AI Ay Au n Unit Ar 0 QU.1 QU.2.1 ()=some (QU.2.2,[],()):=AT (n:=400) Bt Bp (by kernel_rfl)
end Go.Ab.fC
namespace Go.Ab.fC
open Go Go.Ab
def QH:eU×fa×PV:=(268,[.str [50]],.fM [.agg [.int .i64 3,.str [50],.str [50]],.bool true])
theorem e268_2:∃ n,AI Ay Au n Unit Ar 0 QH.1 QH.2.1 ()=some (QH.2.2,[],()):=AT (n:=400) Bt Bp (by kernel_rfl)
def QN:eU×fa×PV:=(264,[.sl 3 [.agg [.int .i64 9,.str [43],.fF]] false],.bool true)
theorem e264_1:∃ n,AI Ay Au n Unit Ar 0 QN.1 QN.2.1 ()=some (QN.2.2,[],()):=AT (n:=400) Bt Bp (by kernel_rfl)
def QA:eU×fa×PV:=(307,[.int .i64 1,.str [49],.fF],.fM [.sl 3 [.agg [.int .i64 1,.str [49],.fF]] false,.int .i64 0])
theorem e307_2:∃ n,AI Ay Au n Unit Ar 0 QA.1 QA.2.1 ()=some (QA.2.2,[],()):=AT (n:=400) Bt Bp (by kernel_rfl)
def QT:eU×fa×PV:=(161,[.sl 3 [.agg [.int .i64 3,.str [49],.str [49]],.agg [.int .i64 6,.str [43],.str [43]]] true],.fM [.sl 1 [.int .i64 (-1),.int .i64 (-1)] false,.int .i64 0])
theorem e161_1:∃ n,AI Ay Au n Unit Ar 0 QT.1 QT.2.1 ()=some (QT.2.2,[],()):=AT (n:=400) Bt Bp (by kernel_rfl)
end Go.Ab.fC

