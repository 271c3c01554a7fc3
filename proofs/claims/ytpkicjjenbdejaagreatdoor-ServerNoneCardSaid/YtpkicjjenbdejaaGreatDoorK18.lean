/- Part 18 of a proof: laws of a machine. -/
import Derived.Test.YtpkicjjenbdejaaGreatDoorK16
import Derived.KernelRfl
import Derived.Test.YtpkicjjenbdejaaGreatDoorK17
set_option linter.all false

namespace Go.Ab.fC
open Go Go.Ab
def QG:eU×fa×PV:=(268,[.str []],.fM [.agg [.int .i64 0,.str [],.str []],.bool false])
theorem e268_3:∃ n,AI Ay Au n Unit Ar 0 QG.1 QG.2.1 ()=some (QG.2.2,[],()):=AT (n:=400) Bt Bp (by kernel_rfl)
def QM:eU×fa×PV:=(264,[.sl 3 [.agg [.int .i64 1,.str [49],.fF]] false],.bool true)
theorem e264_2:∃ n,AI Ay Au n Unit Ar 0 QM.1 QM.2.1 ()=some (QM.2.2,[],()):=AT (n:=400) Bt Bp (by kernel_rfl)
def Qz:eU×fa×PV:=(307,[.int .i64 7,.str [],.sl 1 [.sl 3 [.agg [.int .i64 1,.str [49],.fF]] false,.sl 3 [.agg [.int .i64 9,.str [43],.fF]] false,.sl 3 [.agg [.int .i64 1,.str [50],.fF]] false] false],.fM [.sl 3 [.agg [.int .i64 1,.str [49],.sl 1 [] false],.agg [.int .i64 9,.str [43],.sl 1 [] false],.agg [.int .i64 1,.str [50],.sl 1 [] false],.agg [.int .i64 7,.str [],.sl 1 [.int .i64 0,.int .i64 1,.int .i64 2] false]] false,.int .i64 0])
theorem e307_3:∃ n,AI Ay Au n Unit Ar 0 Qz.1 Qz.2.1 ()=some (Qz.2.2,[],()):=AT (n:=400) Bt Bp (by kernel_rfl)
end Go.Ab.fC
namespace Go.Ab.fC
open Go Go.Ab
def RA:eU×fa×PV:=(16,[.str [123,34,105,100,34,58,49,44,34,109,101,116,104,111,100,34,58,34,111,112,101,110,34,44,34,112,97,114,97,109,115,34,58,123,34,117,114,105,34,58,34,97,34,44,34,116,101,120,116,34,58,34,49,43,50,34,125,125]],.fM [.agg [.int .i64 5,.bool false,.int .i64 0,.str [],.sl 1 [.str [105,100],.str [109,101,116,104,111,100],.str [112,97,114,97,109,115]] false,.sl 6 [.agg [.int .i64 2,.bool false,.int .i64 1,.str [],.fF,.fF],.agg [.int .i64 3,.bool false,.int .i64 0,.str [111,112,101,110],.fF,.fF],.agg [.int .i64 5,.bool false,.int .i64 0,.str [],.sl 1 [.str [117,114,105],.str [116,101,120,116]] false,.sl 6 [.agg [.int .i64 3,.bool false,.int .i64 0,.str [97],.fF,.fF],.agg [.int .i64 3,.bool false,.int .i64 0,.str [49,43,50],.fF,.fF]] false]] false],.int .i64 0])
theorem e16_0:∃ n,AI Ay Au n Unit Ar 0 RA.1 RA.2.1 ()=some (RA.2.2,[],()):=AT (n:=400) Bt Bp (by kernel_rfl)
def QL:eU×fa×PV:=(264,[.sl 3 [.agg [.int .i64 1,.str [49],.sl 1 [] false],.agg [.int .i64 9,.str [43],.sl 1 [] false],.agg [.int .i64 1,.str [50],.sl 1 [] false],.agg [.int .i64 7,.str [],.sl 1 [.int .i64 0,.int .i64 1,.int .i64 2] false]] false],.bool true)
theorem e264_3:∃ n,AI Ay Au n Unit Ar 0 QL.1 QL.2.1 ()=some (QL.2.2,[],()):=AT (n:=400) Bt Bp (by kernel_rfl)
def Qy:eU×fa×PV:=(307,[.int .i64 1,.str [49],.sl 1 [] false],.fM [.sl 3 [.agg [.int .i64 1,.str [49],.fF]] false,.int .i64 0])
theorem e307_4:∃ n,AI Ay Au n Unit Ar 0 Qy.1 Qy.2.1 ()=some (Qy.2.2,[],()):=AT (n:=400) Bt Bp (by kernel_rfl)
end Go.Ab.fC
namespace Go.Ab.fC
open Go Go.Ab
def Ry:eU×fa×PV:=(16,[.str [123,34,105,100,34,58,50,44,34,109,101,116,104,111,100,34,58,34,101,118,97,108,34,44,34,112,97,114,97,109,115,34,58,123,34,117,114,105,34,58,34,97,34,44,34,102,117,101,108,34,58,57,125,125]],.fM [.agg [.int .i64 5,.bool false,.int .i64 0,.str [],.sl 1 [.str [105,100],.str [109,101,116,104,111,100],.str [112,97,114,97,109,115]] false,.sl 6 [.agg [.int .i64 2,.bool false,.int .i64 2,.str [],.fF,.fF],.agg [.int .i64 3,.bool false,.int .i64 0,.str [101,118,97,108],.fF,.fF],.agg [.int .i64 5,.bool false,.int .i64 0,.str [],.sl 1 [.str [117,114,105],.str [102,117,101,108]] false,.sl 6 [.agg [.int .i64 3,.bool false,.int .i64 0,.str [97],.fF,.fF],.agg [.int .i64 2,.bool false,.int .i64 9,.str [],.fF,.fF]] false]] false],.int .i64 0])
theorem e16_1:∃ n,AI Ay Au n Unit Ar 0 Ry.1 Ry.2.1 ()=some (Ry.2.2,[],()):=AT (n:=400) Bt Bp (by kernel_rfl)
def QK:eU×fa×PV:=(264,[.sl 3 [.agg [.int .i64 1,.str [49],.sl 1 [] true],.agg [.int .i64 9,.str [43],.sl 1 [] true],.agg [.int .i64 1,.str [50],.sl 1 [] true],.agg [.int .i64 7,.str [],.sl 1 [.int .i64 0,.int .i64 1,.int .i64 2] false]] false],.bool true)
theorem e264_4:∃ n,AI Ay Au n Unit Ar 0 QK.1 QK.2.1 ()=some (QK.2.2,[],()):=AT (n:=400) Bt Bp (by kernel_rfl)
def Qx:eU×fa×PV:=(307,[.int .i64 9,.str [43],.sl 1 [] false],.fM [.sl 3 [.agg [.int .i64 9,.str [43],.fF]] false,.int .i64 0])
theorem e307_5:∃ n,AI Ay Au n Unit Ar 0 Qx.1 Qx.2.1 ()=some (Qx.2.2,[],()):=AT (n:=400) Bt Bp (by kernel_rfl)
end Go.Ab.fC
namespace Go.Ab.fC
open Go Go.Ab
def kni:EZ :=
 QJ :: QI :: QH :: QG :: RA :: Ry :: Rx :: QO :: QN :: QM :: QL :: QK :: QC :: QB :: QA :: Qz :: Qy :: Qx :: Qw :: QU :: QT :: knh
theorem Gj:Ez Ay Au kni:=AW e268_0<|AW e268_1<|AW e268_2<|AW e268_3<|AW e16_0<|AW e16_1<|AW e16_2<|AW e264_0<|AW e264_1<|AW e264_2<|AW e264_3<|AW e264_4<|AW e307_0<|AW e307_1<|AW e307_2<|AW e307_3<|AW e307_4<|AW e307_5<|AW e307_6<|AW e161_0<|AW e161_1<|Bt
end Go.Ab.fC

