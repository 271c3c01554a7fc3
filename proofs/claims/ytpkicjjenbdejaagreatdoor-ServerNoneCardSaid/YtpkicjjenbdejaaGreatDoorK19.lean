/- Part 19 of a proof: laws of a machine. -/
import Derived.Test.YtpkicjjenbdejaaGreatDoorK18
import Derived.KernelRfl
set_option linter.all false

namespace Go.Ab.fC
open Go Go.Ab
def QR:eU×fa×PV:=(207,[.str [49,43,50]],.sl 3 [.agg [.int .i64 3,.str [49],.str [49]],.agg [.int .i64 6,.str [43],.str [43]],.agg [.int .i64 3,.str [50],.str [50]]] false)
theorem e207_0:∃ n,AI Ay Au n Unit Ar 0 QR.1 QR.2.1 ()=some (QR.2.2,[],()):=AT (n:=400) Gj Bp (by kernel_rfl)
def Rt:eU×fa×PV:=(32,[.agg [.int .i64 5,.bool false,.int .i64 0,.str [],.sl 1 [.str [105,100],.str [114,101,115,117,108,116]] false,.sl 6 [.agg [.int .i64 2,.bool false,.int .i64 1,.str [],.fF,.fF],.agg [.int .i64 2,.bool false,.int .i64 1,.str [],.fF,.fF]] false]],.fM [.str [123,34,105,100,34,58,49,44,34,114,101,115,117,108,116,34,58,49,125],.int .i64 0])
theorem e32_0:∃ n,AI Ay Au n Unit Ar 0 Rt.1 Rt.2.1 ()=some (Rt.2.2,[],()):=AT (n:=400) Gj Bp (by kernel_rfl)
def Rp:eU×fa×PV:=(35,[],.gz [.str [111,112,101,110],.agg [.sl 3 [.agg [.str [117,114,105],.int .i64 3,.fn 94 [.ptr [.str [117,114,105]] 0]],.agg [.str [116,101,120,116],.int .i64 3,.fn 94 [.ptr [.str [116,101,120,116]] 0]]] false,.fn 54 []],.str [99,104,97,110,103,101],.agg [.sl 3 [.agg [.str [117,114,105],.int .i64 3,.fn 94 [.ptr [.str [117,114,105]] 0]],.agg [.str [118,101,114,115,105,111,110],.int .i64 2,.fn 97 [.ptr [.str [118,101,114,115,105,111,110]] 0]],.agg [.str [97,116],.int .i64 2,.fn 97 [.ptr [.str [97,116]] 0]],.agg [.str [100,101,108],.int .i64 2,.fn 97 [.ptr [.str [100,101,108]] 0]],.agg [.str [116,101,120,116],.int .i64 3,.fn 94 [.ptr [.str [116,101,120,116]] 0]]] false,.fn 57 []],.str [116,101,120,116],.agg [.sl 3 [.agg [.str [117,114,105],.int .i64 3,.fn 94 [.ptr [.str [117,114,105]] 0]]] false,.fn 58 []],.str [102,111,114,109,97,116],.agg [.sl 3 [.agg [.str [117,114,105],.int .i64 3,.fn 94 [.ptr [.str [117,114,105]] 0]]] false,.fn 101 [.ptr [.fn 60 []] 0]],.str [103,108,121,112,104,115],.agg [.sl 3 [.agg [.str [117,114,105],.int .i64 3,.fn 94 [.ptr [.str [117,114,105]] 0]]] false,.fn 101 [.ptr [.fn 61 []] 0]],.str [97,115,99,105,105],.agg [.sl 3 [.agg [.str [117,114,105],.int .i64 3,.fn 94 [.ptr [.str [117,114,105]] 0]]] false,.fn 101 [.ptr [.fn 62 []] 0]],.str [117,110,112,97,114,101,110],.agg [.sl 3 [.agg [.str [117,114,105],.int .i64 3,.fn 94 [.ptr [.str [117,114,105]] 0]]] false,.fn 101 [.ptr [.fn 63 []] 0]],.str [114,101,110,97,109,101],.agg [.sl 3 [.agg [.str [117,114,105],.int .i64 3,.fn 94 [.ptr [.str [117,114,105]] 0]],.agg [.str [97,116],.int .i64 2,.fn 97 [.ptr [.str [97,116]] 0]],.agg [.str [110,97,109,101],.int .i64 3,.fn 94 [.ptr [.str [110,97,109,101]] 0]]] false,.fn 64 []],.str [99,104,101,99,107],.agg [.sl 3 [.agg [.str [117,114,105],.int .i64 3,.fn 94 [.ptr [.str [117,114,105]] 0]]] false,.fn 65 []],.str [101,118,97,108],.agg [.sl 3 [.agg [.str [117,114,105],.int .i64 3,.fn 94 [.ptr [.str [117,114,105]] 0]],.agg [.str [102,117,101,108],.int .i64 2,.fn 97 [.ptr [.str [102,117,101,108]] 0]]] false,.fn 66 []]])
theorem e35_0:∃ n,AI Ay Au n Unit Ar 0 Rp.1 Rp.2.1 ()=some (Rp.2.2,[],()):=AT (n:=400) Gj Bp (by kernel_rfl)
def QW:eU×fa×PV:=(151,[.str [49],.str [32]],.sl 1 [.str [49]] false)
theorem e151_2:∃ n,AI Ay Au n Unit Ar 0 QW.1 QW.2.1 ()=some (QW.2.2,[],()):=AT (n:=400) Gj Bp (by kernel_rfl)
end Go.Ab.fC
namespace Go.Ab.fC
open Go Go.Ab
def Qv:eU×fa×PV:=(325,[.sl 3 [.agg [.int .i64 3,.str [49],.str [49]],.agg [.int .i64 6,.str [43],.str [43]],.agg [.int .i64 3,.str [50],.str [50]]] false,.str [226,139,132]],.fM [.sl 1 [.sl 3 [.agg [.int .i64 3,.str [49],.str [49]],.agg [.int .i64 6,.str [43],.str [43]],.agg [.int .i64 3,.str [50],.str [50]]] false] false,.int .i64 0])
theorem e325_0:∃ n,AI Ay Au n Unit Ar 0 Qv.1 Qv.2.1 ()=some (Qv.2.2,[],()):=AT (n:=400) Gj Bp (by kernel_rfl)
def Rs:eU×fa×PV:=(32,[.agg [.int .i64 5,.bool false,.int .i64 0,.str [],.sl 1 [.str [105,100],.str [114,101,115,117,108,116]] false,.sl 6 [.agg [.int .i64 2,.bool false,.int .i64 2,.str [],.fF,.fF],.agg [.int .i64 3,.bool false,.int .i64 0,.str [51,10],.fF,.fF]] false]],.fM [.str [123,34,105,100,34,58,50,44,34,114,101,115,117,108,116,34,58,34,51,92,117,48,48,48,97,34,125],.int .i64 0])
theorem e32_1:∃ n,AI Ay Au n Unit Ar 0 Rs.1 Rs.2.1 ()=some (Rs.2.2,[],()):=AT (n:=400) Gj Bp (by kernel_rfl)
def QY:eU×fa×PV:=(151,[.str [49,43,50],.str [10]],.sl 1 [.str [49,43,50]] false)
theorem e151_0:∃ n,AI Ay Au n Unit Ar 0 QY.1 QY.2.1 ()=some (QY.2.2,[],()):=AT (n:=400) Gj Bp (by kernel_rfl)
def QV:eU×fa×PV:=(151,[.str [67,111,110,116,101,110,116,45,76,101,110,103,116,104,58,32,49],.str [13,10]],.sl 1 [.str [67,111,110,116,101,110,116,45,76,101,110,103,116,104,58,32,49]] false)
theorem e151_3:∃ n,AI Ay Au n Unit Ar 0 QV.1 QV.2.1 ()=some (QV.2.2,[],()):=AT (n:=400) Gj Bp (by kernel_rfl)
end Go.Ab.fC
namespace Go.Ab.fC
open Go Go.Ab
def Qu:eU×fa×PV:=(325,[.sl 3 [.agg [.int .i64 3,.str [49],.str [49]],.agg [.int .i64 6,.str [43],.str [43]],.agg [.int .i64 3,.str [50],.str [50]]] false,.str [58]],.fM [.sl 1 [.sl 3 [.agg [.int .i64 3,.str [49],.str [49]],.agg [.int .i64 6,.str [43],.str [43]],.agg [.int .i64 3,.str [50],.str [50]]] false] false,.int .i64 0])
theorem e325_1:∃ n,AI Ay Au n Unit Ar 0 Qu.1 Qu.2.1 ()=some (Qu.2.2,[],()):=AT (n:=400) Gj Bp (by kernel_rfl)
def Rq:eU×fa×PV:=(32,[.agg [.int .i64 5,.bool false,.int .i64 0,.str [],.sl 1 [.str [105,100],.str [101,114,114,111,114]] false,.sl 6 [.agg [.int .i64 0,.bool false,.int .i64 0,.str [],.fF,.fF],.agg [.int .i64 2,.bool false,.int .i64 (-32700),.str [],.fF,.fF]] false]],.fM [.str [123,34,105,100,34,58,110,117,108,108,44,34,101,114,114,111,114,34,58,45,51,50,55,48,48,125],.int .i64 0])
theorem e32_2:∃ n,AI Ay Au n Unit Ar 0 Rq.1 Rq.2.1 ()=some (Rq.2.2,[],()):=AT (n:=400) Gj Bp (by kernel_rfl)
def QX:eU×fa×PV:=(151,[.str [50],.str [32]],.sl 1 [.str [50]] false)
theorem e151_1:∃ n,AI Ay Au n Unit Ar 0 QX.1 QX.2.1 ()=some (QX.2.2,[],()):=AT (n:=400) Gj Bp (by kernel_rfl)
end Go.Ab.fC
namespace Go.Ab.fC
open Go Go.Ab
def knj:EZ :=
 QR :: Qv :: Qu :: Rt :: Rs :: Rq :: Rp :: QY :: QX :: QW :: QV :: kni
theorem Lv:Ez Ay Au knj:=AW e207_0<|AW e325_0<|AW e325_1<|AW e32_0<|AW e32_1<|AW e32_2<|AW e35_0<|AW e151_0<|AW e151_1<|AW e151_2<|AW e151_3<|Gj
end Go.Ab.fC

