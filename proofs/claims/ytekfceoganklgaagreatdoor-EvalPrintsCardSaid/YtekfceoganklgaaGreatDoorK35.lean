/- Part 35 of a proof: laws of a machine. -/
import Derived.Test.YtekfceoganklgaaGreatDoorK32
import Derived.Test.YtekfceoganklgaaGreatDoorK33
import Derived.Test.YtekfceoganklgaaGreatDoorK34
import Derived.KernelRfl
set_option linter.all false

namespace Go.Ab.mm
open Go Go.Ab
def knib:DS :=
 zeZ :: ze4 :: ze9 :: ze0 :: ze5 :: zfa :: ze1 :: ze6 :: zfb :: ze2 :: ze7 :: zfc :: ze3 :: ze8 :: zfd :: knia
theorem Vp:Dk BB Br knib:=Ao e210_0<|Ao e210_1<|Ao e210_2<|Ao e210_3<|Ao e210_4<|Ao e210_5<|Ao e210_6<|Ao e210_7<|Ao e135_0<|Ao e135_1<|Ao e135_2<|Ao e135_3<|Ao e135_4<|Ao e135_5<|Ao e135_6<|Ff
end Go.Ab.mm
namespace Go.Ab.mm
open Go Go.Ab
def c93_0:Ap:=(93,[.str zk47],.sl 3 zk7 false)
theorem e93_0:Aq c93_0:=At (n:=400) Vp Ay (by kernel_rfl)
end Go.Ab.mm
namespace Go.Ab.mm
open Go Go.Ab
def c93_1:Ap:=(93,[.str P8],.sl 3 zk56 false)
theorem e93_1:Aq c93_1:=At (n:=400) Vp Ay (by kernel_rfl)
end Go.Ab.mm
namespace Go.Ab.mm
open Go Go.Ab
def knj:DS :=
 c93_0 :: c93_1 :: knib
theorem NV:Dk BB Br knj:=Ao e93_0<|Ao e93_1<|Vp
end Go.Ab.mm

