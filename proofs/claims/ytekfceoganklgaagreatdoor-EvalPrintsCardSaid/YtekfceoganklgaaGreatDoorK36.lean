/- Part 36 of a proof: laws of a machine. -/
import Derived.Test.YtekfceoganklgaaGreatDoorK35
import Derived.KernelRfl
set_option linter.all false

namespace Go.Ab.mm
open Go Go.Ab
def zfe:Ap:=(169,[.ptr [.sl 2 [.agg zdF] false,.bool false] 0,.sl 3 MH false],.mn [.sl 3 zk10 false,.mB])
theorem e169_0:Aq zfe:=At (n:=400) NV Ay (by kernel_rfl)
def zff:Ap:=(169,[.ptr P9 0,.sl 3 zk41 false],.mn [.sl 3 yf false,.mB])
theorem e169_3:Aq zff:=At (n:=400) NV Ay (by kernel_rfl)
end Go.Ab.mm
namespace Go.Ab.mm
open Go Go.Ab
def zfg:Ap:=(169,[.ptr [.sl 2 [] true,.bool false] 0,.sl 3 zk3 false],.mn [.sl 3 zk9 false,.mB])
theorem e169_1:Aq zfg:=At (n:=400) NV Ay (by kernel_rfl)
def zfh:Ap:=(169,[.ptr P9 0,.sl 3 [.agg Gw,.agg Lt,.agg Gr] false],.mn [.sl 3 zk17 false,.mB])
theorem e169_4:Aq zfh:=At (n:=400) NV Ay (by kernel_rfl)
end Go.Ab.mm
namespace Go.Ab.mm
open Go Go.Ab
def zfi:Ap:=(169,[.ptr P9 0,.sl 3 [.agg Gr] false],.mn [.sl 3 yj false,.mB])
theorem e169_2:Aq zfi:=At (n:=400) NV Ay (by kernel_rfl)
end Go.Ab.mm
namespace Go.Ab.mm
open Go Go.Ab
def knja:DS :=
 zfe :: zfg :: zfi :: zff :: zfh :: knj
theorem Vo:Dk BB Br knja:=Ao e169_0<|Ao e169_1<|Ao e169_2<|Ao e169_3<|Ao e169_4<|NV
end Go.Ab.mm

