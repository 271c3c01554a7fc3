/- Part 37 of a proof: laws of a machine. -/
import Derived.Test.YtekfceoganklgaaGreatDoorK36
import Derived.KernelRfl
set_option linter.all false

namespace Go.Ab.mm
open Go Go.Ab
def zfj:Ap:=(138,[.ptr P9 0,.sl 3 zk41 false],.mn [.sl 3 yf false,.mB])
theorem e138_0:Aq zfj:=At (n:=400) Vo Ay (by kernel_rfl)
end Go.Ab.mm
namespace Go.Ab.mm
open Go Go.Ab
def zfk:Ap:=(138,[.ptr P9 0,.sl 3 zk81 false],.mn [.sl 3 zk11 false,.mB])
theorem e138_1:Aq zfk:=At (n:=400) Vo Ay (by kernel_rfl)
end Go.Ab.mm
namespace Go.Ab.mm
open Go Go.Ab
def knjb:DS :=
 zfj :: zfk :: knja
theorem RY:Dk BB Br knjb:=Ao e138_0<|Ao e138_1<|Vo
end Go.Ab.mm
namespace Go.Ab.mm
open Go Go.Ab
def zfl:Ap:=(102,[.sl 3 MH false,.sl 2 [.agg zdF] false,.bool false],.mn [.sl 3 zk10 false,.int .i64 0])
theorem e102_0:Aq zfl:=At (n:=400) RY Ay (by kernel_rfl)
end Go.Ab.mm
namespace Go.Ab.mm
open Go Go.Ab
def zfm:Ap:=(102,[.sl 3 zk6 false,.sl 2 [] true,.bool false],.mn [.sl 3 zk4 false,.int .i64 0])
theorem e102_1:Aq zfm:=At (n:=400) RY Ay (by kernel_rfl)
end Go.Ab.mm
namespace Go.Ab.mm
open Go Go.Ab
def zfn:Ap:=(102,[.sl 3 zk3 false,.sl 2 [] true,.bool false],.mn [.sl 3 zk9 false,.int .i64 0])
theorem e102_2:Aq zfn:=At (n:=400) RY Ay (by kernel_rfl)
end Go.Ab.mm
namespace Go.Ab.mm
open Go Go.Ab
def knk:DS :=
 zfl :: zfm :: zfn :: knjb
theorem VX:Dk BB Br knk:=Ao e102_0<|Ao e102_1<|Ao e102_2<|RY
end Go.Ab.mm
namespace Go.Ab.mm
open Go Go.Ab
def zfo:Ap:=(101,[.sl 3 zk7 false],.mn zk136)
theorem e101_0:Aq zfo:=At (n:=400) VX Ay (by kernel_rfl)
def zfp:Ap:=(101,[.sl 3 zk56 false],.mn zdC)
theorem e101_1:Aq zfp:=At (n:=400) VX Ay (by kernel_rfl)
def knka:DS :=
 zfo :: zfp :: knk
theorem EI:Dk BB Br knka:=Ao e101_0<|Ao e101_1<|VX
end Go.Ab.mm

