/- Part 38 of a proof: laws of a machine. -/
import Derived.Test.YtekfceoganklgaaGreatDoorK37
import Derived.KernelRfl
set_option linter.all false

namespace Go.Ab.mm
open Go Go.Ab
def c43_0:Ap:=(43,[.sl 4 zk1 false],.sl 1 [.sl 3 zk0 false,.sl 3 zk2 false] false)
theorem e43_0:Aq c43_0:=At (n:=400) EI Ay (by kernel_rfl)
def zfq:Ap:=(103,[.sl 3 zk4 false],.mn [.agg zdF,.bool true])
theorem e103_2:Aq zfq:=At (n:=400) EI Ay (by kernel_rfl)
def c72_1:Ap:=(72,[.sl 4 zk69 false],.sl 1 [.mu] false)
theorem e72_1:Aq c72_1:=At (n:=400) EI Ay (by kernel_rfl)
def zfr:Ap:=(155,[.str [43],.agg yh,.agg zk141],.mn [.agg yi,.int .i64 0])
theorem e155_3:Aq zfr:=At (n:=400) EI Ay (by kernel_rfl)
def zfs:Ap:=(155,[.str [61],.agg Lw,.agg zdA],.mn zk85)
theorem e155_7:Aq zfs:=At (n:=400) EI Ay (by kernel_rfl)
end Go.Ab.mm
namespace Go.Ab.mm
open Go Go.Ab
def c43_1:Ap:=(43,[.sl 4 zk69 false],.sl 1 [.sl 3 zk9 false] false)
theorem e43_1:Aq c43_1:=At (n:=400) EI Ay (by kernel_rfl)
def zft:Ap:=(103,[.sl 3 zk11 false],.mn zk88)
theorem e103_3:Aq zft:=At (n:=400) EI Ay (by kernel_rfl)
def zfu:Ap:=(155,[.str [195,151],.agg yh,.agg J2],.mn [.agg zk67,.int .i64 0])
theorem e155_0:Aq zfu:=At (n:=400) EI Ay (by kernel_rfl)
def zfv:Ap:=(155,[.str [43],.agg J2,.agg Lw],.mn [.agg zk141,.int .i64 0])
theorem e155_4:Aq zfv:=At (n:=400) EI Ay (by kernel_rfl)
end Go.Ab.mm
namespace Go.Ab.mm
open Go Go.Ab
def zfw:Ap:=(103,[.sl 3 zk10 false],.mn zk88)
theorem e103_0:Aq zfw:=At (n:=400) EI Ay (by kernel_rfl)
def zfx:Ap:=(103,[.sl 3 zk9 false],.mn zk88)
theorem e103_4:Aq zfx:=At (n:=400) EI Ay (by kernel_rfl)
def zfy:Ap:=(155,[.str [195,151],.agg J2,.agg J2],.mn [.agg zk68,.int .i64 0])
theorem e155_1:Aq zfy:=At (n:=400) EI Ay (by kernel_rfl)
def zfz:Ap:=(155,[.str [61],.agg yh,.agg zdA],.mn zk85)
theorem e155_5:Aq zfz:=At (n:=400) EI Ay (by kernel_rfl)
end Go.Ab.mm
namespace Go.Ab.mm
open Go Go.Ab
def zfA:Ap:=(103,[.sl 3 yf false],.mn zk88)
theorem e103_1:Aq zfA:=At (n:=400) EI Ay (by kernel_rfl)
def c72_0:Ap:=(72,[.sl 4 zk1 false],.sl 1 [.sl 1 [.int .i64 0] false,.sl 1 [.int .i64 0] false] false)
theorem e72_0:Aq c72_0:=At (n:=400) EI Ay (by kernel_rfl)
def zfB:Ap:=(155,[.str [195,151],.agg Lw,.agg J2],.mn [.agg yi,.int .i64 0])
theorem e155_2:Aq zfB:=At (n:=400) EI Ay (by kernel_rfl)
def zfC:Ap:=(155,[.str [61],.agg J2,.agg zdA],.mn zk85)
theorem e155_6:Aq zfC:=At (n:=400) EI Ay (by kernel_rfl)
end Go.Ab.mm
namespace Go.Ab.mm
open Go Go.Ab
def knl:DS :=
 c43_0 :: c43_1 :: zfw :: zfA :: zfq :: zft :: zfx :: c72_0 :: c72_1 :: zfu :: zfy :: zfB :: zfr :: zfv :: zfz :: zfC :: zfs :: knka
theorem EY:Dk BB Br knl:=Ao e43_0<|Ao e43_1<|Ao e103_0<|Ao e103_1<|Ao e103_2<|Ao e103_3<|Ao e103_4<|Ao e72_0<|Ao e72_1<|Ao e155_0<|Ao e155_1<|Ao e155_2<|Ao e155_3<|Ao e155_4<|Ao e155_5<|Ao e155_6<|Ao e155_7<|EI
end Go.Ab.mm

