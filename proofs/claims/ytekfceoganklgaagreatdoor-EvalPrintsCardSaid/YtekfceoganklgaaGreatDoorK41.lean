/- Part 41 of a proof: laws of a machine. -/
import Derived.Test.YtekfceoganklgaaGreatDoorK40
import Derived.Test.YtekfceoganklgaaGreatDoorK39
import Derived.KernelRfl
set_option linter.all false

namespace Go.Ab.mm
open Go Go.Ab
def zfK:F9:=(158,[.cells 0 GP,.arr 3 0 [.agg yg],.cells 0 Hb,.cells 146 FZ,.cells 0 [.int .i64 98]],[.ref (0,4) 0,.agg zk143,.arr (0,1) 3 0 1],⟨118,[(6,.ref (6,0) 0),(7,.mB)],118,[(0,[.cells 0 GP,.arr 3 0 [.agg yg],.cells 0 Hb,.cells 146 FZ,.cells 0 P6]),(6,[.cells 32 zk63])],118,[(0,.arr (0,0) 1 0 0),(1,.arr (0,1) 1 0 0),(2,.arr (0,2) 1 0 0),(3,.arr (0,3) 1 0 0),(4,.arr (0,4) 1 0 0)]⟩,.mn [.agg zk63,.mB])
theorem j158_0:Ga zfK:=fun fn h=>by obtain rfl:Ti=fn:=ic h;exact IC (n:=400) EY bg (by kernel_rfl)
def kild:FL :=
 zfK :: kilc
theorem Vq:EU BB Br kild:=FD j158_0<|bg
end Go.Ab.mm
namespace Go.Ab.mm
open Go Go.Ab
def zfL:F9:=(120,[.cells 0 GP,.arr 3 0 [.agg Lw],.cells 0 Hb,.cells 146 FZ,.cells 0 SV],[.ref (0,4) 0,.agg [.sl 3 zk2 false,.int .i64 2,.ref (0,0) 0,.mu],.arr (0,1) 3 0 1],⟨103,[(6,.ref (6,0) 0),(7,.mB)],103,[(0,[.cells 0 GP,.arr 3 0 [.agg Lw],.cells 0 Hb,.cells 146 FZ,.cells 0 [.int .i64 99]]),(6,[.cells 32 yg])],103,[(0,.arr (0,0) 1 0 0),(1,.arr (0,1) 1 0 0),(2,.arr (0,2) 1 0 0),(3,.arr (0,3) 1 0 0),(4,.arr (0,4) 1 0 0)]⟩,.mn [.agg yg,.mB])
theorem j120_0:Ga zfL:=fun fn h=>by obtain rfl:Ld=fn:=ic h;exact IC (n:=400) EY Vq (by kernel_rfl)
end Go.Ab.mm
namespace Go.Ab.mm
open Go Go.Ab
def zfM:F9:=(120,[.cells 0 GP,.arr 3 0 [.agg yg],.cells 0 Hb,.cells 146 FZ,.cells 0 [.int .i64 99]],[.ref (0,4) 0,.agg zk143,.arr (0,1) 3 0 1],⟨103,[(6,.ref (6,0) 0),(7,.mB)],103,[(0,[.cells 0 GP,.arr 3 0 [.agg yg],.cells 0 Hb,.cells 146 FZ,.cells 0 P6]),(6,[.cells 32 zk63])],103,[(0,.arr (0,0) 1 0 0),(1,.arr (0,1) 1 0 0),(2,.arr (0,2) 1 0 0),(3,.arr (0,3) 1 0 0),(4,.arr (0,4) 1 0 0)]⟩,.mn [.agg zk63,.mB])
theorem j120_1:Ga zfM:=fun fn h=>by obtain rfl:Ld=fn:=ic h;exact IC (n:=400) EY Vq (by kernel_rfl)
end Go.Ab.mm
namespace Go.Ab.mm
open Go Go.Ab
def kile:FL :=
 zfL :: zfM :: kild
theorem Py:EU BB Br kile:=FD j120_0<|FD j120_1<|Vq
end Go.Ab.mm
namespace Go.Ab.mm
open Go Go.Ab
def i44_0:F9:=(44,[.cells 0 SV],[.ref (0,0) 0,.int .i64 0,.sl 3 zk0 false,.mJ],⟨74,[(8,.ref (8,0) 0),(9,.ref (0,1) 0)],74,[(0,[.cells 0 SV,.cells 0 GP,.cells 0 P7,.cells 146 FZ]),(8,[.cells 34 zk80])],74,[(0,.arr (0,0) 1 0 0)]⟩,.mn [.agg zk80,.ref (0,1) 0])
theorem j44_0:Ga i44_0:=fun fn h=>by obtain rfl:ML=fn:=ic h;exact IC (n:=400) EY Py (by kernel_rfl)
end Go.Ab.mm
namespace Go.Ab.mm
open Go Go.Ab
def i44_1:F9:=(44,[.cells 0 zk108,.cells 0 [.ref (0,3) 0],.cells 146 FZ,.cells 0 SV],[.ref (0,3) 0,.int .i64 0,.sl 3 zk2 false,.ref (0,0) 0],⟨74,[(8,.ref (8,0) 0),(9,.ref (0,0) 0)],74,[(0,[.cells 0 zk108,.cells 0 [.ref (0,3) 0],.cells 146 FZ,.cells 0 P6]),(8,[.cells 34 zk54])],74,[(0,.arr (0,0) 1 0 0),(1,.arr (0,1) 1 0 0),(2,.arr (0,2) 1 0 0),(3,.arr (0,3) 1 0 0)]⟩,.mn [.agg zk54,.ref (0,0) 0])
theorem j44_1:Ga i44_1:=fun fn h=>by obtain rfl:ML=fn:=ic h;exact IC (n:=400) EY Py (by kernel_rfl)
end Go.Ab.mm
namespace Go.Ab.mm
open Go Go.Ab
def i44_2:F9:=(44,[.cells 0 [.int .i64 1]],[.ref (0,0) 0,.int .i64 0,.sl 3 zk9 false,.mJ],⟨74,[(8,.ref (8,0) 0),(9,.mJ)],74,[(0,[.cells 0 [.int .i64 0]]),(8,[.cells 34 zk79])],74,[(0,.arr (0,0) 1 0 0)]⟩,.mn [.agg zk79,.mJ])
theorem j44_2:Ga i44_2:=fun fn h=>by obtain rfl:ML=fn:=ic h;exact IC (n:=400) EY Py (by kernel_rfl)
end Go.Ab.mm
namespace Go.Ab.mm
open Go Go.Ab
def i44_3:F9:=(44,[.cells 0 [.int .i64 3]],[.ref (0,0) 0,.int .i64 0,.sl 3 zk9 false,.mJ],⟨74,[(8,.ref (8,0) 0),(9,.mJ)],74,[(0,[.cells 0 [.int .i64 0]]),(8,[.cells 34 zk64])],74,[(0,.arr (0,0) 1 0 0)]⟩,.mn [.agg zk64,.mJ])
theorem j44_3:Ga i44_3:=fun fn h=>by obtain rfl:ML=fn:=ic h;exact IC (n:=400) EY Py (by kernel_rfl)
end Go.Ab.mm
namespace Go.Ab.mm
open Go Go.Ab
def kilb:FL :=
 i44_0 :: i44_1 :: i44_2 :: i44_3 :: kile
theorem L9:EU BB Br kilb:=FD j44_0<|FD j44_1<|FD j44_2<|FD j44_3<|Py
end Go.Ab.mm

