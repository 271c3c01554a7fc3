/- Part 40 of a proof: laws of a machine. -/
import Derived.Test.YtekfceoganklgaaGreatDoorK38
import Derived.KernelRfl
import Derived.Test.YtekfceoganklgaaGreatDoorK39
set_option linter.all false

namespace Go.Ab.mm
open Go Go.Ab
def zfF:F9:=(157,[.cells 0 [.int .i64 96],.arr 3 0 [.agg yh]],[.ref (0,0) 0,.agg zk92],⟨71,[(2,.ref (2,0) 0),(3,.ref (3,0) 0),(4,.ref (4,0) 0),(5,.ref (5,0) 0),(13,.fn 236 [.ptr zk133 0])],71,[(0,[.cells 0 [.int .i64 94],.arr 0 0 [],.arr 0 0 []]),(2,[.cells 0 P7]),(3,[.cells 0 zk133]),(4,[.cells 32 zk67]),(5,[.cells 42 [.mB]])],71,[(0,.arr (0,0) 1 0 0)]⟩,.mn [.agg zk67,.mB])
theorem j157_0:Ga zfF:=fun fn h=>by obtain rfl:Ot=fn:=ic h;exact Te (n:=400) EY Ay (by kernel_rfl)
end Go.Ab.mm
namespace Go.Ab.mm
open Go Go.Ab
def zfG:F9:=(157,[.cells 0 [.int .i64 92],.arr 3 0 [.agg J2]],[.ref (0,0) 0,.agg zk92],⟨71,[(2,.ref (2,0) 0),(3,.ref (3,0) 0),(4,.ref (4,0) 0),(5,.ref (5,0) 0),(13,.fn 236 [.ptr zk134 0])],71,[(0,[.cells 0 [.int .i64 90],.arr 0 0 [],.arr 0 0 []]),(2,[.cells 0 P7]),(3,[.cells 0 zk134]),(4,[.cells 32 zk68]),(5,[.cells 42 [.mB]])],71,[(0,.arr (0,0) 1 0 0)]⟩,.mn [.agg zk68,.mB])
theorem j157_1:Ga zfG:=fun fn h=>by obtain rfl:Ot=fn:=ic h;exact Te (n:=400) EY Ay (by kernel_rfl)
end Go.Ab.mm
namespace Go.Ab.mm
open Go Go.Ab
def zfH:F9:=(157,[.cells 0 [.int .i64 88],.arr 3 0 [.agg Lw]],[.ref (0,0) 0,.agg zk92],⟨71,[(2,.ref (2,0) 0),(3,.ref (3,0) 0),(4,.ref (4,0) 0),(5,.ref (5,0) 0),(13,.fn 236 [.ptr zk135 0])],71,[(0,[.cells 0 P6,.arr 0 0 [],.arr 0 0 []]),(2,[.cells 0 P7]),(3,[.cells 0 zk135]),(4,[.cells 32 yi]),(5,[.cells 42 [.mB]])],71,[(0,.arr (0,0) 1 0 0)]⟩,.mn [.agg yi,.mB])
theorem j157_2:Ga zfH:=fun fn h=>by obtain rfl:Ot=fn:=ic h;exact Te (n:=400) EY Ay (by kernel_rfl)
end Go.Ab.mm
namespace Go.Ab.mm
open Go Go.Ab
def kila:FL :=
 zfF :: zfG :: zfH :: kig
theorem R1:EU BB Br kila:=FD j157_0<|FD j157_1<|FD j157_2<|Ay
end Go.Ab.mm
namespace Go.Ab.mm
open Go Go.Ab
def zfI:F9:=(120,[.cells 0 GP,.arr 3 0 [.agg yh],.cells 0 Hb,.cells 146 FZ,.cells 0 [.int .i64 98]],[.ref (0,4) 0,.agg zdB,.arr (0,1) 3 0 1],⟨103,[(6,.ref (6,0) 0),(7,.mB)],103,[(0,[.cells 0 GP,.arr 0 0 [],.cells 0 Hb,.cells 146 FZ,.cells 0 [.int .i64 94]]),(6,[.cells 32 zk67])],103,[(0,.arr (0,0) 1 0 0),(2,.arr (0,2) 1 0 0),(3,.arr (0,3) 1 0 0),(4,.arr (0,4) 1 0 0)]⟩,.mn [.agg zk67,.mB])
theorem j120_2:Ga zfI:=fun fn h=>by obtain rfl:Ld=fn:=ic h;exact IC (n:=400) EY R1 (by kernel_rfl)
end Go.Ab.mm
namespace Go.Ab.mm
open Go Go.Ab
def zfJ:F9:=(120,[.cells 0 GP,.arr 3 0 [.agg J2],.cells 0 Hb,.cells 146 FZ,.cells 0 [.int .i64 94]],[.ref (0,4) 0,.agg zdB,.arr (0,1) 3 0 1],⟨103,[(6,.ref (6,0) 0),(7,.mB)],103,[(0,[.cells 0 GP,.arr 0 0 [],.cells 0 Hb,.cells 146 FZ,.cells 0 [.int .i64 90]]),(6,[.cells 32 zk68])],103,[(0,.arr (0,0) 1 0 0),(2,.arr (0,2) 1 0 0),(3,.arr (0,3) 1 0 0),(4,.arr (0,4) 1 0 0)]⟩,.mn [.agg zk68,.mB])
theorem j120_6:Ga zfJ:=fun fn h=>by obtain rfl:Ld=fn:=ic h;exact IC (n:=400) EY R1 (by kernel_rfl)
end Go.Ab.mm
namespace Go.Ab.mm
open Go Go.Ab
def bq:F9:=(120,[.cells 0 GP,.arr 3 0 [.agg Lw],.cells 0 Hb,.cells 146 FZ,.cells 0 [.int .i64 90]],[.ref (0,4) 0,.agg zdB,.arr (0,1) 3 0 1],⟨103,[(6,.ref (6,0) 0),(7,.mB)],103,[(0,[.cells 0 GP,.arr 0 0 [],.cells 0 Hb,.cells 146 FZ,.cells 0 P6]),(6,[.cells 32 yi])],103,[(0,.arr (0,0) 1 0 0),(2,.arr (0,2) 1 0 0),(3,.arr (0,3) 1 0 0),(4,.arr (0,4) 1 0 0)]⟩,.mn [.agg yi,.mB])
theorem j120_10:Ga bq:=fun fn h=>by obtain rfl:Ld=fn:=ic h;exact IC (n:=400) EY R1 (by kernel_rfl)
end Go.Ab.mm
namespace Go.Ab.mm
open Go Go.Ab
def kilc:FL :=
 zfI :: zfJ :: bq :: kila
theorem bg:EU BB Br kilc:=FD j120_2<|FD j120_6<|FD j120_10<|R1
end Go.Ab.mm

