/- Part 13 of a proof: laws of a machine. -/
import Derived.Test.YtekfceoganklgaaGreatDoorK10
import Derived.Test.YtekfceoganklgaaGreatDoorK11
import Derived.Test.YtekfceoganklgaaGreatDoorK12
import Derived.KernelRfl
set_option linter.all false

namespace Go.Ab.mm
open Go Go.Ab
theorem j366_0:Ga NY:=fun fn h=>by obtain rfl:Gl=fn:=ic h;exact io_cut BG Eb (by kernel_rfl) ((NB _ _ _ _ _ _ zdX).trans ((NB _ _ _ _ _ _ zdY).trans ((NB _ _ _ _ _ _ zd0).trans ((NB _ _ _ _ _ _ zd1).trans ((NB _ _ _ _ _ _ zd2).trans (NB _ _ _ _ _ _ zdZ)))))) v366_0
def kiga:FL :=
 NY :: []
theorem bh:EU BB Br kiga:=FD j366_0<|Eb
end Go.Ab.mm
namespace Go.Ab.mm
open Go Go.Ab
def zd3:F9:=(351,[.cells 0 [.int .u32 0,.int .i32 0,.int .u32 0,.mu,.ni]],[.ref (0,0) 0],⟨9,[(2,.ref (0,0) 0)],9,[(0,[.cells 0 [.int .u32 1,.int .i32 0,.int .u32 0,.arr (1,1) 3 0 38,.mp (1,2)]]),(1,[.cells 0 P7,.arr 3 0 zk8,.map [.str [43],.agg Fp,.str [45],.agg Fm,.str [195,151],.agg Fu,.str [195,183],.agg Ft,.str IK,.agg Fx,.str IJ,.agg Fw,.str [124],.agg Fs,.str [61],.agg Fq,.str II,.agg Fv,.str [60],.agg Gp,.str [62],.agg Gn,.str JL,.agg Gv,.str JK,.agg Gu,.str JJ,.agg Gs,.str JI,.agg Gt,.str [126],.agg Gq,.str KZ,.agg Hf,.str CT,.agg He,.str [44],.agg Hc,.str K3,.agg Hj,.str K2,.agg Hi,.str K1,.agg Hh,.str K0,.agg Hg,.str [47],.agg IW,.str [92],.agg IV,.str [194,168],.agg IX,.str Mr,.agg IY,.str FQ,.agg I4,.str FY,.agg IZ,.str [58],.agg Lp,.str [123],.agg Lr,.str [125],.agg Lq,.str [40],.agg Lo,.str [41],.agg Ln,.str N5,.agg Lv,.str Dc,.agg Lu,.str [194,175],.agg ye,.str [226,141,157],.agg SX]])],9,[(0,.arr (0,0) 1 0 0)]⟩,.ref (0,0) 0)
theorem j351_0:Ga zd3:=fun fn h=>by obtain rfl:Th=fn:=ic h;exact Te (n:=400) BG bh (by kernel_rfl)
def kig:FL :=
 zd3 :: kiga
theorem Ay:EU BB Br kig:=FD j351_0<|bh
end Go.Ab.mm

