/- Part 16 of a proof: laws of a machine. -/
import Derived.Test.YtpkicjjenbdejaaGreatDoorK15
import Derived.KernelRfl
set_option linter.all false

namespace Go.Ab.fC
open Go Go.Ab
def Mb:eU×fg×fa×Ss×PV:=(80,[.cells 0 [.str [123,34,105,100,34,58,49,44,34,109,101,116,104,111,100,34,58,34,111,112,101,110,34,44,34,112,97,114,97,109,115,34,58,123,34,117,114,105,34,58,34,97,34,44,34,116,101,120,116,34,58,34,49,43,50,34,125,125],.int .i64 0,.fR]],[.ref (0,0) 0,.int .i64 5,.str [125]],⟨100,[(6,.ref (6,0) 0)],100,[(0,[.cells 0 [.str [],.int .i64 0,.fR],.arr 1 9 [.str [105,100],.str [109,101,116,104,111,100],.str [112,97,114,97,109,115]]]),(3,[.cells 0 [.ref (0,0) 0]]),(6,[.cells 57 [.int .i64 5,.bool false,.int .i64 0,.str [],.arr (0,1) 1 0 3,.arr (7,1) 6 0 3]]),(7,[.cells 57 [.int .i64 5,.bool false,.int .i64 0,.str [],.arr (0,1) 1 0 3,.arr (7,1) 6 0 3],.arr 6 0 [.agg [.int .i64 2,.bool false,.int .i64 1,.str [],.fF,.fF],.agg [.int .i64 3,.bool false,.int .i64 0,.str [111,112,101,110],.fF,.fF],.agg [.int .i64 5,.bool false,.int .i64 0,.str [],.sl 1 [.str [117,114,105],.str [116,101,120,116]] false,.sl 6 [.agg [.int .i64 3,.bool false,.int .i64 0,.str [97],.fF,.fF],.agg [.int .i64 3,.bool false,.int .i64 0,.str [49,43,50],.fF,.fF]] false]]])],100,[(0,.arr (0,0) 1 0 0)]⟩,.agg [.int .i64 5,.bool false,.int .i64 0,.str [],.arr (0,1) 1 0 3,.arr (7,1) 6 0 3])
theorem j80_0:∀ fn,Au Mb.1=some fn->∃ n,Bq (Be Ay Au n) n fn Mb.2.1 Mb.2.2.1=some (Mb.2.2.2.1.V,Mb.2.2.2.2):=fun fn h=>by obtain rfl:Kt=fn:=bw h;exact Dr (n:=400) Bt Ts (by kernel_rfl)
end Go.Ab.fC
namespace Go.Ab.fC
open Go Go.Ab
def L9:eU×fg×fa×Ss×PV:=(80,[.cells 0 [.str [123,34,105,100,34,58,50,44,34,109,101,116,104,111,100,34,58,34,101,118,97,108,34,44,34,112,97,114,97,109,115,34,58,123,34,117,114,105,34,58,34,97,34,44,34,102,117,101,108,34,58,57,125,125],.int .i64 0,.fR]],[.ref (0,0) 0,.int .i64 5,.str [125]],⟨100,[(6,.ref (6,0) 0)],100,[(0,[.cells 0 [.str [],.int .i64 0,.fR],.arr 1 9 [.str [105,100],.str [109,101,116,104,111,100],.str [112,97,114,97,109,115]]]),(3,[.cells 0 [.ref (0,0) 0]]),(6,[.cells 57 [.int .i64 5,.bool false,.int .i64 0,.str [],.arr (0,1) 1 0 3,.arr (7,1) 6 0 3]]),(7,[.cells 57 [.int .i64 5,.bool false,.int .i64 0,.str [],.arr (0,1) 1 0 3,.arr (7,1) 6 0 3],.arr 6 0 [.agg [.int .i64 2,.bool false,.int .i64 2,.str [],.fF,.fF],.agg [.int .i64 3,.bool false,.int .i64 0,.str [101,118,97,108],.fF,.fF],.agg [.int .i64 5,.bool false,.int .i64 0,.str [],.sl 1 [.str [117,114,105],.str [102,117,101,108]] false,.sl 6 [.agg [.int .i64 3,.bool false,.int .i64 0,.str [97],.fF,.fF],.agg [.int .i64 2,.bool false,.int .i64 9,.str [],.fF,.fF]] false]]])],100,[(0,.arr (0,0) 1 0 0)]⟩,.agg [.int .i64 5,.bool false,.int .i64 0,.str [],.arr (0,1) 1 0 3,.arr (7,1) 6 0 3])
theorem j80_2:∀ fn,Au L9.1=some fn->∃ n,Bq (Be Ay Au n) n fn L9.2.1 L9.2.2.1=some (L9.2.2.2.1.V,L9.2.2.2.2):=fun fn h=>by obtain rfl:Kt=fn:=bw h;exact Dr (n:=400) Bt Ts (by kernel_rfl)
end Go.Ab.fC
namespace Go.Ab.fC
open Go Go.Ab
def kihc:Ht :=
 Mb :: L9 :: kihb
theorem Bp:Gc Ay Au kihc:=C7 j80_0<|C7 j80_2<|Ts
end Go.Ab.fC

