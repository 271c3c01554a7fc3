/- Part 15 of a proof: laws of a machine. -/
import Derived.Test.YtpkicjjenbdejaaGreatDoorK14
import Derived.KernelRfl
set_option linter.all false

namespace Go.Ab.fC
open Go Go.Ab
def Ma:eU×fg×fa×Ss×PV:=(80,[.cells 0 [.str [123,34,117,114,105,34,58,34,97,34,44,34,116,101,120,116,34,58,34,49,43,50,34,125,125],.int .i64 1,.fR]],[.ref (0,0) 0,.int .i64 5,.str [125]],⟨100,[(6,.ref (6,0) 0)],100,[(0,[.cells 0 [.str [125],.int .i64 1,.fR],.arr 1 9 [.str [117,114,105],.str [116,101,120,116]]]),(3,[.cells 0 [.ref (0,0) 0]]),(6,[.cells 57 [.int .i64 5,.bool false,.int .i64 0,.str [],.arr (0,1) 1 0 2,.arr (7,1) 6 0 2]]),(7,[.cells 57 [.int .i64 5,.bool false,.int .i64 0,.str [],.arr (0,1) 1 0 2,.arr (7,1) 6 0 2],.arr 6 0 [.agg [.int .i64 3,.bool false,.int .i64 0,.str [97],.fF,.fF],.agg [.int .i64 3,.bool false,.int .i64 0,.str [49,43,50],.fF,.fF]]])],100,[(0,.arr (0,0) 1 0 0)]⟩,.agg [.int .i64 5,.bool false,.int .i64 0,.str [],.arr (0,1) 1 0 2,.arr (7,1) 6 0 2])
theorem j80_1:∀ fn,Au Ma.1=some fn->∃ n,Bq (Be Ay Au n) n fn Ma.2.1 Ma.2.2.1=some (Ma.2.2.2.1.V,Ma.2.2.2.2):=fun fn h=>by obtain rfl:Kt=fn:=bw h;exact Dr (n:=400) Bt Tt (by kernel_rfl)
end Go.Ab.fC
namespace Go.Ab.fC
open Go Go.Ab
def L8:eU×fg×fa×Ss×PV:=(80,[.cells 0 [.str [123,34,117,114,105,34,58,34,97,34,44,34,102,117,101,108,34,58,57,125,125],.int .i64 1,.fR]],[.ref (0,0) 0,.int .i64 5,.str [125]],⟨100,[(6,.ref (6,0) 0)],100,[(0,[.cells 0 [.str [125],.int .i64 1,.fR],.arr 1 9 [.str [117,114,105],.str [102,117,101,108]]]),(3,[.cells 0 [.ref (0,0) 0]]),(6,[.cells 57 [.int .i64 5,.bool false,.int .i64 0,.str [],.arr (0,1) 1 0 2,.arr (7,1) 6 0 2]]),(7,[.cells 57 [.int .i64 5,.bool false,.int .i64 0,.str [],.arr (0,1) 1 0 2,.arr (7,1) 6 0 2],.arr 6 0 [.agg [.int .i64 3,.bool false,.int .i64 0,.str [97],.fF,.fF],.agg [.int .i64 2,.bool false,.int .i64 9,.str [],.fF,.fF]]])],100,[(0,.arr (0,0) 1 0 0)]⟩,.agg [.int .i64 5,.bool false,.int .i64 0,.str [],.arr (0,1) 1 0 2,.arr (7,1) 6 0 2])
theorem j80_3:∀ fn,Au L8.1=some fn->∃ n,Bq (Be Ay Au n) n fn L8.2.1 L8.2.2.1=some (L8.2.2.2.1.V,L8.2.2.2.2):=fun fn h=>by obtain rfl:Kt=fn:=bw h;exact Dr (n:=400) Bt Tt (by kernel_rfl)
end Go.Ab.fC
namespace Go.Ab.fC
open Go Go.Ab
def kihb:Ht :=
 Ma :: L8 :: kiha
theorem Ts:Gc Ay Au kihb:=C7 j80_1<|C7 j80_3<|Tt
end Go.Ab.fC

