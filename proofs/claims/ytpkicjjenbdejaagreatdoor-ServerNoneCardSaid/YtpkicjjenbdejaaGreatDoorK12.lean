/- Part 12 of a proof: laws of a machine. -/
import Derived.Test.YtpkicjjenbdejaaGreatDoorK10
import Derived.KernelRfl
import Derived.Test.YtpkicjjenbdejaaGreatDoorK11
set_option linter.all false

namespace Go.Ab.fC
open Go Go.Ab
theorem zu:(Ha (Dm (DU It) (DX []) Ay Au 400) 400 2 (CE 3 (CE 3 (CE 3 (CE 5 Fk.code)))) Xc).map (fun q=>Ss.of q.2.V)=some Xb:=by kernel_rfl
end Go.Ab.fC
namespace Go.Ab.fC
open Go Go.Ab
theorem zw:(Ha (Dm (DU It) (DX []) Ay Au 400) 400 1 (CE 2 (CE 3 (CE 3 (CE 3 (CE 5 Fk.code))))) Xb).map (fun q=>Ss.of q.2.V)=some Xa:=by kernel_rfl
end Go.Ab.fC
namespace Go.Ab.fC
open Go Go.Ab
theorem v378_0:(endS Fk (BL (Dm (DU It) (DX []) Ay Au 400) 400 (CE 1 (CE 2 (CE 3 (CE 3 (CE 3 (CE 5 Fk.code)))))) Ar 0 Xa ())).map (fun q=>(Ss.of q.1.V,q.2))=some (Hz.2.2.2.1,Hz.2.2.2.2):=by kernel_rfl
end Go.Ab.fC
namespace Go.Ab.fC
open Go Go.Ab
theorem j378_0:∀ fn,Au Hz.1=some fn->∃ n,Bq (Be Ay Au n) n fn Hz.2.1 Hz.2.2.1=some (Hz.2.2.2.1.V,Hz.2.2.2.2):=fun fn h=>by obtain rfl:Fk=fn:=bw h;exact io_cut IW C8 (by kernel_rfl) ((La _ _ _ _ _ _ zp).trans ((La _ _ _ _ _ _ zq).trans ((La _ _ _ _ _ _ zr).trans ((La _ _ _ _ _ _ zt).trans ((La _ _ _ _ _ _ zu).trans (La _ _ _ _ _ _ zw)))))) v378_0
def kiga:Ht :=
 Hz :: []
theorem Yo:Gc Ay Au kiga:=C7 j378_0<|C8
end Go.Ab.fC
namespace Go.Ab.fC
open Go Go.Ab
def LD:eU×fg×fa×Ss×PV:=(344,[.cells 0 [.int .u32 0,.int .i32 0,.int .u32 0,.fF,.gF]],[.ref (0,0) 0],⟨9,[(2,.ref (0,0) 0)],9,[(0,[.cells 0 [.int .u32 1,.int .i32 0,.int .u32 0,.arr (1,1) 3 0 38,.mp (1,2)]]),(1,[.cells 0 [.ref (0,0) 0],.arr 3 0 [.agg [.str [43],.str [],.int .i64 1],.agg [.str [45],.str [],.int .i64 1],.agg [.str [195,151],.str [120],.int .i64 1],.agg [.str [195,183],.str [100],.int .i64 1],.agg [.str [226,140,136],.str [117],.int .i64 1],.agg [.str [226,140,138],.str [110],.int .i64 1],.agg [.str [124],.str [],.int .i64 1],.agg [.str [61],.str [],.int .i64 1],.agg [.str [226,137,160],.str [113],.int .i64 1],.agg [.str [60],.str [],.int .i64 1],.agg [.str [62],.str [],.int .i64 1],.agg [.str [226,137,164],.str [108],.int .i64 1],.agg [.str [226,137,165],.str [103],.int .i64 1],.agg [.str [226,136,167],.str [97],.int .i64 1],.agg [.str [226,136,168],.str [111],.int .i64 1],.agg [.str [126],.str [],.int .i64 1],.agg [.str [226,141,180],.str [114],.int .i64 1],.agg [.str [226,141,179],.str [105],.int .i64 1],.agg [.str [44],.str [],.int .i64 1],.agg [.str [226,140,189],.str [116],.int .i64 1],.agg [.str [226,134,145],.str [107],.int .i64 1],.agg [.str [226,134,147],.str [106],.int .i64 1],.agg [.str [226,137,162],.str [109],.int .i64 1],.agg [.str [47],.str [],.int .i64 2],.agg [.str [92],.str [],.int .i64 2],.agg [.str [194,168],.str [101],.int .i64 2],.agg [.str [226,141,168],.str [99],.int .i64 2],.agg [.str [226,134,144],.str [115],.int .i64 3],.agg [.str [226,139,132],.str [122],.int .i64 3],.agg [.str [58],.str [],.int .i64 3],.agg [.str [123],.str [],.int .i64 3],.agg [.str [125],.str [],.int .i64 3],.agg [.str [40],.str [],.int .i64 3],.agg [.str [41],.str [],.int .i64 3],.agg [.str [226,141,186],.str [112],.int .i64 4],.agg [.str [226,141,181],.str [119],.int .i64 4],.agg [.str [194,175],.str [104],.int .i64 5],.agg [.str [226,141,157],.str [98],.int .i64 6]],.map [.str [43],.agg [.str [43],.str [],.int .i64 1],.str [45],.agg [.str [45],.str [],.int .i64 1],.str [195,151],.agg [.str [195,151],.str [120],.int .i64 1],.str [195,183],.agg [.str [195,183],.str [100],.int .i64 1],.str [226,140,136],.agg [.str [226,140,136],.str [117],.int .i64 1],.str [226,140,138],.agg [.str [226,140,138],.str [110],.int .i64 1],.str [124],.agg [.str [124],.str [],.int .i64 1],.str [61],.agg [.str [61],.str [],.int .i64 1],.str [226,137,160],.agg [.str [226,137,160],.str [113],.int .i64 1],.str [60],.agg [.str [60],.str [],.int .i64 1],.str [62],.agg [.str [62],.str [],.int .i64 1],.str [226,137,164],.agg [.str [226,137,164],.str [108],.int .i64 1],.str [226,137,165],.agg [.str [226,137,165],.str [103],.int .i64 1],.str [226,136,167],.agg [.str [226,136,167],.str [97],.int .i64 1],.str [226,136,168],.agg [.str [226,136,168],.str [111],.int .i64 1],.str [126],.agg [.str [126],.str [],.int .i64 1],.str [226,141,180],.agg [.str [226,141,180],.str [114],.int .i64 1],.str [226,141,179],.agg [.str [226,141,179],.str [105],.int .i64 1],.str [44],.agg [.str [44],.str [],.int .i64 1],.str [226,140,189],.agg [.str [226,140,189],.str [116],.int .i64 1],.str [226,134,145],.agg [.str [226,134,145],.str [107],.int .i64 1],.str [226,134,147],.agg [.str [226,134,147],.str [106],.int .i64 1],.str [226,137,162],.agg [.str [226,137,162],.str [109],.int .i64 1],.str [47],.agg [.str [47],.str [],.int .i64 2],.str [92],.agg [.str [92],.str [],.int .i64 2],.str [194,168],.agg [.str [194,168],.str [101],.int .i64 2],.str [226,141,168],.agg [.str [226,141,168],.str [99],.int .i64 2],.str [226,134,144],.agg [.str [226,134,144],.str [115],.int .i64 3],.str [226,139,132],.agg [.str [226,139,132],.str [122],.int .i64 3],.str [58],.agg [.str [58],.str [],.int .i64 3],.str [123],.agg [.str [123],.str [],.int .i64 3],.str [125],.agg [.str [125],.str [],.int .i64 3],.str [40],.agg [.str [40],.str [],.int .i64 3],.str [41],.agg [.str [41],.str [],.int .i64 3],.str [226,141,186],.agg [.str [226,141,186],.str [112],.int .i64 4],.str [226,141,181],.agg [.str [226,141,181],.str [119],.int .i64 4],.str [194,175],.agg [.str [194,175],.str [104],.int .i64 5],.str [226,141,157],.agg [.str [226,141,157],.str [98],.int .i64 6]]])],9,[(0,.arr (0,0) 1 0 0)]⟩,.ref (0,0) 0)
theorem j344_0:∀ fn,Au LD.1=some fn->∃ n,Bq (Be Ay Au n) n fn LD.2.1 LD.2.2.1=some (LD.2.2.2.1.V,LD.2.2.2.2):=fun fn h=>by obtain rfl:Rh=fn:=bw h;exact Dr (n:=400) IW Yo (by kernel_rfl)
def kig:Ht :=
 LD :: kiga
theorem Db:Gc Ay Au kig:=C7 j344_0<|Yo
end Go.Ab.fC

