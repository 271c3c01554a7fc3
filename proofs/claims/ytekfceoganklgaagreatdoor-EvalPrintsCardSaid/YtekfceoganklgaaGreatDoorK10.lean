/- Part 10 of a proof: laws of a machine. -/
import Derived.Test.YtekfceoganklgaaGreatDoorK09
import Derived.KernelRfl
set_option linter.all false

namespace Go.Ab.mm
open Go Go.Ab
theorem zdX:(Ic (Dg (DM J5) (EM []) BB Br 400) 400 5 Gl.code (Kz Gl.gone Gl.nt NY.2.1 NY.2.2.1)).map (fun q=>Ss.of q.2.V)=some Zy:=by kernel_rfl
end Go.Ab.mm
namespace Go.Ab.mm
open Go Go.Ab
theorem zdY:(Ic (Dg (DM J5) (EM []) BB Br 400) 400 3 (Da 5 Gl.code) Zy).map (fun q=>Ss.of q.2.V)=some Zx:=by kernel_rfl
end Go.Ab.mm
namespace Go.Ab.mm
open Go Go.Ab
theorem zdZ:(Ic (Dg (DM J5) (EM []) BB Br 400) 400 1 (Da 2 (Da 3 (Da 3 (Da 3 (Da 5 Gl.code))))) Zu).map (fun q=>Ss.of q.2.V)=some Zt:=by kernel_rfl
end Go.Ab.mm
namespace Go.Ab.mm
open Go Go.Ab
theorem v366_0:(endS Gl (B5 (Dg (DM J5) (EM []) BB Br 400) 400 (Da 1 (Da 2 (Da 3 (Da 3 (Da 3 (Da 5 Gl.code)))))) AL 0 Zt ())).map (fun q=>(Ss.of q.1.V,q.2))=some (NY.2.2.2.1,NY.2.2.2.2):=by kernel_rfl
end Go.Ab.mm

