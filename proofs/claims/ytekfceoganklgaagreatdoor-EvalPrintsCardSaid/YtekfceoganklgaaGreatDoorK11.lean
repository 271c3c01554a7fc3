/- Part 11 of a proof: laws of a machine. -/
import Derived.Test.YtekfceoganklgaaGreatDoorK09
import Derived.KernelRfl
set_option linter.all false

namespace Go.Ab.mm
open Go Go.Ab
theorem zd0:(Ic (Dg (DM J5) (EM []) BB Br 400) 400 3 (Da 3 (Da 5 Gl.code)) Zx).map (fun q=>Ss.of q.2.V)=some Zw:=by kernel_rfl
end Go.Ab.mm
namespace Go.Ab.mm
open Go Go.Ab
theorem zd1:(Ic (Dg (DM J5) (EM []) BB Br 400) 400 3 (Da 3 (Da 3 (Da 5 Gl.code))) Zw).map (fun q=>Ss.of q.2.V)=some Zv:=by kernel_rfl
end Go.Ab.mm

