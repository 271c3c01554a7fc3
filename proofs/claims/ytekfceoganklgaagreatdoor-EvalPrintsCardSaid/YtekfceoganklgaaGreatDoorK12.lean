/- Part 12 of a proof: laws of a machine. -/
import Derived.Test.YtekfceoganklgaaGreatDoorK09
import Derived.KernelRfl
set_option linter.all false

namespace Go.Ab.mm
open Go Go.Ab
theorem zd2:(Ic (Dg (DM J5) (EM []) BB Br 400) 400 2 (Da 3 (Da 3 (Da 3 (Da 5 Gl.code)))) Zv).map (fun q=>Ss.of q.2.V)=some Zu:=by kernel_rfl
end Go.Ab.mm

