/- Part 11 of a proof: laws of a machine. -/
import Derived.Test.YtpkicjjenbdejaaGreatDoorK10
import Derived.KernelRfl
set_option linter.all false

namespace Go.Ab.fC
open Go Go.Ab
theorem zp:(Ha (Dm (DU It) (DX []) Ay Au 400) 400 5 Fk.code (IX Fk.gone Fk.nt Hz.2.1 Hz.2.2.1)).map (fun q=>Ss.of q.2.V)=some Xf:=by kernel_rfl
end Go.Ab.fC
namespace Go.Ab.fC
open Go Go.Ab
theorem zq:(Ha (Dm (DU It) (DX []) Ay Au 400) 400 3 (CE 5 Fk.code) Xf).map (fun q=>Ss.of q.2.V)=some Xe:=by kernel_rfl
end Go.Ab.fC
namespace Go.Ab.fC
open Go Go.Ab
theorem zr:(Ha (Dm (DU It) (DX []) Ay Au 400) 400 3 (CE 3 (CE 5 Fk.code)) Xe).map (fun q=>Ss.of q.2.V)=some Xd:=by kernel_rfl
end Go.Ab.fC
namespace Go.Ab.fC
open Go Go.Ab
theorem zt:(Ha (Dm (DU It) (DX []) Ay Au 400) 400 3 (CE 3 (CE 3 (CE 5 Fk.code))) Xd).map (fun q=>Ss.of q.2.V)=some Xc:=by kernel_rfl
end Go.Ab.fC

