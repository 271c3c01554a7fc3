/- Part 34 of a proof: laws of a machine. -/
import Derived.Test.YtpkicjjenbdejaaGreatDoorK33
set_option linter.all false

namespace Go.Proofs.YtpkicjjenbdejaaGreatDoor
open Go
set_option maxRecDepth 100000
theorem tie_6:varsNamedLaterB Tryz.prog (varsId Tryz.prog) M6=true:=by kernel_rfl
end Go.Proofs.YtpkicjjenbdejaaGreatDoor

