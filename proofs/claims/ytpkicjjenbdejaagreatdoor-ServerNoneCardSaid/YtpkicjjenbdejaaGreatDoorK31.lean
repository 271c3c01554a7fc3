/- Part 31 of a proof: laws of a machine. -/
import Derived.Test.YtpkicjjenbdejaaGreatDoorCards
import Derived.SevenTiedAt
import Derived.KernelRfl
set_option linter.all false

namespace Go.Proofs.YtpkicjjenbdejaaGreatDoor
open Go
set_option maxRecDepth 100000
theorem zap:true=Tryz.prog.looks []:=by kernel_rfl
end Go.Proofs.YtpkicjjenbdejaaGreatDoor

