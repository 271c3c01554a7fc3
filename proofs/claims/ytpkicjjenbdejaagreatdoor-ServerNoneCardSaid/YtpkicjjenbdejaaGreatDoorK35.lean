/- Part 35 of a proof: laws of a machine. -/
import Derived.Test.YtpkicjjenbdejaaGreatDoorK33
set_option linter.all false

namespace Go.Proofs.YtpkicjjenbdejaaGreatDoor
open Go
set_option maxRecDepth 100000
theorem tie_7 (os:Os) (tape:Tape):doorLeaves Tryz.prog 400 8 65 M6 os tape=some (M6.filter fun x=>x.2.handleName?.isNone,(funcsListed M6).map (·.2.funcsOut)):=by kernel_rfl
end Go.Proofs.YtpkicjjenbdejaaGreatDoor

