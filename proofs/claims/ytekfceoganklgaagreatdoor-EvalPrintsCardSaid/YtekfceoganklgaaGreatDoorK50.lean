/- Part 50 of a proof: laws of a machine. -/
import Derived.Test.YtekfceoganklgaaGreatDoorCards
import Derived.SevenTiedAt
import Derived.KernelRfl
set_option linter.all false

namespace Go.Proofs.YtekfceoganklgaaGreatDoor
open Go
set_option maxRecDepth 100000
theorem zfT:true=Tryz.prog.looks []:=by kernel_rfl
end Go.Proofs.YtekfceoganklgaaGreatDoor

