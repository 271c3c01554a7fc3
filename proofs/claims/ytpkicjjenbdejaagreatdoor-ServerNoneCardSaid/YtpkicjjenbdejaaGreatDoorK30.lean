/- Part 30 of a proof: laws of a machine. -/
import Derived.Test.YtpkicjjenbdejaaGreatDoorCards
import Derived.SevenTiedAt
import Derived.KernelRfl
set_option linter.all false

namespace Go.Proofs.YtpkicjjenbdejaaGreatDoor
open Go
set_option maxRecDepth 100000
theorem hg_wf:Rows.serverNoneRow.wfByText (OpenSpec.ofChange Rows.serverNoneSpec)=true:=by kernel_rfl
theorem hg_main:Tryz.prog.mainIs=some (true, "d173d4e6fee26f23d29c88e18a172a3b95ed07b804eb056ac780e092814bde47".toList):=by kernel_rfl
theorem hg_fn:Tryz.prog.funcNamed Tryz.f3.name=some 3:=by kernel_rfl
theorem hg_want:Tryz.prog.wantsStandIn 9=false:=by kernel_rfl
end Go.Proofs.YtpkicjjenbdejaaGreatDoor

