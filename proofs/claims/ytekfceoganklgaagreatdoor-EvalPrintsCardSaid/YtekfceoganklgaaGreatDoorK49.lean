/- Part 49 of a proof: laws of a machine. -/
import Derived.Test.YtekfceoganklgaaGreatDoorCards
import Derived.SevenTiedAt
import Derived.KernelRfl
set_option linter.all false

namespace Go.Proofs.YtekfceoganklgaaGreatDoor
open Go
set_option maxRecDepth 100000
theorem hg_wf:Rows.evalPrintsRow.wfByText (OpenSpec.ofChange Rows.evalPrintsSpec)=true:=by kernel_rfl
theorem hg_main:Tryz.prog.mainIs=some (true, "fbfe4df6334c4b5246b8f337415e6f2e949d37f566d81ff75acf5d28b4e25bdd".toList):=by kernel_rfl
theorem hg_fn:Tryz.prog.funcNamed Tryz.f3.name=some 3:=by kernel_rfl
theorem br:Tryz.prog.wantsStandIn 22=false:=by kernel_rfl
end Go.Proofs.YtekfceoganklgaaGreatDoor

