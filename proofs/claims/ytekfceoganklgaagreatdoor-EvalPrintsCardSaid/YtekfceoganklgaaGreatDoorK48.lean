/- Part 48 of a proof: laws of a machine. -/
import Derived.Test.YtekfceoganklgaaGreatDoorCards
import Derived.JoinedOf
import Derived.KernelRfl
set_option linter.all false

namespace Go.Proofs.YtekfceoganklgaaGreatDoor
open Go
set_option maxRecDepth 100000
theorem yn:(Rows.evalPrintsRow.wf (OpenSpec.ofChange Rows.evalPrintsSpec))=true:=by kernel_rfl
theorem yo:(Tryz.f3.params.all (Tryz.prog.readableRec ·))=true:=by kernel_rfl
theorem yp:(namedTie Tryz.prog Rows.evalPrintsRow.named Rows.evalPrintsSpec.vars)=true:=by kernel_rfl
theorem yq:((Rows.evalPrintsRow.stops==[]))=true:=by kernel_rfl
theorem yr:((Rows.evalPrintsRow.knobs==[]))=true:=by kernel_rfl
theorem yu:((Rows.evalPrintsRow.inPlace==Tryz.prog.inPlace 3))=true:=by kernel_rfl
theorem gF:((Rows.evalPrintsRow.unfollowed==Tryz.prog.unfollowed 3))=true:=by kernel_rfl
theorem gE:((Rows.evalPrintsRow.recurses==Tryz.prog.recurses 3))=true:=by kernel_rfl
theorem gD:((Rows.evalPrintsRow.named==Tryz.prog.varsNamed 3))=true:=by kernel_rfl
theorem gC:((Rows.evalPrintsRow.maps==(Tryz.f3.params.toList++Rows.evalPrintsSpec.plain.varTypes Tryz.prog).any (Tryz.prog.mapsRec ·)))=true:=by kernel_rfl
theorem gB:((Rows.evalPrintsRow.ifaces==(Tryz.f3.params.toList++Rows.evalPrintsSpec.plain.varTypes Tryz.prog).any (Tryz.prog.ifacesRec ·)))=true:=by kernel_rfl
theorem gA:((Rows.evalPrintsRow.mapsOut==Tryz.prog.mapsAmong Tryz.f3.resultTypes.toList))=true:=by kernel_rfl
theorem gz:((Rows.evalPrintsRow.loops==(Tryz.f3.params.toList++Rows.evalPrintsSpec.plain.varTypes Tryz.prog).any (Tryz.prog.loopsFrom ·)))=true:=by kernel_rfl
theorem gy:((Rows.evalPrintsRow.wideKeys==(Tryz.f3.params.toList++Rows.evalPrintsSpec.plain.varTypes Tryz.prog++Tryz.f3.resultTypes.toList).any (Tryz.prog.wideKeysFrom ·)))=true:=by kernel_rfl
theorem gx:(Rows.evalPrintsSpec.vars.all (Tryz.prog.varReadable ·))=true:=by kernel_rfl
theorem gw:(Tryz.f3.resultTypes.all fun t=>Tryz.prog.readableRec t&&decide (t < Tryz.prog.types.size))=true:=by kernel_rfl
theorem gv:((Rows.evalPrintsRow.ifacesOut==Tryz.f3.resultTypes.toList.any (Tryz.prog.ifacesRec ·)))=true:=by kernel_rfl
theorem gr:((Rows.evalPrintsRow.loopsOut==Tryz.f3.resultTypes.toList.any (Tryz.prog.loopsFrom ·)))=true:=by kernel_rfl
theorem gq:((Rows.evalPrintsRow.plainKeys==Tryz.prog.plainKeys))=true:=by kernel_rfl
theorem gp:(Rows.evalPrintsRow.shortTexts.isNone)=true:=by kernel_rfl
theorem gk:((Rows.evalPrintsRow.lifted==Tryz.prog.liftsFinal))=true:=by kernel_rfl
theorem gj:((Tryz.prog.make==some Rows.evalPrintsRow.make))=true:=by kernel_rfl
theorem gi:((Rows.evalPrintsRow.kinds==(if Rows.evalPrintsRow.domain.isEmpty then [] else Tryz.f3.params.toList.map fun t=>match Tryz.prog.underlying t with | some (.int k)=>some k | _=>none)))=true:=by kernel_rfl
theorem gh:((Rows.evalPrintsRow.pinned==Rows.evalPrintsRow.pinnedBy))=true:=by kernel_rfl
theorem gg:((Rows.evalPrintsRow.veiled==(Tryz.f3.params.toList++Rows.evalPrintsSpec.plain.varTypes Tryz.prog++Tryz.f3.resultTypes.toList).any (Tryz.prog.veiledRec ·)))=true:=by kernel_rfl
theorem gf:(Rows.evalPrintsRow.veiledFits Tryz.prog Tryz.f3.params.toList (Tryz.f3.params.toList++Rows.evalPrintsSpec.plain.varTypes Tryz.prog++Tryz.f3.resultTypes.toList))=true:=by kernel_rfl
end Go.Proofs.YtekfceoganklgaaGreatDoor

