/- Part 29 of a proof: laws of a machine. -/
import Derived.Test.YtpkicjjenbdejaaGreatDoorCards
import Derived.JoinedOf
import Derived.KernelRfl
set_option linter.all false

namespace Go.Proofs.YtpkicjjenbdejaaGreatDoor
open Go
set_option maxRecDepth 100000
theorem jnone_0:(Rows.serverNoneRow.wf (OpenSpec.ofChange Rows.serverNoneSpec))=true:=by kernel_rfl
theorem jnone_3:(Tryz.f3.params.all (Tryz.prog.readableRec ·))=true:=by kernel_rfl
theorem jnone_4:(namedTie Tryz.prog Rows.serverNoneRow.named Rows.serverNoneSpec.vars)=true:=by kernel_rfl
theorem jnone_5:((Rows.serverNoneRow.stops==[]))=true:=by kernel_rfl
theorem jnone_7:((Rows.serverNoneRow.knobs==[]))=true:=by kernel_rfl
theorem jnone_9:((Rows.serverNoneRow.inPlace==Tryz.prog.inPlace 3))=true:=by kernel_rfl
theorem zZ:((Rows.serverNoneRow.unfollowed==Tryz.prog.unfollowed 3))=true:=by kernel_rfl
theorem z1:((Rows.serverNoneRow.recurses==Tryz.prog.recurses 3))=true:=by kernel_rfl
theorem z6:((Rows.serverNoneRow.named==Tryz.prog.varsNamed 3))=true:=by kernel_rfl
theorem z7:((Rows.serverNoneRow.maps==(Tryz.f3.params.toList++Rows.serverNoneSpec.plain.varTypes Tryz.prog).any (Tryz.prog.mapsRec ·)))=true:=by kernel_rfl
theorem z8:((Rows.serverNoneRow.ifaces==(Tryz.f3.params.toList++Rows.serverNoneSpec.plain.varTypes Tryz.prog).any (Tryz.prog.ifacesRec ·)))=true:=by kernel_rfl
theorem zaa:((Rows.serverNoneRow.mapsOut==Tryz.prog.mapsAmong Tryz.f3.resultTypes.toList))=true:=by kernel_rfl
theorem zab:((Rows.serverNoneRow.loops==(Tryz.f3.params.toList++Rows.serverNoneSpec.plain.varTypes Tryz.prog).any (Tryz.prog.loopsFrom ·)))=true:=by kernel_rfl
theorem zac:((Rows.serverNoneRow.wideKeys==(Tryz.f3.params.toList++Rows.serverNoneSpec.plain.varTypes Tryz.prog++Tryz.f3.resultTypes.toList).any (Tryz.prog.wideKeysFrom ·)))=true:=by kernel_rfl
theorem zad:(Rows.serverNoneSpec.vars.all (Tryz.prog.varReadable ·))=true:=by kernel_rfl
theorem zae:(Tryz.f3.resultTypes.all fun t=>Tryz.prog.readableRec t&&decide (t < Tryz.prog.types.size))=true:=by kernel_rfl
theorem zaf:((Rows.serverNoneRow.ifacesOut==Tryz.f3.resultTypes.toList.any (Tryz.prog.ifacesRec ·)))=true:=by kernel_rfl
theorem zag:((Rows.serverNoneRow.loopsOut==Tryz.f3.resultTypes.toList.any (Tryz.prog.loopsFrom ·)))=true:=by kernel_rfl
theorem zah:((Rows.serverNoneRow.plainKeys==Tryz.prog.plainKeys))=true:=by kernel_rfl
theorem zai:(Rows.serverNoneRow.shortTexts.isNone)=true:=by kernel_rfl
theorem zaj:((Rows.serverNoneRow.lifted==Tryz.prog.liftsFinal))=true:=by kernel_rfl
theorem zak:((Tryz.prog.make==some Rows.serverNoneRow.make))=true:=by kernel_rfl
theorem zal:((Rows.serverNoneRow.kinds==(if Rows.serverNoneRow.domain.isEmpty then [] else Tryz.f3.params.toList.map fun t=>match Tryz.prog.underlying t with | some (.int k)=>some k | _=>none)))=true:=by kernel_rfl
theorem zam:((Rows.serverNoneRow.pinned==Rows.serverNoneRow.pinnedBy))=true:=by kernel_rfl
theorem zan:((Rows.serverNoneRow.veiled==(Tryz.f3.params.toList++Rows.serverNoneSpec.plain.varTypes Tryz.prog++Tryz.f3.resultTypes.toList).any (Tryz.prog.veiledRec ·)))=true:=by kernel_rfl
theorem zao:(Rows.serverNoneRow.veiledFits Tryz.prog Tryz.f3.params.toList (Tryz.f3.params.toList++Rows.serverNoneSpec.plain.varTypes Tryz.prog++Tryz.f3.resultTypes.toList))=true:=by kernel_rfl
end Go.Proofs.YtpkicjjenbdejaaGreatDoor

