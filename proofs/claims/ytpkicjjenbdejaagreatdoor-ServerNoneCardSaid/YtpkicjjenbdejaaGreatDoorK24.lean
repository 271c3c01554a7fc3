/- Part 24 of a proof: laws of a machine. -/
import Derived.Test.YtpkicjjenbdejaaGreatDoorK07
import Derived.Test.YtpkicjjenbdejaaGreatDoorK08
import Derived.Test.YtpkicjjenbdejaaGreatDoorK23
set_option linter.all false

namespace Go.Ab.fC
open Go Go.Ab
theorem sD:BG B0 .cl (.fn 4 []) []=some (.bool true):=by obtain⟨n,h⟩:=zA;exact W0 (by decide) h rfl rfl
theorem put0:∃ x,BG B0 .cl (.fn 7 []) [.str []]=some (.fM [.str x,.int .i64 0])/\0 < x.length:=by obtain⟨n,h⟩:=ev_put;exact⟨_,W0 (by decide) h rfl rfl,by decide⟩
theorem told_none:Told fn3 [.str]:=by rintro us ⟨_,_,rfl,⟨s,rfl,_⟩,rfl⟩;exact⟨rfl,bx rfl,yH sD put0 s⟩
end Go.Ab.fC

