/- Part 51 of a proof: laws of a machine. -/
import Derived.Test.YtekfceoganklgaaGreatDoorCards
import Derived.SevenTiedAt
import Derived.KernelRfl
set_option linter.all false

namespace Go.Proofs.YtekfceoganklgaaGreatDoor
open Go
set_option maxRecDepth 100000
theorem zfU:Tryz.prog.funcs.any Func.goes=false:=by kernel_rfl
theorem hg_each (g:FuncId):(Tryz.prog.funcs[g]?).any Func.goes=false:=by
 cases hg:Tryz.prog.funcs[g]? with
 | none=>rfl
 | some fn =>
  obtain⟨U,H⟩:=Array.getElem?_eq_some_iff.1 hg;have h3:=Array.any_eq_false.1 zfU g U;rw[H] at h3;simpa using h3
theorem hg_name:Tryz.prog.funcNamed Rows.evalPrintsRow.func=some 3:=by kernel_rfl
theorem hg_goes:false=Rows.evalPrintsRow.goesBy Tryz.prog:=by
 unfold OpenClaim.goesBy Program.goesAt Program.goesFrom;rw[hg_name];have h:Tryz.prog.goes 3=false:=by unfold Program.goes;rw[zfU,Bool.and_false,Bool.or_false];exact List.any_eq_false.2 fun g _=>by rw[hg_each];exact Bool.false_ne_true
 rw[Option.any_some,h];rfl
end Go.Proofs.YtekfceoganklgaaGreatDoor

