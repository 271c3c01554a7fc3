/- Part 25 of a proof: laws of a machine. -/
import Derived.Test.YtpkicjjenbdejaaGreatDoorProg
import Derived.LaidLaws
import Derived.KernelRfl
set_option linter.all false

namespace Go.Ab.fC
open Go Go.Proofs
set_option maxRecDepth 100000
theorem pr_0:((List.range' 0 130).all fun u=>Tryz.prog.typeName? 3 u != some "*errors.errorString"||u==489)=true:=by kernel_rfl
theorem pr_1:((List.range' 130 130).all fun u=>Tryz.prog.typeName? 3 u != some "*errors.errorString"||u==489)=true:=by kernel_rfl
theorem pr_2:((List.range' 260 130).all fun u=>Tryz.prog.typeName? 3 u != some "*errors.errorString"||u==489)=true:=by kernel_rfl
theorem pr_3:((List.range' 390 130).all fun u=>Tryz.prog.typeName? 3 u != some "*errors.errorString"||u==489)=true:=by kernel_rfl
theorem pr_4:((List.range' 520 130).all fun u=>Tryz.prog.typeName? 3 u != some "*errors.errorString"||u==489)=true:=by kernel_rfl
theorem pr_5:((List.range' 650 124).all fun u=>Tryz.prog.typeName? 3 u != some "*errors.errorString"||u==489)=true:=by kernel_rfl
end Go.Ab.fC

