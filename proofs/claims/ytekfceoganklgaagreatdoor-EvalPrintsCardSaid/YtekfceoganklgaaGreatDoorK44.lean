/- Part 44 of a proof: laws of a machine. -/
import Derived.Test.YtekfceoganklgaaGreatDoorProg
import Derived.LaidLaws
import Derived.KernelRfl
set_option linter.all false

namespace Go.Ab.mm
open Go Go.Proofs
set_option maxRecDepth 100000
theorem pr_0:((List.range' 0 130).all fun u=>Tryz.prog.typeName? 3 u != some "*errors.errorString"||u==526)=true:=by kernel_rfl
theorem pr_1:((List.range' 130 130).all fun u=>Tryz.prog.typeName? 3 u != some "*errors.errorString"||u==526)=true:=by kernel_rfl
theorem pr_2:((List.range' 260 130).all fun u=>Tryz.prog.typeName? 3 u != some "*errors.errorString"||u==526)=true:=by kernel_rfl
theorem pr_3:((List.range' 390 130).all fun u=>Tryz.prog.typeName? 3 u != some "*errors.errorString"||u==526)=true:=by kernel_rfl
theorem pr_4:((List.range' 520 54).all fun u=>Tryz.prog.typeName? 3 u != some "*errors.errorString"||u==526)=true:=by kernel_rfl
end Go.Ab.mm

