/- Part 45 of a proof: laws of a machine. -/
import Derived.Test.YtekfceoganklgaaGreatDoorProg
import Derived.LaidLaws
import Derived.KernelRfl
set_option linter.all false

namespace Go.Ab.mm
open Go Go.Proofs
set_option maxRecDepth 100000
theorem pn_0:((List.range' 0 130).all fun e=>Tryz.prog.typeName? 2 e != some "errors.errorString"||(match (Tryz.prog.info? e).map (·.desc) with | some (TypeDesc.named _ _)=>true | _=>false))=true:=by kernel_rfl
theorem pn_1:((List.range' 130 130).all fun e=>Tryz.prog.typeName? 2 e != some "errors.errorString"||(match (Tryz.prog.info? e).map (·.desc) with | some (TypeDesc.named _ _)=>true | _=>false))=true:=by kernel_rfl
theorem pn_2:((List.range' 260 130).all fun e=>Tryz.prog.typeName? 2 e != some "errors.errorString"||(match (Tryz.prog.info? e).map (·.desc) with | some (TypeDesc.named _ _)=>true | _=>false))=true:=by kernel_rfl
theorem pn_3:((List.range' 390 130).all fun e=>Tryz.prog.typeName? 2 e != some "errors.errorString"||(match (Tryz.prog.info? e).map (·.desc) with | some (TypeDesc.named _ _)=>true | _=>false))=true:=by kernel_rfl
theorem pn_4:((List.range' 520 54).all fun e=>Tryz.prog.typeName? 2 e != some "errors.errorString"||(match (Tryz.prog.info? e).map (·.desc) with | some (TypeDesc.named _ _)=>true | _=>false))=true:=by kernel_rfl
end Go.Ab.mm

