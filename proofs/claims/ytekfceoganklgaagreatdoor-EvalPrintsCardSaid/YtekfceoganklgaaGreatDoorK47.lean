/- Part 47 of a proof: laws of a machine. -/
import Derived.Test.YtekfceoganklgaaGreatDoorRows
import Derived.JoinedOf
import Derived.KernelRfl
set_option linter.all false

namespace Go.Ab.mm
open Go Go.Proofs Go.Proofs.YtekfceoganklgaaGreatDoor
set_option maxRecDepth 100000
theorem BK {a b:Bool} (ha:a=true) (hb:b=true):(a&&b)=true:=by rw[ha,hb];rfl
theorem jf_0:((List.range' 0 100).all (rowFine Tryz.prog))=true:=by kernel_rfl
theorem jf_1:((List.range' 100 100).all (rowFine Tryz.prog))=true:=by kernel_rfl
theorem jf_2:((List.range' 200 100).all (rowFine Tryz.prog))=true:=by kernel_rfl
theorem jf_3:((List.range' 300 100).all (rowFine Tryz.prog))=true:=by kernel_rfl
theorem jf_4:((List.range' 400 100).all (rowFine Tryz.prog))=true:=by kernel_rfl
theorem jf_5:((List.range' 500 74).all (rowFine Tryz.prog))=true:=by kernel_rfl
theorem jf_g:(Tryz.prog.globals.all fun g=>decide (g.type < Tryz.prog.types.size))=true:=by kernel_rfl
theorem jf_f:(Tryz.prog.funcs.all fun f=>f.params.all fun t=>decide (t < Tryz.prog.types.size))=true:=by kernel_rfl
theorem p_size2:Tryz.prog.types.size=574:=by kernel_rfl
theorem jf_l:List.range Tryz.prog.types.size=List.range' 0 100++(List.range' 100 100++(List.range' 200 100++(List.range' 300 100++(List.range' 400 100++(List.range' 500 74))))):=by rw[p_size2];kernel_rfl
theorem jp_1:(laidOutB Tryz.prog)=true:=by unfold laidOutB;refine BK (BK ?_ jf_g) jf_f;rw[jf_l];simp only[List.all_append];exact BK jf_0 (BK jf_1 (BK jf_2 (BK jf_3 (BK jf_4 jf_5))))
theorem jp_2:(mapsRowed Tryz.prog)=true:=by kernel_rfl
theorem jp_6:((Tryz.prog.stops==[]))=true:=by kernel_rfl
theorem jp_8:((Tryz.prog.stopKnobs==[]))=true:=by kernel_rfl
theorem jp_24:(Tryz.prog.stopsHeard)=true:=by kernel_rfl
theorem jp_25:(Tryz.prog.mayEnter)=true:=by kernel_rfl
end Go.Ab.mm

