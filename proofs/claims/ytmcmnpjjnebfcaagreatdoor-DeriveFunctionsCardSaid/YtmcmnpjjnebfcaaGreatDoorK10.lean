/-
  Part 10 of a proof: a machine of our own for the given program, its laws, and what it says of the program. Nothing here is a claim by itself.
-/
import Derived.Test.YtmcmnpjjnebfcaaGreatDoorK05
import Derived.Test.YtmcmnpjjnebfcaaGreatDoorK09
import Derived.Test.YtmcmnpjjnebfcaaGreatDoorK08
import Derived.KernelRfl
set_option linter.all false

namespace Go.Ab.Derive2
open Go Go.Ab
theorem shown_run:Ax B0 .cl (.fn 4 []) []=some (.bool true):=by
 obtain⟨n,h⟩:=ev_shown;exact Pp (by decide) h rfl rfl
def Arr.cut (a:Arr):Arr:=⟨a.li,a.ru,a.n.take 40⟩
end Go.Ab.Derive2


namespace Go.Ab.Derive2
open Go Go.Ab
end Go.Ab.Derive2


namespace Go.Ab.Derive2
open Go Go.Ab
inductive Fc:PV->Arr->Arr->Prop
 | mk (l1 r1 l2 r2:Bool) (x y:PV) (b a:List Int) (hx:Bd x b) (hy:Bd y a):Fc (.agg [.bool l1,.bool r1,x,.bool l2,.bool r2,y]) ⟨l1,r1,b⟩ ⟨l2,r2,a⟩
theorem N4 (a b c d e f:PV):BG [a,b,c,d,e,f] 1 1 false=some b:=rfl
theorem sel6_0 (a b c d e f:PV):BG [a,b,c,d,e,f] 0 1 false=some a:=rfl
theorem Gs (a b c d e f:PV):BG [a,b,c,d,e,f] 2 1 false=some c:=rfl
theorem S6 (a b c d e f:PV):BG [a,b,c,d,e,f] 3 1 false=some d:=rfl
theorem PZ (a b c d e f:PV):BG [a,b,c,d,e,f] 4 1 false=some e:=rfl
theorem PY (a b c d e f:PV):BG [a,b,c,d,e,f] 5 1 false=some f:=rfl
theorem IL (a b c d e f:PV):BG [a,b,c,d,e,f] 0 3 true=some (.agg [a,b,c]):=rfl
theorem Ii (a b c d e f:PV):BG [a,b,c,d,e,f] 3 3 true=some (.agg [d,e,f]):=rfl
theorem JJ (a b c d e f:PV):BG [a,b,c,d,e,f] 0 6 true=some (.agg [a,b,c,d,e,f]):=rfl
end Go.Ab.Derive2


namespace Go.Ab.Derive2
open Go Go.Ab
end Go.Ab.Derive2


namespace Go.Ab.Derive2
open Go Go.Ab
end Go.Ab.Derive2


set_option maxRecDepth 100000
namespace Go.Ab
open Go
theorem run19 (B:KB) {E:Type} (h:Ay E) (dep:Nat) (e:E) (x0:PV) (x1:PV):AM (AL B (fun _=>.cl)) fn19 (.cl) h dep [.cv x0,.cv x1] e=Af (A1 x1) (wv B 39 [] (fun z1=>Ac (Ad (.lookup .str (.agg [.nilF,.nilF]) false (.c z1) (.c x0))) (fun z2=>Af (AA z2 2) (wd x1 (fun z3=>Af (AT 3 [z3]) (Ac (A8 B .cl true 40 [AD 3 3 [z3] 0 (Ae [z3])]) (fun z4=>wi z4 (fun z5=>Ah z5 (some (.tup [.agg [.bool false,.bool false,.nilS],.int .i64 114],e)) (Ac (Ad (.bin .eql .func true (.c (Ai z2 0)) (.c .nilF))) (fun z6=>Ah z6 (some (.tup [.agg [.bool false,.bool false,.nilS],.int .i64 102],e)) (wd x1 (fun z7=>Ac (Ax B .cl (Ai z2 0) [z7]) (fun z8=>wa z8 (fun z9=>wb z8 (fun z10=>Af (AA z9 3) (wv B 41 [z10] (fun z11=>some (.tup [.agg [Ai z9 0,Ai z9 1,Ai z9 2],z11],e)))))))))))))))))):=by kernel_rfl

theorem run85 (B:KB) {E:Type} (h:Ay E) (dep:Nat) (e:E) (x0:PV):AM (AL B (fun _=>.cl)) fn85 (.cl) h dep [.cv x0] e=Af (A1 x0) (we x0 (fun z1=>wi z1 (fun z2=>Ah z2 (wv B 140 [.nilS] (fun z3=>Af (AA z3 3) (some (.tup [.agg [Ai z3 0,Ai z3 1,Ai z3 2],.nilI],e)))) (wg x0 (fun z4=>wc z4 (fun z5=>Af (AT 1 [z5]) (Ac (A8 B .cl false 140 [AD 1 1 [z5] 0 (Ae [z5])]) (fun z6=>Af (AA z6 3) (some (.tup [.agg [Ai z6 0,Ai z6 1,Ai z6 2],.nilI],e)))))))))):=by kernel_rfl

theorem Ql (B:KB) {E:Type} (h:Ay E) (dep:Nat) (e:E) (x0:PV):AM (AL B (fun _=>.cl)) fn86 (.cl) h dep [.cv x0] e=Af (A1 x0) (Ac (AU x0 0 6 true) (fun z1=>wv B 141 [z1,.int .i64 (-9223372036854775808),.int .i64 200] (fun z2=>wa z2 (fun z3=>wb z2 (fun z4=>Ac (Ac (Ad (.bin .eql .iface true (.c z4) (.c .nilI))) (fun z5=>Ah z5 (wm z3 (fun z6=>some z6)) (some (.bool false)))) (fun z7=>Ah z7 (Ac (Ad (.build [.int .i64 0] [(0,(1,.c (.int .i64 102)))])) (fun z8=>wn (.iface 136 z8) (fun z9=>Ah z9 (some (.tup [.agg [.bool false,.bool false,.nilS],.iface 136 z8],e)) (Ac (Ad (.build [.int .i64 0] [(0,(1,.c (.int .i64 110)))])) (fun z10=>Ac (Ac (Ad (.bin .gtr .num true (.c z3) (.c (.int .i64 0)))) (fun z11=>Ah z11 (wg x0 (fun z12=>wc z12 (fun z13=>wl z13 (fun z14=>some z14)))) (some (.bool false)))) (fun z15=>Ah z15 (some (.tup [.agg [.bool false,.bool false,.nilS],.iface 136 z10],e)) (Af (AZ [nI 0,z3,.int .i64 0]) (Bg (fun z16=>wo (Aa z16.1 2) (Aa z16.1 1) (fun z17=>Ah z17 (wg (Aa z16.1 3) (fun z18=>wg (Aa z16.1 3) (fun z19=>wc z19 (fun z20=>Ac (Ad (.bin .rem .num false (.c (Aa z16.1 2)) (.c z20))) (fun z21=>wr z18 z21 (fun z22=>wh z22 (fun z23=>Af (AT 1 [z23]) (Af (Az (Av 0 (Ae [z23])) (Ae [z23])) (Af (Bi (Az (Al (Aa z16.1 0)) (Ae (Ap (Aa z16.1 7)))) (Az (Av (Al (Aa z16.1 0)) (Ae (As (Ae [z23]) (AG 0 [z23])))) 2147483648)) (wj (Aa z16.1 2) (fun z24=>some (.inl ([nI (Av (Al (Aa z16.1 0)) (Ae (As (Ae [z23]) (AG 0 [z23])))),Aa z16.1 1,z24,Aa z16.1 3,Aa z16.1 4,Aa z16.1 5,Aa z16.1 6,.sl 1 (A9 (As (Al (Aa z16.1 0)) (Ap (Aa z16.1 7))) (As (Ae [z23]) (AG 0 [z23]))) false],z16.2))))))))))))) (Ac (wd (Aa z16.1 3) (fun z25=>Ac (A8 B .cl false 90 [z25,AD 1 1 (Ap (Aa z16.1 7)) 0 (Al (Aa z16.1 0))]) (fun z26=>Af (AA z26 3) (some (.tup [.agg [Ai z26 0,Ai z26 1,Ai z26 2],.nilI],z16.2))))) (fun z27=>some (.inr z27))))) ([nI 0,z3,.int .i64 0,x0,.bool false,.bool false,.nilS,.sl 1 [] false],e))))))))) (wn z4 (fun z28=>Ah z28 (some (.tup [.agg [.bool false,.bool false,.nilS],z4],e)) (Ac (Ad (.build [.int .i64 0] [(0,(1,.c (.int .i64 110)))])) (fun z29=>Ac (Ac (Ad (.bin .gtr .num true (.c z3) (.c (.int .i64 0)))) (fun z30=>Ah z30 (wg x0 (fun z31=>wc z31 (fun z32=>wl z32 (fun z33=>some z33)))) (some (.bool false)))) (fun z34=>Ah z34 (some (.tup [.agg [.bool false,.bool false,.nilS],.iface 136 z29],e)) (Af (AZ [nI 0,z3,.int .i64 0]) (Bg (fun z35=>wo (Aa z35.1 2) (Aa z35.1 1) (fun z36=>Ah z36 (wg (Aa z35.1 3) (fun z37=>wg (Aa z35.1 3) (fun z38=>wc z38 (fun z39=>Ac (Ad (.bin .rem .num false (.c (Aa z35.1 2)) (.c z39))) (fun z40=>wr z37 z40 (fun z41=>wh z41 (fun z42=>Af (AT 1 [z42]) (Af (Az (Av 0 (Ae [z42])) (Ae [z42])) (Af (Bi (Az (Al (Aa z35.1 0)) (Ae (Ap (Aa z35.1 7)))) (Az (Av (Al (Aa z35.1 0)) (Ae (As (Ae [z42]) (AG 0 [z42])))) 2147483648)) (wj (Aa z35.1 2) (fun z43=>some (.inl ([nI (Av (Al (Aa z35.1 0)) (Ae (As (Ae [z42]) (AG 0 [z42])))),Aa z35.1 1,z43,Aa z35.1 3,Aa z35.1 4,Aa z35.1 5,Aa z35.1 6,.sl 1 (A9 (As (Al (Aa z35.1 0)) (Ap (Aa z35.1 7))) (As (Ae [z42]) (AG 0 [z42]))) false],z35.2))))))))))))) (Ac (wd (Aa z35.1 3) (fun z44=>Ac (A8 B .cl false 90 [z44,AD 1 1 (Ap (Aa z35.1 7)) 0 (Al (Aa z35.1 0))]) (fun z45=>Af (AA z45 3) (some (.tup [.agg [Ai z45 0,Ai z45 1,Ai z45 2],.nilI],z35.2))))) (fun z46=>some (.inr z46))))) ([nI 0,z3,.int .i64 0,x0,.bool false,.bool false,.nilS,.sl 1 [] false],e)))))))))))))):=by kernel_rfl

theorem run87 (B:KB) {E:Type} (h:Ay E) (dep:Nat) (e:E) (x0:PV):AM (AL B (fun _=>.cl)) fn87 (.cl) h dep [.cv x0] e=Af (A1 x0) (wd x0 (fun z1=>wv B 142 [z1] (fun z2=>wa z2 (fun z3=>wb z2 (fun z4=>wn z4 (fun z5=>Ah z5 (some (.tup [.agg [.bool false,.bool false,.nilS],z4],e)) (wm z3 (fun z6=>Ah z6 (Ac (Ad (.build [.int .i64 0] [(0,(1,.c (.int .i64 102)))])) (fun z7=>some (.tup [.agg [.bool false,.bool false,.nilS],.iface 136 z7],e))) (Ac (Ad (.bin .gtr .num true (.c z3) (.c (.int .i64 200)))) (fun z8=>Ah z8 (Ac (Ad (.build [.int .i64 0] [(0,(1,.c (.int .i64 113)))])) (fun z9=>some (.tup [.agg [.bool false,.bool false,.nilS],.iface 136 z9],e))) (wv B 140 [.nilS] (fun z10=>Af (AA z10 3) (CO (Ai z10 2) (Af (AZ [z3,.int .i64 0]) (Bg (fun z11=>wo (Aa z11.1 1) (Aa z11.1 0) (fun z12=>Ah z12 (wj (Aa z11.1 1) (fun z13=>Af (AT 1 [z13]) (Af (Az (Av 0 (Ae [z13])) (Ae [z13])) (Af (Bi (Az (Al (Aa z11.1 7)) (Ae (Ap (Aa z11.1 8)))) (Az (Av (Al (Aa z11.1 7)) (Ae (As (Ae [z13]) (AG 0 [z13])))) 2147483648)) (wj (Aa z11.1 1) (fun z14=>some (.inl ([Aa z11.1 0,z14,Aa z11.1 2,Aa z11.1 3,Aa z11.1 4,Aa z11.1 5,Aa z11.1 6,nI (Av (Al (Aa z11.1 7)) (Ae (As (Ae [z13]) (AG 0 [z13])))),.sl 1 (A9 (As (Al (Aa z11.1 7)) (Ap (Aa z11.1 8))) (As (Ae [z13]) (AG 0 [z13]))) false],z11.2)))))))) (Ac (Af (Bh (.tup [.agg [Aa z11.1 5,Aa z11.1 6,AD 1 1 (Ap (Aa z11.1 8)) 0 (Al (Aa z11.1 7))],.nilI])) (some (.tup [.agg [Aa z11.1 5,Aa z11.1 6,AD 1 1 (Ap (Aa z11.1 8)) 0 (Al (Aa z11.1 7))],.nilI],z11.2))) (fun z15=>some (.inr z15))))) ([z3,.int .i64 0,.bool false,.bool false,.nilS,Ai z10 0,Ai z10 1,nI 0,.sl 1 [] false],e)))))))))))))))):=by kernel_rfl

theorem run88 (B:KB) {E:Type} (h:Ay E) (dep:Nat) (e:E) (x0:PV):AM (AL B (fun _=>.cl)) fn88 (.cl) h dep [.cv x0] e=Af (A1 x0) (Ac (AU x0 3 1 false) (fun z1=>wi z1 (fun z2=>Ah z2 (Ac (Ad (.build [.int .i64 0] [(0,(1,.c (.int .i64 111)))])) (fun z3=>some (.tup [.agg [.bool false,.bool false,.nilS],.iface 136 z3],e))) (we x0 (fun z4=>Ac (Ad (.build [.bool false,.bool false,.nilS] [(0,(1,.c z4))])) (fun z5=>Af (AA z5 3) (wg x0 (fun z6=>wc z6 (fun z7=>CO (Ai z5 2) (Af (AZ [z6,z7,.int .i64 0]) (Bg (fun z8=>wo (Aa z8.1 2) (Aa z8.1 1) (fun z9=>Ah z9 (wr (Aa z8.1 0) (Aa z8.1 2) (fun z10=>wh z10 (fun z11=>Ac (AU (Aa z8.1 3) 5 1 false) (fun z12=>wv B 143 [z12,z11] (fun z13=>Ac (wm z13 (fun z14=>Ah z14 (some (.bool true)) (Ac (AU (Aa z8.1 3) 4 1 false) (fun z15=>wf (Aa z8.1 3) (fun z16=>Ac (Ad (.bin .neq .bool false (.c z15) (.c z16))) (fun z17=>some z17)))))) (fun z18=>Ah z18 (Ac (AU (Aa z8.1 3) 5 1 false) (fun z19=>wc z19 (fun z20=>wj z20 (fun z21=>Af (AT 1 [z21]) (Af (Az (Av 0 (Ae [z21])) (Ae [z21])) (Af (Bi (Az (Al (Aa z8.1 9)) (Ae (Ap (Aa z8.1 10)))) (Az (Av (Al (Aa z8.1 9)) (Ae (As (Ae [z21]) (AG 0 [z21])))) 2147483648)) (wj (Aa z8.1 2) (fun z22=>some (.inl ([Aa z8.1 0,Aa z8.1 1,z22,Aa z8.1 3,Aa z8.1 4,Aa z8.1 5,Aa z8.1 6,Aa z8.1 7,Aa z8.1 8,nI (Av (Al (Aa z8.1 9)) (Ae (As (Ae [z21]) (AG 0 [z21])))),.sl 1 (A9 (As (Al (Aa z8.1 9)) (Ap (Aa z8.1 10))) (As (Ae [z21]) (AG 0 [z21]))) false],z8.2)))))))))) (wj z13 (fun z23=>Af (AT 1 [z23]) (Af (Az (Av 0 (Ae [z23])) (Ae [z23])) (Af (Bi (Az (Al (Aa z8.1 9)) (Ae (Ap (Aa z8.1 10)))) (Az (Av (Al (Aa z8.1 9)) (Ae (As (Ae [z23]) (AG 0 [z23])))) 2147483648)) (wj (Aa z8.1 2) (fun z24=>some (.inl ([Aa z8.1 0,Aa z8.1 1,z24,Aa z8.1 3,Aa z8.1 4,Aa z8.1 5,Aa z8.1 6,Aa z8.1 7,Aa z8.1 8,nI (Av (Al (Aa z8.1 9)) (Ae (As (Ae [z23]) (AG 0 [z23])))),.sl 1 (A9 (As (Al (Aa z8.1 9)) (Ap (Aa z8.1 10))) (As (Ae [z23]) (AG 0 [z23]))) false],z8.2)))))))))))))) (Ac (Af (Bh (.tup [.agg [Aa z8.1 7,Aa z8.1 8,AD 1 1 (Ap (Aa z8.1 10)) 0 (Al (Aa z8.1 9))],.nilI])) (some (.tup [.agg [Aa z8.1 7,Aa z8.1 8,AD 1 1 (Ap (Aa z8.1 10)) 0 (Al (Aa z8.1 9))],.nilI],z8.2))) (fun z25=>some (.inr z25))))) ([z6,z7,.int .i64 0,x0,.bool false,.bool false,.nilS,Ai z5 0,Ai z5 1,nI 0,.sl 1 [] false],e)))))))))))):=by kernel_rfl

theorem run89 (B:KB) {E:Type} (h:Ay E) (dep:Nat) (e:E) (x0:PV):AM (AL B (fun _=>.cl)) fn89 (.cl) h dep [.cv x0] e=Af (A1 x0) (wd x0 (fun z1=>wd x0 (fun z2=>Ac (Ax B (.own 1) (.fn 91 []) [z2]) (fun z3=>Ac (A8 B .cl false 90 [z1,AD 1 1 (Ap z3) 0 (Ae (Ap z3))]) (fun z4=>Af (AA z4 3) (some (.tup [.agg [Ai z4 0,Ai z4 1,Ai z4 2],.nilI],e))))))):=by kernel_rfl

theorem run90 (B:KB) {E:Type} (h:Ay E) (dep:Nat) (e:E) (x0:PV) (x1:PV) :
  AM (AL B (fun _=>.cl)) fn90 (.cl) h dep [.cv x0,.cv x1] e =
  Af (A1 x0) (Ac (AU x0 1 1 false) (fun z1=>Ac (Ad (.build [.bool false,.bool false,.nilS] [(0,(1,.c (.bool true))),(1,(1,.c z1)),(2,(1,.c x1))])) (fun z2
  => Af (AA z2 3) (some (.agg [Ai z2 0,Ai z2 1,Ai z2 2],e))))):=by kernel_rfl
theorem run91 (B:KB) {E:Type} (h:Ay E) (dep:Nat) (e:E) (x0:PV):AM (AL B (fun _=>.cl)) fn91 (.own 1) h dep [.cv x0] e=Af (A1 x0) (wg x0 (fun z1=>wc z1 (fun z2=>Ac (Ki z2 z2) (fun z3=>wg x0 (fun z4=>Ac (IR 1 z4) (fun z5=>Af (Az (Av 0 z3) (Ae (GU z3 (.int .i64 0)))) (Af (Ge z3 (Ae (A9 (A9 (As 0 (GU z3 (.int .i64 0))) (As z3 z5)) (AG (Av 0 (Ae (As z3 z5))) (GU z3 (.int .i64 0)))))) (some (.sl 1 (A9 (A9 (As 0 (GU z3 (.int .i64 0))) (As z3 z5)) (AG (Av 0 (Ae (As z3 z5))) (GU z3 (.int .i64 0)))) false,e))))))))):=by kernel_rfl

theorem run93 (B:KB) {E:Type} (h:Ay E) (dep:Nat) (e:E) (x0:PV) (x1:PV) (x2:PV) :
  AM (AL B (fun _=>.cl)) fn93 (.cl) h dep [.agg [.cv x0,.cv x1,.cv x2]] e =
  Ac (Ax B (.own 1) (.fn 91 []) [.agg [x0,x1,x2]]) (fun z1=>Ac (ioO B (.mk [.arr (0,0) 1 0 0] [.arr 1 0 []] (.tup []) [.arr 1 0 []] [] []) 146 [nI (Ae (Ap z1)),
  .sl 1 (Ap z1) false]) (fun z2=>Af (Bh (.tup [.agg [x0,x1,AD 1 1 (Ap (Aa z2 0)) 0 (Ae (Ap z1))],.nilI])) (some (.tup [.agg [x0,x1,AD 1 1 (Ap (Aa z2
  0)) 0 (Ae (Ap z1))],.nilI],e)))):=by kernel_rfl
theorem run94 (B:KB) {E:Type} (h:Ay E) (dep:Nat) (e:E) (x0:PV):AM (AL B (fun _=>.cl)) fn94 (.cl) h dep [.cv x0] e=Af (A1 x0) (Ac (AU x0 3 3 true) (fun z1=>wv B 142 [z1] (fun z2=>wa z2 (fun z3=>wb z2 (fun z4=>wn z4 (fun z5=>Ah z5 (some (.tup [.agg [.bool false,.bool false,.nilS],z4],e)) (wd x0 (fun z6=>Af (AA z6 3) (wd x0 (fun z7=>Ac (Ax B (.own 1) (.fn 91 []) [z7]) (fun z8=>wg x0 (fun z9=>wc z9 (fun z10=>Ac (Ad (.bin .gtr .num true (.c z10) (.c (.int .i64 0)))) (fun z11=>Ah z11 (Ac (Ad (.bin .rem .num false (.c z3) (.c z10))) (fun z12=>wp z12 z10 (fun z13=>Ac (Ad (.bin .rem .num false (.c z13) (.c z10))) (fun z14=>wg x0 (fun z15=>Ac (Ad (.slice 1 (.c z15) (some (.c z14)) none none)) (fun z16=>wg x0 (fun z17=>Ac (Ad (.slice 1 (.c z17) none (some (.c z14)) (some (.c z14)))) (fun z18=>Af (AT 1 [z16,z18]) (Ac (A8 B (.own 1) true 145 [AD 1 1 [z16,z18] 0 (Ae [z16,z18])]) (fun z19=>Af (Bh (.tup [.agg [Ai z6 0,Ai z6 1,AD 1 1 (Ap z19) 0 (Ae (Ap z19))],.nilI])) (some (.tup [.agg [Ai z6 0,Ai z6 1,AD 1 1 (Ap z19) 0 (Ae (Ap z19))],.nilI],e)))))))))))) (Af (Bh (.tup [.agg [Ai z6 0,Ai z6 1,AD 1 1 (Ap z8) 0 (Ae (Ap z8))],.nilI])) (some (.tup [.agg [Ai z6 0,Ai z6 1,AD 1 1 (Ap z8) 0 (Ae (Ap z8))],.nilI],e))))))))))))))))):=by kernel_rfl

theorem run95 (B:KB) {E:Type} (h:Ay E) (dep:Nat) (e:E) (x0:PV):AM (AL B (fun _=>.cl)) fn95 (.cl) h dep [.cv x0] e=Af (A1 x0) (wd x0 (fun z1=>Ac (Ax B (.own 1) (.fn 91 []) [z1]) (fun z2=>wf x0 (fun z3=>wv B 147 [z3] (fun z4=>Af (AT 1 [z4]) (Af (Az (Av 0 (Ae [z4])) (Ae [z4])) (Af (Bi (Az (Ae (Ap z2)) (Ae (Ap z2))) (Az (Av (Ae (Ap z2)) (Ae (As (Ae [z4]) (AG 0 [z4])))) 2147483648)) (wf x0 (fun z5=>Ac (DW (some (.int .i64 1)) (Av (Ae (Ap z2)) (Ae (As (Ae [z4]) (AG 0 [z4])))) (Av (Ae (Ap z2)) (Ae (As (Ae [z4]) (AG 0 [z4]))))) (fun z6=>Ac (DW (some (.int .i64 1)) (Av (Ae (Ap z2)) (Ae (As (Ae [z4]) (AG 0 [z4])))) z6) (fun z7=>Af (AA z5 1) (Af (Bh (.tup [.agg [.bool false,Ai z5 0,AD 1 1 (A9 (As (Ae (Ap z2)) (Ap z2)) (As (Ae [z4]) (AG 0 [z4]))) 0 z7],.nilI])) (some (.tup [.agg [.bool false,Ai z5 0,AD 1 1 (A9 (As (Ae (Ap z2)) (Ap z2)) (As (Ae [z4]) (AG 0 [z4]))) 0 z7],.nilI],e)))))))))))))):=by kernel_rfl

theorem run96 (B:KB) {E:Type} (h:Ay E) (dep:Nat) (e:E) (x0:PV):AM (AL B (fun _=>.cl)) fn96 (.cl) h dep [.cv x0] e=Af (A1 x0) (Ac (AU x0 0 6 true) (fun z1=>wv B 141 [z1,.int .i64 (-200),.int .i64 200] (fun z2=>wa z2 (fun z3=>wb z2 (fun z4=>wn z4 (fun z5=>Ah z5 (some (.tup [.agg [.bool false,.bool false,.nilS],z4],e)) (wm z3 (fun z6=>Ah z6 (wg x0 (fun z7=>wc z7 (fun z8=>wp z8 z3 (fun z9=>Ac (Ad (.un .neg (.c z3))) (fun z10=>Ac (Ki z10 z10) (fun z11=>Af (AZ [z9,nI z11,nI z11,.int .i64 0]) (Bg (fun z12=>wo (Aa z12.1 3) (Aa z12.1 2) (fun z13=>Ah z13 (wf (Aa z12.1 4) (fun z14=>wv B 147 [z14] (fun z15=>Ac (FR (Aa z12.1 3)) (fun z16=>Af (D2 z16 (Al (Aa z12.1 1))) (Ac (GZ 1 (Ap (Aa z12.1 8)) (Av 0 z16) 0 1 z15) (fun z17=>wp (Aa z12.1 0) (Aa z12.1 3) (fun z18=>Ac (Ac (Ad (.bin .geq .num true (.c z18) (.c (.int .i64 0)))) (fun z19=>Ah z19 (wg (Aa z12.1 4) (fun z20=>wc z20 (fun z21=>wo z18 z21 (fun z22=>some z22)))) (some (.bool false)))) (fun z23=>Ah z23 (wg (Aa z12.1 4) (fun z24=>wr z24 z18 (fun z25=>wh z25 (fun z26=>Ac (FR (Aa z12.1 3)) (fun z27=>Af (D2 z27 (Al (Aa z12.1 1))) (Ac (GZ 1 z17 (Av 0 z27) 0 1 z26) (fun z28=>wj (Aa z12.1 3) (fun z29=>some (.inl ([Aa z12.1 0,nI (Al (Aa z12.1 1)),Aa z12.1 2,z29,Aa z12.1 4,Aa z12.1 5,Aa z12.1 6,Aa z12.1 7,.sl 1 z28 false],z12.2)))))))))) (wj (Aa z12.1 3) (fun z30=>some (.inl ([Aa z12.1 0,nI (Al (Aa z12.1 1)),Aa z12.1 2,z30,Aa z12.1 4,Aa z12.1 5,Aa z12.1 6,Aa z12.1 7,.sl 1 z17 false],z12.2)))))))))))) (Ac (wd (Aa z12.1 4) (fun z31=>Ac (A8 B .cl false 90 [z31,AD 1 1 (Ap (Aa z12.1 8)) 0 (Al (Aa z12.1 1))]) (fun z32=>Af (AA z32 3) (some (.tup [.agg [Ai z32 0,Ai z32 1,Ai z32 2],.nilI],z12.2))))) (fun z33=>some (.inr z33))))) ([z9,nI z11,nI z11,.int .i64 0,x0,.bool false,.bool false,.nilS,.sl 1 (GU z11 (.int .i64 0)) false],e)))))))) (Ac (Ki z3 z3) (fun z34=>Af (AZ [.int .i64 0,nI z34,nI z34,.int .i64 0]) (Bg (fun z35=>wo (Aa z35.1 3) (Aa z35.1 2) (fun z36=>Ah z36 (wf (Aa z35.1 4) (fun z37=>wv B 147 [z37] (fun z38=>Ac (FR (Aa z35.1 3)) (fun z39=>Af (D2 z39 (Al (Aa z35.1 1))) (Ac (GZ 1 (Ap (Aa z35.1 8)) (Av 0 z39) 0 1 z38) (fun z40=>wp (Aa z35.1 0) (Aa z35.1 3) (fun z41=>Ac (Ac (Ad (.bin .geq .num true (.c z41) (.c (.int .i64 0)))) (fun z42=>Ah z42 (wg (Aa z35.1 4) (fun z43=>wc z43 (fun z44=>wo z41 z44 (fun z45=>some z45)))) (some (.bool false)))) (fun z46=>Ah z46 (wg (Aa z35.1 4) (fun z47=>wr z47 z41 (fun z48=>wh z48 (fun z49=>Ac (FR (Aa z35.1 3)) (fun z50=>Af (D2 z50 (Al (Aa z35.1 1))) (Ac (GZ 1 z40 (Av 0 z50) 0 1 z49) (fun z51=>wj (Aa z35.1 3) (fun z52=>some (.inl ([Aa z35.1 0,nI (Al (Aa z35.1 1)),Aa z35.1 2,z52,Aa z35.1 4,Aa z35.1 5,Aa z35.1 6,Aa z35.1 7,.sl 1 z51 false],z35.2)))))))))) (wj (Aa z35.1 3) (fun z53=>some (.inl ([Aa z35.1 0,nI (Al (Aa z35.1 1)),Aa z35.1 2,z53,Aa z35.1 4,Aa z35.1 5,Aa z35.1 6,Aa z35.1 7,.sl 1 z40 false],z35.2)))))))))))) (Ac (wd (Aa z35.1 4) (fun z54=>Ac (A8 B .cl false 90 [z54,AD 1 1 (Ap (Aa z35.1 8)) 0 (Al (Aa z35.1 1))]) (fun z55=>Af (AA z55 3) (some (.tup [.agg [Ai z55 0,Ai z55 1,Ai z55 2],.nilI],z35.2))))) (fun z56=>some (.inr z56))))) ([.int .i64 0,nI z34,nI z34,.int .i64 0,x0,.bool false,.bool false,.nilS,.sl 1 (GU z34 (.int .i64 0)) false],e)))))))))))):=by kernel_rfl

theorem run97 (B:KB) {E:Type} (h:Ay E) (dep:Nat) (e:E) (x0:PV):AM (AL B (fun _=>.cl)) fn97 (.cl) h dep [.cv x0] e=Af (A1 x0) (Ac (AU x0 3 3 true) (fun z1=>wv B 142 [z1] (fun z2=>wa z2 (fun z3=>wb z2 (fun z4=>wn z4 (fun z5=>Ah z5 (some (.tup [.agg [.bool false,.bool false,.nilS],z4],e)) (wg x0 (fun z6=>wc z6 (fun z7=>Ac (Ad (.bin .geq .num true (.c z3) (.c (.int .i64 0)))) (fun z8=>Ah z8 (wd x0 (fun z9=>wd x0 (fun z10=>Ac (Ax B (.own 1) (.fn 91 []) [z10]) (fun z11=>Ac (Ad (.minmax false [.c z3,.c z7])) (fun z12=>Ac (DW none (Ae (Ap z11)) (Ae (Ap z11))) (fun z13=>Ac (DW none (Ae (Ap z11)) z13) (fun z14=>Ac (DW (some z12) 0 z14) (fun z15=>DL (Bi (Ge z14 z15) (D2 0 z15)) (wv B 90 [z9,.sl 1 [] false] (fun z16=>Af (AA z16 3) (some (.tup [.agg [Ai z16 0,Ai z16 1,Ai z16 2],.nilI],e)))) (Ac (A8 B .cl false 90 [z9,AD 1 1 (Ap z11) (Av 0 z15) (subN z14 z15)]) (fun z17=>Af (AA z17 3) (some (.tup [.agg [Ai z17 0,Ai z17 1,Ai z17 2],.nilI],e)))))))))))) (wd x0 (fun z18=>wd x0 (fun z19=>Ac (Ax B (.own 1) (.fn 91 []) [z19]) (fun z20=>Ac (Ad (.un .neg (.c z7))) (fun z21=>Ac (Ad (.minmax true [.c z3,.c z21])) (fun z22=>wp z7 z22 (fun z23=>Ac (Ad (.minmax true [.c z23,.c (.int .i64 0)])) (fun z24=>Ac (DW none (Ae (Ap z20)) (Ae (Ap z20))) (fun z25=>Ac (DW (some z24) (Ae (Ap z20)) z25) (fun z26=>Ac (A8 B .cl false 90 [z18,AD 1 1 (Ap z20) 0 z26]) (fun z27=>Af (AA z27 3) (some (.tup [.agg [Ai z27 0,Ai z27 1,Ai z27 2],.nilI],e))))))))))))))))))))))):=by kernel_rfl

theorem run98 (B:KB) {E:Type} (h:Ay E) (dep:Nat) (e:E) (x0:PV):AM (AL B (fun _=>.cl)) fn98 (.cl) h dep [.cv x0] e=Af (A1 x0) (wg x0 (fun z1=>wc z1 (fun z2=>wv B 99 [z2] (fun z3=>Af (AA z3 3) (some (.tup [.agg [Ai z3 0,Ai z3 1,Ai z3 2],.nilI],e)))))):=by kernel_rfl

theorem run99 (B:KB) {E:Type} (h:Ay E) (dep:Nat) (e:E) (x0:PV) :
  AM (AL B (fun _=>.cl)) fn99 (.cl) h dep [.cv x0] e =
  Af (AT 1 [x0]) (Af (Bh (.agg [.bool false,.bool false,AD 1 1 [x0] 0 (Ae [x0])])) (some (.agg [.bool false,.bool false,AD 1 1 [x0] 0 (Ae [x0])],e))):=by kernel_rfl
theorem run100 (B:KB) {E:Type} (h:Ay E) (dep:Nat) (e:E) (x0:PV):AM (AL B (fun _=>.cl)) fn100 (.cl) h dep [.cv x0] e=Af (A1 x0) (Ac (AU x0 3 3 true) (fun z1=>wd x0 (fun z2=>wv B 148 [z1,z2] (fun z3=>Ah z3 (wv B 99 [.int .i64 0] (fun z4=>Af (AA z4 3) (some (.tup [.agg [Ai z4 0,Ai z4 1,Ai z4 2],.nilI],e)))) (wv B 99 [.int .i64 1] (fun z5=>Af (AA z5 3) (some (.tup [.agg [Ai z5 0,Ai z5 1,Ai z5 2],.nilI],e)))))))):=by kernel_rfl

theorem run140 (B:KB) {E:Type} (h:Ay E) (dep:Nat) (e:E) (x0:PV) :
  AM (AL B (fun _=>.cl)) fn140 (.cl) h dep [.cv x0] e =
  Ac (Ad (.build [.bool false,.bool false,.nilS] [(0,(1,.c (.bool true))),(2,(1,.c x0))])) (fun z1=>Af (AA z1 3) (some (.agg [Ai z1 0,Ai z1 1,Ai z1
  2],e))):=by kernel_rfl
theorem run141 (B:KB) {E:Type} (h:Ay E) (dep:Nat) (e:E) (x0:PV) (x1:PV) (x2:PV):AM (AL B (fun _=>.cl)) fn141 (.cl) h dep [.cv x0,.cv x1,.cv x2] e=Af (A1 x0) (Ac (AU x0 3 3 true) (fun z1=>wv B 142 [z1] (fun z2=>wa z2 (fun z3=>wb z2 (fun z4=>Ac (Ac (Ad (.bin .eql .iface true (.c z4) (.c .nilI))) (fun z5=>Ah z5 (wo z3 x1 (fun z6=>Ah z6 (some (.bool true)) (wu z3 x2 (fun z7=>some z7)))) (some (.bool false)))) (fun z8=>Ah z8 (Ac (Ad (.build [.int .i64 0] [(0,(1,.c (.int .i64 113)))])) (fun z9=>some (.tup [z3,.iface 136 z9],e))) (some (.tup [z3,z4],e)))))))):=by kernel_rfl

theorem run142 (B:KB) {E:Type} (h:Ay E) (dep:Nat) (e:E) (x0:PV):AM (AL B (fun _=>.cl)) fn142 (.cl) h dep [.cv x0] e=Af (A1 x0) (wg x0 (fun z1=>wc z1 (fun z2=>Ac (Ad (.bin .neq .num true (.c z2) (.c (.int .i64 1)))) (fun z3=>Ah z3 (Ac (Ad (.build [.int .i64 0] [(0,(1,.c (.int .i64 111)))])) (fun z4=>some (.tup [.int .i64 0,.iface 136 z4],e))) (wf x0 (fun z5=>Ah z5 (Ac (Ad (.build [.int .i64 0] [(0,(1,.c (.int .i64 102)))])) (fun z6=>some (.tup [.int .i64 0,.iface 136 z6],e))) (wg x0 (fun z7=>wr z7 (.int .i64 0) (fun z8=>wh z8 (fun z9=>some (.tup [z9,.nilI],e))))))))))):=by kernel_rfl

theorem run143 (B:KB) {E:Type} (h:Ay E) (dep:Nat) (e:E) (x0:PV) (x1:PV):AM (AL B (fun _=>.cl)) fn143 (.cl) h dep [.cv x0,.cv x1] e=wc x0 (fun z1=>Af (AZ [x0,x1,z1,.int .i64 0]) (Bg (fun z2=>wo (Aa z2.1 3) (Aa z2.1 2) (fun z3=>Ah z3 (wr (Aa z2.1 0) (Aa z2.1 3) (fun z4=>wh z4 (fun z5=>wq (Aa z2.1 1) z5 (fun z6=>Ah z6 (Ac (some (Aa z2.1 3,z2.2)) (fun z7=>some (.inr z7))) (wj (Aa z2.1 3) (fun z8=>some (.inl ([Aa z2.1 0,Aa z2.1 1,Aa z2.1 2,z8],z2.2)))))))) (Ac (some (.int .i64 (-1),z2.2)) (fun z9=>some (.inr z9))))) ([x0,x1,z1,.int .i64 0],e))):=by kernel_rfl

theorem run146 (B:KB) (x0:PV) (x1:PV):S7 (AL B (fun _=>.cl)) Qz Ot [x0,x1]=Ac (Ad (.bin .sub .num true (.c (nI (Al x0))) (.c (.int .i64 1)))) (fun z1=>Af (AZ [nI (Al x0),.int .i64 0,z1]) (Bg (fun z2=>wo (Aa z2.1 1) (Aa z2.1 2) (fun z3=>Ah z3 (Ac (FR (Aa z2.1 2)) (fun z4=>Af (D2 z4 (Al (Aa z2.1 0))) (Ac (MO (Ap (Aa z2.1 3)) (Av 0 z4) 0 1 false) (fun z5=>Ac (FR (Aa z2.1 1)) (fun z6=>Af (D2 z6 (Al (Aa z2.1 0))) (Ac (MO (Ap (Aa z2.1 3)) (Av 0 z6) 0 1 false) (fun z7=>Ac (FR (Aa z2.1 1)) (fun z8=>Af (D2 z8 (Al (Aa z2.1 0))) (Ac (GZ 1 (Ap (Aa z2.1 3)) (Av 0 z8) 0 1 z5) (fun z9=>Ac (FR (Aa z2.1 2)) (fun z10=>Af (D2 z10 (Al (Aa z2.1 0))) (Ac (GZ 1 z9 (Av 0 z10) 0 1 z7) (fun z11=>wj (Aa z2.1 1) (fun z12=>Ac (Ad (.bin .sub .num true (.c (Aa z2.1 2)) (.c (.int .i64 1)))) (fun z13=>some (.inl ([nI (Al (Aa z2.1 0)),z12,z13,.sl 1 z11 false],z2.2))))))))))))))))) (Ac (some [.sl 1 (Ap (Aa z2.1 3)) false]) (fun z14=>some (.inr z14))))) ([nI (Al x0),.int .i64 0,z1,.sl 1 (Ap x1) false],()))):=by kernel_rfl

theorem run147 (B:KB) {E:Type} (h:Ay E) (dep:Nat) (e:E) (x0:PV) :
  AM (AL B (fun _=>.cl)) fn147 (.cl) h dep [.cv x0] e =
  Ah x0 (some (.int .i64 32,e)) (some (.int .i64 0,e)):=by kernel_rfl
end Go.Ab


namespace Go.Ab.Derive2.Sh
open Go Go.Ab Go.Ab.Derive2
theorem ZT {d:Nat->Bq} {g:FuncId} {fn:Au} {args:List KV} {u:PV} (ht:By g=some fn) (hg:Kd g) (ha:A6 args) (hu:∀ x∈args,E9 x=false) (hl:Nat.ble args.length fn.nt=true)
  (hr:AM (AL B0 d) fn .cl AP 0 args ()=some (u,())) (hio:fn.io=false:=by rfl) (hb:Nat.blt g Df=true:=by rfl):Ax B0 .cl (.fn g []) (AN args)=some u:=callK ht hg ha hu rfl hl hr hio hb
theorem lend {g:FuncId} {fn:Au} {fr:Bool} {args:List PV} {u:PV} {d:Nat->Bq} (ht:By g=some fn) (ha:At args=true) (hl:Nat.ble args.length fn.nt=true)
  (hr:AM (AL B0 d) fn .cl AP 0 (args.map KV.cv) ()=some (u,())) (hfr:(u.free&&!GL By g)=fr):A8 B0 .cl fr g args=some u :=
 T4 (HO d) ht ha (ae hl) hr hfr
theorem PH (n:Int):AD 1 1 [I n] 0 (Ae [I n])=.sl 1 (Am [n]) false:=rfl
def Lv (n:Int):PV:=.agg [.bool false,.bool false,.sl 1 (Am [n]) false]
def HZ (n:Int):Arr:=⟨false,false,[n]⟩
theorem P2 (n:Int):AK (Lv n) (HZ n):=.mk _ _ _ _ (.sl _ _)
theorem V4 (n:Int):Ax B0 .cl (.fn 99 []) [I n]=some (Lv n):=by
 refine call (d:=fun _=>.cl) rfl (by decide) rfl rfl ?_;rw[ZZ,Z1,run99,E0,PH];rfl
def DB (r:Bool):Int:=if r then 32 else 0
theorem Wt (r:Bool):Ax B0 .cl (.fn 147 []) [.bool r]=some (I (DB r)):=by
 refine call (d:=fun _=>.cl) rfl (by decide) rfl rfl ?_;rw[ZZ,Z1,run147];cases r<;>rfl
theorem ZD (l:List Int):Fm (Am l)=true:=by
 induction l with
 | nil=>rfl
 | cons a l ih=>simpa[Am,Fm,PV.free,I] using ih
theorem lend_own {g:FuncId} {fn:Au} {args:List PV} {l:List Int} {d:Nat->Bq} (ht:By g=some fn) (ha:At args=true) (hl:Nat.ble args.length fn.nt=true)
  (hr:AM (AL B0 d) fn (.own 1) AP 0 (args.map KV.cv) ()=some (.sl 1 (Am l) false,())) (hle:fn.leans=false:=by rfl):A8 B0 (.own 1) true g args=some (.sl 1 (Am l) false):=by
 obtain⟨r,obs,h1,h2⟩:=L4 (HO d) ht (hn:=fun _=>AP) noH (Oj ha) Oi (by simpa using ae hl) hr;rw[Mw] at h2;have hL:B0.L Unit AP 0 g args ()=some (r,obs,()):=JM h2
 have hfree:(r.free&&obs.all Ob.free)=true:=by
  unfold El at h1;simp only[CL] at h1;split at h1
  ·rename_i r' j hr';split at hr'
   ·rename_i nm k' o n k'' xs ho;obtain⟨c1,c2⟩:=Br hr';cases c2;obtain⟨c3,c4⟩:=Br h1;injection c4 with c4;injection c4 with _ c4 _;subst c4;simp only[beq_iff_eq] at c3
    match obs,ho,c3 with
    | [o],ho,_ =>
     simp at ho;subst ho;simp[PV.free,Ob.free,ZD]
    | [],ho,_=>simp at ho
    | _ :: _ :: _,_,c3=>simp at c3
   ·cases hr'
  ·cases h1
 unfold A8;rw[(Da ha).2];have hl0:B0.leans g=false:=by show GL By g=false;unfold GL;rw[ht];exact hle
 simp only[Z0,if_false,hL,hfree,hl0,ax,bW,beq_self_eq_true,AJ];exact h1
def CP (c:Int):PV:=if c=0 then .nilI else .iface 136 (.agg [I c])
theorem errV_0:CP 0=.nilI:=rfl
theorem SZ (c:Int):okV (CP c)=true:=by unfold CP;split<;>rfl
theorem E4 (c:Int):Ad (.bin .neq .iface true (.c (CP c)) (.c .nilI))=some (.bool (decide (c≠0))):=by
 unfold CP;by_cases h:c=0
 ·simp only[h,if_true];rfl
 ·rw[if_neg h,show decide (c≠0)=true by simp[h]];rfl
theorem NZ (c:Int):Ad (.bin .eql .iface true (.c (CP c)) (.c .nilI))=some (.bool (decide (c=0))):=by
 unfold CP;by_cases h:c=0
 ·simp only[h,if_true];rfl
 ·rw[if_neg h,show decide (c=0)=false by simp[h]];rfl
theorem Tu (c:Int):Ad (.build [.int .i64 0] [(0,(1,.c (.int .i64 c)))])=some (.agg [I c]):=rfl
theorem IU:Ad (.build [.bool false,.bool false,.nilS] [])=some (.agg [.bool false,.bool false,.nilS]):=rfl
theorem Nu (c:Int):Ax B0 .cl (.fn 41 []) [CP c]=some (I c):=by
 refine call (d:=fun _=>.cl) rfl (by decide) (by simp[At,SZ]) rfl ?_;rw[ZZ,Z1,run41];unfold CP;by_cases h:c=0
 ·subst h;rfl
 ·simp only[h,if_false];rfl
theorem Rx {v:PV} {a:Arr} (h:AK v a) (hl:a.n.length<=1000000):Ax B0 .cl (.fn 102 []) [v]=some (.bool (!a.right)):=by
 obtain⟨x,rfl,hx⟩:=h.get;refine call (d:=fun _=>.cl) rfl (by decide) (by simp[At,h.ok]) rfl ?_;rw[ZZ,Z1,run102];unfold wd wi wv;rw[C0,BX rfl rfl hx.cell,AJ];simp only[BU,BM,KX,Ao,U5 h hl,Ca]
theorem Lh {xs:List PV} {j:Nat} {f:Bool} {a b c:PV} (h:xs[j]?=some (.agg [a,b,c])):Ad (.idxAddr 3 (.c (.sl 3 xs f)) (.c (I j)))=some (.ptr [a,b,c] 0):=by
 rw[I,LI (by omega) h];rfl
theorem IW (a b c:PV):Ad (.load 3 true (.c (.ptr [a,b,c] 0)))=some (.agg [a,b,c]):=rfl
theorem right1 {v:PV} {a:Arr} (h:AK v a) (hl:a.n.length<=1000000):A8 B0 .cl true 40 [.sl 3 [v] false]=some (.bool a.right):=by
 have hi:Ax B0 .cl (.fn 149 []) [.sl 3 [v] false,.fn 102 []]=some (I (if a.right then -1 else 0)):=by
  refine call (d:=fun _=>.cl) rfl (by decide) (by simp[At,okV,h.ok]) rfl ?_;rw[ZZ,ZZ,Z1,run149];unfold wc wj wo;rw[HA];simp only[Ao];rw[show AZ [.sl 3 [v] false,.fn 102 [],.int .i64 (([v].length:Nat):Int),.int .i64 0]=true from rfl,AJ];have he:=Rx h hl;obtain⟨x,rfl,hx⟩:=h.get;cases hr:a.right with
  | false =>
   refine BW ?_;simp only[A7,A4,Bc,BD,A3,AS,Ao,An];rw[show Ad (.idxAddr 3 (.c (.sl 3 [.agg [.bool a.li,.bool a.ru,x]] false)) (.c (I 0)))=some (.ptr [.bool a.li,.bool a.ru,x] 0) from Lh (j:=0) rfl];simp only[Ao,IW,he,hr,ax,An];rfl
  | true =>
   rw[Dq (s':=([.sl 3 [.agg [.bool a.li,.bool a.ru,x]] false,.fn 102 [],I 1,I 1],()))];·exact BW rfl
   ·simp only[A7,A4,Bc,BD,A3,AS,Ao,An];rw[show Ad (.idxAddr 3 (.c (.sl 3 [.agg [.bool a.li,.bool a.ru,x]] false)) (.c (I 0)))=some (.ptr [.bool a.li,.bool a.ru,x] 0) from Lh (j:=0) rfl];simp only[Ao,IW,he,hr,Z8,An];rfl
 have hc:Ax B0 .cl (.fn 101 []) [.sl 3 [v] false,.fn 102 []]=some (.bool (!a.right)):=by
  refine call (d:=fun _=>.cl) rfl (by decide) (by simp[At,okV,h.ok]) rfl ?_;rw[ZZ,ZZ,Z1,run101,hi];simp only[Ao,A3,EF];cases a.right<;>rfl
 refine lend (d:=fun _=>.cl) rfl (by simp[At,okV,h.ok]) rfl ?_ rfl;rw[ZZ,Z1,run40,hc];cases a.right<;>rfl
theorem right2 {v u:PV} {a b:Arr} (h:AK v a) (hu:AK u b) (hl:a.n.length<=1000000) (hm:b.n.length<=1000000):A8 B0 .cl true 40 [.sl 3 [v,u] false]=some (.bool (a.right&&b.right)):=by
 have hi:Ax B0 .cl (.fn 149 []) [.sl 3 [v,u] false,.fn 102 []]=some (I (if a.right then (if b.right then -1 else 1) else 0)):=by
  refine call (d:=fun _=>.cl) rfl (by decide) (by simp[At,okV,h.ok,hu.ok]) rfl ?_;rw[ZZ,ZZ,Z1,run149];unfold wc wj wo;rw[HA];simp only[Ao];rw[show AZ [.sl 3 [v,u] false,.fn 102 [],.int .i64 (([v,u].length:Nat):Int),.int .i64 0]=true from rfl,AJ];have he:=Rx h hl;have he2:=Rx hu hm;obtain⟨x,rfl,hx⟩:=h.get;obtain⟨y,rfl,hy⟩:=hu.get;have i0:Ad (.idxAddr 3 (.c (.sl 3 [.agg [.bool a.li,.bool a.ru,x],.agg [.bool b.li,.bool b.ru,y]] false)) (.c (I 0)))=some (.ptr [.bool a.li,.bool a.ru,x] 0):=Lh (j:=0) rfl;have i1:Ad (.idxAddr 3 (.c (.sl 3 [.agg [.bool a.li,.bool a.ru,x],.agg [.bool b.li,.bool b.ru,y]] false)) (.c (I 1)))=some (.ptr [.bool b.li,.bool b.ru,y] 0):=Lh (j:=1) rfl;cases hr:a.right with
  | false =>
   refine BW ?_;simp only[A7,A4,Bc,BD,A3,AS,Ao,An];rw[i0];simp only[Ao,IW,he,hr,ax,An];rfl
  | true =>
   rw[Dq (s':=([.sl 3 [.agg [.bool a.li,.bool a.ru,x],.agg [.bool b.li,.bool b.ru,y]] false,.fn 102 [],I 2,I 1],()))]
   ·cases hr2:b.right with
    | false =>
     refine BW ?_;simp only[A7,A4,Bc,BD,A3,AS,Ao,An];rw[i1];simp only[Ao,IW,he2,hr2,ax,An];rfl
    | true =>
     rw[Dq (s':=([.sl 3 [.agg [.bool a.li,.bool a.ru,x],.agg [.bool b.li,.bool b.ru,y]] false,.fn 102 [],I 2,I 2],()))];·exact BW rfl
     ·simp only[A7,A4,Bc,BD,A3,AS,Ao,An];rw[i1];simp only[Ao,IW,he2,hr2,Z8,An];rfl
   ·simp only[A7,A4,Bc,BD,A3,AS,Ao,An];rw[i0];simp only[Ao,IW,he,hr,Z8,An];rfl
 have hc:Ax B0 .cl (.fn 101 []) [.sl 3 [v,u] false,.fn 102 []]=some (.bool (!(a.right&&b.right))):=by
  refine call (d:=fun _=>.cl) rfl (by decide) (by simp[At,okV,h.ok,hu.ok]) rfl ?_;rw[ZZ,ZZ,Z1,run101,hi];simp only[Ao,A3,EF];cases a.right<;>cases b.right<;>rfl
 refine lend (d:=fun _=>.cl) rfl (by simp[At,okV,h.ok,hu.ok]) rfl ?_ rfl;rw[ZZ,Z1,run40,hc];cases a.right<;>cases b.right<;>rfl
def gR:List UInt8:=[226,141,180]
def gI:List UInt8:=[226,141,179]
def gC:List UInt8:=[44]
def gT:List UInt8:=[226,140,189]
def gU:List UInt8:=[226,134,145]
def gD:List UInt8:=[226,134,147]
def gN:List UInt8:=[226,137,162]
def Ip (g:List UInt8):PV :=
 if g=gR then .fn 85 [] else if g=gI then .fn 87 [] else if g=gC then .fn 89 [] else if g=gT then .fn 93 [] else if g=gU then .fn 95 [] else if g=gN then .fn 98 [] else .nilF
def B6 (g:List UInt8):PV :=
 if g=gR then .fn 86 [] else if g=gI then .fn 88 [] else if g=gC then .fn 92 [] else if g=gT then .fn 94 [] else if g=gU then .fn 96 [] else if g=gD then .fn 97 [] else if g=gN then .fn 100 [] else .nilF
def funs:PV:=.imap [.str gR,.agg [.fn 85 [],.fn 86 []],.str gI,.agg [.fn 87 [],.fn 88 []],.str gC,.agg [.fn 89 [],.fn 92 []],.str gT,.agg [.fn 93 [],.fn 94 []],.str gU,.agg [.fn 95 [],.fn 96 []],.str gD,.agg [.nilF,.fn 97 []],.str gN,.agg [.fn 98 [],.fn 100 []]]
theorem Wp:Ax B0 .cl (.fn 39 []) []=some funs:=by
 obtain⟨n,h⟩:=e66_0;exact Pp (by decide) h rfl rfl
theorem Cw {g x:List UInt8} {v:PV} {es:List PV} (h:¬ g=x):DJ (.str g) (.str x :: v :: es)=DJ (.str g) es:=by
 have:(g==x)=false:=by simp[h]
 simp[DJ,IY,this]
theorem Wc (g:List UInt8):Ad (.lookup .str (.agg [.nilF,.nilF]) false (.c funs) (.c (.str g)))=some (.agg [Ip g,B6 g]):=by
 unfold Ip B6;by_cases h1:g=gR
 ·subst h1;rfl
 by_cases h2:g=gI
 ·subst h2;rfl
 by_cases h3:g=gC
 ·subst h3;rfl
 by_cases h4:g=gT
 ·subst h4;rfl
 by_cases h5:g=gU
 ·subst h5;rfl
 by_cases h6:g=gD
 ·subst h6;rfl
 by_cases h7:g=gN
 ·subst h7;rfl
 simp only[h1,h2,h3,h4,h5,h6,h7,if_false];unfold funs;simp only[Ad,exec,RX.ev];rw[Cw h1,Cw h2,Cw h3,Cw h4,Cw h5,Cw h6,Cw h7];rfl
end Go.Ab.Derive2.Sh


namespace Go.Ab.Derive2.Sh
open Go Go.Ab Go.Ab.Derive2
def BH (a:Arr):Int:=if a.n.length≠1 then 111 else if a.ru then 102 else 0
def AV (a:Arr):Int:=if BH a=0 then a.n.headD 0 else 0
theorem Ph {v:PV} {a:Arr} (h:AK v a) (hl:a.n.length<=1000000):Ax B0 .cl (.fn 142 []) [v]=some (.tup [I (AV a),CP (BH a)]):=by
 obtain⟨x,rfl,hx⟩:=h.get;refine call (d:=fun _=>.cl) rfl (by decide) (by simp[At,h.ok]) rfl ?_;rw[ZZ,Z1,run142];unfold wc wf wg wh wr;rw[C0,BX rfl rfl hx.cell,AJ];simp only[BU,BM,HJ,GO,Hf,Ao,hx.len,A3,Ce,An];unfold AV BH;by_cases h1:a.n.length=1
 ·have e:(((a.n.length:Int) != 1)=true)↔False:=by simp[h1]
  have e2:¬ (a.n.length≠1):=by simp[h1]
  simp only[e,e2,if_false];cases hr:a.ru with
  | true =>
   simp only[if_true];rfl
  | false =>
   simp only[Z0,if_false];have hi:=hx.idx (i:=0) (by omega);rw[show ((0:Nat):Int)=0 from rfl] at hi;rw[hi];simp only[Ao,CG]
   have:a.n.headD 0=a.n[0]'(by omega):=by
    rw[List.headD_eq_head?_getD,List.head?_eq_getElem?,ab (by omega)];rfl
   rw[this];rfl
 ·have e:(((a.n.length:Int) != 1)=true):=by simp;omega
  simp only[e,if_true];rw[if_pos h1];rfl
theorem Xi {b c:PV} {x y z:PV} (hb:b.cells=[b]) (hc:c.cells=[c]) (vb:b.isVal=true) (vc:c.isVal=true) :
  Ad (.build [x,y,z] [(0,(1,.c b)),(2,(1,.c c))])=some (.agg [b,y,c]):=by
 simp[Ad,exec,EA,RX.ev,hb,hc,vb,vc,splice,AI]
def In (v:PV):PV:=.agg [.bool true,.bool false,v]
def Ej (r:Bool) (v:PV):PV:=.agg [.bool true,.bool r,v]
theorem T3:Ax B0 .cl (.fn 140 []) [.nilS]=some (In .nilS):=by
 refine call (d:=fun _=>.cl) rfl (by decide) rfl rfl ?_;rw[ZZ,Z1,run140,Xi rfl rfl rfl rfl];rfl
theorem XO (l:List Int) (f:Bool):A8 B0 .cl false 140 [.sl 1 (Am l) f]=some (In (.sl 1 (Am l) f)):=by
 refine lend (d:=fun _=>.cl) rfl (by simp[At,okV,EX]) rfl ?_ rfl;rw[ZZ,Z1,run140,Xi rfl rfl rfl rfl];rfl
theorem Nn {v:PV} {a:Arr} (h:AK v a) (l:List Int) (f:Bool):A8 B0 .cl false 90 [v,.sl 1 (Am l) f]=some (Ej a.ru (.sl 1 (Am l) f)):=by
 obtain⟨x,rfl,hx⟩:=h.get;refine lend (d:=fun _=>.cl) rfl (by simp[At,okV,EX,hx.ok]) rfl ?_ rfl;rw[ZZ,ZZ,Z1,run90,C0,BX rfl rfl hx.cell,AJ];simp only[BU,BM,GO,Ao];rw[Om rfl rfl rfl rfl rfl rfl];rfl
theorem like_call {v:PV} {a:Arr} (h:AK v a):Ax B0 .cl (.fn 90 []) [v,.sl 1 [] false]=some (Ej a.ru (.sl 1 (Am []) false)):=by
 obtain⟨x,rfl,hx⟩:=h.get;refine call (d:=fun _=>.cl) rfl (by decide) (by simp[At,okV,hx.ok]) rfl ?_;rw[ZZ,ZZ,Z1,run90,C0,BX rfl rfl hx.cell,AJ];simp only[BU,BM,GO,Ao];rw[Om rfl rfl rfl rfl rfl rfl];rfl
theorem Te {n:Nat} (h:n<=1000000):Ki (I n) (I n)=some n:=by
 have:n<=FA:=by unfold FA;omega
 simp[Ki,I,Dx,Af,this]
theorem NM {v:PV} {a:Arr} (h:AK v a) (hl:a.n.length<=1000000):Ax B0 (.own 1) (.fn 91 []) [v]=some (.sl 1 (Am a.n) false):=by
 obtain⟨x,rfl,hx⟩:=h.get;refine call (d:=fun _=>.cl) rfl (by decide) (by simp[At,h.ok]) rfl ?_;rw[ZZ,Z1,run91];unfold wc wg;rw[C0,BX rfl rfl hx.cell,AJ];simp only[BU,BM,Hf,Ao,hx.len,Te hl,hx.elems]
 have e:A9 (A9 (As 0 (GU a.n.length (.int .i64 0))) (As a.n.length (Am a.n))) (AG (Av 0 (Ae (As a.n.length (Am a.n)))) (GU a.n.length (.int .i64 0)))=Am a.n:=by
  simp[BC,av]
 rw[e];simp[BC]
def Gz (g:FuncId) (v:PV) (r:Arr) (c:Int):Prop:=∃ y,Ax B0 .cl (.fn g []) [v]=some (.tup [y,CP c])/\AK y r
theorem FT {y:PV} {a:Arr} (h:AK y a):AA y 3=true:=by
 obtain⟨x,rfl,hx⟩:=h.get;exact Jr (BX rfl rfl hx.cell)
theorem cells_is {y:PV} {a:Arr} (h:AK y a):PV.agg [Ai y 0,Ai y 1,Ai y 2]=y:=by
 obtain⟨x,rfl,hx⟩:=h.get;rfl
def MA (a:Arr):Arr:=⟨true,false,if a.li then [(a.n.length:Int)] else []⟩
theorem Ps {v:PV} {a:Arr} (h:AK v a) (hl:a.n.length<=1000000):Gz 85 v (MA a) 0:=by
 obtain⟨x,rfl,hx⟩:=h.get;cases hli:a.li with
 | false =>
  refine⟨In .nilS,?_,by unfold MA;rw[hli];exact .mk _ _ _ _ .nil⟩;rw[<-hli];refine call (d:=fun _=>.cl) rfl (by decide) (by simp[At,h.ok]) rfl ?_;rw[ZZ,Z1,run85];unfold wc we wg wi wv;rw[C0,BX rfl rfl hx.cell,AJ];simp only[BU,BM,HJ,Ao,Ca,hli,An,ax,if_true,T3];rfl
 | true =>
  refine⟨In (.sl 1 (Am [(a.n.length:Int)]) false),?_,by unfold MA;rw[hli];exact .mk _ _ _ _ (.sl _ _)⟩;rw[<-hli];refine call (d:=fun _=>.cl) rfl (by decide) (by simp[At,h.ok]) rfl ?_;rw[ZZ,Z1,run85];unfold wc we wg wi wv;rw[C0,BX rfl rfl hx.cell,AJ];simp only[BU,BM,HJ,Hf,Ao,Ca,hli,An,Z8,Z0,if_false,hx.len,E0,AJ,PH,XO];rfl
theorem comma_run {v:PV} {a:Arr} (h:AK v a) (hl:a.n.length<=1000000):Gz 89 v ⟨true,a.ru,a.n⟩ 0:=by
 obtain⟨x,rfl,hx⟩:=h.get;refine⟨Ej a.ru (.sl 1 (Am a.n) false),?_,.mk _ _ _ _ (.sl _ _)⟩;refine call (d:=fun _=>.cl) rfl (by decide) (by simp[At,h.ok]) rfl ?_;rw[ZZ,Z1,run89];unfold wd;rw[C0,BX rfl rfl hx.cell,AJ];simp only[BU,BM,KX,Ao,NM h hl,B2];have e:AD 1 1 (Am a.n) 0 (Ae (Am a.n))=.sl 1 (Am a.n) false:=by simp[AD]
 rw[e,Nn h];rfl
theorem JA (l:List Int):AD 1 1 (Am l) 0 (Ae (Am l))=.sl 1 (Am l) false:=by simp[AD]
theorem Nx (l:List Int) {k:Nat} (hk:k<=l.length):AD 1 1 (Am l) 0 k=.sl 1 (Am (l.take k)) false:=by
 have:k<=(Am l).length:=by rw[BC];exact hk
 simp[AD,this,Pc]
theorem slO_drop (l:List Int) {o n:Nat} (hk:o+n<=l.length):AD 1 1 (Am l) o n=.sl 1 (Am ((l.drop o).take n)) false:=by
 have:o+n<=(Am l).length:=by rw[BC];exact hk
 simp[AD,this,Pc,Vw]
def headA (a:Arr):Arr:=⟨false,a.ru,(a.n++[DB a.ru]).take 1⟩
theorem head_run {v:PV} {a:Arr} (h:AK v a) (hl:a.n.length<=1000000):Gz 95 v (headA a) 0:=by
 obtain⟨x,rfl,hx⟩:=h.get;refine⟨.agg [.bool false,.bool a.ru,.sl 1 (Am ((a.n++[DB a.ru]).take 1)) false],?_,.mk _ _ _ _ (.sl _ _)⟩;refine call (d:=fun _=>.cl) rfl (by decide) (by simp[At,h.ok]) rfl ?_;rw[ZZ,Z1,run95];unfold wd wf wv;rw[C0,BX rfl rfl hx.cell,AJ];simp only[BU,BM,KX,GO,Ao,NM h hl,Wt,B2,E0,AJ];have e0:Az (Av 0 (Ae [I (DB a.ru)])) (Ae [I (DB a.ru)])=true:=rfl
 have e1:Bi (Az (Ae (Am a.n)) (Ae (Am a.n))) (Az (Av (Ae (Am a.n)) (Ae (As (Ae [I (DB a.ru)]) (AG 0 [I (DB a.ru)])))) 2147483648)=true:=by
  have:a.n.length+1<=2147483648:=by omega
  simp[BC,this]
 have e2:Av (Ae (Am a.n)) (Ae (As (Ae [I (DB a.ru)]) (AG 0 [I (DB a.ru)])))=a.n.length+1:=by simp[BC]
 have e3:A9 (As (Ae (Am a.n)) (Am a.n)) (As (Ae [I (DB a.ru)]) (AG 0 [I (DB a.ru)]))=Am (a.n++[DB a.ru]):=by
  rw[show As (Ae [I (DB a.ru)]) (AG 0 [I (DB a.ru)])=[I (DB a.ru)] from rfl];simp[Am,av]
 have e4:∀ k,1<=k->DW (some (.int .i64 1)) (a.n.length+1) k=some 1:=by intro k hk;simp[DW,CM,Dx,AI,hk]
 rw[e0,e1,e2,e3,e4 _ (by omega)];simp only[AJ,Ao];rw[e4 _ (by omega)];simp only[Ao];rw[Nx _ (by simp)];have e5:AA (PV.bool a.ru) 1=true:=rfl;have e6:Ai (PV.bool a.ru) 0=.bool a.ru:=rfl;rw[e5,e6,AJ];have e7:Bh (.tup [.agg [.bool false,.bool a.ru,.sl 1 (Am ((a.n++[DB a.ru]).take 1)) false],.nilI])=true:=by simp[Bh,okV,At,EX]
 rw[e7,AJ];rfl
theorem len_run {v:PV} {a:Arr} (h:AK v a):Gz 98 v (HZ a.n.length) 0:=by
 obtain⟨x,rfl,hx⟩:=h.get;refine⟨Lv a.n.length,?_,P2 _⟩;refine call (d:=fun _=>.cl) rfl (by decide) (by simp[At,h.ok]) rfl ?_;rw[ZZ,Z1,run98];unfold wc wg wv;rw[C0,BX rfl rfl hx.cell,AJ];simp only[BU,BM,Hf,Ao,hx.len,V4];rfl
def En (n:Nat):List Int:=(List.range n).map fun i=>((i+1:Nat):Int)
theorem UW (n:Nat):En (n+1)=En n++[((n+1:Nat):Int)]:=by simp[En,List.range_succ]
theorem Iw (n:Nat):(En n).length=n:=by simp[En]
def DV (a:Arr):Int:=if BH a≠0 then BH a else if AV a < 0 then 102 else if 200 < AV a then 113 else 0
def FJ (a:Arr):Arr:=if DV a=0 then ⟨true,false,En (AV a).toNat⟩ else Bw
theorem count_run {v:PV} {a:Arr} (h:AK v a) (hl:a.n.length<=1000000):Gz 87 v (FJ a) (DV a):=by
 have hfr:=Ph h hl;obtain⟨x,rfl,hx⟩:=h.get;by_cases h0:DV a=0
 ·refine⟨In (.sl 1 (Am (En (AV a).toNat)) false),?_,by unfold FJ;rw[if_pos h0];exact .mk _ _ _ _ (.sl _ _)⟩
  have h1:BH a=0:=by
   unfold DV at h0;by_cases h1:BH a=0
   ·exact h1
   ·rw[if_pos h1] at h0;exact absurd h0 h1
  have h2:¬ AV a < 0:=by
   intro h2;unfold DV at h0;rw[if_neg (by simpa using h1),if_pos h2] at h0;cases h0
  have h3:¬ 200 < AV a:=by
   intro h3;unfold DV at h0;rw[if_neg (by simpa using h1),if_neg h2,if_pos h3] at h0;cases h0
  rw[h0];refine call (d:=fun _=>.cl) rfl (by decide) (by simp[At,h.ok]) rfl ?_;rw[ZZ,Z1,run87];unfold wa wb wd wj wm wn wo wv;rw[C0,BX rfl rfl hx.cell,AJ];simp only[BU,BM,KX,Ao,hfr,B3,af,ai,E4,An,h1];simp only[ne_eq,not_true_eq_false,decide_false,Z0,if_false,A3,AS,Cz,Ao,An,h2,h3,T3];rw[show AA (In .nilS) 3=true from rfl,show Ai (In .nilS) 2=.nilS from rfl,show Ai (In .nilS) 0=.bool true from rfl,show Ai (In .nilS) 1=.bool false from rfl,AJ];obtain⟨N,hN⟩:∃ N:Nat,AV a=N:=⟨(AV a).toNat,by omega⟩;rw[hN] at h3 |-;have hN2:N<=200:=by omega
  rw[show AZ [I N,I 0]=true from rfl,AJ];simp only[CO]
  have:=GK (step:=(fun z14=>Ac (Ad (.bin .lss .num false (.c (Aa z14.1 1)) (.c (Aa z14.1 0)))) (fun z15=>Ah z15 (Ac (Ad (.bin .add .num true (.c (Aa z14.1 1)) (.c (I 1)))) (fun z16 =>
   Af (AT 1 [z16]) (Af (Az (Av 0 (Ae [z16])) (Ae [z16])) (Af (Bi (Az (Al (Aa z14.1 7)) (Ae (Ap (Aa z14.1 8)))) (Az (Av (Al (Aa z14.1 7)) (Ae
   (As (Ae [z16]) (AG 0 [z16])))) 2147483648)) (Ac (Ad (.bin .add .num true (.c (Aa z14.1 1)) (.c (I 1)))) (fun z17=>some (.inl ([Aa z14.1 0,z17,Aa z14.1
   2,Aa z14.1 3,Aa z14.1 4,Aa z14.1 5,Aa z14.1 6,nI (Av (Al (Aa z14.1 7)) (Ae (As (Ae [z16]) (AG 0 [z16])))),.sl 1 (A9 (As (Al (Aa z14.1 7)) (Ap
   (Aa z14.1 8))) (As (Ae [z16]) (AG 0 [z16]))) false],z14.2)))))))) (Ac (Af (Bh (PV.tup [.agg [Aa z14.1 5,Aa z14.1 6,AD 1 1 (Ap (Aa z14.1 8)) 0 (Al (Aa
   z14.1 7))],.nilI])) (some (PV.tup [.agg [Aa z14.1 5,Aa z14.1 6,AD 1 1 (Ap (Aa z14.1 8)) 0 (Al (Aa z14.1 7))],.nilI],z14.2))) (fun z18=>some (.inr z18))))))
   (s0:=(([I N,I 0,.bool false,.bool false,.nilS,.bool true,.bool false,nI 0,.sl 1 [] false],()):List PV×Unit)) (r:=(.tup [In (.sl 1 (Am (En N)) false),.nilI],()))
   (fun i=>([I N,I i,.bool false,.bool false,.nilS,.bool true,.bool false,I i,.sl 1 (Am (En i)) false],())) N rfl (fun i hlt=>?_) ?_
  ·exact this
  ·simp only[A7,A4,Bc,BD,Cl,DI,DH,Ea,ET,AS,Ao,An];rw[if_pos (by simpa using hlt)];simp only[BT,Ao,Ct (by omega:i < 9223372036854775807),E0,AJ];rw[show Az (Av 0 (Ae [I ((i+1:Nat):Int)])) (Ae [I ((i+1:Nat):Int)])=true from rfl,AJ]
   have e1:Bi (Az (Al (I i)) (Ae (Ap (.sl 1 (Am (En i)) false)))) (Az (Av (Al (I i)) (Ae (As (Ae [I ((i+1:Nat):Int)]) (AG 0 [I ((i+1:Nat):Int)])))) 2147483648)=true:=by
    have:i+1<=2147483648:=by omega
    simp[BC,Iw,this]
   rw[e1,AJ];have e2:Av (Al (I i)) (Ae (As (Ae [I ((i+1:Nat):Int)]) (AG 0 [I ((i+1:Nat):Int)])))=i+1:=by simp
   have e3:A9 (As (Al (I i)) (Ap (.sl 1 (Am (En i)) false))) (As (Ae [I ((i+1:Nat):Int)]) (AG 0 [I ((i+1:Nat):Int)]))=Am (En (i+1)):=by
    rw[UW];have:(Am (En i)).take i=Am (En i):=av (by simp[BC,Iw]);simp[Am] at this |-;simpa using this
   rw[e2,e3];rfl
  ·simp only[A7,A4,Bc,BD,Cl,DI,DH,Ea,ET,AS,Ao,An,B2];rw[if_neg (by simp)]
   have e1:AD 1 1 (Am (En N)) 0 (Al (I N))=.sl 1 (Am (En N)) false:=by
    have:=Nx (En N) (k:=N) (by rw[Iw];exact Z5 _);rw[av (by rw[Iw];exact Z5 _)] at this;simpa using this
   rw[e1];have e7:Bh (.tup [.agg [.bool true,.bool false,.sl 1 (Am (En N)) false],.nilI])=true:=by simp[Bh,okV,At,EX]
   rw[e7];rfl
 ·refine⟨.agg [.bool false,.bool false,.nilS],?_,by unfold FJ;rw[if_neg h0];exact BB⟩;refine call (d:=fun _=>.cl) rfl (by decide) (by simp[At,h.ok]) rfl ?_;rw[ZZ,Z1,run87];unfold wa wb wd wj wm wn wo wv;rw[C0,BX rfl rfl hx.cell,AJ];simp only[BU,BM,KX,Ao,hfr,B3,af,ai,E4,An];unfold DV at h0 |-;by_cases h1:BH a=0
  ·simp only[h1,ne_eq,not_true_eq_false,decide_false,Z0,if_false,A3,AS,Cz,Ao,An] at h0 |-;by_cases h2:AV a < 0
   ·simp only[h2,decide_true,if_true];rfl
   ·simp only[h2,decide_false,Z0,if_false] at h0 |-;by_cases h3:200 < AV a
    ·simp only[h3,decide_true,if_true];rfl
    ·simp only[h3,if_false] at h0;exact absurd trivial h0
  ·simp only[h1,ne_eq,not_false_eq_true,decide_true,if_true];try rfl
end Go.Ab.Derive2.Sh


namespace Go.Ab.Derive2.Sh
open Go Go.Ab Go.Ab.Derive2
def HX (i:Nat) (l:List Int):List Int:=(List.range l.length).map fun k=>if k < i\/l.length - i<=k then l.getD (l.length - 1 - k) 0 else l.getD k 0
theorem KA (i:Nat) (l:List Int):(HX i l).length=l.length:=by simp[HX]
theorem LS {i:Nat} {l:List Int} {k:Nat} (h:k < l.length):(HX i l)[k]?=some (if k < i\/l.length - i<=k then l.getD (l.length - 1 - k) 0 else l.getD k 0):=by
 unfold HX;rw[aa,bo h];rfl
theorem revI_zero (l:List Int):HX 0 l=l:=by
 apply aO;intro k;by_cases h:k < l.length
 ·rw[LS h];have:¬ (k < 0\/l.length - 0<=k):=by omega
  rw[if_neg this,Z9,ab h];rfl
 ·rw[aA (by rw[KA];omega),aA (by omega)]
theorem revI_end (l:List Int):HX (l.length / 2) l=l.reverse:=by
 apply aO;intro k;by_cases h:k < l.length
 ·rw[LS h,List.getElem?_reverse h];have e:∀ m,m < l.length->l[m]?=some (l.getD m 0):=fun m hm=>by rw[Z9,ab hm];rfl
  rw[e _ (by omega)];by_cases hc:k < l.length / 2\/l.length - l.length / 2<=k
  ·rw[if_pos hc]
  ·rw[if_neg hc];have:k=l.length - 1 - k:=by omega
   rw[<-this]
 ·rw[aA (by rw[KA];omega),aA (by simp;omega)]
theorem UK {l:List Int} {k:Nat} {n:Int} (h:l[k]?=some n):MO (Am l) (Av 0 k) 0 1 false=some (I n):=by
 have:(Am l)[k]?=some (I n):=by simp[Am,h]
 simp[MO,this]
theorem Nf {l:List Int} {k:Nat} {n:Int} (h:k < l.length):GZ 1 (Am l) (Av 0 k) 0 1 (I n)=some (Am (l.set k n)):=by
 have:(Am l)[k]?=some (I l[k]):=Wn h;have e:(Am l).set k (I n)=Am (l.set k n):=by simp[Am,bK]
 simp only[GZ,Xm,az,this,I];rw[<-e];rfl
theorem P5 (n:Nat):FR (I n)=some n:=natO_int .i64 n
theorem revI_step {i:Nat} {l:List Int} (h:2*i+2<=l.length):((HX i l).set i (l.getD (l.length - 1 - i) 0)).set (l.length - 1 - i) (l.getD i 0)=HX (i+1) l:=by
 apply aO;intro k;by_cases hk:k < l.length
 ·rw[LS hk,cg,cg,co,KA,LS hk];by_cases h1:l.length - 1 - i=k
  ·subst h1;rw[if_pos rfl,if_pos (by omega),if_pos (by omega)];congr 2;omega
  ·rw[if_neg h1];by_cases h2:i=k
   ·subst h2;rw[if_pos rfl,if_pos (by omega),if_pos (by omega)]
   ·rw[if_neg h2];by_cases h3:k < i\/l.length - i<=k
    ·rw[if_pos h3,if_pos (by omega)]
    ·rw[if_neg h3,if_neg (by omega)]
 ·rw[aA (by simp[KA];omega),aA (by rw[KA];omega)]
theorem wsub {a b:Int} (h1 : -9223372036854775808<=a - b) (h2:a - b<=9223372036854775807):IntKind.i64.wrap (a - b)=a - b:=DN h1 h2
set_option maxHeartbeats 800000 in
theorem Yc (l:List Int) (hl:l.length<=1000000):ioO B0 Ot 146 [nI (Ae (Am l)),.sl 1 (Am l) false]=some [.sl 1 (Am l.reverse) false]:=by
 refine io_of_run (cfg:=AL B0 fun _=>.cl) (HO _) (fn:=Qz) rfl (Pf:=S5) rfl (xs:=[]) (obs:=[]) rfl rfl (by simp[At,okV,EX]) ?_;rw[show S5 [] []=Ot from rfl,run146];unfold wj wo;have hn:nI (Ae (Am l))=I l.length:=by simp[BC,I]
 rw[hn];simp only[A7,A4,CF,ah,B2];rw[show nI l.length=I l.length from rfl];simp only[A3,I6,Ao];rw[wsub (by omega) (by omega),show AZ [I l.length,I 0,I ((l.length:Int) - 1)]=true from rfl,AJ];refine GK (fun i=>([I l.length,I i,I ((l.length:Int) - 1 - i),.sl 1 (Am (HX i l)) false],())) (l.length / 2) (by rw[revI_zero];simp) (fun i hlt=>?_) ?_
 ·simp only[A7,A4,Bc,BD,AS,Ao,An,CF,ah,B2,P5];have hj:(l.length:Int) - 1 - i=((l.length - 1 - i:Nat):Int):=by omega
  have e0:decide ((i:Int) < (l.length:Int) - 1 - i)=true:=by simp;omega
  rw[e0];simp only[if_true];rw[hj,P5]
  have g1:(HX i l)[l.length - 1 - i]?=some (l.getD (l.length - 1 - i) 0):=by
   rw[LS (by omega),if_neg (by omega)]
  have g2:(HX i l)[i]?=some (l.getD i 0):=by
   rw[LS (by omega),if_neg (by omega)]
  have c1:D2 (l.length - 1 - i) l.length=true:=by simp;omega
  have c2:D2 i l.length=true:=by simp;omega
  simp only[Ao,c1,c2,AJ];rw[UK g1];simp only[Ao];rw[UK g2];simp only[Ao];rw[Nf (by rw[KA];omega)];simp only[Ao];rw[Nf (by rw[co,KA];omega),revI_step (by omega)];simp only[Ao,BT,I6,Ct (by omega:i < 9223372036854775807)];rw[wsub (by omega) (by omega)];have e3:((l.length - 1 - i:Nat):Int) - 1=(l.length:Int) - 1 - ((i+1:Nat):Int):=by omega
  rw[e3];rfl
 ·simp only[A7,A4,Bc,BD,AS,Ao,An,B2];have e0:decide (((l.length / 2:Nat):Int) < (l.length:Int) - 1 - ((l.length / 2:Nat):Int))=false:=by simp;omega
  rw[e0,revI_end];rfl
theorem XK {v:PV} {a:Arr} (h:AK v a) (hl:a.n.length<=1000000):Gz 93 v ⟨a.li,a.ru,a.n.reverse⟩ 0:=by
 have ho:=NM h hl;obtain⟨x,rfl,hx⟩:=h.get;refine⟨.agg [.bool a.li,.bool a.ru,.sl 1 (Am a.n.reverse) false],?_,.mk _ _ _ _ (.sl _ _)⟩;refine ZT (d:=fun _=>.cl) (args:=[.agg [.cv (.bool a.li),.cv (.bool a.ru),.cv x]]) (fn:=fn93) rfl (by decide) ⟨⟨rfl,rfl,hx.ok,trivial⟩,trivial⟩ (fun y hy=>by simp at hy;subst hy;rfl) rfl ?_;rw[run93,ho];simp only[Ao,B2];have:=Yc a.n hl;unfold Ot at this;rw[this]
 have e:AD 1 1 (Ap (Aa [.sl 1 (Am a.n.reverse) false] 0)) 0 (Ae (Am a.n))=.sl 1 (Am a.n.reverse) false:=by
  simp[AD,BC,Am,av]
 simp only[Ao];rw[e];have e7:Bh (.tup [.agg [.bool a.li,.bool a.ru,.sl 1 (Am a.n.reverse) false],.nilI])=true:=by simp[Bh,okV,At,EX]
 rw[e7];rfl
end Go.Ab.Derive2.Sh


namespace Go.Ab.Derive2.Sh
open Go Go.Ab Go.Ab.Derive2
inductive Fc:PV->Arr->Arr->Prop
 | mk (l1 r1 l2 r2:Bool) (x y:PV) (b a:List Int) (hx:Bd x b) (hy:Bd y a):Fc (.agg [.bool l1,.bool r1,x,.bool l2,.bool r2,y]) ⟨l1,r1,b⟩ ⟨l2,r2,a⟩
theorem Fc.get {v:PV} {b a:Arr} (h:Fc v b a):∃ x y,v=.agg [.bool b.li,.bool b.ru,x,.bool a.li,.bool a.ru,y]/\Bd x b.n/\Bd y a.n:=by
 obtain⟨_,_,_,_,x,y,_,_,hx,hy⟩:=h;exact⟨x,y,rfl,hx,hy⟩
theorem Fc.ok {v:PV} {b a:Arr} (h:Fc v b a):okV v=true:=by
 obtain⟨x,y,rfl,hx,hy⟩:=h.get;simp[okV,At,hx.ok,hy.ok]
theorem val6 {a b c d e f:PV} (ha:a.isCell=true) (hb:b.isCell=true) (hc:c.isCell=true) (hd:d.isCell=true) (he:e.isCell=true) (hf:f.isCell=true):(PV.agg [a,b,c,d,e,f]).isVal=true:=by simp[PV.isVal,ha,hb,hc,hd,he,hf]
theorem Fc.val {v:PV} {b a:Arr} (h:Fc v b a):A1 v=true:=by
 obtain⟨x,y,rfl,hx,hy⟩:=h.get;exact val6 rfl rfl hx.cell rfl rfl hy.cell
theorem N4 (a b c d e f:PV):BG [a,b,c,d,e,f] 1 1 false=some b:=rfl
theorem sel6_0 (a b c d e f:PV):BG [a,b,c,d,e,f] 0 1 false=some a:=rfl
theorem Gs (a b c d e f:PV):BG [a,b,c,d,e,f] 2 1 false=some c:=rfl
theorem S6 (a b c d e f:PV):BG [a,b,c,d,e,f] 3 1 false=some d:=rfl
theorem PZ (a b c d e f:PV):BG [a,b,c,d,e,f] 4 1 false=some e:=rfl
theorem PY (a b c d e f:PV):BG [a,b,c,d,e,f] 5 1 false=some f:=rfl
theorem IL (a b c d e f:PV):BG [a,b,c,d,e,f] 0 3 true=some (.agg [a,b,c]):=rfl
theorem Ii (a b c d e f:PV):BG [a,b,c,d,e,f] 3 3 true=some (.agg [d,e,f]):=rfl
theorem JJ (a b c d e f:PV):BG [a,b,c,d,e,f] 0 6 true=some (.agg [a,b,c,d,e,f]):=rfl
theorem GB (li ru:Bool) {x:PV} {l:List Int} (h:Bd x l):AK (.agg [.bool li,.bool ru,x]) ⟨li,ru,l⟩:=.mk _ _ _ _ h
theorem ZP {v:PV} {b a:Arr} (h:Fc v b a) (hb:b.n.length<=1000000) (ha:a.n.length<=1000000):Gz 100 v (HZ (if a.same b then 0 else 1)) 0:=by
 obtain⟨x,y,rfl,hx,hy⟩:=h.get;refine⟨Lv (if a.same b then 0 else 1),?_,P2 _⟩;refine call (d:=fun _=>.cl) rfl (by decide) (by simp[At,h.ok]) rfl ?_;have hs:=same_run (GB a.li a.ru hy) (GB b.li b.ru hx) ha hb;rw[ZZ,Z1,run100];unfold wd wv;rw[h.val,AJ];simp only[BU,BM,IL,Ii,Ao,hs,An,A3,V4];cases hq:a.same b with
 | true=>rfl
 | false=>rfl
theorem find_run {v:PV} {l:List Int} (hv:Bd v l) (hl:l.length<=1000000) (n:Int):Ax B0 .cl (.fn 143 []) [v,I n]=some (I (CD (fun x=>n==x) 0 l)):=by
 refine call (d:=fun _=>.cl) rfl (by decide) (by simp[At,hv.ok]) rfl ?_;rw[ZZ,ZZ,Z1,run143];unfold wc wh wj wo wq wr;rw[hv.len];simp only[Ao];have h0:AZ [v,I n,I l.length,.int .i64 0]=true:=by simp[AZ,hv.und,A3]
 rw[h0,AJ]
 have key:∀ m i,i+m=l.length->Bg (fun z2=>Ac (Ad (.bin .lss .num false (.c (Aa z2.1 3)) (.c (Aa z2.1 2)))) (fun z3=>Ah z3 (Ac (Ad (.idxAddr 1 (.c (Aa z2.1 0)) (.c (Aa z2.1 3)))) (fun z4=>Ac (Ad (.load 1 false (.c z4))) (fun z5=>Ac (Ad (.bin .eql .num false (.c (Aa z2.1 1)) (.c z5))) (fun z6=>Ah z6 (Ac (some (Aa z2.1 3,z2.2)) (fun z7=>some (.inr z7))) (Ac (Ad (.bin .add .num true (.c (Aa z2.1 3)) (.c (.int .i64 1)))) (fun z8=>some (.inl ([Aa z2.1 0,Aa z2.1 1,Aa z2.1 2,z8],z2.2)))))))) (Ac (some (.int .i64 (-1),z2.2)) (fun z9=>some (.inr z9))))) (([v,I n,I l.length,I i],()):List PV×Unit)=some (I (CD (fun x=>n==x) i (l.drop i)),()):=by
  intro m;induction m with
  | zero =>
   intro i hi;refine BW ?_;have:i=l.length:=by omega
   subst this;simp[CD];rfl
  | succ m ih =>
   intro i hi;have hlt:i < l.length:=by omega
   rw[FV hlt];by_cases hpx:n=l[i]
   ·refine BW ?_;simp only[A7,A4,Bc,BD,AS,Ao,An];rw[if_pos (by simpa using hlt),hv.idx hlt];simp[hpx,CD]
   ·rw[Dq (s':=([v,I n,I l.length,I ((i+1:Nat):Int)],()))]
    ·rw[ih (i+1) (by omega)];simp[CD,hpx]
    ·simp only[A7,A4,Bc,BD,AS,Ao,An];rw[if_pos (by simpa using hlt),hv.idx hlt];simp[hpx,A3,Ct (by omega:i < 9223372036854775807)]
 have:=key l.length 0 (by omega);simpa[A3] using this
theorem grow_run {n:Int} (h0:0<=n) (h1:n<=1000000):Ax B0 (.own 1) (.fn 172 []) [.nilS,I n]=some (.sl 1 [] false):=by
 have hs:B0.sp 172 (fun _=>none) [.nilS,I n]=some {v:=.arr (0,0) 1 0 0,new:=[.arr 1 0 []]}:=by
  have:BY 172 (fun _=>none) [.nilS,I n]=some {v:=.arr (0,0) 1 0 0,new:=[.arr 1 0 []]}:=by simp[BY,PX,I,h0,h1]
  exact this
 have e:spO B0.sp (AY 172) (Bt 172 [.nilS,I n] [])=some (some (.arr (0,0) 1 0 0,[.arr 1 0 []])):=by
  show spO B0.sp 172 [.nilS,I n]=_;unfold spO;rw[hs];rfl
 unfold Ax;dsimp only
 rw[e];rfl
theorem UO {u v:PV} {l m:List Int} (hu:Bd u l) (hv:Bd v m) (hl:l.length<=400000) (hm:m.length<=400000):A8 B0 (.own 1) true 145 [.sl 1 [u,v] false]=some (.sl 1 (Am (l++m)) false):=by
 refine lend_own (d:=fun _=>.cl) rfl (by simp[At,okV,hu.ok,hv.ok]) rfl ?_;rw[ZZ,Z1,run145];unfold wc wh wj wm wo wp wr;rw[HA];simp only[Ao];rw[show AZ [.sl 1 [u,v] false,.int .i64 0,.sl 1 [u,v] false,.int .i64 (([u,v].length:Nat):Int),.int .i64 0]=true from rfl,AJ]
 have i0:Ad (.idxAddr 1 (.c (.sl 1 [u,v] false)) (.c (I 0)))=some (.ptr [u] 0):=by
  have:=LI (k:=.i64) (xs:=[u,v]) (j:=0) (n:=1) (f:=false) (v:=u) (by omega) rfl;rw[hu.cells] at this;exact this
 have i1:Ad (.idxAddr 1 (.c (.sl 1 [u,v] false)) (.c (I 1)))=some (.ptr [v] 0):=by
  have:=LI (k:=.i64) (xs:=[u,v]) (j:=1) (n:=1) (f:=false) (v:=v) (by omega) rfl;rw[hv.cells] at this;exact this
 have l1:∀ w:PV,Ad (.load 1 false (.c (.ptr [w] 0)))=some w:=fun w=>by rw[Kx];rfl
 rw[Dq (s':=([.sl 1 [u,v] false,I l.length,.sl 1 [u,v] false,I 2,I 1],()))]
 ·rw[Dq (s':=([.sl 1 [u,v] false,I ((l.length:Int)+m.length),.sl 1 [u,v] false,I 2,I 2],()))]
  ·refine BW ?_;simp only[A7,A4,Bc,BD,Cl,A3,AS,Ao,An];rw[if_neg (by decide),grow_run (by omega) (by omega)];simp only[Ao,HA,B2];rw[show AZ [nI (Ae []),.sl 1 [u,v] false,.int .i64 (([u,v].length:Nat):Int),I 0]=true from rfl,AJ];rw[Dq (s':=([I l.length,.sl 1 [u,v] false,I 2,I 1,.sl 1 (Am l) false],()))]
   ·rw[Dq (s':=([I ((l.length+m.length:Nat):Int),.sl 1 [u,v] false,I 2,I 2,.sl 1 (Am (l++m)) false],()))]
    ·rw[BW (r:=(.sl 1 (Am (l++m)) false,()))];·rfl
     ·simp only[A7,A4,Bc,BD,Cl,A3,AS,Ao,An,B2];rw[if_neg (by decide)];have:Ge (Al (I ((l.length+m.length:Nat):Int))) (Ae (Am (l++m)))=true:=by simp[BC];omega
      rw[this];rfl
    ·simp only[A7,A4,Bc,BD,Cl,A3,AS,Ao,An,B2];rw[if_pos (by decide),i1];simp only[Ao,l1,hv.elems]
     have e1:Bi (Az (Al (I l.length)) (Ae (Am l))) (Az (Av (Al (I l.length)) (Ae (Am m))) 2147483648)=true:=by
      have:l.length+m.length<=2147483648:=by omega
      simp[BC,this]
     rw[e1,AJ]
     have e2:A9 (As (Al (I l.length)) (Am l)) (Am m)=Am (l++m):=by
      have:(Am l).take l.length=Am l:=av (by rw[BC];exact Z5 _);simp[this,ints_app]
     rw[e2];have e3:nI (Av (Al (I l.length)) (Ae (Am m)))=I ((l.length+m.length:Nat):Int):=by simp[BC,I]
     rw[e3];rfl
   ·simp only[A7,A4,Bc,BD,Cl,A3,Ao,An,B2];rw[show nI (Ae [])=I 0 from rfl];rw[show I (([u,v].length:Nat):Int)=I 2 from rfl];simp only[AS,Ao,An];rw[if_pos (by decide),i0];simp only[Ao,l1,hu.elems]
    have e1:Bi (Az (Al (I 0)) (Ae [])) (Az (Av (Al (I 0)) (Ae (Am l))) 2147483648)=true:=by
     have:l.length<=2147483648:=by omega
     simp[BC,this]
    rw[e1,AJ];have e2:A9 (As (Al (I 0)) []) (Am l)=Am l:=by simp
    rw[e2];have e3:nI (Av (Al (I 0)) (Ae (Am l)))=I l.length:=by simp[BC,I]
    rw[e3];rfl
  ·simp only[A7,A4,Bc,BD,Cl,A3,AS,Ao,An];rw[if_pos (by decide),i1];simp only[Ao,l1,hv.len,BT,AS,An];rw[DN (by omega) (by omega),if_neg (by simp;omega)];rfl
 ·simp only[A7,A4,Bc,BD,Cl,A3];rw[show I (([u,v].length:Nat):Int)=I 2 from rfl];simp only[AS,Ao,An];rw[if_pos (by decide),i0];simp only[Ao,l1,hu.len,BT,AS,An];rw[DN (by omega) (by omega),if_neg (by simp)];simp;rfl
def E7 (a:Arr):Bool:=a.ru&&decide (0 < a.n.length)
theorem LQ {v:PV} {a:Arr} (h:AK v a):Ax B0 .cl (.fn 144 []) [v]=some (.bool (E7 a)):=by
 obtain⟨x,rfl,hx⟩:=h.get;refine call (d:=fun _=>.cl) rfl (by decide) (by simp[At,h.ok]) rfl ?_;rw[ZZ,Z1,run144];unfold wc wf wg;rw[C0,BX rfl rfl hx.cell,AJ];simp only[BU,BM,GO,Hf,Ao,hx.len,A3,Cz,An];unfold E7
 have:decide ((0:Int) < (a.n.length:Int))=decide (0 < a.n.length):=by
  rw[ba,decide_eq_true_iff,decide_eq_true_iff];omega
 rw[this];cases a.ru<;>rfl
def E8 (a b:Arr):Int:=if 0 < a.n.length/\0 < b.n.length/\a.ru≠b.ru then 102 else if 200 < a.n.length+b.n.length then 113 else 0
def GW (a b:Arr):Arr:=if E8 a b=0 then ⟨true,E7 a||(E7 b||(a.ru&&b.ru)),a.n++b.n⟩ else Bw
theorem join_run {v:PV} {b a:Arr} (h:Fc v b a) (hb:b.n.length<=400000) (ha:a.n.length<=400000):Gz 92 v (GW a b) (E8 a b):=by
 obtain⟨x,y,rfl,hx,hy⟩:=h.get;have hta:=LQ (GB a.li a.ru hy);have htb:=LQ (GB b.li b.ru hx);have hcc:=UO hy hx ha hb
 have e1:∀ l:List Int,decide ((0:Int) < (l.length:Int))=decide (0 < l.length):=by
  intro l;rw[ba,decide_eq_true_iff,decide_eq_true_iff];omega
 have e2:decide ((200:Int) < (a.n.length:Int)+(b.n.length:Int))=decide (200 < a.n.length+b.n.length):=by
  rw[ba,decide_eq_true_iff,decide_eq_true_iff];omega
 have oks:AT 1 [y,x]=true:=by simp[AT,hx.val,hy.val,hx.cells,hy.cells]
 have slO2:AD 1 1 [y,x] 0 (Ae [y,x])=.sl 1 [y,x] false:=rfl
 have fin:∀ r:Bool,Bh (.tup [.agg [.bool true,.bool r,AD 1 1 (Am (a.n++b.n)) 0 (Ae (Am (a.n++b.n)))],.nilI])=true:=fun r=>by
  rw[JA];simp[Bh,okV,At,EX]
 by_cases h0:E8 a b=0
 ·refine⟨.agg [.bool true,.bool (E7 a||(E7 b||(a.ru&&b.ru))),.sl 1 (Am (a.n++b.n)) false],?_,by unfold GW;rw[if_pos h0];exact .mk _ _ _ _ (.sl _ _)⟩;have h1:¬ (0 < a.n.length/\0 < b.n.length/\a.ru≠b.ru):=fun h=>by unfold E8 at h0;rw[if_pos h] at h0;cases h0
  have h2:¬ 200 < a.n.length+b.n.length:=fun h=>by unfold E8 at h0;rw[if_neg h1,if_pos h] at h0;cases h0
  rw[h0];refine call (d:=fun _=>.cl) rfl (by decide) (by simp[At,h.ok]) rfl ?_;rw[ZZ,Z1,run92];unfold wc wd wf wg wp wv;rw[h.val,AJ];simp only[BU,BM,N4,Gs,PZ,PY,IL,Ii,Ao,hx.len,hy.len,A3,Cz,BT,An,HD,e1,hta,htb,oks,AJ,slO2,hcc,B2,fin]
  have c1:(if decide (0 < a.n.length)=true then (if decide (0 < b.n.length)=true then some (PV.bool (!(a.ru==b.ru))) else some (.bool false)) else some (.bool false))=some (.bool false):=by
   by_cases q1:0 < a.n.length
   ·by_cases q2:0 < b.n.length
    ·have:a.ru=b.ru:=bg fun q=>h1 ⟨q1,q2,q⟩;simp[q1,q2,this]
    ·simp[q1,q2]
   ·simp[q1]
  rw[c1];simp only[Ao,An,Z0,if_false];rw[DN (by omega) (by omega),e2,decide_eq_false h2];simp only[An,Z0,if_false];rw[JA];have ta:E7 ⟨a.li,a.ru,a.n⟩=E7 a:=rfl;have tb:E7 ⟨b.li,b.ru,b.n⟩=E7 b:=rfl;rw[ta,tb];have fin2:∀ r:Bool,Bh (.tup [.agg [.bool true,.bool r,.sl 1 (Am (a.n++b.n)) false],.nilI])=true:=fun r=>by simp[Bh,okV,At,EX]
  have oc:∀ r:Bool,AA (PV.bool r) 1=true:=fun _=>rfl;have cp:∀ r:Bool,Ai (PV.bool r) 0=.bool r:=fun _=>rfl;rw[oc,cp,fin2];cases E7 a<;>cases E7 b<;>cases a.ru<;>simp[fin2,errV_0]
 ·refine⟨.agg [.bool false,.bool false,.nilS],?_,by unfold GW;rw[if_neg h0];exact BB⟩;refine call (d:=fun _=>.cl) rfl (by decide) (by simp[At,h.ok]) rfl ?_;rw[ZZ,Z1,run92];unfold wc wd wf wg wp wv;rw[h.val,AJ];simp only[BU,BM,N4,Gs,PZ,PY,Ao,hx.len,hy.len,A3,Cz,BT,An,HD,e1];unfold E8 at h0 |-;by_cases h1:0 < a.n.length/\0 < b.n.length/\a.ru≠b.ru
  ·rw[if_pos h1];obtain⟨q1,q2,q3⟩:=h1;have:(a.ru==b.ru)=false:=by simpa using q3
   simp only[q1,q2,this,decide_true,if_true,Ao,An,ax];rfl
  ·rw[if_neg h1] at h0 |-
   have c1:(if decide (0 < a.n.length)=true then (if decide (0 < b.n.length)=true then some (PV.bool (!(a.ru==b.ru))) else some (.bool false)) else some (.bool false))=some (.bool false):=by
    by_cases q1:0 < a.n.length
    ·by_cases q2:0 < b.n.length
     ·have:a.ru=b.ru:=bg fun q=>h1 ⟨q1,q2,q⟩;simp[q1,q2,this]
     ·simp[q1,q2]
    ·simp[q1]
   rw[c1];simp only[Ao,An,Z0,if_false];rw[DN (by omega) (by omega),e2];by_cases h2:200 < a.n.length+b.n.length
   ·rw[if_pos h2,decide_eq_true h2];rfl
   ·rw[if_neg h2] at h0;exact absurd rfl h0
end Go.Ab.Derive2.Sh


namespace Go.Ab.Derive2.Sh
open Go Go.Ab Go.Ab.Derive2
theorem Bd.lo {v:PV} {l:List Int} (h:Bd v l) {k:Nat} (hk:k<=l.length):∃ u,Ad (.slice 1 (.c v) (some (.c (I k))) none none)=some u/\Bd u (l.drop k):=by
 cases h with
 | nil =>
  have:k=0:=by simpa using hk
  subst this;exact⟨.nilS,by simp[Ad,exec,RX.ev,Cp,CM,Dx,AI,I,FW],.nil⟩
 | sl _ f =>
  have hk':k<=(Am l).length:=by rw[BC];exact hk
  refine⟨.sl 1 (Am (l.drop k)) f,?_,.sl _ _⟩;simp[Ad,exec,RX.ev,Cp,CM,Dx,AI,I,hk',Vw,FW]
theorem Bd.himx {v:PV} {l:List Int} (h:Bd v l) {k:Nat} (hk:k<=l.length):∃ u,Ad (.slice 1 (.c v) none (some (.c (I k))) (some (.c (I k))))=some u/\Bd u (l.take k):=by
 cases h with
 | nil =>
  have:k=0:=by simpa using hk
  subst this;exact⟨.nilS,by simp[Ad,exec,RX.ev,Cp,CM,Dx,AI,I,FW],.nil⟩
 | sl _ f =>
  have hk':k<=(Am l).length:=by rw[BC];exact hk
  refine⟨.sl 1 (Am (l.take k)) true,?_,.sl _ _⟩;simp[Ad,exec,RX.ev,Cp,CM,Dx,AI,I,hk',Pc,FW]
def Cy (a b:Arr) (n:Int):Int:=if CD (fun x=>n==x) 0 a.n < 0\/a.ru≠b.ru then (a.n.length:Int)+1 else CD (fun x=>n==x) 0 a.n+1
def JT (a:Arr):Int:=if a.li then 0 else 111
def JU (a b:Arr):Arr:=if a.li then ⟨b.li,false,b.n.map (Cy a b)⟩ else Bw
theorem idxP_le (p:Int->Bool):∀ (l:List Int) (i:Nat), -1<=CD p i l/\CD p i l<=i+l.length:=by
 intro l;induction l with
 | nil=>intro i;simp[CD]
 | cons x l ih =>
  intro i;simp only[CD];split;·simp only[be];omega
  ·have:=ih (i+1);simp only[be];omega
theorem HG {l:List Int} {n:Int} {c:Nat} (hc:c=l.length):A9 (As c (Am l)) (As (Ae [I n]) (AG 0 [I n]))=Am (l++[n]):=by
 subst hc;rw[show As (Ae [I n]) (AG 0 [I n])=[I n] from rfl];simp[Am,av]
theorem HH {l:List Int} {n:Int} {c:Nat} (hc:c=l.length) (hl:l.length<=1000000):Bi (Az c (Ae (Am l))) (Az (Av c (Ae (As (Ae [I n]) (AG 0 [I n])))) 2147483648)=true:=by
 subst hc;have:l.length+1<=2147483648:=by omega
 simp[BC,this]
theorem If {n:Int} (c:Nat):nI (Av c (Ae (As (Ae [I n]) (AG 0 [I n]))))=I ((c+1:Nat):Int):=by simp[I]
theorem Nc {l:List Int} {i:Nat} (h:i < l.length):l.take (i+1)=l.take i++[l[i]]:=by rw[List.take_succ_eq_append_getElem h]
set_option maxHeartbeats 1000000 in
theorem XT {v:PV} {b a:Arr} (h:Fc v b a) (hb:b.n.length<=400000) (ha:a.n.length<=400000):Gz 88 v (JU a b) (JT a):=by
 obtain⟨x,y,rfl,hx,hy⟩:=h.get;by_cases hli:a.li=true
 case neg =>
  rw[cH] at hli;refine⟨.agg [.bool false,.bool false,.nilS],?_,by unfold JU;rw[hli];exact BB⟩;refine call (d:=fun _=>.cl) rfl (by decide) (by simp[At,h.ok]) rfl ?_;rw[ZZ,Z1,run88];unfold wc we wf wg wh wi wj wm wo wr wv;rw[h.val,AJ];simp only[BU,BM,S6,Ao,Ca,hli,An,ax,if_true];unfold JT;rw[hli];rfl
 case pos =>
  refine⟨.agg [.bool b.li,.bool false,.sl 1 (Am (b.n.map (Cy a b))) false],?_,by unfold JU;rw[hli];exact .mk _ _ _ _ (.sl _ _)⟩;rw[show JT a=0 by unfold JT;rw[hli];rfl];refine call (d:=fun _=>.cl) rfl (by decide) (by simp[At,h.ok]) rfl ?_;rw[ZZ,Z1,run88];unfold wc we wf wg wh wi wj wm wo wr wv;rw[h.val,AJ];simp only[BU,BM,sel6_0,Gs,S6,Ao,Ca,hli,An,Z8,Z0,if_false];rw[show Ad (.build [.bool false,.bool false,.nilS] [(0,(1,.c (.bool b.li)))])=some (.agg [.bool b.li,.bool false,.nilS]) from rfl];simp only[Ao,hx.len,Jr (a:=.bool b.li) (b:=.bool false) (c:=.nilS) rfl,AJ,Jz,Jy,IC,CO];rw[show AZ [x,I b.n.length,.int .i64 0]=true by simp[AZ,hx.und,A3],AJ];refine GK (fun i=>([x,I b.n.length,I i,.agg [.bool b.li,.bool b.ru,x,.bool true,.bool a.ru,y],.bool false,.bool false,.nilS,.bool b.li,.bool false,I i,.sl 1 (Am ((b.n.take i).map (Cy a b))) false],())) b.n.length (by simp[Am,I]) (fun i hlt=>?_) ?_
  ·have n9:∀ (a0 a1 a2 a3 a4 a5 a6 a7 a8 a9:PV) (l:List PV),Aa (a0 :: a1 :: a2 :: a3 :: a4 :: a5 :: a6 :: a7 :: a8 :: a9 :: l) 9=a9:=fun _ _ _ _ _ _ _ _ _ _ _=>rfl;have n10:∀ (a0 a1 a2 a3 a4 a5 a6 a7 a8 a9 a10:PV) (l:List PV),Aa (a0 :: a1 :: a2 :: a3 :: a4 :: a5 :: a6 :: a7 :: a8 :: a9 :: a10 :: l) 10=a10:=fun _ _ _ _ _ _ _ _ _ _ _ _=>rfl;simp only[A7,A4,Bc,BD,Cl,DI,DH,Ea,ET,n9,n10,AS,Ao,An,CF,ah,B2];rw[if_pos (by simpa using hlt),hx.idx hlt];simp only[Ao,CG,BM,PY,find_run hy (by omega),PZ,N4,HD,A3,AS,An];have hle:=idxP_le (fun x=>b.n[i]==x) a.n 0;have hln:((b.n.take i).map (Cy a b)).length=i:=by simp;omega
   have hfin:((b.n.take i).map (Cy a b))++[Cy a b b.n[i]]=(b.n.take (i+1)).map (Cy a b):=by rw[Nc hlt,bm];rfl
   by_cases hc:CD (fun x=>b.n[i]==x) 0 a.n < 0\/a.ru≠b.ru
   ·have e1:(if decide (CD (fun x=>b.n[i]==x) 0 a.n < 0)=true then some (PV.bool true) else some (PV.bool (!(a.ru==b.ru))))=some (.bool true):=by
     rcases hc with hc | hc;·simp[hc]
     ·by_cases q:CD (fun x=>b.n[i]==x) 0 a.n < 0<;>simp[q,hc]
    rw[e1];simp only[Ao,An,if_true,hy.len,BT]
    have e2:IntKind.i64.wrap ((a.n.length:Int)+1)=Cy a b b.n[i]:=by
     rw[DN (by omega) (by omega)];unfold Cy;rw[if_pos hc]
    rw[e2];simp only[Ao,E0,AJ];rw[show Az (Av 0 (Ae [I (Cy a b b.n[i])])) (Ae [I (Cy a b b.n[i])])=true from rfl,HH hln.symm (by omega),HG hln.symm,If];simp only[AJ,Ct (by omega:i < 9223372036854775807),hfin]
   ·have e1:(if decide (CD (fun x=>b.n[i]==x) 0 a.n < 0)=true then some (PV.bool true) else some (PV.bool (!(a.ru==b.ru))))=some (.bool false):=by
     have q1:¬ CD (fun x=>b.n[i]==x) 0 a.n < 0:=fun q=>hc (.inl q);have q2:a.ru=b.ru:=bg fun q=>hc (.inr q);rw[decide_eq_false q1,q2];simp
    rw[e1];simp only[Ao,An,Z0,if_false,BT]
    have e2:IntKind.i64.wrap (CD (fun x=>b.n[i]==x) 0 a.n+1)=Cy a b b.n[i]:=by
     rw[DN (by omega) (by omega)];unfold Cy;rw[if_neg hc]
    rw[e2];simp only[Ao,E0,AJ];rw[show Az (Av 0 (Ae [I (Cy a b b.n[i])])) (Ae [I (Cy a b b.n[i])])=true from rfl,HH hln.symm (by omega),HG hln.symm,If];simp only[AJ,Ct (by omega:i < 9223372036854775807),hfin]
  ·have n9:∀ (a0 a1 a2 a3 a4 a5 a6 a7 a8 a9:PV) (l:List PV),Aa (a0 :: a1 :: a2 :: a3 :: a4 :: a5 :: a6 :: a7 :: a8 :: a9 :: l) 9=a9:=fun _ _ _ _ _ _ _ _ _ _ _=>rfl;have n10:∀ (a0 a1 a2 a3 a4 a5 a6 a7 a8 a9 a10:PV) (l:List PV),Aa (a0 :: a1 :: a2 :: a3 :: a4 :: a5 :: a6 :: a7 :: a8 :: a9 :: a10 :: l) 10=a10:=fun _ _ _ _ _ _ _ _ _ _ _ _=>rfl;simp only[A7,A4,Bc,Ea,ET,n9,n10,AS,Ao,An,CF,ah,B2];rw[if_neg (by simp),bA]
   have e1:AD 1 1 (Am (b.n.map (Cy a b))) 0 b.n.length=.sl 1 (Am (b.n.map (Cy a b))) false:=by
    have:=JA (b.n.map (Cy a b));simpa[BC] using this
   rw[e1];have e7:Bh (.tup [.agg [.bool b.li,.bool false,.sl 1 (Am (b.n.map (Cy a b))) false],.nilI])=true:=by simp[Bh,okV,At,EX]
   rw[e7];rfl
def CQ (lo hi:Int) (a:Arr):Int:=if BH a=0/\(AV a < lo\/hi < AV a) then 113 else BH a
theorem UV {v:PV} {b a:Arr} (h:Fc v b a) (ha:a.n.length<=1000000) (lo hi:Int):Ax B0 .cl (.fn 141 []) [v,I lo,I hi]=some (.tup [I (AV a),CP (CQ lo hi a)]):=by
 obtain⟨x,y,rfl,hx,hy⟩:=h.get;have hf:=Ph (GB a.li a.ru hy) ha;refine call (d:=fun _=>.cl) rfl (by decide) (by simp[At,h.ok]) rfl ?_;rw[ZZ,ZZ,ZZ,Z1,run141];unfold wa wb wo wu wv;rw[h.val,AJ];simp only[BU,BM,Ii,Ao,hf,B3,af,ai,NZ,An,AS,Cz];have ef:BH ⟨a.li,a.ru,a.n⟩=BH a:=rfl;have en:AV ⟨a.li,a.ru,a.n⟩=AV a:=rfl;rw[ef,en];unfold CQ;by_cases h1:BH a=0
 ·by_cases h2:AV a < lo
  ·simp only[h1,h2,decide_true,if_true,Ao,An,true_or,true_and];rfl
  ·by_cases h3:hi < AV a
   ·simp only[h1,h2,h3,decide_true,decide_false,if_true,Z0,if_false,Ao,An,or_true,true_and];rfl
   ·simp only[h1,h2,h3,decide_true,decide_false,if_true,Z0,if_false,Ao,An,or_false,and_false]
 ·simp only[h1,decide_false,Z0,if_false,Ao,An,false_and]
def DO (a b:Arr):Int:=if CQ (-9223372036854775808) 200 a≠0 then CQ (-9223372036854775808) 200 a else if AV a < 0 then 102 else if 0 < AV a/\b.n.length=0 then 110 else 0
def Gf (b:Arr) (n:Nat):List Int:=(List.range n).map fun i=>b.n.getD (i%b.n.length) 0
def Gc (a b:Arr):Arr:=if DO a b=0 then ⟨true,b.ru,Gf b (AV a).toNat⟩ else Bw
theorem Wz (b:Arr) (n:Nat):Gf b (n+1)=Gf b n++[b.n.getD (n%b.n.length) 0]:=by simp[Gf,List.range_succ]
theorem IK (b:Arr) (n:Nat):(Gf b n).length=n:=by simp[Gf]
set_option maxHeartbeats 1000000 in
theorem Ye {v:PV} {b a:Arr} (h:Fc v b a) (hb:b.n.length<=400000) (ha:a.n.length<=400000):Gz 86 v (Gc a b) (DO a b):=by
 have ham:=UV h (by omega) (-9223372036854775808) 200;obtain⟨x,y,rfl,hx,hy⟩:=h.get
 have elen:((b.n.length:Int)==0)=decide (b.n.length=0):=by
  rw[ba,beq_iff_eq,decide_eq_true_iff];omega
 by_cases h1:CQ (-9223372036854775808) 200 a=0
 ·by_cases h2:AV a < 0
  ·have hE:DO a b=102:=by unfold DO;rw[if_neg (by simpa using h1),if_pos h2]
   refine⟨.agg [.bool false,.bool false,.nilS],?_,by unfold Gc;rw[hE,if_neg (by decide)];exact BB⟩;rw[hE];refine call (d:=fun _=>.cl) rfl (by decide) (by simp[At,h.ok]) rfl ?_;rw[ZZ,Z1,Ql];unfold wa wb wc wd wg wh wj wl wm wn wo wr wv;rw[h.val,AJ];simp only[BU,BM,JJ,Ao,A3,ham,B3,af,ai,NZ,An,AS,h1,h2,decide_true,if_true];rfl
  ·by_cases h3:0 < AV a/\b.n.length=0
   ·have hE:DO a b=110:=by unfold DO;rw[if_neg (by simpa using h1),if_neg h2,if_pos h3]
    refine⟨.agg [.bool false,.bool false,.nilS],?_,by unfold Gc;rw[hE,if_neg (by decide)];exact BB⟩;rw[hE];refine call (d:=fun _=>.cl) rfl (by decide) (by simp[At,h.ok]) rfl ?_;rw[ZZ,Z1,Ql];unfold wa wb wc wd wg wh wj wl wm wn wo wr wv;rw[h.val,AJ];simp only[BU,BM,JJ,Gs,Ao,A3,ham,B3,af,ai,NZ,E4,An,AS,Cz,CN,hx.len,h1,h2,h3.1,h3.2,decide_true,decide_false,if_true,Z0,if_false,ne_eq,not_true_eq_false];rfl
   ·have hE:DO a b=0:=by unfold DO;rw[if_neg (by simpa using h1),if_neg h2,if_neg h3]
    refine⟨Ej b.ru (.sl 1 (Am (Gf b (AV a).toNat)) false),?_,by unfold Gc;rw[if_pos hE];exact .mk _ _ _ _ (.sl _ _)⟩;rw[hE];refine call (d:=fun _=>.cl) rfl (by decide) (by simp[At,h.ok]) rfl ?_;rw[ZZ,Z1,Ql];unfold wa wb wc wd wg wh wj wl wm wn wo wr wv;rw[h.val,AJ]
    have h4:¬ 200 < AV a:=fun q=>by
     unfold CQ at h1;by_cases q2:BH a=0
     ·rw[if_pos ⟨q2,.inr q⟩] at h1;cases h1
     ·rw[if_neg (fun q3=>q2 q3.1)] at h1;exact q2 h1
    obtain⟨N,hN⟩:∃ N:Nat,AV a=N:=⟨(AV a).toNat,by omega⟩;simp only[BU,BM,JJ,Gs,Ao,A3,ham,B3,af,ai,NZ,E4,An,AS,Cz,CN,hx.len,h1,h2,elen,decide_true,decide_false,if_true,Z0,if_false,ne_eq,not_true_eq_false];rw[show Ad (.build [I 0] [(0,(1,.c (I 110)))])=some (.agg [I 110]) from rfl];simp only[Ao]
    have e0:(if decide (0 < AV a)=true then some (PV.bool (decide (b.n.length=0))) else some (.bool false))=some (.bool false):=by
     by_cases q:0 < AV a
     ·have:¬ b.n.length=0:=fun q2=>h3 ⟨q,q2⟩;simp only[q,this,decide_true,decide_false,if_true]
     ·simp only[q,decide_false,Z0,if_false]
    rw[e0];simp only[Ao,An,Z0,if_false];rw[hN] at h3 h4 |-;have hN2:N<=200:=by omega
    rw[show AZ [nI 0,I N,I 0]=true from rfl,AJ];refine GK (fun i=>([I i,I N,I i,.agg [.bool b.li,.bool b.ru,x,.bool a.li,.bool a.ru,y],.bool false,.bool false,.nilS,.sl 1 (Am (Gf b i)) false],())) N rfl (fun i hlt=>?_) ?_
    ·have hbl:0 < b.n.length:=by
      rcases cK b.n.length with q | q;·exact absurd ⟨by omega,q⟩ h3
      ·exact q
     have hmod:i%b.n.length < b.n.length:=cr _ hbl;simp only[A7,A4,Bc,BD,Cl,DI,DH,Ea,AS,Ao,An,CF,ah,B2];rw[if_pos (by simpa using hlt)];simp only[BM,Gs,Ao,hx.len]
     have er:Ad (.bin .rem .num false (.c (I i)) (.c (I b.n.length)))=some (I ((i%b.n.length:Nat):Int)):=by
      rw[I,I,Iy _ _ (by omega)];rfl
     rw[er];simp only[Ao,hx.idx hmod,CG,E0,AJ];have ei:b.n[i%b.n.length]=b.n.getD (i%b.n.length) 0:=by rw[Z9,ab hmod];rfl
     rw[ei,show Az (Av 0 (Ae [I (b.n.getD (i%b.n.length) 0)])) (Ae [I (b.n.getD (i%b.n.length) 0)])=true from rfl,HH (IK b i).symm (by rw[IK];omega),HG (IK b i).symm,If,<-Wz];simp only[AJ,BT,Ao,Ct (by omega:i < 9223372036854775807)]
    ·simp only[A7,A4,Bc,BD,Ea,AS,Ao,An,CF,ah,B2];rw[if_neg (by simp)];simp only[BM,IL,Ao]
     have e1:AD 1 1 (Am (Gf b N)) 0 N=.sl 1 (Am (Gf b N)) false:=by
      have:=JA (Gf b N);simpa[BC,IK] using this
     rw[e1,Nn (GB b.li b.ru hx)];rfl
 ·have hE:DO a b=CQ (-9223372036854775808) 200 a:=by unfold DO;rw[if_pos h1]
  refine⟨.agg [.bool false,.bool false,.nilS],?_,by unfold Gc;rw[hE,if_neg h1];exact BB⟩;rw[hE];refine call (d:=fun _=>.cl) rfl (by decide) (by simp[At,h.ok]) rfl ?_;rw[ZZ,Z1,Ql];unfold wa wb wc wd wg wh wj wl wm wn wo wr wv;rw[h.val,AJ];simp only[BU,BM,JJ,Ao,A3,ham,B3,af,ai,NZ,E4,An,h1,decide_false,Z0,if_false,ne_eq,not_false_eq_true,decide_true,if_true]
  try rfl
end Go.Ab.Derive2.Sh


namespace Go.Ab.Derive2.Sh
open Go Go.Ab Go.Ab.Derive2
def FZ (n:Int) (k:Nat):Nat:=(n%(k:Int)).toNat
def turn (n:Int) (l:List Int):List Int:=l.drop (FZ n l.length)++l.take (FZ n l.length)
def HW (a b:Arr):Arr:=if BH a=0 then ⟨b.li,b.ru,if b.n.length=0 then [] else turn (AV a) b.n⟩ else Bw
theorem Nb {n:Int} {k:Nat} (hk:0 < k):FZ n k < k:=by
 unfold FZ;have h1:=Int.emod_nonneg n (show (k:Int)≠0 by omega);have h2:=Int.emod_lt_of_pos n (show (0:Int) < (k:Int) by omega);omega
theorem VT {n:Int} {k:Nat} (hk:0 < k) (hs:k<=1000000):IntKind.i64.wrap (n.tmod k+k)=n.tmod k+k/\(n.tmod k+k).tmod k=(FZ n k:Int):=by
 have h2:=dc n (show (0:Int) < (k:Int) by omega)
 have h1 : -(k:Int) < n.tmod k:=by
  have:=dc (-n) (show (0:Int) < (k:Int) by omega);rw[Int.neg_tmod] at this;omega
 refine⟨DN (by omega) (by omega),?_⟩;rw[Int.tmod_eq_emod_of_nonneg (by omega)];unfold FZ;rw[Int.toNat_of_nonneg (Int.emod_nonneg n (show (k:Int)≠0 by omega)),Int.add_emod_right];have e:=Int.tmod_add_mul_tdiv n k;have:n.tmod k=n+k*(-(n.tdiv k)):=by rw[Int.mul_neg];omega
 rw[this,Int.add_mul_emod_self_left]
set_option maxHeartbeats 1000000 in
theorem Y8 {v:PV} {b a:Arr} (h:Fc v b a) (hb:b.n.length<=400000) (ha:a.n.length<=400000):Gz 94 v (HW a b) (BH a):=by
 obtain⟨x,y,rfl,hx,hy⟩:=h.get;have hf:=Ph (GB a.li a.ru hy) (by simpa using (by omega:a.n.length<=1000000));have ho:=NM (GB b.li b.ru hx) (by simpa using (by omega:b.n.length<=1000000));have ef:BH ⟨a.li,a.ru,a.n⟩=BH a:=rfl;have en:AV ⟨a.li,a.ru,a.n⟩=AV a:=rfl;rw[ef,en] at hf;have oc:AA (.agg [.bool b.li,.bool b.ru,x]) 3=true:=Jr (BX rfl rfl hx.cell)
 have e0:∀ l:List Int,decide ((0:Int) < (l.length:Int))=decide (0 < l.length):=by
  intro l;rw[ba,decide_eq_true_iff,decide_eq_true_iff];omega
 by_cases h1:BH a=0
 ·have fin:∀ l:List Int,Bh (.tup [.agg [.bool b.li,.bool b.ru,.sl 1 (Am l) false],.nilI])=true:=fun l=>by simp[Bh,okV,At,EX]
  by_cases h2:0 < b.n.length
  ·have hk:=Nb (n:=AV a) h2;obtain⟨p,hp1,hp2⟩:=Bd.lo hx (k:=FZ (AV a) b.n.length) (by omega);obtain⟨q,hq1,hq2⟩:=Bd.himx hx (k:=FZ (AV a) b.n.length) (by omega);have hcc:=UO hp2 hq2 (by simp;omega) (by simp;omega);obtain⟨w1,w2⟩:=VT (n:=AV a) h2 (by omega);refine⟨.agg [.bool b.li,.bool b.ru,.sl 1 (Am (turn (AV a) b.n)) false],?_,by unfold HW;rw[if_pos h1,if_neg (by omega)];exact .mk _ _ _ _ (.sl _ _)⟩;rw[h1];refine call (d:=fun _=>.cl) rfl (by decide) (by simp[At,h.ok]) rfl ?_;rw[ZZ,Z1,run94];unfold wa wb wc wd wg wn wp wv;rw[h.val,AJ];simp only[BU,BM,Ii,IL,Gs,Ao,hf,B3,af,ai,E4,h1,ne_eq,not_true_eq_false,decide_false,An,Z0,if_false,oc,AJ,ho,hx.len,A3,Cz,e0,h2,decide_true,if_true]
   have r1:Ad (.bin .rem .num false (.c (I (AV a))) (.c (I b.n.length)))=some (I ((AV a).tmod b.n.length)):=by
    rw[I,I,Iy _ _ (by omega)];rfl
   have r2:∀ m:Int,Ad (.bin .rem .num false (.c (I m)) (.c (I b.n.length)))=some (I (m.tmod b.n.length)):=fun m=>by
    rw[I,I,Iy _ _ (by omega)];rfl
   rw[r1];simp only[Ao,BT,w1,r2,w2,hp1,hq1];rw[show AT 1 [p,q]=true by simp[AT,hp2.val,hq2.val,hp2.cells,hq2.cells],AJ,show AD 1 1 [p,q] 0 (Ae [p,q])=.sl 1 [p,q] false from rfl,hcc];simp only[Ao,B2,JA,Jz,Jy,fin,AJ];rfl
  ·have hnil:b.n=[]:=bI.1 (by omega);refine⟨.agg [.bool b.li,.bool b.ru,.sl 1 (Am b.n) false],?_,by unfold HW;rw[if_pos h1,if_pos (by omega),hnil];exact .mk _ _ _ _ (.sl _ _)⟩;rw[h1];refine call (d:=fun _=>.cl) rfl (by decide) (by simp[At,h.ok]) rfl ?_;rw[ZZ,Z1,run94];unfold wa wb wc wd wg wn wp wv;rw[h.val,AJ];simp only[BU,BM,Ii,IL,Gs,Ao,hf,B3,af,ai,E4,h1,ne_eq,not_true_eq_false,decide_false,An,Z0,if_false,oc,AJ,ho,hx.len,A3,Cz,e0,h2,B2,JA,Jz,Jy,fin];rfl
 ·refine⟨.agg [.bool false,.bool false,.nilS],?_,by unfold HW;rw[if_neg h1];exact BB⟩;refine call (d:=fun _=>.cl) rfl (by decide) (by simp[At,h.ok]) rfl ?_;rw[ZZ,Z1,run94];unfold wa wb wc wd wg wn wp wv;rw[h.val,AJ];simp only[BU,BM,Ii,Ao,hf,B3,af,ai,E4,h1,ne_eq,not_false_eq_true,decide_true,An,if_true]
  try rfl
def HN (n:Int) (l:List Int):List Int:=if 0<=n then l.drop (min n l.length).toNat else l.take (max ((l.length:Int)+max n (-(l.length:Int))) 0).toNat
def HT (a b:Arr):Arr:=if BH a=0 then ⟨true,b.ru,HN (AV a) b.n⟩ else Bw
theorem minI (a b:Int):Ad (.minmax false [.c (I a),.c (I b)])=some (I (min a b)):=by
 simp only[Ad,exec,ZZ,Z1,RX.ev,Hl,I,AI];by_cases h:b < a
 ·have:min a b=b:=by omega
  simp[h,this]
 ·have:min a b=a:=by omega
  simp[h,this]
theorem maxI (a b:Int):Ad (.minmax true [.c (I a),.c (I b)])=some (I (max a b)):=by
 simp only[Ad,exec,ZZ,Z1,RX.ev,Hl,I,AI];by_cases h:a < b
 ·have:max a b=b:=by omega
  simp[h,this]
 ·have:max a b=a:=by omega
  simp[h,this]
theorem negI (n:Int):Ad (.un .neg (.c (I n)))=some (I (IntKind.i64.wrap (0 - n))):=V0 n
theorem Xj {n:Int} {d top:Nat} (h0:0<=n) (h1:n<=top):DW (some (I n)) d top=some n.toNat:=by
 have:n.toNat<=top:=by omega
 simp[DW,CM,Dx,AI,I,h0,this]
theorem RS (d top:Nat):DW none d top=some d:=rfl
set_option maxHeartbeats 1000000 in
theorem drop_run {v:PV} {b a:Arr} (h:Fc v b a) (hb:b.n.length<=400000) (ha:a.n.length<=400000):Gz 97 v (HT a b) (BH a):=by
 obtain⟨x,y,rfl,hx,hy⟩:=h.get;have hf:=Ph (GB a.li a.ru hy) (by simpa using (by omega:a.n.length<=1000000));have ho:=NM (GB b.li b.ru hx) (by simpa using (by omega:b.n.length<=1000000));have ef:BH ⟨a.li,a.ru,a.n⟩=BH a:=rfl;have en:AV ⟨a.li,a.ru,a.n⟩=AV a:=rfl;rw[ef,en] at hf;have fin:∀ (r:Bool) (l:List Int),AA (Ej r (.sl 1 (Am l) false)) 3=true:=fun r l=>rfl;by_cases h1:BH a=0
 ·by_cases h2:0<=AV a
  ·obtain⟨m,hm⟩:∃ m:Nat,min (AV a) b.n.length=m:=⟨(min (AV a) b.n.length).toNat,by omega⟩;have hml:m<=b.n.length:=by omega
   refine⟨Ej b.ru (.sl 1 (Am (b.n.drop m)) false),?_,by
    have e:HN (AV a) b.n=b.n.drop m:=by unfold HN;rw[if_pos h2,hm];rfl
    unfold HT;rw[if_pos h1,e];exact .mk _ _ _ _ (.sl _ _)⟩
   rw[h1];refine call (d:=fun _=>.cl) rfl (by decide) (by simp[At,h.ok]) rfl ?_;rw[ZZ,Z1,run97];unfold wa wb wc wd wg wn wp wv;rw[h.val,AJ];simp only[BU,BM,Ii,IL,Gs,Ao,hf,B3,af,ai,E4,h1,ne_eq,not_true_eq_false,decide_false,An,Z0,if_false,ho,hx.len,A3,EF,h2,decide_true,if_true,minI,hm,B2,RS];rw[Xj (by omega) (by simp[BC];omega)];simp only[Ao,SS,BC,ah,eqN_eq,ltN_eq,N1,iteB_bool,Xm,subN_eq,az];by_cases h3:b.n.length=m/\0 < m
   ·rw[if_pos (by simp[h3.1,h3.2])];rw[like_call (GB b.li b.ru hx)];have:b.n.drop m=[]:=aU (by omega);rw[this];rfl
   ·rw[if_neg (by simpa using h3)];rw[slO_drop _ (by omega),av (by simp),Nn (GB b.li b.ru hx)];simp only[Ao,fin,AJ];rfl
  ·obtain⟨m,hm⟩:∃ m:Nat,max ((b.n.length:Int)+max (AV a) (-(b.n.length:Int))) 0=m:=⟨(max ((b.n.length:Int)+max (AV a) (-(b.n.length:Int))) 0).toNat,by omega⟩;have hml:m<=b.n.length:=by omega
   refine⟨Ej b.ru (.sl 1 (Am (b.n.take m)) false),?_,by
    have e:HN (AV a) b.n=b.n.take m:=by unfold HN;rw[if_neg h2,hm];rfl
    unfold HT;rw[if_pos h1,e];exact .mk _ _ _ _ (.sl _ _)⟩
   rw[h1];refine call (d:=fun _=>.cl) rfl (by decide) (by simp[At,h.ok]) rfl ?_;rw[ZZ,Z1,run97];unfold wa wb wc wd wg wn wp wv;rw[h.val,AJ];simp only[BU,BM,Ii,IL,Gs,Ao,hf,B3,af,ai,E4,h1,ne_eq,not_true_eq_false,decide_false,An,Z0,if_false,ho,hx.len,A3,EF,h2,negI,maxI,B2,RS,BT];rw[DN (n:=0 - (b.n.length:Int)) (by omega) (by omega),show (0:Int) - (b.n.length:Int) = -(b.n.length:Int) by omega,DN (by omega) (by omega),hm];rw[Xj (by omega) (by simp[BC];omega)];simp only[Ao,ah];rw[Nx _ hml,Nn (GB b.li b.ru hx)];simp only[Ao,fin,AJ];rfl
 ·refine⟨.agg [.bool false,.bool false,.nilS],?_,by unfold HT;rw[if_neg h1];exact BB⟩;refine call (d:=fun _=>.cl) rfl (by decide) (by simp[At,h.ok]) rfl ?_;rw[ZZ,Z1,run97];unfold wa wb wc wd wg wn wp wv;rw[h.val,AJ];simp only[BU,BM,Ii,Ao,hf,B3,af,ai,E4,h1,ne_eq,not_false_eq_true,decide_true,An,if_true]
  try rfl
end Go.Ab.Derive2.Sh


namespace Go.Ab.Derive2.Sh
open Go Go.Ab Go.Ab.Derive2
def Ed (b:Arr) (f:Int) (j:Nat):Int:=if 0<=f+j/\f+j < b.n.length then b.n.getD (f+j).toNat 0 else DB b.ru
def EH (b:Arr) (f:Int) (k i:Nat):List Int:=(List.range k).map fun j=>if j < i then Ed b f j else 0
def tkF (b:Arr) (n:Int):Int:=if n < 0 then (b.n.length:Int)+n else 0
def EV (n:Int):Nat:=if n < 0 then (-n).toNat else n.toNat
def He (b:Arr) (n:Int):List Int:=(List.range (EV n)).map fun j=>Ed b (tkF b n) j
def Hn (a:Arr):Int:=CQ (-200) 200 a
def HP (a b:Arr):Arr:=if Hn a=0 then ⟨true,b.ru,He b (AV a)⟩ else Bw
theorem KJ (b:Arr) (f:Int) (k i:Nat):(EH b f k i).length=k:=by simp[EH]
theorem SL {b:Arr} {f:Int} {k i j:Nat} (h:j < k):(EH b f k i)[j]?=some (if j < i then Ed b f j else 0):=by
 unfold EH;rw[aa,bo h];rfl
theorem tkL_zero (b:Arr) (f:Int) (k:Nat):Am (EH b f k 0)=List.replicate k (I 0):=by
 apply aO;intro j;by_cases h:j < k
 ·simp[Am,SL h,h]
 ·rw[aA (by rw[BC,KJ];omega),aA (by simp;omega)]
theorem tkL_end (b:Arr) (f:Int) (k:Nat):EH b f k k=(List.range k).map fun j=>Ed b f j:=by
 unfold EH;apply aD;intro j hj;rw[if_pos (bN.1 hj)]
theorem SK {b:Arr} {f:Int} {k i:Nat} (h:i < k):(EH b f k i).set i (Ed b f i)=EH b f k (i+1):=by
 apply aO;intro j;by_cases hj:j < k
 ·rw[cg,SL hj,SL hj,KJ];by_cases h1:i=j
  ·subst h1;rw[if_pos rfl,if_pos h,if_pos (by omega)]
  ·rw[if_neg h1];by_cases h2:j < i
   ·rw[if_pos h2,if_pos (by omega)]
   ·rw[if_neg h2,if_neg (by omega)]
 ·rw[aA (by rw[co,KJ];omega),aA (by rw[KJ];omega)]
set_option maxHeartbeats 2000000 in
theorem take_loop {x y:PV} {b a:Arr} (hx:Bd x b.n) (hy:Bd y a.n) (hb:b.n.length<=400000) (f:Int) (k:Nat) (hk:k<=200) (hf : -1000000<=f/\f<=1000000) :
  Bg (fun z13=>Ac (Ad (.bin .lss .num false (.c (Aa z13.1 3)) (.c (Aa z13.1 2)))) (fun z14=>Ah z14 (Ac (AU (Aa z13.1 4) 1 1 false) (fun z15=>Ac (Ax B0 .cl (.fn 147 []) [z15]) (fun z16=>Ac (FR (Aa z13.1 3)) (fun z17=>Af (D2 z17 (Al (Aa z13.1 1))) (Ac (GZ 1 (Ap (Aa z13.1 8)) (Av 0 z17) 0 1 z16) (fun z18=>Ac (Ad (.bin .add .num false (.c (Aa z13.1 0)) (.c (Aa z13.1 3)))) (fun z19=>Ac (Ac (Ad (.bin .geq .num true (.c z19) (.c (PV.int .i64 0)))) (fun z20=>Ah z20 (Ac (AU (Aa z13.1 4) 2 1 false) (fun z21=>Ac (Ad (.len .slice (.c z21))) (fun z22=>Ac (Ad (.bin .lss .num false (.c z19) (.c z22))) (fun z23=>some z23)))) (some (PV.bool false)))) (fun z24=>Ah z24 (Ac (AU (Aa z13.1 4) 2 1 false) (fun z25=>Ac (Ad (.idxAddr 1 (.c z25) (.c z19))) (fun z26=>Ac (Ad (.load 1 false (.c z26))) (fun z27=>Ac (FR (Aa z13.1 3)) (fun z28=>Af (D2 z28 (Al (Aa z13.1 1))) (Ac (GZ 1 z18 (Av 0 z28) 0 1 z27) (fun z29=>Ac (Ad (.bin .add .num true (.c (Aa z13.1 3)) (.c (PV.int .i64 1)))) (fun z30=>some (.inl ([Aa z13.1 0,nI (Al (Aa z13.1 1)),Aa z13.1 2,z30,Aa z13.1 4,Aa z13.1 5,Aa z13.1 6,Aa z13.1 7,PV.sl 1 z29 false],z13.2)))))))))) (Ac (Ad (.bin .add .num true (.c (Aa z13.1 3)) (.c (PV.int .i64 1)))) (fun z31=>some (.inl ([Aa z13.1 0,nI (Al (Aa z13.1 1)),Aa z13.1 2,z31,Aa z13.1 4,Aa z13.1 5,Aa z13.1 6,Aa z13.1 7,PV.sl 1 z18 false],z13.2)))))))))))) (Ac (Ac (AU (Aa z13.1 4) 0 3 true) (fun z32=>Ac (A8 B0 .cl false 90 [z32,AD 1 1 (Ap (Aa z13.1 8)) 0 (Al (Aa z13.1 1))]) (fun z33=>Af (AA z33 3) (some (PV.tup [PV.agg [Ai z33 0,Ai z33 1,Ai z33 2],PV.nilI],z13.2))))) (fun z34=>some (.inr z34))))) (([I f,I k,I k,I 0,.agg [.bool b.li,.bool b.ru,x,.bool a.li,.bool a.ru,y],.bool false,.bool false,.nilS,.sl 1 (List.replicate k (I 0)) false],()):List PV×Unit) =
   some (.tup [Ej b.ru (.sl 1 (Am (EH b f k k)) false),.nilI],()):=by
 refine GK (fun i=>([I f,I k,I k,I i,.agg [.bool b.li,.bool b.ru,x,.bool a.li,.bool a.ru,y],.bool false,.bool false,.nilS,.sl 1 (Am (EH b f k i)) false],())) k (by rw[tkL_zero];rfl) (fun i hlt=>?_) ?_
 ·simp only[A7,A4,Bc,BD,Cl,DI,DH,Ea,ET,AS,Ao,An,CF,ah,B2,P5,BU,BM,N4,Gs,Wt];rw[if_pos (by simpa using hlt)];have c1:D2 i k=true:=by simpa using hlt
  rw[c1,Nf (by rw[KJ];exact hlt)];simp only[AJ,Ao,BT];rw[DN (n:=f+(i:Int)) (by omega) (by omega)];simp only[A3,EF,AS,Ao,An,hx.len];by_cases h1:0<=f+(i:Int)
  ·by_cases h2:f+(i:Int) < b.n.length
   ·obtain⟨m,hm⟩:∃ m:Nat,f+(i:Int)=m:=⟨(f+i).toNat,by omega⟩;have hml:m < b.n.length:=by omega
    have e1:(if decide (0<=f+(i:Int))=true then some (PV.bool (decide (f+(i:Int) < b.n.length))) else some (.bool false))=some (.bool true):=by
     simp only[h1,h2,decide_true,if_true]
    rw[e1];simp only[Ao,An,if_true];rw[hm,hx.idx hml];simp only[Ao,CG];rw[Nf (by rw[co,KJ];exact hlt)]
    have e2:((EH b f k i).set i (DB b.ru)).set i b.n[m]=EH b f k (i+1):=by
     rw[List.set_set,<-SK hlt];congr 1;unfold Ed;rw[if_pos ⟨h1,h2⟩,hm,ah,Z9,ab hml];rfl
    rw[e2];simp only[Ao,BT,Ct (by omega:i < 9223372036854775807)];rfl
   ·have e1:(if decide (0<=f+(i:Int))=true then some (PV.bool (decide (f+(i:Int) < b.n.length))) else some (.bool false))=some (.bool false):=by
     simp only[h1,h2,decide_true,decide_false,if_true]
    rw[e1];simp only[Ao,An,Z0,if_false]
    have e2:(EH b f k i).set i (DB b.ru)=EH b f k (i+1):=by
     rw[<-SK hlt];congr 1;unfold Ed;rw[if_neg (fun q=>h2 q.2)]
    rw[e2];simp only[Ao,BT,Ct (by omega:i < 9223372036854775807)];rfl
  ·have e1:(if decide (0<=f+(i:Int))=true then some (PV.bool (decide (f+(i:Int) < b.n.length))) else some (.bool false))=some (.bool false):=by
    simp only[h1,decide_false,Z0,if_false]
   rw[e1];simp only[Ao,An,Z0,if_false]
   have e2:(EH b f k i).set i (DB b.ru)=EH b f k (i+1):=by
    rw[<-SK hlt];congr 1;unfold Ed;rw[if_neg (fun q=>h1 q.1)]
   rw[e2];simp only[Ao,BT,Ct (by omega:i < 9223372036854775807)];rfl
 ·simp only[A7,A4,Bc,BD,Cl,ET,AS,Ao,An,CF,ah,B2];rw[if_neg (by simp)];simp only[BU,BM,IL,Ao]
  have e1:AD 1 1 (Am (EH b f k k)) 0 k=.sl 1 (Am (EH b f k k)) false:=by
   have:=JA (EH b f k k);simpa[BC,KJ] using this
  rw[e1,Nn (GB b.li b.ru hx)]
  try rfl
set_option maxHeartbeats 1000000 in
theorem Pq {v:PV} {b a:Arr} (h:Fc v b a) (hb:b.n.length<=400000) (ha:a.n.length<=400000):Gz 96 v (HP a b) (Hn a):=by
 have ham:=UV h (by omega) (-200) 200;obtain⟨x,y,rfl,hx,hy⟩:=h.get;have ee:Hn a=CQ (-200) 200 a:=rfl;by_cases h1:CQ (-200) 200 a=0
 ·have h3:BH a=0/\¬ AV a < -200/\¬ 200 < AV a:=by
   unfold CQ at h1;by_cases q:BH a=0/\(AV a < -200\/200 < AV a)
   ·rw[if_pos q] at h1;cases h1
   ·rw[if_neg q] at h1;exact⟨h1,fun q2=>q ⟨h1,.inl q2⟩,fun q2=>q ⟨h1,.inr q2⟩⟩
  have hl:=take_loop hx hy hb (tkF b (AV a)) (EV (AV a)) (by unfold EV;split<;>omega) (by unfold tkF;split<;>omega);rw[tkL_end] at hl;simp only[BU,BM,JJ,Gs,Ao,A3,ham,B3,af,ai,E4,h1,ne_eq,not_true_eq_false,decide_false,An,Z0,if_false,AS,hx.len,BT,negI] at hl;refine⟨Ej b.ru (.sl 1 (Am (He b (AV a))) false),?_,by unfold HP;rw[if_pos (ee.trans h1)];exact .mk _ _ _ _ (.sl _ _)⟩;rw[ee,h1];refine call (d:=fun _=>.cl) rfl (by decide) (by simp[At,h.ok]) rfl ?_;rw[ZZ,Z1,run96];unfold wa wb wc wd wf wg wh wj wm wn wo wp wr wv;rw[h.val,AJ];simp only[BU,BM,JJ,Gs,Ao,A3,ham,B3,af,ai,E4,h1,ne_eq,not_true_eq_false,decide_false,An,Z0,if_false,AS,hx.len,BT,negI];by_cases h2:AV a < 0
  ·have ef:tkF b (AV a)=(b.n.length:Int)+AV a:=by unfold tkF;rw[if_pos h2]
   have ek:((EV (AV a):Nat):Int) = -(AV a):=by unfold EV;rw[if_pos h2];omega
   simp only[h2,decide_true,if_true];rw[DN (n:=(b.n.length:Int)+AV a) (by omega) (by omega),DN (n:=0 - AV a) (by omega) (by omega),show (0:Int) - AV a = -(AV a) by omega,<-ef,<-ek,Te (by unfold EV;split<;>omega)];simp only[Ao];rw[show AZ [I (tkF b (AV a)),nI (EV (AV a)),nI (EV (AV a)),I 0]=true from rfl,AJ];exact hl
  ·have ef:tkF b (AV a)=0:=by unfold tkF;rw[if_neg h2]
   have ek:AV a=((EV (AV a):Nat):Int):=by unfold EV;rw[if_neg h2];omega
   simp only[h2,decide_false,Z0,if_false]
   have em:Ki (I (AV a)) (I (AV a))=some (EV (AV a)):=by
    have:=Te (n:=EV (AV a)) (by unfold EV;split<;>omega)
    rwa [<-ek] at this
   rw[em];simp only[Ao];rw[show AZ [I 0,nI (EV (AV a)),nI (EV (AV a)),I 0]=true from rfl,AJ];rw[ef] at hl;have et:He b (AV a)=(List.range (EV (AV a))).map fun j=>Ed b 0 j:=by unfold He;rw[ef]
   rw[et];exact hl
 ·refine⟨.agg [.bool false,.bool false,.nilS],?_,by unfold HP;rw[if_neg (fun q=>h1 (ee.symm.trans q))];exact BB⟩;rw[ee];refine call (d:=fun _=>.cl) rfl (by decide) (by simp[At,h.ok]) rfl ?_;rw[ZZ,Z1,run96];unfold wa wb wc wd wf wg wh wj wm wn wo wp wr wv;rw[h.val,AJ];simp only[BU,BM,JJ,Ao,A3,ham,B3,af,ai,E4,h1,ne_eq,not_false_eq_true,decide_true,An,if_true]
  try rfl
def monE (g:List UInt8) (b:Arr):Int :=
 if b.right=false then 114
 else if g=gR then 0 else if g=gI then DV b else if g=gC then 0 else if g=gT then 0 else if g=gU then 0 else if g=gN then 0 else 102
def monA (g:List UInt8) (b:Arr):Arr :=
 if b.right=false then Bw
 else if g=gR then MA b else if g=gI then FJ b else if g=gC then ⟨true,b.ru,b.n⟩ else if g=gT then ⟨b.li,b.ru,b.n.reverse⟩ else if g=gU then headA b else if g=gN then HZ b.n.length else Bw
theorem GM (f:FuncId):Ad (.bin .eql .func true (.c (.fn f [])) (.c .nilF))=some (.bool false):=rfl
theorem W3:Ad (.bin .eql .func true (.c .nilF) (.c .nilF))=some (.bool true):=rfl
theorem Tc {v:PV} {a:Arr} (h:AK v a):AT 3 [v]=true:=by
 obtain⟨x,rfl,hx⟩:=h.get;simp[AT,BX (a:=.bool a.li) (b:=.bool a.ru) rfl rfl hx.cell]
theorem SQ {v u:PV} {a b:Arr} (h:AK v a) (hu:AK u b):AT 3 [v,u]=true:=by
 obtain⟨x,rfl,hx⟩:=h.get;obtain⟨y,rfl,hy⟩:=hu.get;simp[AT,BX (a:=.bool a.li) (b:=.bool a.ru) rfl rfl hx.cell,BX (a:=.bool b.li) (b:=.bool b.ru) rfl rfl hy.cell]
theorem BZ {v:PV} {a:Arr} (h:AK v a):A1 v=true:=by
 obtain⟨x,rfl,hx⟩:=h.get;exact BX rfl rfl hx.cell
theorem Cq {v:PV} {a:Arr} (h:AK v a):AU v 0 3 true=some v:=by
 obtain⟨x,rfl,hx⟩:=h.get;rfl
theorem GI {g:FuncId} {v:PV} {r:Arr} {c:Int} (h:Gz g v r c):∃ y,AK y r/\(Ac (Ax B0 .cl (.fn g []) [v]) (fun z10=>Ac (Ad (.extract 0 (.c z10))) (fun z11=>Ac (Ad (.extract 1 (.c z10))) (fun z12=>Af (AA z11 3) (Ac (Ax B0 .cl (.fn 41 []) [z12]) (fun z13=>some (PV.tup [.agg [Ai z11 0,Ai z11 1,Ai z11 2],z13],())))))))=some (.tup [y,I c],()):=by
 obtain⟨y,h1,h2⟩:=h;refine⟨y,h2,?_⟩;rw[h1];simp only[Ao,B3,af,ai,FT h2,AJ,Nu,cells_is h2]
theorem mon_run (g:List UInt8) {v:PV} {b:Arr} (h:AK v b) (hl:b.n.length<=1000000):∃ y,Ax B0 .cl (.fn 19 []) [.str g,v]=some (.tup [y,I (monE g b)])/\AK y (monA g b):=by
 have key:∃ y,AK y (monA g b)/\AM (AL B0 fun _=>.cl) fn19 .cl AP 0 [.cv (.str g),.cv v] ()=some (.tup [y,I (monE g b)],()):=by
  rw[run19];unfold wa wb wd wi wv;rw[BZ h,AJ,Wp];simp only[Ao,Wc,Cq h,Tc h,AJ]
  rw[show AA (.agg [Ip g,B6 g]) 2=true by
   unfold Ip B6 AA;simp only[PV.isVal];by_cases h1:g=gR;· simp[h1,PV.isCell]
   by_cases h2:g=gI;· simp[h1,h2,PV.isCell]
   by_cases h3:g=gC;· simp[h1,h2,h3,PV.isCell]
   by_cases h4:g=gT;· simp[h1,h2,h3,h4,PV.isCell]
   by_cases h5:g=gU;· simp[h1,h2,h3,h4,h5,PV.isCell]
   by_cases h6:g=gD;· simp[h1,h2,h3,h4,h5,h6,PV.isCell]
   by_cases h7:g=gN;· simp[h1,h2,h3,h4,h5,h6,h7,PV.isCell]
   simp[h1,h2,h3,h4,h5,h6,h7,PV.isCell],AJ]
  have e0:AD 3 3 [v] 0 (Ae [v])=.sl 3 [v] false:=rfl;rw[e0,right1 h hl];simp only[Ao,Ca,An];unfold monE monA;cases hr:b.right with
  | false=>exact⟨_,BB,rfl⟩
  | true =>
   simp only[Z8,Z0,if_false];rw[show Ai (.agg [Ip g,B6 g]) 0=Ip g from rfl];unfold Ip;by_cases h1:g=gR
   ·simp only[h1,if_true,GM,Ao,An,Z0,if_false];exact GI (Ps h hl)
   simp only[h1,if_false];by_cases h2:g=gI
   ·simp only[h2,if_true,GM,Ao,An,Z0,if_false];exact GI (count_run h hl)
   simp only[h2,if_false];by_cases h3:g=gC
   ·simp only[h3,if_true,GM,Ao,An,Z0,if_false];exact GI (comma_run h hl)
   simp only[h3,if_false];by_cases h4:g=gT
   ·simp only[h4,if_true,GM,Ao,An,Z0,if_false];exact GI (XK h hl)
   simp only[h4,if_false];by_cases h5:g=gU
   ·simp only[h5,if_true,GM,Ao,An,Z0,if_false];exact GI (head_run h hl)
   simp only[h5,if_false];by_cases h6:g=gN
   ·simp only[h6,if_true,GM,Ao,An,Z0,if_false];exact GI (len_run h)
   simp only[h6,if_false,W3,Ao,An,if_true];exact⟨_,BB,rfl⟩
 obtain⟨y,h1,h2⟩:=key;refine⟨y,?_,h1⟩;exact call (d:=fun _=>.cl) rfl (by decide) (by simp[At,okV,h.ok]) rfl h2
def dyE (g:List UInt8) (a b:Arr):Int :=
 if (a.right&&b.right)=false then 114
 else if g=gR then DO a b else if g=gI then JT a else if g=gC then E8 a b else if g=gT then BH a else if g=gU then Hn a else if g=gD then BH a else if g=gN then 0 else 102
def dyA (g:List UInt8) (a b:Arr):Arr :=
 if (a.right&&b.right)=false then Bw
 else if g=gR then Gc a b else if g=gI then JU a b else if g=gC then GW a b else if g=gT then HW a b else if g=gU then HP a b else if g=gD then HT a b else if g=gN then HZ (if a.same b then 0 else 1) else Bw
theorem Zd {v u:PV} {a b:Arr} (h:AK v a) (hu:AK u b):∃ p,Ad (.build [.bool false,.bool false,.nilS,.bool false,.bool false,.nilS] [(0,(3,.c u)),(3,(3,.c v))])=some p/\Fc p b a:=by
 obtain⟨x,rfl,hx⟩:=h.get;obtain⟨y,rfl,hy⟩:=hu.get;refine⟨.agg [.bool b.li,.bool b.ru,y,.bool a.li,.bool a.ru,x],?_,.mk _ _ _ _ _ _ _ _ hy hx⟩;simp[Ad,exec,EA,RX.ev,BX (a:=.bool a.li) (b:=.bool a.ru) rfl rfl hx.cell,BX (a:=.bool b.li) (b:=.bool b.ru) rfl rfl hy.cell,splice,AI]
theorem dy_key (g:List UInt8) {v u:PV} {a b:Arr} (h:AK v a) (hu:AK u b) (ha:a.n.length<=400000) (hb:b.n.length<=400000) :
  ∃ y,AK y (dyA g a b)/\AM (AL B0 fun _=>.cl) fn25 .cl AP 0 [.cv (.str g),.cv v,.cv u] ()=some (.tup [y,I (dyE g a b)],()):=by
 obtain⟨p,hp1,hp2⟩:=Zd h hu;rw[run25];unfold wa wb wd wi wv;rw[BZ h,BZ hu,AJ,AJ,Wp];simp only[Ao,Wc,Cq h,Cq hu,SQ h hu,AJ,hp1]
 rw[show AA (.agg [Ip g,B6 g]) 2=true by
  unfold Ip B6 AA;simp only[PV.isVal];by_cases h1:g=gR;· simp[h1,PV.isCell]
  by_cases h2:g=gI;· simp[h1,h2,PV.isCell]
  by_cases h3:g=gC;· simp[h1,h2,h3,PV.isCell]
  by_cases h4:g=gT;· simp[h1,h2,h3,h4,PV.isCell]
  by_cases h5:g=gU;· simp[h1,h2,h3,h4,h5,PV.isCell]
  by_cases h6:g=gD;· simp[h1,h2,h3,h4,h5,h6,PV.isCell]
  by_cases h7:g=gN;· simp[h1,h2,h3,h4,h5,h6,h7,PV.isCell]
  simp[h1,h2,h3,h4,h5,h6,h7,PV.isCell],AJ]
 have e0:AD 3 3 [v,u] 0 (Ae [v,u])=.sl 3 [v,u] false:=rfl;rw[e0,right2 h hu (by omega) (by omega)];simp only[Ao,Ca,An];unfold dyE dyA;cases hr:(a.right&&b.right) with
 | false=>exact⟨_,BB,rfl⟩
 | true =>
  simp only[Z8,Z0,if_false];rw[show Ai (.agg [Ip g,B6 g]) 1=B6 g from rfl];unfold B6;by_cases h1:g=gR
  ·simp only[h1,if_true,GM,Ao,An,Z0,if_false];exact GI (Ye hp2 hb ha)
  simp only[h1,if_false];by_cases h2:g=gI
  ·simp only[h2,if_true,GM,Ao,An,Z0,if_false];exact GI (XT hp2 hb ha)
  simp only[h2,if_false];by_cases h3:g=gC
  ·simp only[h3,if_true,GM,Ao,An,Z0,if_false];exact GI (join_run hp2 hb ha)
  simp only[h3,if_false];by_cases h4:g=gT
  ·simp only[h4,if_true,GM,Ao,An,Z0,if_false];exact GI (Y8 hp2 hb ha)
  simp only[h4,if_false];by_cases h5:g=gU
  ·simp only[h5,if_true,GM,Ao,An,Z0,if_false];exact GI (Pq hp2 hb ha)
  simp only[h5,if_false];by_cases h6:g=gD
  ·simp only[h6,if_true,GM,Ao,An,Z0,if_false];exact GI (drop_run hp2 hb ha)
  simp only[h6,if_false];by_cases h7:g=gN
  ·simp only[h7,if_true,GM,Ao,An,Z0,if_false];exact GI (ZP hp2 (by omega) (by omega))
  simp only[h7,if_false,W3,Ao,An,if_true];exact⟨_,BB,rfl⟩
theorem dy_run (g:List UInt8) {v u:PV} {a b:Arr} (h:AK v a) (hu:AK u b) (ha:a.n.length<=400000) (hb:b.n.length<=400000):∃ y,Ax B0 .cl (.fn 25 []) [.str g,v,u]=some (.tup [y,I (dyE g a b)])/\AK y (dyA g a b):=by
 obtain⟨y,h1,h2⟩:=dy_key g h hu ha hb;refine⟨y,?_,h1⟩;exact call (d:=fun _=>.cl) rfl (by decide) (by simp[At,okV,h.ok,hu.ok]) rfl h2
end Go.Ab.Derive2.Sh


namespace Go.Ab.Derive2.Sh
open Go Go.Ab Go.Ab.Derive2
theorem okSto_is {v u:PV} {a b:Arr} (h:AK v a) (hu:AK u b):MC v u 0 3=true:=by
 obtain⟨x,rfl,hx⟩:=h.get;obtain⟨y,rfl,hy⟩:=hu.get;simp[MC,BX (a:=.bool a.li) (b:=.bool a.ru) rfl rfl hx.cell]
theorem stoP_is {v u:PV} {a b:Arr} (h:AK v a) (hu:AK u b):Hw v u 0=v:=by
 obtain⟨x,rfl,hx⟩:=h.get;obtain⟨y,rfl,hy⟩:=hu.get;rfl
theorem BS {v:PV} {a:Arr} (h:AK v a):Bd (Ai v 2) a.n:=by obtain⟨x,rfl,hx⟩:=h.get;exact hx
theorem ES {v:PV} {a:Arr} (h:AK v a):AU v 0 1 false=some (.bool a.li):=by obtain⟨x,rfl,hx⟩:=h.get;rfl
theorem Cd {v:PV} {a:Arr} (h:AK v a):AU v 1 1 false=some (.bool a.ru):=by obtain⟨x,rfl,hx⟩:=h.get;rfl
theorem BR {v:PV} {a:Arr} (h:AK v a):AU v 2 1 false=some (Ai v 2):=by obtain⟨x,rfl,hx⟩:=h.get;rfl
theorem idx0 {v:PV} {n:Int} {l:List Int} (h:Bd v (n :: l)):Ad (.idxAddr 1 (.c v) (.c (.int .i64 0)))=some (.ptr [I n] 0):=h.idx (i:=0) (by simp)
theorem bV {α β:Type} (a:α) (f:α->Option β):Ac (some a) f=f a:=aP rfl rfl
theorem cT {β:Type} (a:Option β):Af true a=a:=aP rfl rfl
theorem iD (n:Int):PV.int .i64 n=I n:=aP rfl rfl
section
variable {a b:Arr}
theorem mon_R (h:b.right=true):monE gR b=0/\monA gR b=MA b:=by unfold monE monA;simp[h]
theorem mon_I (h:b.right=true):monE gI b=DV b/\monA gI b=FJ b:=by unfold monE monA;simp[h,show ¬ gI=gR by decide]
theorem mon_C (h:b.right=true):monE gC b=0/\monA gC b=⟨true,b.ru,b.n⟩:=by unfold monE monA;simp[h,show ¬ gC=gR by decide,show ¬ gC=gI by decide]
theorem mon_T (h:b.right=true):monE gT b=0/\monA gT b=⟨b.li,b.ru,b.n.reverse⟩:=by unfold monE monA;simp[h,show ¬ gT=gR by decide,show ¬ gT=gI by decide,show ¬ gT=gC by decide]
theorem mon_U (h:b.right=true):monE gU b=0/\monA gU b=headA b:=by unfold monE monA;simp[h,show ¬ gU=gR by decide,show ¬ gU=gI by decide,show ¬ gU=gC by decide,show ¬ gU=gT by decide]
theorem mon_N (h:b.right=true):monE gN b=0/\monA gN b=HZ b.n.length:=by unfold monE monA;simp[h,show ¬ gN=gR by decide,show ¬ gN=gI by decide,show ¬ gN=gC by decide,show ¬ gN=gT by decide,show ¬ gN=gU by decide]
theorem mon_not {g:List UInt8} (h:b.right=false):monE g b=114/\monA g b=Bw:=by unfold monE monA;simp[h]
theorem dy_not {g:List UInt8} (h:(a.right&&b.right)=false):dyE g a b=114/\dyA g a b=Bw:=by unfold dyE dyA;rw[if_pos h,if_pos h];exact⟨rfl,rfl⟩
theorem dy_R (ha:a.right=true) (h:b.right=true):dyE gR a b=DO a b/\dyA gR a b=Gc a b:=by unfold dyE dyA;simp[h,ha]
theorem dy_I (ha:a.right=true) (h:b.right=true):dyE gI a b=JT a/\dyA gI a b=JU a b:=by unfold dyE dyA;simp[h,ha,show ¬ gI=gR by decide]
theorem dy_C (ha:a.right=true) (h:b.right=true):dyE gC a b=E8 a b/\dyA gC a b=GW a b:=by unfold dyE dyA;simp[h,ha,show ¬ gC=gR by decide,show ¬ gC=gI by decide]
theorem dy_T (ha:a.right=true) (h:b.right=true):dyE gT a b=BH a/\dyA gT a b=HW a b:=by unfold dyE dyA;simp[h,ha,show ¬ gT=gR by decide,show ¬ gT=gI by decide,show ¬ gT=gC by decide]
theorem dy_U (ha:a.right=true) (h:b.right=true):dyE gU a b=Hn a/\dyA gU a b=HP a b:=by unfold dyE dyA;simp[h,ha,show ¬ gU=gR by decide,show ¬ gU=gI by decide,show ¬ gU=gC by decide,show ¬ gU=gT by decide]
theorem dy_D (ha:a.right=true) (h:b.right=true):dyE gD a b=BH a/\dyA gD a b=HT a b:=by unfold dyE dyA;simp[h,ha,show ¬ gD=gR by decide,show ¬ gD=gI by decide,show ¬ gD=gC by decide,show ¬ gD=gT by decide,show ¬ gD=gU by decide]
theorem dy_N (ha:a.right=true) (h:b.right=true):dyE gN a b=0/\dyA gN a b=HZ (if a.same b then 0 else 1):=by unfold dyE dyA;simp[h,ha,show ¬ gN=gR by decide,show ¬ gN=gI by decide,show ¬ gN=gC by decide,show ¬ gN=gT by decide,show ¬ gN=gU by decide,show ¬ gN=gD by decide]
end
theorem U6 (n:Int):(HZ n).right=true:=by simp[Arr.right,HZ]
end Go.Ab.Derive2.Sh


namespace Go.Ab.Derive2.Sh
open Go Go.Ab Go.Ab.Derive2
theorem GG {a:Arr} (h:a.right=true):a.n.length<=200:=by
 unfold Arr.right at h;rw[Z2] at h;have h2:=h.2;split at h2;·simpa using h2
 ·have:a.n.length=1:=by simpa using h2
  omega
theorem Rk {a:Arr} (h:a.right=true) (hr:a.ru=true):∀ n∈a.n,EG n=true:=by
 unfold Arr.right at h;rw[Z2] at h;have h1:=h.1;rw[hr] at h1;simp only[aE,bC] at h1;intro n hn;cases hq:EG n with
 | true=>rfl
 | false =>
  have:(a.n.any fun n=>!EG n)=true:=List.any_eq_true.2 ⟨n,hn,by simp[hq]⟩;rw[this] at h1;cases h1
theorem G7 {li ru:Bool} {l:List Int} (h1:ru=true->∀ n∈l,EG n=true) (h2:if li then l.length<=200 else l.length=1):(⟨li,ru,l⟩:Arr).right=true:=by
 unfold Arr.right;rw[Z2];refine⟨?_,?_⟩
 ·cases ru with
  | false=>rfl
  | true =>
   simp only[aE,bC];rw[Bool.eq_false_iff];intro ha;obtain⟨n,hn,hq⟩:=List.any_eq_true.1 ha;rw[h1 rfl n hn] at hq;cases hq
 ·cases li with
  | true=>simpa using h2
  | false=>simpa using h2
end Go.Ab.Derive2.Sh


namespace Go.Ab.Derive2.Sh
open Go Go.Ab Go.Ab.Derive2
theorem OI:Bw.right=false:=by simp[Arr.right,Bw]
theorem rune_32:EG 32=true:=by decide
theorem Sb (a:Arr):BH a=0\/BH a=111\/BH a=102:=by
 unfold BH;split;·exact .inr (.inl rfl)
 ·split;·exact .inr (.inr rfl)
  ·exact .inl rfl
theorem Xl (lo hi:Int) (a:Arr):CQ lo hi a=0\/CQ lo hi a=111\/CQ lo hi a=102\/CQ lo hi a=113:=by
 unfold CQ;split;·exact .inr (.inr (.inr rfl))
 ·rcases Sb a with h | h | h;·exact .inl h
  ·exact .inr (.inl h)
  ·exact .inr (.inr (.inl h))
theorem VQ {lo hi:Int} {a:Arr} (h:CQ lo hi a=0):BH a=0/\lo<=AV a/\AV a<=hi:=by
 unfold CQ at h;by_cases q:BH a=0/\(AV a < lo\/hi < AV a)
 ·rw[if_pos q] at h;cases h
 ·rw[if_neg q] at h;refine⟨h,?_,?_⟩;·exact Int.not_lt.1 fun q2=>q ⟨h,.inl q2⟩
  ·exact Int.not_lt.1 fun q2=>q ⟨h,.inr q2⟩
theorem Wo {l:List Int} {i:Nat} (h:i < l.length) (d:Int):l.getD i d∈l:=by
 rw[Z9,ab h];exact ce h
theorem VC {r:Bool} (h:r=true):EG (DB r)=true:=by rw[h];exact rune_32
theorem mon_right (g:List UInt8) (b:Arr):(monE g b=0↔(monA g b).right=true)/\(monE g b=114->b.right=false):=by
 cases hq:b.right with
 | false =>
  obtain⟨e1,e2⟩:=mon_not (g:=g) hq;rw[e1,e2,OI];simp
 | true =>
  have hl:=GG hq;have hr:=Rk hq
  have fin:∀ {e:Int} {r:Arr},(e=0->r.right=true)->(e≠0->r=Bw)->e≠114->(e=0↔r.right=true)/\(e=114->true=false):=by
   intro e r h1 h2 h3;refine⟨⟨h1,fun h=>?_⟩,fun h=>absurd h h3⟩;refine bg fun hne=>?_;rw[h2 hne,OI] at h;cases h
  by_cases h1:g=gR
  ·subst h1;obtain⟨e1,e2⟩:=mon_R hq;rw[e1,e2];exact fin (fun _=>G7 (fun h=>by cases h) (by rw[if_pos rfl];split<;>simp)) (fun h=>absurd rfl h) (by decide)
  by_cases h2:g=gI
  ·subst h2;obtain⟨e1,e2⟩:=mon_I hq;rw[e1,e2];refine fin (fun h=>?_) (fun h=>?_) ?_
   ·unfold FJ;rw[if_pos h];refine G7 (fun h=>by cases h) ?_;rw[if_pos rfl,Iw];unfold DV at h;by_cases q1:BH b≠0
    ·rw[if_pos q1] at h;exact absurd h q1
    ·rw[if_neg q1] at h;by_cases q2:AV b < 0
     ·rw[if_pos q2] at h;cases h
     ·rw[if_neg q2] at h;by_cases q3:200 < AV b
      ·rw[if_pos q3] at h;cases h
      ·omega
   ·unfold FJ;rw[if_neg h]
   ·unfold DV;rcases Sb b with q | q | q<;>rw[q]
    ·rw[if_neg (by simp)];split;·decide
     ·split<;>decide
    ·rw[if_pos (by decide)];decide
    ·rw[if_pos (by decide)];decide
  by_cases h3:g=gC
  ·subst h3;obtain⟨e1,e2⟩:=mon_C hq;rw[e1,e2];exact fin (fun _=>G7 hr (by simpa using hl)) (fun h=>absurd rfl h) (by decide)
  by_cases h4:g=gT
  ·subst h4;obtain⟨e1,e2⟩:=mon_T hq;rw[e1,e2];refine fin (fun _=>G7 (fun h n hn=>hr h n (cW.1 hn)) ?_) (fun h=>absurd rfl h) (by decide);unfold Arr.right at hq;rw[Z2] at hq;have:=hq.2;rw[List.length_reverse];split at this<;>simp_all
  by_cases h5:g=gU
  ·subst h5;obtain⟨e1,e2⟩:=mon_U hq;rw[e1,e2];refine fin (fun _=>G7 (fun h n hn=>?_) (by simp)) (fun h=>absurd rfl h) (by decide);rcases ar.1 (aQ hn) with hm | hm;·exact hr h n hm
   ·simp only[aJ] at hm;subst hm;exact VC h
  by_cases h6:g=gN
  ·subst h6;obtain⟨e1,e2⟩:=mon_N hq;rw[e1,e2];exact fin (fun _=>U6 _) (fun h=>absurd rfl h) (by decide)
  have e1:monE g b=102:=by unfold monE;simp[hq,h1,h2,h3,h4,h5,h6]
  have e2:monA g b=Bw:=by unfold monA;simp[hq,h1,h2,h3,h4,h5,h6]
  rw[e1,e2];exact fin (fun h=>by cases h) (fun _=>rfl) (by decide)
theorem dy_right (g:List UInt8) (a b:Arr):(dyE g a b=0↔(dyA g a b).right=true)/\(dyE g a b=114->(a.right&&b.right)=false):=by
 cases hq:(a.right&&b.right) with
 | false =>
  obtain⟨e1,e2⟩:=dy_not (g:=g) hq;rw[e1,e2,OI];simp
 | true =>
  rw[Z2] at hq;obtain⟨ha,hb⟩:=hq;have hl:=GG hb;have hla:=GG ha;have hr:=Rk hb
  have hli:if b.li then b.n.length<=200 else b.n.length=1:=by
   have hb2:=hb;unfold Arr.right at hb2;rw[Z2] at hb2;have:=hb2.2;split at this;·rename_i q;rw[if_pos q];simpa using this
   ·rename_i q;rw[if_neg q];simpa using this
  have fin:∀ {e:Int} {r:Arr},(e=0->r.right=true)->(e≠0->r=Bw)->e≠114->(e=0↔r.right=true)/\(e=114->true=false):=by
   intro e r h1 h2 h3;refine⟨⟨h1,fun h=>?_⟩,fun h=>absurd h h3⟩;refine bg fun hne=>?_;rw[h2 hne,OI] at h;cases h
  have f114:BH a≠114:=by rcases Sb a with q | q | q<;>rw[q]<;>decide
  by_cases h1:g=gR
  ·subst h1;obtain⟨e1,e2⟩:=dy_R ha hb;rw[e1,e2];refine fin (fun h=>?_) (fun h=>?_) ?_
   ·unfold Gc;rw[if_pos h];unfold DO at h;by_cases q1:CQ (-9223372036854775808) 200 a≠0
    ·rw[if_pos q1] at h;exact absurd h q1
    ·rw[if_neg q1] at h;have q0:=VQ (Classical.not_not.1 q1);by_cases q2:AV a < 0
     ·rw[if_pos q2] at h;cases h
     ·rw[if_neg q2] at h;by_cases q3:0 < AV a/\b.n.length=0
      ·rw[if_pos q3] at h;cases h
      ·refine G7 (fun hru n hn=>?_) (by rw[if_pos rfl,IK];omega);unfold Gf at hn;obtain⟨i,hi,rfl⟩:=Z4.1 hn;have hi:=bN.1 hi;exact hr hru _ (Wo (cr _ (by omega)) 0)
   ·unfold Gc;rw[if_neg h]
   ·unfold DO;rcases Xl (-9223372036854775808) 200 a with q | q | q | q<;>rw[q]
    ·rw[if_neg (by simp)];split;·decide
     ·split<;>decide
    ·rw[if_pos (by decide)];decide
    ·rw[if_pos (by decide)];decide
    ·rw[if_pos (by decide)];decide
  by_cases h2:g=gI
  ·subst h2;obtain⟨e1,e2⟩:=dy_I ha hb;rw[e1,e2];unfold JT JU;cases hal:a.li with
   | true=>exact fin (fun _=>G7 (fun h=>by cases h) (by rw[aL];exact hli)) (fun h=>absurd rfl h) (by decide)
   | false=>exact fin (fun h=>by cases h) (fun _=>rfl) (by decide)
  by_cases h3:g=gC
  ·subst h3;obtain⟨e1,e2⟩:=dy_C ha hb;rw[e1,e2];refine fin (fun h=>?_) (fun h=>?_) ?_
   ·unfold GW;rw[if_pos h];unfold E8 at h;by_cases q1:0 < a.n.length/\0 < b.n.length/\a.ru≠b.ru
    ·rw[if_pos q1] at h;cases h
    ·rw[if_neg q1] at h;by_cases q2:200 < a.n.length+b.n.length
     ·rw[if_pos q2] at h;cases h
     ·refine G7 (fun hru n hn=>?_) (by simp;omega)
      have hcase:(a.ru=true\/a.n=[])/\(b.ru=true\/b.n=[]):=by
       cases ea:a.ru<;>cases eb:b.ru;·simp[E7,ea,eb] at hru
       ·simp[E7,ea,eb] at hru;refine⟨.inr ?_,.inl rfl⟩;rcases cK a.n.length with q | q;·exact bI.1 q
        ·exact absurd ⟨q,hru,by rw[ea,eb];decide⟩ q1
       ·simp[E7,ea,eb] at hru;refine⟨.inl rfl,.inr ?_⟩;rcases cK b.n.length with q | q;·exact bI.1 q
        ·exact absurd ⟨hru,q,by rw[ea,eb];decide⟩ q1
       ·exact⟨.inl rfl,.inl rfl⟩
      rcases ar.1 hn with hm | hm
      ·rcases hcase.1 with q | q;·exact Rk ha q n hm
       ·rw[q] at hm;cases hm
      ·rcases hcase.2 with q | q;·exact hr q n hm
       ·rw[q] at hm;cases hm
   ·unfold GW;rw[if_neg h]
   ·unfold E8;split;·decide
    ·split<;>decide
  by_cases h4:g=gT
  ·subst h4;obtain⟨e1,e2⟩:=dy_T ha hb;rw[e1,e2];refine fin (fun h=>?_) (fun h=>?_) f114
   ·unfold HW;rw[if_pos h];by_cases q:b.n.length=0
    ·rw[if_pos q];refine G7 (fun _ n hn=>by cases hn) ?_;rw[q] at hli;exact hli
    ·rw[if_neg q];refine G7 (fun hru n hn=>?_) ?_
     ·unfold turn at hn;rcases ar.1 hn with hm | hm;·exact hr hru n (bf hm)
      ·exact hr hru n (aQ hm)
     ·have hk:=Nb (n:=AV a) (k:=b.n.length) (by omega)
      have:(turn (AV a) b.n).length=b.n.length:=by
       unfold turn;rw[aF,List.length_drop,bS];omega
      rw[this];exact hli
   ·unfold HW;rw[if_neg h]
  by_cases h5:g=gU
  ·subst h5;obtain⟨e1,e2⟩:=dy_U ha hb;rw[e1,e2];refine fin (fun h=>?_) (fun h=>?_) ?_
   ·have q0:=VQ (lo := -200) (hi:=200) (a:=a) h;unfold HP;rw[if_pos h];refine G7 (fun hru n hn=>?_) ?_
    ·unfold He at hn;obtain⟨j,hj,rfl⟩:=Z4.1 hn;unfold Ed;split;·rename_i q;exact hr hru _ (Wo (by omega) 0)
     ·exact VC hru
    ·rw[if_pos rfl];unfold He EV;rw[aL,List.length_range];split<;>omega
   ·unfold HP;rw[if_neg h]
   ·unfold Hn;rcases Xl (-200) 200 a with q | q | q | q<;>rw[q]<;>decide
  by_cases h6:g=gD
  ·subst h6;obtain⟨e1,e2⟩:=dy_D ha hb;rw[e1,e2];refine fin (fun h=>?_) (fun h=>?_) f114
   ·unfold HT;rw[if_pos h];refine G7 (fun hru n hn=>?_) ?_
    ·unfold HN at hn;split at hn;·exact hr hru n (bf hn)
     ·exact hr hru n (aQ hn)
    ·rw[if_pos rfl];unfold HN;split;·rw[List.length_drop];omega
     ·rw[bS];omega
   ·unfold HT;rw[if_neg h]
  by_cases h7:g=gN
  ·subst h7;obtain⟨e1,e2⟩:=dy_N ha hb;rw[e1,e2];exact fin (fun _=>U6 _) (fun h=>absurd rfl h) (by decide)
  have e1:dyE g a b=102:=by unfold dyE;simp[ha,hb,h1,h2,h3,h4,h5,h6,h7]
  have e2:dyA g a b=Bw:=by unfold dyA;simp[ha,hb,h1,h2,h3,h4,h5,h6,h7]
  rw[e1,e2];exact fin (fun h=>by cases h) (fun _=>rfl) (by decide)
theorem dyA_len (g:List UInt8) {a b:Arr} (hl:a.n.length<=202) (hm:b.n.length<=202):(dyA g a b).n.length<=400000:=by
 by_cases h:(dyA g a b).right=true
 ·have:=GG h;omega
 ·have h2:=(dy_right g a b).1;have h3:dyE g a b≠0:=fun q=>h (h2.1 q);unfold dyE at h3;unfold dyA;by_cases q:(a.right&&b.right)=false
  ·rw[if_pos q];simp[Bw]
  ·rw[if_neg q] at h3 |-;by_cases h1:g=gR
   ·simp only[h1,if_true] at h3 |-;unfold Gc;rw[if_neg h3];simp[Bw]
   simp only[h1,if_false] at h3 |-;by_cases h2:g=gI
   ·simp only[h2,if_true] at h3 |-;unfold JU;split;·simp;omega
    ·simp[Bw]
   simp only[h2,if_false] at h3 |-;by_cases h4:g=gC
   ·simp only[h4,if_true] at h3 |-;unfold GW;rw[if_neg h3];simp[Bw]
   simp only[h4,if_false] at h3 |-;by_cases h5:g=gT
   ·simp only[h5,if_true] at h3 |-;unfold HW;rw[if_neg h3];simp[Bw]
   simp only[h5,if_false] at h3 |-;by_cases h6:g=gU
   ·simp only[h6,if_true] at h3 |-;unfold HP;rw[if_neg h3];simp[Bw]
   simp only[h6,if_false] at h3 |-;by_cases h7:g=gD
   ·simp only[h7,if_true] at h3 |-;unfold HT;rw[if_neg h3];simp[Bw]
   simp only[h7,if_false] at h3 |-;split<;>simp[Bw,HZ]
theorem monA_len (g:List UInt8) {b:Arr} (hm:b.n.length<=202):(monA g b).n.length<=400000:=by
 by_cases h:(monA g b).right=true
 ·have:=GG h;omega
 ·have h2:=(mon_right g b).1;have h3:monE g b≠0:=fun q=>h (h2.1 q);unfold monE at h3;unfold monA;by_cases q:b.right=false
  ·rw[if_pos q];simp[Bw]
  ·rw[if_neg q] at h3 |-;by_cases h1:g=gR
   ·simp[h1] at h3
   simp only[h1,if_false] at h3 |-;by_cases h2:g=gI
   ·simp only[h2,if_true] at h3 |-;unfold FJ;rw[if_neg h3];simp[Bw]
   simp only[h2,if_false] at h3 |-;by_cases h4:g=gC
   ·simp[h4] at h3
   simp only[h4,if_false] at h3 |-;by_cases h5:g=gT
   ·simp[h5] at h3
   simp only[h5,if_false] at h3 |-;by_cases h6:g=gU
   ·simp[h6] at h3
   simp only[h6,if_false] at h3 |-;split<;>simp[Bw,HZ]
end Go.Ab.Derive2.Sh


namespace Go.Ab.Derive2
open Go Go.Ab
end Go.Ab.Derive2


namespace Go.Ab.Derive2
open Go Go.Ab
end Go.Ab.Derive2


namespace Go.Ab.Derive2
open Go Go.Ab
def MP (g:List UInt8) (a b:Arr):Arr×Int:=if Ck g then Arr.dy g a b else (Sh.dyA g a b,Sh.dyE g a b)
def Mo (g:List UInt8) (a:Arr):Arr×Int:=if Dv g then Arr.mon g a else (Sh.monA g a,Sh.monE g a)
theorem sh_le (a b:Arr) (g:List UInt8):(Sh.dyA g a b).n.length<=400000:=by
 cases h:(a.right&&b.right) with
 | false=>rw[(Sh.dy_not h).2];simp[Bw]
 | true =>
  rw[Z2] at h;have h1:=GG h.1;have h2:=GG h.2;exact Sh.dyA_len g (by omega) (by omega)
theorem shm_le (a:Arr) (g:List UInt8):(Sh.monA g a).n.length<=400000:=by
 cases h:a.right with
 | false=>rw[(Sh.mon_not h).2];simp[Bw]
 | true =>
  have h1:=GG h;exact Sh.monA_len g (by omega)
theorem Wx (g:List UInt8):DyOK g (MP g) where
 run {v u a b} hv hu ha hb:=by
  unfold MP;cases hg:Ck g with
  | true=>exact dyn_run hv hu (by omega) (by omega) hg
  | false =>
   obtain⟨w,h1,h2⟩:=Sh.dy_run g hv hu ha hb;refine⟨w,call (d:=fun _=>.cl) rfl (by decide) (by simp[At,okV,hv.ok,hu.ok]) rfl ?_,h2⟩;rw[ZZ,ZZ,ZZ,Z1,run9];unfold wa wb wd wv;rw[BZ hv,cT,BZ hu,cT,SC,bV,hg];simp only[An,Z0,if_false,Cq hv,Cq hu,bV,h1,B3,af,ai,FT h2,cT,Hm h2]
 le a b:=by
  unfold MP;split;·exact dy_le g a b
  ·exact sh_le a b g
theorem Vj (g:List UInt8):MonOK g (Mo g) where
 run {v a} hv ha:=by
  unfold Mo;cases hg:Dv g with
  | true=>exact monn_run hv (by omega) hg
  | false =>
   obtain⟨w,h1,h2⟩:=Sh.mon_run g hv (by omega);refine⟨w,call (d:=fun _=>.cl) rfl (by decide) (by simp[At,okV,hv.ok]) rfl ?_,h2⟩;rw[ZZ,ZZ,Z1,run6];unfold wa wb wd wv;rw[BZ hv,cT,R6,bV,hg];simp only[An,Z0,if_false,Cq hv,bV,h1,B3,af,ai,FT h2,cT,Hm h2]
 le a:=by
  unfold Mo;split;·exact mon_le g a
  ·exact shm_le a g
end Go.Ab.Derive2


namespace Go.Ab.Derive2
open Go Go.Ab
end Go.Ab.Derive2


set_option maxRecDepth 100000
namespace Go.Ab
open Go
theorem run3 (B:KB) {E:Type} (h:Ay E) (dep:Nat) (e:E) (x0:PV) (x1:PV) (x2:PV):AM (AL B (fun _=>.cl)) fn3 (.cl) h dep [.cv x0,.cv x1,.cv x2] e=Af (A1 x1) (Af (A1 x2) (wv B 4 [] (fun z1=>wd x1 (fun z2=>wv B 5 [z2] (fun z3=>Af (MC z3 x1 0 3) (wd x2 (fun z4=>wv B 5 [z4] (fun z5=>Af (MC z5 x2 0 3) (wv B 7 [x0] (fun z6=>wd (Hw z5 x2 0) (fun z7=>wv B 6 [z6,z7] (fun z8=>wa z8 (fun z9=>wb z8 (fun z10=>Af (AA z9 3) (wv B 7 [x0] (fun z11=>wd (Hw z5 x2 0) (fun z12=>wv B 8 [z11,z12] (fun z13=>wa z13 (fun z14=>wb z13 (fun z15=>Af (AA z14 3) (wv B 7 [x0] (fun z16=>wd (Hw z3 x1 0) (fun z17=>wd (Hw z5 x2 0) (fun z18=>wv B 9 [z16,z17,z18] (fun z19=>wa z19 (fun z20=>wb z19 (fun z21=>Af (AA z20 3) (wv B 7 [x0] (fun z22=>wd (Hw z3 x1 0) (fun z23=>wd (Hw z5 x2 0) (fun z24=>wv B 10 [z22,z23,z24] (fun z25=>wa z25 (fun z26=>wb z25 (fun z27=>Af (AA z26 3) (Ah z1 (wv B 11 [.agg [Ai z9 0,Ai z9 1,Ai z9 2],.agg [Ai z14 0,Ai z14 1,Ai z14 2]] (fun z28=>Ah z28 (wq z10 z15 (fun z29=>Ah z29 (wv B 11 [.agg [Ai z20 0,Ai z20 1,Ai z20 2],.agg [Ai z26 0,Ai z26 1,Ai z26 2]] (fun z30=>Ah z30 (wq z21 z27 (fun z31=>some (z31,e))) (some (.bool false,e)))) (some (.bool false,e)))) (some (.bool false,e)))) (some (.bool false,e))))))))))))))))))))))))))))))))))))):=by kernel_rfl

theorem run8 (B:KB) {E:Type} (h:Ay E) (dep:Nat) (e:E) (x0:PV) (x1:PV):AM (AL B (fun _=>.cl)) fn8 (.cl) h dep [.cv x0,.cv x1] e=Af (A1 x1) (wv B 20 [x0] (fun z1=>Ah z1 (wd x1 (fun z2=>wv B 21 [x0,z2] (fun z3=>wa z3 (fun z4=>wb z3 (fun z5=>Af (AA z4 3) (some (.tup [.agg [Ai z4 0,Ai z4 1,Ai z4 2],z5],e))))))) (wd x1 (fun z6=>wv B 22 [x0,z6] (fun z7=>wa z7 (fun z8=>wb z7 (fun z9=>Af (AA z8 3) (some (.tup [.agg [Ai z8 0,Ai z8 1,Ai z8 2],z9],e))))))))):=by kernel_rfl

theorem run10 (B:KB) {E:Type} (h:Ay E) (dep:Nat) (e:E) (x0:PV) (x1:PV) (x2:PV):AM (AL B (fun _=>.cl)) fn10 (.cl) h dep [.cv x0,.cv x1,.cv x2] e=Af (A1 x1) (Af (A1 x2) (wv B 26 [x0] (fun z1=>Ah z1 (wd x1 (fun z2=>wd x2 (fun z3=>wv B 27 [x0,z2,z3] (fun z4=>wa z4 (fun z5=>wb z4 (fun z6=>Af (AA z5 3) (some (.tup [.agg [Ai z5 0,Ai z5 1,Ai z5 2],z6],e)))))))) (wd x1 (fun z7=>wd x2 (fun z8=>wv B 28 [x0,z7,z8] (fun z9=>wa z9 (fun z10=>wb z9 (fun z11=>Af (AA z10 3) (some (.tup [.agg [Ai z10 0,Ai z10 1,Ai z10 2],z11],e))))))))))):=by kernel_rfl

theorem run11 (B:KB) {E:Type} (h:Ay E) (dep:Nat) (e:E) (x0:PV) (x1:PV):AM (AL B (fun _=>.cl)) fn11 (.cl) h dep [.cv x0,.cv x1] e=Af (A1 x0) (Af (A1 x1) (we x0 (fun z1=>we x1 (fun z2=>Ac (Ad (.bin .eql .bool false (.c z1) (.c z2))) (fun z3=>Ah z3 (wf x0 (fun z4=>wf x1 (fun z5=>Ac (Ad (.bin .eql .bool false (.c z4) (.c z5))) (fun z6=>Ah z6 (wg x0 (fun z7=>wg x1 (fun z8=>wv B 29 [z7,z8] (fun z9=>some (z9,e))))) (some (.bool false,e)))))) (some (.bool false,e))))))):=by kernel_rfl

theorem run20 (B:KB) {E:Type} (h:Ay E) (dep:Nat) (e:E) (x0:PV) :
  AM (AL B (fun _=>.cl)) fn20 (.cl) h dep [.cv x0] e =
  Af (AT 1 [.str [43],.str [45],.str [195,151],.str [195,183],.str [226,140,136],.str [226,140,138],.str [124],.str [126]]) (Ac (A8 B .cl true 42 [AD 1 1
  [.str [43],.str [45],.str [195,151],.str [195,183],.str [226,140,136],.str [226,140,138],.str [124],.str [126]] 0 (Ae [.str [43],.str [45],.str [195,151],.str
  [195,183],.str [226,140,136],.str [226,140,138],.str [124],.str [126]]),x0]) (fun z1=>some (z1,e))):=by kernel_rfl
theorem run21 (B:KB) {E:Type} (h:Ay E) (dep:Nat) (e:E) (x0:PV) (x1:PV):AM (AL B (fun _=>.cl)) fn21 (.cl) h dep [.cv x0,.cv x1] e=Af (A1 x1) (wd x1 (fun z1=>wv B 43 [z1] (fun z2=>wi z2 (fun z3=>Ah z3 (some (.tup [.agg [.bool false,.bool false,.nilS],.int .i64 114],e)) (wv B 20 [x0] (fun z4=>wi z4 (fun z5=>Ah z5 (some (.tup [.agg [.bool false,.bool false,.nilS],.int .i64 102],e)) (wf x1 (fun z6=>Ah z6 (wg x1 (fun z7=>wc z7 (fun z8=>Ac (Ad (.bin .gtr .num true (.c z8) (.c (.int .i64 0)))) (fun z9=>Ah z9 (some (.tup [.agg [.bool false,.bool false,.nilS],.int .i64 102],e)) (we x1 (fun z10=>Ac (Ad (.build [.bool false,.bool false,.nilS] [(0,(1,.c z10))])) (fun z11=>Af (AA z11 3) (CO (Ai z11 2) (Af (AZ [x0,.int .i64 0]) (Bg (fun z12=>wg (Aa z12.1 2) (fun z13=>wc z13 (fun z14=>wo (Aa z12.1 1) z14 (fun z15=>Ah z15 (wg (Aa z12.1 2) (fun z16=>wr z16 (Aa z12.1 1) (fun z17=>wh z17 (fun z18=>wv B 44 [Aa z12.1 0,z18] (fun z19=>wa z19 (fun z20=>wb z19 (fun z21=>wk z21 (fun z22=>Ah z22 (Ac (some (.tup [.agg [.bool false,.bool false,.nilS],z21],z12.2)) (fun z23=>some (.inr z23))) (Af (AT 1 [z20]) (Af (Az (Av 0 (Ae [z20])) (Ae [z20])) (Af (Bi (Az (Al (Aa z12.1 8)) (Ae (Ap (Aa z12.1 9)))) (Az (Av (Al (Aa z12.1 8)) (Ae (As (Ae [z20]) (AG 0 [z20])))) 2147483648)) (wj (Aa z12.1 1) (fun z24=>some (.inl ([Aa z12.1 0,z24,Aa z12.1 2,Aa z12.1 3,Aa z12.1 4,Aa z12.1 5,Aa z12.1 6,Aa z12.1 7,nI (Av (Al (Aa z12.1 8)) (Ae (As (Ae [z20]) (AG 0 [z20])))),.sl 1 (A9 (As (Al (Aa z12.1 8)) (Ap (Aa z12.1 9))) (As (Ae [z20]) (AG 0 [z20]))) false],z12.2))))))))))))))) (Ac (Af (Bh (.tup [.agg [Aa z12.1 6,Aa z12.1 7,AD 1 1 (Ap (Aa z12.1 9)) 0 (Al (Aa z12.1 8))],.int .i64 0])) (some (.tup [.agg [Aa z12.1 6,Aa z12.1 7,AD 1 1 (Ap (Aa z12.1 9)) 0 (Al (Aa z12.1 8))],.int .i64 0],z12.2))) (fun z25=>some (.inr z25))))))) ([x0,.int .i64 0,x1,.bool false,.bool false,.nilS,Ai z11 0,Ai z11 1,nI 0,.sl 1 [] false],e))))))))))) (we x1 (fun z26=>Ac (Ad (.build [.bool false,.bool false,.nilS] [(0,(1,.c z26))])) (fun z27=>Af (AA z27 3) (CO (Ai z27 2) (Af (AZ [x0,.int .i64 0]) (Bg (fun z28=>wg (Aa z28.1 2) (fun z29=>wc z29 (fun z30=>wo (Aa z28.1 1) z30 (fun z31=>Ah z31 (wg (Aa z28.1 2) (fun z32=>wr z32 (Aa z28.1 1) (fun z33=>wh z33 (fun z34=>wv B 44 [Aa z28.1 0,z34] (fun z35=>wa z35 (fun z36=>wb z35 (fun z37=>wk z37 (fun z38=>Ah z38 (Ac (some (.tup [.agg [.bool false,.bool false,.nilS],z37],z28.2)) (fun z39=>some (.inr z39))) (Af (AT 1 [z36]) (Af (Az (Av 0 (Ae [z36])) (Ae [z36])) (Af (Bi (Az (Al (Aa z28.1 8)) (Ae (Ap (Aa z28.1 9)))) (Az (Av (Al (Aa z28.1 8)) (Ae (As (Ae [z36]) (AG 0 [z36])))) 2147483648)) (wj (Aa z28.1 1) (fun z40=>some (.inl ([Aa z28.1 0,z40,Aa z28.1 2,Aa z28.1 3,Aa z28.1 4,Aa z28.1 5,Aa z28.1 6,Aa z28.1 7,nI (Av (Al (Aa z28.1 8)) (Ae (As (Ae [z36]) (AG 0 [z36])))),.sl 1 (A9 (As (Al (Aa z28.1 8)) (Ap (Aa z28.1 9))) (As (Ae [z36]) (AG 0 [z36]))) false],z28.2))))))))))))))) (Ac (Af (Bh (.tup [.agg [Aa z28.1 6,Aa z28.1 7,AD 1 1 (Ap (Aa z28.1 9)) 0 (Al (Aa z28.1 8))],.int .i64 0])) (some (.tup [.agg [Aa z28.1 6,Aa z28.1 7,AD 1 1 (Ap (Aa z28.1 9)) 0 (Al (Aa z28.1 8))],.int .i64 0],z28.2))) (fun z41=>some (.inr z41))))))) ([x0,.int .i64 0,x1,.bool false,.bool false,.nilS,Ai z27 0,Ai z27 1,nI 0,.sl 1 [] false],e)))))))))))))))):=by kernel_rfl

theorem run22 (B:KB) {E:Type} (h:Ay E) (dep:Nat) (e:E) (x0:PV) (x1:PV):AM (AL B (fun _=>.cl)) fn22 (.cl) h dep [.cv x0,.cv x1] e=Af (A1 x1) (wd x1 (fun z1=>wv B 43 [z1] (fun z2=>wi z2 (fun z3=>Ah z3 (some (.tup [.agg [.bool false,.bool false,.nilS],.int .i64 114],e)) (wg x1 (fun z4=>Ac (IR 1 z4) (fun z5=>Af (Az (Ae z5) 2147483648) (ws x0 [226,141,180] (fun z6=>Ah z6 (we x1 (fun z7=>wi z7 (fun z8=>Ah z8 (wv B 45 [.nilS,.bool false] (fun z9=>Af (AA z9 3) (some (.tup [.agg [Ai z9 0,Ai z9 1,Ai z9 2],.int .i64 0],e)))) (wg x1 (fun z10=>wc z10 (fun z11=>Af (AT 1 [z11]) (Ac (A8 B .cl false 45 [AD 1 1 [z11] 0 (Ae [z11]),.bool false]) (fun z12=>Af (AA z12 3) (some (.tup [.agg [Ai z12 0,Ai z12 1,Ai z12 2],.int .i64 0],e)))))))))) (ws x0 [226,141,179] (fun z13=>Ah z13 (wd x1 (fun z14=>wv B 46 [z14] (fun z15=>wa z15 (fun z16=>wb z15 (fun z17=>Af (AA z16 3) (some (.tup [.agg [Ai z16 0,Ai z16 1,Ai z16 2],z17],e))))))) (ws x0 [44] (fun z18=>Ah z18 (wf x1 (fun z19=>Ac (A8 B .cl false 45 [AD 1 1 z5 0 (Ae z5),z19]) (fun z20=>Af (AA z20 3) (some (.tup [.agg [Ai z20 0,Ai z20 1,Ai z20 2],.int .i64 0],e))))) (ws x0 [226,140,189] (fun z21=>Ah z21 (Af (AZ [nI (Ae z5),.int .i64 0]) (Bg (fun z22=>Ac (Ad (.bin .lss .num false (.c (Aa z22.1 1)) (.c (nI (Al (Aa z22.1 0)))))) (fun z23=>Ah z23 (wg (Aa z22.1 2) (fun z24=>Ac (Ad (.bin .sub .num true (.c (nI (Al (Aa z22.1 0)))) (.c (.int .i64 1)))) (fun z25=>Ac (Ad (.bin .sub .num false (.c z25) (.c (Aa z22.1 1)))) (fun z26=>wr z24 z26 (fun z27=>wh z27 (fun z28=>Ac (FR (Aa z22.1 1)) (fun z29=>Af (D2 z29 (Al (Aa z22.1 0))) (Ac (GZ 1 (Ap (Aa z22.1 6)) (Av 0 z29) 0 1 z28) (fun z30=>wj (Aa z22.1 1) (fun z31=>some (.inl ([nI (Al (Aa z22.1 0)),z31,Aa z22.1 2,Aa z22.1 3,Aa z22.1 4,Aa z22.1 5,.sl 1 z30 false],z22.2)))))))))))) (Ac (we (Aa z22.1 2) (fun z32=>wf (Aa z22.1 2) (fun z33=>Af (AA z32 1) (Af (AA z33 1) (Af (Bh (.tup [.agg [Ai z32 0,Ai z33 0,AD 1 1 (Ap (Aa z22.1 6)) 0 (Al (Aa z22.1 0))],.int .i64 0])) (some (.tup [.agg [Ai z32 0,Ai z33 0,AD 1 1 (Ap (Aa z22.1 6)) 0 (Al (Aa z22.1 0))],.int .i64 0],z22.2))))))) (fun z34=>some (.inr z34))))) ([nI (Ae z5),.int .i64 0,x1,.bool false,.bool false,.nilS,.sl 1 z5 false],e))) (ws x0 [226,134,145] (fun z35=>Ah z35 (wl (nI (Ae z5)) (fun z36=>Ah z36 (wf x1 (fun z37=>wv B 47 [z37] (fun z38=>Af (AT 1 [z38]) (Af (Az (Av 0 (Ae [z38])) (Ae [z38])) (Af (Bi (Az (Ae z5) (Ae z5)) (Az (Av (Ae z5) (Ae (As (Ae [z38]) (AG 0 [z38])))) 2147483648)) (wf x1 (fun z39=>Ac (DW none (Av (Ae z5) (Ae (As (Ae [z38]) (AG 0 [z38])))) (Av (Ae z5) (Ae (As (Ae [z38]) (AG 0 [z38]))))) (fun z40=>Ac (DW (some (.int .i64 1)) (Av (Ae z5) (Ae (As (Ae [z38]) (AG 0 [z38])))) z40) (fun z41=>Af (AA z39 1) (Af (Bh (.tup [.agg [.bool false,Ai z39 0,AD 1 1 (A9 (As (Ae z5) z5) (As (Ae [z38]) (AG 0 [z38]))) 0 z41],.int .i64 0])) (some (.tup [.agg [.bool false,Ai z39 0,AD 1 1 (A9 (As (Ae z5) z5) (As (Ae [z38]) (AG 0 [z38]))) 0 z41],.int .i64 0],e)))))))))))) (wf x1 (fun z42=>Ac (DW none (Ae z5) (Ae z5)) (fun z43=>Ac (DW (some (.int .i64 1)) (Ae z5) z43) (fun z44=>Af (AA z42 1) (Af (Bh (.tup [.agg [.bool false,Ai z42 0,AD 1 1 z5 0 z44],.int .i64 0])) (some (.tup [.agg [.bool false,Ai z42 0,AD 1 1 z5 0 z44],.int .i64 0],e))))))))) (ws x0 [226,137,162] (fun z45=>Ah z45 (wv B 48 [nI (Ae z5)] (fun z46=>Af (AA z46 3) (some (.tup [.agg [Ai z46 0,Ai z46 1,Ai z46 2],.int .i64 0],e)))) (some (.tup [.agg [.bool false,.bool false,.nilS],.int .i64 102],e))))))))))))))))))))):=by kernel_rfl

theorem run26 (B:KB) {E:Type} (h:Ay E) (dep:Nat) (e:E) (x0:PV) :
  AM (AL B (fun _=>.cl)) fn26 (.cl) h dep [.cv x0] e =
  Af (AT 1 [.str [43],.str [45],.str [195,151],.str [195,183],.str [226,140,136],.str [226,140,138],.str [124],.str [61],.str [226,137,160],.str [60],.str
  [62],.str [226,137,164],.str [226,137,165],.str [226,136,167],.str [226,136,168]]) (Ac (A8 B .cl true 42 [AD 1 1 [.str [43],.str [45],.str [195,151],.str
  [195,183],.str [226,140,136],.str [226,140,138],.str [124],.str [61],.str [226,137,160],.str [60],.str [62],.str [226,137,164],.str [226,137,165],.str [226,
  136,167],.str [226,136,168]] 0 (Ae [.str [43],.str [45],.str [195,151],.str [195,183],.str [226,140,136],.str [226,140,138],.str [124],.str [61],.str [226,137,
  160],.str [60],.str [62],.str [226,137,164],.str [226,137,165],.str [226,136,167],.str [226,136,168]]),x0]) (fun z1=>some (z1,e))):=by kernel_rfl
theorem run27 (B:KB) {E:Type} (h:Ay E) (dep:Nat) (e:E) (x0:PV) (x1:PV) (x2:PV):AM (AL B (fun _=>.cl)) fn27 (.cl) h dep [.cv x0,.cv x1,.cv x2] e=Af (A1 x1) (Af (A1 x2) (wd x1 (fun z1=>wv B 43 [z1] (fun z2=>wi z2 (fun z3=>Ah z3 (some (.tup [.agg [.bool false,.bool false,.nilS],.int .i64 114],e)) (wd x2 (fun z4=>wv B 43 [z4] (fun z5=>wi z5 (fun z6=>Ah z6 (some (.tup [.agg [.bool false,.bool false,.nilS],.int .i64 114],e)) (wv B 26 [x0] (fun z7=>wi z7 (fun z8=>Ah z8 (some (.tup [.agg [.bool false,.bool false,.nilS],.int .i64 102],e)) (Ac (we x1 (fun z9=>Ah z9 (we x2 (fun z10=>Ah z10 (wg x1 (fun z11=>wc z11 (fun z12=>wg x2 (fun z13=>wc z13 (fun z14=>wt z12 z14 (fun z15=>some z15)))))) (some (.bool false)))) (some (.bool false)))) (fun z16=>Ah z16 (some (.tup [.agg [.bool false,.bool false,.nilS],.int .i64 110],e)) (Ac (Ac (Ad (.bin .neq .str true (.c x0) (.c (.str [61])))) (fun z17=>Ah z17 (Ac (Ad (.bin .neq .str true (.c x0) (.c (.str [226,137,160])))) (fun z18=>Ah z18 (wf x1 (fun z19=>Ah z19 (wg x1 (fun z20=>wc z20 (fun z21=>Ac (Ad (.bin .gtr .num true (.c z21) (.c (.int .i64 0)))) (fun z22=>Ah z22 (some (.bool true)) (wf x2 (fun z23=>Ah z23 (wg x2 (fun z24=>wc z24 (fun z25=>Ac (Ad (.bin .gtr .num true (.c z25) (.c (.int .i64 0)))) (fun z26=>some z26)))) (some (.bool false)))))))) (wf x2 (fun z27=>Ah z27 (wg x2 (fun z28=>wc z28 (fun z29=>Ac (Ad (.bin .gtr .num true (.c z29) (.c (.int .i64 0)))) (fun z30=>some z30)))) (some (.bool false)))))) (some (.bool false)))) (some (.bool false)))) (fun z31=>Ah z31 (some (.tup [.agg [.bool false,.bool false,.nilS],.int .i64 102],e)) (we x1 (fun z32=>Ah z32 (Ac (Ad (.build [.bool false,.bool false,.nilS] [(0,(1,.c (.bool true)))])) (fun z33=>Af (AA z33 3) (wg x2 (fun z34=>wc z34 (fun z35=>we x1 (fun z36=>Ah z36 (wg x1 (fun z37=>wc z37 (fun z38=>CO (Ai z33 2) (Af (AZ [x0,z38,.int .i64 0]) (Bg (fun z39=>wo (Aa z39.1 2) (Aa z39.1 1) (fun z40=>Ah z40 (wd (Aa z39.1 3) (fun z41=>wv B 54 [z41,Aa z39.1 2] (fun z42=>wd (Aa z39.1 4) (fun z43=>wv B 54 [z43,Aa z39.1 2] (fun z44=>wf (Aa z39.1 3) (fun z45=>wf (Aa z39.1 4) (fun z46=>Ac (Ad (.bin .eql .bool false (.c z45) (.c z46))) (fun z47=>wv B 53 [Aa z39.1 0,z42,z44,z47] (fun z48=>wa z48 (fun z49=>wb z48 (fun z50=>wk z50 (fun z51=>Ah z51 (Ac (some (.tup [.agg [.bool false,.bool false,.nilS],z50],z39.2)) (fun z52=>some (.inr z52))) (Af (AT 1 [z49]) (Af (Az (Av 0 (Ae [z49])) (Ae [z49])) (Af (Bi (Az (Al (Aa z39.1 10)) (Ae (Ap (Aa z39.1 11)))) (Az (Av (Al (Aa z39.1 10)) (Ae (As (Ae [z49]) (AG 0 [z49])))) 2147483648)) (wj (Aa z39.1 2) (fun z53=>some (.inl ([Aa z39.1 0,Aa z39.1 1,z53,Aa z39.1 3,Aa z39.1 4,Aa z39.1 5,Aa z39.1 6,Aa z39.1 7,Aa z39.1 8,Aa z39.1 9,nI (Av (Al (Aa z39.1 10)) (Ae (As (Ae [z49]) (AG 0 [z49])))),.sl 1 (A9 (As (Al (Aa z39.1 10)) (Ap (Aa z39.1 11))) (As (Ae [z49]) (AG 0 [z49]))) false],z39.2))))))))))))))))))) (Ac (Af (Bh (.tup [.agg [Aa z39.1 8,Aa z39.1 9,AD 1 1 (Ap (Aa z39.1 11)) 0 (Al (Aa z39.1 10))],.int .i64 0])) (some (.tup [.agg [Aa z39.1 8,Aa z39.1 9,AD 1 1 (Ap (Aa z39.1 11)) 0 (Al (Aa z39.1 10))],.int .i64 0],z39.2))) (fun z54=>some (.inr z54))))) ([x0,z38,.int .i64 0,x1,x2,.bool false,.bool false,.nilS,Ai z33 0,Ai z33 1,nI 0,.sl 1 [] false],e)))))) (CO (Ai z33 2) (Af (AZ [x0,z35,.int .i64 0]) (Bg (fun z55=>wo (Aa z55.1 2) (Aa z55.1 1) (fun z56=>Ah z56 (wd (Aa z55.1 3) (fun z57=>wv B 54 [z57,Aa z55.1 2] (fun z58=>wd (Aa z55.1 4) (fun z59=>wv B 54 [z59,Aa z55.1 2] (fun z60=>wf (Aa z55.1 3) (fun z61=>wf (Aa z55.1 4) (fun z62=>Ac (Ad (.bin .eql .bool false (.c z61) (.c z62))) (fun z63=>wv B 53 [Aa z55.1 0,z58,z60,z63] (fun z64=>wa z64 (fun z65=>wb z64 (fun z66=>wk z66 (fun z67=>Ah z67 (Ac (some (.tup [.agg [.bool false,.bool false,.nilS],z66],z55.2)) (fun z68=>some (.inr z68))) (Af (AT 1 [z65]) (Af (Az (Av 0 (Ae [z65])) (Ae [z65])) (Af (Bi (Az (Al (Aa z55.1 10)) (Ae (Ap (Aa z55.1 11)))) (Az (Av (Al (Aa z55.1 10)) (Ae (As (Ae [z65]) (AG 0 [z65])))) 2147483648)) (wj (Aa z55.1 2) (fun z69=>some (.inl ([Aa z55.1 0,Aa z55.1 1,z69,Aa z55.1 3,Aa z55.1 4,Aa z55.1 5,Aa z55.1 6,Aa z55.1 7,Aa z55.1 8,Aa z55.1 9,nI (Av (Al (Aa z55.1 10)) (Ae (As (Ae [z65]) (AG 0 [z65])))),.sl 1 (A9 (As (Al (Aa z55.1 10)) (Ap (Aa z55.1 11))) (As (Ae [z65]) (AG 0 [z65]))) false],z55.2))))))))))))))))))) (Ac (Af (Bh (.tup [.agg [Aa z55.1 8,Aa z55.1 9,AD 1 1 (Ap (Aa z55.1 11)) 0 (Al (Aa z55.1 10))],.int .i64 0])) (some (.tup [.agg [Aa z55.1 8,Aa z55.1 9,AD 1 1 (Ap (Aa z55.1 11)) 0 (Al (Aa z55.1 10))],.int .i64 0],z55.2))) (fun z70=>some (.inr z70))))) ([x0,z35,.int .i64 0,x1,x2,.bool false,.bool false,.nilS,Ai z33 0,Ai z33 1,nI 0,.sl 1 [] false],e)))))))))) (we x2 (fun z71=>Ac (Ad (.build [.bool false,.bool false,.nilS] [(0,(1,.c z71))])) (fun z72=>Af (AA z72 3) (wg x2 (fun z73=>wc z73 (fun z74=>we x1 (fun z75=>Ah z75 (wg x1 (fun z76=>wc z76 (fun z77=>CO (Ai z72 2) (Af (AZ [x0,z77,.int .i64 0]) (Bg (fun z78=>wo (Aa z78.1 2) (Aa z78.1 1) (fun z79=>Ah z79 (wd (Aa z78.1 3) (fun z80=>wv B 54 [z80,Aa z78.1 2] (fun z81=>wd (Aa z78.1 4) (fun z82=>wv B 54 [z82,Aa z78.1 2] (fun z83=>wf (Aa z78.1 3) (fun z84=>wf (Aa z78.1 4) (fun z85=>Ac (Ad (.bin .eql .bool false (.c z84) (.c z85))) (fun z86=>wv B 53 [Aa z78.1 0,z81,z83,z86] (fun z87=>wa z87 (fun z88=>wb z87 (fun z89=>wk z89 (fun z90=>Ah z90 (Ac (some (.tup [.agg [.bool false,.bool false,.nilS],z89],z78.2)) (fun z91=>some (.inr z91))) (Af (AT 1 [z88]) (Af (Az (Av 0 (Ae [z88])) (Ae [z88])) (Af (Bi (Az (Al (Aa z78.1 10)) (Ae (Ap (Aa z78.1 11)))) (Az (Av (Al (Aa z78.1 10)) (Ae (As (Ae [z88]) (AG 0 [z88])))) 2147483648)) (wj (Aa z78.1 2) (fun z92=>some (.inl ([Aa z78.1 0,Aa z78.1 1,z92,Aa z78.1 3,Aa z78.1 4,Aa z78.1 5,Aa z78.1 6,Aa z78.1 7,Aa z78.1 8,Aa z78.1 9,nI (Av (Al (Aa z78.1 10)) (Ae (As (Ae [z88]) (AG 0 [z88])))),.sl 1 (A9 (As (Al (Aa z78.1 10)) (Ap (Aa z78.1 11))) (As (Ae [z88]) (AG 0 [z88]))) false],z78.2))))))))))))))))))) (Ac (Af (Bh (.tup [.agg [Aa z78.1 8,Aa z78.1 9,AD 1 1 (Ap (Aa z78.1 11)) 0 (Al (Aa z78.1 10))],.int .i64 0])) (some (.tup [.agg [Aa z78.1 8,Aa z78.1 9,AD 1 1 (Ap (Aa z78.1 11)) 0 (Al (Aa z78.1 10))],.int .i64 0],z78.2))) (fun z93=>some (.inr z93))))) ([x0,z77,.int .i64 0,x1,x2,.bool false,.bool false,.nilS,Ai z72 0,Ai z72 1,nI 0,.sl 1 [] false],e)))))) (CO (Ai z72 2) (Af (AZ [x0,z74,.int .i64 0]) (Bg (fun z94=>wo (Aa z94.1 2) (Aa z94.1 1) (fun z95=>Ah z95 (wd (Aa z94.1 3) (fun z96=>wv B 54 [z96,Aa z94.1 2] (fun z97=>wd (Aa z94.1 4) (fun z98=>wv B 54 [z98,Aa z94.1 2] (fun z99=>wf (Aa z94.1 3) (fun z100=>wf (Aa z94.1 4) (fun z101=>Ac (Ad (.bin .eql .bool false (.c z100) (.c z101))) (fun z102=>wv B 53 [Aa z94.1 0,z97,z99,z102] (fun z103=>wa z103 (fun z104=>wb z103 (fun z105=>wk z105 (fun z106=>Ah z106 (Ac (some (.tup [.agg [.bool false,.bool false,.nilS],z105],z94.2)) (fun z107=>some (.inr z107))) (Af (AT 1 [z104]) (Af (Az (Av 0 (Ae [z104])) (Ae [z104])) (Af (Bi (Az (Al (Aa z94.1 10)) (Ae (Ap (Aa z94.1 11)))) (Az (Av (Al (Aa z94.1 10)) (Ae (As (Ae [z104]) (AG 0 [z104])))) 2147483648)) (wj (Aa z94.1 2) (fun z108=>some (.inl ([Aa z94.1 0,Aa z94.1 1,z108,Aa z94.1 3,Aa z94.1 4,Aa z94.1 5,Aa z94.1 6,Aa z94.1 7,Aa z94.1 8,Aa z94.1 9,nI (Av (Al (Aa z94.1 10)) (Ae (As (Ae [z104]) (AG 0 [z104])))),.sl 1 (A9 (As (Al (Aa z94.1 10)) (Ap (Aa z94.1 11))) (As (Ae [z104]) (AG 0 [z104]))) false],z94.2))))))))))))))))))) (Ac (Af (Bh (.tup [.agg [Aa z94.1 8,Aa z94.1 9,AD 1 1 (Ap (Aa z94.1 11)) 0 (Al (Aa z94.1 10))],.int .i64 0])) (some (.tup [.agg [Aa z94.1 8,Aa z94.1 9,AD 1 1 (Ap (Aa z94.1 11)) 0 (Al (Aa z94.1 10))],.int .i64 0],z94.2))) (fun z109=>some (.inr z109))))) ([x0,z74,.int .i64 0,x1,x2,.bool false,.bool false,.nilS,Ai z72 0,Ai z72 1,nI 0,.sl 1 [] false],e))))))))))))))))))))))))))))):=by kernel_rfl

theorem run28 (B:KB) {E:Type} (h:Ay E) (dep:Nat) (e:E) (x0:PV) (x1:PV) (x2:PV):AM (AL B (fun _=>.cl)) fn28 (.cl) h dep [.cv x0,.cv x1,.cv x2] e=Af (A1 x1) (Af (A1 x2) (wd x1 (fun z1=>wv B 43 [z1] (fun z2=>wi z2 (fun z3=>Ah z3 (some (.tup [.agg [.bool false,.bool false,.nilS],.int .i64 114],e)) (wd x2 (fun z4=>wv B 43 [z4] (fun z5=>wi z5 (fun z6=>Ah z6 (some (.tup [.agg [.bool false,.bool false,.nilS],.int .i64 114],e)) (ws x0 [226,141,180] (fun z7=>Ah z7 (Ah z7 (wd x1 (fun z8=>wd x2 (fun z9=>wv B 55 [x0,z8,z9] (fun z10=>wa z10 (fun z11=>wb z10 (fun z12=>Af (AA z11 3) (some (.tup [.agg [Ai z11 0,Ai z11 1,Ai z11 2],z12],e)))))))) (ws x0 [226,141,179] (fun z13=>Ah z13 (we x1 (fun z14=>wi z14 (fun z15=>Ah z15 (some (.tup [.agg [.bool false,.bool false,.nilS],.int .i64 111],e)) (wd x1 (fun z16=>wd x2 (fun z17=>wv B 56 [z16,z17] (fun z18=>Af (AA z18 3) (some (.tup [.agg [Ai z18 0,Ai z18 1,Ai z18 2],.int .i64 0],e))))))))) (ws x0 [44] (fun z19=>Ah z19 (wd x1 (fun z20=>wd x2 (fun z21=>wv B 57 [z20,z21] (fun z22=>wa z22 (fun z23=>wb z22 (fun z24=>Af (AA z23 3) (some (.tup [.agg [Ai z23 0,Ai z23 1,Ai z23 2],z24],e)))))))) (ws x0 [226,137,162] (fun z25=>Ah z25 (wd x1 (fun z26=>wd x2 (fun z27=>wv B 11 [z26,z27] (fun z28=>Ah z28 (wv B 48 [.int .i64 0] (fun z29=>Af (AA z29 3) (some (.tup [.agg [Ai z29 0,Ai z29 1,Ai z29 2],.int .i64 0],e)))) (wv B 48 [.int .i64 1] (fun z30=>Af (AA z30 3) (some (.tup [.agg [Ai z30 0,Ai z30 1,Ai z30 2],.int .i64 0],e)))))))) (some (.tup [.agg [.bool false,.bool false,.nilS],.int .i64 102],e))))))))) (ws x0 [226,140,189] (fun z31=>Ah z31 (Ah z31 (wd x1 (fun z32=>wd x2 (fun z33=>wv B 55 [x0,z32,z33] (fun z34=>wa z34 (fun z35=>wb z34 (fun z36=>Af (AA z35 3) (some (.tup [.agg [Ai z35 0,Ai z35 1,Ai z35 2],z36],e)))))))) (ws x0 [226,141,179] (fun z37=>Ah z37 (we x1 (fun z38=>wi z38 (fun z39=>Ah z39 (some (.tup [.agg [.bool false,.bool false,.nilS],.int .i64 111],e)) (wd x1 (fun z40=>wd x2 (fun z41=>wv B 56 [z40,z41] (fun z42=>Af (AA z42 3) (some (.tup [.agg [Ai z42 0,Ai z42 1,Ai z42 2],.int .i64 0],e))))))))) (ws x0 [44] (fun z43=>Ah z43 (wd x1 (fun z44=>wd x2 (fun z45=>wv B 57 [z44,z45] (fun z46=>wa z46 (fun z47=>wb z46 (fun z48=>Af (AA z47 3) (some (.tup [.agg [Ai z47 0,Ai z47 1,Ai z47 2],z48],e)))))))) (ws x0 [226,137,162] (fun z49=>Ah z49 (wd x1 (fun z50=>wd x2 (fun z51=>wv B 11 [z50,z51] (fun z52=>Ah z52 (wv B 48 [.int .i64 0] (fun z53=>Af (AA z53 3) (some (.tup [.agg [Ai z53 0,Ai z53 1,Ai z53 2],.int .i64 0],e)))) (wv B 48 [.int .i64 1] (fun z54=>Af (AA z54 3) (some (.tup [.agg [Ai z54 0,Ai z54 1,Ai z54 2],.int .i64 0],e)))))))) (some (.tup [.agg [.bool false,.bool false,.nilS],.int .i64 102],e))))))))) (ws x0 [226,134,145] (fun z55=>Ah z55 (Ah z55 (wd x1 (fun z56=>wd x2 (fun z57=>wv B 55 [x0,z56,z57] (fun z58=>wa z58 (fun z59=>wb z58 (fun z60=>Af (AA z59 3) (some (.tup [.agg [Ai z59 0,Ai z59 1,Ai z59 2],z60],e)))))))) (ws x0 [226,141,179] (fun z61=>Ah z61 (we x1 (fun z62=>wi z62 (fun z63=>Ah z63 (some (.tup [.agg [.bool false,.bool false,.nilS],.int .i64 111],e)) (wd x1 (fun z64=>wd x2 (fun z65=>wv B 56 [z64,z65] (fun z66=>Af (AA z66 3) (some (.tup [.agg [Ai z66 0,Ai z66 1,Ai z66 2],.int .i64 0],e))))))))) (ws x0 [44] (fun z67=>Ah z67 (wd x1 (fun z68=>wd x2 (fun z69=>wv B 57 [z68,z69] (fun z70=>wa z70 (fun z71=>wb z70 (fun z72=>Af (AA z71 3) (some (.tup [.agg [Ai z71 0,Ai z71 1,Ai z71 2],z72],e)))))))) (ws x0 [226,137,162] (fun z73=>Ah z73 (wd x1 (fun z74=>wd x2 (fun z75=>wv B 11 [z74,z75] (fun z76=>Ah z76 (wv B 48 [.int .i64 0] (fun z77=>Af (AA z77 3) (some (.tup [.agg [Ai z77 0,Ai z77 1,Ai z77 2],.int .i64 0],e)))) (wv B 48 [.int .i64 1] (fun z78=>Af (AA z78 3) (some (.tup [.agg [Ai z78 0,Ai z78 1,Ai z78 2],.int .i64 0],e)))))))) (some (.tup [.agg [.bool false,.bool false,.nilS],.int .i64 102],e))))))))) (ws x0 [226,134,147] (fun z79=>Ah z79 (wd x1 (fun z80=>wd x2 (fun z81=>wv B 55 [x0,z80,z81] (fun z82=>wa z82 (fun z83=>wb z82 (fun z84=>Af (AA z83 3) (some (.tup [.agg [Ai z83 0,Ai z83 1,Ai z83 2],z84],e)))))))) (ws x0 [226,141,179] (fun z85=>Ah z85 (we x1 (fun z86=>wi z86 (fun z87=>Ah z87 (some (.tup [.agg [.bool false,.bool false,.nilS],.int .i64 111],e)) (wd x1 (fun z88=>wd x2 (fun z89=>wv B 56 [z88,z89] (fun z90=>Af (AA z90 3) (some (.tup [.agg [Ai z90 0,Ai z90 1,Ai z90 2],.int .i64 0],e))))))))) (ws x0 [44] (fun z91=>Ah z91 (wd x1 (fun z92=>wd x2 (fun z93=>wv B 57 [z92,z93] (fun z94=>wa z94 (fun z95=>wb z94 (fun z96=>Af (AA z95 3) (some (.tup [.agg [Ai z95 0,Ai z95 1,Ai z95 2],z96],e)))))))) (ws x0 [226,137,162] (fun z97=>Ah z97 (wd x1 (fun z98=>wd x2 (fun z99=>wv B 11 [z98,z99] (fun z100=>Ah z100 (wv B 48 [.int .i64 0] (fun z101=>Af (AA z101 3) (some (.tup [.agg [Ai z101 0,Ai z101 1,Ai z101 2],.int .i64 0],e)))) (wv B 48 [.int .i64 1] (fun z102=>Af (AA z102 3) (some (.tup [.agg [Ai z102 0,Ai z102 1,Ai z102 2],.int .i64 0],e)))))))) (some (.tup [.agg [.bool false,.bool false,.nilS],.int .i64 102],e))))))))))))))))))))))))):=by kernel_rfl

theorem run29 (B:KB) {E:Type} (h:Ay E) (dep:Nat) (e:E) (x0:PV) (x1:PV):AM (AL B (fun _=>.cl)) fn29 (.cl) h dep [.cv x0,.cv x1] e=wc x0 (fun z1=>wc x1 (fun z2=>wt z1 z2 (fun z3=>Ah z3 (some (.bool false,e)) (Af (AZ [x0,x1,.int .i64 0]) (Bg (fun z4=>wc (Aa z4.1 0) (fun z5=>wo (Aa z4.1 2) z5 (fun z6=>Ah z6 (wr (Aa z4.1 0) (Aa z4.1 2) (fun z7=>wh z7 (fun z8=>wr (Aa z4.1 1) (Aa z4.1 2) (fun z9=>wh z9 (fun z10=>wt z8 z10 (fun z11=>Ah z11 (Ac (some (.bool false,z4.2)) (fun z12=>some (.inr z12))) (wj (Aa z4.1 2) (fun z13=>some (.inl ([Aa z4.1 0,Aa z4.1 1,z13],z4.2)))))))))) (Ac (some (.bool true,z4.2)) (fun z14=>some (.inr z14)))))) ([x0,x1,.int .i64 0],e)))))):=by kernel_rfl

theorem run43 (B:KB) {E:Type} (h:Ay E) (dep:Nat) (e:E) (x0:PV):AM (AL B (fun _=>.cl)) fn43 (.cl) h dep [.cv x0] e=Af (A1 x0) (Af (AZ [.int .i64 0]) (Bg (fun z1=>Ac (wg (Aa z1.1 1) (fun z2=>wc z2 (fun z3=>wo (Aa z1.1 0) z3 (fun z4=>Ah z4 (wf (Aa z1.1 1) (fun z5=>some z5)) (some (.bool false)))))) (fun z6=>Ah z6 (wg (Aa z1.1 1) (fun z7=>wr z7 (Aa z1.1 0) (fun z8=>wh z8 (fun z9=>wv B 103 [z9] (fun z10=>wi z10 (fun z11=>Ah z11 (Ac (some (.bool false,z1.2)) (fun z12=>some (.inr z12))) (wj (Aa z1.1 0) (fun z13=>some (.inl ([z13,Aa z1.1 1],z1.2)))))))))) (Ac (Ac (we (Aa z1.1 1) (fun z14=>Ah z14 (wg (Aa z1.1 1) (fun z15=>wc z15 (fun z16=>Ac (Ad (.bin .leq .num true (.c z16) (.c (.int .i64 200)))) (fun z17=>Ah z17 (some (.bool true)) (we (Aa z1.1 1) (fun z18=>wi z18 (fun z19=>Ah z19 (wg (Aa z1.1 1) (fun z20=>wc z20 (fun z21=>Ac (Ad (.bin .eql .num true (.c z21) (.c (.int .i64 1)))) (fun z22=>some z22)))) (some (.bool false))))))))) (we (Aa z1.1 1) (fun z23=>wi z23 (fun z24=>Ah z24 (wg (Aa z1.1 1) (fun z25=>wc z25 (fun z26=>Ac (Ad (.bin .eql .num true (.c z26) (.c (.int .i64 1)))) (fun z27=>some z27)))) (some (.bool false))))))) (fun z28=>some (z28,z1.2))) (fun z29=>some (.inr z29))))) ([.int .i64 0,x0],e))):=by kernel_rfl

theorem run42 (B:KB) {E:Type} (h:Ay E) (dep:Nat) (e:E) (x0:PV) (x1:PV):AM (AL B (fun _=>.cl)) fn42 (.cl) h dep [.cv x0,.cv x1] e=Af (AZ [x0,x1,.int .i64 0]) (Bg (fun z1=>wc (Aa z1.1 0) (fun z2=>wo (Aa z1.1 2) z2 (fun z3=>Ah z3 (wr (Aa z1.1 0) (Aa z1.1 2) (fun z4=>wh z4 (fun z5=>Ac (Ad (.bin .eql .str false (.c z5) (.c (Aa z1.1 1)))) (fun z6=>Ah z6 (Ac (some (.bool true,z1.2)) (fun z7=>some (.inr z7))) (wj (Aa z1.1 2) (fun z8=>some (.inl ([Aa z1.1 0,Aa z1.1 1,z8],z1.2)))))))) (Ac (some (.bool false,z1.2)) (fun z9=>some (.inr z9)))))) ([x0,x1,.int .i64 0],e)):=by kernel_rfl

theorem run44 (B:KB) {E:Type} (h:Ay E) (dep:Nat) (e:E) (x0:PV) (x1:PV):AM (AL B (fun _=>.cl)) fn44 (.cl) h dep [.cv x0,.cv x1] e=wv B 20 [x0] (fun z1=>wi z1 (fun z2=>Ah z2 (some (.tup [.int .i64 0,.int .i64 102],e)) (ws x0 [126] (fun z3=>Ah z3 (wk x1 (fun z4=>Ah z4 (Ac (Ad (.bin .neq .num true (.c x1) (.c (.int .i64 1)))) (fun z5=>Ah z5 (some (.tup [.int .i64 0,.int .i64 102],e)) (ws x0 [45] (fun z6=>Ah z6 (wv B 104 [.int .i64 0,x1] (fun z7=>wa z7 (fun z8=>wb z7 (fun z9=>some (.tup [z8,z9],e))))) (ws x0 [195,151] (fun z10=>Ah z10 (Ac (Ad (.bin .gtr .num true (.c x1) (.c (.int .i64 0)))) (fun z11=>wv B 105 [z11] (fun z12=>wm x1 (fun z13=>wv B 105 [z13] (fun z14=>Ac (Ad (.bin .sub .num false (.c z12) (.c z14))) (fun z15=>some (.tup [z15,.int .i64 0],e))))))) (ws x0 [195,183] (fun z16=>Ah z16 (wv B 106 [.int .i64 1,x1] (fun z17=>wa z17 (fun z18=>wb z17 (fun z19=>some (.tup [z18,z19],e))))) (ws x0 [124] (fun z20=>Ah z20 (wm x1 (fun z21=>Ah z21 (wv B 104 [.int .i64 0,x1] (fun z22=>wa z22 (fun z23=>wb z22 (fun z24=>some (.tup [z23,z24],e))))) (some (.tup [x1,.int .i64 0],e)))) (ws x0 [126] (fun z25=>Ah z25 (Ac (Ad (.bin .sub .num true (.c (.int .i64 1)) (.c x1))) (fun z26=>some (.tup [z26,.int .i64 0],e))) (some (.tup [x1,.int .i64 0],e)))))))))))))) (ws x0 [45] (fun z27=>Ah z27 (wv B 104 [.int .i64 0,x1] (fun z28=>wa z28 (fun z29=>wb z28 (fun z30=>some (.tup [z29,z30],e))))) (ws x0 [195,151] (fun z31=>Ah z31 (Ac (Ad (.bin .gtr .num true (.c x1) (.c (.int .i64 0)))) (fun z32=>wv B 105 [z32] (fun z33=>wm x1 (fun z34=>wv B 105 [z34] (fun z35=>Ac (Ad (.bin .sub .num false (.c z33) (.c z35))) (fun z36=>some (.tup [z36,.int .i64 0],e))))))) (ws x0 [195,183] (fun z37=>Ah z37 (wv B 106 [.int .i64 1,x1] (fun z38=>wa z38 (fun z39=>wb z38 (fun z40=>some (.tup [z39,z40],e))))) (ws x0 [124] (fun z41=>Ah z41 (wm x1 (fun z42=>Ah z42 (wv B 104 [.int .i64 0,x1] (fun z43=>wa z43 (fun z44=>wb z43 (fun z45=>some (.tup [z44,z45],e))))) (some (.tup [x1,.int .i64 0],e)))) (ws x0 [126] (fun z46=>Ah z46 (Ac (Ad (.bin .sub .num true (.c (.int .i64 1)) (.c x1))) (fun z47=>some (.tup [z47,.int .i64 0],e))) (some (.tup [x1,.int .i64 0],e)))))))))))))) (ws x0 [45] (fun z48=>Ah z48 (wv B 104 [.int .i64 0,x1] (fun z49=>wa z49 (fun z50=>wb z49 (fun z51=>some (.tup [z50,z51],e))))) (ws x0 [195,151] (fun z52=>Ah z52 (Ac (Ad (.bin .gtr .num true (.c x1) (.c (.int .i64 0)))) (fun z53=>wv B 105 [z53] (fun z54=>wm x1 (fun z55=>wv B 105 [z55] (fun z56=>Ac (Ad (.bin .sub .num false (.c z54) (.c z56))) (fun z57=>some (.tup [z57,.int .i64 0],e))))))) (ws x0 [195,183] (fun z58=>Ah z58 (wv B 106 [.int .i64 1,x1] (fun z59=>wa z59 (fun z60=>wb z59 (fun z61=>some (.tup [z60,z61],e))))) (ws x0 [124] (fun z62=>Ah z62 (wm x1 (fun z63=>Ah z63 (wv B 104 [.int .i64 0,x1] (fun z64=>wa z64 (fun z65=>wb z64 (fun z66=>some (.tup [z65,z66],e))))) (some (.tup [x1,.int .i64 0],e)))) (ws x0 [126] (fun z67=>Ah z67 (Ac (Ad (.bin .sub .num true (.c (.int .i64 1)) (.c x1))) (fun z68=>some (.tup [z68,.int .i64 0],e))) (some (.tup [x1,.int .i64 0],e)))))))))))))))):=by kernel_rfl

theorem run45 (B:KB) {E:Type} (h:Ay E) (dep:Nat) (e:E) (x0:PV) (x1:PV) :
  AM (AL B (fun _=>.cl)) fn45 (.cl) h dep [.cv x0,.cv x1] e =
  Ac (Ad (.build [.bool false,.bool false,.nilS] [(0,(1,.c (.bool true))),(1,(1,.c x1)),(2,(1,.c x0))])) (fun z1=>Af (AA z1 3) (some (.agg [Ai z1 0,Ai
  z1 1,Ai z1 2],e))):=by kernel_rfl
theorem run46 (B:KB) {E:Type} (h:Ay E) (dep:Nat) (e:E) (x0:PV):AM (AL B (fun _=>.cl)) fn46 (.cl) h dep [.cv x0] e=Af (A1 x0) (wg x0 (fun z1=>wc z1 (fun z2=>Ac (Ad (.bin .neq .num true (.c z2) (.c (.int .i64 1)))) (fun z3=>Ah z3 (some (.tup [.agg [.bool false,.bool false,.nilS],.int .i64 111],e)) (wg x0 (fun z4=>wr z4 (.int .i64 0) (fun z5=>wh z5 (fun z6=>Ac (wf x0 (fun z7=>Ah z7 (some (.bool true)) (wm z6 (fun z8=>some z8)))) (fun z9=>Ah z9 (some (.tup [.agg [.bool false,.bool false,.nilS],.int .i64 102],e)) (Ac (Ad (.bin .gtr .num true (.c z6) (.c (.int .i64 200)))) (fun z10=>Ah z10 (some (.tup [.agg [.bool false,.bool false,.nilS],.int .i64 113],e)) (Af (AZ [z6,nI 0,.int .i64 1]) (Bg (fun z11=>Ac (Ad (.bin .leq .num false (.c (Aa z11.1 2)) (.c (Aa z11.1 0)))) (fun z12=>Ah z12 (Af (AT 1 [Aa z11.1 2]) (Af (Az (Av 0 (Ae [Aa z11.1 2])) (Ae [Aa z11.1 2])) (Af (Bi (Az (Al (Aa z11.1 1)) (Ae (Ap (Aa z11.1 6)))) (Az (Av (Al (Aa z11.1 1)) (Ae (As (Ae [Aa z11.1 2]) (AG 0 [Aa z11.1 2])))) 2147483648)) (wj (Aa z11.1 2) (fun z13=>some (.inl ([Aa z11.1 0,nI (Av (Al (Aa z11.1 1)) (Ae (As (Ae [Aa z11.1 2]) (AG 0 [Aa z11.1 2])))),z13,Aa z11.1 3,Aa z11.1 4,Aa z11.1 5,.sl 1 (A9 (As (Al (Aa z11.1 1)) (Ap (Aa z11.1 6))) (As (Ae [Aa z11.1 2]) (AG 0 [Aa z11.1 2]))) false],z11.2))))))) (Ac (Ac (A8 B .cl false 45 [AD 1 1 (Ap (Aa z11.1 6)) 0 (Al (Aa z11.1 1)),.bool false]) (fun z14=>Af (AA z14 3) (some (.tup [.agg [Ai z14 0,Ai z14 1,Ai z14 2],.int .i64 0],z11.2)))) (fun z15=>some (.inr z15))))) ([z6,nI 0,.int .i64 1,.bool false,.bool false,.nilS,.sl 1 [] false],e)))))))))))))):=by kernel_rfl

theorem run47 (B:KB) {E:Type} (h:Ay E) (dep:Nat) (e:E) (x0:PV) :
  AM (AL B (fun _=>.cl)) fn47 (.cl) h dep [.cv x0] e =
  Ah x0 (some (.int .i64 32,e)) (some (.int .i64 0,e)):=by kernel_rfl
theorem run48 (B:KB) {E:Type} (h:Ay E) (dep:Nat) (e:E) (x0:PV) :
  AM (AL B (fun _=>.cl)) fn48 (.cl) h dep [.cv x0] e =
  Af (AT 1 [x0]) (Af (Bh (.agg [.bool false,.bool false,AD 1 1 [x0] 0 (Ae [x0])])) (some (.agg [.bool false,.bool false,AD 1 1 [x0] 0 (Ae [x0])],e))):=by kernel_rfl
theorem run53 (B:KB) {E:Type} (h:Ay E) (dep:Nat) (e:E) (x0:PV) (x1:PV) (x2:PV) (x3:PV):AM (AL B (fun _=>.cl)) fn53 (.cl) h dep [.cv x0,.cv x1,.cv x2,.cv x3] e=wi x3 (fun z1=>Ah z1 (wv B 118 [x0,.int .i64 0,.int .i64 1] (fun z2=>wa z2 (fun z3=>wb z2 (fun z4=>some (.tup [z3,z4],e))))) (wv B 118 [x0,x1,x2] (fun z5=>wa z5 (fun z6=>wb z5 (fun z7=>some (.tup [z6,z7],e)))))):=by kernel_rfl

theorem run54 (B:KB) {E:Type} (h:Ay E) (dep:Nat) (e:E) (x0:PV) (x1:PV):AM (AL B (fun _=>.cl)) fn54 (.cl) h dep [.cv x0,.cv x1] e=Af (A1 x0) (we x0 (fun z1=>wi z1 (fun z2=>Ah z2 (wg x0 (fun z3=>wr z3 (.int .i64 0) (fun z4=>wh z4 (fun z5=>some (z5,e))))) (wg x0 (fun z6=>wr z6 x1 (fun z7=>wh z7 (fun z8=>some (z8,e)))))))):=by kernel_rfl

theorem run55 (B:KB) {E:Type} (h:Ay E) (dep:Nat) (e:E) (x0:PV) (x1:PV) (x2:PV):AM (AL B (fun _=>.cl)) fn55 (.cl) h dep [.cv x0,.cv x1,.cv x2] e=Af (A1 x1) (Af (A1 x2) (wg x1 (fun z1=>wc z1 (fun z2=>Ac (Ad (.bin .neq .num true (.c z2) (.c (.int .i64 1)))) (fun z3=>Ah z3 (some (.tup [.agg [.bool false,.bool false,.nilS],.int .i64 111],e)) (wg x1 (fun z4=>wr z4 (.int .i64 0) (fun z5=>wh z5 (fun z6=>Ac (wf x1 (fun z7=>Ah z7 (some (.bool true)) (ws x0 [226,141,180] (fun z8=>Ah z8 (wm z6 (fun z9=>some z9)) (some (.bool false)))))) (fun z10=>Ah z10 (some (.tup [.agg [.bool false,.bool false,.nilS],.int .i64 102],e)) (Ac (ws x0 [226,141,180] (fun z11=>Ah z11 (Ac (Ad (.bin .gtr .num true (.c z6) (.c (.int .i64 200)))) (fun z12=>Ah z12 (some (.bool true)) (Ac (Ad (.bin .lss .num true (.c z6) (.c (.int .i64 (-200))))) (fun z13=>some z13)))) (ws x0 [226,134,145] (fun z14=>Ah z14 (Ac (Ad (.bin .gtr .num true (.c z6) (.c (.int .i64 200)))) (fun z15=>Ah z15 (some (.bool true)) (Ac (Ad (.bin .lss .num true (.c z6) (.c (.int .i64 (-200))))) (fun z16=>some z16)))) (some (.bool false)))))) (fun z17=>Ah z17 (some (.tup [.agg [.bool false,.bool false,.nilS],.int .i64 113],e)) (Ac (ws x0 [226,141,180] (fun z18=>Ah z18 (Ac (Ad (.bin .gtr .num true (.c z6) (.c (.int .i64 0)))) (fun z19=>Ah z19 (wg x2 (fun z20=>wc z20 (fun z21=>wl z21 (fun z22=>some z22)))) (some (.bool false)))) (some (.bool false)))) (fun z23=>Ah z23 (some (.tup [.agg [.bool false,.bool false,.nilS],.int .i64 110],e)) (ws x0 [226,141,180] (fun z24=>Ah z24 (wd x2 (fun z25=>wv B 119 [z6,z25] (fun z26=>Af (AA z26 3) (some (.tup [.agg [Ai z26 0,Ai z26 1,Ai z26 2],.int .i64 0],e))))) (ws x0 [226,140,189] (fun z27=>Ah z27 (wd x2 (fun z28=>wv B 120 [z6,z28] (fun z29=>Af (AA z29 3) (some (.tup [.agg [Ai z29 0,Ai z29 1,Ai z29 2],.int .i64 0],e))))) (ws x0 [226,134,145] (fun z30=>Ah z30 (wd x2 (fun z31=>wv B 121 [z6,z31] (fun z32=>Af (AA z32 3) (some (.tup [.agg [Ai z32 0,Ai z32 1,Ai z32 2],.int .i64 0],e))))) (wd x2 (fun z33=>wv B 122 [z6,z33] (fun z34=>Af (AA z34 3) (some (.tup [.agg [Ai z34 0,Ai z34 1,Ai z34 2],.int .i64 0],e))))))))))))))))))))))))):=by kernel_rfl

theorem run56 (B:KB) {E:Type} (h:Ay E) (dep:Nat) (e:E) (x0:PV) (x1:PV):AM (AL B (fun _=>.cl)) fn56 (.cl) h dep [.cv x0,.cv x1] e=Af (A1 x0) (Af (A1 x1) (we x1 (fun z1=>Ac (Ad (.build [.bool false,.bool false,.nilS] [(0,(1,.c z1))])) (fun z2=>Af (AA z2 3) (CO (Ai z2 2) (Af (AZ [.int .i64 0]) (Bg (fun z3=>wg (Aa z3.1 2) (fun z4=>wc z4 (fun z5=>wo (Aa z3.1 0) z5 (fun z6=>Ah z6 (Af (AZ [Aa z3.1 0,.int .i64 0]) (Bg (fun z7=>wg (Aa z7.1 2) (fun z8=>wc z8 (fun z9=>wo (Aa z7.1 1) z9 (fun z10=>Ah z10 (wg (Aa z7.1 2) (fun z11=>wr z11 (Aa z7.1 1) (fun z12=>wh z12 (fun z13=>wg (Aa z7.1 3) (fun z14=>wr z14 (Aa z7.1 0) (fun z15=>wh z15 (fun z16=>wt z13 z16 (fun z17=>Ah z17 (wj (Aa z7.1 1) (fun z18=>some (.inl ([Aa z7.1 0,z18,Aa z7.1 2,Aa z7.1 3,Aa z7.1 4,Aa z7.1 5,Aa z7.1 6,Aa z7.1 7,Aa z7.1 8,nI (Al (Aa z7.1 9)),.sl 1 (Ap (Aa z7.1 10)) false],z7.2)))) (wf (Aa z7.1 2) (fun z19=>wf (Aa z7.1 3) (fun z20=>Ac (Ad (.bin .neq .bool false (.c z19) (.c z20))) (fun z21=>Ah z21 (wj (Aa z7.1 1) (fun z22=>some (.inl ([Aa z7.1 0,z22,Aa z7.1 2,Aa z7.1 3,Aa z7.1 4,Aa z7.1 5,Aa z7.1 6,Aa z7.1 7,Aa z7.1 8,nI (Al (Aa z7.1 9)),.sl 1 (Ap (Aa z7.1 10)) false],z7.2)))) (Ac (wj (Aa z7.1 1) (fun z23=>Af (AT 1 [z23]) (Af (Az (Av 0 (Ae [z23])) (Ae [z23])) (Af (Bi (Az (Al (Aa z7.1 9)) (Ae (Ap (Aa z7.1 10)))) (Az (Av (Al (Aa z7.1 9)) (Ae (As (Ae [z23]) (AG 0 [z23])))) 2147483648)) (wj (Aa z7.1 0) (fun z24=>some (.inl ([z24,Aa z7.1 2,Aa z7.1 3,Aa z7.1 4,Aa z7.1 5,Aa z7.1 6,Aa z7.1 7,Aa z7.1 8,nI (Av (Al (Aa z7.1 9)) (Ae (As (Ae [z23]) (AG 0 [z23])))),.sl 1 (A9 (As (Al (Aa z7.1 9)) (Ap (Aa z7.1 10))) (As (Ae [z23]) (AG 0 [z23]))) false],z7.2)))))))) (fun z25=>some (.inr z25))))))))))))))) (Ac (wj (Aa z7.1 1) (fun z26=>Af (AT 1 [z26]) (Af (Az (Av 0 (Ae [z26])) (Ae [z26])) (Af (Bi (Az (Al (Aa z7.1 9)) (Ae (Ap (Aa z7.1 10)))) (Az (Av (Al (Aa z7.1 9)) (Ae (As (Ae [z26]) (AG 0 [z26])))) 2147483648)) (wj (Aa z7.1 0) (fun z27=>some (.inl ([z27,Aa z7.1 2,Aa z7.1 3,Aa z7.1 4,Aa z7.1 5,Aa z7.1 6,Aa z7.1 7,Aa z7.1 8,nI (Av (Al (Aa z7.1 9)) (Ae (As (Ae [z26]) (AG 0 [z26])))),.sl 1 (A9 (As (Al (Aa z7.1 9)) (Ap (Aa z7.1 10))) (As (Ae [z26]) (AG 0 [z26]))) false],z7.2)))))))) (fun z28=>some (.inr z28))))))) ([Aa z3.1 0,.int .i64 0,Aa z3.1 1,Aa z3.1 2,Aa z3.1 3,Aa z3.1 4,Aa z3.1 5,Aa z3.1 6,Aa z3.1 7,nI (Al (Aa z3.1 8)),.sl 1 (Ap (Aa z3.1 9)) false],z3.2))) (Ac (Af (Bh (.agg [Aa z3.1 6,Aa z3.1 7,AD 1 1 (Ap (Aa z3.1 9)) 0 (Al (Aa z3.1 8))])) (some (.agg [Aa z3.1 6,Aa z3.1 7,AD 1 1 (Ap (Aa z3.1 9)) 0 (Al (Aa z3.1 8))],z3.2))) (fun z29=>some (.inr z29))))))) ([.int .i64 0,x0,x1,.bool false,.bool false,.nilS,Ai z2 0,Ai z2 1,nI 0,.sl 1 [] false],e)))))))):=by kernel_rfl

theorem run57 (B:KB) {E:Type} (h:Ay E) (dep:Nat) (e:E) (x0:PV) (x1:PV):AM (AL B (fun _=>.cl)) fn57 (.cl) h dep [.cv x0,.cv x1] e=Af (A1 x0) (Af (A1 x1) (Ac (wg x0 (fun z1=>wc z1 (fun z2=>Ac (Ad (.bin .gtr .num true (.c z2) (.c (.int .i64 0)))) (fun z3=>Ah z3 (wg x1 (fun z4=>wc z4 (fun z5=>Ac (Ad (.bin .gtr .num true (.c z5) (.c (.int .i64 0)))) (fun z6=>Ah z6 (wf x0 (fun z7=>wf x1 (fun z8=>Ac (Ad (.bin .neq .bool false (.c z7) (.c z8))) (fun z9=>some z9)))) (some (.bool false)))))) (some (.bool false)))))) (fun z10=>Ah z10 (some (.tup [.agg [.bool false,.bool false,.nilS],.int .i64 102],e)) (wg x0 (fun z11=>wc z11 (fun z12=>wg x1 (fun z13=>wc z13 (fun z14=>wp z12 z14 (fun z15=>Ac (Ad (.bin .gtr .num true (.c z15) (.c (.int .i64 200)))) (fun z16=>Ah z16 (some (.tup [.agg [.bool false,.bool false,.nilS],.int .i64 113],e)) (wg x0 (fun z17=>Ac (IR 1 z17) (fun z18=>Af (Az (Ae z18) 2147483648) (wg x1 (fun z19=>Ac (IR 1 z19) (fun z20=>Af (Bi (Az (Ae z18) (Ae z18)) (Az (Av (Ae z18) (Ae z20)) 2147483648)) (wf x0 (fun z21=>Ah z21 (wg x0 (fun z22=>wc z22 (fun z23=>Ac (Ad (.bin .gtr .num true (.c z23) (.c (.int .i64 0)))) (fun z24=>Ah z24 (Ac (A8 B .cl false 45 [AD 1 1 (A9 (As (Ae z18) z18) z20) 0 (Av (Ae z18) (Ae z20)),.bool true]) (fun z25=>Af (AA z25 3) (some (.tup [.agg [Ai z25 0,Ai z25 1,Ai z25 2],.int .i64 0],e)))) (wf x1 (fun z26=>Ah z26 (wg x1 (fun z27=>wc z27 (fun z28=>Ac (Ad (.bin .gtr .num true (.c z28) (.c (.int .i64 0)))) (fun z29=>Ah z29 (Ac (A8 B .cl false 45 [AD 1 1 (A9 (As (Ae z18) z18) z20) 0 (Av (Ae z18) (Ae z20)),.bool true]) (fun z30=>Af (AA z30 3) (some (.tup [.agg [Ai z30 0,Ai z30 1,Ai z30 2],.int .i64 0],e)))) (wf x0 (fun z31=>Ah z31 (wf x1 (fun z32=>Ac (A8 B .cl false 45 [AD 1 1 (A9 (As (Ae z18) z18) z20) 0 (Av (Ae z18) (Ae z20)),z32]) (fun z33=>Af (AA z33 3) (some (.tup [.agg [Ai z33 0,Ai z33 1,Ai z33 2],.int .i64 0],e))))) (Ac (A8 B .cl false 45 [AD 1 1 (A9 (As (Ae z18) z18) z20) 0 (Av (Ae z18) (Ae z20)),.bool false]) (fun z34=>Af (AA z34 3) (some (.tup [.agg [Ai z34 0,Ai z34 1,Ai z34 2],.int .i64 0],e)))))))))) (wf x0 (fun z35=>Ah z35 (wf x1 (fun z36=>Ac (A8 B .cl false 45 [AD 1 1 (A9 (As (Ae z18) z18) z20) 0 (Av (Ae z18) (Ae z20)),z36]) (fun z37=>Af (AA z37 3) (some (.tup [.agg [Ai z37 0,Ai z37 1,Ai z37 2],.int .i64 0],e))))) (Ac (A8 B .cl false 45 [AD 1 1 (A9 (As (Ae z18) z18) z20) 0 (Av (Ae z18) (Ae z20)),.bool false]) (fun z38=>Af (AA z38 3) (some (.tup [.agg [Ai z38 0,Ai z38 1,Ai z38 2],.int .i64 0],e)))))))))))) (wf x1 (fun z39=>Ah z39 (wg x1 (fun z40=>wc z40 (fun z41=>Ac (Ad (.bin .gtr .num true (.c z41) (.c (.int .i64 0)))) (fun z42=>Ah z42 (Ac (A8 B .cl false 45 [AD 1 1 (A9 (As (Ae z18) z18) z20) 0 (Av (Ae z18) (Ae z20)),.bool true]) (fun z43=>Af (AA z43 3) (some (.tup [.agg [Ai z43 0,Ai z43 1,Ai z43 2],.int .i64 0],e)))) (wf x0 (fun z44=>Ah z44 (wf x1 (fun z45=>Ac (A8 B .cl false 45 [AD 1 1 (A9 (As (Ae z18) z18) z20) 0 (Av (Ae z18) (Ae z20)),z45]) (fun z46=>Af (AA z46 3) (some (.tup [.agg [Ai z46 0,Ai z46 1,Ai z46 2],.int .i64 0],e))))) (Ac (A8 B .cl false 45 [AD 1 1 (A9 (As (Ae z18) z18) z20) 0 (Av (Ae z18) (Ae z20)),.bool false]) (fun z47=>Af (AA z47 3) (some (.tup [.agg [Ai z47 0,Ai z47 1,Ai z47 2],.int .i64 0],e)))))))))) (wf x0 (fun z48=>Ah z48 (wf x1 (fun z49=>Ac (A8 B .cl false 45 [AD 1 1 (A9 (As (Ae z18) z18) z20) 0 (Av (Ae z18) (Ae z20)),z49]) (fun z50=>Af (AA z50 3) (some (.tup [.agg [Ai z50 0,Ai z50 1,Ai z50 2],.int .i64 0],e))))) (Ac (A8 B .cl false 45 [AD 1 1 (A9 (As (Ae z18) z18) z20) 0 (Av (Ae z18) (Ae z20)),.bool false]) (fun z51=>Af (AA z51 3) (some (.tup [.agg [Ai z51 0,Ai z51 1,Ai z51 2],.int .i64 0],e)))))))))))))))))))))))))):=by kernel_rfl

theorem run103 (B:KB) {E:Type} (h:Ay E) (dep:Nat) (e:E) (x0:PV) :
  AM (AL B (fun _=>.cl)) fn103 (.cl) h dep [.cv x0] e =
  Ac (Ac (Ad (.bin .geq .num true (.c x0) (.c (.int .i64 0)))) (fun z1=>Ah z1 (Ac (Ad (.bin .leq .num true (.c x0) (.c (.int .i64 1114111)))) (fun z2=>Ah z2
  (Ac (Ad (.bin .lss .num true (.c x0) (.c (.int .i64 55296)))) (fun z3=>Ah z3 (some (.bool true)) (Ac (Ad (.bin .gtr .num true (.c x0) (.c (.int .i64 57343)))) (fun
  z4=>some z4)))) (some (.bool false)))) (some (.bool false)))) (fun z5=>some (z5,e)):=by kernel_rfl
theorem run104 (B:KB) {E:Type} (h:Ay E) (dep:Nat) (e:E) (x0:PV) (x1:PV):AM (AL B (fun _=>.cl)) fn104 (.cl) h dep [.cv x0,.cv x1] e=Ac (Ad (.bin .sub .num false (.c x0) (.c x1))) (fun z1=>Ac (Ac (Ad (.bin .geq .num true (.c x0) (.c (.int .i64 0)))) (fun z2=>Ah z2 (wm x1 (fun z3=>Ah z3 (wm z1 (fun z4=>Ah z4 (some (.bool true)) (wm x0 (fun z5=>Ah z5 (Ac (Ad (.bin .gtr .num true (.c x1) (.c (.int .i64 0)))) (fun z6=>Ah z6 (Ac (Ad (.bin .geq .num true (.c z1) (.c (.int .i64 0)))) (fun z7=>some z7)) (some (.bool false)))) (some (.bool false)))))) (wm x0 (fun z8=>Ah z8 (Ac (Ad (.bin .gtr .num true (.c x1) (.c (.int .i64 0)))) (fun z9=>Ah z9 (Ac (Ad (.bin .geq .num true (.c z1) (.c (.int .i64 0)))) (fun z10=>some z10)) (some (.bool false)))) (some (.bool false)))))) (wm x0 (fun z11=>Ah z11 (Ac (Ad (.bin .gtr .num true (.c x1) (.c (.int .i64 0)))) (fun z12=>Ah z12 (Ac (Ad (.bin .geq .num true (.c z1) (.c (.int .i64 0)))) (fun z13=>some z13)) (some (.bool false)))) (some (.bool false)))))) (fun z14=>Ah z14 (some (.tup [.int .i64 0,.int .i64 100],e)) (some (.tup [z1,.int .i64 0],e)))):=by kernel_rfl

theorem run105 (B:KB) {E:Type} (h:Ay E) (dep:Nat) (e:E) (x0:PV) :
  AM (AL B (fun _=>.cl)) fn105 (.cl) h dep [.cv x0] e =
  Ah x0 (some (.int .i64 1,e)) (some (.int .i64 0,e)):=by kernel_rfl
theorem run106 (B:KB) {E:Type} (h:Ay E) (dep:Nat) (e:E) (x0:PV) (x1:PV):AM (AL B (fun _=>.cl)) fn106 (.cl) h dep [.cv x0,.cv x1] e=Ac (wl x1 (fun z1=>Ah z1 (wl x0 (fun z2=>some z2)) (some (.bool false)))) (fun z3=>Ah z3 (some (.tup [.int .i64 1,.int .i64 0],e)) (wl x1 (fun z4=>Ah z4 (some (.tup [.int .i64 0,.int .i64 101],e)) (wv B 150 [] (fun z5=>wq x0 z5 (fun z6=>Ah z6 (Ac (Ad (.bin .eql .num true (.c x1) (.c (.int .i64 (-1))))) (fun z7=>Ah z7 (some (.tup [.int .i64 0,.int .i64 100],e)) (Ac (Ad (.bin .rem .num false (.c x0) (.c x1))) (fun z8=>wk z8 (fun z9=>Ah z9 (some (.tup [.int .i64 0,.int .i64 101],e)) (Ac (Ad (.bin .quo .num false (.c x0) (.c x1))) (fun z10=>some (.tup [z10,.int .i64 0],e)))))))) (Ac (Ad (.bin .rem .num false (.c x0) (.c x1))) (fun z11=>wk z11 (fun z12=>Ah z12 (some (.tup [.int .i64 0,.int .i64 101],e)) (Ac (Ad (.bin .quo .num false (.c x0) (.c x1))) (fun z13=>some (.tup [z13,.int .i64 0],e)))))))))))):=by kernel_rfl

theorem run118 (B:KB) {E:Type} (h:Ay E) (dep:Nat) (e:E) (x0:PV) (x1:PV) (x2:PV):AM (AL B (fun _=>.cl)) fn118 (.cl) h dep [.cv x0,.cv x1,.cv x2] e=wv B 26 [x0] (fun z1=>wi z1 (fun z2=>Ah z2 (some (.tup [.int .i64 0,.int .i64 102],e)) (Ac (Ac (Ad (.bin .geq .num true (.c x1) (.c (.int .i64 0)))) (fun z3=>Ah z3 (Ac (Ad (.bin .leq .num true (.c x1) (.c (.int .i64 1)))) (fun z4=>Ah z4 (Ac (Ad (.bin .geq .num true (.c x2) (.c (.int .i64 0)))) (fun z5=>Ah z5 (Ac (Ad (.bin .leq .num true (.c x2) (.c (.int .i64 1)))) (fun z6=>some z6)) (some (.bool false)))) (some (.bool false)))) (some (.bool false)))) (fun z7=>ws x0 [43] (fun z8=>Ah z8 (wv B 153 [x1,x2] (fun z9=>wa z9 (fun z10=>wb z9 (fun z11=>some (.tup [z10,z11],e))))) (ws x0 [45] (fun z12=>Ah z12 (wv B 104 [x1,x2] (fun z13=>wa z13 (fun z14=>wb z13 (fun z15=>some (.tup [z14,z15],e))))) (ws x0 [195,151] (fun z16=>Ah z16 (wv B 154 [x1,x2] (fun z17=>wa z17 (fun z18=>wb z17 (fun z19=>some (.tup [z18,z19],e))))) (ws x0 [195,183] (fun z20=>Ah z20 (wv B 106 [x1,x2] (fun z21=>wa z21 (fun z22=>wb z21 (fun z23=>some (.tup [z22,z23],e))))) (ws x0 [226,140,136] (fun z24=>Ah z24 (Ac (Ad (.minmax true [.c x1,.c x2])) (fun z25=>some (.tup [z25,.int .i64 0],e))) (ws x0 [226,140,138] (fun z26=>Ah z26 (Ac (Ad (.minmax false [.c x1,.c x2])) (fun z27=>some (.tup [z27,.int .i64 0],e))) (ws x0 [124] (fun z28=>Ah z28 (wv B 155 [x1,x2] (fun z29=>some (.tup [z29,.int .i64 0],e))) (ws x0 [226,136,167] (fun z30=>Ah z30 (Ah z30 (wi z7 (fun z31=>Ah z31 (some (.tup [.int .i64 0,.int .i64 102],e)) (ws x0 [226,136,167] (fun z32=>Ah z32 (Ac (Ad (.minmax false [.c x1,.c x2])) (fun z33=>some (.tup [z33,.int .i64 0],e))) (Ac (Ad (.minmax true [.c x1,.c x2])) (fun z34=>some (.tup [z34,.int .i64 0],e))))))) (wv B 156 [x0,x1,x2] (fun z35=>some (.tup [z35,.int .i64 0],e)))) (ws x0 [226,136,168] (fun z36=>Ah z36 (wi z7 (fun z37=>Ah z37 (some (.tup [.int .i64 0,.int .i64 102],e)) (ws x0 [226,136,167] (fun z38=>Ah z38 (Ac (Ad (.minmax false [.c x1,.c x2])) (fun z39=>some (.tup [z39,.int .i64 0],e))) (Ac (Ad (.minmax true [.c x1,.c x2])) (fun z40=>some (.tup [z40,.int .i64 0],e))))))) (wv B 156 [x0,x1,x2] (fun z41=>some (.tup [z41,.int .i64 0],e)))))))))))))))))))))))):=by kernel_rfl

theorem run119 (B:KB) {E:Type} (h:Ay E) (dep:Nat) (e:E) (x0:PV) (x1:PV):AM (AL B (fun _=>.cl)) fn119 (.cl) h dep [.cv x0,.cv x1] e=Af (A1 x1) (Af (AZ [x0,nI 0,.int .i64 0]) (Bg (fun z1=>wo (Aa z1.1 2) (Aa z1.1 0) (fun z2=>Ah z2 (wg (Aa z1.1 3) (fun z3=>wg (Aa z1.1 3) (fun z4=>wc z4 (fun z5=>Ac (Ad (.bin .rem .num false (.c (Aa z1.1 2)) (.c z5))) (fun z6=>wr z3 z6 (fun z7=>wh z7 (fun z8=>Af (AT 1 [z8]) (Af (Az (Av 0 (Ae [z8])) (Ae [z8])) (Af (Bi (Az (Al (Aa z1.1 1)) (Ae (Ap (Aa z1.1 7)))) (Az (Av (Al (Aa z1.1 1)) (Ae (As (Ae [z8]) (AG 0 [z8])))) 2147483648)) (wj (Aa z1.1 2) (fun z9=>some (.inl ([Aa z1.1 0,nI (Av (Al (Aa z1.1 1)) (Ae (As (Ae [z8]) (AG 0 [z8])))),z9,Aa z1.1 3,Aa z1.1 4,Aa z1.1 5,Aa z1.1 6,.sl 1 (A9 (As (Al (Aa z1.1 1)) (Ap (Aa z1.1 7))) (As (Ae [z8]) (AG 0 [z8]))) false],z1.2))))))))))))) (Ac (wf (Aa z1.1 3) (fun z10=>Ac (A8 B .cl false 45 [AD 1 1 (Ap (Aa z1.1 7)) 0 (Al (Aa z1.1 1)),z10]) (fun z11=>Af (AA z11 3) (some (.agg [Ai z11 0,Ai z11 1,Ai z11 2],z1.2))))) (fun z12=>some (.inr z12))))) ([x0,nI 0,.int .i64 0,x1,.bool false,.bool false,.nilS,.sl 1 [] false],e))):=by kernel_rfl

theorem run120 (B:KB) {E:Type} (h:Ay E) (dep:Nat) (e:E) (x0:PV) (x1:PV):AM (AL B (fun _=>.cl)) fn120 (.cl) h dep [.cv x0,.cv x1] e=Af (A1 x1) (wg x1 (fun z1=>wc z1 (fun z2=>Af (AZ [x0,nI 0,z2,.int .i64 0]) (Bg (fun z3=>wo (Aa z3.1 3) (Aa z3.1 2) (fun z4=>Ah z4 (wg (Aa z3.1 4) (fun z5=>Ac (Ad (.bin .rem .num false (.c (Aa z3.1 0)) (.c (Aa z3.1 2)))) (fun z6=>wp z6 (Aa z3.1 3) (fun z7=>Ac (Ad (.bin .rem .num false (.c z7) (.c (Aa z3.1 2)))) (fun z8=>wp z8 (Aa z3.1 2) (fun z9=>Ac (Ad (.bin .rem .num false (.c z9) (.c (Aa z3.1 2)))) (fun z10=>wr z5 z10 (fun z11=>wh z11 (fun z12=>Af (AT 1 [z12]) (Af (Az (Av 0 (Ae [z12])) (Ae [z12])) (Af (Bi (Az (Al (Aa z3.1 1)) (Ae (Ap (Aa z3.1 8)))) (Az (Av (Al (Aa z3.1 1)) (Ae (As (Ae [z12]) (AG 0 [z12])))) 2147483648)) (wj (Aa z3.1 3) (fun z13=>some (.inl ([Aa z3.1 0,nI (Av (Al (Aa z3.1 1)) (Ae (As (Ae [z12]) (AG 0 [z12])))),Aa z3.1 2,z13,Aa z3.1 4,Aa z3.1 5,Aa z3.1 6,Aa z3.1 7,.sl 1 (A9 (As (Al (Aa z3.1 1)) (Ap (Aa z3.1 8))) (As (Ae [z12]) (AG 0 [z12]))) false],z3.2))))))))))))))) (Ac (we (Aa z3.1 4) (fun z14=>wf (Aa z3.1 4) (fun z15=>Af (AA z14 1) (Af (AA z15 1) (Af (Bh (.agg [Ai z14 0,Ai z15 0,AD 1 1 (Ap (Aa z3.1 8)) 0 (Al (Aa z3.1 1))])) (some (.agg [Ai z14 0,Ai z15 0,AD 1 1 (Ap (Aa z3.1 8)) 0 (Al (Aa z3.1 1))],z3.2))))))) (fun z16=>some (.inr z16))))) ([x0,nI 0,z2,.int .i64 0,x1,.bool false,.bool false,.nilS,.sl 1 [] false],e))))):=by kernel_rfl

theorem run121 (B:KB) {E:Type} (h:Ay E) (dep:Nat) (e:E) (x0:PV) (x1:PV):AM (AL B (fun _=>.cl)) fn121 (.cl) h dep [.cv x0,.cv x1] e=Af (A1 x1) (wm x0 (fun z1=>Ah z1 (wg x1 (fun z2=>wc z2 (fun z3=>wp z3 x0 (fun z4=>Ac (Ad (.un .neg (.c x0))) (fun z5=>Af (AZ [z5,nI 0,z4,z4]) (Bg (fun z6=>wp (Aa z6.1 2) (Aa z6.1 0) (fun z7=>wo (Aa z6.1 3) z7 (fun z8=>Ah z8 (Ac (wm (Aa z6.1 3) (fun z9=>Ah z9 (some (.bool true)) (wg (Aa z6.1 4) (fun z10=>wc z10 (fun z11=>Ac (Ad (.bin .geq .num false (.c (Aa z6.1 3)) (.c z11))) (fun z12=>some z12)))))) (fun z13=>Ah z13 (wf (Aa z6.1 4) (fun z14=>wv B 47 [z14] (fun z15=>Af (AT 1 [z15]) (Af (Az (Av 0 (Ae [z15])) (Ae [z15])) (Af (Bi (Az (Al (Aa z6.1 1)) (Ae (Ap (Aa z6.1 8)))) (Az (Av (Al (Aa z6.1 1)) (Ae (As (Ae [z15]) (AG 0 [z15])))) 2147483648)) (wj (Aa z6.1 3) (fun z16=>some (.inl ([Aa z6.1 0,nI (Av (Al (Aa z6.1 1)) (Ae (As (Ae [z15]) (AG 0 [z15])))),Aa z6.1 2,z16,Aa z6.1 4,Aa z6.1 5,Aa z6.1 6,Aa z6.1 7,.sl 1 (A9 (As (Al (Aa z6.1 1)) (Ap (Aa z6.1 8))) (As (Ae [z15]) (AG 0 [z15]))) false],z6.2))))))))) (wg (Aa z6.1 4) (fun z17=>wr z17 (Aa z6.1 3) (fun z18=>wh z18 (fun z19=>Af (AT 1 [z19]) (Af (Az (Av 0 (Ae [z19])) (Ae [z19])) (Af (Bi (Az (Al (Aa z6.1 1)) (Ae (Ap (Aa z6.1 8)))) (Az (Av (Al (Aa z6.1 1)) (Ae (As (Ae [z19]) (AG 0 [z19])))) 2147483648)) (wj (Aa z6.1 3) (fun z20=>some (.inl ([Aa z6.1 0,nI (Av (Al (Aa z6.1 1)) (Ae (As (Ae [z19]) (AG 0 [z19])))),Aa z6.1 2,z20,Aa z6.1 4,Aa z6.1 5,Aa z6.1 6,Aa z6.1 7,.sl 1 (A9 (As (Al (Aa z6.1 1)) (Ap (Aa z6.1 8))) (As (Ae [z19]) (AG 0 [z19]))) false],z6.2)))))))))))) (Ac (wf (Aa z6.1 4) (fun z21=>Ac (A8 B .cl false 45 [AD 1 1 (Ap (Aa z6.1 8)) 0 (Al (Aa z6.1 1)),z21]) (fun z22=>Af (AA z22 3) (some (.agg [Ai z22 0,Ai z22 1,Ai z22 2],z6.2))))) (fun z23=>some (.inr z23)))))) ([z5,nI 0,z4,z4,x1,.bool false,.bool false,.nilS,.sl 1 [] false],e))))))) (Af (AZ [x0,nI 0,.int .i64 0,.int .i64 0]) (Bg (fun z24=>wp (Aa z24.1 2) (Aa z24.1 0) (fun z25=>wo (Aa z24.1 3) z25 (fun z26=>Ah z26 (Ac (wm (Aa z24.1 3) (fun z27=>Ah z27 (some (.bool true)) (wg (Aa z24.1 4) (fun z28=>wc z28 (fun z29=>Ac (Ad (.bin .geq .num false (.c (Aa z24.1 3)) (.c z29))) (fun z30=>some z30)))))) (fun z31=>Ah z31 (wf (Aa z24.1 4) (fun z32=>wv B 47 [z32] (fun z33=>Af (AT 1 [z33]) (Af (Az (Av 0 (Ae [z33])) (Ae [z33])) (Af (Bi (Az (Al (Aa z24.1 1)) (Ae (Ap (Aa z24.1 8)))) (Az (Av (Al (Aa z24.1 1)) (Ae (As (Ae [z33]) (AG 0 [z33])))) 2147483648)) (wj (Aa z24.1 3) (fun z34=>some (.inl ([Aa z24.1 0,nI (Av (Al (Aa z24.1 1)) (Ae (As (Ae [z33]) (AG 0 [z33])))),Aa z24.1 2,z34,Aa z24.1 4,Aa z24.1 5,Aa z24.1 6,Aa z24.1 7,.sl 1 (A9 (As (Al (Aa z24.1 1)) (Ap (Aa z24.1 8))) (As (Ae [z33]) (AG 0 [z33]))) false],z24.2))))))))) (wg (Aa z24.1 4) (fun z35=>wr z35 (Aa z24.1 3) (fun z36=>wh z36 (fun z37=>Af (AT 1 [z37]) (Af (Az (Av 0 (Ae [z37])) (Ae [z37])) (Af (Bi (Az (Al (Aa z24.1 1)) (Ae (Ap (Aa z24.1 8)))) (Az (Av (Al (Aa z24.1 1)) (Ae (As (Ae [z37]) (AG 0 [z37])))) 2147483648)) (wj (Aa z24.1 3) (fun z38=>some (.inl ([Aa z24.1 0,nI (Av (Al (Aa z24.1 1)) (Ae (As (Ae [z37]) (AG 0 [z37])))),Aa z24.1 2,z38,Aa z24.1 4,Aa z24.1 5,Aa z24.1 6,Aa z24.1 7,.sl 1 (A9 (As (Al (Aa z24.1 1)) (Ap (Aa z24.1 8))) (As (Ae [z37]) (AG 0 [z37]))) false],z24.2)))))))))))) (Ac (wf (Aa z24.1 4) (fun z39=>Ac (A8 B .cl false 45 [AD 1 1 (Ap (Aa z24.1 8)) 0 (Al (Aa z24.1 1)),z39]) (fun z40=>Af (AA z40 3) (some (.agg [Ai z40 0,Ai z40 1,Ai z40 2],z24.2))))) (fun z41=>some (.inr z41)))))) ([x0,nI 0,.int .i64 0,.int .i64 0,x1,.bool false,.bool false,.nilS,.sl 1 [] false],e))))):=by kernel_rfl

theorem run122 (B:KB) {E:Type} (h:Ay E) (dep:Nat) (e:E) (x0:PV) (x1:PV):AM (AL B (fun _=>.cl)) fn122 (.cl) h dep [.cv x0,.cv x1] e=Af (A1 x1) (wg x1 (fun z1=>wc z1 (fun z2=>Af (AZ [x0,nI 0,z2,.int .i64 0]) (Bg (fun z3=>wo (Aa z3.1 3) (Aa z3.1 2) (fun z4=>Ah z4 (Ac (Ac (Ad (.bin .geq .num true (.c (Aa z3.1 0)) (.c (.int .i64 0)))) (fun z5=>Ah z5 (Ac (Ad (.bin .geq .num false (.c (Aa z3.1 3)) (.c (Aa z3.1 0)))) (fun z6=>Ah z6 (some (.bool true)) (wm (Aa z3.1 0) (fun z7=>Ah z7 (Ac (Ad (.bin .sub .num false (.c (Aa z3.1 3)) (.c (Aa z3.1 2)))) (fun z8=>wo z8 (Aa z3.1 0) (fun z9=>some z9))) (some (.bool false)))))) (wm (Aa z3.1 0) (fun z10=>Ah z10 (Ac (Ad (.bin .sub .num false (.c (Aa z3.1 3)) (.c (Aa z3.1 2)))) (fun z11=>wo z11 (Aa z3.1 0) (fun z12=>some z12))) (some (.bool false)))))) (fun z13=>Ah z13 (wg (Aa z3.1 4) (fun z14=>wr z14 (Aa z3.1 3) (fun z15=>wh z15 (fun z16=>Af (AT 1 [z16]) (Af (Az (Av 0 (Ae [z16])) (Ae [z16])) (Af (Bi (Az (Al (Aa z3.1 1)) (Ae (Ap (Aa z3.1 8)))) (Az (Av (Al (Aa z3.1 1)) (Ae (As (Ae [z16]) (AG 0 [z16])))) 2147483648)) (wj (Aa z3.1 3) (fun z17=>some (.inl ([Aa z3.1 0,nI (Av (Al (Aa z3.1 1)) (Ae (As (Ae [z16]) (AG 0 [z16])))),Aa z3.1 2,z17,Aa z3.1 4,Aa z3.1 5,Aa z3.1 6,Aa z3.1 7,.sl 1 (A9 (As (Al (Aa z3.1 1)) (Ap (Aa z3.1 8))) (As (Ae [z16]) (AG 0 [z16]))) false],z3.2)))))))))) (wj (Aa z3.1 3) (fun z18=>some (.inl ([Aa z3.1 0,nI (Al (Aa z3.1 1)),Aa z3.1 2,z18,Aa z3.1 4,Aa z3.1 5,Aa z3.1 6,Aa z3.1 7,.sl 1 (Ap (Aa z3.1 8)) false],z3.2)))))) (Ac (wf (Aa z3.1 4) (fun z19=>Ac (A8 B .cl false 45 [AD 1 1 (Ap (Aa z3.1 8)) 0 (Al (Aa z3.1 1)),z19]) (fun z20=>Af (AA z20 3) (some (.agg [Ai z20 0,Ai z20 1,Ai z20 2],z3.2))))) (fun z21=>some (.inr z21))))) ([x0,nI 0,z2,.int .i64 0,x1,.bool false,.bool false,.nilS,.sl 1 [] false],e))))):=by kernel_rfl

theorem run150 (B:KB) {E:Type} (h:Ay E) (dep:Nat) (e:E)  :
  AM (AL B (fun _=>.cl)) fn150 (.cl) h dep [] e =
  some (.int .i64 (-9223372036854775808),e):=by kernel_rfl
theorem run153 (B:KB) {E:Type} (h:Ay E) (dep:Nat) (e:E) (x0:PV) (x1:PV):AM (AL B (fun _=>.cl)) fn153 (.cl) h dep [.cv x0,.cv x1] e=wp x0 x1 (fun z1=>Ac (Ac (Ad (.bin .gtr .num true (.c x0) (.c (.int .i64 0)))) (fun z2=>Ah z2 (Ac (Ad (.bin .gtr .num true (.c x1) (.c (.int .i64 0)))) (fun z3=>Ah z3 (wm z1 (fun z4=>Ah z4 (some (.bool true)) (wm x0 (fun z5=>Ah z5 (wm x1 (fun z6=>Ah z6 (Ac (Ad (.bin .geq .num true (.c z1) (.c (.int .i64 0)))) (fun z7=>some z7)) (some (.bool false)))) (some (.bool false)))))) (wm x0 (fun z8=>Ah z8 (wm x1 (fun z9=>Ah z9 (Ac (Ad (.bin .geq .num true (.c z1) (.c (.int .i64 0)))) (fun z10=>some z10)) (some (.bool false)))) (some (.bool false)))))) (wm x0 (fun z11=>Ah z11 (wm x1 (fun z12=>Ah z12 (Ac (Ad (.bin .geq .num true (.c z1) (.c (.int .i64 0)))) (fun z13=>some z13)) (some (.bool false)))) (some (.bool false)))))) (fun z14=>Ah z14 (some (.tup [.int .i64 0,.int .i64 100],e)) (some (.tup [z1,.int .i64 0],e)))):=by kernel_rfl

theorem run154 (B:KB) {E:Type} (h:Ay E) (dep:Nat) (e:E) (x0:PV) (x1:PV):AM (AL B (fun _=>.cl)) fn154 (.cl) h dep [.cv x0,.cv x1] e=Ac (wl x0 (fun z1=>Ah z1 (some (.bool true)) (wl x1 (fun z2=>some z2)))) (fun z3=>Ah z3 (some (.tup [.int .i64 0,.int .i64 0],e)) (wv B 150 [] (fun z4=>wq x0 z4 (fun z5=>Ah z5 (Ac (Ad (.bin .eql .num true (.c x1) (.c (.int .i64 (-1))))) (fun z6=>Ah z6 (some (.tup [.int .i64 0,.int .i64 100],e)) (wv B 150 [] (fun z7=>wq x1 z7 (fun z8=>Ah z8 (Ac (Ad (.bin .eql .num true (.c x0) (.c (.int .i64 (-1))))) (fun z9=>Ah z9 (some (.tup [.int .i64 0,.int .i64 100],e)) (Ac (Ad (.bin .mul .num false (.c x0) (.c x1))) (fun z10=>Ac (Ad (.bin .quo .num false (.c z10) (.c x1))) (fun z11=>wt z11 x0 (fun z12=>Ah z12 (some (.tup [.int .i64 0,.int .i64 100],e)) (some (.tup [z10,.int .i64 0],e)))))))) (Ac (Ad (.bin .mul .num false (.c x0) (.c x1))) (fun z13=>Ac (Ad (.bin .quo .num false (.c z13) (.c x1))) (fun z14=>wt z14 x0 (fun z15=>Ah z15 (some (.tup [.int .i64 0,.int .i64 100],e)) (some (.tup [z13,.int .i64 0],e))))))))))) (wv B 150 [] (fun z16=>wq x1 z16 (fun z17=>Ah z17 (Ac (Ad (.bin .eql .num true (.c x0) (.c (.int .i64 (-1))))) (fun z18=>Ah z18 (some (.tup [.int .i64 0,.int .i64 100],e)) (Ac (Ad (.bin .mul .num false (.c x0) (.c x1))) (fun z19=>Ac (Ad (.bin .quo .num false (.c z19) (.c x1))) (fun z20=>wt z20 x0 (fun z21=>Ah z21 (some (.tup [.int .i64 0,.int .i64 100],e)) (some (.tup [z19,.int .i64 0],e)))))))) (Ac (Ad (.bin .mul .num false (.c x0) (.c x1))) (fun z22=>Ac (Ad (.bin .quo .num false (.c z22) (.c x1))) (fun z23=>wt z23 x0 (fun z24=>Ah z24 (some (.tup [.int .i64 0,.int .i64 100],e)) (some (.tup [z22,.int .i64 0],e))))))))))))):=by kernel_rfl

theorem run155 (B:KB) {E:Type} (h:Ay E) (dep:Nat) (e:E) (x0:PV) (x1:PV):AM (AL B (fun _=>.cl)) fn155 (.cl) h dep [.cv x0,.cv x1] e=wl x0 (fun z1=>Ah z1 (some (x1,e)) (Ac (Ad (.bin .eql .num true (.c x0) (.c (.int .i64 (-1))))) (fun z2=>Ah z2 (some (.int .i64 0,e)) (Ac (Ad (.bin .rem .num false (.c x1) (.c x0))) (fun z3=>Ac (wk z3 (fun z4=>Ah z4 (wm z3 (fun z5=>wm x0 (fun z6=>Ac (Ad (.bin .neq .bool false (.c z5) (.c z6))) (fun z7=>some z7)))) (some (.bool false)))) (fun z8=>Ah z8 (wp z3 x0 (fun z9=>some (z9,e))) (some (z3,e)))))))):=by kernel_rfl

theorem Mi (B:KB) {E:Type} (h:Ay E) (dep:Nat) (e:E) (x0:PV) (x1:PV) (x2:PV):AM (AL B (fun _=>.cl)) fn156 (.cl) h dep [.cv x0,.cv x1,.cv x2] e=ws x0 [61] (fun z1=>Ah z1 (wq x1 x2 (fun z2=>wv B 105 [z2] (fun z3=>some (z3,e)))) (ws x0 [226,137,160] (fun z4=>Ah z4 (wt x1 x2 (fun z5=>wv B 105 [z5] (fun z6=>some (z6,e)))) (ws x0 [60] (fun z7=>Ah z7 (wo x1 x2 (fun z8=>wv B 105 [z8] (fun z9=>some (z9,e)))) (ws x0 [62] (fun z10=>Ah z10 (wu x1 x2 (fun z11=>wv B 105 [z11] (fun z12=>some (z12,e)))) (ws x0 [226,137,164] (fun z13=>Ah z13 (Ac (Ad (.bin .leq .num false (.c x1) (.c x2))) (fun z14=>wv B 105 [z14] (fun z15=>some (z15,e)))) (Ac (Ad (.bin .geq .num false (.c x1) (.c x2))) (fun z16=>wv B 105 [z16] (fun z17=>some (z17,e))))))))))))):=by kernel_rfl

end Go.Ab


namespace Go.Ab.Derive2.Ar
open Go Go.Ab Go.Ab.Derive2
theorem BZ {v:PV} {a:Arr} (h:AK v a):A1 v=true:=by
 obtain⟨x,rfl,hx⟩:=h.get;rw[C0,BX rfl rfl hx.cell]
theorem Cq {v:PV} {a:Arr} (h:AK v a):AU v 0 3 true=some v:=by
 obtain⟨x,rfl,hx⟩:=h.get;rfl
theorem BS {v:PV} {a:Arr} (h:AK v a):Bd (Ai v 2) a.n:=by obtain⟨x,rfl,hx⟩:=h.get;exact hx
theorem ES {v:PV} {a:Arr} (h:AK v a):AU v 0 1 false=some (.bool a.li):=by obtain⟨x,rfl,hx⟩:=h.get;rfl
theorem Cd {v:PV} {a:Arr} (h:AK v a):AU v 1 1 false=some (.bool a.ru):=by obtain⟨x,rfl,hx⟩:=h.get;rfl
theorem BR {v:PV} {a:Arr} (h:AK v a):AU v 2 1 false=some (Ai v 2):=by obtain⟨x,rfl,hx⟩:=h.get;rfl
theorem bV {α β:Type} (a:α) (f:α->Option β):Ac (some a) f=f a:=aP rfl rfl
theorem cT {β:Type} (a:Option β):Af true a=a:=aP rfl rfl
theorem iD (n:Int):PV.int .i64 n=I n:=aP rfl rfl
structure DyOK (g:List UInt8) (a b:Arr) (r:List Int):Prop where
 ra:a.right=true
 rb:b.right=true
 gl:Ck g=true
 sz:(a.sz b).2=0
 tx:(!Arr.isEq g&&(a.text||b.text))=false
 l:DQ (B6 g (Arr.isEq g&&(a.ru != b.ru))) (Dc a b 0 (a.sz b).1.toNat)=.inr r
end Go.Ab.Derive2.Ar


namespace Go.Ab.Derive2.Ar
open Go Go.Ab Go.Ab.Derive2
def inR (n:Int):Prop := -9223372036854775808<=n/\n<=9223372036854775807
def Ec (r:Int×NE):PV:=.tup [I r.1,I r.2.no]
theorem i64_in {n:Int} (h:inR n):i64 n=n:=IntWalk.i64_in n h
theorem Mt (n:Int):i64 n=(n+9223372036854775808)%18446744073709551616 - 9223372036854775808:=by
 unfold i64;rw[IntWalk.i64_left,Go.RowKit.wrap64]
def GA (l:List (List UInt8)):List PV:=l.map PV.str
theorem okVL_strs (l:List (List UInt8)):At (GA l)=true:=by
 induction l with
 | nil=>rfl
 | cons a l ih=>simpa[GA,At,okV] using ih
theorem in_run (l:List (List UInt8)) (hl:l.length<=1000000) (s:List UInt8):A8 B0 .cl true 42 [.sl 1 (GA l) false,.str s]=some (.bool (l.contains s)):=by
 refine Qr (d:=fun _=>.cl) rfl (by simp[At,okV,okVL_strs]) rfl ?_ rfl;rw[ZZ,ZZ,Z1,run42];unfold wc wh wj wo wr;rw[show AZ [.sl 1 (GA l) false,.str s,.int .i64 0]=true from rfl,AJ]
 have key:∀ m i,i+m=l.length->Bg (fun z1=>Ac (Ad (.len .slice (.c (Aa z1.1 0)))) (fun z2=>Ac (Ad (.bin .lss .num false (.c (Aa z1.1 2)) (.c z2))) (fun z3=>Ah z3 (Ac (Ad (.idxAddr 1 (.c (Aa z1.1 0)) (.c (Aa z1.1 2)))) (fun z4=>Ac (Ad (.load 1 false (.c z4))) (fun z5=>Ac (Ad (.bin .eql .str false (.c z5) (.c (Aa z1.1 1)))) (fun z6=>Ah z6 (Ac (some (PV.bool true,z1.2)) (fun z7=>some (.inr z7))) (Ac (Ad (.bin .add .num true (.c (Aa z1.1 2)) (.c (.int .i64 1)))) (fun z8=>some (.inl ([Aa z1.1 0,Aa z1.1 1,z8],z1.2)))))))) (Ac (some (PV.bool false,z1.2)) (fun z9=>some (.inr z9)))))) (([.sl 1 (GA l) false,.str s,I i],()):List PV×Unit)=some (.bool ((l.drop i).contains s),()):=by
  intro m;induction m with
  | zero =>
   intro i hi;have:i=l.length:=by omega
   subst this;refine BW ?_;simp only[A7,A4,Bc,HA,bV,AS,iD,show ((GA l).length:Int)=(l.length:Int) by simp[GA],Int.lt_irrefl,decide_false,Bv];rw[List.drop_length];rfl
  | succ m ih =>
   intro i hi;have hlt:i < l.length:=by omega
   have hlt':(i:Int) < ((GA l).length:Int):=by simp[GA];omega
   rw[FV hlt,cY];have hx:Ad (.idxAddr 1 (.c (.sl 1 (GA l) false)) (.c (I i)))=some (.ptr [.str l[i]] 0):=LI (n:=1) (v:=.str l[i]) (by decide) (by simp[GA,hlt]);cases hq:(s==l[i]) with
   | true =>
    refine BW ?_;have hq':(l[i]==s)=true:=by rw[beq_iff_eq] at hq |-;exact hq.symm
    simp only[A7,A4,Bc,HA,bV,AS,iD,hlt',decide_true,BN,hx,Kx,JB,Jq,hq',bO]
   | false =>
    have hq':(l[i]==s)=false:=by
     rw[beq_eq_false_iff_ne] at hq |-;exact fun e=>hq e.symm
    rw[Dq (s':=([.sl 1 (GA l) false,.str s,I ((i+1:Nat):Int)],()))];·rw[ih (i+1) (by omega),aV]
    ·simp only[A7,A4,Bc,HA,bV,AS,iD,hlt',decide_true,BN,hx,Kx,JB,Jq,hq',Bv,BT,Ct (by omega:i < 9223372036854775807)]
 have:=key l.length 0 (by omega);simpa[A3] using this
theorem rIsDy_run (g:List UInt8):Ax B0 .cl (.fn 26 []) [.str g]=some (.bool (Ck g)):=by
 refine call (d:=fun _=>.cl) rfl (by decide) rfl rfl ?_;rw[ZZ,Z1,run26];have h:=in_run [DM,Dj,C8,CW,CE,CA,Cn,Co,CR,CY,CS,Cu,CB,Eo,Dm] (by decide) g
 have e:([DM,Dj,C8,CW,CE,CA,Cn,Co,CR,CY,CS,Cu,CB,Eo,Dm]:List (List UInt8)).contains g=Ck g:=by
  unfold Ck;simp only[cY,List.contains_nil,Bool.or_false];cases g==Cn<;>cases g==CE<;>cases g==CA<;>simp
 rw[e] at h;rw[show AT 1 [.str [43],.str [45],.str [195,151],.str [195,183],.str [226,140,136],.str [226,140,138],.str [124],.str [61],.str [226,137,160],.str [60],.str [62],.str [226,137,164],.str [226,137,165],.str [226,136,167],.str [226,136,168]]=true from rfl,cT];rw[show AD 1 1 [.str [43],.str [45],.str [195,151],.str [195,183],.str [226,140,136],.str [226,140,138],.str [124],.str [61],.str [226,137,160],.str [60],.str [62],.str [226,137,164],.str [226,137,165],.str [226,136,167],.str [226,136,168]] 0 (Ae [.str [43],.str [45],.str [195,151],.str [195,183],.str [226,140,136],.str [226,140,138],.str [124],.str [61],.str [226,137,160],.str [60],.str [62],.str [226,137,164],.str [226,137,165],.str [226,136,167],.str [226,136,168]])=.sl 1 (GA [DM,Dj,C8,CW,CE,CA,Cn,Co,CR,CY,CS,Cu,CB,Eo,Dm]) false from rfl,h];rfl
theorem rIsMon_run (g:List UInt8):Ax B0 .cl (.fn 20 []) [.str g]=some (.bool (Dv g)):=by
 refine call (d:=fun _=>.cl) rfl (by decide) rfl rfl ?_;rw[ZZ,Z1,run20];have h:=in_run [DM,Dj,C8,CW,CE,CA,Cn,Fs] (by decide) g
 have e:([DM,Dj,C8,CW,CE,CA,Cn,Fs]:List (List UInt8)).contains g=Dv g:=by
  unfold Dv;simp only[cY,List.contains_nil,Bool.or_false];cases g==Dj<;>cases g==C8<;>cases g==CW<;>cases g==Cn<;>cases g==CE<;>cases g==CA<;>simp
 rw[e] at h;rw[show AT 1 [.str [43],.str [45],.str [195,151],.str [195,183],.str [226,140,136],.str [226,140,138],.str [124],.str [126]]=true from rfl,cT];rw[show AD 1 1 [.str [43],.str [45],.str [195,151],.str [195,183],.str [226,140,136],.str [226,140,138],.str [124],.str [126]] 0 (Ae [.str [43],.str [45],.str [195,151],.str [195,183],.str [226,140,136],.str [226,140,138],.str [124],.str [126]])=.sl 1 (GA [DM,Dj,C8,CW,CE,CA,Cn,Fs]) false from rfl,h];rfl
theorem radd_run {x y:Int} (hx:inR x) (hy:inR y):Ax B0 .cl (.fn 153 []) [I x,I y]=some (Ec (nAdd x y)):=by
 refine call (d:=fun _=>.cl) rfl (by decide) rfl rfl ?_;rw[ZZ,ZZ,Z1,run153];unfold wm wp;simp only[BT,bV,iD,Cz,AS,EF,An];rw[show IntKind.i64.wrap (x+y)=i64 (x+y) from rfl];unfold nAdd Gb;simp only
 have e:=Mt (x+y);generalize i64 (x+y)=s at *;unfold inR at hx hy;by_cases h1:x < 0<;>by_cases h2:y < 0<;>by_cases h3:s < 0<;>by_cases h4:0 < x<;>by_cases h5:0 < y<;>by_cases h6:0<=s<;>first | (exfalso;omega) | (simp[h1,h2,h3,h4,h5,h6,Ec,NE.no,Ac,Ah,iD])
theorem RZ {x y:Int} (hx:inR x) (hy:inR y):Ax B0 .cl (.fn 104 []) [I x,I y]=some (Ec (MF x y)):=by
 refine call (d:=fun _=>.cl) rfl (by decide) rfl rfl ?_;rw[ZZ,ZZ,Z1,run104];unfold wm;simp only[I6,bV,iD,Cz,AS,EF,An];rw[show IntKind.i64.wrap (x - y)=i64 (x - y) from rfl];unfold MF Gb;simp only
 have e:=Mt (x - y);generalize i64 (x - y)=s at *;unfold inR at hx hy;by_cases h1:x < 0<;>by_cases h2:y < 0<;>by_cases h3:s < 0<;>by_cases h4:0<=x<;>by_cases h5:0 < y<;>by_cases h6:0<=s<;>first | (exfalso;omega) | (simp[h1,h2,h3,h4,h5,h6,Ec,NE.no,Ac,Ah,iD])
theorem V7 {x:Int} (hx:inR x):(Gw x).toNat=x.natAbs:=by
 unfold Gw inR at *;simp only[IntKind.wrap_u64];split<;>omega
theorem nTimes_eq {x y:Int} (hx:inR x) (hy:inR y):Oa x y=if -9223372036854775808<=x*y/\x*y<=9223372036854775807 then (x*y,.ok) else (0,.over):=by
 unfold Oa;rw[V7 hx,V7 hy];have hm:x.natAbs*y.natAbs=(x*y).natAbs:=(Int.natAbs_mul x y).symm;rw[hm];have hb:x.natAbs*y.natAbs<=9223372036854775808*9223372036854775808:=Nat.mul_le_mul (by unfold inR at hx;omega) (by unfold inR at hy;omega);rw[hm] at hb
 have sgn:((decide (x < 0)==decide (y < 0))=true->0<=x*y)/\((decide (x < 0)==decide (y < 0))=false->x*y<=0):=by
  by_cases h1:x < 0<;>by_cases h2:y < 0<;>simp[h1,h2]
  ·exact Int.le_of_lt (Int.mul_pos_of_neg_of_neg h1 h2)
  ·exact Int.mul_nonpos_of_nonpos_of_nonneg (Int.le_of_lt h1) (by omega)
  ·exact Int.mul_nonpos_of_nonneg_of_nonpos (by omega) (Int.le_of_lt h2)
  ·exact Int.mul_nonneg (by omega) (by omega)
 generalize x*y=p at *;unfold nTim Gb;simp only
 cases hs:(decide (x < 0)==decide (y < 0)) with
 | true =>
  have hp:=sgn.1 hs;simp only[Z8,Z0,if_false,bq,Bool.or_false];rw[Mt];by_cases h:p<=9223372036854775807
  ·have c1:p.natAbs / 18446744073709551616=0:=by omega
   have c2:p.natAbs%18446744073709551616<=9223372036854775807:=by omega
   have c3 : -9223372036854775808<=p:=by omega
   simp only[c1,c2,c3,h,decide_true,bW,if_true,and_self];refine congrArg (fun z:Int=>(z,NE.ok)) ?_;omega
  ·have c3:¬ (-9223372036854775808<=p/\p<=9223372036854775807):=by omega
   have c4:(decide (p.natAbs / 18446744073709551616=0)&&decide (p.natAbs%18446744073709551616<=9223372036854775807))=false:=by
    rw[Bool.and_eq_false_iff,decide_eq_false_iff_not,decide_eq_false_iff_not];omega
   rw[if_neg c3,c4];rfl
 | false =>
  have hp:=sgn.2 hs;simp only[ax,if_true,aE];rw[Mt,Mt];by_cases h : -9223372036854775808<=p
  ·have c1:p.natAbs / 18446744073709551616=0:=by omega
   have c3:p<=9223372036854775807:=by omega
   have c2:(decide (p.natAbs%18446744073709551616<=9223372036854775807)||decide (p.natAbs%18446744073709551616=9223372036854775808))=true:=by
    rw[cd,decide_eq_true_eq,decide_eq_true_eq];omega
   simp only[c1,c2,c3,h,decide_true,bW,if_true,and_self];refine congrArg (fun z:Int=>(z,NE.ok)) ?_;omega
  ·have c3:¬ (-9223372036854775808<=p/\p<=9223372036854775807):=by omega
   have c4:(decide (p.natAbs / 18446744073709551616=0)&&(decide (p.natAbs%18446744073709551616<=9223372036854775807)||decide (p.natAbs%18446744073709551616=9223372036854775808)))=false:=by
    rw[Bool.and_eq_false_iff,bD,decide_eq_false_iff_not,decide_eq_false_iff_not,decide_eq_false_iff_not];omega
   rw[if_neg c3,c4];rfl
theorem quo_mul {x y:Int} (hy:y≠0):(x*y).tdiv y=x:=Int.mul_tdiv_cancel x hy
theorem over_quo {x y:Int} (hx:inR x) (hy:inR y) (hy0:y≠0) (ho:¬ inR (x*y)) (h1:¬ (x = -9223372036854775808/\y = -1)):i64 ((i64 (x*y)).tdiv y)≠x:=by
 intro h;have e:=Mt (x*y);have hp:inR (i64 (x*y)):=by unfold inR;omega
 have hne:i64 (x*y)≠x*y:=fun e'=>ho (e' ▸ hp);have hk:(i64 (x*y) - x*y)%18446744073709551616=0:=by omega
 generalize hq:i64 (x*y)=p at *;have hdm:=Int.mul_tdiv_add_tmod p y
 have hr:(p.tmod y).natAbs < y.natAbs:=by
  rw[Int.natAbs_tmod];exact cr _ (by omega)
 have ha:(p.tdiv y).natAbs<=p.natAbs:=by
  rw[Int.natAbs_tdiv];exact Nat.div_le_self _ _
 by_cases hd:inR (p.tdiv y)
 ·rw[i64_in hd] at h;rw[h,Int.mul_comm] at hdm;unfold inR at hx hy;generalize x*y=m at *;generalize p.tmod y=r at *;omega
 ·have:p.tdiv y=9223372036854775808:=by unfold inR at hp hd;omega
  rw[this] at h hdm;have hx':x = -9223372036854775808:=by rw[<-h];decide
  have hpp:p = -9223372036854775808:=by
   unfold inR at hp hy;rcases Int.lt_trichotomy y 0 with hlt | heq | hgt;·omega
   ·exact absurd heq hy0
   ·omega
  have:y = -1:=by unfold inR at hy;omega
  exact h1 ⟨hx',this⟩
theorem Vl:Ax B0 .cl (.fn 150 []) []=some (I (-9223372036854775808)):=by
 refine call (d:=fun _=>.cl) rfl (by decide) rfl rfl ?_;rw[Z1,run150];rfl
theorem Y7 {x y:Int} (hx:inR x) (hy:inR y):Ax B0 .cl (.fn 154 []) [I x,I y]=some (Ec (Oa x y)):=by
 refine call (d:=fun _=>.cl) rfl (by decide) rfl rfl ?_;rw[ZZ,ZZ,Z1,run154];unfold wl wq wt wv;rw[nTimes_eq hx hy];simp only[iD,CN,bV,An,Vl];by_cases h0:x=0
 ·subst h0;simp[Ac,Ah,Ec,NE.no,iD]
 have e0:(x==0)=false:=by simp[h0]
 by_cases h1:y=0
 ·subst h1;simp[h0,Ac,Ah,Ec,NE.no,iD]
 have e1:(y==0)=false:=by simp[h1]
 simp only[e0,e1,Z0,if_false,bV,An]
 have fin:(if (-9223372036854775808<=x*y/\x*y<=9223372036854775807) then ((x*y,NE.ok):Int×NE) else (0,.over))=(if i64 ((i64 (x*y)).tdiv y)=x then (i64 (x*y),.ok) else (0,.over))\/(x = -9223372036854775808/\y = -1):=by
  by_cases hb:x = -9223372036854775808/\y = -1
  ·exact .inr hb
  left;by_cases hr:inR (x*y)
  ·have hr' : -9223372036854775808<=x*y/\x*y<=9223372036854775807:=hr;rw[if_pos hr',i64_in hr,quo_mul h1,i64_in hx,if_pos rfl]
  ·have hr':¬ (-9223372036854775808<=x*y/\x*y<=9223372036854775807):=hr;rw[if_neg hr',if_neg (over_quo hx hy h1 hr hb)]
 have quo:∀ p:Int,Ad (.bin .quo .num false (.c (I p)) (.c (I y)))=some (I (i64 (p.tdiv y))):=fun p=>Sm _ _ h1;have mul:Ad (.bin .mul .num false (.c (I x)) (.c (I y)))=some (I (i64 (x*y))):=Ny _ _;by_cases hl:x = -9223372036854775808
 ·have el:(x == -9223372036854775808)=true:=by simp[hl]
  simp only[el,if_true];by_cases hm:y = -1
  ·subst hl;subst hm;rfl
  ·have em:(y == -1)=false:=by simp[hm]
   simp only[em,Z0,if_false];have hx1:(x == -1)=false:=by subst hl;decide
   have f:=fin.resolve_right fun hh=>hm hh.2;rw[f];simp only[hx1,Z0,if_false,mul,quo,bV,Ce,An];by_cases hq:i64 ((i64 (x*y)).tdiv y)=x
   ·rw[if_pos hq];simp[hq,Ec,NE.no]
   ·rw[if_neg hq];simp[hq,Ec,NE.no,iD]
 ·have el:(x == -9223372036854775808)=false:=by simp[hl]
  have f:=fin.resolve_right fun hh=>hl hh.1;simp only[el,Z0,if_false];by_cases hy1:y = -9223372036854775808
  ·have ey:(y == -9223372036854775808)=true:=by simp[hy1]
   simp only[ey,if_true];by_cases hx1:x = -1
   ·subst hx1;subst hy1;rfl
   ·have ex:(x == -1)=false:=by simp[hx1]
    rw[f];simp only[ex,Z0,if_false,mul,quo,bV,Ce,An];by_cases hq:i64 ((i64 (x*y)).tdiv y)=x
    ·rw[if_pos hq];simp[hq,Ec,NE.no]
    ·rw[if_neg hq];simp[hq,Ec,NE.no,iD]
  ·have ey:(y == -9223372036854775808)=false:=by simp[hy1]
   rw[f];simp only[ey,Z0,if_false,mul,quo,bV,Ce,An];by_cases hq:i64 ((i64 (x*y)).tdiv y)=x
   ·rw[if_pos hq];simp[hq,Ec,NE.no]
   ·rw[if_neg hq];simp[hq,Ec,NE.no,iD]
theorem TZ {x y:Int} (hx:inR x):Ax B0 .cl (.fn 106 []) [I x,I y]=some (Ec (KP x y)):=by
 refine call (d:=fun _=>.cl) rfl (by decide) rfl rfl ?_;rw[ZZ,ZZ,Z1,run106];unfold wk wl wq wv;simp only[iD,CN,bV,An,Vl];unfold KP Gb;by_cases h0:y=0
 ·subst h0;by_cases h1:x=0
  ·subst h1;rfl
  ·have e1:(x==0)=false:=by simp[h1]
   simp only[beq_self_eq_true,if_true,bV,e1,Bv,Z0,if_false];rfl
 ·have e0:(y==0)=false:=by simp[h0]
  have rem:Ad (.bin .rem .num false (.c (I x)) (.c (I y)))=some (I (x.tmod y)):=Iy _ _ h0;have quo:Ad (.bin .quo .num false (.c (I x)) (.c (I y)))=some (I (i64 (x.tdiv y))):=Sm _ _ h0;simp only[e0,Z0,if_false,bV,Bv,h0,rem,quo,Ce,An];by_cases h1:y = -1
  ·subst h1;by_cases h2:x = -9223372036854775808
   ·subst h2;rfl
   ·have e2:(x == -9223372036854775808)=false:=by simp[h2]
    have e3:x.tmod (-1)=0:=by simp
    have e4:x.tdiv (-1)=0 - x:=by simp
    simp[e2,e3,e4,h2,Ec,NE.no,iD]
  ·have e1:(y == -1)=false:=by simp[h1]
   simp only[h1,e1,if_false,Z0];by_cases h2:x.tmod y=0
   ·cases x == -9223372036854775808<;>simp[h2,Ec,NE.no,iD]
   ·cases x == -9223372036854775808<;>simp[h2,Ec,NE.no,iD]
theorem XJ (x y:Int):Ax B0 .cl (.fn 155 []) [I x,I y]=some (I (NA x y)):=by
 refine call (d:=fun _=>.cl) rfl (by decide) rfl rfl ?_;rw[ZZ,ZZ,Z1,run155];unfold wk wl wm wp;simp only[iD,CN,bV,An];unfold NA;by_cases h0:x=0
 ·subst h0;simp
 have e0:(x==0)=false:=by simp[h0]
 simp only[h0,e0,if_false,Z0];by_cases h1:x = -1
 ·subst h1;simp
 have e1:(x == -1)=false:=by simp[h1]
 simp only[h1,e1,if_false,Z0];rw[show Ad (.bin .rem .num false (.c (I y)) (.c (I x)))=some (I (y.tmod x)) from Iy _ _ h0];simp only[bV,Ce,AS,BT,HD,An];generalize y.tmod x=r;by_cases h2:r=0
 ·subst h2;simp[Ac,Ah]
 ·have e2:(r != 0)=true:=by simp[h2]
  have e3:(r==0)=false:=by simp[h2]
  simp only[e2,e3,if_true,bV,An,aV];cases (decide (r < 0)==decide (x < 0))<;>rfl
end Go.Ab.Derive2.Ar


namespace Go.Ab.Derive2.Ar
open Go Go.Ab Go.Ab.Derive2
theorem KD (b:Bool):Ax B0 .cl (.fn 105 []) [.bool b]=some (I (Dk b)):=by
 refine call (d:=fun _=>.cl) rfl (by decide) rfl rfl ?_;rw[ZZ,Z1,run105];cases b<;>rfl
theorem rcmp_gEq (x y:Int):Ax B0 .cl (.fn 156 []) [.str Co,I x,I y]=some (I (Dk (Fq Co x y))):=by
 refine call (d:=fun _=>.cl) rfl (by decide) rfl rfl ?_;rw[ZZ,ZZ,ZZ,Z1,Mi];unfold wo wq ws wt wu wv;simp only[show Ad (.bin .eql .str true (.c (.str Co)) (.c (.str [61])))=some (.bool true) from rfl,bV,BN,Bv,CN,Ce,AS,Cz,Fp,EF,KD];rfl
theorem rcmp_gNe (x y:Int):Ax B0 .cl (.fn 156 []) [.str CR,I x,I y]=some (I (Dk (Fq CR x y))):=by
 refine call (d:=fun _=>.cl) rfl (by decide) rfl rfl ?_;rw[ZZ,ZZ,ZZ,Z1,Mi];unfold wo wq ws wt wu wv;simp only[show Ad (.bin .eql .str true (.c (.str CR)) (.c (.str [61])))=some (.bool false) from rfl,show Ad (.bin .eql .str true (.c (.str CR)) (.c (.str [226,137,160])))=some (.bool true) from rfl,bV,BN,Bv,CN,Ce,AS,Cz,Fp,EF,KD];rfl
theorem rcmp_gLt (x y:Int):Ax B0 .cl (.fn 156 []) [.str CY,I x,I y]=some (I (Dk (Fq CY x y))):=by
 refine call (d:=fun _=>.cl) rfl (by decide) rfl rfl ?_;rw[ZZ,ZZ,ZZ,Z1,Mi];unfold wo wq ws wt wu wv;simp only[show Ad (.bin .eql .str true (.c (.str CY)) (.c (.str [61])))=some (.bool false) from rfl,show Ad (.bin .eql .str true (.c (.str CY)) (.c (.str [226,137,160])))=some (.bool false) from rfl,show Ad (.bin .eql .str true (.c (.str CY)) (.c (.str [60])))=some (.bool true) from rfl,bV,BN,Bv,CN,Ce,AS,Cz,Fp,EF,KD];rfl
theorem rcmp_gGt (x y:Int):Ax B0 .cl (.fn 156 []) [.str CS,I x,I y]=some (I (Dk (Fq CS x y))):=by
 refine call (d:=fun _=>.cl) rfl (by decide) rfl rfl ?_;rw[ZZ,ZZ,ZZ,Z1,Mi];unfold wo wq ws wt wu wv;simp only[show Ad (.bin .eql .str true (.c (.str CS)) (.c (.str [61])))=some (.bool false) from rfl,show Ad (.bin .eql .str true (.c (.str CS)) (.c (.str [226,137,160])))=some (.bool false) from rfl,show Ad (.bin .eql .str true (.c (.str CS)) (.c (.str [60])))=some (.bool false) from rfl,show Ad (.bin .eql .str true (.c (.str CS)) (.c (.str [62])))=some (.bool true) from rfl,bV,BN,Bv,CN,Ce,AS,Cz,Fp,EF,KD];rfl
theorem rcmp_gLe (x y:Int):Ax B0 .cl (.fn 156 []) [.str Cu,I x,I y]=some (I (Dk (Fq Cu x y))):=by
 refine call (d:=fun _=>.cl) rfl (by decide) rfl rfl ?_;rw[ZZ,ZZ,ZZ,Z1,Mi];unfold wo wq ws wt wu wv;simp only[show Ad (.bin .eql .str true (.c (.str Cu)) (.c (.str [61])))=some (.bool false) from rfl,show Ad (.bin .eql .str true (.c (.str Cu)) (.c (.str [226,137,160])))=some (.bool false) from rfl,show Ad (.bin .eql .str true (.c (.str Cu)) (.c (.str [60])))=some (.bool false) from rfl,show Ad (.bin .eql .str true (.c (.str Cu)) (.c (.str [62])))=some (.bool false) from rfl,show Ad (.bin .eql .str true (.c (.str Cu)) (.c (.str [226,137,164])))=some (.bool true) from rfl,bV,BN,Bv,CN,Ce,AS,Cz,Fp,EF,KD]
 have e:decide (x<=y)=Fq Cu x y:=by
  rw[show Fq Cu x y=(x==y||decide (x < y)) from rfl];by_cases h:x=y
  ·subst h;simp
  ·by_cases h2:x < y
   ·have h3:x<=y:=by omega
    simp[h2,h3]
   ·have h3:¬ x<=y:=by omega
    simp[h,h2,h3]
 rw[e]
theorem rcmp_gGe (x y:Int):Ax B0 .cl (.fn 156 []) [.str CB,I x,I y]=some (I (Dk (Fq CB x y))):=by
 refine call (d:=fun _=>.cl) rfl (by decide) rfl rfl ?_;rw[ZZ,ZZ,ZZ,Z1,Mi];unfold wo wq ws wt wu wv;simp only[show Ad (.bin .eql .str true (.c (.str CB)) (.c (.str [61])))=some (.bool false) from rfl,show Ad (.bin .eql .str true (.c (.str CB)) (.c (.str [226,137,160])))=some (.bool false) from rfl,show Ad (.bin .eql .str true (.c (.str CB)) (.c (.str [60])))=some (.bool false) from rfl,show Ad (.bin .eql .str true (.c (.str CB)) (.c (.str [62])))=some (.bool false) from rfl,show Ad (.bin .eql .str true (.c (.str CB)) (.c (.str [226,137,164])))=some (.bool false) from rfl,bV,BN,Bv,CN,Ce,AS,Cz,Fp,EF,KD]
 have e:decide (y<=x)=Fq CB x y:=by
  rw[show Fq CB x y=(x==y||decide (y < x)) from rfl];by_cases h:x=y
  ·subst h;simp
  ·by_cases h2:y < x
   ·have h3:y<=x:=by omega
    simp[h2,h3]
   ·have h3:¬ y<=x:=by omega
    simp[h,h2,h3]
 rw[e]
theorem Tg (x y:Int):Ad (.minmax true [.c (I x),.c (I y)])=some (I (max x y)):=by
 simp only[Ad,exec,ZZ,Z1,RX.ev,Hl,I];by_cases h:y>x
 ·simp[h,Int.max_eq_right (by omega:x<=y)];rfl
 ·simp[h,Int.max_eq_left (by omega:y<=x)];rfl
theorem Tf (x y:Int):Ad (.minmax false [.c (I x),.c (I y)])=some (I (min x y)):=by
 simp only[Ad,exec,ZZ,Z1,RX.ev,Hl,I];by_cases h:y < x
 ·simp[h,Int.min_eq_right (by omega:y<=x)];rfl
 ·simp[h,Int.min_eq_left (by omega:x<=y)];rfl
def bits (x y:Int):Bool:=decide (0<=x)&&(decide (x<=1)&&(decide (0<=y)&&decide (y<=1)))
theorem VN (x y:Int):((x.fdiv 2==0)&&(y.fdiv 2==0))=bits x y:=by
 have h:∀ z:Int,(z.fdiv 2==0)=(decide (0<=z)&&decide (z<=1)):=fun z=>by
  rw[Int.fdiv_eq_ediv_of_nonneg _ (by decide)];by_cases h1:0<=z<;>by_cases h2:z<=1<;>simp[h1,h2]<;>omega
 rw[h,h];unfold bits;cases decide (0<=x)<;>cases decide (x<=1)<;>rfl
theorem VM {x y:Int} (h:bits x y=true):(x=0\/x=1)/\(y=0\/y=1):=by
 unfold bits at h;simp only[Z2,decide_eq_true_eq] at h;omega
theorem and_min {x y:Int} (h:bits x y=true):andI x y=min x y:=by
 obtain⟨h1,h2⟩:=VM h;rcases h1 with rfl | rfl<;>rcases h2 with rfl | rfl<;>decide
theorem or_max {x y:Int} (h:bits x y=true):orI x y=max x y:=by
 obtain⟨h1,h2⟩:=VM h;rcases h1 with rfl | rfl<;>rcases h2 with rfl | rfl<;>decide
theorem Hi (r:Int×NE):Ad (.extract 0 (.c (Ec r)))=some (I r.1):=rfl
theorem Hh (r:Int×NE):Ad (.extract 1 (.c (Ec r)))=some (I r.2.no):=rfl
theorem bits_run (x y:Int):Ac (Ad (.bin .geq .num true (.c (I x)) (.c (I 0)))) (fun z3=>Ah z3 (Ac (Ad (.bin .leq .num true (.c (I x)) (.c (I 1)))) (fun z4=>Ah z4 (Ac (Ad (.bin .geq .num true (.c (I y)) (.c (I 0)))) (fun z5=>Ah z5 (Ac (Ad (.bin .leq .num true (.c (I y)) (.c (I 1)))) (fun z6=>some z6)) (some (.bool false)))) (some (.bool false)))) (some (.bool false)))=some (.bool (bits x y)):=by
 simp only[EF,Fp,bV,An];unfold bits;cases decide (0<=x)<;>cases decide (x<=1)<;>cases decide (0<=y)<;>simp
theorem WN (g:List UInt8) {x y:Int} (hx:inR x) (hy:inR y):Ax B0 .cl (.fn 118 []) [.str g,I x,I y]=some (Ec (nDy g x y)):=by
 refine call (d:=fun _=>.cl) rfl (by decide) rfl rfl ?_;rw[ZZ,ZZ,ZZ,Z1,run118];unfold wa wb wi ws wv;rw[rIsDy_run];simp only[bV,Ca,An,iD];rw[bits_run];simp only[bV];by_cases h0:g=DM
 ·subst h0;simp only[show Ck DM=true from rfl,Z8,Z0,if_false,show Ad (.bin .eql .str true (.c (.str DM)) (.c (.str [43])))=some (.bool true) from rfl,bV,BN,Bv,radd_run hx hy,Hi,Hh];rfl
 by_cases h1:g=Dj
 ·subst h1;simp only[show Ck Dj=true from rfl,Z8,Z0,if_false,show Ad (.bin .eql .str true (.c (.str Dj)) (.c (.str [43])))=some (.bool false) from rfl,show Ad (.bin .eql .str true (.c (.str Dj)) (.c (.str [45])))=some (.bool true) from rfl,bV,BN,Bv,RZ hx hy,Hi,Hh];rfl
 by_cases h2:g=C8
 ·subst h2;simp only[show Ck C8=true from rfl,Z8,Z0,if_false,show Ad (.bin .eql .str true (.c (.str C8)) (.c (.str [43])))=some (.bool false) from rfl,show Ad (.bin .eql .str true (.c (.str C8)) (.c (.str [45])))=some (.bool false) from rfl,show Ad (.bin .eql .str true (.c (.str C8)) (.c (.str [195,151])))=some (.bool true) from rfl,bV,BN,Bv,Y7 hx hy,Hi,Hh];rfl
 by_cases h3:g=CW
 ·subst h3;simp only[show Ck CW=true from rfl,Z8,Z0,if_false,show Ad (.bin .eql .str true (.c (.str CW)) (.c (.str [43])))=some (.bool false) from rfl,show Ad (.bin .eql .str true (.c (.str CW)) (.c (.str [45])))=some (.bool false) from rfl,show Ad (.bin .eql .str true (.c (.str CW)) (.c (.str [195,151])))=some (.bool false) from rfl,show Ad (.bin .eql .str true (.c (.str CW)) (.c (.str [195,183])))=some (.bool true) from rfl,bV,BN,Bv,TZ hx,Hi,Hh];rfl
 by_cases h4:g=CE
 ·subst h4;simp only[show Ck CE=true from rfl,Z8,Z0,if_false,show Ad (.bin .eql .str true (.c (.str CE)) (.c (.str [43])))=some (.bool false) from rfl,show Ad (.bin .eql .str true (.c (.str CE)) (.c (.str [45])))=some (.bool false) from rfl,show Ad (.bin .eql .str true (.c (.str CE)) (.c (.str [195,151])))=some (.bool false) from rfl,show Ad (.bin .eql .str true (.c (.str CE)) (.c (.str [195,183])))=some (.bool false) from rfl,show Ad (.bin .eql .str true (.c (.str CE)) (.c (.str [226,140,136])))=some (.bool true) from rfl,bV,BN,Bv,Tg];rfl
 by_cases h5:g=CA
 ·subst h5;simp only[show Ck CA=true from rfl,Z8,Z0,if_false,show Ad (.bin .eql .str true (.c (.str CA)) (.c (.str [43])))=some (.bool false) from rfl,show Ad (.bin .eql .str true (.c (.str CA)) (.c (.str [45])))=some (.bool false) from rfl,show Ad (.bin .eql .str true (.c (.str CA)) (.c (.str [195,151])))=some (.bool false) from rfl,show Ad (.bin .eql .str true (.c (.str CA)) (.c (.str [195,183])))=some (.bool false) from rfl,show Ad (.bin .eql .str true (.c (.str CA)) (.c (.str [226,140,136])))=some (.bool false) from rfl,show Ad (.bin .eql .str true (.c (.str CA)) (.c (.str [226,140,138])))=some (.bool true) from rfl,bV,BN,Bv,Tf];rfl
 by_cases h6:g=Cn
 ·subst h6;simp only[show Ck Cn=true from rfl,Z8,Z0,if_false,show Ad (.bin .eql .str true (.c (.str Cn)) (.c (.str [43])))=some (.bool false) from rfl,show Ad (.bin .eql .str true (.c (.str Cn)) (.c (.str [45])))=some (.bool false) from rfl,show Ad (.bin .eql .str true (.c (.str Cn)) (.c (.str [195,151])))=some (.bool false) from rfl,show Ad (.bin .eql .str true (.c (.str Cn)) (.c (.str [195,183])))=some (.bool false) from rfl,show Ad (.bin .eql .str true (.c (.str Cn)) (.c (.str [226,140,136])))=some (.bool false) from rfl,show Ad (.bin .eql .str true (.c (.str Cn)) (.c (.str [226,140,138])))=some (.bool false) from rfl,show Ad (.bin .eql .str true (.c (.str Cn)) (.c (.str [124])))=some (.bool true) from rfl,bV,BN,Bv,XJ];rfl
 by_cases h7:g=Eo
 ·subst h7;have e:nDy Eo x y=JL Eo x y:=rfl;rw[e];unfold JL;rw[VN];simp only[show Ck Eo=true from rfl,Z8,Z0,if_false,show Ad (.bin .eql .str true (.c (.str Eo)) (.c (.str [43])))=some (.bool false) from rfl,show Ad (.bin .eql .str true (.c (.str Eo)) (.c (.str [45])))=some (.bool false) from rfl,show Ad (.bin .eql .str true (.c (.str Eo)) (.c (.str [195,151])))=some (.bool false) from rfl,show Ad (.bin .eql .str true (.c (.str Eo)) (.c (.str [195,183])))=some (.bool false) from rfl,show Ad (.bin .eql .str true (.c (.str Eo)) (.c (.str [226,140,136])))=some (.bool false) from rfl,show Ad (.bin .eql .str true (.c (.str Eo)) (.c (.str [226,140,138])))=some (.bool false) from rfl,show Ad (.bin .eql .str true (.c (.str Eo)) (.c (.str [124])))=some (.bool false) from rfl,show Ad (.bin .eql .str true (.c (.str Eo)) (.c (.str [226,136,167])))=some (.bool true) from rfl,bV,BN,Bv,Ca,An,Tf,Tg];cases hb:bits x y with
  | false=>rfl
  | true =>
   simp only[and_min hb];rfl
 by_cases h8:g=Dm
 ·subst h8;have e:nDy Dm x y=JL Dm x y:=rfl;rw[e];unfold JL;rw[VN];simp only[show Ck Dm=true from rfl,Z8,Z0,if_false,show Ad (.bin .eql .str true (.c (.str Dm)) (.c (.str [43])))=some (.bool false) from rfl,show Ad (.bin .eql .str true (.c (.str Dm)) (.c (.str [45])))=some (.bool false) from rfl,show Ad (.bin .eql .str true (.c (.str Dm)) (.c (.str [195,151])))=some (.bool false) from rfl,show Ad (.bin .eql .str true (.c (.str Dm)) (.c (.str [195,183])))=some (.bool false) from rfl,show Ad (.bin .eql .str true (.c (.str Dm)) (.c (.str [226,140,136])))=some (.bool false) from rfl,show Ad (.bin .eql .str true (.c (.str Dm)) (.c (.str [226,140,138])))=some (.bool false) from rfl,show Ad (.bin .eql .str true (.c (.str Dm)) (.c (.str [124])))=some (.bool false) from rfl,show Ad (.bin .eql .str true (.c (.str Dm)) (.c (.str [226,136,167])))=some (.bool false) from rfl,show Ad (.bin .eql .str true (.c (.str Dm)) (.c (.str [226,136,168])))=some (.bool true) from rfl,show Ad (.bin .eql .str true (.c (.str Dm)) (.c (.str [226,136,167])))=some (.bool false) from rfl,bV,BN,Bv,Ca,An,Tf,Tg];cases hb:bits x y with
  | false=>rfl
  | true =>
   simp only[or_max hb];rfl
 by_cases k0:g=Co
 ·subst k0;simp only[show Ck Co=true from rfl,Z8,Z0,if_false,show Ad (.bin .eql .str true (.c (.str Co)) (.c (.str [43])))=some (.bool false) from rfl,show Ad (.bin .eql .str true (.c (.str Co)) (.c (.str [45])))=some (.bool false) from rfl,show Ad (.bin .eql .str true (.c (.str Co)) (.c (.str [195,151])))=some (.bool false) from rfl,show Ad (.bin .eql .str true (.c (.str Co)) (.c (.str [195,183])))=some (.bool false) from rfl,show Ad (.bin .eql .str true (.c (.str Co)) (.c (.str [226,140,136])))=some (.bool false) from rfl,show Ad (.bin .eql .str true (.c (.str Co)) (.c (.str [226,140,138])))=some (.bool false) from rfl,show Ad (.bin .eql .str true (.c (.str Co)) (.c (.str [124])))=some (.bool false) from rfl,show Ad (.bin .eql .str true (.c (.str Co)) (.c (.str [226,136,167])))=some (.bool false) from rfl,show Ad (.bin .eql .str true (.c (.str Co)) (.c (.str [226,136,168])))=some (.bool false) from rfl,bV,Bv,rcmp_gEq];rfl
 by_cases k1:g=CR
 ·subst k1;simp only[show Ck CR=true from rfl,Z8,Z0,if_false,show Ad (.bin .eql .str true (.c (.str CR)) (.c (.str [43])))=some (.bool false) from rfl,show Ad (.bin .eql .str true (.c (.str CR)) (.c (.str [45])))=some (.bool false) from rfl,show Ad (.bin .eql .str true (.c (.str CR)) (.c (.str [195,151])))=some (.bool false) from rfl,show Ad (.bin .eql .str true (.c (.str CR)) (.c (.str [195,183])))=some (.bool false) from rfl,show Ad (.bin .eql .str true (.c (.str CR)) (.c (.str [226,140,136])))=some (.bool false) from rfl,show Ad (.bin .eql .str true (.c (.str CR)) (.c (.str [226,140,138])))=some (.bool false) from rfl,show Ad (.bin .eql .str true (.c (.str CR)) (.c (.str [124])))=some (.bool false) from rfl,show Ad (.bin .eql .str true (.c (.str CR)) (.c (.str [226,136,167])))=some (.bool false) from rfl,show Ad (.bin .eql .str true (.c (.str CR)) (.c (.str [226,136,168])))=some (.bool false) from rfl,bV,Bv,rcmp_gNe];rfl
 by_cases k2:g=CY
 ·subst k2;simp only[show Ck CY=true from rfl,Z8,Z0,if_false,show Ad (.bin .eql .str true (.c (.str CY)) (.c (.str [43])))=some (.bool false) from rfl,show Ad (.bin .eql .str true (.c (.str CY)) (.c (.str [45])))=some (.bool false) from rfl,show Ad (.bin .eql .str true (.c (.str CY)) (.c (.str [195,151])))=some (.bool false) from rfl,show Ad (.bin .eql .str true (.c (.str CY)) (.c (.str [195,183])))=some (.bool false) from rfl,show Ad (.bin .eql .str true (.c (.str CY)) (.c (.str [226,140,136])))=some (.bool false) from rfl,show Ad (.bin .eql .str true (.c (.str CY)) (.c (.str [226,140,138])))=some (.bool false) from rfl,show Ad (.bin .eql .str true (.c (.str CY)) (.c (.str [124])))=some (.bool false) from rfl,show Ad (.bin .eql .str true (.c (.str CY)) (.c (.str [226,136,167])))=some (.bool false) from rfl,show Ad (.bin .eql .str true (.c (.str CY)) (.c (.str [226,136,168])))=some (.bool false) from rfl,bV,Bv,rcmp_gLt];rfl
 by_cases k3:g=CS
 ·subst k3;simp only[show Ck CS=true from rfl,Z8,Z0,if_false,show Ad (.bin .eql .str true (.c (.str CS)) (.c (.str [43])))=some (.bool false) from rfl,show Ad (.bin .eql .str true (.c (.str CS)) (.c (.str [45])))=some (.bool false) from rfl,show Ad (.bin .eql .str true (.c (.str CS)) (.c (.str [195,151])))=some (.bool false) from rfl,show Ad (.bin .eql .str true (.c (.str CS)) (.c (.str [195,183])))=some (.bool false) from rfl,show Ad (.bin .eql .str true (.c (.str CS)) (.c (.str [226,140,136])))=some (.bool false) from rfl,show Ad (.bin .eql .str true (.c (.str CS)) (.c (.str [226,140,138])))=some (.bool false) from rfl,show Ad (.bin .eql .str true (.c (.str CS)) (.c (.str [124])))=some (.bool false) from rfl,show Ad (.bin .eql .str true (.c (.str CS)) (.c (.str [226,136,167])))=some (.bool false) from rfl,show Ad (.bin .eql .str true (.c (.str CS)) (.c (.str [226,136,168])))=some (.bool false) from rfl,bV,Bv,rcmp_gGt];rfl
 by_cases k4:g=Cu
 ·subst k4;simp only[show Ck Cu=true from rfl,Z8,Z0,if_false,show Ad (.bin .eql .str true (.c (.str Cu)) (.c (.str [43])))=some (.bool false) from rfl,show Ad (.bin .eql .str true (.c (.str Cu)) (.c (.str [45])))=some (.bool false) from rfl,show Ad (.bin .eql .str true (.c (.str Cu)) (.c (.str [195,151])))=some (.bool false) from rfl,show Ad (.bin .eql .str true (.c (.str Cu)) (.c (.str [195,183])))=some (.bool false) from rfl,show Ad (.bin .eql .str true (.c (.str Cu)) (.c (.str [226,140,136])))=some (.bool false) from rfl,show Ad (.bin .eql .str true (.c (.str Cu)) (.c (.str [226,140,138])))=some (.bool false) from rfl,show Ad (.bin .eql .str true (.c (.str Cu)) (.c (.str [124])))=some (.bool false) from rfl,show Ad (.bin .eql .str true (.c (.str Cu)) (.c (.str [226,136,167])))=some (.bool false) from rfl,show Ad (.bin .eql .str true (.c (.str Cu)) (.c (.str [226,136,168])))=some (.bool false) from rfl,bV,Bv,rcmp_gLe];rfl
 by_cases k5:g=CB
 ·subst k5;simp only[show Ck CB=true from rfl,Z8,Z0,if_false,show Ad (.bin .eql .str true (.c (.str CB)) (.c (.str [43])))=some (.bool false) from rfl,show Ad (.bin .eql .str true (.c (.str CB)) (.c (.str [45])))=some (.bool false) from rfl,show Ad (.bin .eql .str true (.c (.str CB)) (.c (.str [195,151])))=some (.bool false) from rfl,show Ad (.bin .eql .str true (.c (.str CB)) (.c (.str [195,183])))=some (.bool false) from rfl,show Ad (.bin .eql .str true (.c (.str CB)) (.c (.str [226,140,136])))=some (.bool false) from rfl,show Ad (.bin .eql .str true (.c (.str CB)) (.c (.str [226,140,138])))=some (.bool false) from rfl,show Ad (.bin .eql .str true (.c (.str CB)) (.c (.str [124])))=some (.bool false) from rfl,show Ad (.bin .eql .str true (.c (.str CB)) (.c (.str [226,136,167])))=some (.bool false) from rfl,show Ad (.bin .eql .str true (.c (.str CB)) (.c (.str [226,136,168])))=some (.bool false) from rfl,bV,Bv,rcmp_gGe];rfl
 have e:Ck g=false:=by simp[Ck,h0,h1,h2,h3,h4,h5,h6,h7,h8,k0,k1,k2,k3,k4,k5]
 have e2:nDy g x y=(0,.dom g):=by simp[nDy,h0,h1,h2,h3,h4,h5,h6,h7,h8,k0,k1,k2,k3,k4,k5]
 rw[e,e2];rfl
theorem sub_bits (a b:Bool):Ad (.bin .sub .num false (.c (I (Dk a))) (.c (I (Dk b))))=some (I (i64 (Dk a - Dk b))):=rfl
theorem inR0:inR 0:=by unfold inR;omega
theorem inR1:inR 1:=by unfold inR;omega
theorem VX (g:List UInt8) {y:Int} (hy:inR y):Ax B0 .cl (.fn 44 []) [.str g,I y]=some (Ec (Cm g y)):=by
 refine call (d:=fun _=>.cl) rfl (by decide) rfl rfl ?_;rw[ZZ,ZZ,Z1,run44];unfold wa wb wi wk wm ws wv;rw[rIsMon_run];simp only[bV,Ca,An,iD];by_cases h0:g=DM
 ·subst h0;simp only[show Dv DM=true from rfl,Z8,Z0,if_false,show Ad (.bin .eql .str true (.c (.str DM)) (.c (.str [126])))=some (.bool false) from rfl,show Ad (.bin .eql .str true (.c (.str DM)) (.c (.str [45])))=some (.bool false) from rfl,show Ad (.bin .eql .str true (.c (.str DM)) (.c (.str [195,151])))=some (.bool false) from rfl,show Ad (.bin .eql .str true (.c (.str DM)) (.c (.str [195,183])))=some (.bool false) from rfl,show Ad (.bin .eql .str true (.c (.str DM)) (.c (.str [124])))=some (.bool false) from rfl,bV,BN,Bv];rfl
 by_cases h1:g=CE
 ·subst h1;simp only[show Dv CE=true from rfl,Z8,Z0,if_false,show Ad (.bin .eql .str true (.c (.str CE)) (.c (.str [126])))=some (.bool false) from rfl,show Ad (.bin .eql .str true (.c (.str CE)) (.c (.str [45])))=some (.bool false) from rfl,show Ad (.bin .eql .str true (.c (.str CE)) (.c (.str [195,151])))=some (.bool false) from rfl,show Ad (.bin .eql .str true (.c (.str CE)) (.c (.str [195,183])))=some (.bool false) from rfl,show Ad (.bin .eql .str true (.c (.str CE)) (.c (.str [124])))=some (.bool false) from rfl,bV,BN,Bv];rfl
 by_cases h2:g=CA
 ·subst h2;simp only[show Dv CA=true from rfl,Z8,Z0,if_false,show Ad (.bin .eql .str true (.c (.str CA)) (.c (.str [126])))=some (.bool false) from rfl,show Ad (.bin .eql .str true (.c (.str CA)) (.c (.str [45])))=some (.bool false) from rfl,show Ad (.bin .eql .str true (.c (.str CA)) (.c (.str [195,151])))=some (.bool false) from rfl,show Ad (.bin .eql .str true (.c (.str CA)) (.c (.str [195,183])))=some (.bool false) from rfl,show Ad (.bin .eql .str true (.c (.str CA)) (.c (.str [124])))=some (.bool false) from rfl,bV,BN,Bv];rfl
 by_cases h3:g=Dj
 ·subst h3;simp only[show Dv Dj=true from rfl,Z8,Z0,if_false,show Ad (.bin .eql .str true (.c (.str Dj)) (.c (.str [126])))=some (.bool false) from rfl,show Ad (.bin .eql .str true (.c (.str Dj)) (.c (.str [45])))=some (.bool true) from rfl,show Ad (.bin .eql .str true (.c (.str Dj)) (.c (.str [195,151])))=some (.bool false) from rfl,show Ad (.bin .eql .str true (.c (.str Dj)) (.c (.str [195,183])))=some (.bool false) from rfl,show Ad (.bin .eql .str true (.c (.str Dj)) (.c (.str [124])))=some (.bool false) from rfl,bV,BN,Bv,RZ inR0 hy,Hi,Hh];rfl
 by_cases h4:g=C8
 ·subst h4;simp only[show Dv C8=true from rfl,Z8,Z0,if_false,show Ad (.bin .eql .str true (.c (.str C8)) (.c (.str [126])))=some (.bool false) from rfl,show Ad (.bin .eql .str true (.c (.str C8)) (.c (.str [45])))=some (.bool false) from rfl,show Ad (.bin .eql .str true (.c (.str C8)) (.c (.str [195,151])))=some (.bool true) from rfl,show Ad (.bin .eql .str true (.c (.str C8)) (.c (.str [195,183])))=some (.bool false) from rfl,show Ad (.bin .eql .str true (.c (.str C8)) (.c (.str [124])))=some (.bool false) from rfl,bV,BN,Bv,Cz,AS,KD,sub_bits];rfl
 by_cases h5:g=CW
 ·subst h5;simp only[show Dv CW=true from rfl,Z8,Z0,if_false,show Ad (.bin .eql .str true (.c (.str CW)) (.c (.str [126])))=some (.bool false) from rfl,show Ad (.bin .eql .str true (.c (.str CW)) (.c (.str [45])))=some (.bool false) from rfl,show Ad (.bin .eql .str true (.c (.str CW)) (.c (.str [195,151])))=some (.bool false) from rfl,show Ad (.bin .eql .str true (.c (.str CW)) (.c (.str [195,183])))=some (.bool true) from rfl,show Ad (.bin .eql .str true (.c (.str CW)) (.c (.str [124])))=some (.bool false) from rfl,bV,BN,Bv,TZ inR1,Hi,Hh];rfl
 by_cases h6:g=Cn
 ·subst h6;simp only[show Dv Cn=true from rfl,Z8,Z0,if_false,show Ad (.bin .eql .str true (.c (.str Cn)) (.c (.str [126])))=some (.bool false) from rfl,show Ad (.bin .eql .str true (.c (.str Cn)) (.c (.str [45])))=some (.bool false) from rfl,show Ad (.bin .eql .str true (.c (.str Cn)) (.c (.str [195,151])))=some (.bool false) from rfl,show Ad (.bin .eql .str true (.c (.str Cn)) (.c (.str [195,183])))=some (.bool false) from rfl,show Ad (.bin .eql .str true (.c (.str Cn)) (.c (.str [124])))=some (.bool true) from rfl,bV,BN,Bv,AS,RZ inR0 hy,Hi,Hh,An];have e:Cm Cn y=nAbs y:=rfl;rw[e];unfold nAbs;by_cases hn:y < 0<;>simp[hn]<;>rfl
 by_cases h7:g=Fs
 ·subst h7;have e:Cm Fs y=nNot y:=rfl;rw[e];unfold nNot Gb;simp only[show Dv Fs=true from rfl,Z8,Z0,if_false,show Ad (.bin .eql .str true (.c (.str Fs)) (.c (.str [126])))=some (.bool true) from rfl,show Ad (.bin .eql .str true (.c (.str Fs)) (.c (.str [45])))=some (.bool false) from rfl,show Ad (.bin .eql .str true (.c (.str Fs)) (.c (.str [195,151])))=some (.bool false) from rfl,show Ad (.bin .eql .str true (.c (.str Fs)) (.c (.str [195,183])))=some (.bool false) from rfl,show Ad (.bin .eql .str true (.c (.str Fs)) (.c (.str [124])))=some (.bool false) from rfl,bV,BN,Bv,Ce,An,I6];by_cases k0:y=0
  ·subst k0;rfl
  ·by_cases k1:y=1
   ·subst k1;rfl
   ·have e0:(y != 0)=true:=by simp[k0]
    have e1:(y != 1)=true:=by simp[k1]
    have e2:(y==0)=false:=by simp[k0]
    have e3:(y==1)=false:=by simp[k1]
    simp only[e0,e1,e2,e3,if_true,Bool.or_self,Z0,if_false];rfl
 have e:Dv g=false:=by simp[Dv,h0,h1,h2,h3,h4,h5,h6,h7]
 have e2:Cm g y=(0,.dom g):=by simp[Cm,h0,h1,h2,h3,h4,h5,h6,h7]
 rw[e,e2];rfl
end Go.Ab.Derive2.Ar


namespace Go.Ab.Derive2.Ar
open Go Go.Ab Go.Ab.Derive2
theorem Ng (n:Int):Ax B0 .cl (.fn 103 []) [I n]=some (.bool (EG n)):=by
 refine call (d:=fun _=>.cl) rfl (by decide) rfl rfl ?_;rw[ZZ,Z1,run103];simp only[A3,EF,Fp,AS,Cz,Ao,An];unfold EG;by_cases h1:0<=n<;>by_cases h2:n<=1114111<;>by_cases h3:n < 55296<;>simp[h1,h2,h3]
theorem Ks {v:PV} {a:Arr} (h:AK v a) (hl:a.n.length<=1000000):Ax B0 .cl (.fn 43 []) [v]=some (.bool a.right):=by
 refine call (d:=fun _=>.cl) rfl (by decide) (by simp[At,h.ok]) rfl ?_;rw[ZZ,Z1,run43];unfold wc we wf wg wh wi wj wo wr wv;rw[BZ h,cT];rw[show AZ [.int .i64 0]=true from rfl,cT];have lx:=BS h
 have tail:(if a.li=true then (if decide ((a.n.length:Int)<=200)=true then some (PV.bool true) else if (!a.li)=true then some (.bool ((a.n.length:Int)==1)) else some (.bool false)) else if (!a.li)=true then some (.bool ((a.n.length:Int)==1)) else some (.bool false))=some (PV.bool (if a.li then decide (a.n.length<=200) else decide (a.n.length=1))):=by
  have e1:decide ((a.n.length:Int)<=200)=decide (a.n.length<=200):=by
   by_cases h:a.n.length<=200
   ·simp[h];omega
   ·have:¬ (a.n.length:Int)<=200:=by omega
    simp[h,this]
  have e2:((a.n.length:Int)==1)=decide (a.n.length=1):=by
   by_cases h:a.n.length=1
   ·simp[h]
   ·have:¬ (a.n.length:Int)=1:=by omega
    simp[h,this]
  rw[e1,e2];cases a.li;·simp
  ·by_cases h:a.n.length<=200<;>simp[h]
 have key:∀ m i,i+m=a.n.length->Bg (fun z1=>Ac (Ac (AU (Aa z1.1 1) 2 1 false) (fun z2=>Ac (Ad (.len .slice (.c z2))) (fun z3=>Ac (Ad (.bin .lss .num false (.c (Aa z1.1 0)) (.c z3))) (fun z4=>Ah z4 (Ac (AU (Aa z1.1 1) 1 1 false) (fun z5=>some z5)) (some (PV.bool false)))))) (fun z6=>Ah z6 (Ac (AU (Aa z1.1 1) 2 1 false) (fun z7=>Ac (Ad (.idxAddr 1 (.c z7) (.c (Aa z1.1 0)))) (fun z8=>Ac (Ad (.load 1 false (.c z8))) (fun z9=>Ac (Ax B0 .cl (.fn 103 []) [z9]) (fun z10=>Ac (Ad (.un .not (.c z10))) (fun z11=>Ah z11 (Ac (some (PV.bool false,z1.2)) (fun z12=>some (.inr z12))) (Ac (Ad (.bin .add .num true (.c (Aa z1.1 0)) (.c (.int .i64 1)))) (fun z13=>some (.inl ([z13,Aa z1.1 1],z1.2)))))))))) (Ac (Ac (Ac (AU (Aa z1.1 1) 0 1 false) (fun z14=>Ah z14 (Ac (AU (Aa z1.1 1) 2 1 false) (fun z15=>Ac (Ad (.len .slice (.c z15))) (fun z16=>Ac (Ad (.bin .leq .num true (.c z16) (.c (.int .i64 200)))) (fun z17=>Ah z17 (some (PV.bool true)) (Ac (AU (Aa z1.1 1) 0 1 false) (fun z18=>Ac (Ad (.un .not (.c z18))) (fun z19=>Ah z19 (Ac (AU (Aa z1.1 1) 2 1 false) (fun z20=>Ac (Ad (.len .slice (.c z20))) (fun z21=>Ac (Ad (.bin .eql .num true (.c z21) (.c (.int .i64 1)))) (fun z22=>some z22)))) (some (PV.bool false))))))))) (Ac (AU (Aa z1.1 1) 0 1 false) (fun z23=>Ac (Ad (.un .not (.c z23))) (fun z24=>Ah z24 (Ac (AU (Aa z1.1 1) 2 1 false) (fun z25=>Ac (Ad (.len .slice (.c z25))) (fun z26=>Ac (Ad (.bin .eql .num true (.c z26) (.c (.int .i64 1)))) (fun z27=>some z27)))) (some (PV.bool false))))))) (fun z28=>some (z28,z1.2))) (fun z29=>some (.inr z29))))) (([I i,v],()):List PV×Unit)=some (.bool (!(a.ru&&(a.n.drop i).any fun n=>!EG n)&&(if a.li then decide (a.n.length<=200) else decide (a.n.length=1))),()):=by
  intro m;induction m with
  | zero =>
   intro i hi;refine BW ?_;have hd0:a.n.drop i=[]:=aU (by omega);have hlt:¬ ((i:Int) < (a.n.length:Int)):=by omega
   simp only[A7,A4,ES h,BR h,lx.len,bV,AS,hlt,decide_false,Bv,An,Ca,iD,Fp,CN,hd0,List.any_nil,Bool.and_false,ax,aE];rw[tail];rfl
  | succ m ih =>
   intro i hi;have hlt:i < a.n.length:=by omega
   have hlt':(i:Int) < (a.n.length:Int):=by omega
   cases hru:a.ru with
   | false =>
    refine BW ?_;simp only[A7,A4,ES h,Cd h,BR h,lx.len,bV,AS,hlt',decide_true,BN,hru,Bv,An,Ca,iD,Fp,CN,bq,ax,aE];rw[tail];rfl
   | true =>
    rw[FV hlt,List.any_cons];cases hq:EG a.n[i] with
    | false =>
     refine BW ?_;simp only[A7,A4,Cd h,BR h,lx.len,bV,AS,hlt',decide_true,BN,hru,lx.idx hlt,CG,Ng,hq,Ca,ax,bO,aG,Z8,bq]
    | true =>
     rw[Dq (s':=([I ((i+1:Nat):Int),v],()))]
     ·rw[ih (i+1) (by omega),hru];simp only[Z8,aV]
     ·simp only[A7,A4,Cd h,BR h,lx.len,bV,AS,hlt',decide_true,BN,hru,lx.idx hlt,CG,Ng,hq,Ca,Z8,Bv,iD,BT,Ct (by omega:i < 9223372036854775807)]
 have:=key a.n.length 0 (by omega);unfold Arr.right;simpa[A3] using this
theorem R0 {v u:PV} {l m:List Int} (hv:Bd v l) (hu:Bd u m) (hl:l.length<=1000000) (hm:m.length<=1000000):Ax B0 .cl (.fn 29 []) [v,u]=some (.bool (Dn l m)):=by
 refine call (d:=fun _=>.cl) rfl (by decide) (by simp[At,hv.ok,hu.ok]) rfl ?_;rw[ZZ,ZZ,Z1,run29];unfold wc wh wj wo wr wt;rw[hv.len,hu.len];simp only[bV,Ce,An];by_cases hlm:l.length=m.length
 ·have h1:(((l.length:Int) != (m.length:Int))=true)↔False:=by simp[hlm]
  simp only[h1,if_false];have h0:AZ [v,u,.int .i64 0]=true:=by simp only[AZ,bj,hv.und,hu.und];rfl
  rw[h0,cT]
  have key:∀ k i,i+k=l.length->Bg (fun z4=>Ac (Ad (.len .slice (.c (Aa z4.1 0)))) (fun z5=>Ac (Ad (.bin .lss .num false (.c (Aa z4.1 2)) (.c z5))) (fun z6=>Ah z6 (Ac (Ad (.idxAddr 1 (.c (Aa z4.1 0)) (.c (Aa z4.1 2)))) (fun z7=>Ac (Ad (.load 1 false (.c z7))) (fun z8=>Ac (Ad (.idxAddr 1 (.c (Aa z4.1 1)) (.c (Aa z4.1 2)))) (fun z9=>Ac (Ad (.load 1 false (.c z9))) (fun z10=>Ac (Ad (.bin .neq .num false (.c z8) (.c z10))) (fun z11=>Ah z11 (Ac (some (PV.bool false,z4.2)) (fun z12=>some (.inr z12))) (Ac (Ad (.bin .add .num true (.c (Aa z4.1 2)) (.c (.int .i64 1)))) (fun z13=>some (.inl ([Aa z4.1 0,Aa z4.1 1,z13],z4.2)))))))))) (Ac (some (PV.bool true,z4.2)) (fun z14=>some (.inr z14)))))) (([v,u,I i],()):List PV×Unit)=some (.bool (Dn (l.drop i) (m.drop i)),()):=by
   intro k;induction k with
   | zero =>
    intro i hi;refine BW ?_;have h2:l.drop i=[]:=aU (by omega);have h3:m.drop i=[]:=aU (by omega);have hlt:¬ ((i:Int) < (l.length:Int)):=by omega
    simp only[A7,A4,Bc,hv.len,bV,AS,hlt,decide_false,Bv,h2,h3,Dn]
   | succ k ih =>
    intro i hi;have hlt:i < l.length:=by omega
    have hlt2:i < m.length:=by omega
    have hlt':(i:Int) < (l.length:Int):=by omega
    rw[FV hlt,FV hlt2];cases hx:(l[i]==m[i]) with
    | true =>
     have hb:(l[i] != m[i])=false:=by simp[bne,hx]
     rw[Dq (s':=([v,u,I ((i+1:Nat):Int)],()))]
     ·rw[ih (i+1) (by omega)];simp only[Dn,hx,aE]
     ·simp only[A7,A4,Bc,hv.len,bV,AS,hlt',decide_true,BN,hv.idx hlt,hu.idx hlt2,CG,Ce,hb,Bv,iD,BT,Ct (by omega:i < 9223372036854775807)]
    | false =>
     have hb:(l[i] != m[i])=true:=by simp[bne,hx]
     refine BW ?_;simp only[A7,A4,Bc,hv.len,bV,AS,hlt',decide_true,BN,hv.idx hlt,hu.idx hlt2,CG,Ce,hb,Dn,hx,bq]
  have:=key l.length 0 (by omega);simpa[A3] using this
 ·have:¬ (l.length:Int)=(m.length:Int):=by omega
  have h2:Dn l m=false:=by
   cases he:Dn l m with
   | false=>rfl
   | true=>exact absurd (congrArg List.length ((PR l m).1 he)) hlm
  simp[this,h2]
theorem rsame_run {v u:PV} {a b:Arr} (hv:AK v a) (hu:AK u b) (ha:a.n.length<=1000000) (hb:b.n.length<=1000000):Ax B0 .cl (.fn 11 []) [v,u]=some (.bool (a.same b)):=by
 refine call (d:=fun _=>.cl) rfl (by decide) (by simp[At,hv.ok,hu.ok]) rfl ?_;rw[ZZ,ZZ,Z1,run11];unfold we wf wg wv;rw[BZ hv,BZ hu,cT,cT];simp only[ES hv,ES hu,Cd hv,Cd hu,BR hv,BR hu,bV,Iz,An,R0 (BS hv) (BS hu) ha hb];unfold Arr.same;cases (a.li==b.li)<;>cases (a.ru==b.ru)<;>simp
theorem O3 {v:PV} {a:Arr} (h:AK v a) {i:Nat} (hi:a.fits i):Ax B0 .cl (.fn 54 []) [v,I i]=some (I (a.at i)):=by
 obtain⟨x,rfl,hx⟩:=h.get;refine call (d:=fun _=>.cl) rfl (by decide) (by simp[At,h.ok]) rfl ?_;rw[ZZ,ZZ,Z1,run54];unfold we wg wh wi wr;rw[C0,BX rfl rfl hx.cell,AJ];simp only[BU,BM,HJ,GO,Hf,Ao,An,Ca];unfold Arr.at
 unfold Arr.fits at hi;cases hli:a.li with
 | true =>
  simp only[hli,if_true] at hi;simp only[if_true,Z8,Z0,if_false,hx.idx hi,Ao,CG];rw[Z9,ab hi];rfl
 | false =>
  simp only[hli,Z0,if_false] at hi;simp only[Z0,if_false,ax,if_true];rw[show (PV.int .i64 0)=I ((0:Nat):Int) from rfl,hx.idx hi];simp only[Ao,CG];rw[Z9,ab hi];rfl
theorem rone_run (g:List UInt8) {x y:Int} (hx:inR x) (hy:inR y) (al:Bool):Ax B0 .cl (.fn 53 []) [.str g,I x,I y,.bool al]=some (Ec (B6 g (!al) x y)):=by
 refine call (d:=fun _=>.cl) rfl (by decide) rfl rfl ?_;rw[ZZ,ZZ,ZZ,ZZ,Z1,run53];unfold wa wb wi wv;simp only[Ca,bV,An,iD,WN g inR0 inR1,WN g hx hy,Hi,Hh];unfold B6;cases al<;>rfl
def _root_.Go.Ab.Derive2.Arr.inr (a:Arr):Prop:=∀ n∈a.n,inR n
theorem rmonL_run {v:PV} {a:Arr} (h:AK v a) (hl:a.n.length<=1000000) (hin:a.inr) (g:List UInt8):∀ (m i:Nat) (acc:List Int),i+m=a.n.length->acc.length=i->∃ w,Bg (fun z15=>Ac (AU (Aa z15.1 2) 2 1 false) (fun z16=>Ac (Ad (.len .slice (.c z16))) (fun z17=>Ac (Ad (.bin .lss .num false (.c (Aa z15.1 1)) (.c z17))) (fun z18=>Ah z18 (Ac (AU (Aa z15.1 2) 2 1 false) (fun z19=>Ac (Ad (.idxAddr 1 (.c z19) (.c (Aa z15.1 1)))) (fun z20=>Ac (Ad (.load 1 false (.c z20))) (fun z21=>Ac (Ax B0 .cl (.fn 44 []) [Aa z15.1 0,z21]) (fun z22=>Ac (Ad (.extract 0 (.c z22))) (fun z23=>Ac (Ad (.extract 1 (.c z22))) (fun z24=>Ac (Ad (.bin .neq .num true (.c z24) (.c (.int .i64 0)))) (fun z25=>Ah z25 (Ac (Ad (.build [.bool false,.bool false,.nilS] [])) (fun z26=>Af (AA z26 3) (Ac (some (PV.tup [.agg [Ai z26 0,Ai z26 1,Ai z26 2],z24],z15.2)) (fun z27=>some (.inr z27))))) (Af (AT 1 [z23]) (Af (Az (Av 0 (Ae [z23])) (Ae [z23])) (Af (Bi (Az (Al (Aa z15.1 8)) (Ae (Ap (Aa z15.1 9)))) (Az (Av (Al (Aa z15.1 8)) (Ae (As (Ae [z23]) (AG 0 [z23])))) 2147483648)) (Ac (Ad (.bin .add .num true (.c (Aa z15.1 1)) (.c (.int .i64 1)))) (fun z28=>some (.inl ([Aa z15.1 0,z28,Aa z15.1 2,Aa z15.1 3,Aa z15.1 4,Aa z15.1 5,Aa z15.1 6,Aa z15.1 7,nI (Av (Al (Aa z15.1 8)) (Ae (As (Ae [z23]) (AG 0 [z23])))),.sl 1 (A9 (As (Al (Aa z15.1 8)) (Ap (Aa z15.1 9))) (As (Ae [z23]) (AG 0 [z23]))) false],z15.2))))))))))))))) (Ac (Af (Bh (PV.tup [.agg [Aa z15.1 6,Aa z15.1 7,AD 1 1 (Ap (Aa z15.1 9)) 0 (Al (Aa z15.1 8))],.int .i64 0])) (some (PV.tup [.agg [Aa z15.1 6,Aa z15.1 7,AD 1 1 (Ap (Aa z15.1 9)) 0 (Al (Aa z15.1 8))],.int .i64 0],z15.2))) (fun z29=>some (.inr z29))))))) (([.str g,I i,v,.bool false,.bool false,.nilS,.bool a.li,.bool false,nI acc.length,.sl 1 (Am acc) false],()):List PV×Unit) =
  some (.tup [w,I (match Ga (Cm g) (a.n.drop i) with | .inl c=>(Bw,c) | .inr r=>((⟨a.li,false,acc++r⟩:Arr),0)).2],())/\AK w (match Ga (Cm g) (a.n.drop i) with | .inl c=>(Bw,c) | .inr r=>((⟨a.li,false,acc++r⟩:Arr),0)).1:=by
 have lx:=BS h;intro m;induction m with
 | zero =>
  intro i acc hi ha;have hd0:a.n.drop i=[]:=aU (by omega);rw[hd0]
  have es:AD 1 1 (Am acc) 0 (Al (nI acc.length))=.sl 1 (Am acc) false:=by
   rw[FN,KF,ah];unfold AD;rw[if_pos ⟨rfl,by rw[BC];omega⟩,bB,av (by rw[BC];exact Z5 _)]
  refine⟨.agg [.bool a.li,.bool false,.sl 1 (Am acc) false],BW ?_,?_⟩
  ·have hlt:¬ ((i:Int) < (a.n.length:Int)):=by omega
   simp only[A4,Bc,BR h,lx.len,AS,bV,hlt,decide_false,Bv];show Ac (Af (Bh (PV.tup [.agg [.bool a.li,.bool false,AD 1 1 (Am acc) 0 (Al (nI acc.length))],.int .i64 0])) (some (PV.tup [.agg [.bool a.li,.bool false,AD 1 1 (Am acc) 0 (Al (nI acc.length))],.int .i64 0],()))) (fun z27=>some (Sum.inr z27))=_
   rw[es,show Bh (PV.tup [.agg [.bool a.li,.bool false,.sl 1 (Am acc) false],.int .i64 0])=true by
    show okV _=true;simp[okV,At,EX],AJ]
   rfl
  ·simp only[Ga,bz];exact .mk _ _ _ _ (.sl _ _)
 | succ m ih =>
  intro i acc hi ha;have hlt:i < a.n.length:=by omega
  have hlt':(i:Int) < (a.n.length:Int):=by omega
  have hir:=hin _ (ce hlt);rw[FV hlt];unfold Ga;by_cases hno:(Cm g a.n[i]).2.no=0
  ·simp only[hno,ne_eq,not_true_eq_false,if_false];rw[Dq (s':=([.str g,I ((i+1:Nat):Int),v,.bool false,.bool false,.nilS,.bool a.li,.bool false,nI (acc++[(Cm g a.n[i]).1]).length,.sl 1 (Am (acc++[(Cm g a.n[i]).1])) false],()))]
   ·obtain⟨w,h1,h2⟩:=ih (i+1) (acc++[(Cm g a.n[i]).1]) (by omega) (by simp[ha]);cases hm:Ga (Cm g) (a.n.drop (i+1)) with
    | inl c=>rw[hm] at h1 h2;exact⟨w,h1,h2⟩
    | inr r =>
     rw[hm] at h1 h2;simp only[aR,bM,aK] at h1 h2;exact⟨w,h1,h2⟩
   ·simp only[A7,A4,Bc,BR h,lx.len,AS,bV,hlt',decide_true,BN,lx.idx hlt,CG,VX g hir,Hi,Hh,iD,Ce,hno,bne_self_eq_false,Bv,O6,cT];show Af (Az (0+1) 1) (Af (Bi (Az (Al (nI acc.length)) (Am acc).length) (Az (Al (nI acc.length)+1) 2147483648)) _)=_;have e1:Al (nI acc.length)=acc.length:=by simp
    simp only[P7,N1,e1,BC];rw[show (decide (0+1<=1))=true from rfl,AJ,show (decide (acc.length<=acc.length)&&decide (acc.length+1<=2147483648))=true by simp;omega,AJ];simp only[BT,bV,Ct (by omega:i < 9223372036854775807)];show some (Sum.inl ([.str g,I ((i+1:Nat):Int),v,.bool false,.bool false,.nilS,.bool a.li,.bool false,nI (Al (nI acc.length)+1),.sl 1 ((Am acc).take (Al (nI acc.length))++[I (Cm g a.n[i]).1]) false],()))=_;rw[e1,av (by rw[BC];exact Z5 _),aF,show Am (acc++[(Cm g a.n[i]).1])=Am acc++[I (Cm g a.n[i]).1] by simp[Am]];rfl
  ·simp only[hno,ne_eq,not_false_eq_true,if_true];refine⟨EU,BW ?_,BB⟩;have hb:((Cm g a.n[i]).2.no != 0)=true:=by simpa using hno
   simp only[A7,A4,Bc,BR h,lx.len,AS,bV,hlt',decide_true,BN,lx.idx hlt,CG,VX g hir,Hi,Hh,iD,Ce,hb,IU];rfl
theorem rmonR {v:PV} {a:Arr} (hv:AK v a) (hla:a.n.length<=1000000) (hin:a.inr) (g:List UInt8) :
  ∃ w,Ax B0 .cl (.fn 21 []) [.str g,v]=some (.tup [w,I (Arr.mon g a).2])/\AK w (Arr.mon g a).1:=by
 have hok:At [.str g,v]=true:=by simp[At,okV,hv.ok]
 suffices key:∃ w,AM (AL B0 (fun _=>.cl)) fn21 (.cl) AP 0 [.cv (.str g),.cv v] ()=some (.tup [w,I (Arr.mon g a).2],())/\AK w (Arr.mon g a).1 by
  obtain⟨w,h1,h2⟩:=key;exact⟨w,call (d:=fun _=>.cl) rfl (by decide) hok rfl h1,h2⟩
 have lx:=BS hv;rw[run21];unfold wa wb wc wd we wf wg wh wi wj wk wo wr wv;rw[BZ hv,cT];simp only[Cq hv,Ks hv hla,rIsMon_run,ES hv,Cd hv,BR hv,lx.len,bV,Ca,An,IU,iD,Cz];unfold Arr.mon;cases hr:a.right with
 | false =>
  simp only[ax,if_true];exact⟨EU,rfl,BB⟩
 | true =>
  simp only[Z8,Z0,if_false,bX];cases hd:Dv g with
  | false =>
   simp only[ax,if_true];exact⟨EU,rfl,BB⟩
  | true =>
   simp only[Z8,Z0,if_false,bX];have fin:=rmonL_run hv hla hin g a.n.length 0 [] (by omega) rfl;simp only[bB,aK,b9,show Am []=[] from rfl] at fin;have bl:Ad (.build [.bool false,.bool false,.nilS] [(0,(1,.c (.bool a.li)))])=some (.agg [.bool a.li,.bool false,.nilS]):=rfl;have e0:decide ((0:Int) < (a.n.length:Int))=decide (0 < a.n.length):=by by_cases h:0 < a.n.length<;>simp[h]
   unfold Arr.text;rw[e0];simp only[bl,bV];rw[show AA (.agg [.bool a.li,.bool false,.nilS]) 3=true from rfl];simp only[cT];unfold CO;dsimp only [IC];rw[show AZ [.str g,I 0]=true from rfl];simp only[cT];cases hru:a.ru with
   | false =>
    simp only[bq,Z0,if_false];exact fin
   | true =>
    simp only[aE,if_true];by_cases h0:0 < a.n.length
    ·simp only[h0,decide_true,if_true];exact⟨EU,rfl,BB⟩
    ·simp only[h0,decide_false,Z0,if_false];exact fin
end Go.Ab.Derive2.Ar


namespace Go.Ab.Derive2.Ar
open Go Go.Ab Go.Ab.Derive2
theorem sz_1 {a b:Arr} (h:(a.sz b).2=0):(a.sz b).1.toNat=if a.li then a.n.length else b.n.length:=by
 unfold Arr.sz at h |-;cases hl:a.li<;>cases hr:b.li<;>simp[hl,hr] at h |-;split at h;·rename_i hh;simp[hh]
 ·cases h
theorem at_inr {a:Arr} (h:a.inr) {i:Nat} (hf:a.fits i):inR (a.at i):=by
 unfold Arr.at
 unfold Arr.fits at hf;cases hl:a.li with
 | true =>
  simp only[hl,if_true] at hf |-;rw[Z9,ab hf];exact h _ (ce hf)
 | false =>
  simp only[hl,if_false,Z0] at hf |-;rw[Z9,ab hf];exact h _ (ce hf)
theorem rdyL_run {v u:PV} {a b:Arr} (hv:AK v a) (hu:AK u b) (ha:a.inr) (hb:b.inr) (g:List UInt8) (li:Bool) (n:Nat) (hn:n<=1000000) (hf:∀ i,i < n->a.fits i/\b.fits i):∀ (m i:Nat) (acc:List Int),i+m=n->acc.length=i ->
  ∃ w,Bg (fun z44=>Ac (Ad (.bin .lss .num false (.c (Aa z44.1 2)) (.c (Aa z44.1 1)))) (fun z45=>Ah z45 (Ac (AU (Aa z44.1 3) 0 3 true) (fun z46=>Ac (Ax B0 .cl (.fn 54 []) [z46,Aa z44.1 2]) (fun z47=>Ac (AU (Aa z44.1 4) 0 3 true) (fun z48=>Ac (Ax B0 .cl (.fn 54 []) [z48,Aa z44.1 2]) (fun z49=>Ac (AU (Aa z44.1 3) 1 1 false) (fun z50=>Ac (AU (Aa z44.1 4) 1 1 false) (fun z51=>Ac (Ad (.bin .eql .bool false (.c z50) (.c z51))) (fun z52=>Ac (Ax B0 .cl (.fn 53 []) [Aa z44.1 0,z47,z49,z52]) (fun z53=>Ac (Ad (.extract 0 (.c z53))) (fun z54=>Ac (Ad (.extract 1 (.c z53))) (fun z55=>Ac (Ad (.bin .neq .num true (.c z55) (.c (.int .i64 0)))) (fun z56=>Ah z56 (Ac (Ad (.build [.bool false,.bool false,.nilS] [])) (fun z57=>Af (AA z57 3) (Ac (some (PV.tup [.agg [Ai z57 0,Ai z57 1,Ai z57 2],z55],z44.2)) (fun z58=>some (.inr z58))))) (Af (AT 1 [z54]) (Af (Az (Av 0 (Ae [z54])) (Ae [z54])) (Af (Bi (Az (Al (Aa z44.1 10)) (Ae (Ap (Aa z44.1 11)))) (Az (Av (Al (Aa z44.1 10)) (Ae (As (Ae [z54]) (AG 0 [z54])))) 2147483648)) (Ac (Ad (.bin .add .num true (.c (Aa z44.1 2)) (.c (.int .i64 1)))) (fun z59=>some (.inl ([Aa z44.1 0,Aa z44.1 1,z59,Aa z44.1 3,Aa z44.1 4,Aa z44.1 5,Aa z44.1 6,Aa z44.1 7,Aa z44.1 8,Aa z44.1 9,nI (Av (Al (Aa z44.1 10)) (Ae (As (Ae [z54]) (AG 0 [z54])))),.sl 1 (A9 (As (Al (Aa z44.1 10)) (Ap (Aa z44.1 11))) (As (Ae [z54]) (AG 0 [z54]))) false],z44.2))))))))))))))))))) (Ac (Af (Bh (PV.tup [.agg [Aa z44.1 8,Aa z44.1 9,AD 1 1 (Ap (Aa z44.1 11)) 0 (Al (Aa z44.1 10))],.int .i64 0])) (some (PV.tup [.agg [Aa z44.1 8,Aa z44.1 9,AD 1 1 (Ap (Aa z44.1 11)) 0 (Al (Aa z44.1 10))],.int .i64 0],z44.2))) (fun z60=>some (.inr z60))))) (([.str g,I n,I i,v,u,.bool false,.bool false,.nilS,.bool li,.bool false,nI acc.length,.sl 1 (Am acc) false],()):List PV×Unit) =
  some (.tup [w,I (match DQ (B6 g (a.ru != b.ru)) (Dc a b i m) with | .inl c=>(Bw,c) | .inr r=>((⟨li,false,acc++r⟩:Arr),0)).2],())/\AK w (match DQ (B6 g (a.ru != b.ru)) (Dc a b i m) with | .inl c=>(Bw,c) | .inr r=>((⟨li,false,acc++r⟩:Arr),0)).1:=by
 intro m;induction m with
 | zero =>
  intro i acc hi hacc
  have es:AD 1 1 (Am acc) 0 (Al (nI acc.length))=.sl 1 (Am acc) false:=by
   rw[FN,KF,ah];unfold AD;rw[if_pos ⟨rfl,by rw[BC];omega⟩,bB,av (by rw[BC];exact Z5 _)]
  refine⟨.agg [.bool li,.bool false,.sl 1 (Am acc) false],BW ?_,?_⟩
  ·have hlt:¬ ((i:Int) < (n:Int)):=by omega
   simp only[A4,Bc,AS,bV,hlt,decide_false,Bv];show Ac (Af (Bh (PV.tup [.agg [.bool li,.bool false,AD 1 1 (Am acc) 0 (Al (nI acc.length))],.int .i64 0])) (some (PV.tup [.agg [.bool li,.bool false,AD 1 1 (Am acc) 0 (Al (nI acc.length))],.int .i64 0],()))) (fun z27=>some (Sum.inr z27))=_
   rw[es,show Bh (PV.tup [.agg [.bool li,.bool false,.sl 1 (Am acc) false],.int .i64 0])=true by
    show okV _=true;simp[okV,At,EX],AJ]
   simp only[Dc,DQ];rfl
  ·simp only[Dc,DQ,bz];exact .mk _ _ _ _ (.sl _ _)
 | succ m ih =>
  intro i acc hi hacc;have hlt':(i:Int) < (n:Int):=by omega
  obtain⟨fa,fb⟩:=hf i (by omega);have hr:=rone_run g (at_inr ha fa) (at_inr hb fb) (a.ru==b.ru);have en:(!(a.ru==b.ru))=(a.ru != b.ru):=rfl;rw[en] at hr;unfold Dc DQ;by_cases hno:(B6 g (a.ru != b.ru) (a.at i) (b.at i)).2.no=0
  ·simp only[hno,ne_eq,not_true_eq_false,if_false];rw[Dq (s':=([.str g,I n,I ((i+1:Nat):Int),v,u,.bool false,.bool false,.nilS,.bool li,.bool false,nI (acc++[(B6 g (a.ru != b.ru) (a.at i) (b.at i)).1]).length,.sl 1 (Am (acc++[(B6 g (a.ru != b.ru) (a.at i) (b.at i)).1])) false],()))]
   ·obtain⟨w,h1,h2⟩:=ih (i+1) (acc++[(B6 g (a.ru != b.ru) (a.at i) (b.at i)).1]) (by omega) (by simp[hacc]);cases hm:DQ (B6 g (a.ru != b.ru)) (Dc a b (i+1) m) with
    | inl c=>rw[hm] at h1 h2;exact⟨w,h1,h2⟩
    | inr r =>
     rw[hm] at h1 h2;simp only[aR,bM,aK] at h1 h2;exact⟨w,h1,h2⟩
   ·simp only[A7,A4,Bc,BD,Cl,AS,bV,hlt',decide_true,BN,Cq hv,Cq hu,Cd hv,Cd hu,O3 hv fa,O3 hu fb,Iz,hr,Hi,Hh,iD,Ce,hno,bne_self_eq_false,Bv,O6,cT];show Af (Az (0+1) 1) (Af (Bi (Az (Al (nI acc.length)) (Am acc).length) (Az (Al (nI acc.length)+1) 2147483648)) _)=_;have e1:Al (nI acc.length)=acc.length:=by simp
    simp only[P7,N1,e1,BC];rw[show (decide (0+1<=1))=true from rfl,AJ,show (decide (acc.length<=acc.length)&&decide (acc.length+1<=2147483648))=true by simp;omega,AJ];simp only[BT,bV,Ct (by omega:i < 9223372036854775807)];show some (Sum.inl ([.str g,I n,I ((i+1:Nat):Int),v,u,.bool false,.bool false,.nilS,.bool li,.bool false,nI (Al (nI acc.length)+1),.sl 1 ((Am acc).take (Al (nI acc.length))++[I (B6 g (a.ru != b.ru) (a.at i) (b.at i)).1]) false],()))=_;rw[e1,av (by rw[BC];exact Z5 _),aF,show Am (acc++[(B6 g (a.ru != b.ru) (a.at i) (b.at i)).1])=Am acc++[I (B6 g (a.ru != b.ru) (a.at i) (b.at i)).1] by simp[Am]];rfl
  ·simp only[hno,ne_eq,not_false_eq_true,if_true];refine⟨EU,BW ?_,BB⟩;have hb':((B6 g (a.ru != b.ru) (a.at i) (b.at i)).2.no != 0)=true:=by simpa using hno
   simp only[A7,A4,Bc,BD,Cl,AS,bV,hlt',decide_true,BN,Cq hv,Cq hu,Cd hv,Cd hu,O3 hv fa,O3 hu fb,Iz,hr,Hi,Hh,iD,Ce,hb',IU];rfl
theorem rlen_run {v u:PV} {a b:Arr} (hv:AK v a) (hu:AK u b):Ac (AU v 0 1 false) (fun z12=>Ah z12 (Ac (AU u 0 1 false) (fun z13=>Ah z13 (Ac (AU v 2 1 false) (fun z14=>Ac (Ad (.len .slice (.c z14))) (fun z15=>Ac (AU u 2 1 false) (fun z16=>Ac (Ad (.len .slice (.c z16))) (fun z17=>Ac (Ad (.bin .neq .num false (.c z15) (.c z17))) (fun z18=>some z18)))))) (some (PV.bool false)))) (some (PV.bool false)))=some (.bool (decide ((a.sz b).2≠0))):=by
 have lx:=BS hv;have ly:=BS hu;simp only[ES hv,ES hu,BR hv,BR hu,lx.len,ly.len,bV,Ce,An]
 have e:((a.n.length:Int) != (b.n.length:Int))=decide (a.n.length≠b.n.length):=by
  by_cases h:a.n.length=b.n.length
  ·simp[h]
  ·have:¬ (a.n.length:Int)=(b.n.length:Int):=by omega
   simp[h,this]
 rw[e];unfold Arr.sz;cases a.li<;>cases b.li<;>simp;by_cases h:a.n.length=b.n.length<;>simp[h]
theorem rtext_run (g:List UInt8) {v u:PV} {a b:Arr} (hv:AK v a) (hu:AK u b):Ac (Ad (.bin .neq .str true (.c (.str g)) (.c (.str [61])))) (fun z21=>Ah z21 (Ac (Ad (.bin .neq .str true (.c (.str g)) (.c (.str [226,137,160])))) (fun z22=>Ah z22 (Ac (AU v 1 1 false) (fun z23=>Ah z23 (Ac (AU v 2 1 false) (fun z24=>Ac (Ad (.len .slice (.c z24))) (fun z25=>Ac (Ad (.bin .gtr .num true (.c z25) (.c (.int .i64 0)))) (fun z26=>Ah z26 (some (PV.bool true)) (Ac (AU u 1 1 false) (fun z27=>Ah z27 (Ac (AU u 2 1 false) (fun z28=>Ac (Ad (.len .slice (.c z28))) (fun z29=>Ac (Ad (.bin .gtr .num true (.c z29) (.c (.int .i64 0)))) (fun z30=>some z30)))) (some (PV.bool false)))))))) (Ac (AU u 1 1 false) (fun z31=>Ah z31 (Ac (AU u 2 1 false) (fun z32=>Ac (Ad (.len .slice (.c z32))) (fun z33=>Ac (Ad (.bin .gtr .num true (.c z33) (.c (.int .i64 0)))) (fun z34=>some z34)))) (some (PV.bool false)))))) (some (PV.bool false)))) (some (PV.bool false)))=some (.bool (!Arr.isEq g&&(a.text||b.text))):=by
 have lx:=BS hv;have ly:=BS hu;simp only[Cd hv,Cd hu,BR hv,BR hu,lx.len,ly.len,bV,pure_nes,An,iD,Cz];have e0:decide ((0:Int) < (a.n.length:Int))=decide (0 < a.n.length):=by by_cases h:0 < a.n.length<;>simp[h]
 have e1:decide ((0:Int) < (b.n.length:Int))=decide (0 < b.n.length):=by by_cases h:0 < b.n.length<;>simp[h]
 rw[e0,e1];unfold Arr.text Arr.isEq;rw[show (g==Co)=(g==[61]) from rfl,show (g==CR)=(g==[226,137,160]) from rfl];cases g==[61]<;>cases g==[226,137,160]<;>cases a.ru<;>cases b.ru<;>cases decide (0 < a.n.length)<;>simp
theorem dyL_sub {g:List UInt8} {a b:Arr} {n:Nat} (hf:∀ i,i < n->a.fits i/\b.fits i) (ht:(!Arr.isEq g&&(a.text||b.text))=false) :
  DQ (B6 g (Arr.isEq g&&(a.ru != b.ru))) (Dc a b 0 n)=DQ (B6 g (a.ru != b.ru)) (Dc a b 0 n):=by
 cases he:Arr.isEq g with
 | true=>rw[aE]
 | false =>
  simp only[he,ax,aE,bD] at ht;cases n with
  | zero=>rfl
  | succ n =>
   obtain⟨fa,fb⟩:=hf 0 (by omega)
   have pos:∀ c:Arr,c.fits 0->c.text=false->c.ru=false:=by
    intro c hc htx;unfold Arr.text at htx;unfold Arr.fits at hc
    have:0 < c.n.length:=by
     cases hl:c.li with
     | true=>simpa[hl] using hc
     | false=>simpa[hl] using hc
    simpa[this] using htx
   rw[pos a fa ht.1,pos b fb ht.2];rfl
theorem sz_110 {a b:Arr} (h:(a.sz b).2≠0):(a.sz b).2=110:=by
 unfold Arr.sz at h |-;by_cases c:(a.li&&(b.li&&decide (a.n.length≠b.n.length)))=true
 ·rw[if_pos c]
 ·rw[if_neg c] at h;exfalso;apply h;cases a.li<;>rfl
set_option maxHeartbeats 2000000 in
theorem rdyR {v u:PV} {a b:Arr} (hv:AK v a) (hu:AK u b) (hla:a.n.length<=1000000) (hlb:b.n.length<=1000000) (ha:a.inr) (hb:b.inr) (g:List UInt8) :
  ∃ w,Ax B0 .cl (.fn 27 []) [.str g,v,u]=some (.tup [w,I (Arr.dy g a b).2])/\AK w (Arr.dy g a b).1:=by
 have hok:At [.str g,v,u]=true:=by simp[At,okV,hv.ok,hu.ok]
 suffices key:∃ w,AM (AL B0 (fun _=>.cl)) fn27 (.cl) AP 0 [.cv (.str g),.cv v,.cv u] ()=some (.tup [w,I (Arr.dy g a b).2],())/\AK w (Arr.dy g a b).1 by
  obtain⟨w,h1,h2⟩:=key;exact⟨w,call (d:=fun _=>.cl) rfl (by decide) hok rfl h1,h2⟩
 have lx:=BS hv;have ly:=BS hu;rw[run27];unfold wa wb wc wd we wf wg wi wj wk wo wt wv;rw[BZ hv,BZ hu,cT,cT,rlen_run hv hu,rtext_run g hv hu];simp only[Cq hv,Cq hu,Ks hv hla,Ks hu hlb,rIsDy_run,ES hv,ES hu,BR hv,BR hu,lx.len,ly.len,bV,Ca,An,IU,iD];unfold Arr.dy;cases hr:a.right with
 | false =>
  simp only[ax,if_true,bq];exact⟨EU,rfl,BB⟩
 | true =>
  simp only[Z8,Z0,if_false,aE];cases hr2:b.right with
  | false =>
   simp only[ax,if_true];exact⟨EU,rfl,BB⟩
  | true =>
   simp only[Z8,Z0,if_false,bX];cases hd:Ck g with
   | false =>
    simp only[ax,if_true];exact⟨EU,rfl,BB⟩
   | true =>
    simp only[Z8,Z0,if_false,bX];by_cases hs:(a.sz b).2=0
    ·simp only[hs,ne_eq,not_true_eq_false,decide_false,Z0,if_false];cases ht:(!Arr.isEq g&&(a.text||b.text)) with
     | true =>
      simp only[if_true];exact⟨EU,rfl,BB⟩
     | false =>
      simp only[Z0,if_false];obtain⟨z1,z2,z3⟩:=SM hr hr2 hs;rw[dyL_sub z3 ht];have hsz:=sz_1 hs;have fin:=fun li=>rdyL_run hv hu ha hb g li (a.sz b).1.toNat (by omega) z3 (a.sz b).1.toNat 0 [] (by omega) rfl;rw[hsz] at fin |-;simp only[aK,b9,show Am []=[] from rfl] at fin;have bl:∀ li:Bool,Ad (.build [.bool false,.bool false,.nilS] [(0,(1,.c (.bool li)))])=some (.agg [.bool li,.bool false,.nilS]):=fun li=>rfl;have ok3:∀ li:Bool,AA (.agg [.bool li,.bool false,.nilS]) 3=true:=fun li=>rfl;have nu:∀ k:Int,AZ [.str g,I k,I 0]=true:=fun k=>rfl;simp only[bl,bV,ok3,cT];unfold CO;dsimp only [IC];simp only[nu,cT];cases hli:a.li with
      | true =>
       simp only[hli,if_true,bO] at fin |-;exact fin true
      | false =>
       simp only[hli,if_false,aV,Z0] at fin |-;exact fin b.li
    ·simp only[hs,ne_eq,not_false_eq_true,decide_true,if_true];have e:(a.sz b).2=110:=sz_110 hs;rw[e];exact⟨EU,rfl,BB⟩
end Go.Ab.Derive2.Ar

