/-
  Part 11 of a proof: a machine of our own for the given program, its laws, and what it says of the program. Nothing here is a claim by itself.
-/
import Derived.Test.YtbeonejdegijfaaGreatDoorK06
import Derived.Test.YtbeonejdegijfaaGreatDoorK10
import Derived.Test.YtbeonejdegijfaaGreatDoorK05
set_option linter.all false

namespace Go.Ab.Derive2
open Go Go.Ab
theorem shown_run:Al B0 .cl (.fn 11 []) []=some (.bool true):=by
 obtain⟨n,h⟩:=ev_shown;exact Cv (by decide) h rfl rfl
def Af.cut (a:Af):Af:=⟨a.li,a.ru,a.n.take 40⟩
theorem cut_get {a:Af} {x:PV} (hx:A5 x a.n):∃ y,Ad (.slice 1 (.c x) none (some (.c (I (min a.n.length 40:Nat)))) none)=some y/\A5 y a.cut.n:=by
 obtain⟨y,hy,hl⟩:=hx.hi (k:=min a.n.length 40) (by omega);refine⟨y,hy,?_⟩
 have e:a.n.take (min a.n.length 40)=a.n.take 40:=by
  rcases Nat.le_total a.n.length 40 with h | h;·rw[cq h,dN,b8 h]
  ·rw[eM h]
 rw[e] at hl;exact hl
theorem cut_len (a:Af):a.cut.n.length<=40:=by unfold Af.cut;rw[cR];omega
theorem okSto_cut {b c:Bool} {x y:PV} {l:List Int} (h:A5 y l):QB y (.agg [.bool b,.bool c,x]) 2 1=true:=by
 cases h<;>rfl
theorem stoP_cut {b c:Bool} {x y:PV} {l:List Int} (h:A5 y l):Gm y (.agg [.bool b,.bool c,x]) 2=.agg [.bool b,.bool c,y]:=by
 cases h<;>rfl
end Go.Ab.Derive2


namespace Go.Ab.Derive2
open Go Go.Ab
theorem N8 {b:Af} (hr:b.right=true):(b.li=false->b.n.length=1)/\b.n.length<=200:=by
 refine⟨fun h=>?_,SY hr⟩;unfold Af.right at hr;simp only[bB,h] at hr;simpa using hr.2
end Go.Ab.Derive2


namespace Go.Ab.Derive2
open Go Go.Ab
inductive EL:PV->Af->Af->Prop
 | mk (l1 r1 l2 r2:Bool) (x y:PV) (b a:List Int) (hx:A5 x b) (hy:A5 y a):EL (.agg [.bool l1,.bool r1,x,.bool l2,.bool r2,y]) ⟨l1,r1,b⟩ ⟨l2,r2,a⟩
theorem Oh (a b c d e f:PV):BE [a,b,c,d,e,f] 1 1 false=some b:=rfl
theorem sel6_0 (a b c d e f:PV):BE [a,b,c,d,e,f] 0 1 false=some a:=rfl
theorem Gb (a b c d e f:PV):BE [a,b,c,d,e,f] 2 1 false=some c:=rfl
theorem TX (a b c d e f:PV):BE [a,b,c,d,e,f] 3 1 false=some d:=rfl
theorem Qe (a b c d e f:PV):BE [a,b,c,d,e,f] 4 1 false=some e:=rfl
theorem Qd (a b c d e f:PV):BE [a,b,c,d,e,f] 5 1 false=some f:=rfl
theorem Iy (a b c d e f:PV):BE [a,b,c,d,e,f] 0 3 true=some (.agg [a,b,c]):=rfl
theorem H4 (a b c d e f:PV):BE [a,b,c,d,e,f] 3 3 true=some (.agg [d,e,f]):=rfl
theorem Jw (a b c d e f:PV):BE [a,b,c,d,e,f] 0 6 true=some (.agg [a,b,c,d,e,f]):=rfl
end Go.Ab.Derive2


namespace Go.Ab.Derive2
open Go Go.Ab
end Go.Ab.Derive2


namespace Go.Ab.Derive2
open Go Go.Ab
end Go.Ab.Derive2


set_option maxRecDepth 100000
namespace Go.Ab
open Go
theorem run6 (B:KB) {E:Type} (h:Ay E) (dep:Nat) (e:E) (x0:PV) (x1:PV) :
  AR (AI B (fun _=>.cl)) fn6 (.cl) h dep [.cv x0,.cv x1] e =
  Ae (A3 x1) (Ac (Al B .cl (.fn 11 []) []) (fun z1=>Ac (Am x1 2 1 false) (fun z2=>Ac (Am x1 2 1 false) (fun z3=>Ac (Ad (.len .slice (.c z3))) (fun z4
  => Ac (Ad (.minmax false [.c z4,.c (.int .i64 40)])) (fun z5=>Ac (Ad (.slice 1 (.c z2) none (some (.c z5)) none)) (fun z6=>Ae (QB z6 x1 2 1) (Ac (Al B
  .cl (.fn 14 []) [x0]) (fun z7=>Ac (Am (Gm z6 x1 2) 0 3 true) (fun z8=>Ac (Al B .cl (.fn 19 []) [z7,z8]) (fun z9=>Ac (Ad (.extract 0 (.c z9))) (fun z10 =>
  Ac (Ad (.extract 1 (.c z9))) (fun z11=>Ae (AF z10 3) (Ac (Al B .cl (.fn 14 []) [x0]) (fun z12=>Ac (Am (Gm z6 x1 2) 0 3 true) (fun z13=>Ac (Al
  B .cl (.fn 21 []) [z12,z13]) (fun z14=>Ac (Ad (.extract 0 (.c z14))) (fun z15=>Ac (Ad (.extract 1 (.c z14))) (fun z16=>Ae (AF z15 3) (Ac (Al B .cl
  (.fn 14 []) [x0]) (fun z17=>Ac (Am (Gm z6 x1 2) 0 3 true) (fun z18=>Ac (Al B .cl (.fn 23 []) [z17,z18]) (fun z19=>Ac (Ad (.extract 0 (.c z19))) (fun z20
  => Ac (Ad (.extract 1 (.c z19))) (fun z21=>Ae (AF z20 3) (Ac (Am (Gm z6 x1 2) 0 3 true) (fun z22=>Ac (Al B .cl (.fn 27 []) [z22]) (fun z23=>Ac
  (Ad (.un .not (.c z23))) (fun z24=>Ar z24 (Ac (Ar z1 (Ac (Ad (.bin .eql .num true (.c z11) (.c (.int .i64 114)))) (fun z25=>Ar z25 (Ac (Ad (.bin .eql
  .num false (.c z16) (.c z11))) (fun z26=>Ar z26 (Ac (Ad (.bin .eql .num false (.c z21) (.c z11))) (fun z27=>some z27)) (some (.bool false)))) (some (.bool false))))
  (some (.bool false))) (fun z28=>some (z28,e))) (Ar z1 (Ac (Ad (.bin .eql .num true (.c z11) (.c (.int .i64 0)))) (fun z29=>Ac (Al B .cl (.fn 27 []) [.agg [Ah
  z10 0,Ah z10 1,Ah z10 2]]) (fun z30=>Ac (Ad (.bin .eql .bool false (.c z29) (.c z30))) (fun z31=>Ar z31 (Ac (Ad (.bin .eql .num true (.c z16) (.c (.int
  .i64 0)))) (fun z32=>Ac (Al B .cl (.fn 27 []) [.agg [Ah z15 0,Ah z15 1,Ah z15 2]]) (fun z33=>Ac (Ad (.bin .eql .bool false (.c z32) (.c z33))) (fun z34
  => Ar z34 (Ac (Ad (.bin .eql .num true (.c z21) (.c (.int .i64 0)))) (fun z35=>Ac (Al B .cl (.fn 27 []) [.agg [Ah z20 0,Ah z20 1,Ah z20 2]]) (fun z36 =>
  Ac (Ad (.bin .eql .bool false (.c z35) (.c z36))) (fun z37=>Ar z37 (Ac (Ad (.bin .neq .num true (.c z16) (.c (.int .i64 0)))) (fun z38=>Ar z38 (Ac (Ad
  (.bin .neq .num true (.c z21) (.c (.int .i64 0)))) (fun z39=>Ar z39 (some (.bool true,e)) (Ac (Ad (.len .slice (.c (Ah z20 2)))) (fun z40=>Ac (Am (Gm z6 x1
  2) 2 1 false) (fun z41=>Ac (Ad (.len .slice (.c z41))) (fun z42=>Ac (Ad (.bin .eql .num false (.c z40) (.c z42))) (fun z43=>some (z43,e)))))))) (Ac (Ad
  (.len .slice (.c (Ah z15 2)))) (fun z44=>Ac (Am (Gm z6 x1 2) 2 1 false) (fun z45=>Ac (Ad (.len .slice (.c z45))) (fun z46=>Ac (Ad (.bin .eql .num false
  (.c z44) (.c z46))) (fun z47=>Ar z47 (Ac (Am (Gm z6 x1 2) 0 1 false) (fun z48=>Ac (Ad (.bin .eql .bool false (.c (Ah z15 0)) (.c z48))) (fun z49=>Ar z49
  (Ac (Ad (.bin .neq .num true (.c z21) (.c (.int .i64 0)))) (fun z50=>Ar z50 (some (.bool true,e)) (Ac (Ad (.len .slice (.c (Ah z20 2)))) (fun z51=>Ac (Am
  (Gm z6 x1 2) 2 1 false) (fun z52=>Ac (Ad (.len .slice (.c z52))) (fun z53=>Ac (Ad (.bin .eql .num false (.c z51) (.c z53))) (fun z54=>some (z54,e)))))))) (some
  (.bool false,e))))) (some (.bool false,e))))))))) (some (.bool false,e)))))) (some (.bool false,e)))))) (some (.bool false,e)))))) (some (.bool false,
  e)))))))))))))))))))))))))))))))):=by kernel_rfl
theorem run37 (B:KB) {E:Type} (h:Ay E) (dep:Nat) (e:E) (x0:PV) (x1:PV) :
  AR (AI B (fun _=>.cl)) fn37 (.cl) h dep [.cv x0,.cv x1] e =
  Ae (A3 x1) (Ac (Al B .cl (.fn 66 []) []) (fun z1=>Ac (Ad (.lookup .str (.agg [.nilF,.nilF]) false (.c z1) (.c x0))) (fun z2=>Ae (AF z2 2) (Ac (Am
  x1 0 3 true) (fun z3=>Ae (AY 3 [z3]) (Ac (Bs B .cl true 67 [AN 3 3 [z3] 0 (Ai [z3])]) (fun z4=>Ac (Ad (.un .not (.c z4))) (fun z5=>Ar z5 (some (.tup
  [.agg [.bool false,.bool false,.nilS],.int .i64 114],e)) (Ac (Ad (.bin .eql .func true (.c (Ah z2 0)) (.c .nilF))) (fun z6=>Ar z6 (some (.tup [.agg [.bool false,
  .bool false,.nilS],.int .i64 102],e)) (Ac (Am x1 0 3 true) (fun z7=>Ac (Al B .cl (Ah z2 0) [z7]) (fun z8=>Ac (Ad (.extract 0 (.c z8))) (fun z9=>Ac
  (Ad (.extract 1 (.c z8))) (fun z10=>Ae (AF z9 3) (Ac (Al B .cl (.fn 68 []) [z10]) (fun z11=>some (.tup [.agg [Ah z9 0,Ah z9 1,Ah z9 2],z11],
  e)))))))))))))))))):=by kernel_rfl
theorem run111 (B:KB) {E:Type} (h:Ay E) (dep:Nat) (e:E) (x0:PV) :
  AR (AI B (fun _=>.cl)) fn111 (.cl) h dep [.cv x0] e =
  Ae (A3 x0) (Ac (Am x0 0 1 false) (fun z1=>Ac (Ad (.un .not (.c z1))) (fun z2=>Ar z2 (Ac (Al B .cl (.fn 160 []) [.nilS]) (fun z3=>Ae (AF z3 3)
  (some (.tup [.agg [Ah z3 0,Ah z3 1,Ah z3 2],.nilI],e)))) (Ac (Am x0 2 1 false) (fun z4=>Ac (Ad (.len .slice (.c z4))) (fun z5=>Ae (AY 1 [z5])
  (Ac (Bs B .cl false 160 [AN 1 1 [z5] 0 (Ai [z5])]) (fun z6=>Ae (AF z6 3) (some (.tup [.agg [Ah z6 0,Ah z6 1,Ah z6 2],.nilI],e)))))))))):=by kernel_rfl
theorem Qf (B:KB) {E:Type} (h:Ay E) (dep:Nat) (e:E) (x0:PV) :
  AR (AI B (fun _=>.cl)) fn112 (.cl) h dep [.cv x0] e =
  Ae (A3 x0) (Ac (Am x0 0 6 true) (fun z1=>Ac (Al B .cl (.fn 161 []) [z1,.int .i64 (-9223372036854775808),.int .i64 200]) (fun z2=>Ac (Ad (.extract 0 (.c
  z2))) (fun z3=>Ac (Ad (.extract 1 (.c z2))) (fun z4=>Ac (Ac (Ad (.bin .eql .iface true (.c z4) (.c .nilI))) (fun z5=>Ar z5 (Ac (Ad (.bin .lss .num true
  (.c z3) (.c (.int .i64 0)))) (fun z6=>some z6)) (some (.bool false)))) (fun z7=>Ar z7 (Ac (Ad (.build [.int .i64 0] [(0,(1,.c (.int .i64 102)))])) (fun z8=>Ac
  (Ad (.bin .neq .iface true (.c (.iface 153 z8)) (.c .nilI))) (fun z9=>Ar z9 (some (.tup [.agg [.bool false,.bool false,.nilS],.iface 153 z8],e)) (Ac (Ad (.build
  [.int .i64 0] [(0,(1,.c (.int .i64 110)))])) (fun z10=>Ac (Ac (Ad (.bin .gtr .num true (.c z3) (.c (.int .i64 0)))) (fun z11=>Ar z11 (Ac (Am x0 2 1 false)
  (fun z12=>Ac (Ad (.len .slice (.c z12))) (fun z13=>Ac (Ad (.bin .eql .num true (.c z13) (.c (.int .i64 0)))) (fun z14=>some z14)))) (some (.bool false)))) (fun
  z15=>Ar z15 (some (.tup [.agg [.bool false,.bool false,.nilS],.iface 153 z10],e)) (Ae (Bp [nI 0,z3,.int .i64 0]) (BL (fun z16=>Ac (Ad (.bin .lss .num
  false (.c (Aa z16.1 2)) (.c (Aa z16.1 1)))) (fun z17=>Ar z17 (Ac (Am (Aa z16.1 3) 2 1 false) (fun z18=>Ac (Am (Aa z16.1 3) 2 1 false) (fun z19=>Ac (Ad
  (.len .slice (.c z19))) (fun z20=>Ac (Ad (.bin .rem .num false (.c (Aa z16.1 2)) (.c z20))) (fun z21=>Ac (Ad (.idxAddr 1 (.c z18) (.c z21))) (fun z22=>Ac
  (Ad (.load 1 false (.c z22))) (fun z23=>Ae (AY 1 [z23]) (Ae (AO (AG 0 (Ai [z23])) (Ai [z23])) (Ae (BG (AO (An (Aa z16.1 0)) (Ai (Av (Aa z16.1
  7)))) (AO (AG (An (Aa z16.1 0)) (Ai (AE (Ai [z23]) (AS 0 [z23])))) 2147483648)) (Ac (Ad (.bin .add .num true (.c (Aa z16.1 2)) (.c (.int .i64 1)))) (fun z24
  => some (.inl ([nI (AG (An (Aa z16.1 0)) (Ai (AE (Ai [z23]) (AS 0 [z23])))),Aa z16.1 1,z24,Aa z16.1 3,Aa z16.1 4,Aa z16.1 5,Aa z16.1 6,.sl 1 (BC (AE
  (An (Aa z16.1 0)) (Av (Aa z16.1 7))) (AE (Ai [z23]) (AS 0 [z23]))) false],z16.2))))))))))))) (Ac (Ac (Am (Aa z16.1 3) 0 3 true) (fun z25=>Ac (Bs B
  .cl false 116 [z25,AN 1 1 (Av (Aa z16.1 7)) 0 (An (Aa z16.1 0))]) (fun z26=>Ae (AF z26 3) (some (.tup [.agg [Ah z26 0,Ah z26 1,Ah z26 2],.nilI],
  z16.2))))) (fun z27=>some (.inr z27))))) ([nI 0,z3,.int .i64 0,x0,.bool false,.bool false,.nilS,.sl 1 [] false],e))))))))) (Ac (Ad (.bin .neq .iface true (.c z4)
  (.c .nilI))) (fun z28=>Ar z28 (some (.tup [.agg [.bool false,.bool false,.nilS],z4],e)) (Ac (Ad (.build [.int .i64 0] [(0,(1,.c (.int .i64 110)))])) (fun z29 =>
  Ac (Ac (Ad (.bin .gtr .num true (.c z3) (.c (.int .i64 0)))) (fun z30=>Ar z30 (Ac (Am x0 2 1 false) (fun z31=>Ac (Ad (.len .slice (.c z31))) (fun z32 =>
  Ac (Ad (.bin .eql .num true (.c z32) (.c (.int .i64 0)))) (fun z33=>some z33)))) (some (.bool false)))) (fun z34=>Ar z34 (some (.tup [.agg [.bool false,.bool false,
  .nilS],.iface 153 z29],e)) (Ae (Bp [nI 0,z3,.int .i64 0]) (BL (fun z35=>Ac (Ad (.bin .lss .num false (.c (Aa z35.1 2)) (.c (Aa z35.1 1)))) (fun z36=>Ar
  z36 (Ac (Am (Aa z35.1 3) 2 1 false) (fun z37=>Ac (Am (Aa z35.1 3) 2 1 false) (fun z38=>Ac (Ad (.len .slice (.c z38))) (fun z39=>Ac (Ad (.bin .rem .num
  false (.c (Aa z35.1 2)) (.c z39))) (fun z40=>Ac (Ad (.idxAddr 1 (.c z37) (.c z40))) (fun z41=>Ac (Ad (.load 1 false (.c z41))) (fun z42=>Ae (AY 1 [z42])
  (Ae (AO (AG 0 (Ai [z42])) (Ai [z42])) (Ae (BG (AO (An (Aa z35.1 0)) (Ai (Av (Aa z35.1 7)))) (AO (AG (An (Aa z35.1 0)) (Ai (AE (Ai [z42]) (AS
  0 [z42])))) 2147483648)) (Ac (Ad (.bin .add .num true (.c (Aa z35.1 2)) (.c (.int .i64 1)))) (fun z43=>some (.inl ([nI (AG (An (Aa z35.1 0)) (Ai (AE (Ai [z42])
  (AS 0 [z42])))),Aa z35.1 1,z43,Aa z35.1 3,Aa z35.1 4,Aa z35.1 5,Aa z35.1 6,.sl 1 (BC (AE (An (Aa z35.1 0)) (Av (Aa z35.1 7))) (AE (Ai [z42]) (AS
  0 [z42]))) false],z35.2))))))))))))) (Ac (Ac (Am (Aa z35.1 3) 0 3 true) (fun z44=>Ac (Bs B .cl false 116 [z44,AN 1 1 (Av (Aa z35.1 7)) 0 (An (Aa z35.1
  0))]) (fun z45=>Ae (AF z45 3) (some (.tup [.agg [Ah z45 0,Ah z45 1,Ah z45 2],.nilI],z35.2))))) (fun z46=>some (.inr z46))))) ([nI 0,z3,.int .i64 0,x0,
  .bool false,.bool false,.nilS,.sl 1 [] false],e)))))))))))))):=by kernel_rfl
theorem run113 (B:KB) {E:Type} (h:Ay E) (dep:Nat) (e:E) (x0:PV) :
  AR (AI B (fun _=>.cl)) fn113 (.cl) h dep [.cv x0] e =
  Ae (A3 x0) (Ac (Am x0 0 3 true) (fun z1=>Ac (Al B .cl (.fn 162 []) [z1]) (fun z2=>Ac (Ad (.extract 0 (.c z2))) (fun z3=>Ac (Ad (.extract 1 (.c
  z2))) (fun z4=>Ac (Ad (.bin .neq .iface true (.c z4) (.c .nilI))) (fun z5=>Ar z5 (some (.tup [.agg [.bool false,.bool false,.nilS],z4],e)) (Ac (Ad (.bin .lss
  .num true (.c z3) (.c (.int .i64 0)))) (fun z6=>Ar z6 (Ac (Ad (.build [.int .i64 0] [(0,(1,.c (.int .i64 102)))])) (fun z7=>some (.tup [.agg [.bool false,.bool
  false,.nilS],.iface 153 z7],e))) (Ac (Ad (.bin .gtr .num true (.c z3) (.c (.int .i64 200)))) (fun z8=>Ar z8 (Ac (Ad (.build [.int .i64 0] [(0,(1,.c (.int .i64
  113)))])) (fun z9=>some (.tup [.agg [.bool false,.bool false,.nilS],.iface 153 z9],e))) (Ac (Al B .cl (.fn 160 []) [.nilS]) (fun z10=>Ae (AF z10 3) (DY
  (Ah z10 2) (Ae (Bp [z3,.int .i64 0]) (BL (fun z11=>Ac (Ad (.bin .lss .num false (.c (Aa z11.1 1)) (.c (Aa z11.1 0)))) (fun z12=>Ar z12 (Ac (Ad
  (.bin .add .num true (.c (Aa z11.1 1)) (.c (.int .i64 1)))) (fun z13=>Ae (AY 1 [z13]) (Ae (AO (AG 0 (Ai [z13])) (Ai [z13])) (Ae (BG (AO (An (Aa z11.1 7))
  (Ai (Av (Aa z11.1 8)))) (AO (AG (An (Aa z11.1 7)) (Ai (AE (Ai [z13]) (AS 0 [z13])))) 2147483648)) (Ac (Ad (.bin .add .num true (.c (Aa z11.1 1)) (.c
  (.int .i64 1)))) (fun z14=>some (.inl ([Aa z11.1 0,z14,Aa z11.1 2,Aa z11.1 3,Aa z11.1 4,Aa z11.1 5,Aa z11.1 6,nI (AG (An (Aa z11.1 7)) (Ai (AE (Ai [z13])
  (AS 0 [z13])))),.sl 1 (BC (AE (An (Aa z11.1 7)) (Av (Aa z11.1 8))) (AE (Ai [z13]) (AS 0 [z13]))) false],z11.2)))))))) (Ac (Ae (Bl (.tup [.agg [Aa
  z11.1 5,Aa z11.1 6,AN 1 1 (Av (Aa z11.1 8)) 0 (An (Aa z11.1 7))],.nilI])) (some (.tup [.agg [Aa z11.1 5,Aa z11.1 6,AN 1 1 (Av (Aa z11.1 8)) 0 (An (Aa
  z11.1 7))],.nilI],z11.2))) (fun z15=>some (.inr z15))))) ([z3,.int .i64 0,.bool false,.bool false,.nilS,Ah z10 0,Ah z10 1,nI 0,.sl 1 [] false],e)))))))))))))))):=by kernel_rfl
theorem run114 (B:KB) {E:Type} (h:Ay E) (dep:Nat) (e:E) (x0:PV) :
  AR (AI B (fun _=>.cl)) fn114 (.cl) h dep [.cv x0] e =
  Ae (A3 x0) (Ac (Am x0 3 1 false) (fun z1=>Ac (Ad (.un .not (.c z1))) (fun z2=>Ar z2 (Ac (Ad (.build [.int .i64 0] [(0,(1,.c (.int .i64 111)))])) (fun
  z3=>some (.tup [.agg [.bool false,.bool false,.nilS],.iface 153 z3],e))) (Ac (Am x0 0 1 false) (fun z4=>Ac (Ad (.build [.bool false,.bool false,.nilS] [(0,(1,
  .c z4))])) (fun z5=>Ae (AF z5 3) (Ac (Am x0 2 1 false) (fun z6=>Ac (Ad (.len .slice (.c z6))) (fun z7=>DY (Ah z5 2) (Ae (Bp [z6,z7,.int .i64
  0]) (BL (fun z8=>Ac (Ad (.bin .lss .num false (.c (Aa z8.1 2)) (.c (Aa z8.1 1)))) (fun z9=>Ar z9 (Ac (Ad (.idxAddr 1 (.c (Aa z8.1 0)) (.c (Aa z8.1 2))))
  (fun z10=>Ac (Ad (.load 1 false (.c z10))) (fun z11=>Ac (Am (Aa z8.1 3) 5 1 false) (fun z12=>Ac (Al B .cl (.fn 163 []) [z12,z11]) (fun z13=>Ac (Ac
  (Ad (.bin .lss .num true (.c z13) (.c (.int .i64 0)))) (fun z14=>Ar z14 (some (.bool true)) (Ac (Am (Aa z8.1 3) 4 1 false) (fun z15=>Ac (Am (Aa z8.1 3) 1 1
  false) (fun z16=>Ac (Ad (.bin .neq .bool false (.c z15) (.c z16))) (fun z17=>some z17)))))) (fun z18=>Ar z18 (Ac (Am (Aa z8.1 3) 5 1 false) (fun z19=>Ac
  (Ad (.len .slice (.c z19))) (fun z20=>Ac (Ad (.bin .add .num true (.c z20) (.c (.int .i64 1)))) (fun z21=>Ae (AY 1 [z21]) (Ae (AO (AG 0 (Ai [z21])) (Ai
  [z21])) (Ae (BG (AO (An (Aa z8.1 9)) (Ai (Av (Aa z8.1 10)))) (AO (AG (An (Aa z8.1 9)) (Ai (AE (Ai [z21]) (AS 0 [z21])))) 2147483648)) (Ac (Ad
  (.bin .add .num true (.c (Aa z8.1 2)) (.c (.int .i64 1)))) (fun z22=>some (.inl ([Aa z8.1 0,Aa z8.1 1,z22,Aa z8.1 3,Aa z8.1 4,Aa z8.1 5,Aa z8.1 6,Aa z8.1 7,Aa
  z8.1 8,nI (AG (An (Aa z8.1 9)) (Ai (AE (Ai [z21]) (AS 0 [z21])))),.sl 1 (BC (AE (An (Aa z8.1 9)) (Av (Aa z8.1 10))) (AE (Ai [z21]) (AS 0
  [z21]))) false],z8.2)))))))))) (Ac (Ad (.bin .add .num true (.c z13) (.c (.int .i64 1)))) (fun z23=>Ae (AY 1 [z23]) (Ae (AO (AG 0 (Ai [z23])) (Ai [z23]))
  (Ae (BG (AO (An (Aa z8.1 9)) (Ai (Av (Aa z8.1 10)))) (AO (AG (An (Aa z8.1 9)) (Ai (AE (Ai [z23]) (AS 0 [z23])))) 2147483648)) (Ac (Ad (.bin
  .add .num true (.c (Aa z8.1 2)) (.c (.int .i64 1)))) (fun z24=>some (.inl ([Aa z8.1 0,Aa z8.1 1,z24,Aa z8.1 3,Aa z8.1 4,Aa z8.1 5,Aa z8.1 6,Aa z8.1 7,Aa z8.1 8,
  nI (AG (An (Aa z8.1 9)) (Ai (AE (Ai [z23]) (AS 0 [z23])))),.sl 1 (BC (AE (An (Aa z8.1 9)) (Av (Aa z8.1 10))) (AE (Ai [z23]) (AS 0 [z23])))
  false],z8.2)))))))))))))) (Ac (Ae (Bl (.tup [.agg [Aa z8.1 7,Aa z8.1 8,AN 1 1 (Av (Aa z8.1 10)) 0 (An (Aa z8.1 9))],.nilI])) (some (.tup [.agg [Aa z8.1 7,Aa
  z8.1 8,AN 1 1 (Av (Aa z8.1 10)) 0 (An (Aa z8.1 9))],.nilI],z8.2))) (fun z25=>some (.inr z25))))) ([z6,z7,.int .i64 0,x0,.bool false,.bool false,.nilS,Ah z5
  0,Ah z5 1,nI 0,.sl 1 [] false],e)))))))))))):=by kernel_rfl
theorem run115 (B:KB) {E:Type} (h:Ay E) (dep:Nat) (e:E) (x0:PV) :
  AR (AI B (fun _=>.cl)) fn115 (.cl) h dep [.cv x0] e =
  Ae (A3 x0) (Ac (Am x0 0 3 true) (fun z1=>Ac (Am x0 0 3 true) (fun z2=>Ac (Al B (.own 1) (.fn 117 []) [z2]) (fun z3=>Ac (Bs B .cl false 116 [z1,AN
  1 1 (Av z3) 0 (Ai (Av z3))]) (fun z4=>Ae (AF z4 3) (some (.tup [.agg [Ah z4 0,Ah z4 1,Ah z4 2],.nilI],e))))))):=by kernel_rfl
theorem run116 (B:KB) {E:Type} (h:Ay E) (dep:Nat) (e:E) (x0:PV) (x1:PV) :
  AR (AI B (fun _=>.cl)) fn116 (.cl) h dep [.cv x0,.cv x1] e =
  Ae (A3 x0) (Ac (Am x0 1 1 false) (fun z1=>Ac (Ad (.build [.bool false,.bool false,.nilS] [(0,(1,.c (.bool true))),(1,(1,.c z1)),(2,(1,.c x1))])) (fun z2
  => Ae (AF z2 3) (some (.agg [Ah z2 0,Ah z2 1,Ah z2 2],e))))):=by kernel_rfl
theorem run117 (B:KB) {E:Type} (h:Ay E) (dep:Nat) (e:E) (x0:PV) :
  AR (AI B (fun _=>.cl)) fn117 (.own 1) h dep [.cv x0] e =
  Ae (A3 x0) (Ac (Am x0 2 1 false) (fun z1=>Ac (Ad (.len .slice (.c z1))) (fun z2=>Ac (J3 z2 z2) (fun z3=>Ac (Am x0 2 1 false) (fun z4=>Ac (Ia
  1 z4) (fun z5=>Ae (AO (AG 0 z3) (Ai (GJ z3 (.int .i64 0)))) (Ae (Fz z3 (Ai (BC (BC (AE 0 (GJ z3 (.int .i64 0))) (AE z3 z5)) (AS (AG 0 (Ai
  (AE z3 z5))) (GJ z3 (.int .i64 0)))))) (some (.sl 1 (BC (BC (AE 0 (GJ z3 (.int .i64 0))) (AE z3 z5)) (AS (AG 0 (Ai (AE z3 z5))) (GJ z3 (.int .i64
  0)))) false,e))))))))):=by kernel_rfl
theorem run119 (B:KB) {E:Type} (h:Ay E) (dep:Nat) (e:E) (x0:PV) (x1:PV) (x2:PV) :
  AR (AI B (fun _=>.cl)) fn119 (.cl) h dep [.agg [.cv x0,.cv x1,.cv x2]] e =
  Ac (Al B (.own 1) (.fn 117 []) [.agg [x0,x1,x2]]) (fun z1=>Ac (Bx B (.mk [.arr (0,0) 1 0 0] [.arr 1 0 []] (.tup []) [.arr 1 0 []] [] []) 166 [nI (Ai (Av z1)),
  .sl 1 (Av z1) false]) (fun z2=>Ae (Bl (.tup [.agg [x0,x1,AN 1 1 (Av (Aa z2 0)) 0 (Ai (Av z1))],.nilI])) (some (.tup [.agg [x0,x1,AN 1 1 (Av (Aa z2
  0)) 0 (Ai (Av z1))],.nilI],e)))):=by kernel_rfl
theorem TZ (B:KB) {E:Type} (h:Ay E) (dep:Nat) (e:E) (x0:PV) :
  AR (AI B (fun _=>.cl)) fn120 (.cl) h dep [.cv x0] e =
  Ae (A3 x0) (Ac (Am x0 3 3 true) (fun z1=>Ac (Al B .cl (.fn 162 []) [z1]) (fun z2=>Ac (Ad (.extract 0 (.c z2))) (fun z3=>Ac (Ad (.extract 1 (.c
  z2))) (fun z4=>Ac (Ad (.bin .neq .iface true (.c z4) (.c .nilI))) (fun z5=>Ar z5 (some (.tup [.agg [.bool false,.bool false,.nilS],z4],e)) (Ac (Am x0 0 3 true)
  (fun z6=>Ae (AF z6 3) (Ac (Am x0 0 3 true) (fun z7=>Ac (Al B (.own 1) (.fn 117 []) [z7]) (fun z8=>Ac (Am x0 2 1 false) (fun z9=>Ac (Ad (.len
  .slice (.c z9))) (fun z10=>Ac (Ad (.bin .gtr .num true (.c z10) (.c (.int .i64 0)))) (fun z11=>Ar z11 (Ac (Ad (.bin .rem .num false (.c z3) (.c z10))) (fun z12 =>
  Ac (Ad (.bin .add .num false (.c z12) (.c z10))) (fun z13=>Ac (Ad (.bin .rem .num false (.c z13) (.c z10))) (fun z14=>Ac (Am x0 2 1 false) (fun z15=>Ac
  (Ad (.slice 1 (.c z15) (some (.c z14)) none none)) (fun z16=>Ac (Am x0 2 1 false) (fun z17=>Ac (Ad (.slice 1 (.c z17) none (some (.c z14)) (some (.c z14)))) (fun
  z18=>Ae (AY 1 [z16,z18]) (Ac (Bs B (.own 1) true 165 [AN 1 1 [z16,z18] 0 (Ai [z16,z18])]) (fun z19=>Ae (Bl (.tup [.agg [Ah z6 0,Ah z6 1,AN 1 1
  (Av z19) 0 (Ai (Av z19))],.nilI])) (some (.tup [.agg [Ah z6 0,Ah z6 1,AN 1 1 (Av z19) 0 (Ai (Av z19))],.nilI],e)))))))))))) (Ae (Bl (.tup [.agg
  [Ah z6 0,Ah z6 1,AN 1 1 (Av z8) 0 (Ai (Av z8))],.nilI])) (some (.tup [.agg [Ah z6 0,Ah z6 1,AN 1 1 (Av z8) 0 (Ai (Av z8))],.nilI],
  e))))))))))))))))):=by kernel_rfl
theorem run121 (B:KB) {E:Type} (h:Ay E) (dep:Nat) (e:E) (x0:PV) :
  AR (AI B (fun _=>.cl)) fn121 (.cl) h dep [.cv x0] e =
  Ae (A3 x0) (Ac (Am x0 0 3 true) (fun z1=>Ac (Al B (.own 1) (.fn 117 []) [z1]) (fun z2=>Ac (Am x0 1 1 false) (fun z3=>Ac (Al B .cl (.fn 167 []) [z3])
  (fun z4=>Ae (AY 1 [z4]) (Ae (AO (AG 0 (Ai [z4])) (Ai [z4])) (Ae (BG (AO (Ai (Av z2)) (Ai (Av z2))) (AO (AG (Ai (Av z2)) (Ai (AE (Ai
  [z4]) (AS 0 [z4])))) 2147483648)) (Ac (Am x0 1 1 false) (fun z5=>Ac (EX (some (.int .i64 1)) (AG (Ai (Av z2)) (Ai (AE (Ai [z4]) (AS 0 [z4]))))
  (AG (Ai (Av z2)) (Ai (AE (Ai [z4]) (AS 0 [z4]))))) (fun z6=>Ac (EX (some (.int .i64 1)) (AG (Ai (Av z2)) (Ai (AE (Ai [z4]) (AS 0
  [z4])))) z6) (fun z7=>Ae (AF z5 1) (Ae (Bl (.tup [.agg [.bool false,Ah z5 0,AN 1 1 (BC (AE (Ai (Av z2)) (Av z2)) (AE (Ai [z4]) (AS 0
  [z4]))) 0 z7],.nilI])) (some (.tup [.agg [.bool false,Ah z5 0,AN 1 1 (BC (AE (Ai (Av z2)) (Av z2)) (AE (Ai [z4]) (AS 0 [z4]))) 0 z7],.nilI],
  e)))))))))))))):=by kernel_rfl
theorem run122 (B:KB) {E:Type} (h:Ay E) (dep:Nat) (e:E) (x0:PV) :
  AR (AI B (fun _=>.cl)) fn122 (.cl) h dep [.cv x0] e =
  Ae (A3 x0) (Ac (Am x0 0 6 true) (fun z1=>Ac (Al B .cl (.fn 161 []) [z1,.int .i64 (-200),.int .i64 200]) (fun z2=>Ac (Ad (.extract 0 (.c z2))) (fun z3 =>
  Ac (Ad (.extract 1 (.c z2))) (fun z4=>Ac (Ad (.bin .neq .iface true (.c z4) (.c .nilI))) (fun z5=>Ar z5 (some (.tup [.agg [.bool false,.bool false,.nilS],z4],
  e)) (Ac (Ad (.bin .lss .num true (.c z3) (.c (.int .i64 0)))) (fun z6=>Ar z6 (Ac (Am x0 2 1 false) (fun z7=>Ac (Ad (.len .slice (.c z7))) (fun z8=>Ac
  (Ad (.bin .add .num false (.c z8) (.c z3))) (fun z9=>Ac (Ad (.un .neg (.c z3))) (fun z10=>Ac (J3 z10 z10) (fun z11=>Ae (Bp [z9,nI z11,nI z11,.int .i64
  0]) (BL (fun z12=>Ac (Ad (.bin .lss .num false (.c (Aa z12.1 3)) (.c (Aa z12.1 2)))) (fun z13=>Ar z13 (Ac (Am (Aa z12.1 4) 1 1 false) (fun z14=>Ac
  (Al B .cl (.fn 167 []) [z14]) (fun z15=>Ac (FO (Aa z12.1 3)) (fun z16=>Ae (DL z16 (An (Aa z12.1 1))) (Ac (He 1 (Av (Aa z12.1 8)) (AG 0 z16) 0 1 z15)
  (fun z17=>Ac (Ad (.bin .add .num false (.c (Aa z12.1 0)) (.c (Aa z12.1 3)))) (fun z18=>Ac (Ac (Ad (.bin .geq .num true (.c z18) (.c (.int .i64 0)))) (fun z19
  => Ar z19 (Ac (Am (Aa z12.1 4) 2 1 false) (fun z20=>Ac (Ad (.len .slice (.c z20))) (fun z21=>Ac (Ad (.bin .lss .num false (.c z18) (.c z21))) (fun z22 =>
  some z22)))) (some (.bool false)))) (fun z23=>Ar z23 (Ac (Am (Aa z12.1 4) 2 1 false) (fun z24=>Ac (Ad (.idxAddr 1 (.c z24) (.c z18))) (fun z25=>Ac (Ad
  (.load 1 false (.c z25))) (fun z26=>Ac (FO (Aa z12.1 3)) (fun z27=>Ae (DL z27 (An (Aa z12.1 1))) (Ac (He 1 z17 (AG 0 z27) 0 1 z26) (fun z28=>Ac (Ad
  (.bin .add .num true (.c (Aa z12.1 3)) (.c (.int .i64 1)))) (fun z29=>some (.inl ([Aa z12.1 0,nI (An (Aa z12.1 1)),Aa z12.1 2,z29,Aa z12.1 4,Aa z12.1 5,Aa z12.1 6,
  Aa z12.1 7,.sl 1 z28 false],z12.2)))))))))) (Ac (Ad (.bin .add .num true (.c (Aa z12.1 3)) (.c (.int .i64 1)))) (fun z30=>some (.inl ([Aa z12.1 0,nI (An (Aa z12.1
  1)),Aa z12.1 2,z30,Aa z12.1 4,Aa z12.1 5,Aa z12.1 6,Aa z12.1 7,.sl 1 z17 false],z12.2)))))))))))) (Ac (Ac (Am (Aa z12.1 4) 0 3 true) (fun z31=>Ac (Bs
  B .cl false 116 [z31,AN 1 1 (Av (Aa z12.1 8)) 0 (An (Aa z12.1 1))]) (fun z32=>Ae (AF z32 3) (some (.tup [.agg [Ah z32 0,Ah z32 1,Ah z32 2],.nilI],
  z12.2))))) (fun z33=>some (.inr z33))))) ([z9,nI z11,nI z11,.int .i64 0,x0,.bool false,.bool false,.nilS,.sl 1 (GJ z11 (.int .i64 0)) false],e)))))))) (Ac (J3 z3
  z3) (fun z34=>Ae (Bp [.int .i64 0,nI z34,nI z34,.int .i64 0]) (BL (fun z35=>Ac (Ad (.bin .lss .num false (.c (Aa z35.1 3)) (.c (Aa z35.1 2)))) (fun z36 =>
  Ar z36 (Ac (Am (Aa z35.1 4) 1 1 false) (fun z37=>Ac (Al B .cl (.fn 167 []) [z37]) (fun z38=>Ac (FO (Aa z35.1 3)) (fun z39=>Ae (DL z39 (An (Aa z35.1
  1))) (Ac (He 1 (Av (Aa z35.1 8)) (AG 0 z39) 0 1 z38) (fun z40=>Ac (Ad (.bin .add .num false (.c (Aa z35.1 0)) (.c (Aa z35.1 3)))) (fun z41=>Ac (Ac
  (Ad (.bin .geq .num true (.c z41) (.c (.int .i64 0)))) (fun z42=>Ar z42 (Ac (Am (Aa z35.1 4) 2 1 false) (fun z43=>Ac (Ad (.len .slice (.c z43))) (fun z44 =>
  Ac (Ad (.bin .lss .num false (.c z41) (.c z44))) (fun z45=>some z45)))) (some (.bool false)))) (fun z46=>Ar z46 (Ac (Am (Aa z35.1 4) 2 1 false) (fun z47=>Ac
  (Ad (.idxAddr 1 (.c z47) (.c z41))) (fun z48=>Ac (Ad (.load 1 false (.c z48))) (fun z49=>Ac (FO (Aa z35.1 3)) (fun z50=>Ae (DL z50 (An (Aa z35.1 1)))
  (Ac (He 1 z40 (AG 0 z50) 0 1 z49) (fun z51=>Ac (Ad (.bin .add .num true (.c (Aa z35.1 3)) (.c (.int .i64 1)))) (fun z52=>some (.inl ([Aa z35.1 0,nI (An (Aa
  z35.1 1)),Aa z35.1 2,z52,Aa z35.1 4,Aa z35.1 5,Aa z35.1 6,Aa z35.1 7,.sl 1 z51 false],z35.2)))))))))) (Ac (Ad (.bin .add .num true (.c (Aa z35.1 3)) (.c (.int
  .i64 1)))) (fun z53=>some (.inl ([Aa z35.1 0,nI (An (Aa z35.1 1)),Aa z35.1 2,z53,Aa z35.1 4,Aa z35.1 5,Aa z35.1 6,Aa z35.1 7,.sl 1 z40 false],z35.2))))))))))))
  (Ac (Ac (Am (Aa z35.1 4) 0 3 true) (fun z54=>Ac (Bs B .cl false 116 [z54,AN 1 1 (Av (Aa z35.1 8)) 0 (An (Aa z35.1 1))]) (fun z55=>Ae (AF z55 3)
  (some (.tup [.agg [Ah z55 0,Ah z55 1,Ah z55 2],.nilI],z35.2))))) (fun z56=>some (.inr z56))))) ([.int .i64 0,nI z34,nI z34,.int .i64 0,x0,.bool false,.bool
  false,.nilS,.sl 1 (GJ z34 (.int .i64 0)) false],e)))))))))))):=by kernel_rfl
theorem TY (B:KB) {E:Type} (h:Ay E) (dep:Nat) (e:E) (x0:PV) :
  AR (AI B (fun _=>.cl)) fn123 (.cl) h dep [.cv x0] e =
  Ae (A3 x0) (Ac (Am x0 3 3 true) (fun z1=>Ac (Al B .cl (.fn 162 []) [z1]) (fun z2=>Ac (Ad (.extract 0 (.c z2))) (fun z3=>Ac (Ad (.extract 1 (.c
  z2))) (fun z4=>Ac (Ad (.bin .neq .iface true (.c z4) (.c .nilI))) (fun z5=>Ar z5 (some (.tup [.agg [.bool false,.bool false,.nilS],z4],e)) (Ac (Am x0 2 1
  false) (fun z6=>Ac (Ad (.len .slice (.c z6))) (fun z7=>Ac (Ad (.bin .geq .num true (.c z3) (.c (.int .i64 0)))) (fun z8=>Ar z8 (Ac (Am x0 0 3 true) (fun z9
  => Ac (Am x0 0 3 true) (fun z10=>Ac (Al B (.own 1) (.fn 117 []) [z10]) (fun z11=>Ac (Ad (.minmax false [.c z3,.c z7])) (fun z12=>Ac (EX none (Ai
  (Av z11)) (Ai (Av z11))) (fun z13=>Ac (EX none (Ai (Av z11)) z13) (fun z14=>Ac (EX (some z12) 0 z14) (fun z15=>B9 (BG (Fz z14 z15) (DL 0
  z15)) (Ac (Al B .cl (.fn 116 []) [z9,.sl 1 [] false]) (fun z16=>Ae (AF z16 3) (some (.tup [.agg [Ah z16 0,Ah z16 1,Ah z16 2],.nilI],e)))) (Ac (Bs
  B .cl false 116 [z9,AN 1 1 (Av z11) (AG 0 z15) (subN z14 z15)]) (fun z17=>Ae (AF z17 3) (some (.tup [.agg [Ah z17 0,Ah z17 1,Ah z17 2],.nilI],
  e)))))))))))) (Ac (Am x0 0 3 true) (fun z18=>Ac (Am x0 0 3 true) (fun z19=>Ac (Al B (.own 1) (.fn 117 []) [z19]) (fun z20=>Ac (Ad (.un .neg (.c z7)))
  (fun z21=>Ac (Ad (.minmax true [.c z3,.c z21])) (fun z22=>Ac (Ad (.bin .add .num false (.c z7) (.c z22))) (fun z23=>Ac (Ad (.minmax true [.c z23,.c (.int
  .i64 0)])) (fun z24=>Ac (EX none (Ai (Av z20)) (Ai (Av z20))) (fun z25=>Ac (EX (some z24) (Ai (Av z20)) z25) (fun z26=>Ac (Bs B .cl
  false 116 [z18,AN 1 1 (Av z20) 0 z26]) (fun z27=>Ae (AF z27 3) (some (.tup [.agg [Ah z27 0,Ah z27 1,Ah z27 2],.nilI],e))))))))))))))))))))))):=by kernel_rfl
theorem run124 (B:KB) {E:Type} (h:Ay E) (dep:Nat) (e:E) (x0:PV) :
  AR (AI B (fun _=>.cl)) fn124 (.cl) h dep [.cv x0] e =
  Ae (A3 x0) (Ac (Am x0 2 1 false) (fun z1=>Ac (Ad (.len .slice (.c z1))) (fun z2=>Ac (Al B .cl (.fn 125 []) [z2]) (fun z3=>Ae (AF z3 3) (some (.tup
  [.agg [Ah z3 0,Ah z3 1,Ah z3 2],.nilI],e)))))):=by kernel_rfl
theorem run125 (B:KB) {E:Type} (h:Ay E) (dep:Nat) (e:E) (x0:PV) :
  AR (AI B (fun _=>.cl)) fn125 (.cl) h dep [.cv x0] e =
  Ae (AY 1 [x0]) (Ae (Bl (.agg [.bool false,.bool false,AN 1 1 [x0] 0 (Ai [x0])])) (some (.agg [.bool false,.bool false,AN 1 1 [x0] 0 (Ai [x0])],e))):=by kernel_rfl
theorem run126 (B:KB) {E:Type} (h:Ay E) (dep:Nat) (e:E) (x0:PV) :
  AR (AI B (fun _=>.cl)) fn126 (.cl) h dep [.cv x0] e =
  Ae (A3 x0) (Ac (Am x0 3 3 true) (fun z1=>Ac (Am x0 0 3 true) (fun z2=>Ac (Al B .cl (.fn 26 []) [z1,z2]) (fun z3=>Ar z3 (Ac (Al B .cl (.fn 125 [])
  [.int .i64 0]) (fun z4=>Ae (AF z4 3) (some (.tup [.agg [Ah z4 0,Ah z4 1,Ah z4 2],.nilI],e)))) (Ac (Al B .cl (.fn 125 []) [.int .i64 1]) (fun z5=>Ae
  (AF z5 3) (some (.tup [.agg [Ah z5 0,Ah z5 1,Ah z5 2],.nilI],e)))))))):=by kernel_rfl
theorem run160 (B:KB) {E:Type} (h:Ay E) (dep:Nat) (e:E) (x0:PV) :
  AR (AI B (fun _=>.cl)) fn160 (.cl) h dep [.cv x0] e =
  Ac (Ad (.build [.bool false,.bool false,.nilS] [(0,(1,.c (.bool true))),(2,(1,.c x0))])) (fun z1=>Ae (AF z1 3) (some (.agg [Ah z1 0,Ah z1 1,Ah z1
  2],e))):=by kernel_rfl
theorem run161 (B:KB) {E:Type} (h:Ay E) (dep:Nat) (e:E) (x0:PV) (x1:PV) (x2:PV) :
  AR (AI B (fun _=>.cl)) fn161 (.cl) h dep [.cv x0,.cv x1,.cv x2] e =
  Ae (A3 x0) (Ac (Am x0 3 3 true) (fun z1=>Ac (Al B .cl (.fn 162 []) [z1]) (fun z2=>Ac (Ad (.extract 0 (.c z2))) (fun z3=>Ac (Ad (.extract 1 (.c
  z2))) (fun z4=>Ac (Ac (Ad (.bin .eql .iface true (.c z4) (.c .nilI))) (fun z5=>Ar z5 (Ac (Ad (.bin .lss .num false (.c z3) (.c x1))) (fun z6=>Ar z6 (some
  (.bool true)) (Ac (Ad (.bin .gtr .num false (.c z3) (.c x2))) (fun z7=>some z7)))) (some (.bool false)))) (fun z8=>Ar z8 (Ac (Ad (.build [.int .i64 0] [(0,(1,.c
  (.int .i64 113)))])) (fun z9=>some (.tup [z3,.iface 153 z9],e))) (some (.tup [z3,z4],e)))))))):=by kernel_rfl
theorem run162 (B:KB) {E:Type} (h:Ay E) (dep:Nat) (e:E) (x0:PV) :
  AR (AI B (fun _=>.cl)) fn162 (.cl) h dep [.cv x0] e =
  Ae (A3 x0) (Ac (Am x0 2 1 false) (fun z1=>Ac (Ad (.len .slice (.c z1))) (fun z2=>Ac (Ad (.bin .neq .num true (.c z2) (.c (.int .i64 1)))) (fun z3=>Ar
  z3 (Ac (Ad (.build [.int .i64 0] [(0,(1,.c (.int .i64 111)))])) (fun z4=>some (.tup [.int .i64 0,.iface 153 z4],e))) (Ac (Am x0 1 1 false) (fun z5=>Ar z5
  (Ac (Ad (.build [.int .i64 0] [(0,(1,.c (.int .i64 102)))])) (fun z6=>some (.tup [.int .i64 0,.iface 153 z6],e))) (Ac (Am x0 2 1 false) (fun z7=>Ac (Ad
  (.idxAddr 1 (.c z7) (.c (.int .i64 0)))) (fun z8=>Ac (Ad (.load 1 false (.c z8))) (fun z9=>some (.tup [z9,.nilI],e))))))))))):=by kernel_rfl
theorem run163 (B:KB) {E:Type} (h:Ay E) (dep:Nat) (e:E) (x0:PV) (x1:PV) :
  AR (AI B (fun _=>.cl)) fn163 (.cl) h dep [.cv x0,.cv x1] e =
  Ac (Ad (.len .slice (.c x0))) (fun z1=>Ae (Bp [x0,x1,z1,.int .i64 0]) (BL (fun z2=>Ac (Ad (.bin .lss .num false (.c (Aa z2.1 3)) (.c (Aa z2.1 2))))
  (fun z3=>Ar z3 (Ac (Ad (.idxAddr 1 (.c (Aa z2.1 0)) (.c (Aa z2.1 3)))) (fun z4=>Ac (Ad (.load 1 false (.c z4))) (fun z5=>Ac (Ad (.bin .eql .num false
  (.c (Aa z2.1 1)) (.c z5))) (fun z6=>Ar z6 (Ac (some (Aa z2.1 3,z2.2)) (fun z7=>some (.inr z7))) (Ac (Ad (.bin .add .num true (.c (Aa z2.1 3)) (.c (.int .i64
  1)))) (fun z8=>some (.inl ([Aa z2.1 0,Aa z2.1 1,Aa z2.1 2,z8],z2.2)))))))) (Ac (some (.int .i64 (-1),z2.2)) (fun z9=>some (.inr z9))))) ([x0,x1,z1,.int .i64 0],
  e))):=by kernel_rfl
theorem run166 (B:KB) (x0:PV) (x1:PV) :
  CG (AI B (fun _=>.cl)) QX OH [x0,x1] =
  Ac (Ad (.bin .sub .num true (.c (nI (An x0))) (.c (.int .i64 1)))) (fun z1=>Ae (Bp [nI (An x0),.int .i64 0,z1]) (BL (fun z2=>Ac (Ad (.bin .lss .num
  false (.c (Aa z2.1 1)) (.c (Aa z2.1 2)))) (fun z3=>Ar z3 (Ac (FO (Aa z2.1 2)) (fun z4=>Ae (DL z4 (An (Aa z2.1 0))) (Ac (MT (Av (Aa z2.1 3)) (AG 0
  z4) 0 1 false) (fun z5=>Ac (FO (Aa z2.1 1)) (fun z6=>Ae (DL z6 (An (Aa z2.1 0))) (Ac (MT (Av (Aa z2.1 3)) (AG 0 z6) 0 1 false) (fun z7=>Ac (FO
  (Aa z2.1 1)) (fun z8=>Ae (DL z8 (An (Aa z2.1 0))) (Ac (He 1 (Av (Aa z2.1 3)) (AG 0 z8) 0 1 z5) (fun z9=>Ac (FO (Aa z2.1 2)) (fun z10=>Ae (DL z10
  (An (Aa z2.1 0))) (Ac (He 1 z9 (AG 0 z10) 0 1 z7) (fun z11=>Ac (Ad (.bin .add .num true (.c (Aa z2.1 1)) (.c (.int .i64 1)))) (fun z12=>Ac (Ad (.bin .sub
  .num true (.c (Aa z2.1 2)) (.c (.int .i64 1)))) (fun z13=>some (.inl ([nI (An (Aa z2.1 0)),z12,z13,.sl 1 z11 false],z2.2))))))))))))))))) (Ac (some [.sl 1 (Av (Aa
  z2.1 3)) false]) (fun z14=>some (.inr z14))))) ([nI (An x0),.int .i64 0,z1,.sl 1 (Av x1) false],()))):=by kernel_rfl
theorem run167 (B:KB) {E:Type} (h:Ay E) (dep:Nat) (e:E) (x0:PV) :
  AR (AI B (fun _=>.cl)) fn167 (.cl) h dep [.cv x0] e =
  Ar x0 (some (.int .i64 32,e)) (some (.int .i64 0,e)):=by kernel_rfl
theorem run178 (B:KB) {E:Type} (h:Ay E) (dep:Nat) (e:E) (x0:PV) :
  AR (AI B (fun _=>.cl)) fn178 (.cl) h dep [.cv x0] e =
  Ac (Hh .str [] (.str [43]) (.int .i64 0)) (fun z1=>Ac (Hh .str z1 (.str [195,151]) (.int .i64 1)) (fun z2=>Ac (Hh .str z2 (.str [226,136,167]) (.int .i64 1))
  (fun z3=>Ac (Hh .str z3 (.str [226,136,168]) (.int .i64 0)) (fun z4=>Ac (QG .str (.int .i64 0) true z4 x0) (fun z5=>Ac (Ad (.extract 0 (.c z5))) (fun z6 =>
  Ac (Ad (.extract 1 (.c z5))) (fun z7=>some (.tup [z6,z7],e)))))))):=by kernel_rfl
end Go.Ab


namespace Go.Ab.Derive2.Sh
open Go Go.Ab Go.Ab.Derive2
theorem bq {d:Nat->Bq} {g:FuncId} {fn:At} {args:List KV} {u:PV} (ht:A1 g=some fn) (hg:JZ g) (ha:A4 args) (hu:∀ x∈args,EF x=false) (hl:Nat.ble args.length fn.nt=true)
  (hr:AR (AI B0 d) fn .cl AD 0 args ()=some (u,())) (hio:fn.io=false:=by rfl) (hb:Nat.blt g CQ=true:=by rfl):Al B0 .cl (.fn g []) (AJ args)=some u:=callK ht hg ha hu rfl hl hr hio hb
theorem lend {g:FuncId} {fn:At} {fr:Bool} {args:List PV} {u:PV} {d:Nat->Bq} (ht:A1 g=some fn) (ha:Ao args=true) (hl:Nat.ble args.length fn.nt=true)
  (hr:AR (AI B0 d) fn .cl AD 0 (args.map KV.cv) ()=some (u,())) (hfr:(u.free&&!F4 A1 g)=fr):Bs B0 .cl fr g args=some u :=
 RU (B8 d) ht ha (bJ hl) hr hfr
theorem Xx (n:Int):AN 1 1 [I n] 0 (Ai [I n])=.sl 1 (As [n]) false:=rfl
def oneV (n:Int):PV:=.agg [.bool false,.bool false,.sl 1 (As [n]) false]
def HH (n:Int):Af:=⟨false,false,[n]⟩
theorem one_is (n:Int):AL (oneV n) (HH n):=.mk _ _ _ _ (.sl _ _)
theorem WP (n:Int):Al B0 .cl (.fn 125 []) [I n]=some (oneV n):=by
 refine call (d:=fun _=>.cl) rfl (by decide) rfl rfl ?_;rw[bz,bC,run125,KE,Xx];rfl
def DV (r:Bool):Int:=if r then 32 else 0
theorem Xg (r:Bool):Al B0 .cl (.fn 167 []) [.bool r]=some (I (DV r)):=by
 refine call (d:=fun _=>.cl) rfl (by decide) rfl rfl ?_;rw[bz,bC,run167];cases r<;>rfl
theorem ax (l:List Int):EZ (As l)=true:=by
 induction l with
 | nil=>rfl
 | cons a l ih=>simpa[As,EZ,PV.free,I] using ih
theorem lend_own {g:FuncId} {fn:At} {args:List PV} {l:List Int} {d:Nat->Bq} (ht:A1 g=some fn) (ha:Ao args=true) (hl:Nat.ble args.length fn.nt=true)
  (hr:AR (AI B0 d) fn (.own 1) AD 0 (args.map KV.cv) ()=some (.sl 1 (As l) false,())) (hle:fn.leans=false:=by rfl):Bs B0 (.own 1) true g args=some (.sl 1 (As l) false):=by
 obtain⟨r,obs,h1,h2⟩:=LZ (B8 d) ht (hn:=fun _=>AD) noH (Ox ha) Ow (by simpa using bJ hl) hr;rw[My] at h2;have hL:B0.L Unit AD 0 g args ()=some (r,obs,()):=Jy h2
 have hfree:(r.free&&obs.all Ob.free)=true:=by
  unfold DW at h1;simp only[Ct] at h1;split at h1
  ·rename_i r' j hr';split at hr'
   ·rename_i nm k' o n k'' xs ho;obtain⟨c1,c2⟩:=Br hr';cases c2;obtain⟨c3,c4⟩:=Br h1;injection c4 with c4;injection c4 with _ c4 _;subst c4;simp only[beq_iff_eq] at c3
    match obs,ho,c3 with
    | [o],ho,_ =>
     simp at ho;subst ho;simp[PV.free,Ob.free,ax]
    | [],ho,_=>simp at ho
    | _ :: _ :: _,_,c3=>simp at c3
   ·cases hr'
  ·cases h1
 unfold Bs;rw[(CL ha).2];have hl0:B0.leans g=false:=by show F4 A1 g=false;unfold F4;rw[ht];exact hle
 simp only[bA,if_false,hL,hfree,hl0,ck,d8,beq_self_eq_true,AH];exact h1
def Cu (c:Int):PV:=if c=0 then .nilI else .iface 153 (.agg [I c])
theorem errV_0:Cu 0=.nilI:=rfl
theorem TD (c:Int):okV (Cu c)=true:=by unfold Cu;split<;>rfl
theorem EA (c:Int):Ad (.bin .neq .iface true (.c (Cu c)) (.c .nilI))=some (.bool (decide (c≠0))):=by
 unfold Cu;by_cases h:c=0
 ·simp only[h,if_true];rfl
 ·rw[if_neg h,show decide (c≠0)=true by simp[h]];rfl
theorem N5 (c:Int):Ad (.bin .eql .iface true (.c (Cu c)) (.c .nilI))=some (.bool (decide (c=0))):=by
 unfold Cu;by_cases h:c=0
 ·simp only[h,if_true];rfl
 ·rw[if_neg h,show decide (c=0)=false by simp[h]];rfl
theorem Mz:Ad (.build [.bool false,.bool false,.nilS] [])=some (.agg [.bool false,.bool false,.nilS]):=rfl
theorem Nz (c:Int):Al B0 .cl (.fn 68 []) [Cu c]=some (I c):=by
 refine call (d:=fun _=>.cl) rfl (by decide) (by simp[Ao,TD]) rfl ?_;rw[bz,bC,run68];unfold Cu;by_cases h:c=0
 ·subst h;rfl
 ·simp only[h,if_false];rfl
theorem R3 {v:PV} {a:Af} (h:AL v a) (hl:a.n.length<=1000000):Al B0 .cl (.fn 128 []) [v]=some (.bool (!a.right)):=by
 obtain⟨x,rfl,hx⟩:=h.get;refine call (d:=fun _=>.cl) rfl (by decide) (by simp[Ao,h.ok]) rfl ?_;rw[bz,bC,run128,Dh,BU rfl rfl hx.cell,AH];simp only[BP,BH,H5,Ap,HS h hl,Cl]
theorem Hy {xs:List PV} {j:Nat} {f:Bool} {a b c:PV} (h:xs[j]?=some (.agg [a,b,c])):Ad (.idxAddr 3 (.c (.sl 3 xs f)) (.c (I j)))=some (.ptr [a,b,c] 0):=by
 rw[I,Nl (by omega) h];rfl
theorem right1 {v:PV} {a:Af} (h:AL v a) (hl:a.n.length<=1000000):Bs B0 .cl true 67 [.sl 3 [v] false]=some (.bool a.right):=by
 have hi:Al B0 .cl (.fn 168 []) [.sl 3 [v] false,.fn 128 []]=some (I (if a.right then -1 else 0)):=by
  refine call (d:=fun _=>.cl) rfl (by decide) (by simp[Ao,okV,h.ok]) rfl ?_;rw[bz,bz,bC,run168,Hl];simp only[Ap];rw[show Bp [.sl 3 [v] false,.fn 128 [],.int .i64 (([v].length:Nat):Int),.int .i64 0]=true from rfl,AH];have he:=R3 h hl;obtain⟨x,rfl,hx⟩:=h.get;cases hr:a.right with
  | false =>
   refine Cj ?_;simp only[Be,Bd,Bj,Bu,A7,Bf,Ap,AA];rw[show Ad (.idxAddr 3 (.c (.sl 3 [.agg [.bool a.li,.bool a.ru,x]] false)) (.c (I 0)))=some (.ptr [.bool a.li,.bool a.ru,x] 0) from Hy (j:=0) rfl];simp only[Ap,Hx,he,hr,ck,AA];rfl
  | true =>
   rw[D4 (s':=([.sl 3 [.agg [.bool a.li,.bool a.ru,x]] false,.fn 128 [],I 1,I 1],()))];·exact Cj rfl
   ·simp only[Be,Bd,Bj,Bu,A7,Bf,Ap,AA];rw[show Ad (.idxAddr 3 (.c (.sl 3 [.agg [.bool a.li,.bool a.ru,x]] false)) (.c (I 0)))=some (.ptr [.bool a.li,.bool a.ru,x] 0) from Hy (j:=0) rfl];simp only[Ap,Hx,he,hr,ce,AA];rfl
 have hc:Al B0 .cl (.fn 127 []) [.sl 3 [v] false,.fn 128 []]=some (.bool (!a.right)):=by
  refine call (d:=fun _=>.cl) rfl (by decide) (by simp[Ao,okV,h.ok]) rfl ?_;rw[bz,bz,bC,run127,hi];simp only[Ap,A7,Ih];cases a.right<;>rfl
 refine lend (d:=fun _=>.cl) rfl (by simp[Ao,okV,h.ok]) rfl ?_ rfl;rw[bz,bC,run67,hc];cases a.right<;>rfl
theorem right2 {v u:PV} {a b:Af} (h:AL v a) (hu:AL u b) (hl:a.n.length<=1000000) (hm:b.n.length<=1000000):Bs B0 .cl true 67 [.sl 3 [v,u] false]=some (.bool (a.right&&b.right)):=by
 have hi:Al B0 .cl (.fn 168 []) [.sl 3 [v,u] false,.fn 128 []]=some (I (if a.right then (if b.right then -1 else 1) else 0)):=by
  refine call (d:=fun _=>.cl) rfl (by decide) (by simp[Ao,okV,h.ok,hu.ok]) rfl ?_;rw[bz,bz,bC,run168,Hl];simp only[Ap];rw[show Bp [.sl 3 [v,u] false,.fn 128 [],.int .i64 (([v,u].length:Nat):Int),.int .i64 0]=true from rfl,AH];have he:=R3 h hl;have he2:=R3 hu hm;obtain⟨x,rfl,hx⟩:=h.get;obtain⟨y,rfl,hy⟩:=hu.get;have i0:Ad (.idxAddr 3 (.c (.sl 3 [.agg [.bool a.li,.bool a.ru,x],.agg [.bool b.li,.bool b.ru,y]] false)) (.c (I 0)))=some (.ptr [.bool a.li,.bool a.ru,x] 0):=Hy (j:=0) rfl;have i1:Ad (.idxAddr 3 (.c (.sl 3 [.agg [.bool a.li,.bool a.ru,x],.agg [.bool b.li,.bool b.ru,y]] false)) (.c (I 1)))=some (.ptr [.bool b.li,.bool b.ru,y] 0):=Hy (j:=1) rfl;cases hr:a.right with
  | false =>
   refine Cj ?_;simp only[Be,Bd,Bj,Bu,A7,Bf,Ap,AA];rw[i0];simp only[Ap,Hx,he,hr,ck,AA];rfl
  | true =>
   rw[D4 (s':=([.sl 3 [.agg [.bool a.li,.bool a.ru,x],.agg [.bool b.li,.bool b.ru,y]] false,.fn 128 [],I 2,I 1],()))]
   ·cases hr2:b.right with
    | false =>
     refine Cj ?_;simp only[Be,Bd,Bj,Bu,A7,Bf,Ap,AA];rw[i1];simp only[Ap,Hx,he2,hr2,ck,AA];rfl
    | true =>
     rw[D4 (s':=([.sl 3 [.agg [.bool a.li,.bool a.ru,x],.agg [.bool b.li,.bool b.ru,y]] false,.fn 128 [],I 2,I 2],()))];·exact Cj rfl
     ·simp only[Be,Bd,Bj,Bu,A7,Bf,Ap,AA];rw[i1];simp only[Ap,Hx,he2,hr2,ce,AA];rfl
   ·simp only[Be,Bd,Bj,Bu,A7,Bf,Ap,AA];rw[i0];simp only[Ap,Hx,he,hr,ce,AA];rfl
 have hc:Al B0 .cl (.fn 127 []) [.sl 3 [v,u] false,.fn 128 []]=some (.bool (!(a.right&&b.right))):=by
  refine call (d:=fun _=>.cl) rfl (by decide) (by simp[Ao,okV,h.ok,hu.ok]) rfl ?_;rw[bz,bz,bC,run127,hi];simp only[Ap,A7,Ih];cases a.right<;>cases b.right<;>rfl
 refine lend (d:=fun _=>.cl) rfl (by simp[Ao,okV,h.ok,hu.ok]) rfl ?_ rfl;rw[bz,bC,run67,hc];cases a.right<;>cases b.right<;>rfl
def gR:List UInt8:=[226,141,180]
def gI:List UInt8:=[226,141,179]
def gC:List UInt8:=[44]
def gT:List UInt8:=[226,140,189]
def gU:List UInt8:=[226,134,145]
def gD:List UInt8:=[226,134,147]
def gN:List UInt8:=[226,137,162]
def Ii (g:List UInt8):PV :=
 if g=gR then .fn 111 [] else if g=gI then .fn 113 [] else if g=gC then .fn 115 [] else if g=gT then .fn 119 [] else if g=gU then .fn 121 [] else if g=gN then .fn 124 [] else .nilF
def Dl (g:List UInt8):PV :=
 if g=gR then .fn 112 [] else if g=gI then .fn 114 [] else if g=gC then .fn 118 [] else if g=gT then .fn 120 [] else if g=gU then .fn 122 [] else if g=gD then .fn 123 [] else if g=gN then .fn 126 [] else .nilF
def funs:PV:=.imap [.str gR,.agg [.fn 111 [],.fn 112 []],.str gI,.agg [.fn 113 [],.fn 114 []],.str gC,.agg [.fn 115 [],.fn 118 []],.str gT,.agg [.fn 119 [],.fn 120 []],.str gU,.agg [.fn 121 [],.fn 122 []],.str gD,.agg [.nilF,.fn 123 []],.str gN,.agg [.fn 124 [],.fn 126 []]]
theorem Xc:Al B0 .cl (.fn 66 []) []=some funs:=by
 obtain⟨n,h⟩:=e66_0;exact Cv (by decide) h rfl rfl
theorem B4 {g x:List UInt8} {v:PV} {es:List PV} (h:¬ g=x):Dc (.str g) (.str x :: v :: es)=Dc (.str g) es:=by
 have:(g==x)=false:=by simp[h]
 simp[Dc,IK,this]
theorem WX (g:List UInt8):Ad (.lookup .str (.agg [.nilF,.nilF]) false (.c funs) (.c (.str g)))=some (.agg [Ii g,Dl g]):=by
 unfold Ii Dl;by_cases h1:g=gR
 ·subst h1;rfl
 by_cases h2:g=gI
 ·subst h2;rfl
 by_cases h3:g=gC
 ·subst h3;rfl
 by_cases h4:g=gT
 ·subst h4;rfl
 by_cases h5:g=gU
 ·subst h5;rfl
 by_cases h6:g=gD
 ·subst h6;rfl
 by_cases h7:g=gN
 ·subst h7;rfl
 simp only[h1,h2,h3,h4,h5,h6,h7,if_false];unfold funs;simp only[Ad,exec,RX.ev];rw[B4 h1,B4 h2,B4 h3,B4 h4,B4 h5,B4 h6,B4 h7];rfl
end Go.Ab.Derive2.Sh


namespace Go.Ab.Derive2.Sh
open Go Go.Ab Go.Ab.Derive2
def B1 (a:Af):Int:=if a.n.length≠1 then 111 else if a.ru then 102 else 0
def AT (a:Af):Int:=if B1 a=0 then a.n.headD 0 else 0
theorem Pv {v:PV} {a:Af} (h:AL v a) (hl:a.n.length<=1000000):Al B0 .cl (.fn 162 []) [v]=some (.tup [I (AT a),Cu (B1 a)]):=by
 obtain⟨x,rfl,hx⟩:=h.get;refine call (d:=fun _=>.cl) rfl (by decide) (by simp[Ao,h.ok]) rfl ?_;rw[bz,bC,run162,Dh,BU rfl rfl hx.cell,AH];simp only[BP,BH,GC,GB,Gc,Ap,hx.len,A7,G9,AA];unfold AT B1;by_cases h1:a.n.length=1
 ·have e:(((a.n.length:Int) != 1)=true)↔False:=by simp[h1]
  have e2:¬ (a.n.length≠1):=by simp[h1]
  simp only[e,e2,if_false];cases hr:a.ru with
  | true =>
   simp only[if_true];rfl
  | false =>
   simp only[bA,if_false];have hi:=hx.idx (i:=0) (by omega);rw[show ((0:Nat):Int)=0 from rfl] at hi;rw[hi];simp only[Ap,H6]
   have:a.n.headD 0=a.n[0]'(by omega):=by
    rw[List.headD_eq_head?_getD,List.head?_eq_getElem?,bN (by omega)];rfl
   rw[this];rfl
 ·have e:(((a.n.length:Int) != 1)=true):=by simp;omega
  simp only[e,if_true];rw[if_pos h1];rfl
theorem X8 {b c:PV} {x y z:PV} (hb:b.cells=[b]) (hc:c.cells=[c]) (vb:b.isVal=true) (vc:c.isVal=true) :
  Ad (.build [x,y,z] [(0,(1,.c b)),(2,(1,.c c))])=some (.agg [b,y,c]):=by
 simp[Ad,exec,DS,RX.ev,hb,hc,vb,vc,splice,AC]
def Id (v:PV):PV:=.agg [.bool true,.bool false,v]
def II (r:Bool) (v:PV):PV:=.agg [.bool true,.bool r,v]
theorem UN:Al B0 .cl (.fn 160 []) [.nilS]=some (Id .nilS):=by
 refine call (d:=fun _=>.cl) rfl (by decide) rfl rfl ?_;rw[bz,bC,run160,X8 rfl rfl rfl rfl];rfl
theorem Yz (l:List Int) (f:Bool):Bs B0 .cl false 160 [.sl 1 (As l) f]=some (Id (.sl 1 (As l) f)):=by
 refine lend (d:=fun _=>.cl) rfl (by simp[Ao,okV,FW]) rfl ?_ rfl;rw[bz,bC,run160,X8 rfl rfl rfl rfl];rfl
theorem Nr {v:PV} {a:Af} (h:AL v a) (l:List Int) (f:Bool):Bs B0 .cl false 116 [v,.sl 1 (As l) f]=some (II a.ru (.sl 1 (As l) f)):=by
 obtain⟨x,rfl,hx⟩:=h.get;refine lend (d:=fun _=>.cl) rfl (by simp[Ao,okV,FW,hx.ok]) rfl ?_ rfl;rw[bz,bz,bC,run116,Dh,BU rfl rfl hx.cell,AH];simp only[BP,BH,GB,Ap];rw[build3 rfl rfl rfl rfl rfl rfl];rfl
theorem like_call {v:PV} {a:Af} (h:AL v a):Al B0 .cl (.fn 116 []) [v,.sl 1 [] false]=some (II a.ru (.sl 1 (As []) false)):=by
 obtain⟨x,rfl,hx⟩:=h.get;refine call (d:=fun _=>.cl) rfl (by decide) (by simp[Ao,okV,hx.ok]) rfl ?_;rw[bz,bz,bC,run116,Dh,BU rfl rfl hx.cell,AH];simp only[BP,BH,GB,Ap];rw[build3 rfl rfl rfl rfl rfl rfl];rfl
theorem T6 {n:Nat} (h:n<=1000000):J3 (I n) (I n)=some n:=by
 have:n<=Ff:=by unfold Ff;omega
 simp[J3,I,CS,Ae,this]
theorem NQ {v:PV} {a:Af} (h:AL v a) (hl:a.n.length<=1000000):Al B0 (.own 1) (.fn 117 []) [v]=some (.sl 1 (As a.n) false):=by
 obtain⟨x,rfl,hx⟩:=h.get;refine call (d:=fun _=>.cl) rfl (by decide) (by simp[Ao,h.ok]) rfl ?_;rw[bz,bC,run117,Dh,BU rfl rfl hx.cell,AH];simp only[BP,BH,Gc,Ap,hx.len,T6 hl,hx.elems]
 have e:BC (BC (AE 0 (GJ a.n.length (.int .i64 0))) (AE a.n.length (As a.n))) (AS (AG 0 (Ai (AE a.n.length (As a.n)))) (GJ a.n.length (.int .i64 0)))=As a.n:=by
  simp[BS,b8]
 rw[e];simp[BS]
def Gl (g:FuncId) (v:PV) (r:Af) (c:Int):Prop:=∃ y,Al B0 .cl (.fn g []) [v]=some (.tup [y,Cu c])/\AL y r
theorem CM {y:PV} {a:Af} (h:AL y a):AF y 3=true:=by
 obtain⟨x,rfl,hx⟩:=h.get;exact Ks (BU rfl rfl hx.cell)
theorem cells_is {y:PV} {a:Af} (h:AL y a):PV.agg [Ah y 0,Ah y 1,Ah y 2]=y:=by
 obtain⟨x,rfl,hx⟩:=h.get;rfl
def OB (a:Af):Af:=⟨true,false,if a.li then [(a.n.length:Int)] else []⟩
theorem PE {v:PV} {a:Af} (h:AL v a) (hl:a.n.length<=1000000):Gl 111 v (OB a) 0:=by
 obtain⟨x,rfl,hx⟩:=h.get;cases hli:a.li with
 | false =>
  refine⟨Id .nilS,?_,by unfold OB;rw[hli];exact .mk _ _ _ _ .nil⟩;rw[<-hli];refine call (d:=fun _=>.cl) rfl (by decide) (by simp[Ao,h.ok]) rfl ?_;rw[bz,bC,run111,Dh,BU rfl rfl hx.cell,AH];simp only[BP,BH,GC,Ap,Cl,hli,AA,ck,if_true,UN];rfl
 | true =>
  refine⟨Id (.sl 1 (As [(a.n.length:Int)]) false),?_,by unfold OB;rw[hli];exact .mk _ _ _ _ (.sl _ _)⟩;rw[<-hli];refine call (d:=fun _=>.cl) rfl (by decide) (by simp[Ao,h.ok]) rfl ?_;rw[bz,bC,run111,Dh,BU rfl rfl hx.cell,AH];simp only[BP,BH,GC,Gc,Ap,Cl,hli,AA,ce,bA,if_false,hx.len,KE,AH,Xx,Yz];rfl
theorem comma_run {v:PV} {a:Af} (h:AL v a) (hl:a.n.length<=1000000):Gl 115 v ⟨true,a.ru,a.n⟩ 0:=by
 obtain⟨x,rfl,hx⟩:=h.get;refine⟨II a.ru (.sl 1 (As a.n) false),?_,.mk _ _ _ _ (.sl _ _)⟩;refine call (d:=fun _=>.cl) rfl (by decide) (by simp[Ao,h.ok]) rfl ?_;rw[bz,bC,run115,Dh,BU rfl rfl hx.cell,AH];simp only[BP,BH,H5,Ap,NQ h hl,Co];have e:AN 1 1 (As a.n) 0 (Ai (As a.n))=.sl 1 (As a.n) false:=by simp[AN]
 rw[e,Nr h];rfl
theorem KA (l:List Int):AN 1 1 (As l) 0 (Ai (As l))=.sl 1 (As l) false:=by simp[AN]
theorem SU (l:List Int) {k:Nat} (hk:k<=l.length):AN 1 1 (As l) 0 k=.sl 1 (As (l.take k)) false:=by
 have:k<=(As l).length:=by rw[BS];exact hk
 simp[AN,this,LI]
theorem slO_drop (l:List Int) {o n:Nat} (hk:o+n<=l.length):AN 1 1 (As l) o n=.sl 1 (As ((l.drop o).take n)) false:=by
 have:o+n<=(As l).length:=by rw[BS];exact hk
 simp[AN,this,LI,Wj]
def IM (a:Af):Af:=⟨false,a.ru,(a.n++[DV a.ru]).take 1⟩
theorem head_run {v:PV} {a:Af} (h:AL v a) (hl:a.n.length<=1000000):Gl 121 v (IM a) 0:=by
 obtain⟨x,rfl,hx⟩:=h.get;refine⟨.agg [.bool false,.bool a.ru,.sl 1 (As ((a.n++[DV a.ru]).take 1)) false],?_,.mk _ _ _ _ (.sl _ _)⟩;refine call (d:=fun _=>.cl) rfl (by decide) (by simp[Ao,h.ok]) rfl ?_;rw[bz,bC,run121,Dh,BU rfl rfl hx.cell,AH];simp only[BP,BH,H5,GB,Ap,NQ h hl,Xg,Co,KE,AH];have e0:AO (AG 0 (Ai [I (DV a.ru)])) (Ai [I (DV a.ru)])=true:=rfl
 have e1:BG (AO (Ai (As a.n)) (Ai (As a.n))) (AO (AG (Ai (As a.n)) (Ai (AE (Ai [I (DV a.ru)]) (AS 0 [I (DV a.ru)])))) 2147483648)=true:=by
  have:a.n.length+1<=2147483648:=by omega
  simp[BS,this]
 have e2:AG (Ai (As a.n)) (Ai (AE (Ai [I (DV a.ru)]) (AS 0 [I (DV a.ru)])))=a.n.length+1:=by simp[BS]
 have e3:BC (AE (Ai (As a.n)) (As a.n)) (AE (Ai [I (DV a.ru)]) (AS 0 [I (DV a.ru)]))=As (a.n++[DV a.ru]):=by
  rw[show AE (Ai [I (DV a.ru)]) (AS 0 [I (DV a.ru)])=[I (DV a.ru)] from rfl];simp[As,b8]
 have e4:∀ k,1<=k->EX (some (.int .i64 1)) (a.n.length+1) k=some 1:=by intro k hk;simp[EX,Cn,CS,AC,hk]
 rw[e0,e1,e2,e3,e4 _ (by omega)];simp only[AH,Ap];rw[e4 _ (by omega)];simp only[Ap];rw[SU _ (by simp)];have e5:AF (PV.bool a.ru) 1=true:=rfl;have e6:Ah (PV.bool a.ru) 0=.bool a.ru:=rfl;rw[e5,e6,AH];have e7:Bl (.tup [.agg [.bool false,.bool a.ru,.sl 1 (As ((a.n++[DV a.ru]).take 1)) false],.nilI])=true:=by simp[Bl,okV,Ao,FW]
 rw[e7,AH];rfl
theorem len_run {v:PV} {a:Af} (h:AL v a):Gl 124 v (HH a.n.length) 0:=by
 obtain⟨x,rfl,hx⟩:=h.get;refine⟨oneV a.n.length,?_,one_is _⟩;refine call (d:=fun _=>.cl) rfl (by decide) (by simp[Ao,h.ok]) rfl ?_;rw[bz,bC,run124,Dh,BU rfl rfl hx.cell,AH];simp only[BP,BH,Gc,Ap,hx.len,WP];rfl
def EI (n:Nat):List Int:=(List.range n).map fun i=>((i+1:Nat):Int)
theorem upto_succ (n:Nat):EI (n+1)=EI n++[((n+1:Nat):Int)]:=by simp[EI,List.range_succ]
theorem Ny (n:Nat):(EI n).length=n:=by simp[EI]
def Hv (a:Af):Int:=if B1 a≠0 then B1 a else if AT a < 0 then 102 else if 200 < AT a then 113 else 0
def JG (a:Af):Af:=if Hv a=0 then ⟨true,false,EI (AT a).toNat⟩ else AZ
theorem count_run {v:PV} {a:Af} (h:AL v a) (hl:a.n.length<=1000000):Gl 113 v (JG a) (Hv a):=by
 have hfr:=Pv h hl;obtain⟨x,rfl,hx⟩:=h.get;by_cases h0:Hv a=0
 ·refine⟨Id (.sl 1 (As (EI (AT a).toNat)) false),?_,by unfold JG;rw[if_pos h0];exact .mk _ _ _ _ (.sl _ _)⟩
  have h1:B1 a=0:=by
   unfold Hv at h0;by_cases h1:B1 a=0
   ·exact h1
   ·rw[if_pos h1] at h0;exact absurd h0 h1
  have h2:¬ AT a < 0:=by
   intro h2;unfold Hv at h0;rw[if_neg (by simpa using h1),if_pos h2] at h0;cases h0
  have h3:¬ 200 < AT a:=by
   intro h3;unfold Hv at h0;rw[if_neg (by simpa using h1),if_neg h2,if_pos h3] at h0;cases h0
  rw[h0];refine call (d:=fun _=>.cl) rfl (by decide) (by simp[Ao,h.ok]) rfl ?_;rw[bz,bC,run113,Dh,BU rfl rfl hx.cell,AH];simp only[BP,BH,H5,Ap,hfr,B3,bX,bY,EA,AA,h1];simp only[ne_eq,not_true_eq_false,decide_false,bA,if_false,A7,Bf,Fv,Ap,AA,h2,h3,UN];rw[show AF (Id .nilS) 3=true from rfl,show Ah (Id .nilS) 2=.nilS from rfl,show Ah (Id .nilS) 0=.bool true from rfl,show Ah (Id .nilS) 1=.bool false from rfl,AH];obtain⟨N,hN⟩:∃ N:Nat,AT a=N:=⟨(AT a).toNat,by omega⟩;rw[hN] at h3 |-;have hN2:N<=200:=by omega
  rw[show Bp [I N,I 0]=true from rfl,AH];simp only[DY]
  have:=NF (step:=(fun z14=>Ac (Ad (.bin .lss .num false (.c (Aa z14.1 1)) (.c (Aa z14.1 0)))) (fun z15=>Ar z15 (Ac (Ad (.bin .add .num true (.c (Aa z14.1 1)) (.c (I 1)))) (fun z16 =>
   Ae (AY 1 [z16]) (Ae (AO (AG 0 (Ai [z16])) (Ai [z16])) (Ae (BG (AO (An (Aa z14.1 7)) (Ai (Av (Aa z14.1 8)))) (AO (AG (An (Aa z14.1 7)) (Ai
   (AE (Ai [z16]) (AS 0 [z16])))) 2147483648)) (Ac (Ad (.bin .add .num true (.c (Aa z14.1 1)) (.c (I 1)))) (fun z17=>some (.inl ([Aa z14.1 0,z17,Aa z14.1
   2,Aa z14.1 3,Aa z14.1 4,Aa z14.1 5,Aa z14.1 6,nI (AG (An (Aa z14.1 7)) (Ai (AE (Ai [z16]) (AS 0 [z16])))),.sl 1 (BC (AE (An (Aa z14.1 7)) (Av
   (Aa z14.1 8))) (AE (Ai [z16]) (AS 0 [z16]))) false],z14.2)))))))) (Ac (Ae (Bl (PV.tup [.agg [Aa z14.1 5,Aa z14.1 6,AN 1 1 (Av (Aa z14.1 8)) 0 (An (Aa
   z14.1 7))],.nilI])) (some (PV.tup [.agg [Aa z14.1 5,Aa z14.1 6,AN 1 1 (Av (Aa z14.1 8)) 0 (An (Aa z14.1 7))],.nilI],z14.2))) (fun z18=>some (.inr z18))))))
   (s0:=(([I N,I 0,.bool false,.bool false,.nilS,.bool true,.bool false,nI 0,.sl 1 [] false],()):List PV×Unit)) (r:=(.tup [Id (.sl 1 (As (EI N)) false),.nilI],()))
   (fun i=>([I N,I i,.bool false,.bool false,.nilS,.bool true,.bool false,I i,.sl 1 (As (EI i)) false],())) N rfl (fun i hlt=>?_) ?_
  ·exact this
  ·simp only[Be,Bd,Bj,Bu,Ci,DI,DT,DH,EE,Bf,Ap,AA];rw[if_pos (by simpa using hlt)];simp only[CU,Ap,ED (by omega:i < 9223372036854775807),KE,AH];rw[show AO (AG 0 (Ai [I ((i+1:Nat):Int)])) (Ai [I ((i+1:Nat):Int)])=true from rfl,AH]
   have e1:BG (AO (An (I i)) (Ai (Av (.sl 1 (As (EI i)) false)))) (AO (AG (An (I i)) (Ai (AE (Ai [I ((i+1:Nat):Int)]) (AS 0 [I ((i+1:Nat):Int)])))) 2147483648)=true:=by
    have:i+1<=2147483648:=by omega
    simp[BS,Ny,this]
   rw[e1,AH];have e2:AG (An (I i)) (Ai (AE (Ai [I ((i+1:Nat):Int)]) (AS 0 [I ((i+1:Nat):Int)])))=i+1:=by simp
   have e3:BC (AE (An (I i)) (Av (.sl 1 (As (EI i)) false))) (AE (Ai [I ((i+1:Nat):Int)]) (AS 0 [I ((i+1:Nat):Int)]))=As (EI (i+1)):=by
    rw[upto_succ];have:(As (EI i)).take i=As (EI i):=b8 (by simp[BS,Ny]);simp[As] at this |-;simpa using this
   rw[e2,e3];rfl
  ·simp only[Be,Bd,Bj,Bu,Ci,DI,DT,DH,EE,Bf,Ap,AA,Co];rw[if_neg (by simp)]
   have e1:AN 1 1 (As (EI N)) 0 (An (I N))=.sl 1 (As (EI N)) false:=by
    have:=SU (EI N) (k:=N) (by rw[Ny];exact bF _);rw[b8 (by rw[Ny];exact bF _)] at this;simpa using this
   rw[e1];have e7:Bl (.tup [.agg [.bool true,.bool false,.sl 1 (As (EI N)) false],.nilI])=true:=by simp[Bl,okV,Ao,FW]
   rw[e7];rfl
 ·refine⟨.agg [.bool false,.bool false,.nilS],?_,by unfold JG;rw[if_neg h0];exact B2⟩;refine call (d:=fun _=>.cl) rfl (by decide) (by simp[Ao,h.ok]) rfl ?_;rw[bz,bC,run113,Dh,BU rfl rfl hx.cell,AH];simp only[BP,BH,H5,Ap,hfr,B3,bX,bY,EA,AA];unfold Hv at h0 |-;by_cases h1:B1 a=0
  ·simp only[h1,ne_eq,not_true_eq_false,decide_false,bA,if_false,A7,Bf,Fv,Ap,AA] at h0 |-;by_cases h2:AT a < 0
   ·simp only[h2,decide_true,if_true];rfl
   ·simp only[h2,decide_false,bA,if_false] at h0 |-;by_cases h3:200 < AT a
    ·simp only[h3,decide_true,if_true];rfl
    ·simp only[h3,if_false] at h0;exact absurd trivial h0
  ·simp only[h1,ne_eq,not_false_eq_true,decide_true,if_true];try rfl
end Go.Ab.Derive2.Sh


namespace Go.Ab.Derive2.Sh
open Go Go.Ab Go.Ab.Derive2
def HE (i:Nat) (l:List Int):List Int:=(List.range l.length).map fun k=>if k < i\/l.length - i<=k then l.getD (l.length - 1 - k) 0 else l.getD k 0
theorem Kp (i:Nat) (l:List Int):(HE i l).length=l.length:=by simp[HE]
theorem LO {i:Nat} {l:List Int} {k:Nat} (h:k < l.length):(HE i l)[k]?=some (if k < i\/l.length - i<=k then l.getD (l.length - 1 - k) 0 else l.getD k 0):=by
 unfold HE;rw[bK,cX h];rfl
theorem revI_zero (l:List Int):HE 0 l=l:=by
 apply ct;intro k;by_cases h:k < l.length
 ·rw[LO h];have:¬ (k < 0\/l.length - 0<=k):=by omega
  rw[if_neg this,bI,bN h];rfl
 ·rw[cf (by rw[Kp];omega),cf (by omega)]
theorem revI_end (l:List Int):HE (l.length / 2) l=l.reverse:=by
 apply ct;intro k;by_cases h:k < l.length
 ·rw[LO h,List.getElem?_reverse h];have e:∀ m,m < l.length->l[m]?=some (l.getD m 0):=fun m hm=>by rw[bI,bN hm];rfl
  rw[e _ (by omega)];by_cases hc:k < l.length / 2\/l.length - l.length / 2<=k
  ·rw[if_pos hc]
  ·rw[if_neg hc];have:k=l.length - 1 - k:=by omega
   rw[<-this]
 ·rw[cf (by rw[Kp];omega),cf (by simp;omega)]
theorem Vv {l:List Int} {k:Nat} {n:Int} (h:l[k]?=some n):MT (As l) (AG 0 k) 0 1 false=some (I n):=by
 have:(As l)[k]?=some (I n):=by simp[As,h]
 simp[MT,this]
theorem Pi {l:List Int} {k:Nat} {n:Int} (h:k < l.length):He 1 (As l) (AG 0 k) 0 1 (I n)=some (As (l.set k n)):=by
 have:(As l)[k]?=some (I l[k]):=W8 h;have e:(As l).set k (I n)=As (l.set k n):=by simp[As,dD]
 simp only[He,Mg,cd,this,I];rw[<-e];rfl
theorem T5 (n:Nat):FO (I n)=some n:=natO_int .i64 n
theorem revI_step {i:Nat} {l:List Int} (h:2*i+2<=l.length):((HE i l).set i (l.getD (l.length - 1 - i) 0)).set (l.length - 1 - i) (l.getD i 0)=HE (i+1) l:=by
 apply ct;intro k;by_cases hk:k < l.length
 ·rw[LO hk,dS,dS,dX,Kp,LO hk];by_cases h1:l.length - 1 - i=k
  ·subst h1;rw[if_pos rfl,if_pos (by omega),if_pos (by omega)];congr 2;omega
  ·rw[if_neg h1];by_cases h2:i=k
   ·subst h2;rw[if_pos rfl,if_pos (by omega),if_pos (by omega)]
   ·rw[if_neg h2];by_cases h3:k < i\/l.length - i<=k
    ·rw[if_pos h3,if_pos (by omega)]
    ·rw[if_neg h3,if_neg (by omega)]
 ·rw[cf (by simp[Kp];omega),cf (by rw[Kp];omega)]
theorem wsub {a b:Int} (h1 : -9223372036854775808<=a - b) (h2:a - b<=9223372036854775807):IntKind.i64.wrap (a - b)=a - b:=EJ h1 h2
set_option maxHeartbeats 800000 in
theorem YY (l:List Int) (hl:l.length<=1000000):Bx B0 OH 166 [nI (Ai (As l)),.sl 1 (As l) false]=some [.sl 1 (As l.reverse) false]:=by
 refine D5 (cfg:=AI B0 fun _=>.cl) (B8 _) (fn:=QX) rfl (Pf:=TV) rfl (xs:=[]) (obs:=[]) rfl rfl (by simp[Ao,okV,FW]) ?_;rw[show TV [] []=OH from rfl,run166];have hn:nI (Ai (As l))=I l.length:=by simp[BS,I]
 rw[hn];simp only[Be,Bd,ER,b9,Co];rw[show nI l.length=I l.length from rfl];simp only[A7,IR,Ap];rw[wsub (by omega) (by omega),show Bp [I l.length,I 0,I ((l.length:Int) - 1)]=true from rfl,AH];refine NF (fun i=>([I l.length,I i,I ((l.length:Int) - 1 - i),.sl 1 (As (HE i l)) false],())) (l.length / 2) (by rw[revI_zero];simp) (fun i hlt=>?_) ?_
 ·simp only[Be,Bd,Bj,Bu,Bf,Ap,AA,ER,b9,Co,T5];have hj:(l.length:Int) - 1 - i=((l.length - 1 - i:Nat):Int):=by omega
  have e0:decide ((i:Int) < (l.length:Int) - 1 - i)=true:=by simp;omega
  rw[e0];simp only[if_true];rw[hj,T5]
  have g1:(HE i l)[l.length - 1 - i]?=some (l.getD (l.length - 1 - i) 0):=by
   rw[LO (by omega),if_neg (by omega)]
  have g2:(HE i l)[i]?=some (l.getD i 0):=by
   rw[LO (by omega),if_neg (by omega)]
  have c1:DL (l.length - 1 - i) l.length=true:=by simp;omega
  have c2:DL i l.length=true:=by simp;omega
  simp only[Ap,c1,c2,AH];rw[Vv g1];simp only[Ap];rw[Vv g2];simp only[Ap];rw[Pi (by rw[Kp];omega)];simp only[Ap];rw[Pi (by rw[dX,Kp];omega),revI_step (by omega)];simp only[Ap,CU,IR,ED (by omega:i < 9223372036854775807)];rw[wsub (by omega) (by omega)];have e3:((l.length - 1 - i:Nat):Int) - 1=(l.length:Int) - 1 - ((i+1:Nat):Int):=by omega
  rw[e3];rfl
 ·simp only[Be,Bd,Bj,Bu,Bf,Ap,AA,Co];have e0:decide (((l.length / 2:Nat):Int) < (l.length:Int) - 1 - ((l.length / 2:Nat):Int))=false:=by simp;omega
  rw[e0,revI_end];rfl
theorem Yw {v:PV} {a:Af} (h:AL v a) (hl:a.n.length<=1000000):Gl 119 v ⟨a.li,a.ru,a.n.reverse⟩ 0:=by
 have ho:=NQ h hl;obtain⟨x,rfl,hx⟩:=h.get;refine⟨.agg [.bool a.li,.bool a.ru,.sl 1 (As a.n.reverse) false],?_,.mk _ _ _ _ (.sl _ _)⟩;refine bq (d:=fun _=>.cl) (args:=[.agg [.cv (.bool a.li),.cv (.bool a.ru),.cv x]]) (fn:=fn119) rfl (by decide) ⟨⟨rfl,rfl,hx.ok,trivial⟩,trivial⟩ (fun y hy=>by simp at hy;subst hy;rfl) rfl ?_;rw[run119,ho];simp only[Ap,Co];have:=YY a.n hl;unfold OH at this;rw[this]
 have e:AN 1 1 (Av (Aa [.sl 1 (As a.n.reverse) false] 0)) 0 (Ai (As a.n))=.sl 1 (As a.n.reverse) false:=by
  simp[AN,BS,As,b8]
 simp only[Ap];rw[e];have e7:Bl (.tup [.agg [.bool a.li,.bool a.ru,.sl 1 (As a.n.reverse) false],.nilI])=true:=by simp[Bl,okV,Ao,FW]
 rw[e7];rfl
end Go.Ab.Derive2.Sh


namespace Go.Ab.Derive2.Sh
open Go Go.Ab Go.Ab.Derive2
inductive EL:PV->Af->Af->Prop
 | mk (l1 r1 l2 r2:Bool) (x y:PV) (b a:List Int) (hx:A5 x b) (hy:A5 y a):EL (.agg [.bool l1,.bool r1,x,.bool l2,.bool r2,y]) ⟨l1,r1,b⟩ ⟨l2,r2,a⟩
theorem EL.get {v:PV} {b a:Af} (h:EL v b a):∃ x y,v=.agg [.bool b.li,.bool b.ru,x,.bool a.li,.bool a.ru,y]/\A5 x b.n/\A5 y a.n:=by
 obtain⟨_,_,_,_,x,y,_,_,hx,hy⟩:=h;exact⟨x,y,rfl,hx,hy⟩
theorem EL.ok {v:PV} {b a:Af} (h:EL v b a):okV v=true:=by
 obtain⟨x,y,rfl,hx,hy⟩:=h.get;simp[okV,Ao,hx.ok,hy.ok]
theorem val6 {a b c d e f:PV} (ha:a.isCell=true) (hb:b.isCell=true) (hc:c.isCell=true) (hd:d.isCell=true) (he:e.isCell=true) (hf:f.isCell=true):(PV.agg [a,b,c,d,e,f]).isVal=true:=by simp[PV.isVal,ha,hb,hc,hd,he,hf]
theorem EL.val {v:PV} {b a:Af} (h:EL v b a):A3 v=true:=by
 obtain⟨x,y,rfl,hx,hy⟩:=h.get;exact val6 rfl rfl hx.cell rfl rfl hy.cell
theorem Oh (a b c d e f:PV):BE [a,b,c,d,e,f] 1 1 false=some b:=rfl
theorem sel6_0 (a b c d e f:PV):BE [a,b,c,d,e,f] 0 1 false=some a:=rfl
theorem Gb (a b c d e f:PV):BE [a,b,c,d,e,f] 2 1 false=some c:=rfl
theorem TX (a b c d e f:PV):BE [a,b,c,d,e,f] 3 1 false=some d:=rfl
theorem Qe (a b c d e f:PV):BE [a,b,c,d,e,f] 4 1 false=some e:=rfl
theorem Qd (a b c d e f:PV):BE [a,b,c,d,e,f] 5 1 false=some f:=rfl
theorem Iy (a b c d e f:PV):BE [a,b,c,d,e,f] 0 3 true=some (.agg [a,b,c]):=rfl
theorem H4 (a b c d e f:PV):BE [a,b,c,d,e,f] 3 3 true=some (.agg [d,e,f]):=rfl
theorem Jw (a b c d e f:PV):BE [a,b,c,d,e,f] 0 6 true=some (.agg [a,b,c,d,e,f]):=rfl
theorem Gn (li ru:Bool) {x:PV} {l:List Int} (h:A5 x l):AL (.agg [.bool li,.bool ru,x]) ⟨li,ru,l⟩:=.mk _ _ _ _ h
theorem bm {v:PV} {b a:Af} (h:EL v b a) (hb:b.n.length<=1000000) (ha:a.n.length<=1000000):Gl 126 v (HH (if a.same b then 0 else 1)) 0:=by
 obtain⟨x,y,rfl,hx,hy⟩:=h.get;refine⟨oneV (if a.same b then 0 else 1),?_,one_is _⟩;refine call (d:=fun _=>.cl) rfl (by decide) (by simp[Ao,h.ok]) rfl ?_;have hs:=same_run (Gn a.li a.ru hy) (Gn b.li b.ru hx) ha hb;rw[bz,bC,run126,h.val,AH];simp only[BP,BH,Iy,H4,Ap,hs,AA,A7,WP];cases hq:a.same b with
 | true=>rfl
 | false=>rfl
theorem find_run {v:PV} {l:List Int} (hv:A5 v l) (hl:l.length<=1000000) (n:Int):Al B0 .cl (.fn 163 []) [v,I n]=some (I (De (fun x=>n==x) 0 l)):=by
 refine call (d:=fun _=>.cl) rfl (by decide) (by simp[Ao,hv.ok]) rfl ?_;rw[bz,bz,bC,run163,hv.len];simp only[Ap];have h0:Bp [v,I n,I l.length,.int .i64 0]=true:=by simp[Bp,hv.und,A7]
 rw[h0,AH]
 have key:∀ m i,i+m=l.length->BL (fun z2=>Ac (Ad (.bin .lss .num false (.c (Aa z2.1 3)) (.c (Aa z2.1 2)))) (fun z3=>Ar z3 (Ac (Ad (.idxAddr 1 (.c (Aa z2.1 0)) (.c (Aa z2.1 3)))) (fun z4=>Ac (Ad (.load 1 false (.c z4))) (fun z5=>Ac (Ad (.bin .eql .num false (.c (Aa z2.1 1)) (.c z5))) (fun z6=>Ar z6 (Ac (some (Aa z2.1 3,z2.2)) (fun z7=>some (.inr z7))) (Ac (Ad (.bin .add .num true (.c (Aa z2.1 3)) (.c (.int .i64 1)))) (fun z8=>some (.inl ([Aa z2.1 0,Aa z2.1 1,Aa z2.1 2,z8],z2.2)))))))) (Ac (some (.int .i64 (-1),z2.2)) (fun z9=>some (.inr z9))))) (([v,I n,I l.length,I i],()):List PV×Unit)=some (I (De (fun x=>n==x) i (l.drop i)),()):=by
  intro m;induction m with
  | zero =>
   intro i hi;refine Cj ?_;have:i=l.length:=by omega
   subst this;simp[De];rfl
  | succ m ih =>
   intro i hi;have hlt:i < l.length:=by omega
   rw[LK hlt];by_cases hpx:n=l[i]
   ·refine Cj ?_;simp only[Be,Bd,Bj,Bu,Bf,Ap,AA];rw[if_pos (by simpa using hlt),hv.idx hlt];simp[hpx,De]
   ·rw[D4 (s':=([v,I n,I l.length,I ((i+1:Nat):Int)],()))]
    ·rw[ih (i+1) (by omega)];simp[De,hpx]
    ·simp only[Be,Bd,Bj,Bu,Bf,Ap,AA];rw[if_pos (by simpa using hlt),hv.idx hlt];simp[hpx,A7,ED (by omega:i < 9223372036854775807)]
 have:=key l.length 0 (by omega);simpa[A7] using this
theorem grow_run {n:Int} (h0:0<=n) (h1:n<=1000000):Al B0 (.own 1) (.fn 190 []) [.nilS,I n]=some (.sl 1 [] false):=by
 have hs:B0.sp 190 (fun _=>none) [.nilS,I n]=some {v:=.arr (0,0) 1 0 0,new:=[.arr 1 0 []]}:=by
  have:Bb 190 (fun _=>none) [.nilS,I n]=some {v:=.arr (0,0) 1 0 0,new:=[.arr 1 0 []]}:=by simp[Bb,Qc,I,h0,h1]
  exact this
 have e:spO B0.sp (AW 190) (Bv 190 [.nilS,I n] [])=some (some (.arr (0,0) 1 0 0,[.arr 1 0 []])):=by
  show spO B0.sp 190 [.nilS,I n]=_;unfold spO;rw[hs];rfl
 unfold Al;dsimp only
 rw[e];rfl
theorem VA {u v:PV} {l m:List Int} (hu:A5 u l) (hv:A5 v m) (hl:l.length<=400000) (hm:m.length<=400000):Bs B0 (.own 1) true 165 [.sl 1 [u,v] false]=some (.sl 1 (As (l++m)) false):=by
 refine lend_own (d:=fun _=>.cl) rfl (by simp[Ao,okV,hu.ok,hv.ok]) rfl ?_;rw[bz,bC,run165,Hl];simp only[Ap];rw[show Bp [.sl 1 [u,v] false,.int .i64 0,.sl 1 [u,v] false,.int .i64 (([u,v].length:Nat):Int),.int .i64 0]=true from rfl,AH]
 have i0:Ad (.idxAddr 1 (.c (.sl 1 [u,v] false)) (.c (I 0)))=some (.ptr [u] 0):=by
  have:=Nl (k:=.i64) (xs:=[u,v]) (j:=0) (n:=1) (f:=false) (v:=u) (by omega) rfl;rw[hu.cells] at this;exact this
 have i1:Ad (.idxAddr 1 (.c (.sl 1 [u,v] false)) (.c (I 1)))=some (.ptr [v] 0):=by
  have:=Nl (k:=.i64) (xs:=[u,v]) (j:=1) (n:=1) (f:=false) (v:=v) (by omega) rfl;rw[hv.cells] at this;exact this
 have l1:∀ w:PV,Ad (.load 1 false (.c (.ptr [w] 0)))=some w:=fun w=>by rw[Nk];rfl
 rw[D4 (s':=([.sl 1 [u,v] false,I l.length,.sl 1 [u,v] false,I 2,I 1],()))]
 ·rw[D4 (s':=([.sl 1 [u,v] false,I ((l.length:Int)+m.length),.sl 1 [u,v] false,I 2,I 2],()))]
  ·refine Cj ?_;simp only[Be,Bd,Bj,Bu,Ci,A7,Bf,Ap,AA];rw[if_neg (by decide),grow_run (by omega) (by omega)];simp only[Ap,Hl,Co];rw[show Bp [nI (Ai []),.sl 1 [u,v] false,.int .i64 (([u,v].length:Nat):Int),I 0]=true from rfl,AH];rw[D4 (s':=([I l.length,.sl 1 [u,v] false,I 2,I 1,.sl 1 (As l) false],()))]
   ·rw[D4 (s':=([I ((l.length+m.length:Nat):Int),.sl 1 [u,v] false,I 2,I 2,.sl 1 (As (l++m)) false],()))]
    ·rw[Cj (r:=(.sl 1 (As (l++m)) false,()))];·rfl
     ·simp only[Be,Bd,Bj,Bu,Ci,A7,Bf,Ap,AA,Co];rw[if_neg (by decide)];have:Fz (An (I ((l.length+m.length:Nat):Int))) (Ai (As (l++m)))=true:=by simp[BS];omega
      rw[this];rfl
    ·simp only[Be,Bd,Bj,Bu,Ci,A7,Bf,Ap,AA,Co];rw[if_pos (by decide),i1];simp only[Ap,l1,hv.elems]
     have e1:BG (AO (An (I l.length)) (Ai (As l))) (AO (AG (An (I l.length)) (Ai (As m))) 2147483648)=true:=by
      have:l.length+m.length<=2147483648:=by omega
      simp[BS,this]
     rw[e1,AH]
     have e2:BC (AE (An (I l.length)) (As l)) (As m)=As (l++m):=by
      have:(As l).take l.length=As l:=b8 (by rw[BS];exact bF _);simp[this,W9]
     rw[e2];have e3:nI (AG (An (I l.length)) (Ai (As m)))=I ((l.length+m.length:Nat):Int):=by simp[BS,I]
     rw[e3];rfl
   ·simp only[Be,Bd,Bj,Bu,Ci,A7,Ap,AA,Co];rw[show nI (Ai [])=I 0 from rfl];rw[show I (([u,v].length:Nat):Int)=I 2 from rfl];simp only[Bf,Ap,AA];rw[if_pos (by decide),i0];simp only[Ap,l1,hu.elems]
    have e1:BG (AO (An (I 0)) (Ai [])) (AO (AG (An (I 0)) (Ai (As l))) 2147483648)=true:=by
     have:l.length<=2147483648:=by omega
     simp[BS,this]
    rw[e1,AH];have e2:BC (AE (An (I 0)) []) (As l)=As l:=by simp
    rw[e2];have e3:nI (AG (An (I 0)) (Ai (As l)))=I l.length:=by simp[BS,I]
    rw[e3];rfl
  ·simp only[Be,Bd,Bj,Bu,Ci,A7,Bf,Ap,AA];rw[if_pos (by decide),i1];simp only[Ap,l1,hv.len,CU,Bf,AA];rw[EJ (by omega) (by omega),if_neg (by simp;omega)];rfl
 ·simp only[Be,Bd,Bj,Bu,Ci,A7];rw[show I (([u,v].length:Nat):Int)=I 2 from rfl];simp only[Bf,Ap,AA];rw[if_pos (by decide),i0];simp only[Ap,l1,hu.len,CU,Bf,AA];rw[EJ (by omega) (by omega),if_neg (by simp)];simp;rfl
def FE (a:Af):Bool:=a.ru&&decide (0 < a.n.length)
theorem LN {v:PV} {a:Af} (h:AL v a):Al B0 .cl (.fn 164 []) [v]=some (.bool (FE a)):=by
 obtain⟨x,rfl,hx⟩:=h.get;refine call (d:=fun _=>.cl) rfl (by decide) (by simp[Ao,h.ok]) rfl ?_;rw[bz,bC,run164,Dh,BU rfl rfl hx.cell,AH];simp only[BP,BH,GB,Gc,Ap,hx.len,A7,Fv,AA];unfold FE
 have:decide ((0:Int) < (a.n.length:Int))=decide (0 < a.n.length):=by
  rw[cJ,decide_eq_true_iff,decide_eq_true_iff];omega
 rw[this];cases a.ru<;>rfl
def If (a b:Af):Int:=if 0 < a.n.length/\0 < b.n.length/\a.ru≠b.ru then 102 else if 200 < a.n.length+b.n.length then 113 else 0
def JS (a b:Af):Af:=if If a b=0 then ⟨true,FE a||(FE b||(a.ru&&b.ru)),a.n++b.n⟩ else AZ
theorem join_run {v:PV} {b a:Af} (h:EL v b a) (hb:b.n.length<=400000) (ha:a.n.length<=400000):Gl 118 v (JS a b) (If a b):=by
 obtain⟨x,y,rfl,hx,hy⟩:=h.get;have hta:=LN (Gn a.li a.ru hy);have htb:=LN (Gn b.li b.ru hx);have hcc:=VA hy hx ha hb
 have e1:∀ l:List Int,decide ((0:Int) < (l.length:Int))=decide (0 < l.length):=by
  intro l;rw[cJ,decide_eq_true_iff,decide_eq_true_iff];omega
 have e2:decide ((200:Int) < (a.n.length:Int)+(b.n.length:Int))=decide (200 < a.n.length+b.n.length):=by
  rw[cJ,decide_eq_true_iff,decide_eq_true_iff];omega
 have oks:AY 1 [y,x]=true:=by simp[AY,hx.val,hy.val,hx.cells,hy.cells]
 have slO2:AN 1 1 [y,x] 0 (Ai [y,x])=.sl 1 [y,x] false:=rfl
 have fin:∀ r:Bool,Bl (.tup [.agg [.bool true,.bool r,AN 1 1 (As (a.n++b.n)) 0 (Ai (As (a.n++b.n)))],.nilI])=true:=fun r=>by
  rw[KA];simp[Bl,okV,Ao,FW]
 by_cases h0:If a b=0
 ·refine⟨.agg [.bool true,.bool (FE a||(FE b||(a.ru&&b.ru))),.sl 1 (As (a.n++b.n)) false],?_,by unfold JS;rw[if_pos h0];exact .mk _ _ _ _ (.sl _ _)⟩;have h1:¬ (0 < a.n.length/\0 < b.n.length/\a.ru≠b.ru):=fun h=>by unfold If at h0;rw[if_pos h] at h0;cases h0
  have h2:¬ 200 < a.n.length+b.n.length:=fun h=>by unfold If at h0;rw[if_neg h1,if_pos h] at h0;cases h0
  rw[h0];refine call (d:=fun _=>.cl) rfl (by decide) (by simp[Ao,h.ok]) rfl ?_;rw[bz,bC,run118,h.val,AH];simp only[BP,BH,Oh,Gb,Qe,Qd,Iy,H4,Ap,hx.len,hy.len,A7,Fv,CU,AA,Jg,e1,hta,htb,oks,AH,slO2,hcc,Co,fin]
  have c1:(if decide (0 < a.n.length)=true then (if decide (0 < b.n.length)=true then some (PV.bool (!(a.ru==b.ru))) else some (.bool false)) else some (.bool false))=some (.bool false):=by
   by_cases q1:0 < a.n.length
   ·by_cases q2:0 < b.n.length
    ·have:a.ru=b.ru:=cM fun q=>h1 ⟨q1,q2,q⟩;simp[q1,q2,this]
    ·simp[q1,q2]
   ·simp[q1]
  rw[c1];simp only[Ap,AA,bA,if_false];rw[EJ (by omega) (by omega),e2,decide_eq_false h2];simp only[AA,bA,if_false];rw[KA];have ta:FE ⟨a.li,a.ru,a.n⟩=FE a:=rfl;have tb:FE ⟨b.li,b.ru,b.n⟩=FE b:=rfl;rw[ta,tb];have fin2:∀ r:Bool,Bl (.tup [.agg [.bool true,.bool r,.sl 1 (As (a.n++b.n)) false],.nilI])=true:=fun r=>by simp[Bl,okV,Ao,FW]
  have oc:∀ r:Bool,AF (PV.bool r) 1=true:=fun _=>rfl;have cp:∀ r:Bool,Ah (PV.bool r) 0=.bool r:=fun _=>rfl;rw[oc,cp,fin2];cases FE a<;>cases FE b<;>cases a.ru<;>simp[fin2,errV_0]
 ·refine⟨.agg [.bool false,.bool false,.nilS],?_,by unfold JS;rw[if_neg h0];exact B2⟩;refine call (d:=fun _=>.cl) rfl (by decide) (by simp[Ao,h.ok]) rfl ?_;rw[bz,bC,run118,h.val,AH];simp only[BP,BH,Oh,Gb,Qe,Qd,Ap,hx.len,hy.len,A7,Fv,CU,AA,Jg,e1];unfold If at h0 |-;by_cases h1:0 < a.n.length/\0 < b.n.length/\a.ru≠b.ru
  ·rw[if_pos h1];obtain⟨q1,q2,q3⟩:=h1;have:(a.ru==b.ru)=false:=by simpa using q3
   simp only[q1,q2,this,decide_true,if_true,Ap,AA,ck];rfl
  ·rw[if_neg h1] at h0 |-
   have c1:(if decide (0 < a.n.length)=true then (if decide (0 < b.n.length)=true then some (PV.bool (!(a.ru==b.ru))) else some (.bool false)) else some (.bool false))=some (.bool false):=by
    by_cases q1:0 < a.n.length
    ·by_cases q2:0 < b.n.length
     ·have:a.ru=b.ru:=cM fun q=>h1 ⟨q1,q2,q⟩;simp[q1,q2,this]
     ·simp[q1,q2]
    ·simp[q1]
   rw[c1];simp only[Ap,AA,bA,if_false];rw[EJ (by omega) (by omega),e2];by_cases h2:200 < a.n.length+b.n.length
   ·rw[if_pos h2,decide_eq_true h2];rfl
   ·rw[if_neg h2] at h0;exact absurd rfl h0
end Go.Ab.Derive2.Sh


namespace Go.Ab.Derive2.Sh
open Go Go.Ab Go.Ab.Derive2
theorem A5.lo {v:PV} {l:List Int} (h:A5 v l) {k:Nat} (hk:k<=l.length):∃ u,Ad (.slice 1 (.c v) (some (.c (I k))) none none)=some u/\A5 u (l.drop k):=by
 cases h with
 | nil =>
  have:k=0:=by simpa using hk
  subst this;exact⟨.nilS,by simp[Ad,exec,RX.ev,B6,Cn,CS,AC,I,EP],.nil⟩
 | sl _ f =>
  have hk':k<=(As l).length:=by rw[BS];exact hk
  refine⟨.sl 1 (As (l.drop k)) f,?_,.sl _ _⟩;simp[Ad,exec,RX.ev,B6,Cn,CS,AC,I,hk',Wj,EP]
theorem A5.himx {v:PV} {l:List Int} (h:A5 v l) {k:Nat} (hk:k<=l.length):∃ u,Ad (.slice 1 (.c v) none (some (.c (I k))) (some (.c (I k))))=some u/\A5 u (l.take k):=by
 cases h with
 | nil =>
  have:k=0:=by simpa using hk
  subst this;exact⟨.nilS,by simp[Ad,exec,RX.ev,B6,Cn,CS,AC,I,EP],.nil⟩
 | sl _ f =>
  have hk':k<=(As l).length:=by rw[BS];exact hk
  refine⟨.sl 1 (As (l.take k)) true,?_,.sl _ _⟩;simp[Ad,exec,RX.ev,B6,Cn,CS,AC,I,hk',LI,EP]
def Es (a b:Af) (n:Int):Int:=if De (fun x=>n==x) 0 a.n < 0\/a.ru≠b.ru then (a.n.length:Int)+1 else De (fun x=>n==x) 0 a.n+1
def KY (a:Af):Int:=if a.li then 0 else 111
def KZ (a b:Af):Af:=if a.li then ⟨b.li,false,b.n.map (Es a b)⟩ else AZ
theorem idxP_le (p:Int->Bool):∀ (l:List Int) (i:Nat), -1<=De p i l/\De p i l<=i+l.length:=by
 intro l;induction l with
 | nil=>intro i;simp[De]
 | cons x l ih =>
  intro i;simp only[De];split;·simp only[cA];omega
  ·have:=ih (i+1);simp only[cA];omega
theorem TJ {l:List Int} {n:Int} {c:Nat} (hc:c=l.length):BC (AE c (As l)) (AE (Ai [I n]) (AS 0 [I n]))=As (l++[n]):=by
 subst hc;rw[show AE (Ai [I n]) (AS 0 [I n])=[I n] from rfl];simp[As,b8]
theorem TL {l:List Int} {n:Int} {c:Nat} (hc:c=l.length) (hl:l.length<=1000000):BG (AO c (Ai (As l))) (AO (AG c (Ai (AE (Ai [I n]) (AS 0 [I n])))) 2147483648)=true:=by
 subst hc;have:l.length+1<=2147483648:=by omega
 simp[BS,this]
theorem TK {n:Int} (c:Nat):nI (AG c (Ai (AE (Ai [I n]) (AS 0 [I n]))))=I ((c+1:Nat):Int):=by simp[I]
theorem Ng {l:List Int} {i:Nat} (h:i < l.length):l.take (i+1)=l.take i++[l[i]]:=by rw[List.take_succ_eq_append_getElem h]
set_option maxHeartbeats 1000000 in
theorem YE {v:PV} {b a:Af} (h:EL v b a) (hb:b.n.length<=400000) (ha:a.n.length<=400000):Gl 114 v (KZ a b) (KY a):=by
 obtain⟨x,y,rfl,hx,hy⟩:=h.get;by_cases hli:a.li=true
 case neg =>
  rw[eR] at hli;refine⟨.agg [.bool false,.bool false,.nilS],?_,by unfold KZ;rw[hli];exact B2⟩;refine call (d:=fun _=>.cl) rfl (by decide) (by simp[Ao,h.ok]) rfl ?_;rw[bz,bC,run114,h.val,AH];simp only[BP,BH,TX,Ap,Cl,hli,AA,ck,if_true];unfold KY;rw[hli];rfl
 case pos =>
  refine⟨.agg [.bool b.li,.bool false,.sl 1 (As (b.n.map (Es a b))) false],?_,by unfold KZ;rw[hli];exact .mk _ _ _ _ (.sl _ _)⟩;rw[show KY a=0 by unfold KY;rw[hli];rfl];refine call (d:=fun _=>.cl) rfl (by decide) (by simp[Ao,h.ok]) rfl ?_;rw[bz,bC,run114,h.val,AH];simp only[BP,BH,sel6_0,Gb,TX,Ap,Cl,hli,AA,ce,bA,if_false];rw[show Ad (.build [.bool false,.bool false,.nilS] [(0,(1,.c (.bool b.li)))])=some (.agg [.bool b.li,.bool false,.nilS]) from rfl];simp only[Ap,hx.len,Ks (a:=.bool b.li) (b:=.bool false) (c:=.nilS) rfl,AH,Ho,HW,HV,DY];rw[show Bp [x,I b.n.length,.int .i64 0]=true by simp[Bp,hx.und,A7],AH];refine NF (fun i=>([x,I b.n.length,I i,.agg [.bool b.li,.bool b.ru,x,.bool true,.bool a.ru,y],.bool false,.bool false,.nilS,.bool b.li,.bool false,I i,.sl 1 (As ((b.n.take i).map (Es a b))) false],())) b.n.length (by simp[As,I]) (fun i hlt=>?_) ?_
  ·have n9:∀ (a0 a1 a2 a3 a4 a5 a6 a7 a8 a9:PV) (l:List PV),Aa (a0 :: a1 :: a2 :: a3 :: a4 :: a5 :: a6 :: a7 :: a8 :: a9 :: l) 9=a9:=fun _ _ _ _ _ _ _ _ _ _ _=>rfl;have n10:∀ (a0 a1 a2 a3 a4 a5 a6 a7 a8 a9 a10:PV) (l:List PV),Aa (a0 :: a1 :: a2 :: a3 :: a4 :: a5 :: a6 :: a7 :: a8 :: a9 :: a10 :: l) 10=a10:=fun _ _ _ _ _ _ _ _ _ _ _ _=>rfl;simp only[Be,Bd,Bj,Bu,Ci,DI,DT,DH,EE,n9,n10,Bf,Ap,AA,ER,b9,Co];rw[if_pos (by simpa using hlt),hx.idx hlt];simp only[Ap,H6,BH,Qd,find_run hy (by omega),Qe,Oh,Jg,A7,Bf,AA];have hle:=idxP_le (fun x=>b.n[i]==x) a.n 0;have hln:((b.n.take i).map (Es a b)).length=i:=by simp;omega
   have hfin:((b.n.take i).map (Es a b))++[Es a b b.n[i]]=(b.n.take (i+1)).map (Es a b):=by rw[Ng hlt,di];rfl
   by_cases hc:De (fun x=>b.n[i]==x) 0 a.n < 0\/a.ru≠b.ru
   ·have e1:(if decide (De (fun x=>b.n[i]==x) 0 a.n < 0)=true then some (PV.bool true) else some (PV.bool (!(a.ru==b.ru))))=some (.bool true):=by
     rcases hc with hc | hc;·simp[hc]
     ·by_cases q:De (fun x=>b.n[i]==x) 0 a.n < 0<;>simp[q,hc]
    rw[e1];simp only[Ap,AA,if_true,hy.len,CU]
    have e2:IntKind.i64.wrap ((a.n.length:Int)+1)=Es a b b.n[i]:=by
     rw[EJ (by omega) (by omega)];unfold Es;rw[if_pos hc]
    rw[e2];simp only[Ap,KE,AH];rw[show AO (AG 0 (Ai [I (Es a b b.n[i])])) (Ai [I (Es a b b.n[i])])=true from rfl,TL hln.symm (by omega),TJ hln.symm,TK];simp only[AH,ED (by omega:i < 9223372036854775807),hfin]
   ·have e1:(if decide (De (fun x=>b.n[i]==x) 0 a.n < 0)=true then some (PV.bool true) else some (PV.bool (!(a.ru==b.ru))))=some (.bool false):=by
     have q1:¬ De (fun x=>b.n[i]==x) 0 a.n < 0:=fun q=>hc (.inl q);have q2:a.ru=b.ru:=cM fun q=>hc (.inr q);rw[decide_eq_false q1,q2];simp
    rw[e1];simp only[Ap,AA,bA,if_false,CU]
    have e2:IntKind.i64.wrap (De (fun x=>b.n[i]==x) 0 a.n+1)=Es a b b.n[i]:=by
     rw[EJ (by omega) (by omega)];unfold Es;rw[if_neg hc]
    rw[e2];simp only[Ap,KE,AH];rw[show AO (AG 0 (Ai [I (Es a b b.n[i])])) (Ai [I (Es a b b.n[i])])=true from rfl,TL hln.symm (by omega),TJ hln.symm,TK];simp only[AH,ED (by omega:i < 9223372036854775807),hfin]
  ·have n9:∀ (a0 a1 a2 a3 a4 a5 a6 a7 a8 a9:PV) (l:List PV),Aa (a0 :: a1 :: a2 :: a3 :: a4 :: a5 :: a6 :: a7 :: a8 :: a9 :: l) 9=a9:=fun _ _ _ _ _ _ _ _ _ _ _=>rfl;have n10:∀ (a0 a1 a2 a3 a4 a5 a6 a7 a8 a9 a10:PV) (l:List PV),Aa (a0 :: a1 :: a2 :: a3 :: a4 :: a5 :: a6 :: a7 :: a8 :: a9 :: a10 :: l) 10=a10:=fun _ _ _ _ _ _ _ _ _ _ _ _=>rfl;simp only[Be,Bd,Bj,DH,EE,n9,n10,Bf,Ap,AA,ER,b9,Co];rw[if_neg (by simp),dN]
   have e1:AN 1 1 (As (b.n.map (Es a b))) 0 b.n.length=.sl 1 (As (b.n.map (Es a b))) false:=by
    have:=KA (b.n.map (Es a b));simpa[BS] using this
   rw[e1];have e7:Bl (.tup [.agg [.bool b.li,.bool false,.sl 1 (As (b.n.map (Es a b))) false],.nilI])=true:=by simp[Bl,okV,Ao,FW]
   rw[e7];rfl
def Eu (lo hi:Int) (a:Af):Int:=if B1 a=0/\(AT a < lo\/hi < AT a) then 113 else B1 a
theorem VI {v:PV} {b a:Af} (h:EL v b a) (ha:a.n.length<=1000000) (lo hi:Int):Al B0 .cl (.fn 161 []) [v,I lo,I hi]=some (.tup [I (AT a),Cu (Eu lo hi a)]):=by
 obtain⟨x,y,rfl,hx,hy⟩:=h.get;have hf:=Pv (Gn a.li a.ru hy) ha;refine call (d:=fun _=>.cl) rfl (by decide) (by simp[Ao,h.ok]) rfl ?_;rw[bz,bz,bz,bC,run161,h.val,AH];simp only[BP,BH,H4,Ap,hf,B3,bX,bY,N5,AA,Bf,Fv];have ef:B1 ⟨a.li,a.ru,a.n⟩=B1 a:=rfl;have en:AT ⟨a.li,a.ru,a.n⟩=AT a:=rfl;rw[ef,en];unfold Eu;by_cases h1:B1 a=0
 ·by_cases h2:AT a < lo
  ·simp only[h1,h2,decide_true,if_true,Ap,AA,true_or,true_and];rfl
  ·by_cases h3:hi < AT a
   ·simp only[h1,h2,h3,decide_true,decide_false,if_true,bA,if_false,Ap,AA,or_true,true_and];rfl
   ·simp only[h1,h2,h3,decide_true,decide_false,if_true,bA,if_false,Ap,AA,or_false,and_false]
 ·simp only[h1,decide_false,bA,if_false,Ap,AA,false_and]
def Gr (a b:Af):Int:=if Eu (-9223372036854775808) 200 a≠0 then Eu (-9223372036854775808) 200 a else if AT a < 0 then 102 else if 0 < AT a/\b.n.length=0 then 110 else 0
def cyc (b:Af) (n:Nat):List Int:=(List.range n).map fun i=>b.n.getD (i%b.n.length) 0
def shA (a b:Af):Af:=if Gr a b=0 then ⟨true,b.ru,cyc b (AT a).toNat⟩ else AZ
theorem cyc_succ (b:Af) (n:Nat):cyc b (n+1)=cyc b n++[b.n.getD (n%b.n.length) 0]:=by simp[cyc,List.range_succ]
theorem N7 (b:Af) (n:Nat):(cyc b n).length=n:=by simp[cyc]
set_option maxHeartbeats 1000000 in
theorem Y0 {v:PV} {b a:Af} (h:EL v b a) (hb:b.n.length<=400000) (ha:a.n.length<=400000):Gl 112 v (shA a b) (Gr a b):=by
 have ham:=VI h (by omega) (-9223372036854775808) 200;obtain⟨x,y,rfl,hx,hy⟩:=h.get
 have elen:((b.n.length:Int)==0)=decide (b.n.length=0):=by
  rw[cJ,beq_iff_eq,decide_eq_true_iff];omega
 by_cases h1:Eu (-9223372036854775808) 200 a=0
 ·by_cases h2:AT a < 0
  ·have hE:Gr a b=102:=by unfold Gr;rw[if_neg (by simpa using h1),if_pos h2]
   refine⟨.agg [.bool false,.bool false,.nilS],?_,by unfold shA;rw[hE,if_neg (by decide)];exact B2⟩;rw[hE];refine call (d:=fun _=>.cl) rfl (by decide) (by simp[Ao,h.ok]) rfl ?_;rw[bz,bC,Qf,h.val,AH];simp only[BP,BH,Jw,Ap,A7,ham,B3,bX,bY,N5,AA,Bf,h1,h2,decide_true,if_true];rfl
  ·by_cases h3:0 < AT a/\b.n.length=0
   ·have hE:Gr a b=110:=by unfold Gr;rw[if_neg (by simpa using h1),if_neg h2,if_pos h3]
    refine⟨.agg [.bool false,.bool false,.nilS],?_,by unfold shA;rw[hE,if_neg (by decide)];exact B2⟩;rw[hE];refine call (d:=fun _=>.cl) rfl (by decide) (by simp[Ao,h.ok]) rfl ?_;rw[bz,bC,Qf,h.val,AH];simp only[BP,BH,Jw,Gb,Ap,A7,ham,B3,bX,bY,N5,EA,AA,Bf,Fv,Fw,hx.len,h1,h2,h3.1,h3.2,decide_true,decide_false,if_true,bA,if_false,ne_eq,not_true_eq_false];rfl
   ·have hE:Gr a b=0:=by unfold Gr;rw[if_neg (by simpa using h1),if_neg h2,if_neg h3]
    refine⟨II b.ru (.sl 1 (As (cyc b (AT a).toNat)) false),?_,by unfold shA;rw[if_pos hE];exact .mk _ _ _ _ (.sl _ _)⟩;rw[hE];refine call (d:=fun _=>.cl) rfl (by decide) (by simp[Ao,h.ok]) rfl ?_;rw[bz,bC,Qf,h.val,AH]
    have h4:¬ 200 < AT a:=fun q=>by
     unfold Eu at h1;by_cases q2:B1 a=0
     ·rw[if_pos ⟨q2,.inr q⟩] at h1;cases h1
     ·rw[if_neg (fun q3=>q2 q3.1)] at h1;exact q2 h1
    obtain⟨N,hN⟩:∃ N:Nat,AT a=N:=⟨(AT a).toNat,by omega⟩;simp only[BP,BH,Jw,Gb,Ap,A7,ham,B3,bX,bY,N5,EA,AA,Bf,Fv,Fw,hx.len,h1,h2,elen,decide_true,decide_false,if_true,bA,if_false,ne_eq,not_true_eq_false];rw[show Ad (.build [I 0] [(0,(1,.c (I 110)))])=some (.agg [I 110]) from rfl];simp only[Ap]
    have e0:(if decide (0 < AT a)=true then some (PV.bool (decide (b.n.length=0))) else some (.bool false))=some (.bool false):=by
     by_cases q:0 < AT a
     ·have:¬ b.n.length=0:=fun q2=>h3 ⟨q,q2⟩;simp only[q,this,decide_true,decide_false,if_true]
     ·simp only[q,decide_false,bA,if_false]
    rw[e0];simp only[Ap,AA,bA,if_false];rw[hN] at h3 h4 |-;have hN2:N<=200:=by omega
    rw[show Bp [nI 0,I N,I 0]=true from rfl,AH];refine NF (fun i=>([I i,I N,I i,.agg [.bool b.li,.bool b.ru,x,.bool a.li,.bool a.ru,y],.bool false,.bool false,.nilS,.sl 1 (As (cyc b i)) false],())) N rfl (fun i hlt=>?_) ?_
    ·have hbl:0 < b.n.length:=by
      rcases eD b.n.length with q | q;·exact absurd ⟨by omega,q⟩ h3
      ·exact q
     have hmod:i%b.n.length < b.n.length:=Nat.mod_lt _ hbl;simp only[Be,Bd,Bj,Bu,Ci,DI,DT,DH,Bf,Ap,AA,ER,b9,Co];rw[if_pos (by simpa using hlt)];simp only[BH,Gb,Ap,hx.len]
     have er:Ad (.bin .rem .num false (.c (I i)) (.c (I b.n.length)))=some (I ((i%b.n.length:Nat):Int)):=by
      rw[I,I,NC _ _ (by omega)];rfl
     rw[er];simp only[Ap,hx.idx hmod,H6,KE,AH];have ei:b.n[i%b.n.length]=b.n.getD (i%b.n.length) 0:=by rw[bI,bN hmod];rfl
     rw[ei,show AO (AG 0 (Ai [I (b.n.getD (i%b.n.length) 0)])) (Ai [I (b.n.getD (i%b.n.length) 0)])=true from rfl,TL (N7 b i).symm (by rw[N7];omega),TJ (N7 b i).symm,TK,<-cyc_succ];simp only[AH,CU,Ap,ED (by omega:i < 9223372036854775807)]
    ·simp only[Be,Bd,Bj,Bu,DH,Bf,Ap,AA,ER,b9,Co];rw[if_neg (by simp)];simp only[BH,Iy,Ap]
     have e1:AN 1 1 (As (cyc b N)) 0 N=.sl 1 (As (cyc b N)) false:=by
      have:=KA (cyc b N);simpa[BS,N7] using this
     rw[e1,Nr (Gn b.li b.ru hx)];rfl
 ·have hE:Gr a b=Eu (-9223372036854775808) 200 a:=by unfold Gr;rw[if_pos h1]
  refine⟨.agg [.bool false,.bool false,.nilS],?_,by unfold shA;rw[hE,if_neg h1];exact B2⟩;rw[hE];refine call (d:=fun _=>.cl) rfl (by decide) (by simp[Ao,h.ok]) rfl ?_;rw[bz,bC,Qf,h.val,AH];simp only[BP,BH,Jw,Ap,A7,ham,B3,bX,bY,N5,EA,AA,h1,decide_false,bA,if_false,ne_eq,not_false_eq_true,decide_true,if_true]
  try rfl
end Go.Ab.Derive2.Sh


namespace Go.Ab.Derive2.Sh
open Go Go.Ab Go.Ab.Derive2
def Js (n:Int) (k:Nat):Nat:=(n%(k:Int)).toNat
def turn (n:Int) (l:List Int):List Int:=l.drop (Js n l.length)++l.take (Js n l.length)
def IS (a b:Af):Af:=if B1 a=0 then ⟨b.li,b.ru,if b.n.length=0 then [] else turn (AT a) b.n⟩ else AZ
theorem VK {n:Int} {k:Nat} (hk:0 < k):Js n k < k:=by
 unfold Js;have h1:=Int.emod_nonneg n (show (k:Int)≠0 by omega);have h2:=Int.emod_lt_of_pos n (show (0:Int) < (k:Int) by omega);omega
theorem turn_rem {n:Int} {k:Nat} (hk:0 < k) (hs:k<=1000000):IntKind.i64.wrap (n.tmod k+k)=n.tmod k+k/\(n.tmod k+k).tmod k=(Js n k:Int):=by
 have h2:=Int.tmod_lt_of_pos n (show (0:Int) < (k:Int) by omega)
 have h1 : -(k:Int) < n.tmod k:=by
  have:=Int.tmod_lt_of_pos (-n) (show (0:Int) < (k:Int) by omega);rw[Int.neg_tmod] at this;omega
 refine⟨EJ (by omega) (by omega),?_⟩;rw[Int.tmod_eq_emod_of_nonneg (by omega)];unfold Js;rw[Int.toNat_of_nonneg (Int.emod_nonneg n (show (k:Int)≠0 by omega)),Int.add_emod_right];have e:=Int.tmod_add_mul_tdiv n k;have:n.tmod k=n+k*(-(n.tdiv k)):=by rw[Int.mul_neg];omega
 rw[this,Int.add_mul_emod_self_left]
set_option maxHeartbeats 1000000 in
theorem ZY {v:PV} {b a:Af} (h:EL v b a) (hb:b.n.length<=400000) (ha:a.n.length<=400000):Gl 120 v (IS a b) (B1 a):=by
 obtain⟨x,y,rfl,hx,hy⟩:=h.get;have hf:=Pv (Gn a.li a.ru hy) (by simpa using (by omega:a.n.length<=1000000));have ho:=NQ (Gn b.li b.ru hx) (by simpa using (by omega:b.n.length<=1000000));have ef:B1 ⟨a.li,a.ru,a.n⟩=B1 a:=rfl;have en:AT ⟨a.li,a.ru,a.n⟩=AT a:=rfl;rw[ef,en] at hf;have oc:AF (.agg [.bool b.li,.bool b.ru,x]) 3=true:=Ks (BU rfl rfl hx.cell)
 have e0:∀ l:List Int,decide ((0:Int) < (l.length:Int))=decide (0 < l.length):=by
  intro l;rw[cJ,decide_eq_true_iff,decide_eq_true_iff];omega
 by_cases h1:B1 a=0
 ·have fin:∀ l:List Int,Bl (.tup [.agg [.bool b.li,.bool b.ru,.sl 1 (As l) false],.nilI])=true:=fun l=>by simp[Bl,okV,Ao,FW]
  by_cases h2:0 < b.n.length
  ·have hk:=VK (n:=AT a) h2;obtain⟨p,hp1,hp2⟩:=A5.lo hx (k:=Js (AT a) b.n.length) (by omega);obtain⟨q,hq1,hq2⟩:=A5.himx hx (k:=Js (AT a) b.n.length) (by omega);have hcc:=VA hp2 hq2 (by simp;omega) (by simp;omega);obtain⟨w1,w2⟩:=turn_rem (n:=AT a) h2 (by omega);refine⟨.agg [.bool b.li,.bool b.ru,.sl 1 (As (turn (AT a) b.n)) false],?_,by unfold IS;rw[if_pos h1,if_neg (by omega)];exact .mk _ _ _ _ (.sl _ _)⟩;rw[h1];refine call (d:=fun _=>.cl) rfl (by decide) (by simp[Ao,h.ok]) rfl ?_;rw[bz,bC,TZ,h.val,AH];simp only[BP,BH,H4,Iy,Gb,Ap,hf,B3,bX,bY,EA,h1,ne_eq,not_true_eq_false,decide_false,AA,bA,if_false,oc,AH,ho,hx.len,A7,Fv,e0,h2,decide_true,if_true]
   have r1:Ad (.bin .rem .num false (.c (I (AT a))) (.c (I b.n.length)))=some (I ((AT a).tmod b.n.length)):=by
    rw[I,I,NC _ _ (by omega)];rfl
   have r2:∀ m:Int,Ad (.bin .rem .num false (.c (I m)) (.c (I b.n.length)))=some (I (m.tmod b.n.length)):=fun m=>by
    rw[I,I,NC _ _ (by omega)];rfl
   rw[r1];simp only[Ap,CU,w1,r2,w2,hp1,hq1];rw[show AY 1 [p,q]=true by simp[AY,hp2.val,hq2.val,hp2.cells,hq2.cells],AH,show AN 1 1 [p,q] 0 (Ai [p,q])=.sl 1 [p,q] false from rfl,hcc];simp only[Ap,Co,KA,Ho,HW,fin,AH];rfl
  ·have hnil:b.n=[]:=dL.1 (by omega);refine⟨.agg [.bool b.li,.bool b.ru,.sl 1 (As b.n) false],?_,by unfold IS;rw[if_pos h1,if_pos (by omega),hnil];exact .mk _ _ _ _ (.sl _ _)⟩;rw[h1];refine call (d:=fun _=>.cl) rfl (by decide) (by simp[Ao,h.ok]) rfl ?_;rw[bz,bC,TZ,h.val,AH];simp only[BP,BH,H4,Iy,Gb,Ap,hf,B3,bX,bY,EA,h1,ne_eq,not_true_eq_false,decide_false,AA,bA,if_false,oc,AH,ho,hx.len,A7,Fv,e0,h2,Co,KA,Ho,HW,fin];rfl
 ·refine⟨.agg [.bool false,.bool false,.nilS],?_,by unfold IS;rw[if_neg h1];exact B2⟩;refine call (d:=fun _=>.cl) rfl (by decide) (by simp[Ao,h.ok]) rfl ?_;rw[bz,bC,TZ,h.val,AH];simp only[BP,BH,H4,Ap,hf,B3,bX,bY,EA,h1,ne_eq,not_false_eq_true,decide_true,AA,if_true]
  try rfl
def K5 (n:Int) (l:List Int):List Int:=if 0<=n then l.drop (min n l.length).toNat else l.take (max ((l.length:Int)+max n (-(l.length:Int))) 0).toNat
def IQ (a b:Af):Af:=if B1 a=0 then ⟨true,b.ru,K5 (AT a) b.n⟩ else AZ
theorem minI (a b:Int):Ad (.minmax false [.c (I a),.c (I b)])=some (I (min a b)):=by
 simp only[Ad,exec,bz,bC,RX.ev,H9,I,AC];by_cases h:b < a
 ·have:min a b=b:=by omega
  simp[h,this]
 ·have:min a b=a:=by omega
  simp[h,this]
theorem maxI (a b:Int):Ad (.minmax true [.c (I a),.c (I b)])=some (I (max a b)):=by
 simp only[Ad,exec,bz,bC,RX.ev,H9,I,AC];by_cases h:a < b
 ·have:max a b=b:=by omega
  simp[h,this]
 ·have:max a b=a:=by omega
  simp[h,this]
theorem negI (n:Int):Ad (.un .neg (.c (I n)))=some (I (IntKind.i64.wrap (0 - n))):=WL n
theorem X9 {n:Int} {d top:Nat} (h0:0<=n) (h1:n<=top):EX (some (I n)) d top=some n.toNat:=by
 have:n.toNat<=top:=by omega
 simp[EX,Cn,CS,AC,I,h0,this]
theorem VG (d top:Nat):EX none d top=some d:=rfl
set_option maxHeartbeats 1000000 in
theorem drop_run {v:PV} {b a:Af} (h:EL v b a) (hb:b.n.length<=400000) (ha:a.n.length<=400000):Gl 123 v (IQ a b) (B1 a):=by
 obtain⟨x,y,rfl,hx,hy⟩:=h.get;have hf:=Pv (Gn a.li a.ru hy) (by simpa using (by omega:a.n.length<=1000000));have ho:=NQ (Gn b.li b.ru hx) (by simpa using (by omega:b.n.length<=1000000));have ef:B1 ⟨a.li,a.ru,a.n⟩=B1 a:=rfl;have en:AT ⟨a.li,a.ru,a.n⟩=AT a:=rfl;rw[ef,en] at hf;have fin:∀ (r:Bool) (l:List Int),AF (II r (.sl 1 (As l) false)) 3=true:=fun r l=>rfl;by_cases h1:B1 a=0
 ·by_cases h2:0<=AT a
  ·obtain⟨m,hm⟩:∃ m:Nat,min (AT a) b.n.length=m:=⟨(min (AT a) b.n.length).toNat,by omega⟩;have hml:m<=b.n.length:=by omega
   refine⟨II b.ru (.sl 1 (As (b.n.drop m)) false),?_,by
    have e:K5 (AT a) b.n=b.n.drop m:=by unfold K5;rw[if_pos h2,hm];rfl
    unfold IQ;rw[if_pos h1,e];exact .mk _ _ _ _ (.sl _ _)⟩
   rw[h1];refine call (d:=fun _=>.cl) rfl (by decide) (by simp[Ao,h.ok]) rfl ?_;rw[bz,bC,TY,h.val,AH];simp only[BP,BH,H4,Iy,Gb,Ap,hf,B3,bX,bY,EA,h1,ne_eq,not_true_eq_false,decide_false,AA,bA,if_false,ho,hx.len,A7,Ih,h2,decide_true,if_true,minI,hm,Co,VG];rw[X9 (by omega) (by simp[BS];omega)];simp only[Ap,PZ,BS,b9,eqN_eq,ltN_eq,KJ,iteB_bool,Mg,subN_eq,cd];by_cases h3:b.n.length=m/\0 < m
   ·rw[if_pos (by simp[h3.1,h3.2])];rw[like_call (Gn b.li b.ru hx)];have:b.n.drop m=[]:=dC (by omega);rw[this];rfl
   ·rw[if_neg (by simpa using h3)];rw[slO_drop _ (by omega),b8 (by simp),Nr (Gn b.li b.ru hx)];simp only[Ap,fin,AH];rfl
  ·obtain⟨m,hm⟩:∃ m:Nat,max ((b.n.length:Int)+max (AT a) (-(b.n.length:Int))) 0=m:=⟨(max ((b.n.length:Int)+max (AT a) (-(b.n.length:Int))) 0).toNat,by omega⟩;have hml:m<=b.n.length:=by omega
   refine⟨II b.ru (.sl 1 (As (b.n.take m)) false),?_,by
    have e:K5 (AT a) b.n=b.n.take m:=by unfold K5;rw[if_neg h2,hm];rfl
    unfold IQ;rw[if_pos h1,e];exact .mk _ _ _ _ (.sl _ _)⟩
   rw[h1];refine call (d:=fun _=>.cl) rfl (by decide) (by simp[Ao,h.ok]) rfl ?_;rw[bz,bC,TY,h.val,AH];simp only[BP,BH,H4,Iy,Gb,Ap,hf,B3,bX,bY,EA,h1,ne_eq,not_true_eq_false,decide_false,AA,bA,if_false,ho,hx.len,A7,Ih,h2,negI,maxI,Co,VG,CU];rw[EJ (n:=0 - (b.n.length:Int)) (by omega) (by omega),show (0:Int) - (b.n.length:Int) = -(b.n.length:Int) by omega,EJ (by omega) (by omega),hm];rw[X9 (by omega) (by simp[BS];omega)];simp only[Ap,b9];rw[SU _ hml,Nr (Gn b.li b.ru hx)];simp only[Ap,fin,AH];rfl
 ·refine⟨.agg [.bool false,.bool false,.nilS],?_,by unfold IQ;rw[if_neg h1];exact B2⟩;refine call (d:=fun _=>.cl) rfl (by decide) (by simp[Ao,h.ok]) rfl ?_;rw[bz,bC,TY,h.val,AH];simp only[BP,BH,H4,Ap,hf,B3,bX,bY,EA,h1,ne_eq,not_false_eq_true,decide_true,AA,if_true]
  try rfl
end Go.Ab.Derive2.Sh


namespace Go.Ab.Derive2.Sh
open Go Go.Ab Go.Ab.Derive2
def itm (b:Af) (f:Int) (j:Nat):Int:=if 0<=f+j/\f+j < b.n.length then b.n.getD (f+j).toNat 0 else DV b.ru
def Ef (b:Af) (f:Int) (k i:Nat):List Int:=(List.range k).map fun j=>if j < i then itm b f j else 0
def tkF (b:Af) (n:Int):Int:=if n < 0 then (b.n.length:Int)+n else 0
def E8 (n:Int):Nat:=if n < 0 then (-n).toNat else n.toNat
def Mi (b:Af) (n:Int):List Int:=(List.range (E8 n)).map fun j=>itm b (tkF b n) j
def MA (a:Af):Int:=Eu (-200) 200 a
def JO (a b:Af):Af:=if MA a=0 then ⟨true,b.ru,Mi b (AT a)⟩ else AZ
theorem Kw (b:Af) (f:Int) (k i:Nat):(Ef b f k i).length=k:=by simp[Ef]
theorem Tp {b:Af} {f:Int} {k i j:Nat} (h:j < k):(Ef b f k i)[j]?=some (if j < i then itm b f j else 0):=by
 unfold Ef;rw[bK,cX h];rfl
theorem tkL_zero (b:Af) (f:Int) (k:Nat):As (Ef b f k 0)=List.replicate k (I 0):=by
 apply ct;intro j;by_cases h:j < k
 ·simp[As,Tp h,h]
 ·rw[cf (by rw[BS,Kw];omega),cf (by simp;omega)]
theorem tkL_end (b:Af) (f:Int) (k:Nat):Ef b f k k=(List.range k).map fun j=>itm b f j:=by
 unfold Ef;apply ci;intro j hj;rw[if_pos (dj.1 hj)]
theorem To {b:Af} {f:Int} {k i:Nat} (h:i < k):(Ef b f k i).set i (itm b f i)=Ef b f k (i+1):=by
 apply ct;intro j;by_cases hj:j < k
 ·rw[dS,Tp hj,Tp hj,Kw];by_cases h1:i=j
  ·subst h1;rw[if_pos rfl,if_pos h,if_pos (by omega)]
  ·rw[if_neg h1];by_cases h2:j < i
   ·rw[if_pos h2,if_pos (by omega)]
   ·rw[if_neg h2,if_neg (by omega)]
 ·rw[cf (by rw[dX,Kw];omega),cf (by rw[Kw];omega)]
set_option maxHeartbeats 2000000 in
theorem take_loop {x y:PV} {b a:Af} (hx:A5 x b.n) (hy:A5 y a.n) (hb:b.n.length<=400000) (f:Int) (k:Nat) (hk:k<=200) (hf : -1000000<=f/\f<=1000000) :
  BL (fun z13=>Ac (Ad (.bin .lss .num false (.c (Aa z13.1 3)) (.c (Aa z13.1 2)))) (fun z14=>Ar z14 (Ac (Am (Aa z13.1 4) 1 1 false) (fun z15=>Ac (Al B0 .cl (.fn 167 []) [z15]) (fun z16=>Ac (FO (Aa z13.1 3)) (fun z17=>Ae (DL z17 (An (Aa z13.1 1))) (Ac (He 1 (Av (Aa z13.1 8)) (AG 0 z17) 0 1 z16) (fun z18=>Ac (Ad (.bin .add .num false (.c (Aa z13.1 0)) (.c (Aa z13.1 3)))) (fun z19=>Ac (Ac (Ad (.bin .geq .num true (.c z19) (.c (PV.int .i64 0)))) (fun z20=>Ar z20 (Ac (Am (Aa z13.1 4) 2 1 false) (fun z21=>Ac (Ad (.len .slice (.c z21))) (fun z22=>Ac (Ad (.bin .lss .num false (.c z19) (.c z22))) (fun z23=>some z23)))) (some (PV.bool false)))) (fun z24=>Ar z24 (Ac (Am (Aa z13.1 4) 2 1 false) (fun z25=>Ac (Ad (.idxAddr 1 (.c z25) (.c z19))) (fun z26=>Ac (Ad (.load 1 false (.c z26))) (fun z27=>Ac (FO (Aa z13.1 3)) (fun z28=>Ae (DL z28 (An (Aa z13.1 1))) (Ac (He 1 z18 (AG 0 z28) 0 1 z27) (fun z29=>Ac (Ad (.bin .add .num true (.c (Aa z13.1 3)) (.c (PV.int .i64 1)))) (fun z30=>some (.inl ([Aa z13.1 0,nI (An (Aa z13.1 1)),Aa z13.1 2,z30,Aa z13.1 4,Aa z13.1 5,Aa z13.1 6,Aa z13.1 7,PV.sl 1 z29 false],z13.2)))))))))) (Ac (Ad (.bin .add .num true (.c (Aa z13.1 3)) (.c (PV.int .i64 1)))) (fun z31=>some (.inl ([Aa z13.1 0,nI (An (Aa z13.1 1)),Aa z13.1 2,z31,Aa z13.1 4,Aa z13.1 5,Aa z13.1 6,Aa z13.1 7,PV.sl 1 z18 false],z13.2)))))))))))) (Ac (Ac (Am (Aa z13.1 4) 0 3 true) (fun z32=>Ac (Bs B0 .cl false 116 [z32,AN 1 1 (Av (Aa z13.1 8)) 0 (An (Aa z13.1 1))]) (fun z33=>Ae (AF z33 3) (some (PV.tup [PV.agg [Ah z33 0,Ah z33 1,Ah z33 2],PV.nilI],z13.2))))) (fun z34=>some (.inr z34))))) (([I f,I k,I k,I 0,.agg [.bool b.li,.bool b.ru,x,.bool a.li,.bool a.ru,y],.bool false,.bool false,.nilS,.sl 1 (List.replicate k (I 0)) false],()):List PV×Unit) =
   some (.tup [II b.ru (.sl 1 (As (Ef b f k k)) false),.nilI],()):=by
 refine NF (fun i=>([I f,I k,I k,I i,.agg [.bool b.li,.bool b.ru,x,.bool a.li,.bool a.ru,y],.bool false,.bool false,.nilS,.sl 1 (As (Ef b f k i)) false],())) k (by rw[tkL_zero];rfl) (fun i hlt=>?_) ?_
 ·simp only[Be,Bd,Bj,Bu,Ci,DI,DT,DH,EE,Bf,Ap,AA,ER,b9,Co,T5,BP,BH,Oh,Gb,Xg];rw[if_pos (by simpa using hlt)];have c1:DL i k=true:=by simpa using hlt
  rw[c1,Pi (by rw[Kw];exact hlt)];simp only[AH,Ap,CU];rw[EJ (n:=f+(i:Int)) (by omega) (by omega)];simp only[A7,Ih,Bf,Ap,AA,hx.len];by_cases h1:0<=f+(i:Int)
  ·by_cases h2:f+(i:Int) < b.n.length
   ·obtain⟨m,hm⟩:∃ m:Nat,f+(i:Int)=m:=⟨(f+i).toNat,by omega⟩;have hml:m < b.n.length:=by omega
    have e1:(if decide (0<=f+(i:Int))=true then some (PV.bool (decide (f+(i:Int) < b.n.length))) else some (.bool false))=some (.bool true):=by
     simp only[h1,h2,decide_true,if_true]
    rw[e1];simp only[Ap,AA,if_true];rw[hm,hx.idx hml];simp only[Ap,H6];rw[Pi (by rw[dX,Kw];exact hlt)]
    have e2:((Ef b f k i).set i (DV b.ru)).set i b.n[m]=Ef b f k (i+1):=by
     rw[List.set_set,<-To hlt];congr 1;unfold itm;rw[if_pos ⟨h1,h2⟩,hm,b9,bI,bN hml];rfl
    rw[e2];simp only[Ap,CU,ED (by omega:i < 9223372036854775807)];rfl
   ·have e1:(if decide (0<=f+(i:Int))=true then some (PV.bool (decide (f+(i:Int) < b.n.length))) else some (.bool false))=some (.bool false):=by
     simp only[h1,h2,decide_true,decide_false,if_true]
    rw[e1];simp only[Ap,AA,bA,if_false]
    have e2:(Ef b f k i).set i (DV b.ru)=Ef b f k (i+1):=by
     rw[<-To hlt];congr 1;unfold itm;rw[if_neg (fun q=>h2 q.2)]
    rw[e2];simp only[Ap,CU,ED (by omega:i < 9223372036854775807)];rfl
  ·have e1:(if decide (0<=f+(i:Int))=true then some (PV.bool (decide (f+(i:Int) < b.n.length))) else some (.bool false))=some (.bool false):=by
    simp only[h1,decide_false,bA,if_false]
   rw[e1];simp only[Ap,AA,bA,if_false]
   have e2:(Ef b f k i).set i (DV b.ru)=Ef b f k (i+1):=by
    rw[<-To hlt];congr 1;unfold itm;rw[if_neg (fun q=>h1 q.1)]
   rw[e2];simp only[Ap,CU,ED (by omega:i < 9223372036854775807)];rfl
 ·simp only[Be,Bd,Bj,Bu,Ci,EE,Bf,Ap,AA,ER,b9,Co];rw[if_neg (by simp)];simp only[BP,BH,Iy,Ap]
  have e1:AN 1 1 (As (Ef b f k k)) 0 k=.sl 1 (As (Ef b f k k)) false:=by
   have:=KA (Ef b f k k);simpa[BS,Kw] using this
  rw[e1,Nr (Gn b.li b.ru hx)]
  try rfl
set_option maxHeartbeats 1000000 in
theorem PD {v:PV} {b a:Af} (h:EL v b a) (hb:b.n.length<=400000) (ha:a.n.length<=400000):Gl 122 v (JO a b) (MA a):=by
 have ham:=VI h (by omega) (-200) 200;obtain⟨x,y,rfl,hx,hy⟩:=h.get;have ee:MA a=Eu (-200) 200 a:=rfl;by_cases h1:Eu (-200) 200 a=0
 ·have h3:B1 a=0/\¬ AT a < -200/\¬ 200 < AT a:=by
   unfold Eu at h1;by_cases q:B1 a=0/\(AT a < -200\/200 < AT a)
   ·rw[if_pos q] at h1;cases h1
   ·rw[if_neg q] at h1;exact⟨h1,fun q2=>q ⟨h1,.inl q2⟩,fun q2=>q ⟨h1,.inr q2⟩⟩
  have hl:=take_loop hx hy hb (tkF b (AT a)) (E8 (AT a)) (by unfold E8;split<;>omega) (by unfold tkF;split<;>omega);rw[tkL_end] at hl;simp only[BP,BH,Jw,Gb,Ap,A7,ham,B3,bX,bY,EA,h1,ne_eq,not_true_eq_false,decide_false,AA,bA,if_false,Bf,hx.len,CU,negI] at hl;refine⟨II b.ru (.sl 1 (As (Mi b (AT a))) false),?_,by unfold JO;rw[if_pos (ee.trans h1)];exact .mk _ _ _ _ (.sl _ _)⟩;rw[ee,h1];refine call (d:=fun _=>.cl) rfl (by decide) (by simp[Ao,h.ok]) rfl ?_;rw[bz,bC,run122,h.val,AH];simp only[BP,BH,Jw,Gb,Ap,A7,ham,B3,bX,bY,EA,h1,ne_eq,not_true_eq_false,decide_false,AA,bA,if_false,Bf,hx.len,CU,negI];by_cases h2:AT a < 0
  ·have ef:tkF b (AT a)=(b.n.length:Int)+AT a:=by unfold tkF;rw[if_pos h2]
   have ek:((E8 (AT a):Nat):Int) = -(AT a):=by unfold E8;rw[if_pos h2];omega
   simp only[h2,decide_true,if_true];rw[EJ (n:=(b.n.length:Int)+AT a) (by omega) (by omega),EJ (n:=0 - AT a) (by omega) (by omega),show (0:Int) - AT a = -(AT a) by omega,<-ef,<-ek,T6 (by unfold E8;split<;>omega)];simp only[Ap];rw[show Bp [I (tkF b (AT a)),nI (E8 (AT a)),nI (E8 (AT a)),I 0]=true from rfl,AH];exact hl
  ·have ef:tkF b (AT a)=0:=by unfold tkF;rw[if_neg h2]
   have ek:AT a=((E8 (AT a):Nat):Int):=by unfold E8;rw[if_neg h2];omega
   simp only[h2,decide_false,bA,if_false]
   have em:J3 (I (AT a)) (I (AT a))=some (E8 (AT a)):=by
    have:=T6 (n:=E8 (AT a)) (by unfold E8;split<;>omega)
    rwa [<-ek] at this
   rw[em];simp only[Ap];rw[show Bp [I 0,nI (E8 (AT a)),nI (E8 (AT a)),I 0]=true from rfl,AH];rw[ef] at hl;have et:Mi b (AT a)=(List.range (E8 (AT a))).map fun j=>itm b 0 j:=by unfold Mi;rw[ef]
   rw[et];exact hl
 ·refine⟨.agg [.bool false,.bool false,.nilS],?_,by unfold JO;rw[if_neg (fun q=>h1 (ee.symm.trans q))];exact B2⟩;rw[ee];refine call (d:=fun _=>.cl) rfl (by decide) (by simp[Ao,h.ok]) rfl ?_;rw[bz,bC,run122,h.val,AH];simp only[BP,BH,Jw,Ap,A7,ham,B3,bX,bY,EA,h1,ne_eq,not_false_eq_true,decide_true,AA,if_true]
  try rfl
def monE (g:List UInt8) (b:Af):Int :=
 if b.right=false then 114
 else if g=gR then 0 else if g=gI then Hv b else if g=gC then 0 else if g=gT then 0 else if g=gU then 0 else if g=gN then 0 else 102
def monA (g:List UInt8) (b:Af):Af :=
 if b.right=false then AZ
 else if g=gR then OB b else if g=gI then JG b else if g=gC then ⟨true,b.ru,b.n⟩ else if g=gT then ⟨b.li,b.ru,b.n.reverse⟩ else if g=gU then IM b else if g=gN then HH b.n.length else AZ
theorem Gz (f:FuncId):Ad (.bin .eql .func true (.c (.fn f [])) (.c .nilF))=some (.bool false):=rfl
theorem XU:Ad (.bin .eql .func true (.c .nilF) (.c .nilF))=some (.bool true):=rfl
theorem Qj {v:PV} {a:Af} (h:AL v a):AY 3 [v]=true:=by
 obtain⟨x,rfl,hx⟩:=h.get;simp[AY,BU (a:=.bool a.li) (b:=.bool a.ru) rfl rfl hx.cell]
theorem Tu {v u:PV} {a b:Af} (h:AL v a) (hu:AL u b):AY 3 [v,u]=true:=by
 obtain⟨x,rfl,hx⟩:=h.get;obtain⟨y,rfl,hy⟩:=hu.get;simp[AY,BU (a:=.bool a.li) (b:=.bool a.ru) rfl rfl hx.cell,BU (a:=.bool b.li) (b:=.bool b.ru) rfl rfl hy.cell]
theorem Dp {v:PV} {a:Af} (h:AL v a):A3 v=true:=by
 obtain⟨x,rfl,hx⟩:=h.get;exact BU rfl rfl hx.cell
theorem DD {v:PV} {a:Af} (h:AL v a):Am v 0 3 true=some v:=by
 obtain⟨x,rfl,hx⟩:=h.get;rfl
theorem Gw {g:FuncId} {v:PV} {r:Af} {c:Int} (h:Gl g v r c):∃ y,AL y r/\(Ac (Al B0 .cl (.fn g []) [v]) (fun z10=>Ac (Ad (.extract 0 (.c z10))) (fun z11=>Ac (Ad (.extract 1 (.c z10))) (fun z12=>Ae (AF z11 3) (Ac (Al B0 .cl (.fn 68 []) [z12]) (fun z13=>some (PV.tup [.agg [Ah z11 0,Ah z11 1,Ah z11 2],z13],())))))))=some (.tup [y,I c],()):=by
 obtain⟨y,h1,h2⟩:=h;refine⟨y,h2,?_⟩;rw[h1];simp only[Ap,B3,bX,bY,CM h2,AH,Nz,cells_is h2]
theorem mon_run (g:List UInt8) {v:PV} {b:Af} (h:AL v b) (hl:b.n.length<=1000000):∃ y,Al B0 .cl (.fn 37 []) [.str g,v]=some (.tup [y,I (monE g b)])/\AL y (monA g b):=by
 have key:∃ y,AL y (monA g b)/\AR (AI B0 fun _=>.cl) fn37 .cl AD 0 [.cv (.str g),.cv v] ()=some (.tup [y,I (monE g b)],()):=by
  rw[run37,Dp h,AH,Xc];simp only[Ap,WX,DD h,Qj h,AH]
  rw[show AF (.agg [Ii g,Dl g]) 2=true by
   unfold Ii Dl AF;simp only[PV.isVal];by_cases h1:g=gR;· simp[h1,PV.isCell]
   by_cases h2:g=gI;· simp[h1,h2,PV.isCell]
   by_cases h3:g=gC;· simp[h1,h2,h3,PV.isCell]
   by_cases h4:g=gT;· simp[h1,h2,h3,h4,PV.isCell]
   by_cases h5:g=gU;· simp[h1,h2,h3,h4,h5,PV.isCell]
   by_cases h6:g=gD;· simp[h1,h2,h3,h4,h5,h6,PV.isCell]
   by_cases h7:g=gN;· simp[h1,h2,h3,h4,h5,h6,h7,PV.isCell]
   simp[h1,h2,h3,h4,h5,h6,h7,PV.isCell],AH]
  have e0:AN 3 3 [v] 0 (Ai [v])=.sl 3 [v] false:=rfl;rw[e0,right1 h hl];simp only[Ap,Cl,AA];unfold monE monA;cases hr:b.right with
  | false=>exact⟨_,B2,rfl⟩
  | true =>
   simp only[ce,bA,if_false];rw[show Ah (.agg [Ii g,Dl g]) 0=Ii g from rfl];unfold Ii;by_cases h1:g=gR
   ·simp only[h1,if_true,Gz,Ap,AA,bA,if_false];exact Gw (PE h hl)
   simp only[h1,if_false];by_cases h2:g=gI
   ·simp only[h2,if_true,Gz,Ap,AA,bA,if_false];exact Gw (count_run h hl)
   simp only[h2,if_false];by_cases h3:g=gC
   ·simp only[h3,if_true,Gz,Ap,AA,bA,if_false];exact Gw (comma_run h hl)
   simp only[h3,if_false];by_cases h4:g=gT
   ·simp only[h4,if_true,Gz,Ap,AA,bA,if_false];exact Gw (Yw h hl)
   simp only[h4,if_false];by_cases h5:g=gU
   ·simp only[h5,if_true,Gz,Ap,AA,bA,if_false];exact Gw (head_run h hl)
   simp only[h5,if_false];by_cases h6:g=gN
   ·simp only[h6,if_true,Gz,Ap,AA,bA,if_false];exact Gw (len_run h)
   simp only[h6,if_false,XU,Ap,AA,if_true];exact⟨_,B2,rfl⟩
 obtain⟨y,h1,h2⟩:=key;refine⟨y,?_,h1⟩;exact call (d:=fun _=>.cl) rfl (by decide) (by simp[Ao,okV,h.ok]) rfl h2
def dyE (g:List UInt8) (a b:Af):Int :=
 if (a.right&&b.right)=false then 114
 else if g=gR then Gr a b else if g=gI then KY a else if g=gC then If a b else if g=gT then B1 a else if g=gU then MA a else if g=gD then B1 a else if g=gN then 0 else 102
def dyA (g:List UInt8) (a b:Af):Af :=
 if (a.right&&b.right)=false then AZ
 else if g=gR then shA a b else if g=gI then KZ a b else if g=gC then JS a b else if g=gT then IS a b else if g=gU then JO a b else if g=gD then IQ a b else if g=gN then HH (if a.same b then 0 else 1) else AZ
theorem Z3 {v u:PV} {a b:Af} (h:AL v a) (hu:AL u b):∃ p,Ad (.build [.bool false,.bool false,.nilS,.bool false,.bool false,.nilS] [(0,(3,.c u)),(3,(3,.c v))])=some p/\EL p b a:=by
 obtain⟨x,rfl,hx⟩:=h.get;obtain⟨y,rfl,hy⟩:=hu.get;refine⟨.agg [.bool b.li,.bool b.ru,y,.bool a.li,.bool a.ru,x],?_,.mk _ _ _ _ _ _ _ _ hy hx⟩;simp[Ad,exec,DS,RX.ev,BU (a:=.bool a.li) (b:=.bool a.ru) rfl rfl hx.cell,BU (a:=.bool b.li) (b:=.bool b.ru) rfl rfl hy.cell,splice,AC]
theorem dy_key (g:List UInt8) {v u:PV} {a b:Af} (h:AL v a) (hu:AL u b) (ha:a.n.length<=400000) (hb:b.n.length<=400000) :
  ∃ y,AL y (dyA g a b)/\AR (AI B0 fun _=>.cl) fn43 .cl AD 0 [.cv (.str g),.cv v,.cv u] ()=some (.tup [y,I (dyE g a b)],()):=by
 obtain⟨p,hp1,hp2⟩:=Z3 h hu;rw[run43,Dp h,Dp hu,AH,AH,Xc];simp only[Ap,WX,DD h,DD hu,Tu h hu,AH,hp1]
 rw[show AF (.agg [Ii g,Dl g]) 2=true by
  unfold Ii Dl AF;simp only[PV.isVal];by_cases h1:g=gR;· simp[h1,PV.isCell]
  by_cases h2:g=gI;· simp[h1,h2,PV.isCell]
  by_cases h3:g=gC;· simp[h1,h2,h3,PV.isCell]
  by_cases h4:g=gT;· simp[h1,h2,h3,h4,PV.isCell]
  by_cases h5:g=gU;· simp[h1,h2,h3,h4,h5,PV.isCell]
  by_cases h6:g=gD;· simp[h1,h2,h3,h4,h5,h6,PV.isCell]
  by_cases h7:g=gN;· simp[h1,h2,h3,h4,h5,h6,h7,PV.isCell]
  simp[h1,h2,h3,h4,h5,h6,h7,PV.isCell],AH]
 have e0:AN 3 3 [v,u] 0 (Ai [v,u])=.sl 3 [v,u] false:=rfl;rw[e0,right2 h hu (by omega) (by omega)];simp only[Ap,Cl,AA];unfold dyE dyA;cases hr:(a.right&&b.right) with
 | false=>exact⟨_,B2,rfl⟩
 | true =>
  simp only[ce,bA,if_false];rw[show Ah (.agg [Ii g,Dl g]) 1=Dl g from rfl];unfold Dl;by_cases h1:g=gR
  ·simp only[h1,if_true,Gz,Ap,AA,bA,if_false];exact Gw (Y0 hp2 hb ha)
  simp only[h1,if_false];by_cases h2:g=gI
  ·simp only[h2,if_true,Gz,Ap,AA,bA,if_false];exact Gw (YE hp2 hb ha)
  simp only[h2,if_false];by_cases h3:g=gC
  ·simp only[h3,if_true,Gz,Ap,AA,bA,if_false];exact Gw (join_run hp2 hb ha)
  simp only[h3,if_false];by_cases h4:g=gT
  ·simp only[h4,if_true,Gz,Ap,AA,bA,if_false];exact Gw (ZY hp2 hb ha)
  simp only[h4,if_false];by_cases h5:g=gU
  ·simp only[h5,if_true,Gz,Ap,AA,bA,if_false];exact Gw (PD hp2 hb ha)
  simp only[h5,if_false];by_cases h6:g=gD
  ·simp only[h6,if_true,Gz,Ap,AA,bA,if_false];exact Gw (drop_run hp2 hb ha)
  simp only[h6,if_false];by_cases h7:g=gN
  ·simp only[h7,if_true,Gz,Ap,AA,bA,if_false];exact Gw (bm hp2 (by omega) (by omega))
  simp only[h7,if_false,XU,Ap,AA,if_true];exact⟨_,B2,rfl⟩
theorem dy_run (g:List UInt8) {v u:PV} {a b:Af} (h:AL v a) (hu:AL u b) (ha:a.n.length<=400000) (hb:b.n.length<=400000):∃ y,Al B0 .cl (.fn 43 []) [.str g,v,u]=some (.tup [y,I (dyE g a b)])/\AL y (dyA g a b):=by
 obtain⟨y,h1,h2⟩:=dy_key g h hu ha hb;refine⟨y,?_,h1⟩;exact call (d:=fun _=>.cl) rfl (by decide) (by simp[Ao,okV,h.ok,hu.ok]) rfl h2
end Go.Ab.Derive2.Sh


namespace Go.Ab.Derive2.Sh
open Go Go.Ab Go.Ab.Derive2
section
variable {a b:Af}
theorem mon_R (h:b.right=true):monE gR b=0/\monA gR b=OB b:=by unfold monE monA;simp[h]
theorem mon_I (h:b.right=true):monE gI b=Hv b/\monA gI b=JG b:=by unfold monE monA;simp[h,show ¬ gI=gR by decide]
theorem mon_C (h:b.right=true):monE gC b=0/\monA gC b=⟨true,b.ru,b.n⟩:=by unfold monE monA;simp[h,show ¬ gC=gR by decide,show ¬ gC=gI by decide]
theorem mon_T (h:b.right=true):monE gT b=0/\monA gT b=⟨b.li,b.ru,b.n.reverse⟩:=by unfold monE monA;simp[h,show ¬ gT=gR by decide,show ¬ gT=gI by decide,show ¬ gT=gC by decide]
theorem mon_U (h:b.right=true):monE gU b=0/\monA gU b=IM b:=by unfold monE monA;simp[h,show ¬ gU=gR by decide,show ¬ gU=gI by decide,show ¬ gU=gC by decide,show ¬ gU=gT by decide]
theorem mon_N (h:b.right=true):monE gN b=0/\monA gN b=HH b.n.length:=by unfold monE monA;simp[h,show ¬ gN=gR by decide,show ¬ gN=gI by decide,show ¬ gN=gC by decide,show ¬ gN=gT by decide,show ¬ gN=gU by decide]
theorem mon_not {g:List UInt8} (h:b.right=false):monE g b=114/\monA g b=AZ:=by unfold monE monA;simp[h]
theorem dy_not {g:List UInt8} (h:(a.right&&b.right)=false):dyE g a b=114/\dyA g a b=AZ:=by unfold dyE dyA;rw[if_pos h,if_pos h];exact⟨rfl,rfl⟩
theorem dy_R (ha:a.right=true) (h:b.right=true):dyE gR a b=Gr a b/\dyA gR a b=shA a b:=by unfold dyE dyA;simp[h,ha]
theorem dy_I (ha:a.right=true) (h:b.right=true):dyE gI a b=KY a/\dyA gI a b=KZ a b:=by unfold dyE dyA;simp[h,ha,show ¬ gI=gR by decide]
theorem dy_C (ha:a.right=true) (h:b.right=true):dyE gC a b=If a b/\dyA gC a b=JS a b:=by unfold dyE dyA;simp[h,ha,show ¬ gC=gR by decide,show ¬ gC=gI by decide]
theorem dy_T (ha:a.right=true) (h:b.right=true):dyE gT a b=B1 a/\dyA gT a b=IS a b:=by unfold dyE dyA;simp[h,ha,show ¬ gT=gR by decide,show ¬ gT=gI by decide,show ¬ gT=gC by decide]
theorem dy_U (ha:a.right=true) (h:b.right=true):dyE gU a b=MA a/\dyA gU a b=JO a b:=by unfold dyE dyA;simp[h,ha,show ¬ gU=gR by decide,show ¬ gU=gI by decide,show ¬ gU=gC by decide,show ¬ gU=gT by decide]
theorem dy_D (ha:a.right=true) (h:b.right=true):dyE gD a b=B1 a/\dyA gD a b=IQ a b:=by unfold dyE dyA;simp[h,ha,show ¬ gD=gR by decide,show ¬ gD=gI by decide,show ¬ gD=gC by decide,show ¬ gD=gT by decide,show ¬ gD=gU by decide]
theorem dy_N (ha:a.right=true) (h:b.right=true):dyE gN a b=0/\dyA gN a b=HH (if a.same b then 0 else 1):=by unfold dyE dyA;simp[h,ha,show ¬ gN=gR by decide,show ¬ gN=gI by decide,show ¬ gN=gC by decide,show ¬ gN=gT by decide,show ¬ gN=gU by decide,show ¬ gN=gD by decide]
end
theorem VS (n:Int):(HH n).right=true:=by simp[Af.right,HH]
end Go.Ab.Derive2.Sh


namespace Go.Ab.Derive2.Sh
open Go Go.Ab Go.Ab.Derive2
theorem Gu {a:Af} (h:a.right=true):a.n.length<=200:=by
 unfold Af.right at h;rw[bB] at h;have h2:=h.2;split at h2;·simpa using h2
 ·have:a.n.length=1:=by simpa using h2
  omega
theorem right_runes {a:Af} (h:a.right=true) (hr:a.ru=true):∀ n∈a.n,Hf n=true:=by
 unfold Af.right at h;rw[bB] at h;have h1:=h.1;rw[hr] at h1;simp only[cN,dn] at h1;intro n hn;cases hq:Hf n with
 | true=>rfl
 | false =>
  have:(a.n.any fun n=>!Hf n)=true:=eY.2 ⟨n,hn,by simp[hq]⟩;rw[this] at h1;cases h1
theorem right_mk {li ru:Bool} {l:List Int} (h1:ru=true->∀ n∈l,Hf n=true) (h2:if li then l.length<=200 else l.length=1):(⟨li,ru,l⟩:Af).right=true:=by
 unfold Af.right;rw[bB];refine⟨?_,?_⟩
 ·cases ru with
  | false=>rfl
  | true =>
   simp only[cN,dn];rw[Bool.eq_false_iff];intro ha;obtain⟨n,hn,hq⟩:=eY.1 ha;rw[h1 rfl n hn] at hq;cases hq
 ·cases li with
  | true=>simpa using h2
  | false=>simpa using h2
end Go.Ab.Derive2.Sh


namespace Go.Ab.Derive2.Sh
open Go Go.Ab Go.Ab.Derive2
theorem Ly:AZ.right=false:=by simp[Af.right,AZ]
theorem rune_32:Hf 32=true:=by decide
theorem SJ (a:Af):B1 a=0\/B1 a=111\/B1 a=102:=by
 unfold B1;split;·exact .inr (.inl rfl)
 ·split;·exact .inr (.inr rfl)
  ·exact .inl rfl
theorem Yb (lo hi:Int) (a:Af):Eu lo hi a=0\/Eu lo hi a=111\/Eu lo hi a=102\/Eu lo hi a=113:=by
 unfold Eu;split;·exact .inr (.inr (.inr rfl))
 ·rcases SJ a with h | h | h;·exact .inl h
  ·exact .inr (.inl h)
  ·exact .inr (.inr (.inl h))
theorem WA {lo hi:Int} {a:Af} (h:Eu lo hi a=0):B1 a=0/\lo<=AT a/\AT a<=hi:=by
 unfold Eu at h;by_cases q:B1 a=0/\(AT a < lo\/hi < AT a)
 ·rw[if_pos q] at h;cases h
 ·rw[if_neg q] at h;refine⟨h,?_,?_⟩;·exact Int.not_lt.1 fun q2=>q ⟨h,.inl q2⟩
  ·exact Int.not_lt.1 fun q2=>q ⟨h,.inr q2⟩
theorem Xb {l:List Int} {i:Nat} (h:i < l.length) (d:Int):l.getD i d∈l:=by
 rw[bI,bN h];exact dk h
theorem Wn {r:Bool} (h:r=true):Hf (DV r)=true:=by rw[h];exact rune_32
theorem mon_right (g:List UInt8) (b:Af):(monE g b=0↔(monA g b).right=true)/\(monE g b=114->b.right=false):=by
 cases hq:b.right with
 | false =>
  obtain⟨e1,e2⟩:=mon_not (g:=g) hq;rw[e1,e2,Ly];simp
 | true =>
  have hl:=Gu hq;have hr:=right_runes hq
  have fin:∀ {e:Int} {r:Af},(e=0->r.right=true)->(e≠0->r=AZ)->e≠114->(e=0↔r.right=true)/\(e=114->true=false):=by
   intro e r h1 h2 h3;refine⟨⟨h1,fun h=>?_⟩,fun h=>absurd h h3⟩;refine cM fun hne=>?_;rw[h2 hne,Ly] at h;cases h
  by_cases h1:g=gR
  ·subst h1;obtain⟨e1,e2⟩:=mon_R hq;rw[e1,e2];exact fin (fun _=>right_mk (fun h=>by cases h) (by rw[if_pos rfl];split<;>simp)) (fun h=>absurd rfl h) (by decide)
  by_cases h2:g=gI
  ·subst h2;obtain⟨e1,e2⟩:=mon_I hq;rw[e1,e2];refine fin (fun h=>?_) (fun h=>?_) ?_
   ·unfold JG;rw[if_pos h];refine right_mk (fun h=>by cases h) ?_;rw[if_pos rfl,Ny];unfold Hv at h;by_cases q1:B1 b≠0
    ·rw[if_pos q1] at h;exact absurd h q1
    ·rw[if_neg q1] at h;by_cases q2:AT b < 0
     ·rw[if_pos q2] at h;cases h
     ·rw[if_neg q2] at h;by_cases q3:200 < AT b
      ·rw[if_pos q3] at h;cases h
      ·omega
   ·unfold JG;rw[if_neg h]
   ·unfold Hv;rcases SJ b with q | q | q<;>rw[q]
    ·rw[if_neg (by simp)];split;·decide
     ·split<;>decide
    ·rw[if_pos (by decide)];decide
    ·rw[if_pos (by decide)];decide
  by_cases h3:g=gC
  ·subst h3;obtain⟨e1,e2⟩:=mon_C hq;rw[e1,e2];exact fin (fun _=>right_mk hr (by simpa using hl)) (fun h=>absurd rfl h) (by decide)
  by_cases h4:g=gT
  ·subst h4;obtain⟨e1,e2⟩:=mon_T hq;rw[e1,e2];refine fin (fun _=>right_mk (fun h n hn=>hr h n (eS.1 hn)) ?_) (fun h=>absurd rfl h) (by decide);unfold Af.right at hq;rw[bB] at hq;have:=hq.2;rw[List.length_reverse];split at this<;>simp_all
  by_cases h5:g=gU
  ·subst h5;obtain⟨e1,e2⟩:=mon_U hq;rw[e1,e2];refine fin (fun _=>right_mk (fun h n hn=>?_) (by simp)) (fun h=>absurd rfl h) (by decide);rcases bW.1 (cw hn) with hm | hm;·exact hr h n hm
   ·simp only[cj] at hm;subst hm;exact Wn h
  by_cases h6:g=gN
  ·subst h6;obtain⟨e1,e2⟩:=mon_N hq;rw[e1,e2];exact fin (fun _=>VS _) (fun h=>absurd rfl h) (by decide)
  have e1:monE g b=102:=by unfold monE;simp[hq,h1,h2,h3,h4,h5,h6]
  have e2:monA g b=AZ:=by unfold monA;simp[hq,h1,h2,h3,h4,h5,h6]
  rw[e1,e2];exact fin (fun h=>by cases h) (fun _=>rfl) (by decide)
theorem dy_right (g:List UInt8) (a b:Af):(dyE g a b=0↔(dyA g a b).right=true)/\(dyE g a b=114->(a.right&&b.right)=false):=by
 cases hq:(a.right&&b.right) with
 | false =>
  obtain⟨e1,e2⟩:=dy_not (g:=g) hq;rw[e1,e2,Ly];simp
 | true =>
  rw[bB] at hq;obtain⟨ha,hb⟩:=hq;have hl:=Gu hb;have hla:=Gu ha;have hr:=right_runes hb
  have hli:if b.li then b.n.length<=200 else b.n.length=1:=by
   have hb2:=hb;unfold Af.right at hb2;rw[bB] at hb2;have:=hb2.2;split at this;·rename_i q;rw[if_pos q];simpa using this
   ·rename_i q;rw[if_neg q];simpa using this
  have fin:∀ {e:Int} {r:Af},(e=0->r.right=true)->(e≠0->r=AZ)->e≠114->(e=0↔r.right=true)/\(e=114->true=false):=by
   intro e r h1 h2 h3;refine⟨⟨h1,fun h=>?_⟩,fun h=>absurd h h3⟩;refine cM fun hne=>?_;rw[h2 hne,Ly] at h;cases h
  have f114:B1 a≠114:=by rcases SJ a with q | q | q<;>rw[q]<;>decide
  by_cases h1:g=gR
  ·subst h1;obtain⟨e1,e2⟩:=dy_R ha hb;rw[e1,e2];refine fin (fun h=>?_) (fun h=>?_) ?_
   ·unfold shA;rw[if_pos h];unfold Gr at h;by_cases q1:Eu (-9223372036854775808) 200 a≠0
    ·rw[if_pos q1] at h;exact absurd h q1
    ·rw[if_neg q1] at h;have q0:=WA (Classical.not_not.1 q1);by_cases q2:AT a < 0
     ·rw[if_pos q2] at h;cases h
     ·rw[if_neg q2] at h;by_cases q3:0 < AT a/\b.n.length=0
      ·rw[if_pos q3] at h;cases h
      ·refine right_mk (fun hru n hn=>?_) (by rw[if_pos rfl,N7];omega);unfold cyc at hn;obtain⟨i,hi,rfl⟩:=bE.1 hn;have hi:=dj.1 hi;exact hr hru _ (Xb (Nat.mod_lt _ (by omega)) 0)
   ·unfold shA;rw[if_neg h]
   ·unfold Gr;rcases Yb (-9223372036854775808) 200 a with q | q | q | q<;>rw[q]
    ·rw[if_neg (by simp)];split;·decide
     ·split<;>decide
    ·rw[if_pos (by decide)];decide
    ·rw[if_pos (by decide)];decide
    ·rw[if_pos (by decide)];decide
  by_cases h2:g=gI
  ·subst h2;obtain⟨e1,e2⟩:=dy_I ha hb;rw[e1,e2];unfold KY KZ;cases hal:a.li with
   | true=>exact fin (fun _=>right_mk (fun h=>by cases h) (by rw[bS];exact hli)) (fun h=>absurd rfl h) (by decide)
   | false=>exact fin (fun h=>by cases h) (fun _=>rfl) (by decide)
  by_cases h3:g=gC
  ·subst h3;obtain⟨e1,e2⟩:=dy_C ha hb;rw[e1,e2];refine fin (fun h=>?_) (fun h=>?_) ?_
   ·unfold JS;rw[if_pos h];unfold If at h;by_cases q1:0 < a.n.length/\0 < b.n.length/\a.ru≠b.ru
    ·rw[if_pos q1] at h;cases h
    ·rw[if_neg q1] at h;by_cases q2:200 < a.n.length+b.n.length
     ·rw[if_pos q2] at h;cases h
     ·refine right_mk (fun hru n hn=>?_) (by simp;omega)
      have hcase:(a.ru=true\/a.n=[])/\(b.ru=true\/b.n=[]):=by
       cases ea:a.ru<;>cases eb:b.ru;·simp[FE,ea,eb] at hru
       ·simp[FE,ea,eb] at hru;refine⟨.inr ?_,.inl rfl⟩;rcases eD a.n.length with q | q;·exact dL.1 q
        ·exact absurd ⟨q,hru,by rw[ea,eb];decide⟩ q1
       ·simp[FE,ea,eb] at hru;refine⟨.inl rfl,.inr ?_⟩;rcases eD b.n.length with q | q;·exact dL.1 q
        ·exact absurd ⟨hru,q,by rw[ea,eb];decide⟩ q1
       ·exact⟨.inl rfl,.inl rfl⟩
      rcases bW.1 hn with hm | hm
      ·rcases hcase.1 with q | q;·exact right_runes ha q n hm
       ·rw[q] at hm;cases hm
      ·rcases hcase.2 with q | q;·exact hr q n hm
       ·rw[q] at hm;cases hm
   ·unfold JS;rw[if_neg h]
   ·unfold If;split;·decide
    ·split<;>decide
  by_cases h4:g=gT
  ·subst h4;obtain⟨e1,e2⟩:=dy_T ha hb;rw[e1,e2];refine fin (fun h=>?_) (fun h=>?_) f114
   ·unfold IS;rw[if_pos h];by_cases q:b.n.length=0
    ·rw[if_pos q];refine right_mk (fun _ n hn=>by cases hn) ?_;rw[q] at hli;exact hli
    ·rw[if_neg q];refine right_mk (fun hru n hn=>?_) ?_
     ·unfold turn at hn;rcases bW.1 hn with hm | hm;·exact hr hru n (cL hm)
      ·exact hr hru n (cw hm)
     ·have hk:=VK (n:=AT a) (k:=b.n.length) (by omega)
      have:(turn (AT a) b.n).length=b.n.length:=by
       unfold turn;rw[cm,List.length_drop,cR];omega
      rw[this];exact hli
   ·unfold IS;rw[if_neg h]
  by_cases h5:g=gU
  ·subst h5;obtain⟨e1,e2⟩:=dy_U ha hb;rw[e1,e2];refine fin (fun h=>?_) (fun h=>?_) ?_
   ·have q0:=WA (lo := -200) (hi:=200) (a:=a) h;unfold JO;rw[if_pos h];refine right_mk (fun hru n hn=>?_) ?_
    ·unfold Mi at hn;obtain⟨j,hj,rfl⟩:=bE.1 hn;unfold itm;split;·rename_i q;exact hr hru _ (Xb (by omega) 0)
     ·exact Wn hru
    ·rw[if_pos rfl];unfold Mi E8;rw[bS,eX];split<;>omega
   ·unfold JO;rw[if_neg h]
   ·unfold MA;rcases Yb (-200) 200 a with q | q | q | q<;>rw[q]<;>decide
  by_cases h6:g=gD
  ·subst h6;obtain⟨e1,e2⟩:=dy_D ha hb;rw[e1,e2];refine fin (fun h=>?_) (fun h=>?_) f114
   ·unfold IQ;rw[if_pos h];refine right_mk (fun hru n hn=>?_) ?_
    ·unfold K5 at hn;split at hn;·exact hr hru n (cL hn)
     ·exact hr hru n (cw hn)
    ·rw[if_pos rfl];unfold K5;split;·rw[List.length_drop];omega
     ·rw[cR];omega
   ·unfold IQ;rw[if_neg h]
  by_cases h7:g=gN
  ·subst h7;obtain⟨e1,e2⟩:=dy_N ha hb;rw[e1,e2];exact fin (fun _=>VS _) (fun h=>absurd rfl h) (by decide)
  have e1:dyE g a b=102:=by unfold dyE;simp[ha,hb,h1,h2,h3,h4,h5,h6,h7]
  have e2:dyA g a b=AZ:=by unfold dyA;simp[ha,hb,h1,h2,h3,h4,h5,h6,h7]
  rw[e1,e2];exact fin (fun h=>by cases h) (fun _=>rfl) (by decide)
theorem dyA_len (g:List UInt8) {a b:Af} (hl:a.n.length<=202) (hm:b.n.length<=202):(dyA g a b).n.length<=400000:=by
 by_cases h:(dyA g a b).right=true
 ·have:=Gu h;omega
 ·have h2:=(dy_right g a b).1;have h3:dyE g a b≠0:=fun q=>h (h2.1 q);unfold dyE at h3;unfold dyA;by_cases q:(a.right&&b.right)=false
  ·rw[if_pos q];simp[AZ]
  ·rw[if_neg q] at h3 |-;by_cases h1:g=gR
   ·simp only[h1,if_true] at h3 |-;unfold shA;rw[if_neg h3];simp[AZ]
   simp only[h1,if_false] at h3 |-;by_cases h2:g=gI
   ·simp only[h2,if_true] at h3 |-;unfold KZ;split;·simp;omega
    ·simp[AZ]
   simp only[h2,if_false] at h3 |-;by_cases h4:g=gC
   ·simp only[h4,if_true] at h3 |-;unfold JS;rw[if_neg h3];simp[AZ]
   simp only[h4,if_false] at h3 |-;by_cases h5:g=gT
   ·simp only[h5,if_true] at h3 |-;unfold IS;rw[if_neg h3];simp[AZ]
   simp only[h5,if_false] at h3 |-;by_cases h6:g=gU
   ·simp only[h6,if_true] at h3 |-;unfold JO;rw[if_neg h3];simp[AZ]
   simp only[h6,if_false] at h3 |-;by_cases h7:g=gD
   ·simp only[h7,if_true] at h3 |-;unfold IQ;rw[if_neg h3];simp[AZ]
   simp only[h7,if_false] at h3 |-;split<;>simp[AZ,HH]
theorem monA_len (g:List UInt8) {b:Af} (hm:b.n.length<=202):(monA g b).n.length<=400000:=by
 by_cases h:(monA g b).right=true
 ·have:=Gu h;omega
 ·have h2:=(mon_right g b).1;have h3:monE g b≠0:=fun q=>h (h2.1 q);unfold monE at h3;unfold monA;by_cases q:b.right=false
  ·rw[if_pos q];simp[AZ]
  ·rw[if_neg q] at h3 |-;by_cases h1:g=gR
   ·simp[h1] at h3
   simp only[h1,if_false] at h3 |-;by_cases h2:g=gI
   ·simp only[h2,if_true] at h3 |-;unfold JG;rw[if_neg h3];simp[AZ]
   simp only[h2,if_false] at h3 |-;by_cases h4:g=gC
   ·simp[h4] at h3
   simp only[h4,if_false] at h3 |-;by_cases h5:g=gT
   ·simp[h5] at h3
   simp only[h5,if_false] at h3 |-;by_cases h6:g=gU
   ·simp[h6] at h3
   simp only[h6,if_false] at h3 |-;split<;>simp[AZ,HH]
end Go.Ab.Derive2.Sh

