/- Part 6 of a proof: laws of a machine. -/
import Derived.Test.YtekfceoganklgaaGreatDoorProg
import Derived.Test.YtekfceoganklgaaGreatDoorK05
import Derived.WalkKit
import Derived.LaidEql
import Derived.Stop.Asserts
import Derived.RowKitTokens
import Derived.Test.YtekfceoganklgaaGreatDoorK03
import Derived.ChangeArms
import Derived.ChangeSlices
import Derived.ChangeMaps5
import Derived.JoinedOf
import Derived.RowKit
set_option linter.all false

namespace Go.Proofs.uJ
open Go.RowKit Go.Extern.Stop Go.Stop Go.Extern
variable{E:lP} {P:lO} {W:lJ} {c n:Array lK} {v:lK}
theorem as_nil (t:lK) (w:lJ) :
  Calls Tryz.prog 116 #[.nilIface,t] w fun e w'=>e=.returned (.bool false)/\w'=w:=by
 go_enter Tryz.func116,Tryz.ntmps116
 go_wp2
 go_ret
 exact⟨rfl,rfl⟩
theorem Tryz.xw (t:Addr) (w:lJ):(ReflectliteValue.unpack (.iface 205 (.pointer (some t)))).run Tryz.prog w
  = .ok (.agg #[.pointer (some ⟨17,205,none⟩),.pointer (some ⟨w.heap.size,0,none⟩),.int .u64 150]) (w.alloc (.cells #[.pointer (some t)] 205)):=by kernel_rfl
theorem Tryz.type27 (a:Addr) (w:lJ):(ReflectliteValue.methodAny (ReflectliteValue.valueError "reflectlite.Value.Type" 0) (fun t _ _ _=>ReflectliteType.toType t) #[.agg #[.pointer (some ⟨17,205,none⟩),.pointer (some a),.int .u64 150]]).run Tryz.prog w
  = .ok (.iface 271 (.agg #[.pointer (some ⟨17,205,none⟩)])) w:=by kernel_rfl
theorem Tryz.uK (h:lK) (w:lJ):(Go.method 674 271 (.agg #[h]) "Kind").run Tryz.prog w=.ok (414,h) w:=by kernel_rfl
theorem Tryz.kind27 (w:lJ):((ReflectliteType.abiMethod fun t=>Functor.map (fun a:Nat=>Value.int IntKind.u8 (a:Int)) (Rtype.kind t)) #[.pointer (some ⟨17,205,none⟩)]).run Tryz.prog w=.ok (.int .u8 22) w:=by kernel_rfl
theorem Tryz.kind25 (w:lJ):((ReflectliteType.abiMethod fun t=>Functor.map (fun a:Nat=>Value.int IntKind.u8 (a:Int)) (Rtype.kind t)) #[.pointer (some ⟨17,203,none⟩)]).run Tryz.prog w=.ok (.int .u8 25) w:=by kernel_rfl
theorem rlm (z:Sem lK) (f:lP->Addr->Nat->Nat->Sem lK) (v:lK) :
  ReflectliteValue.method z f #[v]=(do match <-ReflectliteValue.parts v with | none=>z | some (t,a,fl)=>f t a fl (fl%32)):=rfl
theorem Tryz.vh (a:Addr) (w:lJ):(ReflectliteValue.parts (.agg #[.pointer (some ⟨17,205,none⟩),.pointer (some a),.int .u64 150])).run Tryz.prog w=.ok (some (205,a,150)) w:=by kernel_rfl
theorem Tryz.isNil27 (a p:Addr) (W:lJ) (ha:W.cell? a=some (.pointer (some p))) :
  (ReflectliteValue.method (ReflectliteValue.valueError "reflectlite.Value.IsNil" 0) ReflectliteValue.isNil #[.agg #[.pointer (some ⟨17,205,none⟩),.pointer (some a),.int .u64 150]]).run Tryz.prog W=.ok (.bool false) W:=by
 rw[rlm];simp only[Sem.run_bind,Tryz.vh,Result.andThen];simp[ReflectliteValue.isNil,loadVar,isAgg,underlying,Tryz.underlying205,ha,Result.andThen]
theorem Tryz.uL (h:lK) (w:lJ):(Go.method 674 271 (.agg #[h]) "Elem").run Tryz.prog w=.ok (429,.agg #[h]) w:=by kernel_rfl
theorem Tryz.rj (h:lK) (w:lJ):(Go.method 674 271 (.agg #[h]) "Implements").run Tryz.prog w=.ok (430,.agg #[h]) w:=by kernel_rfl
theorem Tryz.qF (h:lK) (w:lJ):(Go.method 674 271 (.agg #[h]) "AssignableTo").run Tryz.prog w=.ok (427,.agg #[h]) w:=by kernel_rfl
theorem Tryz.elem27 (w:lJ):(ReflectliteType.method ReflectliteType.elem #[.agg #[.pointer (some ⟨17,205,none⟩)]]).run Tryz.prog w=.ok (.iface 271 (.agg #[.pointer (some ⟨17,203,none⟩)])) w:=by kernel_rfl
theorem Tryz.th (w:lJ):(ReflectliteType.relation "Implements" ReflectliteType.implements_ #[.agg #[.pointer (some ⟨17,203,none⟩)],.iface 271 (.agg #[.pointer (some ⟨17,42,none⟩)])]).run Tryz.prog w=.ok (.bool true) w:=by kernel_rfl
theorem Tryz.zcv (v:lK) (w:lJ):(ReflectliteType.typeOf #[.iface 203 v]).run Tryz.prog w=.ok (.iface 271 (.agg #[.pointer (some ⟨17,203,none⟩)])) w:=by kernel_rfl
theorem Tryz.tj (w:lJ):(ReflectliteType.relation "AssignableTo" ReflectliteType.assignableTo #[.agg #[.pointer (some ⟨17,203,none⟩)],.iface 271 (.agg #[.pointer (some ⟨17,203,none⟩)])]).run Tryz.prog w=.ok (.bool true) w:=by kernel_rfl
theorem Tryz.zcw (w:lJ):(Rtype.elem? 205).run Tryz.prog w=.ok (some 203) w:=by kernel_rfl
theorem Tryz.mk25 (p:Addr) (w:lJ):(ReflectliteValue.mk 203 p ReflectliteValue.flagAddr).run Tryz.prog w=.ok (.agg #[.pointer (some ⟨17,203,none⟩),.pointer (some p),.int .u64 409]) w:=by kernel_rfl
theorem Tryz.elemV27 (a p:Addr) (W:lJ) (ha:W.cell? a=some (.pointer (some p))) :
  (ReflectliteValue.method (ReflectliteValue.valueError "reflectlite.Value.Elem" 0) ReflectliteValue.elem #[.agg #[.pointer (some ⟨17,205,none⟩),.pointer (some a),.int .u64 150]]).run Tryz.prog W
   = .ok (.agg #[.pointer (some ⟨17,203,none⟩),.pointer (some p),.int .u64 409]) W:=by
 rw[rlm];simp only[Sem.run_bind,Tryz.vh,Result.andThen];simp[ReflectliteValue.elem,loadVar,isAgg,underlying,Tryz.underlying205,ha,Result.andThen,Tryz.zcw,Tryz.mk25]
theorem rls (v x:lK):ReflectliteValue.set #[v,x]=(do
  let (some (dst,a,fl),some (src,b,_)):=(<-ReflectliteValue.parts v,<-ReflectliteValue.parts x)
   | unsupported (.noEntry "extern/(internal/reflectlite.Value).Set.zeroValue")
  if fl / ReflectliteValue.flagAddr%2==0 then unsupported (.noEntry "extern/(internal/reflectlite.Value).Set.unaddressable")
  let val <-loadVar src b
  if <-Rtype.directlyAssignable dst src then storeVar dst a val
  else if <-Rtype.implements dst src then
   if (<-Rtype.kind src)==20 then
    match val with
    | .nilIface=>unsupported (.noEntry "extern/reflectlite: a nil value of one interface type handed on as a value of another")
    | _=>storeVar dst a val
   else storeVar dst a (.iface src val)
  else panicString ("reflectlite.Set: value of type "++(<-Rtype.spelt src) ++ " is not assignable to type "++(<-Rtype.spelt dst))
  pure (.tuple #[])):=rfl
theorem Tryz.zcx (a:Addr) (w:lJ):(ReflectliteValue.parts (.agg #[.pointer (some ⟨17,203,none⟩),.pointer (some a),.int .u64 409])).run Tryz.prog w=.ok (some (203,a,409)) w:=by kernel_rfl
theorem Tryz.parts25 (a:Addr) (w:lJ):(ReflectliteValue.parts (.agg #[.pointer (some ⟨17,203,none⟩),.pointer (some a),.int .u64 153])).run Tryz.prog w=.ok (some (203,a,153)) w:=by kernel_rfl
theorem Tryz.zcy (w:lJ):(Rtype.directlyAssignable 203 203).run Tryz.prog w=.ok true w:=by kernel_rfl
theorem Tryz.size25 (w:lJ):(sizeOf 203).run Tryz.prog w=.ok 2 w:=by kernel_rfl
theorem storeAt {b i:Nat} (hb:W.heap[b]?=some (.cells c E (0,0))) (hi:i < c.size) (hv:v.oneCell'=true) :
  (store ⟨b,i,none⟩ v).run P W=.ok () (W.setCell ⟨b,i,none⟩ v):=by
 rw[run_store P W _ _ _ hv];have U:W.cell? ⟨b,i,none⟩=some c[i]:=by simp[World.cell?,hb,hi]
 have H:W.frozen? ⟨b,i,none⟩=false:=by simp[World.frozen?,hb]
 simp[U,H]
theorem Tryz.set25 (ta b:Nat) (e1 e2 o1 o2:lK) (U:e1.oneCell'=true) (H:e2.oneCell'=true) (W:lJ) {E1 E2:lP} (hb:W.heap[b]?=some (.cells #[e1,e2] E1 (0,0))) (ht:W.heap[ta]?=some (.cells #[o1,o2] E2 (0,0))) :
  (ReflectliteValue.set #[.agg #[.pointer (some ⟨17,203,none⟩),.pointer (some ⟨ta,0,none⟩),.int .u64 409],.agg #[.pointer (some ⟨17,203,none⟩),.pointer (some ⟨b,0,none⟩),.int .u64 153]]).run Tryz.prog W
   = .ok (.tuple #[]) ((W.setCell ⟨ta,0,none⟩ e1).setCell ⟨ta,1,none⟩ e2):=by
 rw[rls];simp only[Sem.run_bind,Tryz.zcx,Tryz.parts25,Result.andThen];have c0:W.cell? ⟨b,0,none⟩=some e1:=by simp[World.cell?,hb]
 have c1:W.cell? ⟨b,1,none⟩=some e2:=by simp[World.cell?,hb]
 have k1:=Go.Ab.n9 (o:=0) (n:=e1) ht;have s1:=storeAt (P:=Tryz.prog) (i:=0) ht (by simp) U;have s2:=storeAt (P:=Tryz.prog) (i:=1) k1 (by simp) H;simp[ReflectliteValue.flagAddr,loadVar,Tryz.isAgg203,Tryz.size25,loadCells,loadCellsFrom,c0,c1,Result.andThen,Tryz.zcy,storeVar,Value.cells,storeCells,Addr.add,s1,s2]
theorem eN (v:lK) (w:lJ):(ReflectliteValue.unpack (.iface 203 v)).run Tryz.prog w
  = .ok (.agg #[.pointer (some ⟨17,203,none⟩),.pointer (some ⟨w.heap.size,0,none⟩),.int .u64 153]) (w.alloc (.cells v.cells 203)):=by kernel_rfl
theorem xx (v:lK) (hv:v.cells=n) (w:lJ):(ReflectliteValue.unpack (.iface 203 v)).run Tryz.prog w
  = .ok (.agg #[.pointer (some ⟨17,203,none⟩),.pointer (some ⟨w.heap.size,0,none⟩),.int .u64 153]) (w.alloc (.cells n 203)):=by rw[eN,hv]
set_option maxHeartbeats 8000000 in
set_option maxRecDepth 100000 in
theorem as_hit (v n1 n2:lK) (hv:v.cells=#[n1,n2]) (m1:n1.oneCell'=true) (m2:n2.oneCell'=true) (b:Nat) (o1 o2:lK) (E:lP) (w:lJ)
  (hg:w.cell? ⟨8,0,none⟩=some (.iface 271 (.agg #[.pointer (some ⟨17,42,none⟩)]))) (hb:w.heap[b]?=some (.cells #[o1,o2] E (0,0))) :
  Calls Tryz.prog 116 #[.iface 203 v,.iface 205 (.pointer (some ⟨b,0,none⟩))] w fun ev w'=>ev=.returned (.bool true) /\
   ∃ q1 q2 q3 q4,w'=(((((w.alloc q1).alloc q2).alloc q3).alloc q4).setCell ⟨b,0,none⟩ n1).setCell ⟨b,1,none⟩ n2:=by
 have h6:=@run_callFunc_extern Tryz.prog 150 _ (fun args=>ReflectliteValue.unpack (args.getD 0 (.tuple #[]))) Tryz.func150 (by kernel_rfl) (by kernel_rfl) (by kernel_rfl) (by kernel_rfl);have h7:=@run_callFunc_extern Tryz.prog 151 _ (ReflectliteValue.methodAny (ReflectliteValue.valueError "reflectlite.Value.Type" 0) fun t _ _ _=>ReflectliteType.toType t) Tryz.func151 (by kernel_rfl) (by kernel_rfl) (by kernel_rfl) (by kernel_rfl);have h8:=@run_callFunc_extern Tryz.prog 152 _ (ReflectliteValue.method (ReflectliteValue.valueError "reflectlite.Value.IsNil" 0) ReflectliteValue.isNil) Tryz.func152 (by kernel_rfl) (by kernel_rfl) (by kernel_rfl) (by kernel_rfl);have h27:=@run_callFunc_extern Tryz.prog 414 _ (ReflectliteType.abiMethod fun t=>do pure (.int .u8 (<-Rtype.kind t))) Tryz.func414 (by kernel_rfl) (by kernel_rfl) (by kernel_rfl) (by kernel_rfl);have h37:=@run_callFunc_extern Tryz.prog 429 _ (ReflectliteType.method ReflectliteType.elem) Tryz.func429 (by kernel_rfl) (by kernel_rfl) (by kernel_rfl) (by kernel_rfl);have h38:=@run_callFunc_extern Tryz.prog 430 _ (ReflectliteType.relation "Implements" ReflectliteType.implements_) Tryz.func430 (by kernel_rfl) (by kernel_rfl) (by kernel_rfl) (by kernel_rfl);have h10:=@run_callFunc_extern Tryz.prog 128 _ ReflectliteType.typeOf Tryz.func128 (by kernel_rfl) (by kernel_rfl) (by kernel_rfl) (by kernel_rfl);have h35:=@run_callFunc_extern Tryz.prog 427 _ (ReflectliteType.relation "AssignableTo" ReflectliteType.assignableTo) Tryz.func427 (by kernel_rfl) (by kernel_rfl) (by kernel_rfl) (by kernel_rfl);have h11:=@run_callFunc_extern Tryz.prog 180 _ (ReflectliteValue.method (ReflectliteValue.valueError "reflectlite.Value.Elem" 0) ReflectliteValue.elem) Tryz.func180 (by kernel_rfl) (by kernel_rfl) (by kernel_rfl) (by kernel_rfl);have h12:=@run_callFunc_extern Tryz.prog 181 _ ReflectliteValue.set Tryz.func181 (by kernel_rfl) (by kernel_rfl) (by kernel_rfl) (by kernel_rfl);have tO:=Tryz.zcv;have mA:=Tryz.qF;have a25:=Tryz.tj;have v25:=xx v hv;have f6:=Tryz.xw;have f7:=Tryz.type27;have mK:=Tryz.uK;have mE:=Tryz.uL;have mI:=Tryz.rj;have k27:=Tryz.kind27;have k25:=Tryz.kind25;have e27:=Tryz.elem27;have i25:=Tryz.th;have n8:=Tryz.isNil27 ⟨w.heap.size,0,none⟩ ⟨b,0,none⟩ ((w.alloc (.cells #[.pointer (some ⟨b,0,none⟩)] 205)).alloc (.cells #[.pointer (some ⟨17,205,none⟩),.pointer (some ⟨w.heap.size,0,none⟩),.int .u64 150] 259)) (by simp);have mL:8 < w.heap.size:=by rcases ka 8 w.heap.size with h | h;{exact h};{simp[World.cell?,kC h] at hg}
 have hg2:((w.alloc (.cells #[.pointer (some ⟨b,0,none⟩)] 205)).alloc (.cells #[.pointer (some ⟨17,205,none⟩),.pointer (some ⟨w.heap.size,0,none⟩),.int .u64 150] 259)).cell? ⟨8,0,none⟩=some (.iface 271 (.agg #[.pointer (some ⟨17,42,none⟩)])):=by rw[World.cell?_alloc_lt _ _ ⟨8,0,none⟩ (by simp;omega),World.cell?_alloc_lt _ _ ⟨8,0,none⟩ mL];exact hg
 have htl:b < w.heap.size:=by rcases ka b w.heap.size with h | h;{exact h};{simp[kC h] at hb}
 have el:=Tryz.elemV27 ⟨w.heap.size,0,none⟩ ⟨b,0,none⟩ (((w.alloc (.cells #[.pointer (some ⟨b,0,none⟩)] 205)).alloc (.cells #[.pointer (some ⟨17,205,none⟩),.pointer (some ⟨w.heap.size,0,none⟩),.int .u64 150] 259)).alloc (.cells #[.pointer (some ⟨17,205,none⟩),.pointer (some ⟨w.heap.size,0,none⟩),.int .u64 150] 259)) (by rw[World.cell?_alloc_lt _ _ ⟨w.heap.size,0,none⟩ (by simp;omega)];simp)
 have V:=Tryz.set25 b (w.heap.size+1+1+1) n1 n2 o1 o2 m1 m2 ((((w.alloc (.cells #[.pointer (some ⟨b,0,none⟩)] 205)).alloc (.cells #[.pointer (some ⟨17,205,none⟩),.pointer (some ⟨w.heap.size,0,none⟩),.int .u64 150] 259)).alloc (.cells #[.pointer (some ⟨17,205,none⟩),.pointer (some ⟨w.heap.size,0,none⟩),.int .u64 150] 259)).alloc (.cells #[n1,n2] 203)) (E1:=203) (E2:=E)
  (by have h:=World.alloc_heap_new (((w.alloc (.cells #[.pointer (some ⟨b,0,none⟩)] 205)).alloc (.cells #[.pointer (some ⟨17,205,none⟩),.pointer (some ⟨w.heap.size,0,none⟩),.int .u64 150] 259)).alloc (.cells #[.pointer (some ⟨17,205,none⟩),.pointer (some ⟨w.heap.size,0,none⟩),.int .u64 150] 259)) (.cells #[n1,n2] 203);rw[World.size_alloc,World.size_alloc,World.size_alloc] at h;exact h)
  (by rw[Go.Ab.mv _ _ (by simp;omega),Go.Ab.mv _ _ (by simp;omega),Go.Ab.mv _ _ (by simp;omega),Go.Ab.mv _ _ htl];exact hb)
 go_enter Tryz.func116,Tryz.ntmps116
 go_wp2
 refine wp_loop_rounds 1 ?_;rw[rounds_succ]
 go_wp2
 go_ret
 exact⟨rfl,_,_,_,_,rfl⟩
end Go.Proofs.uJ


namespace Go.Proofs.AbPC
open Go.RowKit Go.Proofs
theorem yG (c:Nat) (w:lJ):Sem.run Tryz.prog (binOp BinOp.eql 105 (.slice none 0 c) (.slice none 0 0)) w=.ok (.bool true) w:=by kernel_rfl
theorem eqS (a:Addr) (c:Nat) (w:lJ):Sem.run Tryz.prog (binOp BinOp.eql 105 (.slice (some a) 0 c) (.slice none 0 0)) w=.ok (.bool false) w:=by kernel_rfl
set_option maxRecDepth 100000 in
theorem T9 (c:Nat) (w:lJ):Calls Tryz.prog 50 #[.slice none 0 c] w fun e w'=>e=.returned (.slice none 0 0)/\w'=w:=by
 go_enter Tryz.func50,Tryz.ntmps50
 go_wp2
 rw[yG];simp only[Result.andThen];rw[Oper.upon_value]
 go_wp2
 go_ret
 exact⟨rfl,rfl⟩
set_option maxRecDepth 100000 in
theorem T8 (a:Addr) (c:Nat) (w:lJ):Calls Tryz.prog 50 #[.slice (some a) 0 c] w fun e w'=>e=.returned (.slice (some ⟨w.heap.size,0,none⟩) 0 0)/\w'=w.alloc (.cells #[] 3):=by
 go_enter Tryz.func50,Tryz.ntmps50
 go_wp2
 rw[eqS];simp only[Result.andThen];rw[Oper.upon_value]
 go_wp2
 go_ret
 exact⟨rfl,rfl⟩
theorem rk (a:Option Addr) (c:Nat) (w:lJ):∃ a',Calls Tryz.prog 50 #[.slice a 0 c] w fun e w'=>e=.returned (.slice a' 0 0)/\Go.Ab.nR w w':=by
 cases a with
 | none=>exact⟨none,(T9 c w).mono fun e w' h=>⟨h.1,h.2 ▸ Go.Ab.na w⟩⟩
 | some a=>exact⟨_,(T8 a c w).mono fun e w' h=>⟨h.1,Go.Ab.nd (h.2 ▸ (Below.refl _ _).alloc (ik _) _)⟩⟩
end Go.Proofs.AbPC


namespace Go.Proofs.AbPC2
open Go.RowKit Go.Proofs
theorem yG (c:Nat) (w:lJ):Sem.run Tryz.prog (binOp BinOp.eql 30 (.slice none 0 c) (.slice none 0 0)) w=.ok (.bool true) w:=by kernel_rfl
theorem eqS (a:Addr) (c:Nat) (w:lJ):Sem.run Tryz.prog (binOp BinOp.eql 30 (.slice (some a) 0 c) (.slice none 0 0)) w=.ok (.bool false) w:=by kernel_rfl
set_option maxRecDepth 100000 in
theorem T9 (c:Nat) (w:lJ):Calls Tryz.prog 45 #[.slice none 0 c] w fun e w'=>e=.returned (.slice none 0 0)/\w'=w:=by
 go_enter Tryz.func45,Tryz.ntmps45
 go_wp2
 rw[yG];simp only[Result.andThen];rw[Oper.upon_value]
 go_wp2
 go_ret
 exact⟨rfl,rfl⟩
set_option maxRecDepth 100000 in
theorem T8 (a:Addr) (c:Nat) (w:lJ):Calls Tryz.prog 45 #[.slice (some a) 0 c] w fun e w'=>e=.returned (.slice (some ⟨w.heap.size,0,none⟩) 0 0)/\w'=w.alloc (.cells #[] 2):=by
 go_enter Tryz.func45,Tryz.ntmps45
 go_wp2
 rw[eqS];simp only[Result.andThen];rw[Oper.upon_value]
 go_wp2
 go_ret
 exact⟨rfl,rfl⟩
theorem rk (a:Option Addr) (c:Nat) (w:lJ):∃ a',Calls Tryz.prog 45 #[.slice a 0 c] w fun e w'=>e=.returned (.slice a' 0 0)/\Go.Ab.nR w w':=by
 cases a with
 | none=>exact⟨none,(T9 c w).mono fun e w' h=>⟨h.1,h.2 ▸ Go.Ab.na w⟩⟩
 | some a=>exact⟨_,(T8 a c w).mono fun e w' h=>⟨h.1,Go.Ab.nd (h.2 ▸ (Below.refl _ _).alloc (ik _) _)⟩⟩
end Go.Proofs.AbPC2


namespace Go.Ab.mm
open Go Go.Ab Go.Proofs
def et0:lK:=.iface 271 (.agg #[.pointer (some ⟨17,42,none⟩)])
def tabs0:List (Nat×Array lK):=[(6,(Lib.pow10Tab.map fun z=>Value.int .u64 z).toArray)]
noncomputable def cx0:Cx:=Jg Tryz.prog (by kernel_rfl) [0,4,5,7,11,12,13,14,15,16] 526 [(8,et0)] tabs0 [1]
theorem zcz:Bw Tryz.prog 82:=⟨_,Tryz.func82,by rfl,by rfl⟩
theorem zcA:Bw Tryz.prog 14:=⟨_,Tryz.func14,by rfl,by rfl⟩
theorem zcB:Bw Tryz.prog 91:=⟨_,Tryz.func91,by rfl,by rfl⟩
theorem zcC:Bw Tryz.prog 15:=⟨_,Tryz.func15,by rfl,by rfl⟩
theorem zcD:Bw Tryz.prog 29:=⟨_,Tryz.func29,by rfl,by rfl⟩
theorem zcE:Bw Tryz.prog 18:=⟨_,Tryz.func18,by rfl,by rfl⟩
theorem zcF:Bw Tryz.prog 92:=⟨_,Tryz.func92,by rfl,by rfl⟩
theorem zcG:Bw Tryz.prog 30:=⟨_,Tryz.func30,by rfl,by rfl⟩
theorem zcH:Bw Tryz.prog 56:=⟨_,Tryz.func56,by rfl,by rfl⟩
theorem xz:Bw Tryz.prog 222:=⟨_,Tryz.func222,by rfl,by rfl⟩
theorem xA:Bw Tryz.prog 116:=⟨_,Tryz.func116,by rfl,by rfl⟩
theorem xB:Bw Tryz.prog 381:=⟨_,Tryz.func381,by rfl,by rfl⟩
theorem xC:Bw Tryz.prog 382:=⟨_,Tryz.func382,by rfl,by rfl⟩
theorem xD:Bw Tryz.prog 262:=⟨_,Tryz.func262,by rfl,by rfl⟩
theorem zcI:Bw Tryz.prog 50:=⟨_,Tryz.func50,by rfl,by rfl⟩
theorem zcJ:Bw Tryz.prog 45:=⟨_,Tryz.func45,by rfl,by rfl⟩
theorem zcK:zbD Tryz.prog 29 18 40 5 where
 u9:=zcD
 vd:=zcE
 nzT:=by decide
 nzU:=by decide
 used:=Go.Proofs.xt.uH
 fresh b w h0 U H:=Go.Proofs.xt.tY b w h0 U H
 zbE b p w h:=Go.Proofs.xt.uI b p w h
 ve b g cap p cur l w U H h3 h4 h5 h6 h7:=Go.Proofs.xt.tZ b g cap p cur l w U H h3 h4 h5 h6 h7
theorem as2_ok:As2OK Tryz.prog 116 8 et0 ps0 where
 enters:=xA
 none:=Go.Proofs.uJ.as_nil
 hit p t h v n1 n2 hv U H b o1 o2 E w hg hb:=by
  simp only[ps0,List.lookup] at h;split at h
  ·rename_i hp;obtain rfl:p=205:=by simpa using hp
   cases h;exact Go.Proofs.uJ.as_hit v n1 n2 hv U H b o1 o2 E w hg hb
  {cases h}
theorem is_ok:IsOK Tryz.prog 92 526 [] where
 enters:=zcF
 none a w:=Go.Proofs.tW.is_nil a w
 same a w:=Go.Proofs.tW.is_same a w
 other a b ca cb ta tb w h U H:=Go.Proofs.tW.zcp a b ca cb ta tb w h U H
 type s hs v b w:=by simp only[im,jZ,or_false] at hs
theorem isw_ok:IsWOK Tryz.prog 92 526 [203] where
 plain:=is_ok
 same s hs n a w:=by
  obtain rfl:s=203:=by simpa using hs
  exact Go.Proofs.vf.tf n a w
 other s hs n a b ca cb ta tb w h U H:=by
  obtain rfl:s=203:=by simpa using hs
  exact Go.Proofs.vf.sx n a b ca cb ta tb w h U H
 none s hs n b w:=by
  obtain rfl:s=203:=by simpa using hs
  exact Go.Proofs.vf.tg n b w
theorem sp_ok:SpOK cx0 BB:=by intro g V A out h;unfold BB at h;by_cases hg:g=82;{rw[lu hg] at h;subst hg;exact .inr (idx_at zcz Go.Proofs.qu.ri h)};rw[lr hg] at h;clear hg;by_cases hg:g=14;{rw[lu hg] at h;subst hg;exact .inr (repl_at zcA (gm:=1) (by decide) (fun s qh new n m w hs hm U hl=>Go.Proofs.qu.zcr s qh new n m w hs hm U hl) h)};rw[lr hg] at h;clear hg;by_cases hg:g=91;{rw[lu hg] at h;subst hg;exact .inr (fmt_at zcB (gt:=6) (iU.2 rfl) (by kernel_rfl) (fun n h0 U w ht=>Go.Proofs.qu.fmt_run n h0 U w ht) h)};rw[lr hg] at h;clear hg;by_cases hg:g=15;{rw[lu hg] at h;subst hg;exact .inr (itoa_at zcC (gt:=6) (iU.2 rfl) (by kernel_rfl) (fun n h0 U w ht=>Go.Proofs.qu.zcs n h0 U w ht) h)};rw[lr hg] at h;clear hg;by_cases hg:g=29;{rw[lu hg] at h;subst hg;exact .inr (zbF zcK h)};rw[lr hg] at h;clear hg;by_cases hg:g=18;{rw[lu hg] at h;subst hg;exact .inr (str_at zcK h)};rw[lr hg] at h;clear hg;by_cases hg:g=92;{rw[lu hg] at h;subst hg;exact .inr (isw_at isw_ok h)};rw[lr hg] at h;clear hg;by_cases hg:g=30;{rw[lu hg] at h;subst hg;exact .inr (xq (gm:=1) (by decide) zcG Go.Proofs.xt.count_one (fun s sub m w hs hm H=>Go.Proofs.qu.xu s sub m w hs hm H) h)};rw[lr hg] at h;clear hg;by_cases hg:g=56;{rw[lu hg] at h;subst hg;exact .inr (xp (gm:=1) (by decide) zcH (fun s sub m w hs hm=>Go.Proofs.qu.idx_run s sub m w hs hm) h)};rw[lr hg] at h;clear hg;by_cases hg:g=222;{rw[lu hg] at h;subst hg;exact .inr (int_at (ge:=15) (by decide) xz Go.Proofs.qu.zcu Go.Proofs.qu.int_ok h)};rw[lr hg] at h;clear hg;by_cases hg:g=116;{rw[lu hg] at h;subst hg;exact .inr (as2_at (iU.2 rfl) as2_ok h)};rw[lr hg] at h;clear hg;by_cases hg:g=377;{rw[lu hg] at h;subst hg;exact .inl (ZR Go.Proofs.rD.load h)};rw[lr hg] at h;clear hg;by_cases hg:g=383;{rw[lu hg] at h;subst hg;exact .inl (Yh Go.Proofs.rD.store h)};rw[lr hg] at h;clear hg;by_cases hg:g=381;{rw[lu hg] at h;subst hg;exact .inr (aH xB Go.Proofs.rD.lock h)};rw[lr hg] at h;clear hg;by_cases hg:g=382;{rw[lu hg] at h;subst hg;exact .inr (aH xC Go.Proofs.rD.unlock h)};rw[lr hg] at h;clear hg;by_cases hg:g=131;{rw[lu hg] at h;subst hg;exact .inl (add_ret Go.Proofs.rD.add h)};rw[lr hg] at h;clear hg;by_cases hg:g=79;{rw[lu hg] at h;subst hg;exact .inl (ZR Go.Proofs.rD.load64 h)};rw[lr hg] at h;clear hg;by_cases hg:g=71;{rw[lu hg] at h;subst hg;exact .inl (Yh Go.Proofs.rD.store64 h)};rw[lr hg] at h;clear hg;by_cases hg:g=262;{rw[lu hg] at h;subst hg;exact .inr (join_at xD Go.Proofs.qu.zct h)};rw[lr hg] at h;clear hg;by_cases hg:g=50;{rw[lu hg] at h;subst hg;exact .inr (Zd zcI Go.Proofs.AbPC.rk h)};rw[lr hg] at h;clear hg;by_cases hg:g=45;{rw[lu hg] at h;subst hg;exact .inr (Zd zcJ Go.Proofs.AbPC2.rk h)};rw[lr hg] at h;clear hg;cases h
end Go.Ab.mm


namespace Go.Ab
open Go Go.ChangeShapes Go.WideShapes Go.RowKit
variable{L:l7} {a:PV} {base m n:Nat} {l us:List lK} {ps:List MemPlace} {v:lK}
inductive BW where
 | bool
 | int (k:lN)
 | str
 | slice (e:BW)
 | struct (fs:List BW)
mutual
def BW.cells:BW->Nat
 | .struct fs=>BW.mr fs
 | .bool | .int _ | .str | .slice _=>1
def BW.mr:List BW->Nat
 | []=>0
 | d :: ds=>d.cells+BW.mr ds
end
mutual
def CV (P:lO):Nat->BW->lP->Bool
 | 0,_,_=>false
 | n+1,D,t=>match D,P.underlying t with
  | .bool,some .bool=>true
  | .int k,some (.int k')=>k'==k
  | .str,some .string=>true
  | .slice e,some (.slice et)=>CV P n e et&&P.cellsOf et==e.cells&&decide (0 < e.cells)
  | .struct fs,some (.struct fields)=>P.cellsOf t==BW.mr fs&&xE P n 0 fs fields.toList
  | _,_=>false
def xE (P:lO):Nat->Nat->List BW->List Field->Bool
 | 0,_,_,_=>false
 | _+1,_,[],[]=>true
 | n+1,off,D :: ds,f :: fs=>f.offset==off&&P.cellsOf f.type==D.cells&&CV P n D f.type&&xE P n (off+D.cells) ds fs
 | _+1,_,_,_=>false
end
mutual
def Ie:BW->PV->Prop
 | .bool,v=>∃ b,v=.bool b
 | .int k,v=>∃ n,v=.int k n/\(Lit.int k n).wf=true
 | .str,v=>∃ s,v=.str s/\s.length<=maxLen
 | .slice e,v=>v=.mu\/∃ Z,v=.sl e.cells Z false/\Z.length<=maxLen/\∀ x∈Z,Ie e x
 | .struct fs,v=>∃ A,v=.agg (mr A)/\Qz fs A
def Qz:List BW->lS->Prop
 | [],A=>A=[]
 | D :: fs,A=>∃ v r,A=v :: r/\Ie D v/\Qz fs r
end
theorem repL1' {w:lJ} {I:Nat->Prop} {lp:Nat->lT} (h:Ai w I lp L [a] us):∃ u,us=[u]/\Am w I lp L a u:=by
 obtain⟨u,r,U,rfl,H⟩:∃ u r,Am w I lp L a u/\us=u :: r/\Ai w I lp L [] r:=by cases h;exact⟨_,_,by assumption,rfl,by assumption⟩
 cases H;exact⟨u,rfl,U⟩
section
variable {zzb:Type} {BC:lP×lK->zzb} {P:lO} {w:lJ} {I:Nat->Prop} {lp:Nat->lT} {held:Bool} {sp:Nat->Bool}
def RepD (w:lJ) (I:Nat->Prop) (lp:Nat->lT) (D:BW) (cs:List lK):Prop:=∃ v:PV,Ie D v/\Ai w I lp none v.cells cs/\A6 cs/\v.cells.length=D.cells
theorem qG {a:Addr} (h:w.cells? base a n=some l):l.length=n/\∀ i,i < n->w.cell? (a.add i)=l[i]?:=by obtain⟨_,U,H⟩:=World.cells?_some h;exact⟨U,fun i hi=>by rw[H i hi]⟩
theorem sL {a:Addr} (h:w.cell? a=some v):∃ c E fr,w.heap[a.block]?=some (.cells c E fr)/\a.spot=none/\c[a.off]?=some v:=by
 unfold World.cell? at h;split at h
 ·rename_i c E fr hb;split at h;·cases h
  {rename_i hs;exact⟨c,E,fr,hb,by simpa using hs,h⟩}
 {cases h}
theorem aC (a:Addr) (h:a.spot=none) (i:Nat):a.add i=⟨a.block,a.off+i,none⟩:=by unfold Addr.add;split;{rename_i hi;subst hi;cases a;simp_all};{rfl}
theorem zcL {e:BW} (hI:∀ b,b < w.heap.size->I b) {a:Addr} {len cap:Nat} (qT:len<=cap) (hcm:cap<=maxLen) (zx:0 < e.cells)
  (qS:∀ i,i < len->∃ cs,w.cells? 0 (a.add (i*e.cells)) e.cells=some cs/\RepD w I lp e cs):RepD w I lp (.slice e) [.slice (some a) len cap]:=by
 by_cases h0:len=0;{subst h0;exact⟨.sl e.cells [] false,.inr ⟨[],rfl,jP _,fun x O=>by cases O⟩,.cons _ _ _ _ (.qR _ _ _ _ fun h=>by cases h) .nil,by simp[A6,Value.oneCell'],rfl⟩}
 ·obtain⟨cs0,hcs0,_⟩:=qS 0 (by omega);obtain⟨rG,hg0⟩:=qG hcs0;have hf:=hg0 0 zx;rw[Nat.zero_mul] at hf;have e0:(a.add 0).add 0=a:=by simp[Addr.add]
  rw[e0,iG (by omega)] at hf;obtain⟨c,E,fr,hb,hs,_⟩:=sL hf;have hblt:a.block < w.heap.size:=(kB.1 hb).1
  have each:∀ i,i < len->∃ v:PV,Ie e v/\v.cells.length=e.cells/\(a.off+i*e.cells)+e.cells<=c.size/\A6 ((c.toList.drop (a.off+i*e.cells)).take e.cells)/\Ai w I lp none v.cells ((c.toList.drop (a.off+i*e.cells)).take e.cells):=by
   intro i hi;obtain⟨cs,oJ,v,U,H,h3,h4⟩:=qS i hi;obtain⟨hl,hg⟩:=qG oJ;have key:∀ j,j < e.cells->c[a.off+i*e.cells+j]?=cs[j]?:=by intro j hj;have:=hg j hj;rw[aC a hs,aC _ rfl,Pn hb] at this;exact this
   have oL:a.off+i*e.cells+e.cells<=c.size:=by have:=key (e.cells - 1) (by omega);rw[iG (by omega)] at this;have:=(kB.1 this).1;omega
   have e1:(c.toList.drop (a.off+i*e.cells)).take e.cells=cs:=by apply jc;intro j;by_cases hj:j < e.cells;{rw[j4 hj,ku,<-key j hj];simp};{rw[i6 (by simp;omega),i6 (by omega)]}
   exact⟨v,U,h4,oL,by rw[e1];exact h3,by rw[e1];exact H⟩
  have all:∀ n,n<=len->∃ Z:lS,Z.length=n/\(∀ x∈Z,Ie e x)/\(∀ x∈Z,x.cells.length=e.cells)/\a.off+n*e.cells<=c.size/\A6 ((c.toList.drop a.off).take (n*e.cells))/\Ai w I lp none (mr Z) ((c.toList.drop a.off).take (n*e.cells)):=by
   intro n;induction n with
   | zero =>
    intro _;refine⟨[],rfl,by simp,by simp,?_,by simp[A6],by simp;exact .nil⟩;obtain⟨_,_,_,h,_⟩:=each 0 (by omega);omega
   | succ n ih =>
    intro hn;obtain⟨Z,U,H,h3,h4,h5,h6⟩:=ih (by omega);obtain⟨v,g1,g2,g3,g4,g5⟩:=each n (by omega);have e2:(c.toList.drop a.off).take ((n+1)*e.cells)=(c.toList.drop a.off).take (n*e.cells)++(c.toList.drop (a.off+n*e.cells)).take e.cells:=by rw[iL,jU,List.take_add,j0]
    refine⟨Z++[v],by simp[U],?_,?_,by rw[iL];omega,?_,?_⟩;{intro x O;rcases iH.1 O with O | O;{exact H x O};{simp at O;subst O;exact g1}};{intro x O;rcases iH.1 O with O | O;{exact h3 x O};{simp at O;subst O;exact g2}};{rw[e2];exact h5.pK g4};{rw[e2,LK];refine h6.append ?_;simpa[mr] using g5}
  obtain⟨Z,U,H,h3,h4,h5,h6⟩:=all len (ik _);have ea:a=⟨a.block,a.off,none⟩:=by cases a;simp_all
  refine⟨.sl e.cells Z false,.inr ⟨Z,rfl,by omega,H⟩,?_,by simp[A6,Value.oneCell'],rfl⟩;rw[ea,<-U];exact .cons _ _ _ _ (.sl e.cells Z false a.block a.off cap c E fr (hI _ hblt) hb (by rw[U];exact h4) h3 (by omega) (fun h=>by cases h) (by rw[U];exact h5) (by rw[U];exact h6)) .nil
theorem eT (ih:∀ (m:Nat) (D:BW) (t:lP) (cs:List lK) (x:DataW zzb×List MemPlace),CV P m D t=true->DataW.trod BC P w 0 (fun _=>true) held n t cs=some x->RepD w I lp D cs) :
  ∀ (m:Nat) (ds:List BW) (fs:List Field) (off:Nat) (cs:List lK) (Z:List (DataW zzb×List MemPlace)),xE P m off ds fs=true->Z.length=fs.length->cs.length=off+BW.mr ds ->
  (∀ (i:Nat) (f:Field),fs[i]?=some f->DataW.trod BC P w 0 (fun _=>true) held n f.type ((cs.drop f.offset).take (P.cellsOf f.type))=Z[i]?) ->
  ∃ A:lS,Qz ds A/\Ai w I lp none (mr A) (cs.drop off)/\A6 (cs.drop off)/\(mr A).length=BW.mr ds:=by
 intro m;induction m with
 | zero=>intro ds fs off cs Z h;cases h
 | succ m ihm =>
  intro ds fs off cs Z h hl hc hf
  match ds,fs,h with
  | [],[],_ =>
   refine⟨[],rfl,?_,?_,rfl⟩;{rw[kP (by simp[BW.mr] at hc;omega)];exact .nil};{rw[kP (by simp[BW.mr] at hc;omega)];simp[A6]}
  | D :: ds,f :: fs,h =>
   simp only[xE,ie,ly] at h;obtain⟨⟨⟨U,H⟩,h3⟩,h4⟩:=h
   match Z,hl with
   | x :: Z,hl =>
    have O:=hf 0 f rfl;rw[U,H] at O;obtain⟨v,g1,g2,g3,g4⟩:=ih m D f.type _ x h3 O;simp only[BW.mr] at hc;obtain⟨A,k1,k2,k3,k4⟩:=ihm ds fs (off+D.cells) cs Z h4 (by simpa using hl) (by omega) (fun i f hi=>by simpa using hf (i+1) f (by simpa using hi));have e1:cs.drop off=(cs.drop off).take D.cells++cs.drop (off+D.cells):=by rw[<-j0,List.take_append_drop]
    refine⟨v :: A,⟨v,A,rfl,g1,k1⟩,?_,?_,by simp[mr,BW.mr,g4,k4]⟩;{rw[e1];exact g2.append k2};{rw[e1];exact g3.pK k3}
theorem d8 (hI:∀ b,b < w.heap.size->I b):∀ (fuel m:Nat) (D:BW) (t:lP) (cs:List lK) (x:DataW zzb×List MemPlace),CV P m D t=true->DataW.trod BC P w 0 (fun _=>true) held fuel t cs=some x->RepD w I lp D cs:=by
 intro fuel;induction fuel with
 | zero=>intro m D t cs x _ h;simp[DataW.trod] at h
 | succ fuel ih =>
  intro m D t cs x hD h;cases m with
  | zero=>cases hD
  | succ m =>
   cases hu:P.underlying t with
   | none=>cases D<;>simp[CV,hu] at hD
   | some d =>
    cases D with
    | bool =>
     cases d<;>simp[CV,hu] at hD;obtain⟨b,rfl,_⟩:=DataW.trod_bool hu h;exact⟨.bool b,⟨b,rfl⟩,.cons _ _ _ _ (.bool b) .nil,by simp[A6,Value.oneCell'],rfl⟩
    | int k =>
     cases d<;>simp[CV,hu] at hD;subst hD;obtain⟨n,rfl,_,hw⟩:=DataW.trod_int hu h;exact⟨.int _ n,⟨n,rfl,hw⟩,.cons _ _ _ _ (.int _ n) .nil,by simp[A6,Value.oneCell'],rfl⟩
    | str =>
     cases d<;>simp[CV,hu] at hD;obtain⟨s,rfl,_,hw⟩:=DataW.trod_string hu h;obtain⟨l,rfl⟩:∃ l:l4,s=⟨l.toArray⟩:=⟨s.data.toList,by cases s;simp⟩;exact⟨.str l,⟨l,rfl,by simpa[ByteArray.size] using hw⟩,.cons _ _ _ _ (.str l) .nil,by simp[A6,Value.oneCell'],rfl⟩
    | slice e =>
     cases d<;>simp[CV,hu] at hD;rename_i et;obtain⟨⟨U,H⟩,h3⟩:=hD;rcases DataW.trod_slice hu h with ⟨rfl,_⟩ | ⟨a,len,cap,DD,rest,n,hn,rfl,_,_,hl,hm,hlen,qS,_⟩;{exact⟨.mu,.inl rfl,.cons _ _ _ _ .mu .nil,by simp[A6,Value.oneCell'],rfl⟩}
     {cases hn;refine zcL hI hl hm h3 fun i hi=>?_;have:=qS i hi;rw[iG (by omega),jh,H] at this;obtain⟨cs,oJ,O⟩:=this;exact⟨cs,oJ,ih m e et cs _ U O⟩}
    | struct ds =>
     cases d<;>simp[CV,hu] at hD;rename_i fields;obtain⟨U,H⟩:=hD;obtain⟨Z,n,hn,_,hl,hlen,hf⟩:=DataW.trod_struct hu h;cases hn;obtain⟨A,k1,k2,k3,k4⟩:=eT ih m ds fields.toList 0 cs Z H (by simpa using hlen) (by rw[hl,U];omega) (fun i f hi=>hf i f (by simpa using hi));rw[j8] at k2 k3;exact⟨.agg (mr A),⟨A,rfl,k1⟩,k2,k3,by simpa[PV.cells,BW.cells] using k4⟩
variable {w':lJ} {sp':Nat->Bool}
theorem r8 (hk:∀ b,b < w.heap.size->w'.heap[b]?=w.heap[b]?) {a:Addr} (h:w.cell? a=some v):a.block < w.heap.size/\w'.cell? a=some v:=by obtain⟨c,E,fr,hb,hs,hv⟩:=sL h;have mL:a.block < w.heap.size:=(kB.1 hb).1;refine⟨mL,?_⟩;unfold World.cell?;rw[hk _ mL,hb];simp[hs,hv]
theorem OH {α β:Type} {f g:α->Option β}:∀ (l:List α) {ys:List β},l.mapM f=some ys->(∀ x∈l,∀ y,f x=some y->g x=some y)->l.mapM g=some ys
 | [],ys,h,_=>by simpa using h
 | x :: l,ys,h,hg=>by
  rw[jv] at h |-;simp only[kr,jh,kE,il] at h |-;obtain⟨y,U,ys',H,rfl⟩:=h;exact⟨y,hg x (by simp) y U,ys',OH l H (fun z hz=>hg z (by simp[hz])),rfl⟩
theorem uf (hk:∀ b,b < w.heap.size->w'.heap[b]?=w.heap[b]?) {a:Addr} (h:w.cells? 0 a n=some l):w'.cells? 0 a n=some l/\(0 < n->a.block < w.heap.size):=by
 refine⟨?_,fun hn=>?_⟩;{unfold World.cells? at h |-;rw[lu (jP _)] at h |-;exact OH _ h fun i _ v hv=>(r8 hk hv).2}
 ·obtain⟨U,H⟩:=qG h;have:=H 0 hn;rw[iG (by omega)] at this;have:=(r8 hk this).1
  rwa [block_add] at this
theorem eE (ih:∀ (m:Nat) (D:BW) (t:lP) (cs:List lK) (x:DataW zzb×List MemPlace),CV P m D t=true->DataW.trod BC P w 0 (fun _=>true) held n t cs=some x->DataW.trod BC P w' 0 sp' held n t cs=some x) :
  ∀ (m:Nat) (ds:List BW) (fs:List Field) (off:Nat),xE P m off ds fs=true->∀ f∈fs,∀ cs x,DataW.trod BC P w 0 (fun _=>true) held n f.type cs=some x->DataW.trod BC P w' 0 sp' held n f.type cs=some x:=by
 intro m;induction m with
 | zero=>intro ds fs off h;cases h
 | succ m ihm =>
  intro ds fs off h f hf cs x O
  match ds,fs,h with
  | [],[],_=>cases hf
  | D :: ds,g :: fs,h =>
   simp only[xE,ie,ly] at h;rcases im.1 hf with rfl | hf;{exact ih m D _ cs x h.1.2 O};{exact ihm ds fs _ h.2 f hf cs x O}
theorem xF (hk:∀ b,b < w.heap.size->w'.heap[b]?=w.heap[b]?) (ny:∀ b,b < w.heap.size->sp' b=true):∀ (fuel m:Nat) (D:BW) (t:lP) (cs:List lK) (x:DataW zzb×List MemPlace),CV P m D t=true ->
  DataW.trod BC P w 0 (fun _=>true) held fuel t cs=some x->DataW.trod BC P w' 0 sp' held fuel t cs=some x:=by
 intro fuel;induction fuel with
 | zero=>intro m D t cs x _ h;simp[DataW.trod] at h
 | succ fuel ih =>
  intro m D t cs x hD h;cases m with
  | zero=>cases hD
  | succ m =>
   cases hu:P.underlying t with
   | none=>cases D<;>simp[CV,hu] at hD
   | some d =>
    cases D with
    | bool =>
     cases d<;>simp[CV,hu] at hD;obtain⟨b,rfl,rfl⟩:=DataW.trod_bool hu h;simp[DataW.trod,hu]
    | int k =>
     cases d<;>simp[CV,hu] at hD;subst hD;obtain⟨n,rfl,rfl,hw⟩:=DataW.trod_int hu h;simp[DataW.trod,hu,hw]
    | str =>
     cases d<;>simp[CV,hu] at hD;obtain⟨s,rfl,rfl,hw⟩:=DataW.trod_string hu h;simp[DataW.trod,hu,hw]
    | slice e =>
     cases d<;>simp[CV,hu] at hD;rename_i et;obtain⟨⟨U,H⟩,h3⟩:=hD;rcases DataW.trod_slice hu h with ⟨rfl,rfl⟩ | ⟨a,len,cap,DD,rest,n,hn,rfl,_,_,hl,hm,hlen,_,_⟩;{simp[DataW.trod,hu]}
     ·unfold DataW.trod at h |-;simp only[hu] at h |-;rw[lu ⟨jP _,hl,hm⟩] at h |-
      have el:∀ i y,(w.cells? 0 (a.add (i*P.cellsOf et)) (P.cellsOf et)).bind (DataW.trod BC P w 0 (fun _=>true) held fuel et)=some y->(w'.cells? 0 (a.add (i*P.cellsOf et)) (P.cellsOf et)).bind (DataW.trod BC P w' 0 sp' held fuel et)=some y/\a.block < w.heap.size:=by
       intro i y hy;obtain⟨cs,oJ,O⟩:=jh.1 hy;obtain⟨k1,k2⟩:=uf hk oJ;refine⟨jh.2 ⟨cs,k1,ih m e et cs y U O⟩,?_⟩;have:=k2 (by omega)
       rwa [block_add] at this
      obtain⟨es,he,h⟩:=jh.1 h;refine jh.2 ⟨es,OH _ he fun i _ y hy=>(el i y hy).1,?_⟩;obtain⟨rs,hr,rfl⟩:=ij.1 h;refine ij.2 ⟨rs,?_,rfl⟩;simp only[lq] at hr;cases hc:cap - len with
      | zero =>
       rw[hc] at hr;simp at hr;subst hr;split<;>simp
      | succ q =>
       have mL:a.block < w.heap.size:=by rw[hc,List.range_succ_eq_map,jv] at hr;simp only[kr,jh] at hr;obtain⟨y,hy,_⟩:=hr;exact (el _ y (jh.2 hy)).2
       rw[lu (ny _ mL),<-hc];exact OH _ hr fun i _ y hy=>(el _ y hy).1
    | struct ds =>
     cases d<;>simp[CV,hu] at hD;rename_i fields;obtain⟨U,H⟩:=hD;have key:=eE ih m ds fields.toList 0 H;unfold DataW.trod at h |-;simp only[hu] at h |-;split at h;{rename_i qT;rw[lu qT];obtain⟨Z,O,rfl⟩:=ij.1 h;exact ij.2 ⟨Z,OH _ O fun f hf y hy=>key f hf _ y hy,rfl⟩};{cases h}
def isDs (P:lO) (m:Nat):List BW->List lP->Bool
 | [],[]=>true
 | D :: Ds,t :: ts=>CV P m D t&&isDs P m Ds ts
 | _,_=>false
theorem val_rep (hI:∀ b,b < w.heap.size->I b) {D:BW} {t:lP} {d:DataW zzb} (hD:CV P m D t=true) (hv:Value.okWide P w .any base t v) (h:DataW.Trod BC P w 0 (fun _=>true) held t v d ps) :
  ∃ u:PV,Ie D u/\Am w I lp none u v:=by
 obtain⟨fuel,h⟩:=h;obtain⟨u,U,H,h3,h4⟩:=d8 (lp:=lp) hI fuel m D t _ _ hD h;cases m with
 | zero=>cases hD
 | succ m =>
  cases hu:P.underlying t with
  | none=>cases D<;>simp[CV,hu] at hD
  | some dd =>
   have one:(∀ x,v.cells.toList=[x]->v=x)->(∀ x:PV,u.cells=[x]->u=x)->(∃ x,u.cells=[x])->∃ u:PV,Ie D u/\Am w I lp none u v:=by intro ho hp ⟨x,O⟩;have hux:=hp x O;rw[O] at H;obtain⟨y,hy,hr⟩:=repL1' H;rw[ho y hy];exact⟨u,U,by rw[hux];exact hr⟩
   have sc:(∀ A,v≠.agg A)->∀ x,v.cells.toList=[x]->v=x:=by intro hn x O;cases v<;>first | (simp[Value.cells] at O;exact O) | exact lH rfl (hn _)
   cases D with
   | struct ds =>
    cases dd<;>simp[CV,hu] at hD;obtain⟨cs,rfl,_⟩:=okWide_struct hu hv;obtain⟨A,rfl,qz⟩:=U;exact⟨_,⟨A,rfl,qz⟩,.agg _ _ h3 H⟩
   | bool =>
    cases dd<;>simp[CV,hu] at hD;obtain⟨b,rfl⟩:=U;exact one (sc fun A e=>by subst e;simp[Value.okWide,hu,Cell.okWide,Cell.ok] at hv) (fun x O=>by simpa[PV.cells] using O) ⟨_,rfl⟩
   | int k =>
    cases dd<;>simp[CV,hu] at hD;obtain⟨b,rfl,_⟩:=U;exact one (sc fun A e=>by subst e;simp[Value.okWide,hu,Cell.okWide,Cell.ok] at hv) (fun x O=>by simpa[PV.cells] using O) ⟨_,rfl⟩
   | str =>
    cases dd<;>simp[CV,hu] at hD;obtain⟨b,rfl,_⟩:=U;exact one (sc fun A e=>by subst e;simp[Value.okWide,hu,Cell.okWide,Cell.ok] at hv) (fun x O=>by simpa[PV.cells] using O) ⟨_,rfl⟩
   | slice e =>
    cases dd<;>simp[CV,hu] at hD;have hs:=sc fun A e=>by subst e;simp[Value.okWide,hu,Cell.okWide,Cell.ok] at hv
    rcases U with rfl | ⟨Z,rfl,_,_⟩;{exact one hs (fun x O=>by simpa[PV.cells] using O) ⟨_,rfl⟩};{exact one hs (fun x O=>by simpa[PV.cells] using O) ⟨_,rfl⟩}
theorem ay (hI:∀ b,b < w.heap.size->I b) {m base:Nat}:∀ (Ds:List BW) (ts:List lP) (A:List lK) (ds:List (DataW zzb)) (p:List MemPlace),isDs P m Ds ts=true ->
  (∀ (j:Nat) t v,ts[j]?=some t->A[j]?=some v->Value.okWide P w .any base t v)->DataW.TrodAll BC P w 0 (fun _=>true) held ts A ds p->∃ us:lS,Qz Ds us/\Ai w I lp none us A
 | [],[],A,ds,p,_,_,h=>by
  obtain⟨rfl,rfl,rfl⟩:=trodAll_nil h;exact⟨[],rfl,.nil⟩
 | D :: Ds,t :: ts,A,ds,p,hD,hv,h=>by
  obtain⟨v,A,d,ds,p,q,rfl,rfl,rfl,U,H⟩:=trodAll_cons h;simp only[isDs,ie] at hD;obtain⟨u,a,b⟩:=val_rep (lp:=lp) hI hD.1 (hv 0 t v rfl rfl) U;obtain⟨us,a',b'⟩:=ay hI Ds ts A ds q hD.2 (fun j t v ht hj=>hv (j+1) t v (by simpa using ht) (by simpa using hj)) H;exact⟨u :: us,⟨u,us,rfl,a,a'⟩,.cons _ _ _ _ b b'⟩
 | [],_ :: _,_,_,_,hD,_,_=>by cases hD
 | _ :: _,[],_,_,_,hD,_,_=>by cases hD
theorem Zj (hk:∀ b,b < w.heap.size->w'.heap[b]?=w.heap[b]?) (ny:∀ b,b < w.heap.size->sp' b=true) {m:Nat}:∀ (Ds:List BW) (ts:List lP) (A:List lK) (ds:List (DataW zzb)) (p:List MemPlace),isDs P m Ds ts=true ->
  DataW.TrodAll BC P w 0 (fun _=>true) held ts A ds p->DataW.TrodAll BC P w' 0 sp' held ts A ds p
 | [],[],A,ds,p,_,h=>by
  obtain⟨rfl,rfl,rfl⟩:=trodAll_nil h;exact rfl
 | D :: Ds,t :: ts,A,ds,p,hD,h=>by
  obtain⟨v,A,d,ds,p,q,rfl,rfl,rfl,⟨fuel,U⟩,H⟩:=trodAll_cons h;simp only[isDs,ie] at hD;exact⟨p,q,⟨fuel,xF hk ny fuel m D t _ _ hD.1 U⟩,Zj hk ny Ds ts A ds q hD.2 H,rfl⟩
 | [],_ :: _,_,_,_,hD,_=>by cases hD
 | _ :: _,[],_,_,_,hD,_=>by cases hD
end
end Go.Ab

