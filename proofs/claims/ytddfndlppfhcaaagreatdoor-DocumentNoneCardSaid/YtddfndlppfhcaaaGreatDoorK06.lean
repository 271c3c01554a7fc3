/-
  Part 6 of a proof: a machine of our own for the given program, its laws, and what it says of the program. Nothing here is a claim by itself.
-/
import Derived.Test.YtddfndlppfhcaaaGreatDoorProg
import Derived.Conc.MuLone
import Derived.Laws.LoneSync
import Derived.KernelRfl
import Derived.Test.YtddfndlppfhcaaaGreatDoorK05
import Derived.WalkKit
import Derived.LaidEql
import Derived.Stop.Asserts
import Derived.RowKitTokens
import Derived.Test.YtddfndlppfhcaaaGreatDoorK03
import Derived.ChangeArms
import Derived.ChangeSlices
import Derived.ChangeMaps5
import Derived.JoinedOf
import Derived.RowKit
import Derived.Test.YtddfndlppfhcaaaGreatDoorK04
set_option linter.all false

namespace Go.Proofs.AbLkN
open Go
abbrev link:Go.Conc.Locks.MuLink:={lock:=198,unlock:=199,ilock:=201,iunlock:=202,lockSlow:=209,unlockSlow:=212,disable:=205,enable:=207,acquire:=208,relMerge:=210,cas32:=206,add32:=211,tIMutex:=287,tMutex:=289,tPMutex:=337,tPIMutex:=340,tPI32:=342,tUP:=200,tNoCopy:=283,tU32:=231}
theorem lib:Go.Conc.Locks.MuLib Tryz.prog link :=
 ⟨Tryz.func198,Tryz.func199,Tryz.func201,Tryz.func202,Tryz.func205,Tryz.func207,Tryz.func208,Tryz.func210,Tryz.func206,Tryz.func211,Tryz.underlying287,Tryz.runUnderlying287,Tryz.sizeOf287,Tryz.isAgg287,Tryz.zeroValue287,Tryz.underlying289,Tryz.runUnderlying289,Tryz.sizeOf289,Tryz.isAgg289,Tryz.zeroValue289,Tryz.underlying337,Tryz.runUnderlying337,Tryz.sizeOf337,Tryz.isAgg337,Tryz.zeroValue337,Tryz.underlying340,Tryz.runUnderlying340,Tryz.sizeOf340,Tryz.isAgg340,Tryz.zeroValue340,Tryz.underlying342,Tryz.runUnderlying342,Tryz.sizeOf342,Tryz.isAgg342,Tryz.zeroValue342,Tryz.underlying200,Tryz.runUnderlying200,Tryz.sizeOf200,Tryz.isAgg200,Tryz.zeroValue200,Tryz.underlying283,Tryz.runUnderlying283,Tryz.sizeOf283,Tryz.isAgg283,Tryz.zeroValue283,Tryz.underlying21,Tryz.runUnderlying21,Tryz.sizeOf21,Tryz.isAgg21,Tryz.zeroValue21,(by kernel_rfl)⟩
theorem load (a:Addr) (y:Int) (w:World) (h:w.cell? a=some (.int .u32 y)):(callFunc 197 #[.pointer (some a)]).run Tryz.prog w=.ok (.value (.int .u32 y)) w :=
 run_call_load (P:=Tryz.prog) Tryz.func197 (by kernel_rfl) (by kernel_rfl) (by kernel_rfl) .u32 (by kernel_rfl) h
theorem store (a:Addr) (y0 y:Int) (w:World) (h:w.cell? a=some (.int .u32 y0)) (hz:w.frozen? a=false):(callFunc 203 #[.pointer (some a),.int .u32 y]).run Tryz.prog w=.ok (.value (.tuple #[])) (w.setCell a (.int .u32 y)) :=
 run_call_store (P:=Tryz.prog) Tryz.func203 (by kernel_rfl) (by kernel_rfl) (by kernel_rfl) (by kernel_rfl) h hz
theorem lock (a:Addr) (w:World) (h:w.cell? a=some (.int .i32 0)) (hz:w.frozen? a=false):Calls Tryz.prog 201 #[.pointer (some a)] w fun e w'=>e=.returned (.tuple #[])∧w'=w.setCell a (.int .i32 1):=Go.MuLone.ilock_free lib a w h hz
theorem unlock (a:Addr) (w:World) (h:w.cell? a=some (.int .i32 1)) (hz:w.frozen? a=false):Calls Tryz.prog 202 #[.pointer (some a)] w fun e w'=>e=.returned (.tuple #[])∧w'=w.setCell a (.int .i32 0):=Go.MuLone.iunlock_held lib a w h hz
theorem load64 (a:Addr) (y:Int) (w:World) (h:w.cell? a=some (.int .i64 y)):(callFunc 35 #[.pointer (some a)]).run Tryz.prog w=.ok (.value (.int .i64 y)) w :=
 run_call_load (P:=Tryz.prog) Tryz.func35 (by kernel_rfl) (by kernel_rfl) (by kernel_rfl) .i64 (by kernel_rfl) h
theorem sum64 (x y:Int) (w:World):(Op.intArith .add .i64 x y).run Tryz.prog w=.ok (.int .i64 (IntKind.i64.wrap (x+y))) w:=by kernel_rfl
theorem add (a:Addr) (x d:Int) (w:World) (h:w.cell? a=some (.int .i64 x)) (hz:w.frozen? a=false):(callFunc 71 #[.pointer (some a),.int .i64 d]).run Tryz.prog w=.ok (.value (.int .i64 (IntKind.i64.wrap (x+d)))) (w.setCell a (.int .i64 (IntKind.i64.wrap (x+d)))) :=
 run_call_add (P:=Tryz.prog) Tryz.func71 (by kernel_rfl) (by kernel_rfl) (by kernel_rfl) .i64 (by kernel_rfl) h hz (sum64 x d w)
end Go.Proofs.AbLkN


namespace Go.Proofs.AbAsN
open Go.RowKit Go.Extern.Stop Go.Stop Go.Extern
theorem as_nil (t:Value) (w:World) :
  Calls Tryz.prog 120 #[.nilIface,t] w fun e w'=>e=.returned (.bool false)∧w'=w:=by
 go_enter Tryz.func120,Tryz.ntmps120
 go_wp2
 go_ret
 exact⟨rfl,rfl⟩
theorem Tryz.valueOf27 (t:Addr) (w:World):(ReflectliteValue.unpack (.iface 211 (.pointer (some t)))).run Tryz.prog w
  = .ok (.agg #[.pointer (some ⟨12,211,none⟩),.pointer (some ⟨w.heap.size,0,none⟩),.int .u64 150]) (w.alloc (.cells #[.pointer (some t)] 211)):=by kernel_rfl
theorem Tryz.type27 (a:Addr) (w:World):(ReflectliteValue.methodAny (ReflectliteValue.valueError "reflectlite.Value.Type" 0) (fun t _ _ _=>ReflectliteType.toType t) #[.agg #[.pointer (some ⟨12,211,none⟩),.pointer (some a),.int .u64 150]]).run Tryz.prog w
  = .ok (.iface 167 (.agg #[.pointer (some ⟨12,211,none⟩)])) w:=by kernel_rfl
theorem Tryz.methodKind (h:Value) (w:World):(Go.method 478 167 (.agg #[h]) "Kind").run Tryz.prog w=.ok (234,h) w:=by kernel_rfl
theorem Tryz.kind27 (w:World):((ReflectliteType.abiMethod fun t=>Functor.map (fun a:Nat=>Value.int IntKind.u8 (a:Int)) (Rtype.kind t)) #[.pointer (some ⟨12,211,none⟩)]).run Tryz.prog w=.ok (.int .u8 22) w:=by kernel_rfl
theorem Tryz.kind25 (w:World):((ReflectliteType.abiMethod fun t=>Functor.map (fun a:Nat=>Value.int IntKind.u8 (a:Int)) (Rtype.kind t)) #[.pointer (some ⟨12,209,none⟩)]).run Tryz.prog w=.ok (.int .u8 25) w:=by kernel_rfl
theorem rlm (z:Sem Value) (f:TypeId→Addr→Nat→Nat→Sem Value) (v:Value) :
  ReflectliteValue.method z f #[v]=(do match ←ReflectliteValue.parts v with | none=>z | some (t,a,fl)=>f t a fl (fl%32)):=rfl
theorem Tryz.parts27 (a:Addr) (w:World):(ReflectliteValue.parts (.agg #[.pointer (some ⟨12,211,none⟩),.pointer (some a),.int .u64 150])).run Tryz.prog w=.ok (some (211,a,150)) w:=by kernel_rfl
theorem Tryz.isNil27 (a p:Addr) (W:World) (ha:W.cell? a=some (.pointer (some p))) :
  (ReflectliteValue.method (ReflectliteValue.valueError "reflectlite.Value.IsNil" 0) ReflectliteValue.isNil #[.agg #[.pointer (some ⟨12,211,none⟩),.pointer (some a),.int .u64 150]]).run Tryz.prog W=.ok (.bool false) W:=by
 rw[rlm]
 simp only[Sem.run_bind,Tryz.parts27,Result.andThen]
 simp[ReflectliteValue.isNil,loadVar,isAgg,underlying,Tryz.underlying211,ha,Result.andThen]
theorem Tryz.methodElem (h:Value) (w:World):(Go.method 478 167 (.agg #[h]) "Elem").run Tryz.prog w=.ok (242,.agg #[h]) w:=by kernel_rfl
theorem Tryz.methodImplements (h:Value) (w:World):(Go.method 478 167 (.agg #[h]) "Implements").run Tryz.prog w=.ok (243,.agg #[h]) w:=by kernel_rfl
theorem Tryz.methodAssignableTo (h:Value) (w:World):(Go.method 478 167 (.agg #[h]) "AssignableTo").run Tryz.prog w=.ok (240,.agg #[h]) w:=by kernel_rfl
theorem Tryz.elem27 (w:World):(ReflectliteType.method ReflectliteType.elem #[.agg #[.pointer (some ⟨12,211,none⟩)]]).run Tryz.prog w=.ok (.iface 167 (.agg #[.pointer (some ⟨12,209,none⟩)])) w:=by kernel_rfl
theorem Tryz.implements25 (w:World):(ReflectliteType.relation "Implements" ReflectliteType.implements_ #[.agg #[.pointer (some ⟨12,209,none⟩)],.iface 167 (.agg #[.pointer (some ⟨12,81,none⟩)])]).run Tryz.prog w=.ok (.bool true) w:=by kernel_rfl
theorem Tryz.typeOf25 (v:Value) (w:World):(ReflectliteType.typeOf #[.iface 209 v]).run Tryz.prog w=.ok (.iface 167 (.agg #[.pointer (some ⟨12,209,none⟩)])) w:=by kernel_rfl
theorem Tryz.assignable25 (w:World):(ReflectliteType.relation "AssignableTo" ReflectliteType.assignableTo #[.agg #[.pointer (some ⟨12,209,none⟩)],.iface 167 (.agg #[.pointer (some ⟨12,209,none⟩)])]).run Tryz.prog w=.ok (.bool true) w:=by kernel_rfl
theorem Tryz.elemOf27 (w:World):(Rtype.elem? 211).run Tryz.prog w=.ok (some 209) w:=by kernel_rfl
theorem Tryz.mk25 (p:Addr) (w:World):(ReflectliteValue.mk 209 p ReflectliteValue.flagAddr).run Tryz.prog w=.ok (.agg #[.pointer (some ⟨12,209,none⟩),.pointer (some p),.int .u64 409]) w:=by kernel_rfl
theorem Tryz.elemV27 (a p:Addr) (W:World) (ha:W.cell? a=some (.pointer (some p))) :
  (ReflectliteValue.method (ReflectliteValue.valueError "reflectlite.Value.Elem" 0) ReflectliteValue.elem #[.agg #[.pointer (some ⟨12,211,none⟩),.pointer (some a),.int .u64 150]]).run Tryz.prog W
   = .ok (.agg #[.pointer (some ⟨12,209,none⟩),.pointer (some p),.int .u64 409]) W:=by
 rw[rlm]
 simp only[Sem.run_bind,Tryz.parts27,Result.andThen]
 simp[ReflectliteValue.elem,loadVar,isAgg,underlying,Tryz.underlying211,ha,Result.andThen,Tryz.elemOf27,Tryz.mk25]
theorem rls (v x:Value):ReflectliteValue.set #[v,x]=(do
  let (some (dst,a,fl),some (src,b,_)):=(←ReflectliteValue.parts v,←ReflectliteValue.parts x)
   | unsupported (.noEntry "extern/(internal/reflectlite.Value).Set.zeroValue")
  if fl / ReflectliteValue.flagAddr%2==0 then unsupported (.noEntry "extern/(internal/reflectlite.Value).Set.unaddressable")
  let val ←loadVar src b
  if ←Rtype.directlyAssignable dst src then storeVar dst a val
  else if ←Rtype.implements dst src then
   if (←Rtype.kind src)==20 then
    match val with
    | .nilIface=>unsupported (.noEntry "extern/reflectlite: a nil value of one interface type handed on as a value of another")
    | _=>storeVar dst a val
   else storeVar dst a (.iface src val)
  else panicString ("reflectlite.Set: value of type "++(←Rtype.spelt src) ++ " is not assignable to type "++(←Rtype.spelt dst))
  pure (.tuple #[])):=rfl
theorem Tryz.parts25a (a:Addr) (w:World):(ReflectliteValue.parts (.agg #[.pointer (some ⟨12,209,none⟩),.pointer (some a),.int .u64 409])).run Tryz.prog w=.ok (some (209,a,409)) w:=by kernel_rfl
theorem Tryz.parts25 (a:Addr) (w:World):(ReflectliteValue.parts (.agg #[.pointer (some ⟨12,209,none⟩),.pointer (some a),.int .u64 153])).run Tryz.prog w=.ok (some (209,a,153)) w:=by kernel_rfl
theorem Tryz.direct25 (w:World):(Rtype.directlyAssignable 209 209).run Tryz.prog w=.ok true w:=by kernel_rfl
theorem Tryz.size25 (w:World):(sizeOf 209).run Tryz.prog w=.ok 3 w:=by kernel_rfl
theorem storeAt {P:Program} {W:World} {b i:Nat} {E:TypeId} {c:Array Value} {v:Value} (hb:W.heap[b]?=some (.cells c E (0,0))) (hi:i < c.size) (hv:v.oneCell'=true) :
  (store ⟨b,i,none⟩ v).run P W=.ok () (W.setCell ⟨b,i,none⟩ v):=by
 rw[run_store P W _ _ _ hv]
 have h1:W.cell? ⟨b,i,none⟩=some c[i]:=by simp[World.cell?,hb,hi]
 have h2:W.frozen? ⟨b,i,none⟩=false:=by simp[World.frozen?,hb]
 simp[h1,h2]
theorem Tryz.set25 (ta b:Nat) (e1 e2 e3 o1 o2 o3:Value) (h1:e1.oneCell'=true) (h2:e2.oneCell'=true) (h3:e3.oneCell'=true) (W:World) {E1 E2:TypeId} (hb:W.heap[b]?=some (.cells #[e1,e2,e3] E1 (0,0))) (ht:W.heap[ta]?=some (.cells #[o1,o2,o3] E2 (0,0))) :
  (ReflectliteValue.set #[.agg #[.pointer (some ⟨12,209,none⟩),.pointer (some ⟨ta,0,none⟩),.int .u64 409],.agg #[.pointer (some ⟨12,209,none⟩),.pointer (some ⟨b,0,none⟩),.int .u64 153]]).run Tryz.prog W
   = .ok (.tuple #[]) (((W.setCell ⟨ta,0,none⟩ e1).setCell ⟨ta,1,none⟩ e2).setCell ⟨ta,2,none⟩ e3):=by
 rw[rls]
 simp only[Sem.run_bind,Tryz.parts25a,Tryz.parts25,Result.andThen]
 have c0:W.cell? ⟨b,0,none⟩=some e1:=by simp[World.cell?,hb]
 have c1:W.cell? ⟨b,1,none⟩=some e2:=by simp[World.cell?,hb]
 have c2:W.cell? ⟨b,2,none⟩=some e3:=by simp[World.cell?,hb]
 have k1:=Go.Ab.setCell_same (o:=0) (n:=e1) ht
 have k2:=Go.Ab.setCell_same (o:=1) (n:=e2) k1
 have s1:=storeAt (P:=Tryz.prog) (i:=0) ht (by simp) h1
 have s2:=storeAt (P:=Tryz.prog) (i:=1) k1 (by simp) h2
 have s3:=storeAt (P:=Tryz.prog) (i:=2) k2 (by simp) h3
 simp[ReflectliteValue.flagAddr,loadVar,Tryz.isAgg209,Tryz.size25,loadCells,loadCellsFrom,c0,c1,c2,Result.andThen,Tryz.direct25,storeVar,Value.cells,storeCells,Addr.add,s1,s2,s3]
theorem valueOf51g (v:Value) (w:World):(ReflectliteValue.unpack (.iface 209 v)).run Tryz.prog w
  = .ok (.agg #[.pointer (some ⟨12,209,none⟩),.pointer (some ⟨w.heap.size,0,none⟩),.int .u64 153]) (w.alloc (.cells v.cells 209)):=by kernel_rfl
theorem valueOf51 (v:Value) {n:Array Value} (hv:v.cells=n) (w:World):(ReflectliteValue.unpack (.iface 209 v)).run Tryz.prog w
  = .ok (.agg #[.pointer (some ⟨12,209,none⟩),.pointer (some ⟨w.heap.size,0,none⟩),.int .u64 153]) (w.alloc (.cells n 209)):=by rw[valueOf51g,hv]
set_option maxHeartbeats 8000000 in
set_option maxRecDepth 100000 in
theorem as_hit (v n1 n2 n3:Value) (hv:v.cells=#[n1,n2,n3]) (m1:n1.oneCell'=true) (m2:n2.oneCell'=true) (m3:n3.oneCell'=true) (b:Nat) (o1 o2 o3:Value) (E:TypeId) (w:World)
  (hg:w.cell? ⟨8,0,none⟩=some (.iface 167 (.agg #[.pointer (some ⟨12,81,none⟩)]))) (hb:w.heap[b]?=some (.cells #[o1,o2,o3] E (0,0))) :
  Calls Tryz.prog 120 #[.iface 209 v,.iface 211 (.pointer (some ⟨b,0,none⟩))] w fun ev w'=>ev=.returned (.bool true) ∧
   ∃ q1 q2 q3 q4,w'=((((((w.alloc q1).alloc q2).alloc q3).alloc q4).setCell ⟨b,0,none⟩ n1).setCell ⟨b,1,none⟩ n2).setCell ⟨b,2,none⟩ n3:=by
 have h6:=@run_callFunc_extern Tryz.prog 152 _ (fun args=>ReflectliteValue.unpack (args.getD 0 (.tuple #[]))) Tryz.func152 (by kernel_rfl) (by kernel_rfl) (by kernel_rfl) (by kernel_rfl)
 have h7:=@run_callFunc_extern Tryz.prog 153 _ (ReflectliteValue.methodAny (ReflectliteValue.valueError "reflectlite.Value.Type" 0) (fun t _ _ _=>ReflectliteType.toType t)) Tryz.func153 (by kernel_rfl) (by kernel_rfl) (by kernel_rfl) (by kernel_rfl)
 have h8:=@run_callFunc_extern Tryz.prog 154 _ (ReflectliteValue.method (ReflectliteValue.valueError "reflectlite.Value.IsNil" 0) ReflectliteValue.isNil) Tryz.func154 (by kernel_rfl) (by kernel_rfl) (by kernel_rfl) (by kernel_rfl)
 have h27:=@run_callFunc_extern Tryz.prog 234 _ (ReflectliteType.abiMethod fun t=>do pure (.int .u8 (←Rtype.kind t))) Tryz.func234 (by kernel_rfl) (by kernel_rfl) (by kernel_rfl) (by kernel_rfl)
 have h37:=@run_callFunc_extern Tryz.prog 242 _ (ReflectliteType.method ReflectliteType.elem) Tryz.func242 (by kernel_rfl) (by kernel_rfl) (by kernel_rfl) (by kernel_rfl)
 have h38:=@run_callFunc_extern Tryz.prog 243 _ (ReflectliteType.relation "Implements" ReflectliteType.implements_) Tryz.func243 (by kernel_rfl) (by kernel_rfl) (by kernel_rfl) (by kernel_rfl)
 have h10:=@run_callFunc_extern Tryz.prog 64 _ ReflectliteType.typeOf Tryz.func64 (by kernel_rfl) (by kernel_rfl) (by kernel_rfl) (by kernel_rfl)
 have h35:=@run_callFunc_extern Tryz.prog 240 _ (ReflectliteType.relation "AssignableTo" ReflectliteType.assignableTo) Tryz.func240 (by kernel_rfl) (by kernel_rfl) (by kernel_rfl) (by kernel_rfl)
 have h11:=@run_callFunc_extern Tryz.prog 176 _ (ReflectliteValue.method (ReflectliteValue.valueError "reflectlite.Value.Elem" 0) ReflectliteValue.elem) Tryz.func176 (by kernel_rfl) (by kernel_rfl) (by kernel_rfl) (by kernel_rfl)
 have h12:=@run_callFunc_extern Tryz.prog 177 _ ReflectliteValue.set Tryz.func177 (by kernel_rfl) (by kernel_rfl) (by kernel_rfl) (by kernel_rfl)
 have tO:=Tryz.typeOf25
 have mA:=Tryz.methodAssignableTo
 have a25:=Tryz.assignable25
 have v25:=valueOf51 v hv
 have f6:=Tryz.valueOf27
 have f7:=Tryz.type27
 have mK:=Tryz.methodKind
 have mE:=Tryz.methodElem
 have mI:=Tryz.methodImplements
 have k27:=Tryz.kind27
 have k25:=Tryz.kind25
 have e27:=Tryz.elem27
 have i25:=Tryz.implements25
 have n8:=Tryz.isNil27 ⟨w.heap.size,0,none⟩ ⟨b,0,none⟩ ((w.alloc (.cells #[.pointer (some ⟨b,0,none⟩)] 211)).alloc (.cells #[.pointer (some ⟨12,211,none⟩),.pointer (some ⟨w.heap.size,0,none⟩),.int .u64 150] 258)) (by simp)
 have hlt:8 < w.heap.size:=by
  rcases Nat.lt_or_ge 8 w.heap.size with h | h
  ·exact h
  ·simp[World.cell?,Array.getElem?_eq_none h] at hg
 have hg2:((w.alloc (.cells #[.pointer (some ⟨b,0,none⟩)] 211)).alloc (.cells #[.pointer (some ⟨12,211,none⟩),.pointer (some ⟨w.heap.size,0,none⟩),.int .u64 150] 258)).cell? ⟨8,0,none⟩=some (.iface 167 (.agg #[.pointer (some ⟨12,81,none⟩)])):=by
  rw[World.cell?_alloc_lt _ _ ⟨8,0,none⟩ (by simp;omega),World.cell?_alloc_lt _ _ ⟨8,0,none⟩ hlt];exact hg
 have htl:b < w.heap.size:=by
  rcases Nat.lt_or_ge b w.heap.size with h | h
  ·exact h
  ·simp[Array.getElem?_eq_none h] at hb
 have el:=Tryz.elemV27 ⟨w.heap.size,0,none⟩ ⟨b,0,none⟩ (((w.alloc (.cells #[.pointer (some ⟨b,0,none⟩)] 211)).alloc (.cells #[.pointer (some ⟨12,211,none⟩),.pointer (some ⟨w.heap.size,0,none⟩),.int .u64 150] 258)).alloc (.cells #[.pointer (some ⟨12,211,none⟩),.pointer (some ⟨w.heap.size,0,none⟩),.int .u64 150] 258)) (by rw[World.cell?_alloc_lt _ _ ⟨w.heap.size,0,none⟩ (by simp;omega)];simp)
 have st:=Tryz.set25 b (w.heap.size+1+1+1) n1 n2 n3 o1 o2 o3 m1 m2 m3 ((((w.alloc (.cells #[.pointer (some ⟨b,0,none⟩)] 211)).alloc (.cells #[.pointer (some ⟨12,211,none⟩),.pointer (some ⟨w.heap.size,0,none⟩),.int .u64 150] 258)).alloc (.cells #[.pointer (some ⟨12,211,none⟩),.pointer (some ⟨w.heap.size,0,none⟩),.int .u64 150] 258)).alloc (.cells #[n1,n2,n3] 209)) (E1:=209) (E2:=E)
  (by have h:=World.alloc_heap_new (((w.alloc (.cells #[.pointer (some ⟨b,0,none⟩)] 211)).alloc (.cells #[.pointer (some ⟨12,211,none⟩),.pointer (some ⟨w.heap.size,0,none⟩),.int .u64 150] 258)).alloc (.cells #[.pointer (some ⟨12,211,none⟩),.pointer (some ⟨w.heap.size,0,none⟩),.int .u64 150] 258)) (.cells #[n1,n2,n3] 209);rw[World.size_alloc,World.size_alloc,World.size_alloc] at h;exact h)
  (by rw[Go.Ab.heap_alloc_lt _ _ (by simp;omega),Go.Ab.heap_alloc_lt _ _ (by simp;omega),Go.Ab.heap_alloc_lt _ _ (by simp;omega),Go.Ab.heap_alloc_lt _ _ htl];exact hb)
 go_enter Tryz.func120,Tryz.ntmps120
 go_wp2
 refine wp_loop_rounds 1 ?_
 rw[rounds_succ]
 go_wp2
 go_ret
 exact⟨rfl,_,_,_,_,rfl⟩
end Go.Proofs.AbAsN


namespace Go.Proofs.AbNC
open Go.RowKit Go.Proofs
theorem eqN (c:Nat) (w:World):Sem.run Tryz.prog (binOp BinOp.eql 60 (.slice none 0 c) (.slice none 0 0)) w=.ok (.bool true) w:=by kernel_rfl
theorem eqS (a:Addr) (c:Nat) (w:World):Sem.run Tryz.prog (binOp BinOp.eql 60 (.slice (some a) 0 c) (.slice none 0 0)) w=.ok (.bool false) w:=by kernel_rfl
set_option maxRecDepth 100000 in
theorem clone_none (c:Nat) (w:World):Calls Tryz.prog 17 #[.slice none 0 c] w fun e w'=>e=.returned (.slice none 0 0)∧w'=w:=by
 go_enter Tryz.func17,Tryz.ntmps17
 go_wp2
 rw[eqN]
 simp only[Result.andThen]
 rw[Oper.upon_value]
 go_wp2
 go_ret
 exact⟨rfl,rfl⟩
set_option maxRecDepth 100000 in
theorem clone_some (a:Addr) (c:Nat) (w:World):Calls Tryz.prog 17 #[.slice (some a) 0 c] w fun e w'=>e=.returned (.slice (some ⟨w.heap.size,0,none⟩) 0 0)∧w'=w.alloc (.cells #[] 3):=by
 go_enter Tryz.func17,Tryz.ntmps17
 go_wp2
 rw[eqS]
 simp only[Result.andThen]
 rw[Oper.upon_value]
 go_wp2
 go_ret
 exact⟨rfl,rfl⟩
theorem clone_run (a:Option Addr) (c:Nat) (w:World):∃ a',Calls Tryz.prog 17 #[.slice a 0 c] w fun e w'=>e=.returned (.slice a' 0 0)∧Go.Ab.LawEnd w w':=by
 cases a with
 | none=>exact⟨none,(clone_none c w).mono fun e w' h=>⟨h.1,h.2 ▸ Go.Ab.lawEnd_refl w⟩⟩
 | some a=>exact⟨_,(clone_some a c w).mono fun e w' h=>⟨h.1,Go.Ab.lawEnd_belowW (h.2 ▸ (Below.refl _ _).alloc (Nat.le_refl _) _)⟩⟩
end Go.Proofs.AbNC


namespace Go.Ab.DocNone
open Go Go.Ab Go.Proofs
def et0:Value:=.iface 167 (.agg #[.pointer (some ⟨12,81,none⟩)])
def tabs0:List (Nat×Array Value):=[(5,(Lib.pow10Tab.map fun z=>Value.int .u64 z).toArray)]
noncomputable def cx0:Cx:=cxOf Tryz.prog (by kernel_rfl) [0,1,3,4,9] 348 [(8,et0)] tabs0 []
theorem enters42:qc8 Tryz.prog 42:=⟨_,Tryz.func42,by rfl,by rfl⟩
theorem enters68:qc8 Tryz.prog 68:=⟨_,Tryz.func68,by rfl,by rfl⟩
theorem enters80:qc8 Tryz.prog 80:=⟨_,Tryz.func80,by rfl,by rfl⟩
theorem enters39:qc8 Tryz.prog 39:=⟨_,Tryz.func39,by rfl,by rfl⟩
theorem enters81:qc8 Tryz.prog 81:=⟨_,Tryz.func81,by rfl,by rfl⟩
theorem enters62:qc8 Tryz.prog 62:=⟨_,Tryz.func62,by rfl,by rfl⟩
theorem enters120:qc8 Tryz.prog 120:=⟨_,Tryz.func120,by rfl,by rfl⟩
theorem enters201:qc8 Tryz.prog 201:=⟨_,Tryz.func201,by rfl,by rfl⟩
theorem enters202:qc8 Tryz.prog 202:=⟨_,Tryz.func202,by rfl,by rfl⟩
theorem enters41:qc8 Tryz.prog 41:=⟨_,Tryz.func41,by rfl,by rfl⟩
theorem enters17:qc8 Tryz.prog 17:=⟨_,Tryz.func17,by rfl,by rfl⟩
theorem is_ok:IsOK Tryz.prog 42 348 [] where
 enters:=enters42
 none a w:=Go.Proofs.AbIsN.is_nil a w
 same a w:=Go.Proofs.AbIsN.is_same a w
 other a b ca cb ta tb w h h1 h2:=Go.Proofs.AbIsN.is_other a b ca cb ta tb w h h1 h2
 type s hs v b w:=by
  simp only[List.mem_cons,List.not_mem_nil,or_false] at hs
theorem bld_ok:BldOK Tryz.prog 81 62 136 5 where
 entersC:=enters81
 entersS:=enters62
 nzT:=by decide
 nzU:=by decide
 used:=Go.Proofs.AbNS.check_used
 fresh b w h0 h1 h2:=Go.Proofs.AbNS.check_fresh b w h0 h1 h2
 strNil b p w h:=Go.Proofs.AbNS.string_nil b p w h
 strSome b g cap p cur l w h1 h2 h3 h4 h5 h6 h7:=Go.Proofs.AbNS.string_some b g cap p cur l w h1 h2 h3 h4 h5 h6 h7
theorem as3_ok:As3OK Tryz.prog 120 8 et0 211 209 where
 enters:=enters120
 none:=Go.Proofs.AbAsN.as_nil
 hit v n1 n2 n3 hv h1 h2 h3 b o1 o2 o3 E w hg hb:=Go.Proofs.AbAsN.as_hit v n1 n2 n3 hv h1 h2 h3 b o1 o2 o3 E w hg hb
theorem sp_ok:SpOK cx0 sp0:=by
 intro g st vs out h
 unfold sp0 at h
 by_cases hg:g=42
 ·rw[if_pos hg] at h
  subst hg
  exact .inr (is_at is_ok h)
 rw[if_neg hg] at h
 clear hg
 by_cases hg:g=68
 ·rw[if_pos hg] at h
  subst hg
  exact .inr (count_at enters68 Go.Proofs.AbNS.count_one h)
 rw[if_neg hg] at h
 clear hg
 by_cases hg:g=80
 ·rw[if_pos hg] at h
  subst hg
  exact .inr (idx_at enters80 Go.Proofs.AbShN.index_run h)
 rw[if_neg hg] at h
 clear hg
 by_cases hg:g=39
 ·rw[if_pos hg] at h
  subst hg
  exact .inr (itoa_at enters39 (gt:=5) (List.mem_singleton.2 rfl) (by kernel_rfl) (fun n h0 h1 w ht=>Go.Proofs.AbShN.itoa_run n h0 h1 w ht) h)
 rw[if_neg hg] at h
 clear hg
 by_cases hg:g=81
 ·rw[if_pos hg] at h
  subst hg
  exact .inr (check_at bld_ok h)
 rw[if_neg hg] at h
 clear hg
 by_cases hg:g=62
 ·rw[if_pos hg] at h
  subst hg
  exact .inr (str_at bld_ok h)
 rw[if_neg hg] at h
 clear hg
 by_cases hg:g=120
 ·rw[if_pos hg] at h
  subst hg
  exact .inr (as3_at (List.mem_singleton.2 rfl) as3_ok h)
 rw[if_neg hg] at h
 clear hg
 by_cases hg:g=197
 ·rw[if_pos hg] at h
  subst hg
  exact .inl (Qll Go.Proofs.AbLkN.load h)
 rw[if_neg hg] at h
 clear hg
 by_cases hg:g=203
 ·rw[if_pos hg] at h
  subst hg
  exact .inl (store_ret Go.Proofs.AbLkN.store h)
 rw[if_neg hg] at h
 clear hg
 by_cases hg:g=201
 ·rw[if_pos hg] at h
  subst hg
  exact .inr (swap_at enters201 Go.Proofs.AbLkN.lock h)
 rw[if_neg hg] at h
 clear hg
 by_cases hg:g=202
 ·rw[if_pos hg] at h
  subst hg
  exact .inr (swap_at enters202 Go.Proofs.AbLkN.unlock h)
 rw[if_neg hg] at h
 clear hg
 by_cases hg:g=71
 ·rw[if_pos hg] at h
  subst hg
  exact .inl (add_ret Go.Proofs.AbLkN.add h)
 rw[if_neg hg] at h
 clear hg
 by_cases hg:g=35
 ·rw[if_pos hg] at h
  subst hg
  exact .inl (Qll Go.Proofs.AbLkN.load64 h)
 rw[if_neg hg] at h
 clear hg
 by_cases hg:g=41
 ·rw[if_pos hg] at h
  subst hg
  exact .inr (join_at enters41 Go.Proofs.AbShN.join_run h)
 rw[if_neg hg] at h
 clear hg
 by_cases hg:g=17
 ·rw[if_pos hg] at h
  subst hg
  exact .inr (clone0_at enters17 Go.Proofs.AbNC.clone_run h)
 rw[if_neg hg] at h
 clear hg
 cases h
end Go.Ab.DocNone


namespace Go.Ab
open Go Go.ChangeShapes Go.WideShapes Go.RowKit
inductive DTy where
 | bool
 | int (k:IntKind)
 | str
 | slice (e:DTy)
 | struct (fs:List DTy)
mutual
def DTy.cells:DTy→Nat
 | .struct fs=>DTy.cellsL fs
 | .bool | .int _ | .str | .slice _=>1
def DTy.cellsL:List DTy→Nat
 | []=>0
 | d :: ds=>d.cells+DTy.cellsL ds
end
mutual
def isD (P:Program):Nat→DTy→TypeId→Bool
 | 0,_,_=>false
 | n+1,D,t=>match D,P.underlying t with
  | .bool,some .bool=>true
  | .int k,some (.int k')=>k'==k
  | .str,some .string=>true
  | .slice e,some (.slice et)=>isD P n e et&&P.cellsOf et==e.cells&&decide (0 < e.cells)
  | .struct fs,some (.struct fields)=>P.cellsOf t==DTy.cellsL fs&&isFs P n 0 fs fields.toList
  | _,_=>false
def isFs (P:Program):Nat→Nat→List DTy→List Field→Bool
 | 0,_,_,_=>false
 | _+1,_,[],[]=>true
 | n+1,off,D :: ds,f :: fs=>f.offset==off&&P.cellsOf f.type==D.cells&&isD P n D f.type&&isFs P n (off+D.cells) ds fs
 | _+1,_,_,_=>false
end
mutual
def HasV:DTy→PV→Prop
 | .bool,v=>∃ b,v=.bool b
 | .int k,v=>∃ n,v=.int k n∧(Lit.int k n).wf=true
 | .str,v=>∃ s,v=.str s∧s.length≤maxLen
 | .slice e,v=>v=.nilS∨∃ xs,v=.sl e.cells xs false∧xs.length≤maxLen∧∀ x∈xs,HasV e x
 | .struct fs,v=>∃ vs,v=.agg (cellsL vs)∧HasVs fs vs
def HasVs:List DTy→List PV→Prop
 | [],vs=>vs=[]
 | D :: fs,vs=>∃ v r,vs=v :: r∧HasV D v∧HasVs fs r
end
theorem repL1' {w:World} {I:Nat→Prop} {lp:Nat→Option Nat} {L:Option Loc} {a:PV} {us:List Value} (h:qbn w I lp L [a] us):∃ u,us=[u]∧qbr w I lp L a u:=by
 obtain⟨u,r,h1,rfl,h2⟩:∃ u r,qbr w I lp L a u∧us=u :: r∧qbn w I lp L [] r:=by
  cases h;exact⟨_,_,by assumption,rfl,by assumption⟩
 cases h2
 exact⟨u,rfl,h1⟩
section
variable {H:Type} {enc:TypeId×Value→H} {P:Program} {w:World} {I:Nat→Prop} {lp:Nat→Option Nat} {held:Bool} {sp:Nat→Bool}
def RepD (w:World) (I:Nat→Prop) (lp:Nat→Option Nat) (D:DTy) (cs:List Value):Prop:=∃ v:PV,HasV D v∧qbn w I lp none v.cells cs∧One cs∧v.cells.length=D.cells
theorem cells?_get {base:Nat} {a:Addr} {n:Nat} {l:List Value} (h:w.cells? base a n=some l):l.length=n∧∀ i,i < n→w.cell? (a.add i)=l[i]?:=by
 obtain⟨_,h1,h2⟩:=World.cells?_some h
 exact⟨h1,fun i hi=>by rw[h2 i hi]⟩
theorem cell?_row {a:Addr} {v:Value} (h:w.cell? a=some v):∃ c E fr,w.heap[a.block]?=some (.cells c E fr)∧a.spot=none∧c[a.off]?=some v:=by
 unfold World.cell? at h
 split at h
 ·rename_i c E fr hb
  split at h
  ·cases h
  ·rename_i hs
   exact⟨c,E,fr,hb,by simpa using hs,h⟩
 ·cases h
theorem Qpa (a:Addr) (h:a.spot=none) (i:Nat):a.add i=⟨a.block,a.off+i,none⟩:=by
 unfold Addr.add
 split
 ·rename_i hi;subst hi;cases a;simp_all
 ·rfl
theorem list_rep {e:DTy} (hI:∀ b,b < w.heap.size→I b) {a:Addr} {len cap:Nat} (hlc:len≤cap) (hcm:cap≤maxLen) (hpos:0 < e.cells)
  (hel:∀ i,i < len→∃ cs,w.cells? 0 (a.add (i*e.cells)) e.cells=some cs∧RepD w I lp e cs):RepD w I lp (.slice e) [.slice (some a) len cap]:=by
 by_cases h0:len=0
 ·subst h0
  exact⟨.sl e.cells [] false,.inr ⟨[],rfl,Nat.zero_le _,fun x hx=>by cases hx⟩,.cons _ _ _ _ (.slE _ _ _ _ (fun h=>by cases h)) .nil,by simp[One,Value.oneCell'],rfl⟩
 ·obtain⟨cs0,hcs0,_⟩:=hel 0 (by omega)
  obtain⟨hl0,hg0⟩:=cells?_get hcs0
  have hf:=hg0 0 hpos
  rw[Nat.zero_mul] at hf
  have e0:(a.add 0).add 0=a:=by simp[Addr.add]
  rw[e0,List.getElem?_eq_getElem (by omega)] at hf
  obtain⟨c,E,fr,hb,hs,_⟩:=cell?_row hf
  have hblt:a.block < w.heap.size:=(Array.getElem?_eq_some_iff.1 hb).1
  have each:∀ i,i < len→∃ v:PV,HasV e v∧v.cells.length=e.cells∧(a.off+i*e.cells)+e.cells≤c.size∧One ((c.toList.drop (a.off+i*e.cells)).take e.cells)∧qbn w I lp none v.cells ((c.toList.drop (a.off+i*e.cells)).take e.cells):=by
   intro i hi
   obtain⟨cs,hcs,v,h1,h2,h3,h4⟩:=hel i hi
   obtain⟨hl,hg⟩:=cells?_get hcs
   have key:∀ j,j < e.cells→c[a.off+i*e.cells+j]?=cs[j]?:=by
    intro j hj
    have:=hg j hj
    rw[Qpa a hs,Qpa _ rfl,qrz hb] at this
    exact this
   have hsz:a.off+i*e.cells+e.cells≤c.size:=by
    have:=key (e.cells - 1) (by omega)
    rw[List.getElem?_eq_getElem (by omega)] at this
    have:=(Array.getElem?_eq_some_iff.1 this).1
    omega
   have e1:(c.toList.drop (a.off+i*e.cells)).take e.cells=cs:=by
    apply List.ext_getElem?
    intro j
    by_cases hj:j < e.cells
    ·rw[List.getElem?_take_of_lt hj,List.getElem?_drop,←key j hj];simp
    ·rw[List.getElem?_eq_none (by simp;omega),List.getElem?_eq_none (by omega)]
   exact⟨v,h1,h4,hsz,by rw[e1];exact h3,by rw[e1];exact h2⟩
  have all:∀ n,n≤len→∃ xs:List PV,xs.length=n∧(∀ x∈xs,HasV e x)∧(∀ x∈xs,x.cells.length=e.cells)∧a.off+n*e.cells≤c.size∧One ((c.toList.drop a.off).take (n*e.cells))∧qbn w I lp none (cellsL xs) ((c.toList.drop a.off).take (n*e.cells)):=by
   intro n
   induction n with
   | zero =>
    intro _
    refine⟨[],rfl,by simp,by simp,?_,by simp[One],by simp;exact .nil⟩
    obtain⟨_,_,_,h,_⟩:=each 0 (by omega)
    omega
   | succ n ih =>
    intro hn
    obtain⟨xs,h1,h2,h3,h4,h5,h6⟩:=ih (by omega)
    obtain⟨v,g1,g2,g3,g4,g5⟩:=each n (by omega)
    have e2:(c.toList.drop a.off).take ((n+1)*e.cells)=(c.toList.drop a.off).take (n*e.cells)++(c.toList.drop (a.off+n*e.cells)).take e.cells:=by
     rw[Nat.add_mul,Nat.one_mul,List.take_add,List.drop_drop]
    refine⟨xs++[v],by simp[h1],?_,?_,by rw[Nat.add_mul];omega,?_,?_⟩
    ·intro x hx
     rcases List.mem_append.1 hx with hx | hx
     ·exact h2 x hx
     ·simp at hx;subst hx;exact g1
    ·intro x hx
     rcases List.mem_append.1 hx with hx | hx
     ·exact h3 x hx
     ·simp at hx;subst hx;exact g2
    ·rw[e2];exact h5.append' g4
    ·rw[e2,qfe]
     refine h6.append ?_
     simpa[cellsL] using g5
  obtain⟨xs,h1,h2,h3,h4,h5,h6⟩:=all len (Nat.le_refl _)
  have ea:a=⟨a.block,a.off,none⟩:=by cases a;simp_all
  refine⟨.sl e.cells xs false,.inr ⟨xs,rfl,by omega,h2⟩,?_,by simp[One,Value.oneCell'],rfl⟩
  rw[ea,←h1]
  exact .cons _ _ _ _ (.sl e.cells xs false a.block a.off cap c E fr (hI _ hblt) hb (by rw[h1];exact h4) h3 (by omega) (fun h=>by cases h) (by rw[h1];exact h5) (by rw[h1];exact h6)) .nil
theorem struct_rep {n:Nat} (ih:∀ (m:Nat) (D:DTy) (t:TypeId) (cs:List Value) (x:DataW H×List MemPlace),isD P m D t=true→DataW.trod enc P w 0 (fun _=>true) held n t cs=some x→RepD w I lp D cs) :
  ∀ (m:Nat) (ds:List DTy) (fs:List Field) (off:Nat) (cs:List Value) (xs:List (DataW H×List MemPlace)),isFs P m off ds fs=true→xs.length=fs.length→cs.length=off+DTy.cellsL ds →
  (∀ (i:Nat) (f:Field),fs[i]?=some f→DataW.trod enc P w 0 (fun _=>true) held n f.type ((cs.drop f.offset).take (P.cellsOf f.type))=xs[i]?) →
  ∃ vs:List PV,HasVs ds vs∧qbn w I lp none (cellsL vs) (cs.drop off)∧One (cs.drop off)∧(cellsL vs).length=DTy.cellsL ds:=by
 intro m
 induction m with
 | zero=>intro ds fs off cs xs h;cases h
 | succ m ihm =>
  intro ds fs off cs xs h hl hc hf
  match ds,fs,h with
  | [],[],_ =>
   refine⟨[],rfl,?_,?_,rfl⟩
   ·rw[List.drop_of_length_le (by simp[DTy.cellsL] at hc;omega)];exact .nil
   ·rw[List.drop_of_length_le (by simp[DTy.cellsL] at hc;omega)];simp[One]
  | D :: ds,f :: fs,h =>
   simp only[isFs,Bool.and_eq_true,beq_iff_eq] at h
   obtain⟨⟨⟨h1,h2⟩,h3⟩,h4⟩:=h
   match xs,hl with
   | x :: xs,hl =>
    have hx:=hf 0 f rfl
    rw[h1,h2] at hx
    obtain⟨v,g1,g2,g3,g4⟩:=ih m D f.type _ x h3 hx
    simp only[DTy.cellsL] at hc
    obtain⟨vs,k1,k2,k3,k4⟩:=ihm ds fs (off+D.cells) cs xs h4 (by simpa using hl) (by omega) (fun i f hi=>by simpa using hf (i+1) f (by simpa using hi))
    have e1:cs.drop off=(cs.drop off).take D.cells++cs.drop (off+D.cells):=by rw[←List.drop_drop,List.take_append_drop]
    refine⟨v :: vs,⟨v,vs,rfl,g1,k1⟩,?_,?_,by simp[cellsL,DTy.cellsL,g4,k4]⟩
    ·rw[e1];exact g2.append k2
    ·rw[e1];exact g3.append' k3
theorem Qh7 (hI:∀ b,b < w.heap.size→I b):∀ (fuel m:Nat) (D:DTy) (t:TypeId) (cs:List Value) (x:DataW H×List MemPlace),isD P m D t=true→DataW.trod enc P w 0 (fun _=>true) held fuel t cs=some x→RepD w I lp D cs:=by
 intro fuel
 induction fuel with
 | zero=>intro m D t cs x _ h;simp[DataW.trod] at h
 | succ fuel ih =>
  intro m D t cs x hD h
  cases m with
  | zero=>cases hD
  | succ m =>
   cases hu:P.underlying t with
   | none=>cases D<;>simp[isD,hu] at hD
   | some d =>
    cases D with
    | bool =>
     cases d<;>simp[isD,hu] at hD
     obtain⟨b,rfl,_⟩:=DataW.trod_bool hu h
     exact⟨.bool b,⟨b,rfl⟩,.cons _ _ _ _ (.bool b) .nil,by simp[One,Value.oneCell'],rfl⟩
    | int k =>
     cases d<;>simp[isD,hu] at hD
     subst hD
     obtain⟨n,rfl,_,hw⟩:=DataW.trod_int hu h
     exact⟨.int _ n,⟨n,rfl,hw⟩,.cons _ _ _ _ (.int _ n) .nil,by simp[One,Value.oneCell'],rfl⟩
    | str =>
     cases d<;>simp[isD,hu] at hD
     obtain⟨s,rfl,_,hw⟩:=DataW.trod_string hu h
     obtain⟨l,rfl⟩:∃ l:List UInt8,s=⟨l.toArray⟩:=⟨s.data.toList,by cases s;simp⟩
     exact⟨.str l,⟨l,rfl,by simpa[ByteArray.size] using hw⟩,.cons _ _ _ _ (.str l) .nil,by simp[One,Value.oneCell'],rfl⟩
    | slice e =>
     cases d<;>simp[isD,hu] at hD
     rename_i et
     obtain⟨⟨h1,h2⟩,h3⟩:=hD
     rcases DataW.trod_slice hu h with ⟨rfl,_⟩ | ⟨a,len,cap,qk8,rest,n,hn,rfl,_,_,hl,hm,hlen,hel,_⟩
     ·exact⟨.nilS,.inl rfl,.cons _ _ _ _ .nilS .nil,by simp[One,Value.oneCell'],rfl⟩
     ·cases hn
      refine list_rep hI hl hm h3 fun i hi=>?_
      have:=hel i hi
      rw[List.getElem?_eq_getElem (by omega),Option.bind_eq_some_iff,h2] at this
      obtain⟨cs,hcs,hx⟩:=this
      exact⟨cs,hcs,ih m e et cs _ h1 hx⟩
    | struct ds =>
     cases d<;>simp[isD,hu] at hD
     rename_i fields
     obtain⟨h1,h2⟩:=hD
     obtain⟨xs,n,hn,_,hl,hlen,hf⟩:=DataW.trod_struct hu h
     cases hn
     obtain⟨vs,k1,k2,k3,k4⟩:=struct_rep ih m ds fields.toList 0 cs xs h2 (by simpa using hlen) (by rw[hl,h1];omega) (fun i f hi=>hf i f (by simpa using hi))
     rw[List.drop_zero] at k2 k3
     exact⟨.agg (cellsL vs),⟨vs,rfl,k1⟩,k2,k3,by simpa[PV.cells,DTy.cells] using k4⟩
variable {w':World} {sp':Nat→Bool}
theorem cell?_keep (hk:∀ b,b < w.heap.size→w'.heap[b]?=w.heap[b]?) {a:Addr} {v:Value} (h:w.cell? a=some v):a.block < w.heap.size∧w'.cell? a=some v:=by
 obtain⟨c,E,fr,hb,hs,hv⟩:=cell?_row h
 have hlt:a.block < w.heap.size:=(Array.getElem?_eq_some_iff.1 hb).1
 refine⟨hlt,?_⟩
 unfold World.cell?
 rw[hk _ hlt,hb]
 simp[hs,hv]
theorem qjy {α β:Type} {f g:α→Option β}:∀ (l:List α) {ys:List β},l.mapM f=some ys→(∀ x∈l,∀ y,f x=some y→g x=some y)→l.mapM g=some ys
 | [],ys,h,_=>by simpa using h
 | x :: l,ys,h,hg=>by
  rw[List.mapM_cons] at h ⊢
  simp only[Option.bind_eq_bind,Option.bind_eq_some_iff,Option.pure_def,Option.some.injEq] at h ⊢
  obtain⟨y,h1,ys',h2,rfl⟩:=h
  exact⟨y,hg x (by simp) y h1,ys',qjy l h2 (fun z hz=>hg z (by simp[hz])),rfl⟩
theorem cells?_keep (hk:∀ b,b < w.heap.size→w'.heap[b]?=w.heap[b]?) {a:Addr} {n:Nat} {l:List Value} (h:w.cells? 0 a n=some l):w'.cells? 0 a n=some l∧(0 < n→a.block < w.heap.size):=by
 refine⟨?_,fun hn=>?_⟩
 ·unfold World.cells? at h ⊢
  rw[if_pos (Nat.zero_le _)] at h ⊢
  exact qjy _ h fun i _ v hv=>(cell?_keep hk hv).2
 ·obtain⟨h1,h2⟩:=cells?_get h
  have:=h2 0 hn
  rw[List.getElem?_eq_getElem (by omega)] at this
  have:=(cell?_keep hk this).1
  rwa [block_add] at this
theorem Qj5 {n:Nat} (ih:∀ (m:Nat) (D:DTy) (t:TypeId) (cs:List Value) (x:DataW H×List MemPlace),isD P m D t=true→DataW.trod enc P w 0 (fun _=>true) held n t cs=some x→DataW.trod enc P w' 0 sp' held n t cs=some x) :
  ∀ (m:Nat) (ds:List DTy) (fs:List Field) (off:Nat),isFs P m off ds fs=true→∀ f∈fs,∀ cs x,DataW.trod enc P w 0 (fun _=>true) held n f.type cs=some x→DataW.trod enc P w' 0 sp' held n f.type cs=some x:=by
 intro m
 induction m with
 | zero=>intro ds fs off h;cases h
 | succ m ihm =>
  intro ds fs off h f hf cs x hx
  match ds,fs,h with
  | [],[],_=>cases hf
  | D :: ds,g :: fs,h =>
   simp only[isFs,Bool.and_eq_true,beq_iff_eq] at h
   rcases List.mem_cons.1 hf with rfl | hf
   ·exact ih m D _ cs x h.1.2 hx
   ·exact ihm ds fs _ h.2 f hf cs x hx
theorem trod_keep (hk:∀ b,b < w.heap.size→w'.heap[b]?=w.heap[b]?) (hsp:∀ b,b < w.heap.size→sp' b=true):∀ (fuel m:Nat) (D:DTy) (t:TypeId) (cs:List Value) (x:DataW H×List MemPlace),isD P m D t=true →
  DataW.trod enc P w 0 (fun _=>true) held fuel t cs=some x→DataW.trod enc P w' 0 sp' held fuel t cs=some x:=by
 intro fuel
 induction fuel with
 | zero=>intro m D t cs x _ h;simp[DataW.trod] at h
 | succ fuel ih =>
  intro m D t cs x hD h
  cases m with
  | zero=>cases hD
  | succ m =>
   cases hu:P.underlying t with
   | none=>cases D<;>simp[isD,hu] at hD
   | some d =>
    cases D with
    | bool =>
     cases d<;>simp[isD,hu] at hD
     obtain⟨b,rfl,rfl⟩:=DataW.trod_bool hu h
     simp[DataW.trod,hu]
    | int k =>
     cases d<;>simp[isD,hu] at hD
     subst hD
     obtain⟨n,rfl,rfl,hw⟩:=DataW.trod_int hu h
     simp[DataW.trod,hu,hw]
    | str =>
     cases d<;>simp[isD,hu] at hD
     obtain⟨s,rfl,rfl,hw⟩:=DataW.trod_string hu h
     simp[DataW.trod,hu,hw]
    | slice e =>
     cases d<;>simp[isD,hu] at hD
     rename_i et
     obtain⟨⟨h1,h2⟩,h3⟩:=hD
     rcases DataW.trod_slice hu h with ⟨rfl,rfl⟩ | ⟨a,len,cap,qk8,rest,n,hn,rfl,_,_,hl,hm,hlen,_,_⟩
     ·simp[DataW.trod,hu]
     ·unfold DataW.trod at h ⊢
      simp only[hu] at h ⊢
      rw[if_pos ⟨Nat.zero_le _,hl,hm⟩] at h ⊢
      have el:∀ i y,(w.cells? 0 (a.add (i*P.cellsOf et)) (P.cellsOf et)).bind (DataW.trod enc P w 0 (fun _=>true) held fuel et)=some y→(w'.cells? 0 (a.add (i*P.cellsOf et)) (P.cellsOf et)).bind (DataW.trod enc P w' 0 sp' held fuel et)=some y∧a.block < w.heap.size:=by
       intro i y hy
       obtain⟨cs,hcs,hx⟩:=Option.bind_eq_some_iff.1 hy
       obtain⟨k1,k2⟩:=cells?_keep hk hcs
       refine⟨Option.bind_eq_some_iff.2 ⟨cs,k1,ih m e et cs y h1 hx⟩,?_⟩
       have:=k2 (by omega)
       rwa [block_add] at this
      obtain⟨es,he,h⟩:=Option.bind_eq_some_iff.1 h
      refine Option.bind_eq_some_iff.2 ⟨es,qjy _ he fun i _ y hy=>(el i y hy).1,?_⟩
      obtain⟨rs,hr,rfl⟩:=Option.map_eq_some_iff.1 h
      refine Option.map_eq_some_iff.2 ⟨rs,?_,rfl⟩
      simp only[if_true] at hr
      cases hc:cap - len with
      | zero =>
       rw[hc] at hr
       simp at hr
       subst hr
       split<;>simp
      | succ q =>
       have hlt:a.block < w.heap.size:=by
        rw[hc,List.range_succ_eq_map,List.mapM_cons] at hr
        simp only[Option.bind_eq_bind,Option.bind_eq_some_iff] at hr
        obtain⟨y,hy,_⟩:=hr
        exact (el _ y (Option.bind_eq_some_iff.2 hy)).2
       rw[if_pos (hsp _ hlt),←hc]
       exact qjy _ hr fun i _ y hy=>(el _ y hy).1
    | struct ds =>
     cases d<;>simp[isD,hu] at hD
     rename_i fields
     obtain⟨h1,h2⟩:=hD
     have key:=Qj5 ih m ds fields.toList 0 h2
     unfold DataW.trod at h ⊢
     simp only[hu] at h ⊢
     split at h
     ·rename_i hlc
      rw[if_pos hlc]
      obtain⟨xs,hx,rfl⟩:=Option.map_eq_some_iff.1 h
      exact Option.map_eq_some_iff.2 ⟨xs,qjy _ hx fun f hf y hy=>key f hf _ y hy,rfl⟩
     ·cases h
def isDs (P:Program) (m:Nat):List DTy→List TypeId→Bool
 | [],[]=>true
 | D :: Ds,t :: ts=>isD P m D t&&isDs P m Ds ts
 | _,_=>false
theorem val_rep (hI:∀ b,b < w.heap.size→I b) {m:Nat} {D:DTy} {t:TypeId} {v:Value} {d:DataW H} {ps:List MemPlace} {base:Nat} (hD:isD P m D t=true) (hv:Value.okWide P w .any base t v) (h:DataW.Trod enc P w 0 (fun _=>true) held t v d ps) :
  ∃ u:PV,HasV D u∧qbr w I lp none u v:=by
 obtain⟨fuel,h⟩:=h
 obtain⟨u,h1,h2,h3,h4⟩:=Qh7 (lp:=lp) hI fuel m D t _ _ hD h
 cases m with
 | zero=>cases hD
 | succ m =>
  cases hu:P.underlying t with
  | none=>cases D<;>simp[isD,hu] at hD
  | some dd =>
   have one:(∀ x,v.cells.toList=[x]→v=x)→(∀ x:PV,u.cells=[x]→u=x)→(∃ x,u.cells=[x])→∃ u:PV,HasV D u∧qbr w I lp none u v:=by
    intro ho hp ⟨x,hx⟩
    have hux:=hp x hx
    rw[hx] at h2
    obtain⟨y,hy,hr⟩:=repL1' h2
    rw[ho y hy]
    exact⟨u,h1,by rw[hux];exact hr⟩
   have sc:(∀ vs,v≠.agg vs)→∀ x,v.cells.toList=[x]→v=x:=by
    intro hn x hx
    cases v<;>first | (simp[Value.cells] at hx;exact hx) | exact absurd rfl (hn _)
   cases D with
   | struct ds =>
    cases dd<;>simp[isD,hu] at hD
    obtain⟨cs,rfl,_⟩:=okWide_struct hu hv
    obtain⟨vs,rfl,hvs⟩:=h1
    exact⟨_,⟨vs,rfl,hvs⟩,.agg _ _ h3 h2⟩
   | bool =>
    cases dd<;>simp[isD,hu] at hD
    obtain⟨b,rfl⟩:=h1
    exact one (sc fun vs e=>by subst e;simp[Value.okWide,hu,Cell.okWide,Cell.ok] at hv) (fun x hx=>by simpa[PV.cells] using hx) ⟨_,rfl⟩
   | int k =>
    cases dd<;>simp[isD,hu] at hD
    obtain⟨b,rfl,_⟩:=h1
    exact one (sc fun vs e=>by subst e;simp[Value.okWide,hu,Cell.okWide,Cell.ok] at hv) (fun x hx=>by simpa[PV.cells] using hx) ⟨_,rfl⟩
   | str =>
    cases dd<;>simp[isD,hu] at hD
    obtain⟨b,rfl,_⟩:=h1
    exact one (sc fun vs e=>by subst e;simp[Value.okWide,hu,Cell.okWide,Cell.ok] at hv) (fun x hx=>by simpa[PV.cells] using hx) ⟨_,rfl⟩
   | slice e =>
    cases dd<;>simp[isD,hu] at hD
    have hs:=sc fun vs e=>by subst e;simp[Value.okWide,hu,Cell.okWide,Cell.ok] at hv
    rcases h1 with rfl | ⟨xs,rfl,_,_⟩
    ·exact one hs (fun x hx=>by simpa[PV.cells] using hx) ⟨_,rfl⟩
    ·exact one hs (fun x hx=>by simpa[PV.cells] using hx) ⟨_,rfl⟩
theorem Qn8 (hI:∀ b,b < w.heap.size→I b) {m base:Nat}:∀ (Ds:List DTy) (ts:List TypeId) (vs:List Value) (ds:List (DataW H)) (p:List MemPlace),isDs P m Ds ts=true →
  (∀ (j:Nat) t v,ts[j]?=some t→vs[j]?=some v→Value.okWide P w .any base t v)→DataW.TrodAll enc P w 0 (fun _=>true) held ts vs ds p→∃ us:List PV,HasVs Ds us∧qbn w I lp none us vs
 | [],[],vs,ds,p,_,_,h=>by
  obtain⟨rfl,rfl,rfl⟩:=trodAll_nil h
  exact⟨[],rfl,.nil⟩
 | D :: Ds,t :: ts,vs,ds,p,hD,hv,h=>by
  obtain⟨v,vs,d,ds,p,q,rfl,rfl,rfl,h1,h2⟩:=trodAll_cons h
  simp only[isDs,Bool.and_eq_true] at hD
  obtain⟨u,a,b⟩:=val_rep (lp:=lp) hI hD.1 (hv 0 t v rfl rfl) h1
  obtain⟨us,a',b'⟩:=Qn8 hI Ds ts vs ds q hD.2 (fun j t v ht hj=>hv (j+1) t v (by simpa using ht) (by simpa using hj)) h2
  exact⟨u :: us,⟨u,us,rfl,a,a'⟩,.cons _ _ _ _ b b'⟩
 | [],_ :: _,_,_,_,hD,_,_=>by cases hD
 | _ :: _,[],_,_,_,hD,_,_=>by cases hD
theorem Qhi (hk:∀ b,b < w.heap.size→w'.heap[b]?=w.heap[b]?) (hsp:∀ b,b < w.heap.size→sp' b=true) {m:Nat}:∀ (Ds:List DTy) (ts:List TypeId) (vs:List Value) (ds:List (DataW H)) (p:List MemPlace),isDs P m Ds ts=true →
  DataW.TrodAll enc P w 0 (fun _=>true) held ts vs ds p→DataW.TrodAll enc P w' 0 sp' held ts vs ds p
 | [],[],vs,ds,p,_,h=>by
  obtain⟨rfl,rfl,rfl⟩:=trodAll_nil h
  exact rfl
 | D :: Ds,t :: ts,vs,ds,p,hD,h=>by
  obtain⟨v,vs,d,ds,p,q,rfl,rfl,rfl,⟨fuel,h1⟩,h2⟩:=trodAll_cons h
  simp only[isDs,Bool.and_eq_true] at hD
  exact⟨p,q,⟨fuel,trod_keep hk hsp fuel m D t _ _ hD.1 h1⟩,Qhi hk hsp Ds ts vs ds q hD.2 h2,rfl⟩
 | [],_ :: _,_,_,_,hD,_=>by cases hD
 | _ :: _,[],_,_,_,hD,_=>by cases hD
end
end Go.Ab


namespace Go.Ab.DocNone
open Go Go.Ab Go.Proofs
theorem sp_loc:Qdn sp0:=fun g=>sp_here g
theorem tab_ok:Qhl cx0 qcl (deadH Qge Tryz.prog):=by
 intro f fn h
 unfold qcl at h
 split at h
 ·cases h;exact qbc (by kernel_rfl)
 ·cases h;exact qbc (by kernel_rfl)
 ·cases h;exact qbc (by kernel_rfl)
 ·cases h;exact qbc (by kernel_rfl)
 ·cases h;exact qbc (by kernel_rfl)
 ·cases h;exact qbc (by kernel_rfl)
 ·cases h;exact qbc (by kernel_rfl)
 ·cases h;exact qbc (by kernel_rfl)
 ·cases h;exact qbc (by kernel_rfl)
 ·cases h;exact qbc (by kernel_rfl)
 ·cases h;exact qbc (by kernel_rfl)
 ·cases h;exact qbc (by kernel_rfl)
 ·cases h;exact qbc (by kernel_rfl)
 ·cases h;exact qbc (by kernel_rfl)
 ·cases h;exact qbc (by kernel_rfl)
 ·cases h;exact qbc (by kernel_rfl)
 ·cases h;exact qbc (by kernel_rfl)
 ·cases h;exact qbc (by kernel_rfl)
 ·cases h;exact qbc (by kernel_rfl)
 ·cases h;exact qbc (by kernel_rfl)
 ·cases h;exact qbc (by kernel_rfl)
 ·cases h;exact qbc (by kernel_rfl)
 ·cases h;exact qbc (by kernel_rfl)
 ·cases h;exact qbc (by kernel_rfl)
 ·cases h;exact qbc (by kernel_rfl)
 ·cases h;exact qbc (by kernel_rfl)
 ·cases h;exact qbc (by kernel_rfl)
 ·cases h;exact qbc (by kernel_rfl)
 ·cases h;exact qbc (by kernel_rfl)
 ·cases h;exact qbc (by kernel_rfl)
 ·cases h;exact qbc (by kernel_rfl)
 ·cases h;exact qbc (by kernel_rfl)
 ·cases h;exact qbc (by kernel_rfl)
 ·cases h;exact qbc (by kernel_rfl)
 ·cases h;exact qbc (by kernel_rfl)
 ·cases h;exact qbc (by kernel_rfl)
 ·cases h;exact qbc (by kernel_rfl)
 ·cases h;exact qbc (by kernel_rfl)
 ·cases h;exact qbc (by kernel_rfl)
 ·cases h;exact qbc (by kernel_rfl)
 ·cases h;exact qbc (by kernel_rfl)
 ·cases h;exact qbc (by kernel_rfl)
 ·cases h;exact qbc (by kernel_rfl)
 ·cases h;exact qbc (by kernel_rfl)
 ·cases h;exact qbc (by kernel_rfl)
 ·cases h;exact qbc (by kernel_rfl)
 ·cases h;exact qbc (by kernel_rfl)
 ·cases h;exact qbc (by kernel_rfl)
 ·cases h;exact qbc (by kernel_rfl)
 ·cases h;exact qbc (by kernel_rfl)
 ·cases h;exact qbc (by kernel_rfl)
 ·cases h;exact qbc (by kernel_rfl)
 ·cases h;exact qbc (by kernel_rfl)
 ·cases h;exact qbc (by kernel_rfl)
 ·cases h;exact qbc (by kernel_rfl)
 ·cases h;exact qbc (by kernel_rfl)
 ·cases h;exact qbc (by kernel_rfl)
 ·cases h;exact qbc (by kernel_rfl)
 ·cases h;exact qbc (by kernel_rfl)
 ·cases h;exact qbc (by kernel_rfl)
 ·cases h;exact qbc (by kernel_rfl)
 ·cases h;exact qbc (by kernel_rfl)
 ·cases h;exact qbc (by kernel_rfl)
 ·cases h;exact qbc (by kernel_rfl)
 ·cases h;exact qbc (by kernel_rfl)
 ·cases h;exact qbc (by kernel_rfl)
 ·cases h;exact qbc (by kernel_rfl)
 ·cases h;exact qbc (by kernel_rfl)
 ·cases h;exact qbc (by kernel_rfl)
 ·cases h;exact qbc (by kernel_rfl)
 ·cases h;exact qbc (by kernel_rfl)
 ·cases h;exact qbc (by kernel_rfl)
 ·cases h;exact qbc (by kernel_rfl)
 ·cases h;exact qbc (by kernel_rfl)
 ·cases h;exact qbc (by kernel_rfl)
 ·cases h;exact qbc (by kernel_rfl)
 ·cases h;exact qbc (by kernel_rfl)
 ·cases h;exact qbc (by kernel_rfl)
 ·cases h;exact qbc (by kernel_rfl)
 ·cases h;exact qbc (by kernel_rfl)
 ·cases h;exact qbc (by kernel_rfl)
 ·cases h;exact qbc (by kernel_rfl)
 ·cases h;exact qbc (by kernel_rfl)
 ·cases h;exact qbc (by kernel_rfl)
 ·cases h;exact qbc (by kernel_rfl)
 ·cases h;exact qbc (by kernel_rfl)
 ·cases h;exact qbc (by kernel_rfl)
 ·cases h;exact qbc (by kernel_rfl)
 ·cases h;exact qbc (by kernel_rfl)
 ·cases h;exact qbc (by kernel_rfl)
 ·cases h;exact qbc (by kernel_rfl)
 ·cases h;exact qbc (by kernel_rfl)
 ·cases h;exact qbc (by kernel_rfl)
 ·cases h;exact qbc (by kernel_rfl)
 ·cases h;exact qbc (by kernel_rfl)
 ·cases h;exact qbc (by kernel_rfl)
 ·cases h;exact qbc (by kernel_rfl)
 ·cases h;exact qbc (by kernel_rfl)
 ·cases h;exact qbc (by kernel_rfl)
 ·cases h;exact qbc (by kernel_rfl)
 ·cases h;exact qbc (by kernel_rfl)
 ·cases h;exact qbc (by kernel_rfl)
 ·cases h;exact qbc (by kernel_rfl)
 ·cases h;exact qbc (by kernel_rfl)
 ·cases h;exact qbc (by kernel_rfl)
 ·cases h;exact qbc (by kernel_rfl)
 ·cases h;exact qbc (by kernel_rfl)
 ·cases h;exact qbc (by kernel_rfl)
 ·cases h;exact qbc (by kernel_rfl)
 ·cases h;exact qbc (by kernel_rfl)
 ·cases h;exact qbc (by kernel_rfl)
 ·cases h;exact qbc (by kernel_rfl)
 ·cases h;exact qbc (by kernel_rfl)
 ·cases h;exact qbc (by kernel_rfl)
 ·cases h;exact qbc (by kernel_rfl)
 ·cases h;exact qbc (by kernel_rfl)
 ·cases h;exact qbc (by kernel_rfl)
 ·cases h;exact qbc (by kernel_rfl)
 ·cases h;exact qbc (by kernel_rfl)
 ·cases h;exact qbc (by kernel_rfl)
 ·cases h;exact qbc (by kernel_rfl)
 ·cases h;exact qbc (by kernel_rfl)
 ·cases h;exact qbc (by kernel_rfl)
 ·cases h;exact qbc (by kernel_rfl)
 ·cases h;exact qbc (by kernel_rfl)
 ·cases h;exact qbc (by kernel_rfl)
 ·cases h;exact qbc (by kernel_rfl)
 ·cases h;exact qbc (by kernel_rfl)
 ·cases h;exact qbc (by kernel_rfl)
 ·cases h;exact qbc (by kernel_rfl)
 ·cases h;exact qbc (by kernel_rfl)
 ·cases h;exact qbc (by kernel_rfl)
 ·cases h
theorem law_done {g:FuncId} {fn:RFn} (ht:qcl g=some fn) {args:List PV} (ha:qcy args=true) (hl:args.length≤fn.nt)
  (hr:runK (cfg0 B0 fun _=>.cl) fn .cl qba 0 (args.map KV.cv) ()=some (.bool true,())) {I:Nat→Prop} {w:World} {vs:List Value}
  (hI:∀ b,I b→b < w.heap.size) (hw:cx0.Wd I w) (hrep:qbn w I (fun _=>none) none args vs) :
  Calls cx0.P g vs.toArray w fun e w'=>e=.returned (.bool true)∧LawEnd w w':=by
 obtain⟨n,hn⟩:=law_of_run (qx0 fun _=>.cl) ht ha hl hr
 exact law_calls (fn_ok sp_ok sp_loc tab_ok n) hn hI hw hrep
def Told (fn:RFn) (Ds:List DTy):Prop:=∀ us,HasVs Ds us→qcy us=true∧us.length≤fn.nt∧runK (cfg0 B0 fun _=>.cl) fn .cl qba 0 (us.map KV.cv) ()=some (.bool true,())
end Go.Ab.DocNone


namespace Go.Ab.DocNone
open Go Go.Ab
theorem Qfl:qbz (.bin .eql .ptr true (.c .nilP) (.c .nilP))=some (.bool true):=rfl
theorem io5 (x y z:PV) (hx:okV x=true) (hy:okV y=true) (hz:okV z=true):ioO B0 sh5 5 [.nilP,x,y,z]=some [.agg [.int .i64 0,.int .i64 0,.int .i64 0],.int .i64 1]:=by
 refine qnl (qx0 fun _=>.cl) (fn:=fn5) rfl (P:=sh5) (Pf:=shs5) rfl (xs:=[]) (obs:=[]) rfl rfl (by simp[qcy,okV,hx,hy,hz]) ?_
 rw[run5]
 simp[nth,Qfl]
theorem io6:ioO B0 sh6 6 [.nilP]=some [.nilS]:=by
 refine qnl (qx0 fun _=>.cl) (fn:=fn6) rfl (P:=sh6) (Pf:=shs6) rfl (xs:=[]) (obs:=[]) rfl rfl rfl ?_
 rw[run6]
 simp[nth,Qfl]
theorem io7:ioO B0 sh7 7 [.nilP]=some [.nilS]:=by
 refine qnl (qx0 fun _=>.cl) (fn:=fn7) rfl (P:=sh7) (Pf:=shs7) rfl (xs:=[]) (obs:=[]) rfl rfl rfl ?_
 rw[run7]
 simp[nth,Qfl]
theorem io8:ioO B0 sh8 8 [.nilP]=some [.int .i64 0]:=by
 refine qnl (qx0 fun _=>.cl) (fn:=fn8) rfl (P:=sh8) (Pf:=shs8) rfl (xs:=[]) (obs:=[]) rfl rfl rfl ?_
 rw[run8]
 simp[nth,Qfl]
theorem io9:ioO B0 sh9 9 [.nilP]=some [.str []]:=by
 refine qnl (qx0 fun _=>.cl) (fn:=fn9) rfl (P:=sh9) (Pf:=shs9) rfl (xs:=[]) (obs:=[]) rfl rfl rfl ?_
 rw[run9]
 simp[nth,Qfl]
theorem min_str (s:List UInt8):∃ k:Nat,k≤s.length∧qbz (.minmax false [.c (.int .i64 (s.length:Int)),.c (.int .i64 200)])=some (.int .i64 (k:Int)):=by
 refine⟨min s.length 200,Nat.min_le_left _ _,?_⟩
 simp only[qbz,exec,List.map_cons,List.map_nil,RX.ev,qz0]
 by_cases h:s.length≤200
 ·have:¬ (200:Int) < (s.length:Int):=by omega
  simp[this,Nat.min_eq_left h,chk]
 ·have:(200:Int) < (s.length:Int):=by omega
  simp[this,Nat.min_eq_right (by omega:200≤s.length),chk]
theorem none_eq:qbz (.bin .eql (.plain [0,0,0]) false (.c (.agg [qt8 (.agg [.int .i64 0,.int .i64 0,.int .i64 0]) 0,qt8 (.agg [.int .i64 0,.int .i64 0,.int .i64 0]) 1,qt8 (.agg [.int .i64 0,.int .i64 0,.int .i64 0]) 2])) (.c (.agg [.int .i64 0,.int .i64 0,.int .i64 0])))=some (.bool true):=rfl
theorem cells_ok:qmf (.agg [.int .i64 0,.int .i64 0,.int .i64 0]) 3=true:=rfl
theorem law_none (shown:qke B0 .cl (.fn 4 []) []=some (.bool true)) (x y:PV) (s:List UInt8) (hx:okV x=true) (hy:okV y=true) :
  runK (cfg0 B0 (fun _=>.cl)) fn3 (.cl) qba 0 [.cv x,.cv y,.cv (.str s)] ()=some (.bool true,()):=by
 obtain⟨k,hk,hm⟩:=min_str s
 have e5:=io5 x y (.str (s.take k)) hx hy rfl
 have e6:=io6
 have e7:=io7
 have e8:=io8
 have e9:=io9
 unfold sh5 at e5
 unfold sh6 at e6
 unfold sh7 at e7
 unfold sh8 at e8
 unfold sh9 at e9
 rw[run3,shown]
 simp[hm,pure_ssl2 hk,e5,e6,e7,e8,e9,nth,none_eq,cells_ok]
end Go.Ab.DocNone


namespace Go.Ab
def Qcf (memo:FuncId→List PV→Option PV) (c:qva):qva:=fun E h dep g args e =>
 match dep,memo g args with
 | 0,some r=>some (r,[],e)
 | _,_=>c E h dep g args e
section memo
variable {memo:FuncId→List PV→Option PV} {sp:FuncId→(Nm→Option Ob)→List PV→Option Out} {tab:FuncId→Option RFn}
 (hm:∀ g args r,memo g args=some r→∃ n,qbi sp tab n Unit qba 0 g args ()=some (r,[],()))
include hm
end memo
mutual
def sameV:PV→PV→Bool
 | .bool a,.bool b=>a==b
 | .int k n,.int k' n'=>decide (k=k')&&decide (n=n')
 | .str s,.str s'=>decide (s=s')
 | .nilS,.nilS=>true
 | .nilI,.nilI=>true
 | .nilM,.nilM=>true
 | .nilP,.nilP=>true
 | .ref nm o,.ref nm' o'=>decide (nm=nm')&&decide (o=o')
 | .ptr cs o,.ptr cs' o'=>decide (o=o')&&Qby cs cs'
 | .agg cs,.agg cs'=>Qby cs cs'
 | .sl k xs f,.sl k' xs' f'=>decide (k=k')&&(f==f')&&Qby xs xs'
 | _,_=>false
def Qby:List PV→List PV→Bool
 | [],[]=>true
 | x :: xs,y :: ys=>sameV x y&&Qby xs ys
 | _,_=>false
end
mutual
theorem sameV_eq:∀ (x y:PV),sameV x y=true→x=y
 | x,y,h=>by
  unfold sameV at h
  split at h
  ·simpa using h
  ·simp only[Bool.and_eq_true,decide_eq_true_eq] at h;rw[h.1,h.2]
  ·simp only[decide_eq_true_eq] at h;rw[h]
  ·rfl
  ·rfl
  ·rfl
  ·rfl
  ·simp only[Bool.and_eq_true,decide_eq_true_eq] at h;rw[h.1,h.2]
  ·rename_i cs o cs' o'
   simp only[Bool.and_eq_true,decide_eq_true_eq] at h
   rw[h.1,qmb cs cs' h.2]
  ·rename_i cs cs';rw[qmb cs cs' h]
  ·rename_i k xs f k' xs' f'
   simp only[Bool.and_eq_true,decide_eq_true_eq,beq_iff_eq] at h
   rw[h.1.1,h.1.2,qmb xs xs' h.2]
  ·cases h
theorem qmb:∀ (xs ys:List PV),Qby xs ys=true→xs=ys
 | xs,ys,h=>by
  unfold Qby at h
  split at h
  ·rfl
  ·rename_i x xs y ys
   simp only[Bool.and_eq_true] at h
   rw[sameV_eq x y h.1,qmb xs ys h.2]
  ·cases h
end
abbrev qt9:=List (FuncId×List PV×PV)
def qze:qt9→FuncId→List PV→Option PV
 | [],_,_=>none
 | p :: l,g,args=>if p.1=g∧Qby p.2.1 args=true then some p.2.2 else qze l g args
def ql3 (sp:FuncId→(Nm→Option Ob)→List PV→Option Out) (tab:FuncId→Option RFn) (l:qt9):Prop :=
 ∀ p∈l,∃ n,qbi sp tab n Unit qba 0 p.1 p.2.1 ()=some (p.2.2,[],())
theorem qd6 {sp:FuncId→(Nm→Option Ob)→List PV→Option Out} {tab:FuncId→Option RFn}:ql3 sp tab []:=fun _ h=>by cases h
theorem qbb {sp:FuncId→(Nm→Option Ob)→List PV→Option Out} {tab:FuncId→Option RFn} {g:FuncId} {args:List PV} {r:PV} {l:qt9}
  (h:∃ n,qbi sp tab n Unit qba 0 g args ()=some (r,[],())) (hl:ql3 sp tab l):ql3 sp tab ((g,args,r) :: l):=fun p hp=>by
 rcases List.mem_cons.1 hp with rfl | hp
 ·exact h
 ·exact hl p hp
theorem qsl {sp:FuncId→(Nm→Option Ob)→List PV→Option Out} {tab:FuncId→Option RFn}:∀ {l:qt9},ql3 sp tab l→∀ g args r,qze l g args=some r→∃ n,qbi sp tab n Unit qba 0 g args ()=some (r,[],())
 | [],_,_,_,_,h=>by cases h
 | p :: l,hl,g,args,r,h=>by
  unfold qze at h
  split at h
  ·rename_i hp
   cases h
   have:=hl p List.mem_cons_self
   rwa [hp.1,qmb _ _ hp.2] at this
  ·exact qsl (fun q hq=>hl q (List.mem_cons_of_mem _ hq)) g args r h
end Go.Ab


namespace Go.Ab
noncomputable section
section qg2
variable {R:Type}
def fN (n:Nat) (K:Nat→R):R:=match n with
 | 0=>K 0
 | m+1=>K (Nat.succ m)
def fI (n:Int) (K:Int→R):R:=match n with
 | .ofNat m=>fN m fun m=>K (.ofNat m)
 | .negSucc m=>fN m fun m=>K (.negSucc m)
def fB (b:Bool) (K:Bool→R):R:=match b with
 | true=>K true
 | false=>K false
def fKd (k:IntKind) (K:IntKind→R):R:=match k with
 | .i8=>K .i8 | .i16=>K .i16 | .i32=>K .i32 | .i64=>K .i64
 | .u8=>K .u8 | .u16=>K .u16 | .u32=>K .u32 | .u64=>K .u64
def fS:List UInt8→(List UInt8→R)→R
 | [],K=>K []
 | x :: xs,K=>fS xs fun xs=>K (x :: xs)
def fP {α β:Type} (p:α×β) (K:α×β→R):R:=match p with
 |(a,b)=>K (a,b)
def fSp {α:Type}:List α→(List α→R)→R
 | [],K=>K []
 | x :: xs,K=>fSp xs fun xs=>K (x :: xs)
mutual
def fV (d:Bool):PV→(PV→R)→R
 | .undef,K=>K .undef
 | .bool b,K=>fB b fun b=>K (.bool b)
 | .int k n,K=>fKd k fun k=>fI n fun n=>K (.int k n)
 | .str s,K=>fS s fun s=>K (.str s)
 | .nilS,K=>K .nilS | .nilP,K=>K .nilP | .nilF,K=>K .nilF | .nilI,K=>K .nilI | .nilM,K=>K .nilM
 | .sl k xs f,K=>match d with
  | true=>fVL true xs fun xs=>K (.sl k xs f)
  | false=>fSp xs fun xs=>K (.sl k xs f)
 | .ptr cs o,K=>match d with
  | true=>fVL true cs fun cs=>K (.ptr cs o)
  | false=>fSp cs fun cs=>K (.ptr cs o)
 | .agg cs,K=>fVL d cs fun cs=>K (.agg cs)
 | .iface t x,K=>fV d x fun x=>K (.iface t x)
 | .fn f cap,K=>fVL d cap fun cap=>K (.fn f cap)
 | .yld l,K=>K (.yld l)
 | .tup xs,K=>fVL d xs fun xs=>K (.tup xs)
 | .imap es,K=>match d with
  | true=>fVL true es fun es=>K (.imap es)
  | false=>fSp es fun es=>K (.imap es)
 | .glob g t,K=>K (.glob g t)
 | .ref nm o,K=>fP nm fun nm=>fN o fun o=>K (.ref nm o)
 | .aref nm k i o,K=>fP nm fun nm=>fN i fun i=>fN o fun o=>K (.aref nm k i o)
 | .arr nm k o n,K=>fP nm fun nm=>fN o fun o=>fN n fun n=>K (.arr nm k o n)
 | .mp nm,K=>fP nm fun nm=>K (.mp nm)
 | .it nm,K=>fP nm fun nm=>K (.it nm)
def fVL (d:Bool):List PV→(List PV→R)→R
 | [],K=>K []
 | x :: xs,K=>fV d x fun x=>fVL d xs fun xs=>K (x :: xs)
end
def fH:PV→(PV→R)→R
 | .undef,K=>K .undef
 | .bool b,K=>K (.bool b) | .int k n,K=>K (.int k n) | .str s,K=>K (.str s)
 | .nilS,K=>K .nilS | .nilP,K=>K .nilP | .nilF,K=>K .nilF | .nilI,K=>K .nilI | .nilM,K=>K .nilM
 | .sl k xs f,K=>K (.sl k xs f)
 | .ptr cs o,K=>K (.ptr cs o)
 | .agg cs,K=>fVL false cs fun cs=>K (.agg cs)
 | .iface t x,K=>fV false x fun x=>K (.iface t x)
 | .fn f cap,K=>fVL false cap fun cap=>K (.fn f cap)
 | .yld l,K=>K (.yld l)
 | .tup xs,K=>fVL false xs fun xs=>K (.tup xs)
 | .imap es,K=>K (.imap es)
 | .glob g t,K=>K (.glob g t)
 | .ref nm o,K=>fP nm fun nm=>K (.ref nm o)
 | .aref nm k i o,K=>fP nm fun nm=>K (.aref nm k i o)
 | .arr nm k o n,K=>fP nm fun nm=>K (.arr nm k o n)
 | .mp nm,K=>fP nm fun nm=>K (.mp nm)
 | .it nm,K=>fP nm fun nm=>K (.it nm)
def fHL (l:List PV):(List PV→R)→R:=List.rec (motive:=fun _=>(List PV→R)→R) (fun K=>K []) (fun x _ ih K=>fH x fun x=>ih fun xs=>K (x :: xs)) l
def fOb (d:Bool):Ob→(Ob→R)→R
 | .cells ty cs,K=>fVL d cs fun cs=>K (.cells ty cs)
 | .arr k ty xs,K=>match d with
  | true=>fVL true xs fun xs=>K (.arr k ty xs)
  | false=>fSp xs fun xs=>K (.arr k ty xs)
 | .map es,K=>fSp es fun es=>K (.map es)
 | .siter s p,K=>fN p fun p=>K (.siter s p)
def fObs (d:Bool):List Ob→(List Ob→R)→R
 | [],K=>K []
 | x :: xs,K=>fOb d x fun x=>fObs d xs fun xs=>K (x :: xs)
def fObH:Ob→(Ob→R)→R
 | .cells ty cs,K=>fVL false cs fun cs=>K (.cells ty cs)
 | .arr k ty xs,K=>K (.arr k ty xs)
 | .map es,K=>K (.map es)
 | .siter s p,K=>K (.siter s p)
def fObHs:List Ob→(List Ob→R)→R
 | [],K=>K []
 | x :: xs,K=>fObH x fun x=>fObHs xs fun xs=>K (x :: xs)
def fOL:List (List Ob)→(List (List Ob)→R)→R
 | [],K=>K []
 | x :: xs,K=>fObHs x fun x=>fOL xs fun xs=>K (x :: xs)
def fSt (st:St) (K:St→R):R:=match st with
 | ⟨tmps,objs,keep⟩=>fHL tmps fun tmps=>fOL objs fun objs=>fHL keep fun keep=>K ⟨tmps,objs,keep⟩
def fTm (st:St) (K:St→R):R:=match st with
 | ⟨tmps,objs,keep⟩=>fHL tmps fun tmps=>K ⟨tmps,objs,keep⟩
def fUpd (u:Option (Nm×Ob)) (K:Option (Nm×Ob)→R):R:=match u with
 | none=>K none
 | some (nm,o)=>fP nm fun nm=>fOb false o fun o=>K (some (nm,o))
def Qmk:ROp→Bool
 | .call _ _=>true
 | .toBytes _=>true
 | _=>false
def fOut (d:Bool) (o:Out) (K:Out→R):R:=match o with
 | ⟨v,new,upd,kill,frz,gone,ups,io,slot⟩=>fV d v fun v=>fObs d new fun new=>fUpd upd fun upd=>K ⟨v,new,upd,kill,frz,gone,ups,io,slot⟩
end qg2
def getR {α:Type} (l:List α):Nat→Option α:=List.rec (motive:=fun _=>Nat→Option α) (fun _=>none) (fun x _ ih n=>Nat.rec (motive:=fun _=>Option α) (some x) (fun m _=>ih m) n) l
def nthR (l:List PV):Nat→PV:=List.rec (motive:=fun _=>Nat→PV) (fun _=>.undef) (fun x _ ih n=>Nat.rec (motive:=fun _=>PV) x (fun m _=>ih m) n) l
def setR (l:List PV):Nat→PV→List PV:=List.rec (motive:=fun _=>Nat→PV→List PV) (fun _ _=>[]) (fun x xs ih n v=>Nat.rec (motive:=fun _=>List PV) (v :: xs) (fun m _=>x :: ih m v) n) l
def Qjo (σ:List (List Ob)) (nm:Nm):Option Ob:=match getR σ nm.1 with
 | some l=>getR l nm.2
 | none=>none
def RX.evR (tm:List PV):RX→RX
 | .t i=>.c (nthR tm i)
 | .c v=>.c v
def RX.evF (tm:List PV):RX→PV
 | .t i=>nthR tm i
 | .c v=>v
def qkf (m i:Nat):Bool:=Nat.beq (Nat.land (Nat.shiftRight m i) 1) 1
def qmg:List Nat→Nat
 | []=>0
 | d :: ds=>Nat.lor (Nat.shiftLeft 1 d) (qmg ds)
def Qf7 (m:Nat) (b:Bool):Nat→List PV→List PV
 | _,[]=>[]
 | i,v :: vs=>(match qkf m i with
  | true=>bif b then v else .undef
  | false=>bif b then .undef else v) :: Qf7 m b (Nat.succ i) vs
def qvu:Nat→List PV→List Nat
 | _,[]=>[]
 | i,v :: vs=>match v with
  | .undef=>i :: qvu (Nat.succ i) vs
  | _=>qvu (Nat.succ i) vs
def qfr (R:List Nm):Nat→List (List Ob)→List Nat
 | _,[]=>[]
 | i,l :: ls=>match l with
  | []=>qfr R (Nat.succ i) ls
  | _ :: _=>match R.all fun nm=>nm.1 != i with
   | true=>i :: qfr R (Nat.succ i) ls
   | false=>qfr R (Nat.succ i) ls
def Qbn (ds:List Nat) (st:St):St:={st with tmps:=Qf7 (qmg ds) false 0 st.tmps}
def qwy (ks:List Nat) (st:St):St:={st with tmps:=Qf7 (qmg ks) true 0 st.tmps}
def Qbm (st:St):List Nat:=qfr (qbd st.tmps++qbd st.keep++st.objs.flatMap fun l=>l.flatMap Ob.names) 0 st.objs
def undefsQ (st:St):List Nat:=qvu 0 st.tmps
def Qda (m:Nat):Nat→List (List Ob)→List (List Ob)
 | _,[]=>[]
 | i,l :: ls=>(match qkf m i with
  | true=>[]
  | false=>l) :: Qda m (Nat.succ i) ls
def Qn9 (objs:List (List Ob)):List Nat→Bool
 | []=>true
 | d :: ds=>match getR objs d with
  | some (_ :: _)=>false
  | _=>Qn9 objs ds
def Qmr (ds:List Nat) (st:St):St :=
 let st:=qhf (fun m=>match qkf (qmg ds) m.1 with | true=>some none | false=>none) st
 {st with objs:=Qda (qmg ds) 0 st.objs}
def Qmq (ds:List Nat) (st:St):St:=match Qn9 st.objs ds with
 | true=>st
 | false=>Qmr ds st
def Qmp (st:St):St:=match Qbm st with
 | []=>st
 | d :: ds=>Qmr (d :: ds) st
def dropQ (ds:List Nat) (st:St):St:=Qmp (Qbn ds st)
def qw6 (m:Nat):Nat→List PV→Bool
 | _,[]=>true
 | i,v :: vs=>match v with
  | .arr nm _ _ _=>(match qkf m i with
   | true=>(match nm with
    |(a,b)=>(match Nat.beq a i with
     | true=>(match b with
      | 0=>qw6 m (Nat.succ i) vs
      | _+1=>false)
     | false=>false))
   | false=>qw6 m (Nat.succ i) vs)
  | _=>qw6 m (Nat.succ i) vs
def qqv {R:Type}:List Nat→St→(St→R)→R
 | [],st,K=>K st
 | t :: asg,st,K=>match nthR st.tmps t with
  | .arr nm k o n=>fSt (qjc t st) fun st=>qqv asg st K
  | _=>qqv asg st K
def norm0K {R:Type} (asg:List Nat) (grow:List (Nat×Nat)) (st:St) (K:St→R):R:=match qw6 (qmg asg) 0 st.tmps with
 | true=>K (grow.foldl (fun st (t,k)=>qst t k st) st)
 | false=>qqv asg st fun st=>K (grow.foldl (fun st (t,k)=>qst t k st) st)
def normQ (asg:List Nat) (grow:List (Nat×Nat)) (st:St):St:=norm0K asg grow st fun st=>fSt st fun st=>dropQ (undefsQ st) st
def tidyQ (live:Option (List Nat)) (st:St):St :=
 match live with
 | none=>st
 | some ks=>Qmp (qwy ks st)
def stillO (o:Out):Bool:=qbp o&&o.new.isEmpty
def qx4 (st:St) (dst:Option Nat) (o:Out):St:=match stillO o with
 | true=>(match dst with
  | some d=>{st with tmps:=setR st.tmps d o.v}
  | none=>st)
 | false=>apply st dst o
def freshQ (o:qbo) (st:St):Bool :=
 if qlj o.op then
  match o.dst with
  | some d=>match getR st.objs d with
   | some []=>true
   | _=>false
  | none=>match o.op with
   | .call _ _=>true
   | _=>false
 else true
def outQ (M:qdb) {E:Type} (h:qbg E) (dep:Nat) (o:qbo) (st:St) (e:E):Option (Out×E) :=
 chk (freshQ o st) (match o.op with
  | .call f args=>match qb1 M h dep (o.dst.getD 0) (Qjo st.objs) [] (f.evR st.tmps) (args.map (RX.evR st.tmps)) e with
   | some (out,e)=>chk (qmj o.dst out) (some (out,e))
   | none=>none
  | op=>match exec (o.dst.getD 0) (Qjo st.objs) [] (op.mapX (RX.evR st.tmps)) with
   | some out=>some (out,e)
   | none=>none)
def Qkv (ops:List qbo) (o:qbo) (tm:List PV):Option Bool :=
 match o.guard with
 | none=>some true
 | some (j,want) =>
  match getR ops j with
  | some p=>match p.dst with
   | some d=>match nthR tm d with
    | .bool b=>some (b==want)
    | .tup []=>some false
    | _=>none
   | none=>none
  | none=>none
def stepQ (M:qdb) {E:Type} (h:qbg E) (dep:Nat) (ops:List qbo) (o:qbo) (st:St) (e:E):Option (St×E) :=
 match Qkv ops o st.tmps with
 | some true=>match outQ M h dep o st e with
  | some (out,e)=>fOut (Qmk o.op) out fun out=>some (qx4 st o.dst out,e)
  | none=>none
 | some false=>some (qx4 st o.dst {v:=.tup []},e)
 | none=>none
def runQ (M:qdb) {E:Type} (h:qbg E) (dep:Nat) (ops:List qbo):List qbo→St→E→Option (St×E)
 | [],st,e=>some (st,e)
 | o :: rest,st,e=>match stepQ M h dep ops o st e with
  | some (st,e)=>runQ M h dep ops rest st e
  | none=>none
def rnQ (o:qbo) (st:St) (out:Out):List Nm :=
 if qr0 o.op&&qbp out then [] else qbs (Qjo st.objs) (qgy o.op (qbp out)) (qbd (o.op.xs.map (RX.evF st.tmps))++out.frz)
def yldQ (op:ROp) (tm:List PV):Bool :=
 match op with
 | .call f args=>match f.evF tm with
  | .yld _=>(qbd (args.map (RX.evF tm))).isEmpty
  | _=>false
 | _=>false
def infoQ (ops:List qbo) (i:Nat) (o:qbo) (st:St) (out:Out):qlb :=
 let vs:=o.op.xs.map (RX.evF st.tmps)
 {i,dst:=o.dst,reads:=qk1 o.op.xs++qby ops o,rn:=rnQ o st out,rv:=if qgn o.op then [] else qyl (Qjo st.objs) (rnQ o st out),
  cls:=if qg1 o.op&&qcu vs then (if yldQ o.op st.tmps then .calls else .other) else if qbp out then .quiet else if qcp out then .turns else if qyh out then .ios else .other,
  on:=out.v.names++out.new.flatMap Ob.names,tch:=qdl out++(out.frz++out.kill.toList),frz:=!(out.frz++out.kill.toList).isEmpty,
  vn:=(qk1 o.op.xs++qby ops o).flatMap fun s=>(nthR st.tmps s).names
  nw:=out.new.isEmpty&&!qlj o.op,ld:=ldOf o.op st.tmps out.v,bef:=out.ups.map fun p=>(p.1,Qjo st.objs p.1),aft:=out.ups}
def outDQ (M:qdb) {E:Type} (h:qbg E) (dep:Nat) (ops:List qbo) (i:Nat) (o:qbo) (st:St) (e:E):Option (St×E×qlb) :=
 match Qkv ops o st.tmps with
 | some true=>match outQ M h dep o st e with
  | some (out,e)=>fOut (Qmk o.op) out fun out=>some (qx4 st o.dst out,e,infoQ ops i o st out)
  | none=>none
 | some false=>some (qx4 st o.dst {v:=.tup []},e,{i,cls:=.quiet,dst:=o.dst,reads:=qby ops o,rn:=[],vn:=(qby ops o).flatMap fun s=>(nthR st.tmps s).names,nw:=!qlj o.op})
 | none=>none
def runDQ (M:qdb) {E:Type} (h:qbg E) (dep:Nat) (ops:List qbo):List (Nat×Nat)→List qlb→St→E→Option (St×E)
 | [],_,st,e=>some (st,e)
 |(i,bef) :: rest,infos,st,e=>match getR ops i with
  | some o=>match outDQ M h dep ops i o st e with
   | some (st,e,info)=>chk (infos.all fun j=>bef.testBit j.i||qw5 j info) (runDQ M h dep ops rest (info :: infos) st e)
   | none=>none
  | none=>none
def qkn (M:qdb) (fuel:Nat):qcm→{E:Type}→qbg E→Nat→St→E→Option (Ex×St×E)
 | .skip,_,_,_,st,e=>some (.normal,st,e)
 | .region ops none qd5,_,h,dep,st,e=>match runQ M h dep ops ops (Qmq (qmp ops) st) e with
  | some (st,e)=>fTm (tidyQ qd5 st) fun st=>some (.normal,st,e)
  | none=>none
 | .region ops (some bef) qd5,_,h,dep,st,e=>match runDQ M h dep ops bef [] (Qmq (qmp ops) st) e with
  | some (st,e)=>fTm (tidyQ qd5 st) fun st=>some (.normal,st,e)
  | none=>none
 | .seq a b,_,h,dep,st,e=>match qkn M fuel a h dep st e with
  | some (.normal,st,e)=>qkn M fuel b h dep st e
  | r=>r
 | .cond c a b,_,h,dep,st,e=>match c.ev st.tmps with
  | .bool true=>qkn M fuel a h dep st e
  | .bool false=>qkn M fuel b h dep st e
  | _=>none
 | .block id body,_,h,dep,st,e=>match qkn M fuel body h dep st e with
  | some (.exit id',st,e)=>if id'=id then some (.normal,st,e) else some (.exit id',st,e)
  | r=>r
 | .loop asg grow body,E,h,dep,st,e=>fSt (normQ asg grow st) fun st =>
  match qdo (fun (s:St×E)=>match qkn M fuel body h dep s.1 s.2 with
   | some (.normal,st1,e)=>fSt (dropQ (undefs st) st1) fun st1=>fSt (normQ asg grow st1) fun st=>some (.inl (st,e))
   | some (x,st,e)=>some (.inr (x,st,e))
   | none=>none) fuel (st,e) with
  | some (x,st,e)=>some (x,st,e)
  | none=>none
 | .scope body,_,h,dep,st,e=>match qkn M fuel body h dep st e with
  | some (.exit id,st,e)=>if id < qf6 then some (.exit id,st,e) else none
  | r=>r
 | .norm grow,_,_,_,st,e=>fSt (normQ [] grow (trim st)) fun st=>some (.normal,st,e)
 | .rangeFunc f ps assign body,E,h,dep,st,e =>
  let rnd:qbg E→Nat→qbg (Rec E):=fun h dep l args r =>
   if l=dep then
    match r with
    |(s,none,e) =>
     if args.length=ps.length then
      fSt {s with tmps:=qsc ps args s.tmps,keep:=s.tmps++s.keep} fun s1=>match qkn M fuel assign h (dep+1) s1 e with
      | some (.normal,s',e)=>match qkn M fuel body h (dep+1) s' e with
       | some (x,s',e)=>fSt {s' with tmps:=s'.keep.take s.tmps.length,keep:=s'.keep.drop s.tmps.length} fun s2=>some (x==.normal,(s2,(if x=.normal then none else some x),e))
       | none=>none
      | _=>none
     else none
    | _=>none
   else
    match r with
    |(s,p,e)=>match h l args e with
     | some (b,e)=>some (b,(s,p,e))
     | none=>none
  if Qct M (f.ev st.tmps) then qmc M rnd h dep (f.ev st.tmps) st e
  else match qnn st (f.ev st.tmps) with
  | some (.fn g cap,st) =>
   match M.call (Rec E) (rnd h dep) (dep+1) (qd2 g) (qb3 g [.yld dep] cap) (st,none,e) with
   | some (_,_,s,p,e)=>some (p.getD .normal,s,e)
   | none=>none
  | _=>none
 | .exit id,_,_,_,st,e=>some (.exit id,st,e)
 | .ret,_,_,_,st,e=>some (.ret,st,e)
 | .dreg _ _ _ _,_,_,_,_,_=>none
 | .bad,_,_,_,_,_=>none
def fObD {R:Type}:Ob→(Ob→R)→R
 | .cells ty cs,K=>fVL false cs fun cs=>K (.cells ty cs)
 | .arr k ty xs,K=>fVL false xs fun xs=>K (.arr k ty xs)
 | .map es,K=>fSp es fun es=>K (.map es)
 | .siter s p,K=>K (.siter s p)
def fObDs {R:Type}:List Ob→(List Ob→R)→R
 | [],K=>K []
 | x :: xs,K=>fObD x fun x=>fObDs xs fun xs=>K (x :: xs)
def rioOfQ (M:qdb) (n:Nat) (tab:FuncId→Option RFn):(E:Type)→qbg E→Nat→FuncId→List Ob→List PV→E→Option (St×E):=fun _ h dep g ins vs e =>
 match tab g with
 | none=>none
 | some fn=>chk (fn.res.isEmpty&&(decide (vs.length≤fn.nt)&&decide (ins.length≤fn.nt)&&decide (0 < fn.nt))) (
  fSt (Qdp fn.gone fn.nt ins vs) fun st0=>match qkn M n fn.code h dep st0 e with
  | some (.exit _,_,_)=>none
  | some (.normal,st,e)=>some (st,e)
  | some (.ret,st,e)=>some (st,e)
  | none=>none)
section qcr
variable {R:Type}
theorem Qc5 (n:Nat) (K:Nat→R):fN n K=K n:=by cases n<;>rfl
theorem fI_eq (n:Int) (K:Int→R):fI n K=K n:=by cases n<;>simp only[fI,Qc5]
theorem fB_eq (b:Bool) (K:Bool→R):fB b K=K b:=by cases b<;>rfl
theorem fKd_eq (k:IntKind) (K:IntKind→R):fKd k K=K k:=by cases k<;>rfl
theorem fS_eq:∀ (s:List UInt8) (K:List UInt8→R),fS s K=K s
 | [],_=>rfl
 | x :: xs,K=>by simp only[fS];rw[fS_eq xs]
theorem Qj6 {α β:Type} (p:α×β) (K:α×β→R):fP p K=K p:=rfl
theorem qrl {α:Type}:∀ (s:List α) (K:List α→R),fSp s K=K s
 | [],_=>rfl
 | x :: xs,K=>by simp only[fSp];rw[qrl xs]
mutual
theorem fV_eq (d:Bool):∀ (v:PV) (K:PV→R),fV d v K=K v
 | .undef,K | .nilS,K | .nilP,K | .nilF,K | .nilI,K | .nilM,K | .yld _,K | .glob _ _,K=>by simp only[fV]
 | .bool b,K=>by simp only[fV,fB_eq]
 | .int k n,K=>by simp only[fV,fKd_eq,fI_eq]
 | .str s,K=>by simp only[fV,fS_eq]
 | .sl k xs f,K=>by cases d<;>simp only[fV,qrl];rw[qly true xs]
 | .ptr cs o,K=>by cases d<;>simp only[fV,qrl];rw[qly true cs]
 | .imap es,K=>by cases d<;>simp only[fV,qrl];rw[qly true es]
 | .agg cs,K=>by simp only[fV];rw[qly d cs]
 | .iface t x,K=>by simp only[fV];rw[fV_eq d x]
 | .fn f cap,K=>by simp only[fV];rw[qly d cap]
 | .tup xs,K=>by simp only[fV];rw[qly d xs]
 | .ref nm o,K=>by simp only[fV,Qj6,Qc5]
 | .aref nm k i o,K=>by simp only[fV,Qj6,Qc5]
 | .arr nm k o n,K=>by simp only[fV,Qj6,Qc5]
 | .mp nm,K=>by simp only[fV,Qj6]
 | .it nm,K=>by simp only[fV,Qj6]
theorem qly (d:Bool):∀ (xs:List PV) (K:List PV→R),fVL d xs K=K xs
 | [],K=>by simp only[fVL]
 | x :: xs,K=>by simp only[fVL];rw[fV_eq d x,qly d xs]
end
theorem fH_eq (v:PV) (K:PV→R):fH v K=K v:=by cases v<;>simp only[fH,qly,fV_eq,Qj6]
theorem fHL_eq:∀ (xs:List PV) (K:List PV→R),fHL xs K=K xs
 | [],_=>rfl
 | x :: xs,K=>by
  show fH x (fun x=>fHL xs fun xs=>K (x :: xs))=_
  rw[fH_eq,fHL_eq xs]
theorem fOb_eq (d:Bool) (o:Ob) (K:Ob→R):fOb d o K=K o:=by cases o<;>cases d<;>simp only[fOb,qly,qrl,Qc5]
theorem Qj7 (d:Bool):∀ (xs:List Ob) (K:List Ob→R),fObs d xs K=K xs
 | [],_=>rfl
 | x :: xs,K=>by simp only[fObs];rw[fOb_eq,Qj7 d xs]
theorem fObH_eq (o:Ob) (K:Ob→R):fObH o K=K o:=by cases o<;>simp only[fObH,qly]
theorem Qc4:∀ (xs:List Ob) (K:List Ob→R),fObHs xs K=K xs
 | [],_=>rfl
 | x :: xs,K=>by simp only[fObHs];rw[fObH_eq,Qc4 xs]
theorem fOL_eq:∀ (xs:List (List Ob)) (K:List (List Ob)→R),fOL xs K=K xs
 | [],_=>rfl
 | x :: xs,K=>by simp only[fOL];rw[Qc4,fOL_eq xs]
theorem qtz (st:St) (K:St→R):fSt st K=K st:=by cases st;simp only[fSt,fHL_eq,fOL_eq]
theorem Qmd (st:St) (K:St→R):fTm st K=K st:=by cases st;simp only[fTm,fHL_eq]
theorem fUpd_eq (u:Option (Nm×Ob)) (K:Option (Nm×Ob)→R):fUpd u K=K u:=by
 cases u with
 | none=>rfl
 | some p=>simp only[fUpd,Qj6,fOb_eq]
theorem Qc3 (d:Bool) (o:Out) (K:Out→R):fOut d o K=K o:=by cases o;simp only[fOut,fV_eq,Qj7,fUpd_eq]
end qcr
theorem qj3 {α:Type}:∀ (l:List α) (n:Nat),getR l n=l[n]?
 | [],_=>by simp[getR]
 | x :: xs,0=>rfl
 | x :: xs,n+1=>by rw[List.getElem?_cons_succ,←qj3 xs n];rfl
theorem qp7:∀ (l:List PV) (n:Nat),nthR l n=l.getD n .undef
 | [],_=>by simp[nthR]
 | x :: xs,0=>rfl
 | x :: xs,n+1=>by rw[List.getD_cons_succ,←qp7 xs n];rfl
theorem Qh2:∀ (l:List PV) (n:Nat) (v:PV),setR l n v=l.set n v
 | [],_,_=>by simp[setR]
 | x :: xs,0,_=>rfl
 | x :: xs,n+1,v=>by rw[List.set_cons_succ,←Qh2 xs n];rfl
theorem evR_eq (tm:List PV):RX.evR tm=fun x=>.c (x.ev tm):=by
 funext x
 cases x with
 | t i=>simp only[RX.evR,RX.ev,qp7]
 | c v=>rfl
theorem Qlk (σ:List (List Ob)):Qjo σ=qbf σ:=by
 funext nm
 unfold Qjo qbf
 rw[qj3]
 cases σ[nm.1]? with
 | none=>rfl
 | some l=>exact qj3 l nm.2
theorem evF_eq (tm:List PV):RX.evF tm=RX.ev tm:=by
 funext x
 cases x with
 | t i=>exact qp7 tm i
 | c v=>rfl
theorem qkz (m i:Nat):qkf m i=m.testBit i:=by
 unfold qkf
 rw[Nat.testBit_eq_decide_div_mod_eq]
 show ((m >>> i) &&& 1).beq 1=_
 rw[Nat.and_one_is_mod,Nat.shiftRight_eq_div_pow]
 by_cases h:m / 2 ^ i%2=1
 ·rw[h];rfl
 ·cases hb:(m / 2 ^ i%2).beq 1 with
  | false=>simp[h]
  | true=>exact absurd (Nat.eq_of_beq_eq_true hb) h
theorem qne (i:Nat):∀ ds:List Nat,qkf (qmg ds) i=ds.contains i
 | []=>by rw[qkz];simp[qmg]
 | d :: ds=>by
  have ih:=qne i ds
  rw[qkz] at ih ⊢
  show (1 <<< d ||| qmg ds).testBit i=_
  rw[Nat.testBit_or,ih,Nat.one_shiftLeft,Nat.testBit_two_pow,List.contains_cons]
  congr 1
  by_cases h:i=d
  ·simp[h]
  ·have h2:¬d=i:=fun e=>h e.symm
   simp[h,h2]
theorem qwz (ds:List Nat) (b:Bool):∀ (l:List PV) (i:Nat),Qf7 (qmg ds) b i l=(l.zipIdx i).map fun (v,j)=>if ds.contains j=b then v else .undef
 | [],_=>rfl
 | v :: vs,i=>by
  simp only[Qf7,List.zipIdx_cons,List.map_cons,qwz ds b vs,qne]
  congr 1
  cases ds.contains i<;>cases b<;>simp
theorem Qhu (ds:List Nat) (st:St):Qbn ds st=qhe ds st:=by
 unfold Qbn qhe
 rw[qwz]
 congr 2
 funext p
 cases ds.contains p.2<;>simp
theorem Qf6 (ds:List Nat) (st:St):qwy ds st=qf2 ds st:=by
 unfold qwy qf2
 rw[qwz]
theorem qyo:∀ (l:List PV) (i:Nat),qvu i l=((l.zipIdx i).filter fun (v,_)=>qcw v).map (·.2)
 | [],_=>rfl
 | v :: vs,i=>by
  simp only[qvu,List.zipIdx_cons,List.filter_cons,qyo vs]
  cases v<;>simp[qcw]
theorem undefsQ_eq (st:St):undefsQ st=undefs st:=qyo _ _
theorem qtf (R:List Nm):∀ (objs:List (List Ob)) (i:Nat) (f:Nat→List Ob),(∀ j,j < objs.length→f (i+j)=objs.getD j []) →
  (List.range' i objs.length).filter (fun d=>!(f d).isEmpty&&R.all fun nm=>nm.1 != d)=qfr R i objs
 | [],_,_,_=>rfl
 | l :: ls,i,f,hf=>by
  have ih:=qtf R ls (i+1) f fun j hj=>by
   have:=hf (j+1) (by simpa using hj)
   rw[show i+1+j=i+(j+1) by omega,this]
   rfl
  have h0:f i=l:=hf 0 (by simp)
  simp only[List.length_cons,List.range'_succ,List.filter_cons,h0,qfr]
  rw[ih]
  cases l with
  | nil=>simp
  | cons a l=>cases (R.all fun nm=>nm.1 != i)<;>simp
theorem qvs (st:St):Qbm st=qh9 st:=by
 unfold Qbm qh9
 rw[←qtf _ st.objs 0 (fun d=>st.objs.getD d []) (fun j _=>by rw[Nat.zero_add]),List.range_eq_range']
theorem qz9 (ds:List Nat):∀ (l:List (List Ob)) (i:Nat),Qda (qmg ds) i l=(l.zipIdx i).map fun (v,j)=>if ds.contains j then [] else v
 | [],_=>rfl
 | v :: vs,i=>by
  simp only[Qda,List.zipIdx_cons,List.map_cons,qz9 ds vs,qne]
  congr 1
  cases ds.contains i<;>simp
theorem Qhk (objs:List (List Ob)):∀ ds:List Nat,Qn9 objs ds=ds.all fun d=>(objs.getD d []).isEmpty
 | []=>rfl
 | d :: ds=>by
  simp only[Qn9,List.all_cons,Qhk objs ds,qj3,List.getD_eq_getElem?_getD]
  cases objs[d]? with
  | none=>simp
  | some l=>cases l<;>simp
theorem Qg6 (ds:List Nat) (st:St) (h:(ds.all fun d=>(st.objs.getD d []).isEmpty)=false):Qmr ds st=qgf ds st:=by
 unfold qgf
 rw[if_neg (by rw[h];decide)]
 unfold Qmr
 rw[show (fun m:Nm=>match qkf (qmg ds) m.1 with | true=>some (none:Option Ob) | false=>none)=fun m=>if ds.contains m.1 then some none else none by
  funext m
  rw[qne]
  cases ds.contains m.1<;>rfl]
 simp only[qz9]
theorem qrw (ds:List Nat) (st:St):Qmq ds st=qgf ds st:=by
 unfold Qmq
 rw[Qhk]
 split
 ·rename_i h;unfold qgf;rw[if_pos h]
 ·rename_i h;exact Qg6 ds st h
theorem qte (R:List Nm):∀ (objs:List (List Ob)) (i d:Nat),d∈qfr R i objs→i≤d∧∃ a l,objs[d - i]?=some (a :: l)
 | [],_,_,h=>by simp[qfr] at h
 | l :: ls,i,d,h=>by
  have ih:=qte R ls (i+1) d
  have step:d∈qfr R (i+1) ls→i≤d∧∃ a l',(l :: ls)[d - i]?=some (a :: l'):=fun h=>by
   obtain⟨h1,a,l',h2⟩:=ih h
   refine⟨by omega,a,l',?_⟩
   rw[show d - i=d - (i+1)+1 by omega,List.getElem?_cons_succ]
   exact h2
  simp only[qfr] at h
  split at h
  ·exact step h
  ·split at h
   ·rcases List.mem_cons.1 h with rfl | h
    ·exact⟨Nat.le_refl _,_,_,by rw[Nat.sub_self];rfl⟩
    ·exact step h
   ·exact step h
theorem Qg5 (st:St):Qmp st=qgf (qh9 st) st:=by
 unfold Qmp
 split
 ·rename_i h;rw[←qvs,h];rfl
 ·rename_i d ds h
  rw[←qvs,h]
  refine Qg6 _ _ ?_
  obtain⟨_,a,l,h2⟩:=qte _ st.objs 0 d (by rw[show qfr _ 0 st.objs=d :: ds from h];exact List.mem_cons_self)
  rw[List.all_cons,List.getD_eq_getElem?_getD,show st.objs[d]?=some (a :: l) from h2]
  rfl
theorem qro (ds:List Nat) (st:St):dropQ ds st=drop ds st:=by unfold dropQ drop;rw[Qg5,Qhu]
theorem qzx (asg:List Nat):∀ (l:List PV) (i t:Nat),qw6 (qmg asg) i l=true→asg.contains (i+t)=true→∀ nm k o n,l.getD t .undef=.arr nm k o n→nm=(i+t,0)
 | [],_,_,_,_,_,_,_,_=>by simp
 | x :: xs,i,0,h,hc,nm,k,o,n=>by
  intro e
  simp only[List.getD_cons_zero] at e
  subst e
  simp only[qw6,qne] at h
  rw[show asg.contains i=true from hc] at h
  obtain⟨a,b⟩:=nm
  dsimp only at h
  cases hb:Nat.beq a i with
  | false=>rw[hb] at h;cases h
  | true =>
   rw[hb] at h
   cases b with
   | zero=>rw[Nat.eq_of_beq_eq_true hb];rfl
   | succ b=>cases h
 | x :: xs,i,t+1,h,hc,nm,k,o,n=>by
  rw[List.getD_cons_succ,show i+(t+1)=i+1+t by omega]
  rw[show i+(t+1)=i+1+t by omega] at hc
  refine qzx asg xs (i+1) t ?_ hc nm k o n
  simp only[qw6] at h
  repeat' split at h
  all_goals first | exact h | cases h
theorem qy4 (t:Nat) (st:St) (h:∀ nm k o n,st.tmps.getD t .undef=.arr nm k o n→nm=(t,0)):qjc t st=st:=by
 unfold qjc
 split
 ·rename_i nm k o n e
  rw[if_neg]
  exact fun hh=>hh.1 (h nm k o n e)
 ·rfl
theorem qsf (st:St):∀ (asg:List Nat),(∀ t∈asg,∀ nm k o n,st.tmps.getD t .undef=.arr nm k o n→nm=(t,0))→asg.foldl (fun st t=>qjc t st) st=st
 | [],_=>rfl
 | t :: asg,h=>by rw[List.foldl_cons,qy4 t st (h t List.mem_cons_self)];exact qsf st asg fun u hu=>h u (List.mem_cons_of_mem _ hu)
theorem qp2 {R:Type}:∀ (asg:List Nat) (st:St) (K:St→R),qqv asg st K=K (asg.foldl (fun st t=>qjc t st) st)
 | [],_,_=>rfl
 | t :: asg,st,K=>by
  rw[List.foldl_cons]
  simp only[qqv]
  split
  ·rw[qtz];exact qp2 asg _ K
  ·rename_i h
   rw[qy4 t st (fun nm k o n e=>absurd (by rw[qp7];exact e) (h nm k o n))]
   exact qp2 asg st K
theorem norm0K_eq {R:Type} (asg:List Nat) (grow:List (Nat×Nat)) (st:St) (K:St→R):norm0K asg grow st K=K (Qcc asg grow st):=by
 unfold norm0K Qcc
 split
 ·rename_i h;rw[qsf st asg fun t ht nm k o n e=>by have:=qzx asg st.tmps 0 t h (by simpa using ht) nm k o n e;simpa using this]
 ·rw[qp2]
theorem qvd (asg:List Nat) (grow:List (Nat×Nat)) (st:St):normQ asg grow st=norm asg grow st:=by unfold normQ norm;rw[norm0K_eq,qtz,qro,undefsQ_eq]
theorem qvb (live:Option (List Nat)) (st:St):tidyQ live st=Qhp live st:=by
 unfold tidyQ Qhp
 split
 ·rfl
 ·rw[Qg5,Qf6]
theorem evRs_eq (tm tm':List PV) (xs:List RX):(xs.map fun x=>RX.c (x.ev tm)).map (RX.ev tm')=xs.map (RX.ev tm):=by
 rw[List.map_map];rfl
theorem qz7 (d:Nat) (σ:Nm→Option Ob) (T:List PV) (op:ROp):exec d σ [] (op.mapX fun x=>.c (x.ev T))=exec d σ T op:=by
 cases op with
 | build z ps=>simp only[ROp.mapX,exec];rw[Qma T]
 | slice k x lo hi mx=>simp only[ROp.mapX,exec];rw[qk7,qk7,qk7];rfl
 | strSlice x lo hi=>simp only[ROp.mapX,exec];rw[qk7,qk7];rfl
 | minmax mx xs=>simp only[ROp.mapX,exec,List.map_map];rfl
 | mkSl k xs=>simp only[ROp.mapX,exec,List.map_map];rfl
 | mkF f xs=>simp only[ROp.mapX,exec,List.map_map];rfl
 | _=>rfl
theorem qr4 (st:St) (dst:Option Nat) (o:Out):qx4 st dst o=apply st dst o:=by
 unfold qx4
 split
 ·rename_i h
  obtain⟨v,new,upd,kill,frz,gone,ups,io,slot⟩:=o
  simp only[stillO,qbp,Bool.and_eq_true,Option.isNone_iff_eq_none,List.isEmpty_iff] at h
  obtain⟨⟨⟨⟨⟨⟨rfl,rfl⟩,rfl⟩,rfl⟩,rfl⟩,rfl⟩,rfl⟩:=h
  unfold apply
  cases dst<;>simp[Qh2]
 ·rfl
section eval_eq
variable (M:qdb) {E:Type} (h:qbg E) (dep:Nat) (ops:List qbo)
theorem qrm (dst:Nat) (σ:Nm→Option Ob) (tm:List PV) (f:RX) (args:List RX) (e:E):qb1 M h dep dst σ [] (.c (f.ev tm)) (args.map fun x=>.c (x.ev tm)) e=qb1 M h dep dst σ tm f args e:=by
 have hv:=evRs_eq tm [] args
 unfold qb1
 simp only[hv]
 rfl
theorem outQ_eq (o:qbo) (st:St) (e:E):outQ M h dep o st e=qfj M h dep o st e:=by
 unfold outQ qfj
 rw[show freshQ o st=qcz o st by unfold freshQ qcz;simp only[qj3]<;>rfl,Qlk,evR_eq]
 congr 1
 cases o.op with
 | call f args=>have hc:=qrm M h dep (o.dst.getD 0) (qbf st.objs) st.tmps f args e;simp only[hc]<;>rfl
 | _=>simp only[qz7]<;>rfl
theorem Qds (o:qbo) (tm:List PV):Qkv ops o tm=qfo ops o tm:=by
 unfold Qkv qfo
 simp only[qj3,qp7]<;>rfl
theorem stepQ_eq (o:qbo) (st:St) (e:E):stepQ M h dep ops o st e=stepG M h dep ops o st e:=by
 unfold stepQ stepG qpq
 rw[Qds]
 split<;>rename_i hw<;>simp only[hw,Qc3,outQ_eq,qr4]<;>rfl
theorem runQ_eq:∀ (l:List qbo) (st:St) (e:E),runQ M h dep ops l st e=qf4 M h dep ops l st e
 | [],_,_=>rfl
 | o :: l,st,e=>by
  simp only[runQ,qf4,stepQ_eq,runQ_eq l]<;>rfl
theorem infoQ_eq (i:Nat) (o:qbo) (st:St) (out:Out):infoQ ops i o st out=qfx ops i o st out:=by
 unfold infoQ qfx rnQ qv7 yldQ qq8
 simp only[evF_eq,Qlk,qp7]<;>rfl
theorem outDQ_eq (i:Nat) (o:qbo) (st:St) (e:E):outDQ M h dep ops i o st e=qyd M h dep ops i o st e:=by
 unfold outDQ qyd qhc
 rw[Qds,outQ_eq]
 cases qfo ops o st.tmps with
 | none=>rfl
 | some b =>
  cases b with
  | true =>
   cases qfj M h dep o st e with
   | none=>rfl
   | some p=>simp only[Qc3,qr4,infoQ_eq]
  | false=>simp only[qr4,qp7]
theorem Qk4:∀ (l:List (Nat×Nat)) (infos:List qlb) (st:St) (e:E),runDQ M h dep ops l infos st e=Qhq M h dep ops l infos st e
 | [],_,_,_=>rfl
 |(i,bef) :: l,infos,st,e=>by
  simp only[runDQ,Qhq,qj3,outDQ_eq,Qk4 l]<;>rfl
end eval_eq
theorem qg6 (M:qdb) (fuel:Nat):∀ (c:qcm) {E:Type} (h:qbg E) (dep:Nat) (st:St) (e:E),qkn M fuel c h dep st e=qbk M fuel c h dep st e
 | .skip,_,_,_,_,_ | .exit _,_,_,_,_,_ | .ret,_,_,_,_,_ | .bad,_,_,_,_,_ | .dreg _ _ _ _,_,_,_,_,_=>by simp only[qkn,qbk]<;>rfl
 | .rangeFunc f ps a b,_,h,dep,st,e=>by simp only[qkn,qbk,qtz,qg6 M fuel a,qg6 M fuel b]<;>rfl
 | .norm _,_,_,_,_,_=>by simp only[qkn,qbk,qtz,Qmd,qrw,qvb,qvd,qro]<;>rfl
 | .region ops none qd5,_,h,dep,st,e=>by simp only[qkn,qbk,qtz,Qmd,qrw,qvb,qvd,qro,runQ_eq]<;>rfl
 | .region ops (some bef) qd5,_,h,dep,st,e=>by simp only[qkn,qbk,qtz,Qmd,qrw,qvb,qvd,qro,Qk4]<;>rfl
 | .seq a b,_,h,dep,st,e=>by simp only[qkn,qbk,qg6 M fuel a,qg6 M fuel b]<;>rfl
 | .cond c a b,_,h,dep,st,e=>by simp only[qkn,qbk,qg6 M fuel a,qg6 M fuel b]<;>rfl
 | .block id b,_,h,dep,st,e=>by simp only[qkn,qbk,qg6 M fuel b]<;>rfl
 | .scope b,_,h,dep,st,e=>by simp only[qkn,qbk,qg6 M fuel b]<;>rfl
 | .loop asg grow b,_,h,dep,st,e=>by simp only[qkn,qbk,qtz,Qmd,qrw,qvb,qvd,qro,qg6 M fuel b]<;>rfl
theorem fObD_eq {R:Type} (o:Ob) (K:Ob→R):fObD o K=K o:=by cases o<;>simp only[fObD,qly,qrl]
theorem Qme {R:Type}:∀ (xs:List Ob) (K:List Ob→R),fObDs xs K=K xs
 | [],_=>rfl
 | x :: xs,K=>by simp only[fObDs];rw[fObD_eq,Qme xs]
theorem rioOfQ_eq (M:qdb) (n:Nat) (tab:FuncId→Option RFn):rioOfQ M n tab=Qb0 M n tab:=by
 funext E h dep g ins vs e
 unfold rioOfQ Qb0
 simp only[qtz,qg6]<;>rfl
end
end Go.Ab


namespace Go.Ab
noncomputable section
def qd3 {α:Type} (d:α) (l:List (Nat×α)):Nat→α:=List.rec (motive:=fun _=>Nat→α) (fun _=>d) (fun p _ ih i=>Bool.rec (motive:=fun _=>α) (ih i) p.2 (Nat.beq p.1 i)) l
theorem qnr {α:Type} (d:α) (i:Nat):qd3 d [] i=d:=rfl
theorem qcf {α:Type} (d:α) (p:Nat×α) (l:List (Nat×α)) (i:Nat):qd3 d (p :: l) i=if p.1=i then p.2 else qd3 d l i:=by
 show Bool.rec (motive:=fun _=>α) (qd3 d l i) p.2 (Nat.beq p.1 i)=_
 cases h:Nat.beq p.1 i with
 | true=>rw[if_pos (Nat.eq_of_beq_eq_true h)]
 | false=>rw[if_neg (Nat.ne_of_beq_eq_false h)]
theorem Qgo {α β:Type} (d:α) (f:α→β) (i:Nat):∀ l:List (Nat×α),qd3 (f d) (l.map fun p=>(p.1,f p.2)) i=f (qd3 d l i)
 | []=>rfl
 | p :: l=>by
  rw[List.map_cons,qcf,qcf,Qgo d f i l]
  split<;>rfl
theorem qty {α:Type} (d:α) (q:Nat→Bool) (i:Nat):∀ l:List (Nat×α),qd3 d (l.filter fun p=>q p.1) i=if q i=true then qd3 d l i else d
 | []=>by simp[qnr]
 | p :: l=>by
  rw[List.filter_cons,qcf]
  have ih:=qty d q i l
  by_cases h:p.1=i
  ·subst h
   cases hq:q p.1 with
   | true=>rw[if_pos rfl,qcf,if_pos rfl,if_pos rfl,if_pos rfl]
   | false=>rw[if_neg (by simp),ih,hq];simp
  ·rw[if_neg h]
   cases hq:q p.1 with
   | true=>rw[if_pos rfl,qcf,if_neg h,ih]
   | false=>rw[if_neg (by simp),ih]
def den {α:Type} (d:α) (n:Nat) (l:List (Nat×α)):List α:=(List.range n).map (qd3 d l)
theorem qms {α:Type} (d:α) (n:Nat) (l:List (Nat×α)):(den d n l).length=n:=by simp[den]
theorem qj8 {α:Type} (d:α) (n:Nat) (l:List (Nat×α)) (i:Nat):(den d n l)[i]?=if i < n then some (qd3 d l i) else none:=by
 unfold den
 rw[List.getElem?_map]
 by_cases h:i < n
 ·rw[List.getElem?_range h,if_pos h];rfl
 ·rw[List.getElem?_eq_none (by simpa using h),if_neg h];rfl
theorem qnv {α:Type} {d:α} {n:Nat} {l:List (Nat×α)} {xs:List α} (h:xs.length=n) (h2:∀ i,i < n→xs[i]?=some (qd3 d l i)):den d n l=xs:=by
 apply List.ext_getElem?
 intro i
 rw[qj8]
 by_cases hi:i < n
 ·rw[if_pos hi,h2 i hi]
 ·rw[if_neg hi,List.getElem?_eq_none (by omega)]
theorem Qkf {α:Type} (d:α) (n:Nat) (l:List (Nat×α)) (i:Nat) (v:α):den d n ((i,v) :: l)=(den d n l).set i v :=
 qnv (by rw[List.length_set,qms]) fun j hj=>by
  rw[List.getElem?_set,qcf,qms,qj8,if_pos hj]
  by_cases e:i=j
  ·subst e;simp[hj]
  ·simp[e]
theorem Qkg {α β:Type} (d:α) (n:Nat) (l:List (Nat×α)) (f:α→β):den (f d) n (l.map fun p=>(p.1,f p.2))=(den d n l).map f :=
 qnv (by rw[List.length_map,qms]) fun j hj=>by rw[List.getElem?_map,qj8,if_pos hj,Qgo];rfl
theorem qru {α:Type} (d:α) (n:Nat) (l:List (Nat×α)) (i:Nat):(den d n l).getD i d=if i < n then qd3 d l i else d:=by
 rw[List.getD_eq_getElem?_getD,qj8]
 split<;>rfl
def Qca {α:Type} (e:α→Bool):Nat→List α→List (Nat×α)
 | _,[]=>[]
 | i,x :: xs=>match e x with
  | true=>Qca e (Nat.succ i) xs
  | false=>(i,x) :: Qca e (Nat.succ i) xs
theorem qjx {α:Type} {e:α→Bool} {d:α} (he:∀ x,e x=true→x=d):∀ (l:List α) (i j:Nat),qd3 d (Qca e i l) j=if j < i then d else l.getD (j - i) d
 | [],i,j=>by simp[Qca,qnr]
 | x :: xs,i,j=>by
  have ih:=qjx he xs (i+1) j
  have key:qd3 d ((i,x) :: Qca e (i+1) xs) j=if j < i then d else (x :: xs).getD (j - i) d:=by
   rw[qcf]
   by_cases h:i=j
   ·subst h;simp
   ·rw[if_neg h,ih]
    by_cases h2:j < i
    ·rw[if_pos (by omega),if_pos h2]
    ·rw[if_neg (by omega),if_neg h2,show j - i=j - (i+1)+1 by omega,List.getD_cons_succ]
  simp only[Qca]
  cases h:e x with
  | false=>exact key
  | true =>
   have hx:=he x h
   show qd3 d (Qca e (i+1) xs) j=_
   rw[←key,qcf]
   split
   ·rename_i h2
    have h2:i=j:=h2
    show qd3 d (Qca e (i+1) xs) j=x
    rw[ih,if_pos (by omega),hx]
   ·rfl
structure Ss where
 nt:Nat
 tm:List (Nat×PV)
 no:Nat
 ob:List (Nat×List Ob)
 kn:Nat
 kp:List (Nat×PV)
def Ss.st (s:Ss):St:={tmps:=den .undef s.nt s.tm,objs:=den [] s.no s.ob,keep:=den .undef s.kn s.kp}
def Ss.of (st:St):Ss:=⟨st.tmps.length,Qca qcw 0 st.tmps,st.objs.length,Qca List.isEmpty 0 st.objs,st.keep.length,Qca qcw 0 st.keep⟩
theorem qfh (x:PV) (h:qcw x=true):x=.undef:=by cases x<;>first | rfl | (simp[qcw] at h)
theorem qlr {α:Type} (x:List α) (h:x.isEmpty=true):x=[]:=by cases x<;>first | rfl | (simp at h)
theorem Qfi (st:St):(Ss.of st).st=st:=by
 obtain⟨tmps,objs,keep⟩:=st
 simp only[Ss.of,Ss.st]
 rw[qnv (xs:=tmps) rfl fun i hi=>by rw[qjx qfh,if_neg (by omega),List.getD_eq_getElem?_getD,Nat.sub_zero,List.getElem?_eq_getElem hi];rfl,
  qnv (xs:=objs) rfl fun i hi=>by rw[qjx qlr,if_neg (by omega),List.getD_eq_getElem?_getD,Nat.sub_zero,List.getElem?_eq_getElem hi];rfl,
  qnv (xs:=keep) rfl fun i hi=>by rw[qjx qfh,if_neg (by omega),List.getD_eq_getElem?_getD,Nat.sub_zero,List.getElem?_eq_getElem hi];rfl]
def Ss.frame (nt:Nat) (args:List PV):Ss:=⟨args.length+(nt - args.length),Qca qcw 0 args,nt,[],0,[]⟩
theorem Ql7 (nt:Nat) (args:List PV):(Ss.frame nt args).st={tmps:=args++List.replicate (nt - args.length) .undef,objs:=List.replicate nt [],keep:=[]}:=by
 simp only[Ss.frame,Ss.st]
 rw[qnv (xs:=args++List.replicate (nt - args.length) .undef) (by simp) fun i hi=>by
  rw[qjx qfh,if_neg (by omega),Nat.sub_zero,List.getD_eq_getElem?_getD]
  by_cases h:i < args.length
  ·rw[List.getElem?_append_left h,List.getElem?_eq_getElem h];rfl
  ·rw[List.getElem?_append_right (by omega),List.getElem?_replicate,if_pos (by omega),List.getElem?_eq_none (l:=args) (by omega)];rfl,
  qnv (xs:=List.replicate nt []) (by simp) fun i hi=>by rw[List.getElem?_replicate,if_pos hi];rfl]
 rfl
def Ss.t (s:Ss) (i:Nat):PV:=match Nat.blt i s.nt with
 | true=>qd3 .undef s.tm i
 | false=>.undef
def Ss.o (s:Ss) (i:Nat):List Ob:=match Nat.blt i s.no with
 | true=>qd3 [] s.ob i
 | false=>[]
theorem qla (a b:Nat):Nat.blt a b=decide (a < b):=by
 rw[Bool.eq_iff_iff,Nat.blt_eq,decide_eq_true_eq]
theorem t_eq (s:Ss) (i:Nat):s.t i=s.st.tmps.getD i .undef:=by
 unfold Ss.t Ss.st
 rw[qru,qla]
 by_cases h:i < s.nt<;>simp[h]
theorem o_eq (s:Ss) (i:Nat):s.o i=s.st.objs.getD i []:=by
 unfold Ss.o Ss.st
 rw[qru,qla]
 by_cases h:i < s.no<;>simp[h]
def qyj (s:Ss) (nm:Nm):Option Ob:=match Nat.blt nm.1 s.no with
 | true=>getR (qd3 [] s.ob nm.1) nm.2
 | false=>none
theorem qqz (s:Ss):qyj s=qbf s.st.objs:=by
 funext nm
 unfold qyj qbf Ss.st
 rw[qj8,qla]
 by_cases h:nm.1 < s.no
 ·simp only[h,decide_true,if_true,qj3]
 ·simp only[h,decide_false,if_false]
def RX.evS (s:Ss):RX→RX
 | .t i=>.c (s.t i)
 | .c v=>.c v
def RX.evP (s:Ss):RX→PV
 | .t i=>s.t i
 | .c v=>v
theorem evS_eq (s:Ss):RX.evS s=fun x=>.c (x.ev s.st.tmps):=by
 funext x
 cases x with
 | t i=>simp only[RX.evS,RX.ev,t_eq]
 | c v=>rfl
theorem Qmf (s:Ss):RX.evP s=RX.ev s.st.tmps:=by
 funext x
 cases x with
 | t i=>exact t_eq s i
 | c v=>rfl
section qg2
variable {R:Type}
def fTS:List (Nat×PV)→(List (Nat×PV)→R)→R
 | [],K=>K []
 | p :: l,K=>match p with
  |(j,x)=>fN j fun j=>fH x fun x=>fTS l fun l=>K ((j,x) :: l)
def fOS:List (Nat×List Ob)→(List (Nat×List Ob)→R)→R
 | [],K=>K []
 | p :: l,K=>match p with
  |(j,x)=>fN j fun j=>fObHs x fun x=>fOS l fun l=>K ((j,x) :: l)
def fSs (s:Ss) (K:Ss→R):R:=match s with
 | ⟨nt,tm,no,ob,kn,kp⟩=>fN nt fun nt=>fTS tm fun tm=>fN no fun no=>fOS ob fun ob=>fN kn fun kn=>fTS kp fun kp=>K ⟨nt,tm,no,ob,kn,kp⟩
theorem fTS_eq:∀ (l:List (Nat×PV)) (K:List (Nat×PV)→R),fTS l K=K l
 | [],_=>rfl
 |(j,x) :: l,K=>by simp only[fTS,Qc5,fH_eq];rw[fTS_eq l]
theorem fOS_eq:∀ (l:List (Nat×List Ob)) (K:List (Nat×List Ob)→R),fOS l K=K l
 | [],_=>rfl
 |(j,x) :: l,K=>by simp only[fOS,Qc5,Qc4];rw[fOS_eq l]
theorem qns (s:Ss) (K:Ss→R):fSs s K=K s:=by cases s;simp only[fSs,Qc5,fTS_eq,fOS_eq]
end qg2
def keepS (ks:List Nat) (tm:List (Nat×PV)):List (Nat×PV):=ks.map fun k=>(k,qd3 .undef tm k)
theorem qzs (tm:List (Nat×PV)) (i:Nat):∀ ks:List Nat,qd3 .undef (keepS ks tm) i=if ks.contains i=true then qd3 .undef tm i else .undef
 | []=>by simp[keepS,qnr]
 | k :: ks=>by
  have ih:=qzs tm i ks
  unfold keepS at ih ⊢
  rw[List.map_cons,qcf,ih,List.contains_cons]
  by_cases h:k=i
  ·subst h;simp
  ·have h2:¬i=k:=fun e=>h e.symm
   simp[h,h2]
def qq5 (ks:List Nat) (s:Ss):Ss:={s with tm:=keepS ks s.tm}
theorem qpu {α β:Type} (l:List α) (f:α×Nat→β) (i:Nat):(l.zipIdx.map f)[i]?=(l[i]?).map fun a=>f (a,i):=by
 rw[List.getElem?_map,List.getElem?_zipIdx,Option.map_map,Nat.zero_add]
 rfl
theorem qtq (ks:List Nat) (s:Ss):(qq5 ks s).st=qf2 ks s.st:=by
 unfold qf2 qq5 Ss.st
 dsimp only
 rw[qnv (xs:=(den .undef s.nt s.tm).zipIdx.map fun (v,i)=>if ks.contains i then v else .undef) (by simp[qms]) fun i hi=>by
  rw[qpu,qj8,if_pos hi,qzs];rfl]
def qg8 {α:Type} (e:α→Bool) (m:Nat):List (Nat×α)→List (Nat×α)
 | []=>[]
 | p :: l=>match qkf m p.1 with
  | true=>qg8 e m l
  | false=>match e p.2 with
   | true=>qg8 e (Nat.lor m (Nat.shiftLeft 1 p.1)) l
   | false=>p :: qg8 e (Nat.lor m (Nat.shiftLeft 1 p.1)) l
theorem bit_or (m j i:Nat):qkf (Nat.lor m (Nat.shiftLeft 1 j)) i=(qkf m i||decide (j=i)):=by
 rw[qkz,qkz]
 show (m ||| 1 <<< j).testBit i=_
 rw[Nat.testBit_or,Nat.one_shiftLeft,Nat.testBit_two_pow]
theorem qfi {α:Type} {e:α→Bool} {d:α} (he:∀ x,e x=true→x=d) (hd:e d=true):∀ (l:List (Nat×α)) (m j:Nat) (x:α),(j,x)∈qg8 e m l↔(e x=false∧qd3 d l j=x∧qkf m j=false)
 | [],m,j,x=>by
  simp only[qg8,List.not_mem_nil,false_iff,qnr]
  rintro ⟨h1,rfl,_⟩
  rw[hd] at h1;cases h1
 | p :: l,m,j,x=>by
  simp only[qg8]
  cases hb:qkf m p.1 with
  | true =>
   show (j,x)∈qg8 e m l↔_
   rw[qfi he hd l,qcf]
   constructor
   ·rintro ⟨h1,h2,h3⟩
    refine⟨h1,?_,h3⟩
    rw[if_neg (fun h=>by rw[h] at hb;rw[hb] at h3;cases h3),h2]
   ·rintro ⟨h1,h2,h3⟩
    rw[if_neg (fun h=>by rw[h] at hb;rw[hb] at h3;cases h3)] at h2
    exact⟨h1,h2,h3⟩
  | false =>
   have step:(j,x)∈qg8 e (Nat.lor m (Nat.shiftLeft 1 p.1)) l↔(e x=false∧qd3 d l j=x∧qkf m j=false∧p.1≠j):=by
    rw[qfi he hd l,bit_or,Bool.or_eq_false_iff,decide_eq_false_iff_not]
   cases hx:e p.2 with
   | true =>
    show (j,x)∈qg8 e _ l↔_
    rw[step,qcf]
    constructor
    ·rintro ⟨h1,h2,h3,h4⟩
     exact⟨h1,by rw[if_neg h4,h2],h3⟩
    ·rintro ⟨h1,h2,h3⟩
     by_cases h:p.1=j
     ·rw[if_pos h] at h2
      rw[h2] at hx
      rw[hx] at h1;cases h1
     ·rw[if_neg h] at h2
      exact⟨h1,h2,h3,h⟩
   | false =>
    show (j,x)∈p :: qg8 e _ l↔_
    rw[List.mem_cons,step,qcf]
    constructor
    ·rintro (h | ⟨h1,h2,h3,h4⟩)
     ·subst h
      exact⟨hx,by rw[if_pos rfl],hb⟩
     ·exact⟨h1,by rw[if_neg h4,h2],h3⟩
    ·rintro ⟨h1,h2,h3⟩
     by_cases h:p.1=j
     ·rw[if_pos h] at h2
      left
      rw[←h,←h2]
     ·rw[if_neg h] at h2
      exact .inr ⟨h1,h2,h3,h⟩
theorem qzf (nm:Nm):∀ xs:List PV,nm∈qbd xs↔∃ x∈xs,nm∈x.names
 | []=>by simp[qbd]
 | x :: xs=>by simp[qbd,qzf nm xs]
def qzd (n:Nat) (l:List (Nat×PV)):List Nm:=l.flatMap fun p=>match Nat.blt p.1 n with
 | true=>p.2.names
 | false=>[]
def Qli (n:Nat) (l:List (Nat×List Ob)):List Nm:=l.flatMap fun p=>match Nat.blt p.1 n with
 | true=>p.2.flatMap Ob.names
 | false=>[]
theorem mem_den {α:Type} {d:α} {n:Nat} {l:List (Nat×α)} {x:α}:x∈den d n l↔∃ i,i < n∧qd3 d l i=x:=by simp[den]
theorem qzc (nm:Nm) (n:Nat) (tm:List (Nat×PV)):nm∈qzd n (qg8 qcw 0 tm)↔nm∈qbd (den .undef n tm):=by
 have hb:∀ i,qkf 0 i=false:=fun i=>by rw[qkz];simp
 rw[qzf]
 unfold qzd
 simp only[List.mem_flatMap,mem_den]
 constructor
 ·rintro ⟨⟨j,x⟩,h1,h2⟩
  rw[qfi qfh rfl] at h1
  rw[qla] at h2
  by_cases h:j < n
  ·simp only[h,decide_true] at h2
   exact⟨x,⟨j,h,h1.2.1⟩,h2⟩
  ·simp[h] at h2
 ·rintro ⟨x,⟨i,h1,h2⟩,h3⟩
  refine⟨(i,x),?_,?_⟩
  ·rw[qfi qfh rfl]
   refine⟨?_,h2,hb i⟩
   cases x<;>first | rfl | (simp[PV.names] at h3)
  ·rw[qla];simp only[h1,decide_true];exact h3
theorem namesO_mem (nm:Nm) (n:Nat) (ob:List (Nat×List Ob)):nm∈Qli n (qg8 List.isEmpty 0 ob)↔nm∈(den [] n ob).flatMap fun l=>l.flatMap Ob.names:=by
 have hb:∀ i,qkf 0 i=false:=fun i=>by rw[qkz];simp
 unfold Qli
 rw[List.mem_flatMap,List.mem_flatMap]
 simp only[mem_den]
 constructor
 ·rintro ⟨⟨j,x⟩,h1,h2⟩
  rw[qfi qlr rfl] at h1
  rw[qla] at h2
  by_cases h:j < n
  ·simp only[h,decide_true] at h2
   exact⟨x,⟨j,h,h1.2.1⟩,h2⟩
  ·simp[h] at h2
 ·rintro ⟨x,⟨i,h1,h2⟩,h3⟩
  refine⟨(i,x),?_,?_⟩
  ·rw[qfi qlr rfl]
   refine⟨?_,h2,hb i⟩
   cases x<;>first | rfl | (simp at h3)
  ·rw[qla];simp only[h1,decide_true];exact h3
def noneAt (R:List Nm) (d:Nat):Bool:=R.all fun nm=>!Nat.beq nm.1 d
def unS (s:Ss):List Nat:=fSp (qg8 List.isEmpty 0 s.ob) fun O=>fSp (qzd s.nt (qg8 qcw 0 s.tm)++(qzd s.kn (qg8 qcw 0 s.kp)++Qli s.no O)) fun R =>
 (O.filter fun p=>Nat.blt p.1 s.no&&noneAt R p.1).map (·.1)
theorem Qhv (s:Ss) (d:Nat):d∈unS s↔d∈qh9 s.st:=by
 have hb:∀ i,qkf 0 i=false:=fun i=>by rw[qkz];simp
 unfold unS qh9
 rw[qrl,qrl]
 simp only[List.mem_map,List.mem_filter,List.mem_range,Bool.and_eq_true,qla,decide_eq_true_eq,noneAt,List.all_eq_true,Bool.not_eq_true']
 have hR:∀ nm,nm∈qzd s.nt (qg8 qcw 0 s.tm)++(qzd s.kn (qg8 qcw 0 s.kp)++Qli s.no (qg8 List.isEmpty 0 s.ob))↔nm∈qbd s.st.tmps++qbd s.st.keep++s.st.objs.flatMap fun l=>l.flatMap Ob.names:=by
  intro nm
  rw[List.mem_append,List.mem_append,List.mem_append,List.mem_append,qzc,qzc,namesO_mem,or_assoc]
  rfl
 constructor
 ·rintro ⟨⟨j,x⟩,⟨h1,h2,h3⟩,h4⟩
  have h4:j=d:=h4
  subst h4
  rw[qfi qlr rfl] at h1
  refine⟨by rw[show s.st.objs.length=s.no from qms _ _ _];exact h2,?_,fun nm hnm=>?_⟩
  ·rw[show s.st.objs.getD j []=x by rw[show s.st.objs=den [] s.no s.ob from rfl,qru,if_pos h2];exact h1.2.1]
   exact h1.1
  ·have:=h3 nm ((hR nm).2 hnm)
   simpa using Nat.ne_of_beq_eq_false this
 ·rintro ⟨h1,h2,h3⟩
  have h1:d < s.no:=by rw[show s.st.objs.length=s.no from qms _ _ _] at h1;exact h1
  refine⟨(d,s.st.objs.getD d []),⟨?_,h1,fun nm hnm=>?_⟩,rfl⟩
  ·rw[qfi qlr rfl]
   refine⟨h2,?_,hb d⟩
   rw[show s.st.objs=den [] s.no s.ob from rfl,qru,if_pos h1]
  ·have:=h3 nm ((hR nm).1 hnm)
   cases hq:Nat.beq nm.1 d with
   | false=>rfl
   | true=>have e:=Nat.eq_of_beq_eq_true hq;simp[e] at this
theorem Qbd {ds ds':List Nat} (h:∀ d,d∈ds↔d∈ds') (st:St):qgf ds st=qgf ds' st:=by
 have hc:∀ d,ds.contains d=ds'.contains d:=fun d=>by rw[Bool.eq_iff_iff,List.contains_iff_mem,List.contains_iff_mem,h d]
 unfold qgf
 rw[show (ds.all fun d=>(st.objs.getD d []).isEmpty)=ds'.all fun d=>(st.objs.getD d []).isEmpty by
  rw[Bool.eq_iff_iff,List.all_eq_true,List.all_eq_true]
  exact⟨fun q d hd=>q d ((h d).2 hd),fun q d hd=>q d ((h d).1 hd)⟩]
 simp only[hc]
def subF (m:Nat) (nm:Nm):Option (Option Ob):=match qkf m nm.1 with
 | true=>some none
 | false=>none
def subS (f:Nm→Option (Option Ob)) (s:Ss):Ss:={s with tm:=s.tm.map fun p=>(p.1,p.2.sub f),ob:=s.ob.map fun p=>(p.1,p.2.map (Ob.sub f)),kp:=s.kp.map fun p=>(p.1,p.2.sub f)}
theorem qvv (f:Nm→Option (Option Ob)):∀ xs:List PV,qdy f xs=xs.map (PV.sub f)
 | []=>rfl
 | x :: xs=>by simp[qdy,qvv f xs]
theorem subS_eq (f:Nm→Option (Option Ob)) (s:Ss):(subS f s).st=qhf f s.st:=by
 unfold subS qhf Ss.st
 dsimp only
 have h1:=Qkg (PV.undef) s.nt s.tm (PV.sub f)
 rw[show PV.undef.sub f=.undef by simp only[PV.sub]] at h1
 have h2:den [] s.no (s.ob.map fun p=>(p.1,p.2.map (Ob.sub f)))=(den [] s.no s.ob).map (List.map (Ob.sub f)):=Qkg [] s.no s.ob (List.map (Ob.sub f))
 have h3:=Qkg (PV.undef) s.kn s.kp (PV.sub f)
 rw[show PV.undef.sub f=.undef by simp only[PV.sub]] at h3
 rw[h1,h2,h3,qvv,qvv]
def Qde (ds:List Nat) (s:Ss):Ss:=fN (qmg ds) fun m=>subS (subF m) {s with ob:=s.ob.filter fun p=>!qkf m p.1}
theorem Qbe (ds:List Nat) (s:Ss) (h:(ds.all fun d=>(s.st.objs.getD d []).isEmpty)=false):(Qde ds s).st=qgf ds s.st:=by
 unfold Qde
 rw[Qc5,subS_eq]
 unfold qgf
 rw[if_neg (by rw[h];decide)]
 have hf:subF (qmg ds)=fun m=>if ds.contains m.1 then some none else none:=by
  funext m
  unfold subF
  rw[qne]
  cases ds.contains m.1<;>rfl
 rw[hf]
 unfold qhf Ss.st
 dsimp only
 congr 1
 have e1:den [] s.no (s.ob.filter fun p=>!qkf (qmg ds) p.1)=(den [] s.no s.ob).zipIdx.map fun (l,i)=>if ds.contains i then [] else l :=
  qnv (by simp[qms]) fun i hi=>by
   rw[qpu,qj8,if_pos hi,qty [] (fun j=>!qkf (qmg ds) j),qne]
   show some (if ds.contains i=true then [] else qd3 [] s.ob i)=_
   cases ds.contains i<;>rfl
 rw[e1]
 apply List.ext_getElem?
 intro i
 rw[List.getElem?_map,qpu,qpu,List.getElem?_map]
 cases (den [] s.no s.ob)[i]? with
 | none=>rfl
 | some l =>
  simp only[Option.map_some]
  split<;>rfl
def Qg4 (s:Ss):Ss:=match unS s with
 | []=>s
 | d :: ds=>Qde (d :: ds) s
theorem qxy (s:Ss):(Qg4 s).st=qgf (qh9 s.st) s.st:=by
 unfold Qg4
 split
 ·rename_i h
  rw[←Qbd (ds:=[]) (fun d=>by rw[←Qhv,h])]
  rfl
 ·rename_i d ds h
  rw[←Qbd (ds:=d :: ds) (fun x=>by rw[←Qhv,h])]
  refine Qbe _ _ ?_
  have hd:d∈qh9 s.st:=by rw[←Qhv,h];exact List.mem_cons_self
  unfold qh9 at hd
  simp only[List.mem_filter,Bool.and_eq_true,Bool.not_eq_true'] at hd
  rw[List.all_cons,hd.2.1]
  rfl
def qkc (ds:List Nat) (s:Ss):Ss:=match ds.all fun d=>(s.o d).isEmpty with
 | true=>s
 | false=>Qde ds s
theorem qs7 (ds:List Nat) (s:Ss):(qkc ds s).st=qgf ds s.st:=by
 unfold qkc
 rw[show (fun d=>(s.o d).isEmpty)=fun d=>(s.st.objs.getD d []).isEmpty by funext d;rw[o_eq]]
 split
 ·rename_i h;unfold qgf;rw[if_pos h]
 ·rename_i h;exact Qbe ds s h
def tidyS (live:Option (List Nat)) (s:Ss):Ss:=match live with
 | none=>s
 | some ks=>fSs (qq5 ks s) fun s=>Qg4 s
theorem Qbs (live:Option (List Nat)) (s:Ss):(tidyS live s).st=Qhp live s.st:=by
 unfold tidyS Qhp
 split
 ·rfl
 ·rw[qns,qxy,qtq]
theorem st_tm (s:Ss) (d:Nat) (v:PV):Ss.st {s with tm:=(d,v) :: s.tm}={s.st with tmps:=s.st.tmps.set d v}:=by
 unfold Ss.st
 dsimp only
 rw[Qkf]
theorem st_ob (s:Ss) (d:Nat) (v:List Ob):Ss.st {s with ob:=(d,v) :: s.ob}={s.st with objs:=s.st.objs.set d v}:=by
 unfold Ss.st
 dsimp only
 rw[Qkf]
def putS (s:Ss) (nm:Nm) (o:Ob):Ss:=match Nat.blt nm.1 s.no with
 | true=>{s with ob:=(nm.1,(qd3 [] s.ob nm.1).set nm.2 o) :: s.ob}
 | false=>s
theorem putS_eq (s:Ss) (nm:Nm) (o:Ob):(putS s nm o).st={s.st with objs:=qb9 s.st.objs nm o}:=by
 unfold putS qb9
 rw[show s.st.objs[nm.1]?=if nm.1 < s.no then some (qd3 [] s.ob nm.1) else none from qj8 _ _ _ _,qla]
 by_cases h:nm.1 < s.no
 ·simp only[h,decide_true,if_true]
  rw[st_ob]
 ·simp only[h,decide_false,if_false]
def killF (nm m:Nm):Option (Option Ob):=match Nat.beq m.1 nm.1 with
 | true=>(match Nat.beq m.2 nm.2 with
  | true=>some none
  | false=>none)
 | false=>none
theorem killF_eq (nm:Nm):killF nm=fun m=>if m=nm then some none else none:=by
 funext m
 obtain⟨a,b⟩:=m
 obtain⟨c,d⟩:=nm
 unfold killF
 cases h1:Nat.beq a c with
 | false=>have:=Nat.ne_of_beq_eq_false h1;simp[this]
 | true =>
  cases h2:Nat.beq b d with
  | false=>have:=Nat.ne_of_beq_eq_false h2;simp[this]
  | true=>simp[Nat.eq_of_beq_eq_true h1,Nat.eq_of_beq_eq_true h2]
def plainO (o:Out):Bool:=o.frz.isEmpty&&o.gone.isEmpty&&o.ups.isEmpty&&o.slot.isNone
def updS (s:Ss) (o:Out):Ss:=match o.upd with
 | some (nm,ob)=>putS s nm ob
 | none=>s
def killS (s:Ss) (o:Out):Ss:=match o.kill with
 | some nm=>subS (killF nm) s
 | none=>s
def Qbj (s:Ss) (dst:Option Nat) (o:Out):Ss:=match stillO o with
 | true=>(match dst with
  | some d=>{s with tm:=(d,o.v) :: s.tm}
  | none=>s)
 | false=>match plainO o with
  | true=>fSs (killS (updS s o) o) fun s=>(match dst with
   | some d=>(match o.new with
    | []=>{s with tm:=(d,o.v) :: s.tm}
    | a :: ar=>{s with tm:=(d,o.v) :: s.tm,ob:=(d,a :: ar) :: s.ob})
   | none=>s)
  | false=>Ss.of (apply s.st dst o)
def updT (u:Option (Nm×Ob)) (st:St):St:=match u with
 | some (nm,ob)=>{st with objs:=qb9 st.objs nm ob}
 | none=>st
def Qf0 (k:Option Nm) (st:St):St:=match k with
 | some nm=>qhf (fun m=>if m=nm then some none else none) st
 | none=>st
theorem updS_eq (s:Ss) (o:Out):(updS s o).st=updT o.upd s.st:=by
 unfold updS updT
 cases o.upd with
 | none=>rfl
 | some p=>exact putS_eq s p.1 p.2
theorem killS_eq (s:Ss) (o:Out):(killS s o).st=Qf0 o.kill s.st:=by
 unfold killS Qf0
 cases o.kill with
 | none=>rfl
 | some nm=>dsimp only;rw[subS_eq,killF_eq]
theorem apply_pl (st:St) (dst:Option Nat) (v:PV) (new:List Ob) (upd:Option (Nm×Ob)) (kill:Option Nm) (io:Bool):apply st dst ⟨v,new,upd,kill,[],[],[],io,none⟩ =
  (match dst with
  | some d=>{Qf0 kill (updT upd st) with tmps:=(Qf0 kill (updT upd st)).tmps.set d v,objs:=if new.isEmpty then (Qf0 kill (updT upd st)).objs else (Qf0 kill (updT upd st)).objs.set d new}
  | none=>Qf0 kill (updT upd st)):=by
 cases dst<;>cases upd<;>cases kill<;>rfl
theorem qr3 (s:Ss) (dst:Option Nat) (o:Out):(Qbj s dst o).st=apply s.st dst o:=by
 unfold Qbj
 split
 ·rename_i h
  rw[←qr4]
  unfold qx4
  rw[h]
  cases dst with
  | none=>rfl
  | some d=>simp only[st_tm,Qh2]
 ·split
  ·rename_i h
   rw[qns]
   obtain⟨v,new,upd,kill,frz,gone,ups,io,slot⟩:=o
   simp only[plainO,Bool.and_eq_true,Option.isNone_iff_eq_none,List.isEmpty_iff] at h
   obtain⟨⟨⟨rfl,rfl⟩,rfl⟩,rfl⟩:=h
   rw[apply_pl]
   have e:(killS (updS s ⟨v,new,upd,kill,[],[],[],io,none⟩) ⟨v,new,upd,kill,[],[],[],io,none⟩).st=Qf0 kill (updT upd s.st):=by rw[killS_eq,updS_eq]
   generalize killS (updS s ⟨v,new,upd,kill,[],[],[],io,none⟩) ⟨v,new,upd,kill,[],[],[],io,none⟩=q at e
   rw[←e]
   cases dst with
   | none=>rfl
   | some d =>
    cases new with
    | nil=>exact st_tm q d v
    | cons a ar =>
     show Ss.st {q with tm:=(d,v) :: q.tm,ob:=(d,a :: ar) :: q.ob}=_
     rw[st_tm {q with ob:=(d,a :: ar) :: q.ob},st_ob]
     rfl
  ·rw[Qfi]
def freshS (o:qbo) (s:Ss):Bool :=
 if qlj o.op then
  match o.dst with
  | some d=>(match Nat.blt d s.no with
   | true=>(qd3 [] s.ob d).isEmpty
   | false=>false)
  | none=>match o.op with
   | .call _ _=>true
   | _=>false
 else true
theorem freshS_eq (o:qbo) (s:Ss):freshS o s=qcz o s.st:=by
 unfold freshS qcz
 split
 ·cases o.dst with
  | none=>rfl
  | some d =>
   dsimp only
   rw[show s.st.objs[d]?=if d < s.no then some (qd3 [] s.ob d) else none from qj8 _ _ _ _,qla]
   by_cases h:d < s.no
   ·simp only[h,decide_true,if_true]
    cases qd3 [] s.ob d<;>rfl
   ·simp only[h,decide_false,if_false]
 ·rfl
section ops
variable (M:qdb) {E:Type} (h:qbg E) (dep:Nat) (ops:List qbo)
def outS (o:qbo) (s:Ss) (e:E):Option (Out×E) :=
 chk (freshS o s) (match o.op with
  | .call f args=>match qb1 M h dep (o.dst.getD 0) (qyj s) [] (f.evS s) (args.map (RX.evS s)) e with
   | some (out,e)=>chk (qmj o.dst out) (some (out,e))
   | none=>none
  | op=>match exec (o.dst.getD 0) (qyj s) [] (op.mapX (RX.evS s)) with
   | some out=>some (out,e)
   | none=>none)
theorem outS_eq (o:qbo) (s:Ss) (e:E):outS M h dep o s e=qfj M h dep o s.st e:=by
 unfold outS qfj
 rw[freshS_eq,qqz,evS_eq]
 congr 1
 cases o.op with
 | call f args=>have hc:=qrm M h dep (o.dst.getD 0) (qbf s.st.objs) s.st.tmps f args e;simp only[hc]<;>rfl
 | _=>simp only[qz7]<;>rfl
def Qku (o:qbo) (s:Ss):Option Bool :=
 match o.guard with
 | none=>some true
 | some (j,want) =>
  match getR ops j with
  | some p=>match p.dst with
   | some d=>match s.t d with
    | .bool b=>some (b==want)
    | .tup []=>some false
    | _=>none
   | none=>none
  | none=>none
theorem Qdr (o:qbo) (s:Ss):Qku ops o s=qfo ops o s.st.tmps:=by
 unfold Qku qfo
 simp only[qj3,t_eq]<;>rfl
def stepS (o:qbo) (s:Ss) (e:E):Option (Ss×E) :=
 match Qku ops o s with
 | some true=>match outS M h dep o s e with
  | some (out,e)=>fOut (Qmk o.op) out fun out=>some (Qbj s o.dst out,e)
  | none=>none
 | some false=>some (Qbj s o.dst {v:=.tup []},e)
 | none=>none
def D2 {E:Type} (q:Ss×E):St×E:=(q.1.st,q.2)
theorem stepS_eq (o:qbo) (s:Ss) (e:E):(stepS M h dep ops o s e).map D2=stepG M h dep ops o s.st e:=by
 unfold stepS stepG qpq
 rw[Qdr,outS_eq]
 cases qfo ops o s.st.tmps with
 | none=>rfl
 | some b =>
  cases b with
  | true =>
   cases qfj M h dep o s.st e with
   | none=>rfl
   | some p=>simp only[Qc3,Option.map_some,D2,qr3]
  | false=>simp only[Option.map_some,D2,qr3]
def runS:List qbo→Ss→E→Option (Ss×E)
 | [],s,e=>some (s,e)
 | o :: rest,s,e=>match stepS M h dep ops o s e with
  | some (s,e)=>runS rest s e
  | none=>none
theorem Qh4:∀ (l:List qbo) (s:Ss) (e:E),(runS M h dep ops l s e).map D2=qf4 M h dep ops l s.st e
 | [],_,_=>rfl
 | o :: l,s,e=>by
  simp only[runS,qf4]
  rw[←stepS_eq]
  cases stepS M h dep ops o s e with
  | none=>rfl
  | some p=>exact Qh4 l p.1 p.2
def rnS (o:qbo) (s:Ss) (out:Out):List Nm :=
 if qr0 o.op&&qbp out then [] else qbs (qyj s) (qgy o.op (qbp out)) (qbd (o.op.xs.map (RX.evP s))++out.frz)
def yldS (op:ROp) (s:Ss):Bool :=
 match op with
 | .call f args=>match f.evP s with
  | .yld _=>(qbd (args.map (RX.evP s))).isEmpty
  | _=>false
 | _=>false
def infoS (i:Nat) (o:qbo) (s:Ss) (out:Out):qlb :=
 let vs:=o.op.xs.map (RX.evP s)
 {i,dst:=o.dst,reads:=qk1 o.op.xs++qby ops o,rn:=rnS o s out,rv:=if qgn o.op then [] else qyl (qyj s) (rnS o s out),
  cls:=if qg1 o.op&&qcu vs then (if yldS o.op s then .calls else .other) else if qbp out then .quiet else if qcp out then .turns else if qyh out then .ios else .other,
  on:=out.v.names++out.new.flatMap Ob.names,tch:=qdl out++(out.frz++out.kill.toList),frz:=!(out.frz++out.kill.toList).isEmpty,
  vn:=(qk1 o.op.xs++qby ops o).flatMap fun i=>(s.t i).names
  nw:=out.new.isEmpty&&!qlj o.op,ld:=ldOf o.op s.st.tmps out.v,bef:=out.ups.map fun p=>(p.1,qyj s p.1),aft:=out.ups}
theorem infoS_eq (i:Nat) (o:qbo) (s:Ss) (out:Out):infoS ops i o s out=qfx ops i o s.st out:=by
 unfold infoS qfx rnS qv7 yldS qq8
 simp only[Qmf,qqz,t_eq]<;>rfl
def Qk0 (i:Nat) (o:qbo) (s:Ss) (e:E):Option (Ss×E×qlb) :=
 match Qku ops o s with
 | some true=>match outS M h dep o s e with
  | some (out,e)=>fOut (Qmk o.op) out fun out=>some (Qbj s o.dst out,e,infoS ops i o s out)
  | none=>none
 | some false=>some (Qbj s o.dst {v:=.tup []},e,{i,cls:=.quiet,dst:=o.dst,reads:=qby ops o,rn:=[],vn:=(qby ops o).flatMap fun i=>(s.t i).names,nw:=!qlj o.op})
 | none=>none
def D3 {E:Type} (q:Ss×E×qlb):St×E×qlb:=(q.1.st,q.2)
theorem stepDS_eq (i:Nat) (o:qbo) (s:Ss) (e:E):(Qk0 M h dep ops i o s e).map D3=qyd M h dep ops i o s.st e:=by
 unfold Qk0 qyd qhc
 rw[Qdr,outS_eq]
 cases qfo ops o s.st.tmps with
 | none=>rfl
 | some b =>
  cases b with
  | true =>
   cases qfj M h dep o s.st e with
   | none=>rfl
   | some p=>simp only[Qc3,Option.map_some,D3,qr3,infoS_eq]
  | false=>simp only[Option.map_some,D3,qr3,t_eq]
def runDS:List (Nat×Nat)→List qlb→Ss→E→Option (Ss×E)
 | [],_,s,e=>some (s,e)
 |(i,bef) :: rest,infos,s,e=>match getR ops i with
  | some o=>match Qk0 M h dep ops i o s e with
   | some (s,e,info)=>chk (infos.all fun j=>bef.testBit j.i||qw5 j info) (runDS rest (info :: infos) s e)
   | none=>none
  | none=>none
theorem chk_map {α β:Type} (b:Bool) (x:Option α) (f:α→β):(chk b x).map f=chk b (x.map f):=by cases b<;>rfl
theorem Qk3:∀ (l:List (Nat×Nat)) (infos:List qlb) (s:Ss) (e:E),(runDS M h dep ops l infos s e).map D2=Qhq M h dep ops l infos s.st e
 | [],_,_,_=>rfl
 |(i,bef) :: l,infos,s,e=>by
  simp only[runDS,Qhq,qj3]
  cases ops[i]? with
  | none=>rfl
  | some o =>
   dsimp only
   rw[←stepDS_eq]
   cases Qk0 M h dep ops i o s e with
   | none=>rfl
   | some p =>
    show (chk _ _).map D2=chk _ _
    rw[chk_map,Qk3 l]
end ops
def Qcw (m:Nat):List (Nat×PV)→Bool
 | []=>true
 | p :: l=>match p.2 with
  | .arr nm _ _ _=>(match qkf m p.1 with
   | true=>(match Nat.beq nm.1 p.1 with
    | true=>(match nm.2 with
     | 0=>Qcw m l
     | _+1=>false)
    | false=>false)
   | false=>Qcw m l)
  | _=>Qcw m l
theorem homeL_tail {m:Nat} {p:Nat×PV} {l:List (Nat×PV)} (h:Qcw m (p :: l)=true):Qcw m l=true:=by
 simp only[Qcw] at h
 repeat' split at h
 all_goals first | exact h | cases h
theorem qzw (asg:List Nat) (t:Nat) (ht:asg.contains t=true):∀ (l:List (Nat×PV)),Qcw (qmg asg) l=true→∀ nm k o n,qd3 .undef l t=.arr nm k o n→nm=(t,0)
 | [],_,_,_,_,_,h=>by rw[qnr] at h;cases h
 |(j,x) :: l,h,nm,k,o,n,hf=>by
  rw[qcf] at hf
  by_cases hj:j=t
  ·subst hj
   rw[if_pos rfl] at hf
   have hf:x=.arr nm k o n:=hf
   subst hf
   obtain⟨a,b⟩:=nm
   simp only[Qcw,qne] at h
   rw[show asg.contains j=true from ht] at h
   dsimp only at h
   cases hb:Nat.beq a j with
   | false=>rw[hb] at h;cases h
   | true =>
    rw[hb] at h
    cases b with
    | zero=>rw[Nat.eq_of_beq_eq_true hb]
    | succ b=>cases h
  ·rw[if_neg hj] at hf
   exact qzw asg t ht l (homeL_tail h) nm k o n hf
def idleG (s:Ss) (t:Nat):Bool:=match Nat.ble qjj t with
 | true=>(match s.t (t%qjj) with
  | .ref nm o=>(match qyj s nm with
   | some (.cells _ cs)=>(match getR cs (o+(t / qjj - 1)) with
    | some .nilS=>false
    | some (.arr m _ _ _)=>Nat.beq m.1 nm.1
    | _=>true)
   | _=>true)
  | _=>true)
 | false=>(match s.t t with
  | .nilS=>false
  | _=>true)
theorem idleG_eq (s:Ss) (t k:Nat) (h:idleG s t=true):qst t k s.st=s.st:=by
 unfold idleG at h
 unfold qst
 by_cases hg:qjj≤t
 ·rw[if_pos hg]
  rw[show Nat.ble qjj t=true from Nat.ble_eq_true_of_le hg] at h
  dsimp only at h
  rw[t_eq,qqz] at h
  unfold growC
  split
  ·rename_i nm o hx
   rw[hx] at h
   dsimp only at h
   split
   ·rename_i ty cs hl
    rw[hl] at h
    dsimp only at h
    rw[qj3] at h
    unfold qph
    dsimp only
    split
    ·rename_i hc;rw[hc] at h;cases h
    ·rename_i m _ _ _ hc
     rw[hc] at h
     rw[if_neg (fun q=>q (Nat.eq_of_beq_eq_true h))]
    ·rfl
   ·rfl
  ·rfl
 ·rw[if_neg hg]
  rw[show Nat.ble qjj t=false by cases hq:Nat.ble qjj t with | false=>rfl | true=>exact absurd (Nat.le_of_ble_eq_true hq) hg] at h
  dsimp only at h
  rw[t_eq] at h
  split
  ·rename_i hx;rw[hx] at h;cases h
  ·rfl
theorem Ql2 (s:Ss):∀ grow:List (Nat×Nat),(grow.all fun p=>idleG s p.1)=true→grow.foldl (fun st (t,k)=>qst t k st) s.st=s.st
 | [],_=>rfl
 |(t,k) :: l,h=>by
  simp only[List.all_cons,Bool.and_eq_true] at h
  rw[List.foldl_cons]
  show l.foldl _ (qst t k s.st)=_
  rw[idleG_eq s t k h.1]
  exact Ql2 s l h.2
def norm0S (asg:List Nat) (grow:List (Nat×Nat)) (s:Ss):Ss:=match Qcw (qmg asg) s.tm&&grow.all fun p=>idleG s p.1 with
 | true=>s
 | false=>Ss.of (Qcc asg grow s.st)
theorem norm0S_eq (asg:List Nat) (grow:List (Nat×Nat)) (s:Ss):(norm0S asg grow s).st=Qcc asg grow s.st:=by
 unfold norm0S
 split
 ·rename_i h
  rw[Bool.and_eq_true] at h
  unfold Qcc
  rw[qsf s.st asg fun t ht nm k o n e=>?_,Ql2 s grow h.2]
  rw[show s.st.tmps=den .undef s.nt s.tm from rfl,qru] at e
  split at e
  ·exact qzw asg t (by simpa using ht) s.tm h.1 nm k o n e
  ·cases e
 ·rw[Qfi]
theorem qr9 (st:St) (i:Nat):i∈undefs st↔∃ v,st.tmps[i]?=some v∧qcw v=true:=by
 unfold undefs
 simp only[List.mem_map,List.mem_filter]
 constructor
 ·rintro ⟨⟨v,j⟩,⟨h1,h2⟩,h3⟩
  have h3:j=i:=h3
  subst h3
  rw[List.mem_zipIdx_iff_getElem?] at h1
  exact⟨v,h1,h2⟩
 ·rintro ⟨v,h1,h2⟩
  exact⟨(v,i),⟨by rw[List.mem_zipIdx_iff_getElem?];exact h1,h2⟩,rfl⟩
theorem Qht (st:St):qhe (undefs st) st=st:=by
 unfold qhe
 have:(st.tmps.zipIdx.map fun (v,i)=>if (undefs st).contains i then .undef else v)=st.tmps:=by
  apply List.ext_getElem?
  intro i
  rw[qpu]
  cases hv:st.tmps[i]? with
  | none=>rfl
  | some v =>
   show some (if (undefs st).contains i=true then .undef else v)=some v
   by_cases hc:(undefs st).contains i=true
   ·obtain⟨w,h1,h2⟩:=(qr9 st i).1 (by simpa using hc)
    rw[hv] at h1
    cases h1
    rw[if_pos hc,qfh v h2]
   ·rw[if_neg hc]
 rw[this]
def normS (asg:List Nat) (grow:List (Nat×Nat)) (s:Ss):Ss:=fSs (norm0S asg grow s) fun s=>Qg4 s
theorem Qlg (asg:List Nat) (grow:List (Nat×Nat)) (s:Ss):(normS asg grow s).st=norm asg grow s.st:=by
 unfold normS norm drop
 rw[qns,qxy,norm0S_eq,Qht]
def defK (s:Ss):List Nat:=(qg8 qcw 0 s.tm).map (·.1)
theorem Qmj (s:Ss) (i:Nat):i∈defK s↔qcw (qd3 .undef s.tm i)=false:=by
 have hb:∀ i,qkf 0 i=false:=fun i=>by rw[qkz];simp
 unfold defK
 simp only[List.mem_map]
 constructor
 ·rintro ⟨⟨j,x⟩,h1,h2⟩
  have h2:j=i:=h2
  subst h2
  rw[qfi qfh rfl] at h1
  rw[h1.2.1]
  exact h1.1
 ·intro h
  exact⟨(i,qd3 .undef s.tm i),by rw[qfi qfh rfl];exact⟨h,rfl,hb i⟩,rfl⟩
def dropS (s0 s1:Ss):Ss:=match Nat.beq s0.nt s1.nt with
 | true=>fSs (qq5 (defK s0) s1) fun s=>Qg4 s
 | false=>Ss.of (drop (undefs s0.st) s1.st)
theorem dropS_eq (s0 s1:Ss):(dropS s0 s1).st=drop (undefs s0.st) s1.st:=by
 unfold dropS
 split
 ·rename_i h
  have h:=Nat.eq_of_beq_eq_true h
  unfold drop
  rw[qns,qxy,qtq]
  have:qf2 (defK s0) s1.st=qhe (undefs s0.st) s1.st:=by
   unfold qf2 qhe
   have:(s1.st.tmps.zipIdx.map fun (v,i)=>if (defK s0).contains i then v else .undef)=s1.st.tmps.zipIdx.map fun (v,i)=>if (undefs s0.st).contains i then .undef else v:=by
    apply List.ext_getElem?
    intro i
    rw[qpu,qpu]
    cases hv:s1.st.tmps[i]? with
    | none=>rfl
    | some v =>
     have hi:i < s0.nt:=by
      have h1:=(List.getElem?_eq_some_iff.1 hv).1
      rw[show s1.st.tmps.length=s1.nt from qms _ _ _] at h1
      omega
     show some (if (defK s0).contains i=true then v else .undef)=some (if (undefs s0.st).contains i=true then .undef else v)
     have h0:s0.st.tmps[i]?=some (qd3 .undef s0.tm i):=by rw[show s0.st.tmps=den .undef s0.nt s0.tm from rfl,qj8,if_pos hi]
     cases hq:qcw (qd3 .undef s0.tm i) with
     | true =>
      have a:¬ (defK s0).contains i=true:=fun hc=>by have:=(Qmj s0 i).1 (by simpa using hc);rw[hq] at this;cases this
      have b:(undefs s0.st).contains i=true:=by have:i∈undefs s0.st:=(qr9 _ i).2 ⟨_,h0,hq⟩;simpa using this
      rw[if_neg a,if_pos b]
     | false =>
      have a:(defK s0).contains i=true:=by have:=(Qmj s0 i).2 hq;simpa using this
      have b:¬ (undefs s0.st).contains i=true:=fun hc=>by
       obtain⟨w,h1,h2⟩:=(qr9 _ i).1 (by simpa using hc)
       rw[h0] at h1
       cases h1
       rw[hq] at h2;cases h2
      rw[if_pos a,if_neg b]
   rw[this]
  rw[this]
 ·rw[Qfi]
def qg5 (M:qdb) (fuel:Nat):qcm→{E:Type}→qbg E→Nat→Ss→E→Option (Ex×Ss×E)
 | .skip,_,_,_,s,e=>some (.normal,s,e)
 | .region ops none qd5,_,h,dep,s,e=>match runS M h dep ops ops (qkc (qmp ops) s) e with
  | some (s,e)=>fSs (tidyS qd5 s) fun s=>some (.normal,s,e)
  | none=>none
 | .region ops (some bef) qd5,_,h,dep,s,e=>match runDS M h dep ops bef [] (qkc (qmp ops) s) e with
  | some (s,e)=>fSs (tidyS qd5 s) fun s=>some (.normal,s,e)
  | none=>none
 | .seq a b,_,h,dep,s,e=>match qg5 M fuel a h dep s e with
  | some (.normal,s,e)=>qg5 M fuel b h dep s e
  | r=>r
 | .cond c a b,_,h,dep,s,e=>match c.evP s with
  | .bool true=>qg5 M fuel a h dep s e
  | .bool false=>qg5 M fuel b h dep s e
  | _=>none
 | .block id body,_,h,dep,s,e=>match qg5 M fuel body h dep s e with
  | some (.exit id',s,e)=>if id'=id then some (.normal,s,e) else some (.exit id',s,e)
  | r=>r
 | .loop asg grow body,E,h,dep,s,e=>fSs (normS asg grow s) fun s0 =>
  match qdo (fun (q:Ss×E)=>match qg5 M fuel body h dep q.1 q.2 with
   | some (.normal,s1,e)=>fSs (dropS s0 s1) fun s1=>fSs (normS asg grow s1) fun s=>some (.inl (s,e))
   | some (x,s,e)=>some (.inr (x,s,e))
   | none=>none) fuel (s0,e) with
  | some (x,s,e)=>some (x,s,e)
  | none=>none
 | .scope body,_,h,dep,s,e=>match qg5 M fuel body h dep s e with
  | some (.exit id,s,e)=>if id < qf6 then some (.exit id,s,e) else none
  | r=>r
 | .norm grow,_,_,_,s,e=>fSs (Ss.of (norm [] grow (trim s.st))) fun s=>some (.normal,s,e)
 | .rangeFunc f ps a b,_,h,dep,s,e=>match qkn M fuel (.rangeFunc f ps a b) h dep s.st e with
  | some (x,st,e)=>fSs (Ss.of st) fun s=>some (x,s,e)
  | none=>none
 | .exit id,_,_,_,s,e=>some (.exit id,s,e)
 | .ret,_,_,_,s,e=>some (.ret,s,e)
 | .dreg _ _ _ _,_,_,_,_,_=>none
 | .bad,_,_,_,_,_=>none
def DE {E:Type} (q:Ex×Ss×E):Ex×St×E:=(q.1,q.2.1.st,q.2.2)
def mapR {σ τ:Type} (d:σ→τ):Sum σ (Ex×σ)→Sum τ (Ex×τ)
 | .inl s=>.inl (d s)
 | .inr p=>.inr (p.1,d p.2)
theorem qy2 {σ τ:Type} {f:σ→Option (Sum σ (Ex×σ))} {g:τ→Option (Sum τ (Ex×τ))} (d:σ→τ)
  (h:∀ s,g (d s)=(f s).map (mapR d)):∀ (n:Nat) (s:σ),qdo g n (d s)=(qdo f n s).map fun p=>(p.1,d p.2)
 | 0,_=>rfl
 | n+1,s=>by
  simp only[qdo]
  rw[h s]
  cases f s with
  | none=>rfl
  | some r =>
   cases r with
   | inl s=>exact qy2 d h n s
   | inr p=>rfl
theorem loop_map {E:Type} {F:Ss×E→Option (Sum (Ss×E) (Ex×Ss×E))} {G:St×E→Option (Sum (St×E) (Ex×St×E))}
  (h:∀ q,G (D2 q)=(F q).map (mapR D2)) (n:Nat) (q:Ss×E) :
  Option.map DE (match qdo F n q with
   | some (x,s,e)=>some (x,s,e)
   | none=>none)=match qdo G n (D2 q) with
   | some (x,st,e)=>some (x,st,e)
   | none=>none:=by
 rw[qy2 D2 h]
 cases qdo F n q<;>rfl
theorem qht (M:qdb) (fuel:Nat):∀ (c:qcm) {E:Type} (h:qbg E) (dep:Nat) (s:Ss) (e:E),(qg5 M fuel c h dep s e).map DE=qbk M fuel c h dep s.st e
 | .skip,_,_,_,_,_ | .exit _,_,_,_,_,_ | .ret,_,_,_,_,_ | .bad,_,_,_,_,_ | .dreg _ _ _ _,_,_,_,_,_=>by simp only[qg5,qbk]<;>rfl
 | .rangeFunc f ps a b,_,h,dep,s,e=>by
  simp only[qg5,qg6]
  cases qbk M fuel (.rangeFunc f ps a b) h dep s.st e with
  | none=>rfl
  | some p =>
   obtain⟨x,st,e⟩:=p
   simp only[qns,Option.map_some,DE,Qfi]
 | .norm grow,_,_,_,s,e=>by simp only[qg5,qbk,qns,Option.map_some,DE,Qfi]
 | .region ops none qd5,_,h,dep,s,e=>by
  simp only[qg5,qbk]
  have hr:=Qh4 M h dep ops ops (qkc (qmp ops) s) e
  rw[qs7] at hr
  rw[←hr]
  cases runS M h dep ops ops (qkc (qmp ops) s) e with
  | none=>rfl
  | some p=>simp only[qns,Option.map_some,DE,D2,Qbs]
 | .region ops (some bef) qd5,_,h,dep,s,e=>by
  simp only[qg5,qbk]
  have hr:=Qk3 M h dep ops bef [] (qkc (qmp ops) s) e
  rw[qs7] at hr
  rw[←hr]
  cases runDS M h dep ops bef [] (qkc (qmp ops) s) e with
  | none=>rfl
  | some p=>simp only[qns,Option.map_some,DE,D2,Qbs]
 | .seq a b,_,h,dep,s,e=>by
  simp only[qg5,qbk]
  rw[←qht M fuel a]
  cases qg5 M fuel a h dep s e with
  | none=>rfl
  | some p =>
   obtain⟨x,s1,e1⟩:=p
   cases x with
   | normal=>exact qht M fuel b h dep s1 e1
   | exit id=>rfl
   | ret=>rfl
 | .cond c a b,_,h,dep,s,e=>by
  simp only[qg5,qbk,Qmf]
  cases c.ev s.st.tmps with
  | bool x=>cases x with
   | true=>exact qht M fuel a h dep s e
   | false=>exact qht M fuel b h dep s e
  | _=>rfl
 | .block id b,_,h,dep,s,e=>by
  simp only[qg5,qbk]
  rw[←qht M fuel b]
  cases qg5 M fuel b h dep s e with
  | none=>rfl
  | some p =>
   obtain⟨x,s1,e1⟩:=p
   cases x with
   | normal=>rfl
   | exit id' =>
    simp only[Option.map_some,DE]
    split<;>rfl
   | ret=>rfl
 | .scope b,_,h,dep,s,e=>by
  simp only[qg5,qbk]
  rw[←qht M fuel b]
  cases qg5 M fuel b h dep s e with
  | none=>rfl
  | some p =>
   obtain⟨x,s1,e1⟩:=p
   cases x with
   | normal=>rfl
   | exit id' =>
    simp only[Option.map_some,DE]
    split<;>rfl
   | ret=>rfl
 | .loop asg grow b,E,h,dep,s,e=>by
  simp only[qg5,qbk,qns]
  rw[←Qlg]
  generalize normS asg grow s=s0
  refine loop_map (fun q=>?_) fuel (s0,e)
  dsimp only [D2]
  rw[←qht M fuel b]
  cases qg5 M fuel b h dep q.1 q.2 with
  | none=>rfl
  | some p =>
   obtain⟨x,s1,e1⟩:=p
   cases x with
   | normal=>simp only[Option.map_some,DE,mapR,D2,Qlg,dropS_eq]
   | exit id=>rfl
   | ret=>rfl
def pushS (nt:Nat) (vs:List PV) (s:Ss):Ss:={s with kn:=vs.length+(nt - vs.length)+s.kn,kp:=Qca qcw 0 vs++s.kp.map fun p=>(p.1+(vs.length+(nt - vs.length)),p.2)}
theorem Qgp {α:Type} (d:α) (i:Nat):∀ (l l':List (Nat×α)),(∀ p∈l',p.1≠i)→qd3 d (l++l') i=qd3 d l i
 | [],l',h=>by
  induction l' with
  | nil=>rfl
  | cons p l' ih =>
   rw[List.nil_append,qcf,if_neg (h p List.mem_cons_self)]
   exact ih fun q hq=>h q (List.mem_cons_of_mem _ hq)
 | p :: l,l',h=>by rw[List.cons_append,qcf,qcf,Qgp d i l l' h]
theorem qz6 {α:Type} (d:α) (i:Nat):∀ (l l':List (Nat×α)),(∀ p∈l,p.1≠i)→qd3 d (l++l') i=qd3 d l' i
 | [],l',h=>rfl
 | p :: l,l',h=>by rw[List.cons_append,qcf,if_neg (h p List.mem_cons_self),qz6 d i l l' fun q hq=>h q (List.mem_cons_of_mem _ hq)]
theorem qxl {α:Type} (d:α) (k i:Nat):∀ (l:List (Nat×α)),qd3 d (l.map fun p=>(p.1+k,p.2)) (i+k)=qd3 d l i
 | []=>rfl
 | p :: l=>by
  rw[List.map_cons,qcf,qcf,qxl d k i l]
  by_cases h:p.1=i
  ·simp[h]
  ·rw[if_neg h,if_neg (fun e=>h (by dsimp only at e;omega))]
theorem ofGo_lt {α:Type} (e:α→Bool):∀ (l:List α) (i:Nat),∀ p∈Qca e i l,p.1 < i+l.length
 | [],i,p,h=>by simp[Qca] at h
 | x :: xs,i,p,h=>by
  have ih:=ofGo_lt e xs (i+1) p
  simp only[Qca] at h
  simp only[List.length_cons]
  split at h
  ·have:=ih h;omega
  ·rcases List.mem_cons.1 h with rfl | h
   ·show i < _;omega
   ·have:=ih h;omega
theorem pushS_eq (nt:Nat) (vs:List PV) (s:Ss):(pushS nt vs s).st=pushD nt vs s.st:=by
 have hk:den .undef (vs.length+(nt - vs.length)+s.kn) (Qca qcw 0 vs++s.kp.map fun p=>(p.1+(vs.length+(nt - vs.length)),p.2))=vs++List.replicate (nt - vs.length) .undef++den .undef s.kn s.kp:=by
  refine qnv (by simp[qms,Nat.add_assoc]) fun i hi=>?_
  by_cases h:i < vs.length+(nt - vs.length)
  ·rw[Qgp _ _ _ _ (fun p hp=>by
    obtain⟨q,_,rfl⟩:=List.mem_map.1 hp
    show q.1+(vs.length+(nt - vs.length))≠i
    omega),qjx qfh,if_neg (by omega),Nat.sub_zero,List.getD_eq_getElem?_getD,List.getElem?_append_left (by simp;omega)]
   by_cases h2:i < vs.length
   ·rw[List.getElem?_append_left h2,List.getElem?_eq_getElem h2];rfl
   ·rw[List.getElem?_append_right (by omega),List.getElem?_replicate,if_pos (by omega),List.getElem?_eq_none (l:=vs) (by omega)];rfl
  ·obtain⟨j,rfl⟩:∃ j,i=j+(vs.length+(nt - vs.length)):=⟨i - (vs.length+(nt - vs.length)),by omega⟩
   rw[qz6 _ _ _ _ (fun p hp=>by have:=ofGo_lt qcw vs 0 p hp;omega),qxl,List.getElem?_append_right (by simp)]
   simp only[List.length_append,List.length_replicate]
   rw[show j+(vs.length+(nt - vs.length)) - (vs.length+(nt - vs.length))=j by omega,qj8,if_pos (by omega)]
 unfold pushS pushD Ss.st
 dsimp only
 rw[hk]
def resVS (s:Ss):Qkp→Option PV
 | .tmp t=>some (s.t t)
 | .cell t n ag=>match s.t t with
  | .ref nm o=>match qyj s nm with
   | some (.cells _ cs)=>sel cs o n ag
   | _=>none
  | _=>none
def qv8 (s:Ss):List Qkp→Option (List PV)
 | []=>some []
 | r :: rs=>match resVS s r,qv8 s rs with
  | some v,some vs=>some (v :: vs)
  | _,_=>none
theorem resVS_eq (s:Ss) (r:Qkp):resVS s r=resV s.st r:=by
 cases r with
 | tmp t=>simp only[resVS,resV,t_eq]
 | cell t n ag=>simp only[resVS,resV,t_eq,qqz]<;>rfl
theorem qqt (s:Ss):∀ rs:List Qkp,qv8 s rs=qkm s.st rs
 | []=>rfl
 | r :: rs=>by
  simp only[qv8,qkm,resVS_eq,qqt s rs]<;>rfl
def handS (shut:Bool) (σ:Nm→Option Ob) (v:PV):Option (PV×List Ob) :=
 let S:=qm0 shut v
 let R:=qbs σ qbe (v.names.filter fun nm=>!S.contains nm)
 let S:=if qff S&&S.all (fun nm=>!R.contains nm) then S else []
 let R:=qbs σ qbe (v.names.filter fun nm=>!S.contains nm)
 let v:=(v.sub fun nm=>if S.contains nm then none else qb5 σ nm).ren (Qbq S)
 match S.mapM σ with
 | some obs=>chk (qf7 σ R&&obs.all Qcu) (some (v,obs.map Ob.bare))
 | none=>none
theorem handS_eq (shut:Bool) (st:St) (v:PV):handS shut (qbf st.objs) v=qjo shut st v:=rfl
def callS (M:qdb) (n:Nat) (tab:FuncId→Option RFn):qva:=fun _ h dep f args e =>
 match tab f with
 | none=>none
 | some fn=>fVL false args fun args =>
  match qg5 M n fn.code h dep (Ss.frame fn.nt args) e with
  | some (x,s,e) =>
   match x with
   | .exit _=>none
   | _=>match qv8 s fn.res with
    | some vs=>match handS fn.shut (qyj s) (qna vs) with
     | some (v,obs)=>fV true v fun v=>fObs true obs fun obs=>some (v,obs,e)
     | none=>none
    | none=>none
  | none=>none
theorem callS_eq (M:qdb) (n:Nat) (tab:FuncId→Option RFn):callS M n tab=qnz M n tab:=by
 funext E h dep f args e
 simp only[callS,qnz,qly]
 cases tab f with
 | none=>rfl
 | some fn =>
  dsimp only
  rw[←Ql7,←qht]
  cases qg5 M n fn.code h dep (Ss.frame fn.nt args) e with
  | none=>rfl
  | some p =>
   obtain⟨x,s,e1⟩:=p
   simp only[Option.map_some,DE,qqt,qqz,handS_eq,fV_eq,Qj7]
   cases x<;>rfl
def qg7 (M:qdb) (fuel nt:Nat):qcm→Ss→Option (Ex×Ss×List Nat)
 | .dreg ops f args live,s=>match runS M qba 0 ops ops (qkc (qmp ops) s) () with
  | some (s,_)=>chk (decide (args.length+1≤nt)&&isFn (f.evP s))
    (fSs (tidyS live (pushS nt (f.evP s :: args.map (RX.evP s)) s)) fun s=>some (.normal,s,[args.length]))
  | none=>none
 | .seq a b,s=>match qg7 M fuel nt a s with
  | some (.normal,s,l)=>match qg7 M fuel nt b s with
   | some (x,s,l')=>some (x,s,l'++l)
   | none=>none
  | r=>r
 | .cond c a b,s=>match c.evP s with
  | .bool true=>qg7 M fuel nt a s
  | .bool false=>qg7 M fuel nt b s
  | _=>none
 | .block id body,s=>match qg7 M fuel nt body s with
  | some (.exit id',s,l)=>if id'=id then some (.normal,s,l) else some (.exit id',s,l)
  | r=>r
 | .scope body,s=>if qvf body then none else match qg7 M fuel nt body s with
  | some (.exit id,s,l)=>if id < qf6 then some (.exit id,s,l) else none
  | r=>r
 | c,s=>match qg5 M fuel c qba 0 s () with
  | some (x,s,_)=>some (x,s,[])
  | none=>none
def DL (q:Ex×Ss×List Nat):Ex×St×List Nat:=(q.1,q.2.1.st,q.2.2)
theorem qfy (M:qdb) (fuel:Nat) (c:qcm) (s:Ss):(match qg5 M fuel c qba 0 s () with
  | some (x,s,_)=>some (x,s,([]:List Nat))
  | none=>none).map DL=qqa (qbk M fuel c qba 0 s.st ()):=by
 rw[←qht]
 cases qg5 M fuel c qba 0 s ()<;>rfl
theorem qj5 (M:qdb) (fuel nt:Nat):∀ (c:qcm) (s:Ss),(qg7 M fuel nt c s).map DL=qca M fuel nt c s.st
 | .dreg ops f args live,s=>by
  simp only[qg7,qca]
  have hr:=Qh4 M qba 0 ops ops (qkc (qmp ops) s) ()
  rw[qs7] at hr
  rw[←hr]
  cases runS M qba 0 ops ops (qkc (qmp ops) s) () with
  | none=>rfl
  | some p =>
   obtain⟨s1,_⟩:=p
   show (chk _ _).map DL=chk _ _
   rw[chk_map,Qmf]
   simp only[qns,Option.map_some,DL,D2,Qbs,pushS_eq]
 | .seq a b,s=>by
  simp only[qg7,qca]
  rw[←qj5 M fuel nt a]
  cases qg7 M fuel nt a s with
  | none=>rfl
  | some p =>
   obtain⟨x,s1,l⟩:=p
   cases x with
   | normal =>
    show Option.map DL (match qg7 M fuel nt b s1 with
     | some (x,s,l')=>some (x,s,l'++l)
     | none=>none)=(match qca M fuel nt b s1.st with
     | some (x,st,l')=>some (x,st,l'++l)
     | none=>none)
    rw[←qj5 M fuel nt b]
    cases qg7 M fuel nt b s1<;>rfl
   | exit id=>rfl
   | ret=>rfl
 | .cond c a b,s=>by
  simp only[qg7,qca,Qmf]
  cases c.ev s.st.tmps with
  | bool x=>cases x with
   | true=>exact qj5 M fuel nt a s
   | false=>exact qj5 M fuel nt b s
  | _=>rfl
 | .block id b,s=>by
  simp only[qg7,qca]
  rw[←qj5 M fuel nt b]
  cases qg7 M fuel nt b s with
  | none=>rfl
  | some p =>
   obtain⟨x,s1,l⟩:=p
   cases x with
   | normal=>rfl
   | exit id' =>
    simp only[Option.map_some,DL]
    split<;>rfl
   | ret=>rfl
 | .scope b,s=>by
  simp only[qg7,qca]
  split
  ·rfl
  ·rw[←qj5 M fuel nt b]
   cases qg7 M fuel nt b s with
   | none=>rfl
   | some p =>
    obtain⟨x,s1,l⟩:=p
    cases x with
    | normal=>rfl
    | exit id' =>
     simp only[Option.map_some,DL]
     split<;>rfl
    | ret=>rfl
 | .skip,s=>qfy M fuel .skip s
 | .region a b c,s=>qfy M fuel (.region a b c) s
 | .loop a b c,s=>qfy M fuel (.loop a b c) s
 | .rangeFunc a b c d,s=>qfy M fuel (.rangeFunc a b c d) s
 | .exit a,s=>qfy M fuel (.exit a) s
 | .ret,s=>qfy M fuel .ret s
 | .norm a,s=>qfy M fuel (.norm a) s
 | .bad,s=>qfy M fuel .bad s
def qsq (g:List Nat) (nt:Nat) (ins:List Ob) (vs:List PV):Ss:=⟨vs.length+(nt - vs.length),Qca qcw 0 vs,nt,[(0,ins)],nt,Qca qcw 0 (Qhs g nt ins.length)⟩
theorem ioFrame_st (g:List Nat) (nt:Nat) (ins:List Ob) (vs:List PV):(qsq g nt ins vs).st=Qdp g nt ins vs:=by
 have h:=Ql7 nt vs
 unfold Ss.frame Ss.st at h
 injection h with h1 h2 h3
 unfold qsq Qdp Ss.st
 dsimp only
 rw[h1,Qkf,h2,qnv (xs:=Qhs g nt ins.length) (by simp[Qhs]) fun i hi=>by rw[qjx qfh,if_neg (by omega),List.getD_eq_getElem?_getD,Nat.sub_zero,List.getElem?_eq_getElem (by simpa[Qhs] using hi)];rfl]
def Qgb (M:qdb) (n:Nat) (fn:RFn) (ins:List Ob) (vs:List PV):Option (Ss×PV) :=
 if noD fn.code then fSs (qsq fn.gone fn.nt ins vs) fun s0=>match qg5 M n fn.code qba 0 s0 () with
  | some (x,s,_) =>
   match x with
   | .exit _=>none
   | _=>match qv8 s fn.res with
    | some rs=>some (s,qna rs)
    | none=>none
  | none=>none
 else fSs (qsq fn.gone fn.nt ins vs) fun s0=>match qg7 M n fn.nt fn.code s0 with
  | some (x,s,l) =>
   match x with
   | .exit _=>none
   | _=>match Qmi M fn.nt l s.st with
    | some st=>fSs (Ss.of st) fun s=>match qv8 s fn.res with
     | some rs=>some (s,qna rs)
     | none=>none
    | none=>none
  | none=>none
theorem Qga (M:qdb) (n:Nat) (fn:RFn) (ins:List Ob) (vs:List PV):(Qgb M n fn ins vs).map (fun q=>(q.1.st,q.2))=qls M n fn ins vs:=by
 unfold Qgb qls
 simp only[qns]
 rw[←ioFrame_st]
 split
 ·rw[←qht]
  cases qg5 M n fn.code qba 0 (qsq fn.gone fn.nt ins vs) () with
  | none=>rfl
  | some p =>
   obtain⟨x,s,e1⟩:=p
   simp only[Option.map_some,DE,qqt]
   cases x with
   | exit id=>rfl
   | normal=>dsimp only;cases qkm s.st fn.res<;>rfl
   | ret=>dsimp only;cases qkm s.st fn.res<;>rfl
 ·rw[←qj5]
  cases qg7 M n fn.nt fn.code (qsq fn.gone fn.nt ins vs) with
  | none=>rfl
  | some p =>
   obtain⟨x,s,l⟩:=p
   have key:∀ o:Option St,Option.map (fun q:Ss×PV=>(q.1.st,q.2)) (match o with
     | some st=>(match qv8 (Ss.of st) fn.res with
      | some rs=>some (Ss.of st,qna rs)
      | none=>none)
     | none=>none)=(match o with
     | some st=>(match qkm st fn.res with
      | some rs=>some (st,qna rs)
      | none=>none)
     | none=>none):=fun o=>by
    cases o with
    | none=>rfl
    | some st =>
     dsimp only
     rw[qqt,Qfi]
     cases qkm st fn.res with
     | none=>rfl
     | some rs=>simp only[Option.map_some,Qfi]
   simp only[Option.map_some,DL]
   cases x with
   | exit id=>rfl
   | normal=>exact key _
   | ret=>exact key _
end
end Go.Ab


namespace Go.Ab
abbrev MioT:=FuncId→List Ob→List PV→Option (Ss×PV)
noncomputable def ioOfM (mio:MioT) (M:qdb) (n:Nat) (tab:FuncId→Option RFn) (f:FuncId) (dst:Nat) (σ:Nm→Option Ob) (vs:List PV):Option Out :=
 match tab f with
 | none=>none
 | some fn =>
  match (qcc (qbs σ qbe (qbd vs))).mapM σ with
  | none=>none
  | some ins =>
   chk (!qcu vs&&qf7 σ (qcc (qbs σ qbe (qbd vs)))&&ins.all (fun o=>!o.hasY)&&(decide (vs.length≤fn.nt)&&decide ((qcc (qbs σ qbe (qbd vs))).length≤fn.nt)&&decide (0 < fn.nt))) (
    match mio f (ins.map (Ob.ren fun m=>(0,(qcc (qbs σ qbe (qbd vs))).idxOf m))) (qf1 (fun m=>(0,(qcc (qbs σ qbe (qbd vs))).idxOf m)) vs) with
    | some (s,v)=>qjd σ dst (qcc (qbs σ qbe (qbd vs))) s.st v
    | none=>match qls M n fn (ins.map (Ob.ren fun m=>(0,(qcc (qbs σ qbe (qbd vs))).idxOf m))) (qf1 (fun m=>(0,(qcc (qbs σ qbe (qbd vs))).idxOf m)) vs) with
     | some (st,v)=>qjd σ dst (qcc (qbs σ qbe (qbd vs))) st v
     | none=>none)
def MioOK (sp:FuncId→(Nm→Option Ob)→List PV→Option Out) (tab:FuncId→Option RFn) (mio:MioT):Prop :=
 ∀ g ins vs s v fn,tab g=some fn→mio g ins vs=some (s,v)→∃ n,qls (qgt sp tab n) n fn ins vs=some (s.st,v)
section
variable {memo:FuncId→List PV→Option PV} {mio:MioT} {sp:FuncId→(Nm→Option Ob)→List PV→Option Out} {tab:FuncId→Option RFn}
theorem ioOfM_par (hio:MioOK sp tab mio) {M1:qdb} (hM:MLe M1 (qgt sp tab)) (n:Nat) (g:FuncId) (dst:Nat) (σ:Nm→Option Ob) (vs:List PV) (out:Out) (h:ioOfM mio M1 n tab g dst σ vs=some out) :
  Evl fun k=>Qjy (qgt sp tab k) k tab g dst σ vs=some out:=by
 unfold ioOfM at h
 unfold Qjy
 cases ht:tab g with
 | none=>rw[ht] at h;cases h
 | some fn =>
  rw[ht] at h
  simp only at h ⊢
  cases hm:(qcc (qbs σ qbe (qbd vs))).mapM σ with
  | none=>rw[hm] at h;cases h
  | some ins =>
   rw[hm] at h
   simp only at h ⊢
   unfold chk at h ⊢
   split at h
   case isFalse=>cases h
   rename_i hc
   simp only[hc,if_true]
   cases hq0:mio g (ins.map (Ob.ren fun m=>(0,(qcc (qbs σ qbe (qbd vs))).idxOf m))) (qf1 (fun m=>(0,(qcc (qbs σ qbe (qbd vs))).idxOf m)) vs) with
   | some p =>
    rw[hq0] at h
    obtain⟨m,hm'⟩:=hio _ _ _ p.1 p.2 fn ht hq0
    refine (qq9 (Qc8 m) m fn _ _ hm').mono fun k hk=>?_
    rw[hk]
    exact h
   | none =>
    rw[hq0] at h
    simp only at h
    cases hq:qls M1 n fn (ins.map (Ob.ren fun m=>(0,(qcc (qbs σ qbe (qbd vs))).idxOf m))) (qf1 (fun m=>(0,(qcc (qbs σ qbe (qbd vs))).idxOf m)) vs) with
    | none=>rw[hq] at h;cases h
    | some p =>
     rw[hq] at h
     refine (qq9 hM n fn _ _ hq).mono fun k hk=>?_
     rw[hk]
     exact h
noncomputable def qxq (memo:FuncId→List PV→Option PV) (mio:MioT) (sp:FuncId→(Nm→Option Ob)→List PV→Option Out) (tab:FuncId→Option RFn):Nat→qdb
 | 0=>qgt sp tab 0
 | n+1=>{qgt sp tab 0 with call:=Qcf memo (qnz (qxq memo mio sp tab n) n tab),io:=Qlu tab (ioOfM mio (qxq memo mio sp tab n) n tab),rio:=Qb0 (qxq memo mio sp tab n) n tab}
theorem Qgv (hm:∀ g args r,memo g args=some r→∃ n,qbi sp tab n Unit qba 0 g args ()=some (r,[],())) (hio:MioOK sp tab mio):∀ n,MLe (qxq memo mio sp tab n) (qgt sp tab):=by
 intro n
 induction n with
 | zero=>exact Qc8 0
 | succ n ih =>
  have hk:=Qbi ih n tab
  refine MLe.of_tail ⟨fun k=>rfl,?_,fun k=>rfl,fun k=>rfl,fun k=>rfl,fun g dst σ vs out h=>Qlt tab (fun g dst σ vs out h=>ioOfM_par hio ih n g dst σ vs out h) g dst σ vs out h,Qd6 ih n tab⟩ rfl rfl rfl rfl
  intro E1 E2 RE h1 h2 hh dep g args e1 e2 he r obs e1' h
  simp only[qxq,Qcf] at h
  split at h
  ·rename_i r' hr
   cases h
   obtain⟨m,hm'⟩:=hm g args r hr
   obtain⟨_,rfl,a,ha⟩:=qs4 m Unit E2 (fun _ e=>e2=e) qba (fun k=>h2 (k - 1)) (fun _ _ _ _ _ _ _ h=>by cases h) 0 g args () e2 rfl r [] () hm'
   exact⟨e2,he,a,fun k hk=>ha (k+1) (by omega)⟩
  ·exact hk E1 E2 RE h1 h2 hh _ g args e1 e2 he r obs e1' h
noncomputable def ioOfMS (mio:MioT) (M:qdb) (n:Nat) (tab:FuncId→Option RFn) (f:FuncId) (dst:Nat) (σ:Nm→Option Ob) (vs:List PV):Option Out :=
 match tab f with
 | none=>none
 | some fn =>
  fSp (qcc (qbs σ qbe (qbd vs))) fun R =>
  match R.mapM σ with
  | none=>none
  | some ins =>
   chk (!qcu vs&&qf7 σ R&&ins.all (fun o=>!o.hasY)&&(decide (vs.length≤fn.nt)&&decide (R.length≤fn.nt)&&decide (0 < fn.nt))) (
    fObDs (ins.map (Ob.ren fun m=>(0,R.idxOf m))) fun ins=>fVL false (qf1 (fun m=>(0,R.idxOf m)) vs) fun vs =>
    match mio f ins vs with
    | some (s,v)=>qjd σ dst R s.st v
    | none=>match Qgb M n fn ins vs with
     | some (s,v)=>qjd σ dst R s.st v
     | none=>none)
theorem ioOfMS_eq (mio:MioT) (M:qdb) (n:Nat) (tab:FuncId→Option RFn):ioOfMS mio M n tab=ioOfM mio M n tab:=by
 funext f dst σ vs
 unfold ioOfMS ioOfM
 simp only[qrl,Qme,qly]
 cases tab f with
 | none=>rfl
 | some fn =>
  dsimp only
  cases (qcc (qbs σ qbe (qbd vs))).mapM σ with
  | none=>rfl
  | some ins =>
   dsimp only
   rw[←Qga]
   congr 1
   cases mio f (ins.map (Ob.ren fun m=>(0,(qcc (qbs σ qbe (qbd vs))).idxOf m))) (qf1 (fun m=>(0,(qcc (qbs σ qbe (qbd vs))).idxOf m)) vs) with
   | some p=>rfl
   | none =>
    dsimp only
    cases Qgb M n fn (ins.map (Ob.ren fun m=>(0,(qcc (qbs σ qbe (qbd vs))).idxOf m))) (qf1 (fun m=>(0,(qcc (qbs σ qbe (qbd vs))).idxOf m)) vs)<;>rfl
noncomputable def qnt (memo:FuncId→List PV→Option PV) (mio:MioT) (sp:FuncId→(Nm→Option Ob)→List PV→Option Out) (tab:FuncId→Option RFn):Nat→qdb
 | 0=>qgt sp tab 0
 | n+1=>{qgt sp tab 0 with call:=Qcf memo (callS (qnt memo mio sp tab n) n tab),io:=Qlu tab (ioOfMS mio (qnt memo mio sp tab n) n tab),rio:=rioOfQ (qnt memo mio sp tab n) n tab}
theorem qs1 (memo:FuncId→List PV→Option PV) (mio:MioT) (sp:FuncId→(Nm→Option Ob)→List PV→Option Out) (tab:FuncId→Option RFn):∀ n,qnt memo mio sp tab n=qxq memo mio sp tab n
 | 0=>rfl
 | n+1=>by simp only[qnt,qxq,qs1 memo mio sp tab n,callS_eq,ioOfMS_eq,rioOfQ_eq]
end
def sameO:Ob→Ob→Bool
 | .cells t cs,.cells t' cs'=>decide (t=t')&&Qby cs cs'
 | _,_=>false
def Qk2:List Ob→List Ob→Bool
 | [],[]=>true
 | x :: xs,y :: ys=>sameO x y&&Qk2 xs ys
 | _,_=>false
theorem sameO_eq (x y:Ob) (h:sameO x y=true):x=y:=by
 unfold sameO at h
 split at h
 ·simp only[Bool.and_eq_true,decide_eq_true_eq] at h;rw[h.1,qmb _ _ h.2]
 ·cases h
theorem Qd4:∀ (xs ys:List Ob),Qk2 xs ys=true→xs=ys
 | xs,ys,h=>by
  unfold Qk2 at h
  split at h
  ·rfl
  ·rename_i x xs y ys
   simp only[Bool.and_eq_true] at h
   rw[sameO_eq x y h.1,Qd4 xs ys h.2]
  ·cases h
abbrev qx6:=List (FuncId×List Ob×List PV×Ss×PV)
def mioOf:qx6→MioT
 | [],_,_,_=>none
 | p :: l,g,ins,vs=>if p.1=g∧(Qk2 p.2.1 ins&&Qby p.2.2.1 vs)=true then some p.2.2.2 else mioOf l g ins vs
def qmv (sp:FuncId→(Nm→Option Ob)→List PV→Option Out) (tab:FuncId→Option RFn) (l:qx6):Prop :=
 ∀ p∈l,∀ fn,tab p.1=some fn→∃ n,qls (qgt sp tab n) n fn p.2.1 p.2.2.1=some (p.2.2.2.1.st,p.2.2.2.2)
section
variable {sp:FuncId→(Nm→Option Ob)→List PV→Option Out} {tab:FuncId→Option RFn} {l:qt9} {li:qx6}
theorem qcv:qmv sp tab []:=fun _ h=>by cases h
theorem Qb1 {p:FuncId×List Ob×List PV×Ss×PV} (h:∀ fn,tab p.1=some fn→∃ n,qls (qgt sp tab n) n fn p.2.1 p.2.2.1=some (p.2.2.2.1.st,p.2.2.2.2)) (hl:qmv sp tab li):qmv sp tab (p :: li):=fun q hq=>by
 rcases List.mem_cons.1 hq with rfl | hq
 ·exact h
 ·exact hl q hq
theorem Qce:∀ {li:qx6},qmv sp tab li→MioOK sp tab (mioOf li)
 | [],_,g,ins,vs,s,v,fn,_,h=>by cases h
 | p :: li,hl,g,ins,vs,s,v,fn,ht,h=>by
  unfold mioOf at h
  split at h
  ·rename_i hc
   obtain⟨h1,h2⟩:=hc
   simp only[Bool.and_eq_true] at h2
   have e1:=Qd4 _ _ h2.1
   have e2:=qmb _ _ h2.2
   obtain⟨n,hn⟩:=hl p List.mem_cons_self fn (by rw[h1];exact ht)
   have h3:p.2.2.2=(s,v):=Option.some.inj h
   rw[e1,e2,h3] at hn
   exact⟨n,hn⟩
  ·exact Qce (fun q hq=>hl q (List.mem_cons_of_mem _ hq)) g ins vs s v fn ht h
theorem qbq (hl:ql3 sp tab l) (hi:qmv sp tab li) {n:Nat} {g:FuncId} {args:List PV} {r:PV}
  (h:(qnt (qze l) (mioOf li) sp tab n).call Unit qba 0 g args ()=some (r,[],())):∃ m,qbi sp tab m Unit qba 0 g args ()=some (r,[],()):=by
 rw[qs1] at h
 obtain⟨m,hm'⟩:=qvt (Qgv (qsl hl) (Qce hi) n) g args h
 exact⟨m,hm' m (Nat.le_refl _)⟩
theorem io_io (hl:ql3 sp tab l) (hi:qmv sp tab li) {n:Nat} {fn:RFn} {ins:List Ob} {vs:List PV} {s:Ss} {v:PV}
  (h:(Qgb (qnt (qze l) (mioOf li) sp tab n) n fn ins vs).map (fun q=>(Ss.of q.1.st,q.2))=some (s,v)):∃ m,qls (qgt sp tab m) m fn ins vs=some (s.st,v):=by
 have h2:=Qga (qnt (qze l) (mioOf li) sp tab n) n fn ins vs
 obtain⟨q,hq,hs⟩:=Option.map_eq_some_iff.1 h
 obtain⟨rfl,rfl⟩:=Prod.mk.inj hs
 rw[hq,qs1] at h2
 obtain⟨m,hm'⟩:=qq9 (Qgv (qsl hl) (Qce hi) n) n fn ins vs h2.symm
 rw[Qfi]
 exact⟨m,hm' m (Nat.le_refl _)⟩
end
end Go.Ab

