/-
  Part 11 of a proof: a machine of our own for the given program, its laws, and what it says of the program. Nothing here is a claim by itself.
-/
import Derived.Test.YtbeonejdegijfaaGreatDoorK06
import Derived.Test.YtbeonejdegijfaaGreatDoorK10
import Derived.Test.YtbeonejdegijfaaGreatDoorProg
import Derived.WalkKit
import Derived.LaidEql
import Derived.Stop.Asserts
import Derived.RowKitTokens
import Derived.Test.YtbeonejdegijfaaGreatDoorK01
import Derived.Lib.Builder
import Derived.Lib.UnsafeStr
import Derived.Lib.Bytealg
import Derived.Lib.AppendZerosOnto
import Derived.Lib.Walk
import Derived.Lib.SliceRun
import Derived.Laws.Externs
import Derived.Shelf.RegionOpenPlain
import Derived.Shelf.Strings.Replace
import Derived.Shelf.Strconv.Itoa4
import Derived.Lib.Strings
import Derived.Conc.MuLone
import Derived.Laws.LoneSync
import Derived.KernelRfl
import Derived.Test.YtbeonejdegijfaaGreatDoorK05
import Derived.Test.YtbeonejdegijfaaGreatDoorK03
import Derived.ChangeArms
import Derived.ChangeSlices
import Derived.ChangeMaps5
import Derived.JoinedOf
import Derived.RowKit
import Derived.Test.YtbeonejdegijfaaGreatDoorRows
import Derived.ProofKit
import Derived.ChangeSame
import Derived.ChangeVars
import Derived.LaidLaws
import Derived.LaidHandle
import Derived.Stop.Joined
import Derived.Carry
import Derived.Stop.LaidTwo
import Derived.Stop.LaidErr
import Derived.LaidSub
import Derived.Lib.LaidTab
import Derived.Shelf.Vars
import Derived.Handed
set_option linter.all false

namespace Go.Ab.Derive2
open Go Go.Ab
theorem Qgr:qbj B0 .cl (.fn 11 []) []=some (.bool true):=by
 obtain⟨n,h⟩:=ev_shown
 exact qps (by decide) h rfl rfl
def Arr.cut (a:Arr):Arr:=⟨a.li,a.ru,a.n.take 40⟩
theorem cut_get {a:Arr} {x:PV} (hx:IsL x a.n):∃ y,qbb (.slice 1 (.c x) none (some (.c (I (min a.n.length 40:Nat)))) none)=some y∧IsL y a.cut.n:=by
 obtain⟨y,hy,hl⟩:=hx.hi (k:=min a.n.length 40) (by omega)
 refine⟨y,hy,?_⟩
 have e:a.n.take (min a.n.length 40)=a.n.take 40:=by
  rcases Nat.le_total a.n.length 40 with h | h
  ·rw[Nat.min_eq_left h,List.take_length,List.take_of_length_le h]
  ·rw[Nat.min_eq_right h]
 rw[e] at hl
 exact hl
theorem cut_len (a:Arr):a.cut.n.length≤40:=by unfold Arr.cut;rw[List.length_take];omega
theorem Qhd {b c:Bool} {x y:PV} {l:List Int} (h:IsL y l):okSto y (.agg [.bool b,.bool c,x]) 2 1=true:=by
 cases h<;>rfl
theorem Qnd {b c:Bool} {x y:PV} {l:List Int} (h:IsL y l):Qbz y (.agg [.bool b,.bool c,x]) 2=.agg [.bool b,.bool c,y]:=by
 cases h<;>rfl
set_option maxHeartbeats 1000000 in
theorem Qhq {v:PV} {a:Arr} (hv:IsA v a):qfy (qdo B0 (fun _=>.cl)) fn7 (.cl) qbc 0 [.cv v] ()=some (.bool true,()):=by
 obtain⟨x,rfl,hx⟩:=hv.get
 obtain⟨y,hy,hyl⟩:=cut_get hx
 have hb:IsA (.agg [.bool a.li,.bool a.ru,y]) a.cut:=.mk _ _ _ _ hyl
 have hlen:=cut_len a
 obtain⟨w,h1,h2⟩:=red_run (g:=Qfo) (dy_ok rfl) (n:=0) (qps (n:=60) (by decide) (by kernel_rfl) rfl rfl) hb (by omega)
 obtain⟨z,rfl,hz⟩:=h2.get
 rw[run7,qvk hx,cT,Qgr,bV]
 simp only[qh7,qco,qn1,qn0,qmb,qvs,bV,hx.len]
 rw[min_run 40 40 rfl,bV,hy,bV,Qhd hyl,cT,Qnd hyl,qco,qvs,bV]
 rw[show PV.str [226,140,136]=.str Qfo from rfl,h1,bV]
 simp only[qdq,List.getElem?_cons_zero,List.getElem?_cons_succ,bV,qcb h2,cT,qwr,iD,qbh,qco,qn1,qn0,qmb,qvs,qkz hb (by omega:a.cut.n.length≤1000000),qc1,hyl.len,qpv,hz.len,qlw,qlv,qjl]
 rcases greatest a.cut with ⟨h3,h4⟩ | ⟨h3,ru,k,h4,h5,h6⟩
 ·rw[if_pos (by simpa using h3),if_pos trivial]
  rcases h4 with h4 | h4 | h4
  ·rw[h4];rfl
  ·split
   ·rfl
   ·rw[if_pos (by simp[h4])]
  ·split
   ·rfl
   ·split
    ·rfl
    ·rw[show a.ru=true from h4]
 ·rw[if_neg (by simp[h3])]
  rw[h4] at hz ⊢
  rw[if_neg (by simp),show qci [.bool true,.bool false,I 0]=true from rfl,cT]
  have hz0:qbb (.idxAddr 1 (.c z) (.c (I 0)))=some (.ptr [I k] 0):=hz.idx (i:=0) (by simp)
  have ld:∀ n:Int,qbb (.load 1 false (.c (.ptr [I n] 0)))=some (I n):=fun _=>rfl
  refine loop_run (fun i=>(([.bool true,.bool ((a.cut.n.take i).any (·==k)),I i,.agg [.bool a.li,.bool a.ru,y],.bool false,.bool ru,z],()):List PV×Unit)) a.cut.n.length rfl ?_ ?_
  ·intro i hi
   have hle:¬ (k < a.cut.n[i]):=by have:=h6 _ (List.getElem_mem hi);omega
   simp only[qfb,qfa,qfj,qgk,qlj,qnd,qnr,qco,qmb,bV,hyl.len,qg1,qbh]
   rw[if_pos (by simpa using hi)]
   simp only[hyl.idx hi,hz0,ld,bV,Qm3,qpv,qbh,Qbp,Qbc (by omega:i < 9223372036854775807)]
   rw[List.take_succ_eq_append_getElem hi,List.any_append,show decide (k < a.cut.n[i])=false by simpa using hle]
   cases (a.cut.n.take i).any (·==k)
   ·rw[if_neg Bool.false_ne_true,if_neg Bool.false_ne_true]
    simp
   ·rw[if_pos rfl,if_neg Bool.false_ne_true]
    simp
  ·simp only[qfb,qfa,qfj,qgk,qlj,qnd,qnr,qco,qmb,bV,hyl.len,qg1,qbh,List.take_length]
   rw[if_neg (by simp),show a.cut.n.any (·==k)=true from List.any_eq_true.2 ⟨k,h5,by simp⟩]
   rfl
end Go.Ab.Derive2


namespace Go.Ab.Derive2
open Go Go.Ab
theorem Qkw {F:Arr→Arr×Int}:∀ {l:List Arr},(∀ a∈l,(F a).2=0)→thrF F l=.inr (l.map fun a=>(F a).1)
 | [],_=>rfl
 | a :: l,h=>by rw[qxe,if_pos (h a List.mem_cons_self),Qkw fun b hb=>h b (List.mem_cons_of_mem _ hb)];rfl
theorem Qke (ru:Bool):∀ l:List Int,qqk (l.map (qgs ru))=l
 | []=>rfl
 | n :: l=>by
  have:=Qke ru l
  unfold qqk at this ⊢
  rw[List.map_cons,List.flatMap_cons,this]
  rfl
theorem Qpk {li ru:Bool} {l:List Int} (hr:∀ n∈l,(qgs ru n).right=true) (h1:li=false→l.length=1) (h2:l.length≤200) (r0:Bool) :
  Qbm li (l.map (qgs ru))=0∧gatA li r0 (l.map (qgs ru))=⟨li,if l.length=0 then r0 else ru,l⟩:=by
 have e:Qbm li (l.map (qgs ru))=0:=by
  unfold Qbm
  have a1:(l.map (qgs ru)).all Arr.right=true:=by
   rw[List.all_eq_true]
   intro a ha
   obtain⟨n,hn,rfl⟩:=List.mem_map.1 ha
   exact hr n hn
  have a2:(l.map (qgs ru)).any Arr.li=false:=by
   rw[List.any_eq_false]
   intro a ha
   obtain⟨n,hn,rfl⟩:=List.mem_map.1 ha
   simp[qgs]
  have a3:(l.map (qgs ru)).any (fun a=>a.ru != (hdA (l.map (qgs ru))).ru)=false:=by
   rw[List.any_eq_false]
   intro a ha
   obtain⟨n,hn,rfl⟩:=List.mem_map.1 ha
   cases l with
   | nil=>cases hn
   | cons m l=>simp[qgs,hdA]
  rw[a1,a2,a3]
  simp only[Bool.true_eq_false,Bool.false_eq_true,if_false,List.length_map]
  rw[if_neg (fun h=>h.2 (h1 h.1)),if_neg (by omega)]
 refine⟨e,?_⟩
 unfold gatA
 rw[if_pos e,Qke,List.length_map]
 cases l with
 | nil=>rfl
 | cons n l=>rfl
theorem b_shape {b:Arr} (hr:b.right=true):(b.li=false→b.n.length=1)∧b.n.length≤200:=by
 refine⟨fun h=>?_,Qdx hr⟩
 unfold Arr.right at hr
 simp only[Bool.and_eq_true,h] at hr
 simpa using hr.2
theorem mon_itm {g:List UInt8} (hg:ql3 g=true) (x:Int):Arr.mon g (qgs false x)=if (Qba g x).2.no≠0 then (qf2,(Qba g x).2.no) else (qgs false (Qba g x).1,0):=by
 unfold Arr.mon
 rw[qyu,if_neg (by simp),if_neg (by simp[hg]),if_neg (by simp[qgs,Arr.text])]
 show (match monL (Qba g) [x] with | .inl c=>(qf2,c) | .inr r=>(⟨false,false,r⟩,0))=_
 unfold monL
 by_cases h:(Qba g x).2.no≠0
 ·rw[if_pos h,if_pos h]
 ·rw[if_neg h,if_neg h];rfl
theorem add_itm (x:Int):orNo (Arr.mon Ql8 (qgs false x))=(qgs false x,0):=by
 rw[mon_itm (g:=Ql8) rfl];rfl
theorem each_same {b:Arr} (hr:b.right=true) (hru:b.ru=false) (hn:b.n≠[]):Qml (Arr.mon Ql8) b=(b,0):=by
 obtain⟨s1,s2⟩:=b_shape hr
 have hF:∀ a∈b.n.map (qgs b.ru),orNo (Arr.mon Ql8 a)=(a,0):=by
  intro a ha
  obtain⟨n,_,rfl⟩:=List.mem_map.1 ha
  rw[hru];exact add_itm n
 unfold Qml qws
 rw[Qkw fun a ha=>by rw[hF a ha],List.map_congr_left (g:=id) (fun a ha=>by rw[hF a ha];rfl),List.map_id,hru]
 obtain⟨e1,e2⟩:=Qpk (li:=b.li) (ru:=false) (l:=b.n) (fun n _=>rfl) s1 s2 false
 simp only[e1,e2]
 rw[if_neg (by rw[List.length_eq_zero_iff];exact hn),←hru]
def qsi (l:List Int):Int :=
 match l.reverse with
 | []=>0
 | m :: r=>r.foldl (fun o x=>min x o) m
theorem Qg1 {b:Arr} (hru:b.ru=false) (hn:b.n≠[]) (N:Arr×Int):qz9 (Arr.dy Qbb) N b=(qgs false (qsi b.n),0):=by
 obtain⟨r,m,hb,hbr⟩:=qyl hn
 unfold qz9 qsi
 rw[hbr,hru]
 exact red_min m r
def qk5 (l:List Int):List Int:=(List.range l.length).map fun i=>qsi (l.take (i+1))
theorem scan_least {b:Arr} (hr:b.right=true) (hru:b.ru=false) (hn:b.n≠[]) (N:Arr×Int):Qk2 (Arr.dy Qbb) N b=(⟨b.li,false,qk5 b.n⟩,0):=by
 obtain⟨s1,s2⟩:=b_shape hr
 have hF:∀ i,i < b.n.length→qz9 (Arr.dy Qbb) N (Qjg b.ru b.n i)=(qgs false (qsi (b.n.take (i+1))),0):=by
  intro i hi
  refine Qg1 (b:=Qjg b.ru b.n i) hru ?_ N
  intro h
  have:=congrArg List.length h
  simp only[Qjg,List.length_take,List.length_nil] at this
  omega
 have hl:((qy3 b).map fun a=>(qz9 (Arr.dy Qbb) N a).1)=(qk5 b.n).map (qgs false):=by
  unfold qy3 qk5
  rw[List.map_map,List.map_map]
  refine List.map_congr_left fun i hi=>?_
  show (qz9 (Arr.dy Qbb) N (Qjg b.ru b.n i)).1=_
  rw[hF i (List.mem_range.1 hi)]
  rfl
 unfold Qk2 qws
 rw[Qkw (by
  intro a ha
  obtain⟨i,hi,rfl⟩:=List.mem_map.1 ha
  rw[hF i (List.mem_range.1 hi)]),hl]
 have hlen:(qk5 b.n).length=b.n.length:=by simp[qk5]
 obtain⟨e1,e2⟩:=Qpk (li:=b.li) (ru:=false) (l:=qk5 b.n) (fun n _=>rfl) (fun h=>by rw[hlen];exact s1 h) (by rw[hlen];exact s2) b.ru
 simp only[e1,e2]
 rw[if_neg (by rw[hlen,List.length_eq_zero_iff];exact hn)]
theorem least_one {l:List Int} (h:0 < l.length):qsi (l.take (0+1))=l[0]:=by
 cases l with
 | nil=>cases h
 | cons k l=>rfl
theorem nUnitMin:qbj B0 .cl (.fn 178 []) [.str Qbb]=some (.tup [.int .i64 0,.bool false]):=qps (n:=60) (by decide) (by kernel_rfl) rfl rfl
theorem ldI (n:Int):qbb (.load 1 false (.c (.ptr [I n] 0)))=some (I n):=rfl
set_option maxHeartbeats 1000000 in
theorem law_same {v:PV} {a:Arr} (hv:IsA v a):qfy (qdo B0 (fun _=>.cl)) fn8 (.cl) qbc 0 [.cv v] ()=some (.bool true,()):=by
 obtain⟨x,rfl,hx⟩:=hv.get
 obtain⟨y,hy,hyl⟩:=cut_get hx
 have hb:IsA (.agg [.bool a.li,.bool a.ru,y]) a.cut:=.mk _ _ _ _ hyl
 have hlen:=cut_len a
 obtain⟨w,h1,h2⟩:=each_any (g:=Ql8) (mon_ok rfl) hb (by omega)
 obtain⟨u,h3,h4⟩:=scan_any (g:=Qbb) (dy_ok rfl) (qf2,102) hb (by omega)
 obtain⟨t,h5,h6⟩:=red_run (g:=Qbb) (dy_ok rfl) nUnitMin hb (by omega)
 rw[run8,qvk hx,cT,Qgr,bV]
 simp only[qh7,qco,qn1,qn0,qmb,qvs,bV,hx.len]
 rw[min_run 40 40 rfl,bV,hy,bV,Qhd hyl,cT,Qnd hyl,qco,qvs,bV]
 rw[show PV.str [43]=.str Ql8 from rfl,h1,bV]
 simp only[qdq,List.getElem?_cons_zero,List.getElem?_cons_succ,bV,qcb h2,cT]
 rw[show PV.str [226,140,138]=.str Qbb from rfl,h3,bV]
 simp only[qdq,List.getElem?_cons_zero,List.getElem?_cons_succ,bV,qcb h4,cT]
 rw[h5,bV]
 simp only[qdq,List.getElem?_cons_zero,List.getElem?_cons_succ,bV,qcb h6,cT,qkz hb (by omega:a.cut.n.length≤1000000),qc1,qbh,qco,qn0,qmb,hyl.len,iD,qpv]
 cases hr:a.cut.right with
 | false=>rfl
 | true =>
  rw[if_neg (by simp)]
  cases hru:a.ru with
  | true=>rfl
  | false =>
   rw[if_neg (by simp)]
   by_cases hn:a.cut.n=[]
   ·rw[if_pos (by rw[hn];rfl)]
   ·have hpos:0 < a.cut.n.length:=List.length_pos_iff.2 hn
    rw[if_neg (by simp;omega)]
    have hru':a.cut.ru=false:=hru
    have e1:ifR a.cut (Qml (Arr.mon Ql8) a.cut)=(a.cut,0):=by unfold ifR;rw[if_pos hr,each_same hr hru' hn]
    have e2:ifR a.cut (Qk2 (Arr.dy Qbb) (qf2,102) a.cut)=(⟨a.cut.li,false,qk5 a.cut.n⟩,0):=by unfold ifR;rw[if_pos hr,scan_least hr hru' hn]
    have e3:ifR a.cut (Qlc (Arr.dy Qbb) a.cut)=(qgs false (qsi a.cut.n),0):=by unfold ifR Qlc;rw[if_pos hr,Qg1 hru' hn]
    rw[e1] at h2 ⊢
    rw[e2] at h4 ⊢
    rw[e3] at h6 ⊢
    obtain⟨u,rfl,hu⟩:=h4.get
    obtain⟨t,rfl,ht⟩:=h6.get
    have hu:IsL u (qk5 a.cut.n):=hu
    have ht:IsL t [qsi a.cut.n]:=ht
    have hml:(qk5 a.cut.n).length=a.cut.n.length:=by simp[qk5]
    have hlast:qk5 a.cut.n≠[]:=by intro h;rw[h] at hml;simp at hml;omega
    simp only[qjl,hu.len,ht.len,qwr,bV,qbh,iD,bne_self_eq_false,Bool.false_eq_true,if_false,hml]
    rw[show ([qsi a.cut.n].length:Int)=1 from rfl,show ((1:Int) != 1)=false from rfl]
    simp only[Bool.false_eq_true,if_false,if_true]
    rw[hru] at hb
    rw[qg0 h2,same_run (a:=a.cut) h2 hb (by omega) (by omega),bV,qbh,if_pos (by simp[Arr.same,eqL_iff])]
    rw[show I 0=I ((0:Nat):Int) from rfl,hu.idx (i:=0) (by omega),bV,ldI,bV,hyl.idx hpos,bV,ldI,bV,qpv,bV,qbh]
    have hfirst:(qk5 a.cut.n)[0]'(by omega)=a.cut.n[0]:=by
     simp only[qk5,List.getElem_map,List.getElem_range]
     exact least_one hpos
    rw[hfirst,if_pos (by simp),Qks,w64 (by omega) (by omega),bV]
    rw[show (a.cut.n.length:Int) - 1=((a.cut.n.length - 1:Nat):Int) by omega,hu.idx (i:=a.cut.n.length - 1) (by omega),bV,ldI,bV]
    rw[show I ((0:Nat):Int)=I ((0:Nat):Int) from rfl,ht.idx (i:=0) (by simp),bV,ldI,bV,qpv,bV]
    have hlst:(qk5 a.cut.n)[a.cut.n.length - 1]'(by omega)=qsi a.cut.n:=by
     simp only[qk5,List.getElem_map,List.getElem_range]
     rw[show a.cut.n.length - 1+1=a.cut.n.length by omega,List.take_length]
    rw[hlst]
    simp[qgs]
end Go.Ab.Derive2


namespace Go.Proofs.AbAsD
open Go.RowKit Go.Extern.Stop Go.Stop Go.Extern
theorem as_nil (t:Value) (w:World) :
  Calls Tryz.prog 95 #[.nilIface,t] w fun e w'=>e=.returned (.bool false)∧w'=w:=by
 go_enter Tryz.func95,Tryz.ntmps95
 go_wp2
 go_ret
 exact⟨rfl,rfl⟩
def Pr (P Q:TypeId):Prop:=(P=126∧Q=124)∨(P=146∧Q=145)∨(P=154∧Q=153)∨(P=182∧Q=143)
theorem Tryz.valueOf27 {P Q:TypeId} (hp:Pr P Q) (t:Addr) (w:World):(ReflectliteValue.unpack (.iface P (.pointer (some t)))).run Tryz.prog w
  = .ok (.agg #[.pointer (some ⟨9,P,none⟩),.pointer (some ⟨w.heap.size,0,none⟩),.int .u64 150]) (w.alloc (.cells #[.pointer (some t)] P)):=by
 rcases hp with ⟨rfl,rfl⟩ | ⟨rfl,rfl⟩ | ⟨rfl,rfl⟩ | ⟨rfl,rfl⟩<;>kernel_rfl
theorem Tryz.type27 {P Q:TypeId} (hp:Pr P Q) (a:Addr) (w:World):(ReflectliteValue.methodAny (ReflectliteValue.valueError "reflectlite.Value.Type" 0) (fun t _ _ _=>ReflectliteType.toType t) #[.agg #[.pointer (some ⟨9,P,none⟩),.pointer (some a),.int .u64 150]]).run Tryz.prog w
  = .ok (.iface 200 (.agg #[.pointer (some ⟨9,P,none⟩)])) w:=by
 rcases hp with ⟨rfl,rfl⟩ | ⟨rfl,rfl⟩ | ⟨rfl,rfl⟩ | ⟨rfl,rfl⟩<;>kernel_rfl
theorem Tryz.methodKind (h:Value) (w:World):(Go.method 396 200 (.agg #[h]) "Kind").run Tryz.prog w=.ok (253,h) w:=by kernel_rfl
theorem Tryz.kind27 {P Q:TypeId} (hp:Pr P Q) (w:World):((ReflectliteType.abiMethod fun t=>Functor.map (fun a:Nat=>Value.int IntKind.u8 (a:Int)) (Rtype.kind t)) #[.pointer (some ⟨9,P,none⟩)]).run Tryz.prog w=.ok (.int .u8 22) w:=by
 rcases hp with ⟨rfl,rfl⟩ | ⟨rfl,rfl⟩ | ⟨rfl,rfl⟩ | ⟨rfl,rfl⟩<;>kernel_rfl
theorem Tryz.kind25 {P Q:TypeId} (hp:Pr P Q) (w:World):((ReflectliteType.abiMethod fun t=>Functor.map (fun a:Nat=>Value.int IntKind.u8 (a:Int)) (Rtype.kind t)) #[.pointer (some ⟨9,Q,none⟩)]).run Tryz.prog w=.ok (.int .u8 25) w:=by
 rcases hp with ⟨rfl,rfl⟩ | ⟨rfl,rfl⟩ | ⟨rfl,rfl⟩ | ⟨rfl,rfl⟩<;>kernel_rfl
theorem rlm (z:Sem Value) (f:TypeId→Addr→Nat→Nat→Sem Value) (v:Value) :
  ReflectliteValue.method z f #[v]=(do match ←ReflectliteValue.parts v with | none=>z | some (t,a,fl)=>f t a fl (fl%32)):=rfl
theorem Tryz.parts27 {P Q:TypeId} (hp:Pr P Q) (a:Addr) (w:World):(ReflectliteValue.parts (.agg #[.pointer (some ⟨9,P,none⟩),.pointer (some a),.int .u64 150])).run Tryz.prog w=.ok (some (P,a,150)) w:=by
 rcases hp with ⟨rfl,rfl⟩ | ⟨rfl,rfl⟩ | ⟨rfl,rfl⟩ | ⟨rfl,rfl⟩<;>kernel_rfl
theorem Tryz.isNil27 {P Q:TypeId} (hp:Pr P Q) (a p:Addr) (W:World) (ha:W.cell? a=some (.pointer (some p))) :
  (ReflectliteValue.method (ReflectliteValue.valueError "reflectlite.Value.IsNil" 0) ReflectliteValue.isNil #[.agg #[.pointer (some ⟨9,P,none⟩),.pointer (some a),.int .u64 150]]).run Tryz.prog W=.ok (.bool false) W:=by
 rw[rlm]
 simp only[Sem.run_bind,(Tryz.parts27 hp),Result.andThen]
 rcases hp with ⟨rfl,rfl⟩ | ⟨rfl,rfl⟩ | ⟨rfl,rfl⟩ | ⟨rfl,rfl⟩ <;>
  (simp[ReflectliteValue.isNil,loadVar,isAgg,underlying,Tryz.underlying126,Tryz.underlying146,Tryz.underlying154,Tryz.underlying182,ha,Result.andThen])
theorem Tryz.methodElem (h:Value) (w:World):(Go.method 396 200 (.agg #[h]) "Elem").run Tryz.prog w=.ok (267,.agg #[h]) w:=by kernel_rfl
theorem Tryz.methodImplements (h:Value) (w:World):(Go.method 396 200 (.agg #[h]) "Implements").run Tryz.prog w=.ok (268,.agg #[h]) w:=by kernel_rfl
theorem Tryz.methodAssignableTo (h:Value) (w:World):(Go.method 396 200 (.agg #[h]) "AssignableTo").run Tryz.prog w=.ok (265,.agg #[h]) w:=by kernel_rfl
theorem Tryz.elem27 {P Q:TypeId} (hp:Pr P Q) (w:World):(ReflectliteType.method ReflectliteType.elem #[.agg #[.pointer (some ⟨9,P,none⟩)]]).run Tryz.prog w=.ok (.iface 200 (.agg #[.pointer (some ⟨9,Q,none⟩)])) w:=by
 rcases hp with ⟨rfl,rfl⟩ | ⟨rfl,rfl⟩ | ⟨rfl,rfl⟩ | ⟨rfl,rfl⟩<;>kernel_rfl
theorem Tryz.implements25 {P Q:TypeId} (hp:Pr P Q) (w:World):(ReflectliteType.relation "Implements" ReflectliteType.implements_ #[.agg #[.pointer (some ⟨9,Q,none⟩)],.iface 200 (.agg #[.pointer (some ⟨9,63,none⟩)])]).run Tryz.prog w=.ok (.bool true) w:=by
 rcases hp with ⟨rfl,rfl⟩ | ⟨rfl,rfl⟩ | ⟨rfl,rfl⟩ | ⟨rfl,rfl⟩<;>kernel_rfl
theorem Tryz.typeOf25 {P Q:TypeId} (hp:Pr P Q) (v:Value) (w:World):(ReflectliteType.typeOf #[.iface Q v]).run Tryz.prog w=.ok (.iface 200 (.agg #[.pointer (some ⟨9,Q,none⟩)])) w:=by
 rcases hp with ⟨rfl,rfl⟩ | ⟨rfl,rfl⟩ | ⟨rfl,rfl⟩ | ⟨rfl,rfl⟩<;>kernel_rfl
theorem Tryz.assignable25 {P Q:TypeId} (hp:Pr P Q) (w:World):(ReflectliteType.relation "AssignableTo" ReflectliteType.assignableTo #[.agg #[.pointer (some ⟨9,Q,none⟩)],.iface 200 (.agg #[.pointer (some ⟨9,Q,none⟩)])]).run Tryz.prog w=.ok (.bool true) w:=by
 rcases hp with ⟨rfl,rfl⟩ | ⟨rfl,rfl⟩ | ⟨rfl,rfl⟩ | ⟨rfl,rfl⟩<;>kernel_rfl
theorem Tryz.elemOf27 {P Q:TypeId} (hp:Pr P Q) (w:World):(Rtype.elem? P).run Tryz.prog w=.ok (some Q) w:=by
 rcases hp with ⟨rfl,rfl⟩ | ⟨rfl,rfl⟩ | ⟨rfl,rfl⟩ | ⟨rfl,rfl⟩<;>kernel_rfl
theorem Tryz.mk25 {P Q:TypeId} (hp:Pr P Q) (p:Addr) (w:World):(ReflectliteValue.mk Q p ReflectliteValue.flagAddr).run Tryz.prog w=.ok (.agg #[.pointer (some ⟨9,Q,none⟩),.pointer (some p),.int .u64 409]) w:=by
 rcases hp with ⟨rfl,rfl⟩ | ⟨rfl,rfl⟩ | ⟨rfl,rfl⟩ | ⟨rfl,rfl⟩<;>kernel_rfl
theorem Tryz.elemV27 {P Q:TypeId} (hp:Pr P Q) (a p:Addr) (W:World) (ha:W.cell? a=some (.pointer (some p))) :
  (ReflectliteValue.method (ReflectliteValue.valueError "reflectlite.Value.Elem" 0) ReflectliteValue.elem #[.agg #[.pointer (some ⟨9,P,none⟩),.pointer (some a),.int .u64 150]]).run Tryz.prog W
   = .ok (.agg #[.pointer (some ⟨9,Q,none⟩),.pointer (some p),.int .u64 409]) W:=by
 rw[rlm]
 simp only[Sem.run_bind,(Tryz.parts27 hp),Result.andThen]
 have g0:=@Tryz.elemOf27 _ _ hp
 have g1:=@Tryz.mk25 _ _ hp
 rcases hp with ⟨rfl,rfl⟩ | ⟨rfl,rfl⟩ | ⟨rfl,rfl⟩ | ⟨rfl,rfl⟩ <;>
  (simp[ReflectliteValue.elem,loadVar,isAgg,underlying,Tryz.underlying126,Tryz.underlying146,Tryz.underlying154,Tryz.underlying182,ha,Result.andThen,g0,g1])
theorem rls (v x:Value):ReflectliteValue.set #[v,x]=(do
  let (some (dst,a,fl),some (src,b,_)):=(←ReflectliteValue.parts v,←ReflectliteValue.parts x)
   | unsupported (.noEntry "extern/(internal/reflectlite.Value).Set.zeroValue")
  if fl / ReflectliteValue.flagAddr%2==0 then unsupported (.noEntry "extern/(internal/reflectlite.Value).Set.unaddressable")
  let val ←loadVar src b
  if ←Rtype.directlyAssignable dst src then storeVar dst a val
  else if ←Rtype.implements dst src then
   if (←Rtype.kind src)==20 then
    match val with
    | .nilIface=>unsupported (.noEntry "extern/reflectlite: a nil value of one interface type handed on as a value of another")
    | _=>storeVar dst a val
   else storeVar dst a (.iface src val)
  else panicString ("reflectlite.Set: value of type "++(←Rtype.spelt src) ++ " is not assignable to type "++(←Rtype.spelt dst))
  pure (.tuple #[])):=rfl
theorem Tryz.parts25a {P Q:TypeId} (hp:Pr P Q) (a:Addr) (w:World):(ReflectliteValue.parts (.agg #[.pointer (some ⟨9,Q,none⟩),.pointer (some a),.int .u64 409])).run Tryz.prog w=.ok (some (Q,a,409)) w:=by
 rcases hp with ⟨rfl,rfl⟩ | ⟨rfl,rfl⟩ | ⟨rfl,rfl⟩ | ⟨rfl,rfl⟩<;>kernel_rfl
theorem Tryz.parts25 {P Q:TypeId} (hp:Pr P Q) (a:Addr) (w:World):(ReflectliteValue.parts (.agg #[.pointer (some ⟨9,Q,none⟩),.pointer (some a),.int .u64 153])).run Tryz.prog w=.ok (some (Q,a,153)) w:=by
 rcases hp with ⟨rfl,rfl⟩ | ⟨rfl,rfl⟩ | ⟨rfl,rfl⟩ | ⟨rfl,rfl⟩<;>kernel_rfl
theorem Tryz.direct25 {P Q:TypeId} (hp:Pr P Q) (w:World):(Rtype.directlyAssignable Q Q).run Tryz.prog w=.ok true w:=by
 rcases hp with ⟨rfl,rfl⟩ | ⟨rfl,rfl⟩ | ⟨rfl,rfl⟩ | ⟨rfl,rfl⟩<;>kernel_rfl
theorem Tryz.set25 {P Q:TypeId} (hp:Pr P Q) (ta b:Addr) (e old:Value) (h1:e.oneCell'=true) (W:World) (hb:W.cell? b=some e) (ht:W.cell? ta=some old) (hf:W.frozen? ta=false) :
  (ReflectliteValue.set #[.agg #[.pointer (some ⟨9,Q,none⟩),.pointer (some ta),.int .u64 409],.agg #[.pointer (some ⟨9,Q,none⟩),.pointer (some b),.int .u64 153]]).run Tryz.prog W
   = .ok (.tuple #[]) (W.setCell ta e):=by
 rw[rls]
 simp only[Sem.run_bind,(Tryz.parts25a hp),(Tryz.parts25 hp),Result.andThen]
 have g0:=@Tryz.direct25 _ _ hp
 rcases hp with ⟨rfl,rfl⟩ | ⟨rfl,rfl⟩ | ⟨rfl,rfl⟩ | ⟨rfl,rfl⟩ <;>
  (simp[ReflectliteValue.flagAddr,loadVar,Tryz.isAgg124,Tryz.isAgg145,Tryz.isAgg153,Tryz.isAgg143,loadCells,loadCellsFrom,hb,Result.andThen,g0,storeVar,Value.cells,storeCells,Addr.add]
   rw[run_store Tryz.prog W ta _ _ h1]
   simp[ht,hf])
theorem valueOf51g {P Q:TypeId} (hp:Pr P Q) (v:Value) (w:World):(ReflectliteValue.unpack (.iface Q v)).run Tryz.prog w
  = .ok (.agg #[.pointer (some ⟨9,Q,none⟩),.pointer (some ⟨w.heap.size,0,none⟩),.int .u64 153]) (w.alloc (.cells v.cells Q)):=by
 rcases hp with ⟨rfl,rfl⟩ | ⟨rfl,rfl⟩ | ⟨rfl,rfl⟩ | ⟨rfl,rfl⟩<;>kernel_rfl
theorem valueOf51 {P Q:TypeId} (hp:Pr P Q) (v n:Value) (hv:v.cells=#[n]) (w:World):(ReflectliteValue.unpack (.iface Q v)).run Tryz.prog w
  = .ok (.agg #[.pointer (some ⟨9,Q,none⟩),.pointer (some ⟨w.heap.size,0,none⟩),.int .u64 153]) (w.alloc (.cells #[n] Q)):=by rw[(valueOf51g hp),hv]
set_option maxHeartbeats 8000000 in
set_option maxRecDepth 100000 in
theorem as_hit {P Q:TypeId} (hp:Pr P Q) (v n:Value) (hv:v.cells=#[n]) (h1:n.oneCell'=true) (t:Addr) (old:Value) (w:World) (hg:w.cell? ⟨0,0,none⟩=some (.iface 200 (.agg #[.pointer (some ⟨9,63,none⟩)]))) (ht0:w.cell? t=some old) (hf0:w.frozen? t=false) :
  Calls Tryz.prog 95 #[.iface Q v,.iface P (.pointer (some t))] w fun ev w'=>ev=.returned (.bool true)∧w'=((((w.alloc (.cells #[.pointer (some t)] P)).alloc (.cells #[.pointer (some ⟨9,P,none⟩),.pointer (some ⟨w.heap.size,0,none⟩),.int .u64 150] 168)).alloc (.cells #[.pointer (some ⟨9,P,none⟩),.pointer (some ⟨w.heap.size,0,none⟩),.int .u64 150] 168)).alloc (.cells #[n] Q)).setCell t n:=by
 have h6:=@run_callFunc_extern Tryz.prog 152 _ (fun args=>ReflectliteValue.unpack (args.getD 0 (.tuple #[]))) Tryz.func152 (by kernel_rfl) (by kernel_rfl) (by kernel_rfl) (by kernel_rfl)
 have h7:=@run_callFunc_extern Tryz.prog 153 _ (ReflectliteValue.methodAny (ReflectliteValue.valueError "reflectlite.Value.Type" 0) (fun t _ _ _=>ReflectliteType.toType t)) Tryz.func153 (by kernel_rfl) (by kernel_rfl) (by kernel_rfl) (by kernel_rfl)
 have h8:=@run_callFunc_extern Tryz.prog 154 _ (ReflectliteValue.method (ReflectliteValue.valueError "reflectlite.Value.IsNil" 0) ReflectliteValue.isNil) Tryz.func154 (by kernel_rfl) (by kernel_rfl) (by kernel_rfl) (by kernel_rfl)
 have h27:=@run_callFunc_extern Tryz.prog 253 _ (ReflectliteType.abiMethod fun t=>do pure (.int .u8 (←Rtype.kind t))) Tryz.func253 (by kernel_rfl) (by kernel_rfl) (by kernel_rfl) (by kernel_rfl)
 have h37:=@run_callFunc_extern Tryz.prog 267 _ (ReflectliteType.method ReflectliteType.elem) Tryz.func267 (by kernel_rfl) (by kernel_rfl) (by kernel_rfl) (by kernel_rfl)
 have h38:=@run_callFunc_extern Tryz.prog 268 _ (ReflectliteType.relation "Implements" ReflectliteType.implements_) Tryz.func268 (by kernel_rfl) (by kernel_rfl) (by kernel_rfl) (by kernel_rfl)
 have h10:=@run_callFunc_extern Tryz.prog 180 _ ReflectliteType.typeOf Tryz.func180 (by kernel_rfl) (by kernel_rfl) (by kernel_rfl) (by kernel_rfl)
 have h35:=@run_callFunc_extern Tryz.prog 265 _ (ReflectliteType.relation "AssignableTo" ReflectliteType.assignableTo) Tryz.func265 (by kernel_rfl) (by kernel_rfl) (by kernel_rfl) (by kernel_rfl)
 have h11:=@run_callFunc_extern Tryz.prog 181 _ (ReflectliteValue.method (ReflectliteValue.valueError "reflectlite.Value.Elem" 0) ReflectliteValue.elem) Tryz.func181 (by kernel_rfl) (by kernel_rfl) (by kernel_rfl) (by kernel_rfl)
 have h12:=@run_callFunc_extern Tryz.prog 182 _ ReflectliteValue.set Tryz.func182 (by kernel_rfl) (by kernel_rfl) (by kernel_rfl) (by kernel_rfl)
 have tO:=(Tryz.typeOf25 hp)
 have mA:=Tryz.methodAssignableTo
 have a25:=(Tryz.assignable25 hp)
 have v25:=valueOf51 hp v n hv
 have f6:=(Tryz.valueOf27 hp)
 have f7:=(Tryz.type27 hp)
 have mK:=Tryz.methodKind
 have mE:=Tryz.methodElem
 have mI:=Tryz.methodImplements
 have k27:=(Tryz.kind27 hp)
 have k25:=(Tryz.kind25 hp)
 have e27:=(Tryz.elem27 hp)
 have i25:=(Tryz.implements25 hp)
 have n8:=(Tryz.isNil27 hp) ⟨w.heap.size,0,none⟩ t ((w.alloc (.cells #[.pointer (some t)] P)).alloc (.cells #[.pointer (some ⟨9,P,none⟩),.pointer (some ⟨w.heap.size,0,none⟩),.int .u64 150] 168)) (by simp)
 have hlt:0 < w.heap.size:=by
  rcases Nat.eq_zero_or_pos w.heap.size with h0 | h
  ·simp[World.cell?,h0] at hg
  ·exact h
 have hg2:((w.alloc (.cells #[.pointer (some t)] P)).alloc (.cells #[.pointer (some ⟨9,P,none⟩),.pointer (some ⟨w.heap.size,0,none⟩),.int .u64 150] 168)).cell? ⟨0,0,none⟩=some (.iface 200 (.agg #[.pointer (some ⟨9,63,none⟩)])):=by
  rw[World.cell?_alloc_lt _ _ ⟨0,0,none⟩ (by simp),World.cell?_alloc_lt _ _ ⟨0,0,none⟩ hlt];exact hg
 have htl:t.block < w.heap.size:=by
  rcases Nat.lt_or_ge t.block w.heap.size with h | h
  ·exact h
  ·simp[World.cell?,Array.getElem?_eq_none h] at ht0
 have el:=(Tryz.elemV27 hp) ⟨w.heap.size,0,none⟩ t (((w.alloc (.cells #[.pointer (some t)] P)).alloc (.cells #[.pointer (some ⟨9,P,none⟩),.pointer (some ⟨w.heap.size,0,none⟩),.int .u64 150] 168)).alloc (.cells #[.pointer (some ⟨9,P,none⟩),.pointer (some ⟨w.heap.size,0,none⟩),.int .u64 150] 168)) (by rw[World.cell?_alloc_lt _ _ ⟨w.heap.size,0,none⟩ (by simp;omega)];simp)
 have st:=(Tryz.set25 hp) t ⟨w.heap.size+1+1+1,0,none⟩ n old h1 ((((w.alloc (.cells #[.pointer (some t)] P)).alloc (.cells #[.pointer (some ⟨9,P,none⟩),.pointer (some ⟨w.heap.size,0,none⟩),.int .u64 150] 168)).alloc (.cells #[.pointer (some ⟨9,P,none⟩),.pointer (some ⟨w.heap.size,0,none⟩),.int .u64 150] 168)).alloc (.cells #[n] Q))
  (by rw[World.cell?_alloc_at _ _ _ _ (by simp)];rfl)
  (by rw[World.cell?_alloc_lt _ _ t (by simp;omega),World.cell?_alloc_lt _ _ t (by simp;omega),World.cell?_alloc_lt _ _ t (by simp;omega),World.cell?_alloc_lt _ _ t htl];exact ht0)
  (by rw[World.frozen?_alloc_old _ _ t (by simp;omega),World.frozen?_alloc_old _ _ t (by simp;omega),World.frozen?_alloc_old _ _ t (by simp;omega),World.frozen?_alloc_old _ _ t (Nat.ne_of_lt htl)];exact hf0)
 go_enter Tryz.func95,Tryz.ntmps95
 go_wp2
 refine wp_loop_rounds 1 ?_
 rw[rounds_succ]
 go_wp2
 go_ret
 exact⟨rfl,rfl⟩
end Go.Proofs.AbAsD


namespace Go.Proofs.AbIsD
open Go.RowKit Go.Extern.Stop Go.Stop Go.Extern Go.Proofs
theorem Qfk (v:Value) (w:World):(Extern.ReflectliteType.typeOf #[.iface 265 v]).run Tryz.prog w=.ok (.iface 200 (.agg #[.pointer (some ⟨9,265,none⟩)])) w:=by kernel_rfl
theorem qpf (w:World):((Extern.ReflectliteType.method fun t=>do Extern.Rtype.noPackHeld "Comparable" t;(fun a=>Value.bool a.comparable) <$> typeInfo t) #[.agg #[.pointer (some ⟨9,265,none⟩)]]).run Tryz.prog w=.ok (.bool true) w:=by kernel_rfl
theorem qhu (v:Value) (w:World):(Go.method 396 200 v "Comparable").run Tryz.prog w=.ok (266,v) w:=by kernel_rfl
theorem isComp:(Tryz.prog.info? 265).map (·.comparable)=some true:=by kernel_rfl
theorem isSize:(Tryz.prog.info? 284).map (·.size)=some 1:=by kernel_rfl
theorem noIs265 (v:Value) (xT:TypeId) (w:World):(Instr.typeAssert (.iface 265 v) xT 231 true).run Tryz.prog w=.ok (.tuple #[.nilIface,.bool false]) w:=run_typeAssert_lacksB Tryz.underlying231 (by kernel_rfl) (by kernel_rfl) v xT w
theorem noUn265 (v:Value) (xT:TypeId) (w:World):(Instr.typeAssert (.iface 265 v) xT 208 true).run Tryz.prog w=.ok (.tuple #[.nilIface,.bool false]) w:=run_typeAssert_lacksB Tryz.underlying208 (by kernel_rfl) (by kernel_rfl) v xT w
theorem noUs265 (v:Value) (xT:TypeId) (w:World):(Instr.typeAssert (.iface 265 v) xT 210 true).run Tryz.prog w=.ok (.tuple #[.nilIface,.bool false]) w:=run_typeAssert_lacksB Tryz.underlying210 (by kernel_rfl) (by kernel_rfl) v xT w
theorem noIs143 (v:Value) (xT:TypeId) (w:World):(Instr.typeAssert (.iface 143 v) xT 231 true).run Tryz.prog w=.ok (.tuple #[.nilIface,.bool false]) w:=run_typeAssert_lacksB Tryz.underlying231 (by kernel_rfl) (by kernel_rfl) v xT w
theorem noUn143 (v:Value) (xT:TypeId) (w:World):(Instr.typeAssert (.iface 143 v) xT 208 true).run Tryz.prog w=.ok (.tuple #[.nilIface,.bool false]) w:=run_typeAssert_lacksB Tryz.underlying208 (by kernel_rfl) (by kernel_rfl) v xT w
theorem noUs143 (v:Value) (xT:TypeId) (w:World):(Instr.typeAssert (.iface 143 v) xT 210 true).run Tryz.prog w=.ok (.tuple #[.nilIface,.bool false]) w:=run_typeAssert_lacksB Tryz.underlying210 (by kernel_rfl) (by kernel_rfl) v xT w
set_option maxHeartbeats 1000000 in
set_option maxRecDepth 100000 in
theorem is_same (a:Addr) (w:World) :
  Calls Tryz.prog 159 #[.iface 265 (.pointer (some a)),.iface 265 (.pointer (some a))] w fun e w'=>e=.returned (.bool true)∧w'=w:=by
 obtain⟨i,hi,hcmp⟩:=Option.map_eq_some_iff.1 isComp
 obtain⟨j,hj,hjs⟩:=Option.map_eq_some_iff.1 isSize
 have h8:=@run_callFunc_extern Tryz.prog 180 _ Extern.ReflectliteType.typeOf Tryz.func180 (by kernel_rfl) (by kernel_rfl) (by kernel_rfl) (by kernel_rfl)
 have h32:=@run_callFunc_extern Tryz.prog 266 _ (Extern.ReflectliteType.method fun t=>do Extern.Rtype.noPackHeld "Comparable" t;pure (.bool (←typeInfo t).comparable)) Tryz.func266 (by kernel_rfl) (by kernel_rfl) (by kernel_rfl) (by kernel_rfl)
 have tT:=Qfk
 have cT:=qpf
 have mR:=qhu
 have heq:=run_eql_iface_ptr_same (P:=Tryz.prog) w a Tryz.underlying63 Tryz.underlying265 hi hcmp hj
 go_enter Tryz.func159,Tryz.ntmps159
 go_wp2
 refine wp_loop_rounds 1 ?_
 rw[rounds_succ]
 go_wp2
 go_ret
 exact⟨rfl,rfl⟩
set_option maxHeartbeats 1000000 in
set_option maxRecDepth 100000 in
theorem is_nil (b:Addr) (w:World) :
  Calls Tryz.prog 159 #[.nilIface,.iface 265 (.pointer (some b))] w fun e w'=>e=.returned (.bool false)∧w'=w:=by
 have hn:=run_eql_iface_nil_left (P:=Tryz.prog) w 265 (.pointer (some b)) Tryz.underlying63
 go_enter Tryz.func159,Tryz.ntmps159
 go_wp2
 go_ret
 exact⟨rfl,rfl⟩
set_option maxHeartbeats 1000000 in
set_option maxRecDepth 100000 in
theorem is_other (a b:Addr) (ca cb:Array Value) (ta tb:TypeId) (w:World) (hne:a≠b) (ha:w.heap[a.block]?=some (.cells ca ta (0,0))) (hb:w.heap[b.block]?=some (.cells cb tb (0,0))) :
  Calls Tryz.prog 159 #[.iface 265 (.pointer (some a)),.iface 265 (.pointer (some b))] w fun e w'=>e=.returned (.bool false)∧w'=w:=by
 obtain⟨i,hi,hcmp⟩:=Option.map_eq_some_iff.1 isComp
 obtain⟨j,hj,hjs⟩:=Option.map_eq_some_iff.1 isSize
 have h8:=@run_callFunc_extern Tryz.prog 180 _ Extern.ReflectliteType.typeOf Tryz.func180 (by kernel_rfl) (by kernel_rfl) (by kernel_rfl) (by kernel_rfl)
 have h32:=@run_callFunc_extern Tryz.prog 266 _ (Extern.ReflectliteType.method fun t=>do Extern.Rtype.noPackHeld "Comparable" t;pure (.bool (←typeInfo t).comparable)) Tryz.func266 (by kernel_rfl) (by kernel_rfl) (by kernel_rfl) (by kernel_rfl)
 have tT:=Qfk
 have cT:=qpf
 have mR:=qhu
 have nE:=noIs265
 have uE:=noUn265
 have vE:=noUs265
 have heq:=run_eql_iface_ptr_other (P:=Tryz.prog) w Tryz.underlying63 Tryz.underlying265 hi hcmp hj (by rw[hjs];decide) hne ha hb
 go_enter Tryz.func159,Tryz.ntmps159
 go_wp2
 refine wp_loop_rounds 1 ?_
 rw[rounds_succ]
 go_wp2
 go_ret
 exact⟨rfl,rfl⟩
set_option maxHeartbeats 1000000 in
set_option maxRecDepth 100000 in
theorem is_type143 (v:Value) (b:Addr) (w:World) :
  Calls Tryz.prog 159 #[.iface 143 v,.iface 265 (.pointer (some b))] w fun e w'=>e=.returned (.bool false)∧w'=w:=by
 have h8:=@run_callFunc_extern Tryz.prog 180 _ Extern.ReflectliteType.typeOf Tryz.func180 (by kernel_rfl) (by kernel_rfl) (by kernel_rfl) (by kernel_rfl)
 have h32:=@run_callFunc_extern Tryz.prog 266 _ (Extern.ReflectliteType.method fun t=>do Extern.Rtype.noPackHeld "Comparable" t;pure (.bool (←typeInfo t).comparable)) Tryz.func266 (by kernel_rfl) (by kernel_rfl) (by kernel_rfl) (by kernel_rfl)
 have tT:=Qfk
 have cT:=qpf
 have mR:=qhu
 have nE:=noIs143
 have uE:=noUn143
 have vE:=noUs143
 have hty:=run_eql_iface_types (P:=Tryz.prog) 143 265 v (.pointer (some b)) Tryz.underlying63 (by decide) w
 go_enter Tryz.func159,Tryz.ntmps159
 go_wp2
 refine wp_loop_rounds 1 ?_
 rw[rounds_succ]
 go_wp2
 go_ret
 exact⟨rfl,rfl⟩
end Go.Proofs.AbIsD


namespace Go.Proofs.AbDS
open Go.RowKit Go.Proofs
theorem lies_b:liesAt Tryz.prog Tryz.prog.depth 130 (2 / Tryz.prog.cellsOf 130) 0 130 1=true:=by kernel_rfl
theorem info_b':(Tryz.prog.info? 130).map (·.size)=some 2:=by kernel_rfl
theorem info_b:∃ j,Tryz.prog.info? 130=some j∧j.size=2:=Option.map_eq_some_iff.1 info_b'
theorem cells5:Tryz.prog.cellsOf 5=1:=by kernel_rfl
set_option maxHeartbeats 1000000 in
set_option maxRecDepth 100000 in
theorem check_used (b:Nat) (w:World) (h0:w.cell? ⟨b,0,none⟩=some (.pointer (some ⟨b,0,none⟩))) :
  Calls Tryz.prog 156 #[.pointer (some ⟨b,0,none⟩)] w fun e w'=>e=.returned (.tuple #[])∧w'=w:=by
 obtain⟨j,hj,_⟩:=info_b
 go_enter Tryz.func156,Tryz.ntmps156
 go_wp2
 rw[Lib.run_neq_ptr_same w _ Tryz.underlying127 hj]
 go_wp2
 go_end0
 exact⟨rfl,rfl⟩
set_option maxHeartbeats 1000000 in
set_option maxRecDepth 100000 in
theorem check_fresh (b:Nat) (w:World) (h0:w.cell? ⟨b,0,none⟩=some (.pointer none)) (hsh:w.shape? b=some (130,2)) (hfz:w.frozen? ⟨b,0,none⟩=false) :
  Calls Tryz.prog 156 #[.pointer (some ⟨b,0,none⟩)] w fun e w'=>e=.returned (.tuple #[])∧w'=w.setCell ⟨b,0,none⟩ (.pointer (some ⟨b,0,none⟩)):=by
 obtain⟨j,hj,hjs⟩:=info_b
 go_enter Tryz.func156,Tryz.ntmps156
 go_wp2
 rw[Lib.run_to_unsafe w ⟨b,0,none⟩ Tryz.underlying127 Tryz.underlying165 hj (by rw[hjs];decide) hsh (Nat.zero_lt_succ 1)]
 simp only[Result.andThen]
 rw[Oper.upon_value]
 go_wp2
 rw[run_callFunc_extern Tryz.func183 (by kernel_rfl) (by kernel_rfl) (by kernel_rfl) (e:=Extern.AbiNoEscape.same) (by kernel_rfl)]
 rw[Lib.run_noEscape]
 simp only[Result.andThen]
 rw[Oper.upon_value]
 go_wp2
 rw[Lib.run_from_unsafe w ⟨b,0,none⟩ Tryz.underlying165 Tryz.underlying127 hj hsh lies_b]
 simp only[Result.andThen]
 rw[Oper.upon_value]
 go_wp2
 go_end0
 exact⟨rfl,rfl⟩
set_option maxHeartbeats 1000000 in
set_option maxRecDepth 100000 in
theorem string_some (b g cap:Nat) (p:Value) (cur:Array Value) (l:List UInt8) (w:World) (hbk:w.heap[b]?=some (.cells #[p,.slice (some ⟨g,0,none⟩) l.length cap] 130 (0,0)))
  (hg:w.heap[g]?=some (.cells cur 5 (0,0))) (h0:l≠[]) (hcap:l.length≤cap) (hcs:l.length≤cur.size) (h63:l.length≤9223372036854775807) (hl:∀ (j:Nat) (x:UInt8),l[j]?=some x→cur[j]?=some (Value.int .u8 (x.toNat:Int))) :
  Calls Tryz.prog 99 #[.pointer (some ⟨b,0,none⟩)] w fun e w'=>e=.returned (.string ⟨l.toArray⟩)∧w'=w.drew.freeze ⟨g,0,none⟩ l.length:=by
 have hl0:l.length≠0:=by simpa using h0
 have c1:w.drew.cell? ⟨b,1,none⟩=some (.slice (some ⟨g,0,none⟩) l.length cap):=by
  have:w.drew.heap[b]?=some (.cells #[p,.slice (some ⟨g,0,none⟩) l.length cap] 130 (0,0)):=hbk
  rw[Lib.cell_of_heap this];rfl
 have hSD:(Builtin.unsafeSliceData_ #[128] 179 #[.slice (some ⟨g,0,none⟩) l.length cap]).run Tryz.prog w.drew=.ok (.pointer (some ⟨g,0,none⟩)) w.drew :=
  Lib.run_unsafeSliceData_row _ _ _ _ _ _ (by omega)
 have hUS:(Builtin.unsafeString_ #[179,3] 9 #[.pointer (some ⟨g,0,none⟩),.int .i64 l.length]).run Tryz.prog w.drew=.ok (.string ⟨l.toArray⟩) (w.drew.freeze ⟨g,0,none⟩ l.length):=by
  refine Lib.run_unsafeString_row w.drew 179 3 9 5 Tryz.underlying179 cells5 g cur.size (by have hg':w.drew.heap[g]?=some (.cells cur 5 (0,0)):=hg;simp[World.shape?,hg']) l h0 hcs h63 ?_
  intro j x hx
  have hg':w.drew.heap[g]?=some (.cells cur 5 (0,0)):=hg
  have e:((⟨g,0,none⟩:Addr).add j)=⟨g,j,none⟩:=by cases j<;>simp[Addr.add]
  rw[e,Lib.cell_of_heap hg']
  exact hl j x hx
 have mixed:Tryz.prog.follows .mixedOrders=true:=by kernel_rfl
 go_enter Tryz.func99,Tryz.ntmps99
 go_wp2
 go_region_o
 all_goals (go_wp2;go_ret;exact⟨rfl,rfl⟩)
set_option maxHeartbeats 1000000 in
set_option maxRecDepth 100000 in
theorem string_nil (b:Nat) (p:Value) (w:World) (hbk:w.heap[b]?=some (.cells #[p,.slice none 0 0] 130 (0,0))) :
  Calls Tryz.prog 99 #[.pointer (some ⟨b,0,none⟩)] w fun e w'=>e=.returned (.string ⟨#[]⟩)∧w'=w.drew:=by
 have hUS:∀ W q,(Builtin.unsafeString_ #[179,3] 9 #[.pointer q,.int .i64 0]).run Tryz.prog W=.ok (.string .empty) W:=fun W q=>Lib.run_unsafeString_none W _ _ _ q
 have c1:w.drew.cell? ⟨b,1,none⟩=some (.slice none 0 0):=by
  have:w.drew.heap[b]?=some (.cells #[p,.slice none 0 0] 130 (0,0)):=hbk
  rw[Lib.cell_of_heap this];rfl
 have hSD:(Builtin.unsafeSliceData_ #[128] 179 #[.slice none 0 0]).run Tryz.prog w.drew=.ok (.pointer none) w.drew:=rfl
 have mixed:Tryz.prog.follows .mixedOrders=true:=by kernel_rfl
 go_enter Tryz.func99,Tryz.ntmps99
 go_wp2
 go_region_o
 all_goals (go_wp2;go_ret;exact⟨rfl,rfl⟩)
end Go.Proofs.AbDS


namespace Go.Proofs
open Go.Shelf Go.RowKit Go.Sort Go.Lib
def Tryz.lays154_ren:Go.Shelf.Ren:=⟨fun | 154=>157 | 138=>184 | 165=>185 | 143=>186 | 166=>96 | 197=>187 | 169=>99 | 195=>193 | 218=>194 | 240=>156 | 241=>195 | 219=>196 | 260=>197 | 276=>183 | 277=>206 | 217=>207 | 225=>208 | 224=>209 | 267=>210 | 266=>220 | 314=>221 | n=>n,fun | 9=>9 | 3=>3 | 4=>4 | 72=>130 | 0=>0 | 76=>92 | 105=>216 | 21=>21 | 5=>5 | 70=>127 | 20=>20 | 37=>128 | 75=>63 | 127=>179 | 164=>165 | 46=>194 | 119=>240 | 139=>243 | 138=>242 | 146=>252 | 51=>108 | 80=>134 | n=>n,fun | 1=>3 | 3=>4 | 4=>5 | n=>n⟩
theorem Tryz.lays154:Go.Proofs.Lays.n154 Tryz.prog Tryz.lays154_ren:={
 mixed:=by kernel_rfl
 f138:=Tryz.func184.trans (congrArg some (by kernel_rfl))
 f143:=Tryz.func186.trans (congrArg some (by kernel_rfl))
 f154:=Tryz.func157.trans (congrArg some (by kernel_rfl))
 f165:=Tryz.func185.trans (congrArg some (by kernel_rfl))
 f166:=Tryz.func96.trans (congrArg some (by kernel_rfl))
 f169:=Tryz.func99.trans (congrArg some (by kernel_rfl))
 f195:=Tryz.func193.trans (congrArg some (by kernel_rfl))
 f197:=Tryz.func187.trans (congrArg some (by kernel_rfl))
 f217:=Tryz.func207.trans (congrArg some (by kernel_rfl))
 f218:=Tryz.func194.trans (congrArg some (by kernel_rfl))
 f219:=Tryz.func196.trans (congrArg some (by kernel_rfl))
 f224:=Tryz.func209.trans (congrArg some (by kernel_rfl))
 f225:=Tryz.func208.trans (congrArg some (by kernel_rfl))
 f240:=Tryz.func156.trans (congrArg some (by kernel_rfl))
 f241:=Tryz.func195.trans (congrArg some (by kernel_rfl))
 f260:=Tryz.func197.trans (congrArg some (by kernel_rfl))
 f266:=Tryz.func220.trans (congrArg some (by kernel_rfl))
 f267:=Tryz.func210.trans (congrArg some (by kernel_rfl))
 f276:=Tryz.func183.trans (congrArg some (by kernel_rfl))
 f277:=Tryz.func206.trans (congrArg some (by kernel_rfl))
 f314:=Tryz.func221.trans (congrArg some (by kernel_rfl))
 t0:=Tryz.underlying0
 a0:=Tryz.isAgg0
 z0:=Tryz.sizeOf0
 v0:=Tryz.zeroValue0
 t3:=Tryz.underlying3
 a3:=Tryz.isAgg3
 z3:=Tryz.sizeOf3
 v3:=Tryz.zeroValue3
 t4:=Tryz.underlying4
 a4:=Tryz.isAgg4
 z4:=Tryz.sizeOf4
 v4:=Tryz.zeroValue4
 t5:=Tryz.underlying5
 a5:=Tryz.isAgg5
 z5:=Tryz.sizeOf5
 v5:=Tryz.zeroValue5
 t9:=Tryz.underlying9
 a9:=Tryz.isAgg9
 z9:=Tryz.sizeOf9
 v9:=Tryz.zeroValue9
 t20:=Tryz.underlying20
 a20:=Tryz.isAgg20
 z20:=Tryz.sizeOf20
 v20:=Tryz.zeroValue20
 t21:=Tryz.underlying21
 a21:=Tryz.isAgg21
 z21:=Tryz.sizeOf21
 v21:=Tryz.zeroValue21
 t37:=Tryz.underlying128
 a37:=Tryz.isAgg128
 z37:=Tryz.sizeOf128
 v37:=Tryz.zeroValue128
 t46:=Tryz.underlying194
 a46:=Tryz.isAgg194
 z46:=Tryz.sizeOf194
 v46:=Tryz.zeroValue194
 t51:=Tryz.underlying108
 a51:=Tryz.isAgg108
 z51:=Tryz.sizeOf108
 v51:=Tryz.zeroValue108
 t70:=Tryz.underlying127
 a70:=Tryz.isAgg127
 z70:=Tryz.sizeOf127
 v70:=Tryz.zeroValue127
 t72:=Tryz.underlying130
 a72:=Tryz.isAgg130
 z72:=Tryz.sizeOf130
 v72:=Tryz.zeroValue130
 t75:=Tryz.underlying63
 a75:=Tryz.isAgg63
 z75:=Tryz.sizeOf63
 v75:=Tryz.zeroValue63
 t76:=Tryz.underlying92
 a76:=Tryz.isAgg92
 z76:=Tryz.sizeOf92
 v76:=Tryz.zeroValue92
 t105:=Tryz.underlying216
 a105:=Tryz.isAgg216
 z105:=Tryz.sizeOf216
 v105:=Tryz.zeroValue216
 t119:=Tryz.underlying240
 a119:=Tryz.isAgg240
 z119:=Tryz.sizeOf240
 t127:=Tryz.underlying179
 a127:=Tryz.isAgg179
 z127:=Tryz.sizeOf179
 v127:=Tryz.zeroValue179
 t138:=Tryz.underlying242
 a138:=Tryz.isAgg242
 z138:=Tryz.sizeOf242
 v138:=Tryz.zeroValue242
 t139:=Tryz.underlying243
 a139:=Tryz.isAgg243
 z139:=Tryz.sizeOf243
 v139:=Tryz.zeroValue243
 t146:=Tryz.underlying252
 a146:=Tryz.isAgg252
 z146:=Tryz.sizeOf252
 v146:=Tryz.zeroValue252
 t164:=Tryz.underlying165
 a164:=Tryz.isAgg165
 z164:=Tryz.sizeOf165
 v164:=Tryz.zeroValue165
 g1:=by kernel_rfl
 g3:=by kernel_rfl
 g4:=by kernel_rfl}
theorem Tryz.extra:Builder.Extra Tryz.prog Tryz.lays154_ren where
 sizeBuilder:=by kernel_rfl
 liesBuilder:=by kernel_rfl
 t5:=Tryz.lays154.t5
 a5:=Tryz.lays154.a5
 z5:=Tryz.lays154.z5
 v5:=Tryz.lays154.v5
 infoByte:=by kernel_rfl
 cellsByte:=by kernel_rfl
 sizeByte:=by kernel_rfl
 neB5:=by decide
def Tryz.lays173_ren:Go.Shelf.Ren:=⟨fun | 173=>158 | 246=>188 | 283=>198 | 284=>199 | 285=>200 | 286=>201 | 129=>212 | 317=>211 | 318=>213 | 319=>214 | 320=>215 | 337=>222 | 338=>223 | n=>n,fun | 2=>2 | 3=>3 | 9=>9 | 4=>4 | 171=>226 | 0=>0 | 53=>190 | 37=>128 | 5=>5 | 173=>229 | 212=>245 | 51=>108 | 20=>20 | 213=>246 | 46=>194 | 232=>261 | 233=>262 | n=>n,fun | 17=>6 | 18=>7 | 19=>8 | n=>n⟩
theorem Tryz.lays173:Go.Proofs.LaysM.n173 Tryz.prog Tryz.lays173_ren:={
 mixed:=by kernel_rfl
 f129:=Tryz.func212.trans (congrArg some (by kernel_rfl))
 f173:=Tryz.func158.trans (congrArg some (by kernel_rfl))
 f246:=Tryz.func188.trans (congrArg some (by kernel_rfl))
 f283:=Tryz.func198.trans (congrArg some (by kernel_rfl))
 f284:=Tryz.func199.trans (congrArg some (by kernel_rfl))
 f285:=Tryz.func200.trans (congrArg some (by kernel_rfl))
 f286:=Tryz.func201.trans (congrArg some (by kernel_rfl))
 f317:=Tryz.func211.trans (congrArg some (by kernel_rfl))
 f318:=Tryz.func213.trans (congrArg some (by kernel_rfl))
 f319:=Tryz.func214.trans (congrArg some (by kernel_rfl))
 f320:=Tryz.func215.trans (congrArg some (by kernel_rfl))
 f337:=Tryz.func222.trans (congrArg some (by kernel_rfl))
 f338:=Tryz.func223.trans (congrArg some (by kernel_rfl))
 t0:=Tryz.underlying0
 a0:=Tryz.isAgg0
 z0:=Tryz.sizeOf0
 v0:=Tryz.zeroValue0
 t2:=Tryz.underlying2
 a2:=Tryz.isAgg2
 z2:=Tryz.sizeOf2
 v2:=Tryz.zeroValue2
 t3:=Tryz.underlying3
 a3:=Tryz.isAgg3
 z3:=Tryz.sizeOf3
 v3:=Tryz.zeroValue3
 t4:=Tryz.underlying4
 a4:=Tryz.isAgg4
 z4:=Tryz.sizeOf4
 v4:=Tryz.zeroValue4
 t5:=Tryz.underlying5
 a5:=Tryz.isAgg5
 z5:=Tryz.sizeOf5
 v5:=Tryz.zeroValue5
 t9:=Tryz.underlying9
 a9:=Tryz.isAgg9
 z9:=Tryz.sizeOf9
 v9:=Tryz.zeroValue9
 t20:=Tryz.underlying20
 a20:=Tryz.isAgg20
 z20:=Tryz.sizeOf20
 v20:=Tryz.zeroValue20
 t37:=Tryz.underlying128
 a37:=Tryz.isAgg128
 z37:=Tryz.sizeOf128
 v37:=Tryz.zeroValue128
 t46:=Tryz.underlying194
 a46:=Tryz.isAgg194
 z46:=Tryz.sizeOf194
 v46:=Tryz.zeroValue194
 t51:=Tryz.underlying108
 a51:=Tryz.isAgg108
 z51:=Tryz.sizeOf108
 v51:=Tryz.zeroValue108
 t53:=Tryz.underlying190
 a53:=Tryz.isAgg190
 z53:=Tryz.sizeOf190
 v53:=Tryz.zeroValue190
 t171:=Tryz.underlying226
 a171:=Tryz.isAgg226
 z171:=Tryz.sizeOf226
 v171:=Tryz.zeroValue226
 t173:=Tryz.underlying229
 a173:=Tryz.isAgg229
 z173:=Tryz.sizeOf229
 v173:=Tryz.zeroValue229
 t212:=Tryz.underlying245
 a212:=Tryz.isAgg245
 z212:=Tryz.sizeOf245
 v212:=Tryz.zeroValue245
 t213:=Tryz.underlying246
 a213:=Tryz.isAgg246
 z213:=Tryz.sizeOf246
 t232:=Tryz.underlying261
 a232:=Tryz.isAgg261
 z232:=Tryz.sizeOf261
 v232:=Tryz.zeroValue261
 t233:=Tryz.underlying262
 a233:=Tryz.isAgg262
 z233:=Tryz.sizeOf262
 v233:=Tryz.zeroValue262
 g17:=by kernel_rfl
 g18:=by kernel_rfl
 g19:=by kernel_rfl
 i0:=by kernel_rfl
 i2:=by kernel_rfl
 i3:=by kernel_rfl
 i4:=by kernel_rfl
 i5:=by kernel_rfl
 i9:=by kernel_rfl
 i20:=by kernel_rfl
 i37:=by kernel_rfl
 i46:=by kernel_rfl
 i51:=by kernel_rfl
 i53:=by kernel_rfl
 i171:=by kernel_rfl
 i173:=by kernel_rfl
 i212:=by kernel_rfl
 i232:=by kernel_rfl
 i233:=by kernel_rfl
 m17:=by kernel_rfl
 m18:=by kernel_rfl
 m19:=by kernel_rfl}
namespace AbShD
theorem repl_run (s old new:ByteArray) (n m:Int) (w:World) (hs:s.size < 4294967281) (hm:w.cell? ⟨3,0,none⟩=some (.int .i64 m)) (h1:1≤old.size) (hlen:s.size+Lib.countB s old*new.size≤140737488355328) :
  Calls Tryz.prog 157 #[.string s,.string old,.string new,.int .i64 n] w fun e w'=>e=.returned (.string ⟨(Lib.replace s.data.toList old.data.toList new.data.toList n).toArray⟩)∧Below w.heap.size w w' :=
 Any.strings_Replace Tryz.lays154 Tryz.extra s old new n m w hs hm h1 hlen
theorem fmt_run (n:Int) (h0 : -9223372036854775808≤n) (h1:n≤9223372036854775807) (w:World) (ht:Lib.TabIs Tryz.prog w "internal/strconv.uint64pow10" .u64 Lib.pow10Tab) :
  Calls Tryz.prog 158 #[.int .i64 n,.int .i64 10] w fun e w'=>e=.returned (.string ⟨(Lib.itoa n).toArray⟩)∧∃ k os,w'=grow (w.drewN k) os :=
 Any.strconv_FormatInt_10 Tryz.lays173 n h0 h1 w ht
end AbShD
end Go.Proofs


namespace Go.Proofs.AbLkD
open Go
abbrev link:Go.Conc.Locks.MuLink:={lock:=203,unlock:=204,ilock:=216,iunlock:=217,lockSlow:=228,unlockSlow:=231,disable:=224,enable:=226,acquire:=227,relMerge:=229,cas32:=225,add32:=230,tIMutex:=112,tMutex:=114,tPMutex:=249,tPIMutex:=255,tPI32:=257,tUP:=165,tNoCopy:=106,tU32:=108}
theorem lib:Go.Conc.Locks.MuLib Tryz.prog link :=
 ⟨Tryz.func203,Tryz.func204,Tryz.func216,Tryz.func217,Tryz.func224,Tryz.func226,Tryz.func227,Tryz.func229,Tryz.func225,Tryz.func230,Tryz.underlying112,Tryz.runUnderlying112,Tryz.sizeOf112,Tryz.isAgg112,Tryz.zeroValue112,Tryz.underlying114,Tryz.runUnderlying114,Tryz.sizeOf114,Tryz.isAgg114,Tryz.zeroValue114,Tryz.underlying249,Tryz.runUnderlying249,Tryz.sizeOf249,Tryz.isAgg249,Tryz.zeroValue249,Tryz.underlying255,Tryz.runUnderlying255,Tryz.sizeOf255,Tryz.isAgg255,Tryz.zeroValue255,Tryz.underlying257,Tryz.runUnderlying257,Tryz.sizeOf257,Tryz.isAgg257,Tryz.zeroValue257,Tryz.underlying165,Tryz.runUnderlying165,Tryz.sizeOf165,Tryz.isAgg165,Tryz.zeroValue165,Tryz.underlying106,Tryz.runUnderlying106,Tryz.sizeOf106,Tryz.isAgg106,Tryz.zeroValue106,Tryz.underlying21,Tryz.runUnderlying21,Tryz.sizeOf21,Tryz.isAgg21,Tryz.zeroValue21,(by kernel_rfl)⟩
theorem load (a:Addr) (y:Int) (w:World) (h:w.cell? a=some (.int .u32 y)):(callFunc 202 #[.pointer (some a)]).run Tryz.prog w=.ok (.value (.int .u32 y)) w :=
 run_call_load (P:=Tryz.prog) Tryz.func202 (by kernel_rfl) (by kernel_rfl) (by kernel_rfl) .u32 (by kernel_rfl) h
theorem store (a:Addr) (y0 y:Int) (w:World) (h:w.cell? a=some (.int .u32 y0)) (hz:w.frozen? a=false):(callFunc 218 #[.pointer (some a),.int .u32 y]).run Tryz.prog w=.ok (.value (.tuple #[])) (w.setCell a (.int .u32 y)) :=
 run_call_store (P:=Tryz.prog) Tryz.func218 (by kernel_rfl) (by kernel_rfl) (by kernel_rfl) (by kernel_rfl) h hz
theorem lock (a:Addr) (w:World) (h:w.cell? a=some (.int .i32 0)) (hz:w.frozen? a=false):Calls Tryz.prog 216 #[.pointer (some a)] w fun e w'=>e=.returned (.tuple #[])∧w'=w.setCell a (.int .i32 1):=Go.MuLone.ilock_free lib a w h hz
theorem unlock (a:Addr) (w:World) (h:w.cell? a=some (.int .i32 1)) (hz:w.frozen? a=false):Calls Tryz.prog 217 #[.pointer (some a)] w fun e w'=>e=.returned (.tuple #[])∧w'=w.setCell a (.int .i32 0):=Go.MuLone.iunlock_held lib a w h hz
end Go.Proofs.AbLkD


namespace Go.Ab.Derive2
open Go Go.Ab Go.Proofs
def et0:Value:=.iface 200 (.agg #[.pointer (some ⟨9,63,none⟩)])
def tabs0:List (Nat×Array Value):=[(6,(Lib.pow10Tab.map fun z=>Value.int .u64 z).toArray)]
noncomputable def cx0:Cx:=cxOf Tryz.prog (by kernel_rfl) [1,2] 265 [(0,et0)] tabs0 [3]
theorem enters95:qf1 Tryz.prog 95:=⟨_,Tryz.func95,by rfl,by rfl⟩
theorem enters159:qf1 Tryz.prog 159:=⟨_,Tryz.func159,by rfl,by rfl⟩
theorem enters157:qf1 Tryz.prog 157:=⟨_,Tryz.func157,by rfl,by rfl⟩
theorem enters158:qf1 Tryz.prog 158:=⟨_,Tryz.func158,by rfl,by rfl⟩
theorem enters156:qf1 Tryz.prog 156:=⟨_,Tryz.func156,by rfl,by rfl⟩
theorem enters99:qf1 Tryz.prog 99:=⟨_,Tryz.func99,by rfl,by rfl⟩
theorem enters216:qf1 Tryz.prog 216:=⟨_,Tryz.func216,by rfl,by rfl⟩
theorem enters217:qf1 Tryz.prog 217:=⟨_,Tryz.func217,by rfl,by rfl⟩
theorem as_ok:AsOK Tryz.prog 95 0 et0 ps0 where
 enters:=enters95
 none v w:=Go.Proofs.AbAsD.as_nil v w
 hit p t h v n hv h1 a old w hg h0 hf:=by
  simp only[ps0,List.lookup] at h
  split at h
  ·rename_i hp
   obtain rfl:p=126:=by simpa using hp
   cases h
   refine (Go.Proofs.AbAsD.as_hit (.inl ⟨rfl,rfl⟩) v n hv h1 a old w hg h0 hf).mono ?_
   rintro ev w' ⟨rfl,rfl⟩
   exact⟨rfl,_,_,_,_,rfl⟩
  split at h
  ·rename_i hp
   obtain rfl:p=146:=by simpa using hp
   cases h
   refine (Go.Proofs.AbAsD.as_hit (.inr (.inl ⟨rfl,rfl⟩)) v n hv h1 a old w hg h0 hf).mono ?_
   rintro ev w' ⟨rfl,rfl⟩
   exact⟨rfl,_,_,_,_,rfl⟩
  split at h
  ·rename_i hp
   obtain rfl:p=154:=by simpa using hp
   cases h
   refine (Go.Proofs.AbAsD.as_hit (.inr (.inr (.inl ⟨rfl,rfl⟩))) v n hv h1 a old w hg h0 hf).mono ?_
   rintro ev w' ⟨rfl,rfl⟩
   exact⟨rfl,_,_,_,_,rfl⟩
  split at h
  ·rename_i hp
   obtain rfl:p=182:=by simpa using hp
   cases h
   refine (Go.Proofs.AbAsD.as_hit (.inr (.inr (.inr ⟨rfl,rfl⟩))) v n hv h1 a old w hg h0 hf).mono ?_
   rintro ev w' ⟨rfl,rfl⟩
   exact⟨rfl,_,_,_,_,rfl⟩
  cases h
theorem is_ok:IsOK Tryz.prog 159 265 [143] where
 enters:=enters159
 none a w:=Go.Proofs.AbIsD.is_nil a w
 same a w:=Go.Proofs.AbIsD.is_same a w
 other a b ca cb ta tb w h h1 h2:=Go.Proofs.AbIsD.is_other a b ca cb ta tb w h h1 h2
 type s hs v b w:=by
  simp only[List.mem_cons,List.not_mem_nil,or_false] at hs
  subst hs
  exact Go.Proofs.AbIsD.is_type143 v b w
theorem bld_ok:BldOK Tryz.prog 156 99 130 5 where
 entersC:=enters156
 entersS:=enters99
 nzT:=by decide
 nzU:=by decide
 used:=Go.Proofs.AbDS.check_used
 fresh b w h0 h1 h2:=Go.Proofs.AbDS.check_fresh b w h0 h1 h2
 strNil b p w h:=Go.Proofs.AbDS.string_nil b p w h
 strSome b g cap p cur l w h1 h2 h3 h4 h5 h6 h7:=Go.Proofs.AbDS.string_some b g cap p cur l w h1 h2 h3 h4 h5 h6 h7
theorem sp_ok:SpOK cx0 sp0:=by
 intro g st vs out h
 unfold sp0 at h
 split at h
 ·rename_i hg
  subst hg
  exact .inr (as_at (List.mem_singleton.2 rfl) as_ok h)
 split at h
 ·rename_i hg
  subst hg
  exact .inr (is_at is_ok h)
 split at h
 ·rename_i hg
  subst hg
  exact .inr (repl_at enters157 (gm:=3) (by decide) (fun s old new n m w hs hm h1 hl=>Go.Proofs.AbShD.repl_run s old new n m w hs hm h1 hl) h)
 split at h
 ·rename_i hg
  subst hg
  exact .inr (fmt_at enters158 (gt:=6) (List.mem_singleton.2 rfl) (by kernel_rfl) (fun n h0 h1 w ht=>Go.Proofs.AbShD.fmt_run n h0 h1 w ht) h)
 split at h
 ·rename_i hg
  subst hg
  exact .inr (check_at bld_ok h)
 split at h
 ·rename_i hg
  subst hg
  exact .inr (str_at bld_ok h)
 split at h
 ·rename_i hg
  subst hg
  exact .inl (load_ret Go.Proofs.AbLkD.load h)
 split at h
 ·rename_i hg
  subst hg
  exact .inl (store_ret Go.Proofs.AbLkD.store h)
 split at h
 ·rename_i hg
  subst hg
  exact .inr (swap_at enters216 Go.Proofs.AbLkD.lock h)
 split at h
 ·rename_i hg
  subst hg
  exact .inr (swap_at enters217 Go.Proofs.AbLkD.unlock h)
 cases h
end Go.Ab.Derive2


namespace Go.Ab
open Go Go.ChangeShapes Go.WideShapes Go.RowKit
inductive DTy where
 | bool
 | int (k:IntKind)
 | str
 | slice (e:DTy)
 | struct (fs:List DTy)
mutual
def DTy.cells:DTy→Nat
 | .struct fs=>DTy.cellsL fs
 | .bool | .int _ | .str | .slice _=>1
def DTy.cellsL:List DTy→Nat
 | []=>0
 | d :: ds=>d.cells+DTy.cellsL ds
end
mutual
def isD (P:Program):Nat→DTy→TypeId→Bool
 | 0,_,_=>false
 | n+1,D,t=>match D,P.underlying t with
  | .bool,some .bool=>true
  | .int k,some (.int k')=>k'==k
  | .str,some .string=>true
  | .slice e,some (.slice et)=>isD P n e et&&P.cellsOf et==e.cells&&decide (0 < e.cells)
  | .struct fs,some (.struct fields)=>P.cellsOf t==DTy.cellsL fs&&isFs P n 0 fs fields.toList
  | _,_=>false
def isFs (P:Program):Nat→Nat→List DTy→List Field→Bool
 | 0,_,_,_=>false
 | _+1,_,[],[]=>true
 | n+1,off,D :: ds,f :: fs=>f.offset==off&&P.cellsOf f.type==D.cells&&isD P n D f.type&&isFs P n (off+D.cells) ds fs
 | _+1,_,_,_=>false
end
mutual
def HasV:DTy→PV→Prop
 | .bool,v=>∃ b,v=.bool b
 | .int k,v=>∃ n,v=.int k n∧(Lit.int k n).wf=true
 | .str,v=>∃ s,v=.str s∧s.length≤maxLen
 | .slice e,v=>v=.nilS∨∃ xs,v=.sl e.cells xs false∧xs.length≤maxLen∧∀ x∈xs,HasV e x
 | .struct fs,v=>∃ vs,v=.agg (cellsL vs)∧HasVs fs vs
def HasVs:List DTy→List PV→Prop
 | [],vs=>vs=[]
 | D :: fs,vs=>∃ v r,vs=v :: r∧HasV D v∧HasVs fs r
end
theorem repL1' {w:World} {I:Nat→Prop} {lp:Nat→Option Nat} {L:Option Loc} {a:PV} {us:List Value} (h:qbv w I lp L [a] us):∃ u,us=[u]∧qbz w I lp L a u:=by
 obtain⟨u,r,h1,rfl,h2⟩:∃ u r,qbz w I lp L a u∧us=u :: r∧qbv w I lp L [] r:=by
  cases h;exact⟨_,_,by assumption,rfl,by assumption⟩
 cases h2
 exact⟨u,rfl,h1⟩
section
variable {H:Type} {enc:TypeId×Value→H} {P:Program} {w:World} {I:Nat→Prop} {lp:Nat→Option Nat} {held:Bool} {sp:Nat→Bool}
def RepD (w:World) (I:Nat→Prop) (lp:Nat→Option Nat) (D:DTy) (cs:List Value):Prop:=∃ v:PV,HasV D v∧qbv w I lp none v.cells cs∧One cs∧v.cells.length=D.cells
theorem cells?_get {base:Nat} {a:Addr} {n:Nat} {l:List Value} (h:w.cells? base a n=some l):l.length=n∧∀ i,i < n→w.cell? (a.add i)=l[i]?:=by
 obtain⟨_,h1,h2⟩:=World.cells?_some h
 exact⟨h1,fun i hi=>by rw[h2 i hi]⟩
theorem cell?_row {a:Addr} {v:Value} (h:w.cell? a=some v):∃ c E fr,w.heap[a.block]?=some (.cells c E fr)∧a.spot=none∧c[a.off]?=some v:=by
 unfold World.cell? at h
 split at h
 ·rename_i c E fr hb
  split at h
  ·cases h
  ·rename_i hs
   exact⟨c,E,fr,hb,by simpa using hs,h⟩
 ·cases h
theorem Qqa (a:Addr) (h:a.spot=none) (i:Nat):a.add i=⟨a.block,a.off+i,none⟩:=by
 unfold Addr.add
 split
 ·rename_i hi;subst hi;cases a;simp_all
 ·rfl
theorem list_rep {e:DTy} (hI:∀ b,b < w.heap.size→I b) {a:Addr} {len cap:Nat} (hlc:len≤cap) (hcm:cap≤maxLen) (hpos:0 < e.cells)
  (hel:∀ i,i < len→∃ cs,w.cells? 0 (a.add (i*e.cells)) e.cells=some cs∧RepD w I lp e cs):RepD w I lp (.slice e) [.slice (some a) len cap]:=by
 by_cases h0:len=0
 ·subst h0
  exact⟨.sl e.cells [] false,.inr ⟨[],rfl,Nat.zero_le _,fun x hx=>by cases hx⟩,.cons _ _ _ _ (.slE _ _ _ _ (fun h=>by cases h)) .nil,by simp[One,Value.oneCell'],rfl⟩
 ·obtain⟨cs0,hcs0,_⟩:=hel 0 (by omega)
  obtain⟨hl0,hg0⟩:=cells?_get hcs0
  have hf:=hg0 0 hpos
  rw[Nat.zero_mul] at hf
  have e0:(a.add 0).add 0=a:=by simp[Addr.add]
  rw[e0,List.getElem?_eq_getElem (by omega)] at hf
  obtain⟨c,E,fr,hb,hs,_⟩:=cell?_row hf
  have hblt:a.block < w.heap.size:=(Array.getElem?_eq_some_iff.1 hb).1
  have each:∀ i,i < len→∃ v:PV,HasV e v∧v.cells.length=e.cells∧(a.off+i*e.cells)+e.cells≤c.size∧One ((c.toList.drop (a.off+i*e.cells)).take e.cells)∧qbv w I lp none v.cells ((c.toList.drop (a.off+i*e.cells)).take e.cells):=by
   intro i hi
   obtain⟨cs,hcs,v,h1,h2,h3,h4⟩:=hel i hi
   obtain⟨hl,hg⟩:=cells?_get hcs
   have key:∀ j,j < e.cells→c[a.off+i*e.cells+j]?=cs[j]?:=by
    intro j hj
    have:=hg j hj
    rw[Qqa a hs,Qqa _ rfl,qtb hb] at this
    exact this
   have hsz:a.off+i*e.cells+e.cells≤c.size:=by
    have:=key (e.cells - 1) (by omega)
    rw[List.getElem?_eq_getElem (by omega)] at this
    have:=(Array.getElem?_eq_some_iff.1 this).1
    omega
   have e1:(c.toList.drop (a.off+i*e.cells)).take e.cells=cs:=by
    apply List.ext_getElem?
    intro j
    by_cases hj:j < e.cells
    ·rw[List.getElem?_take_of_lt hj,List.getElem?_drop,←key j hj];simp
    ·rw[List.getElem?_eq_none (by simp;omega),List.getElem?_eq_none (by omega)]
   exact⟨v,h1,h4,hsz,by rw[e1];exact h3,by rw[e1];exact h2⟩
  have all:∀ n,n≤len→∃ xs:List PV,xs.length=n∧(∀ x∈xs,HasV e x)∧(∀ x∈xs,x.cells.length=e.cells)∧a.off+n*e.cells≤c.size∧One ((c.toList.drop a.off).take (n*e.cells))∧qbv w I lp none (cellsL xs) ((c.toList.drop a.off).take (n*e.cells)):=by
   intro n
   induction n with
   | zero =>
    intro _
    refine⟨[],rfl,by simp,by simp,?_,by simp[One],by simp;exact .nil⟩
    obtain⟨_,_,_,h,_⟩:=each 0 (by omega)
    omega
   | succ n ih =>
    intro hn
    obtain⟨xs,h1,h2,h3,h4,h5,h6⟩:=ih (by omega)
    obtain⟨v,g1,g2,g3,g4,g5⟩:=each n (by omega)
    have e2:(c.toList.drop a.off).take ((n+1)*e.cells)=(c.toList.drop a.off).take (n*e.cells)++(c.toList.drop (a.off+n*e.cells)).take e.cells:=by
     rw[Nat.add_mul,Nat.one_mul,List.take_add,List.drop_drop]
    refine⟨xs++[v],by simp[h1],?_,?_,by rw[Nat.add_mul];omega,?_,?_⟩
    ·intro x hx
     rcases List.mem_append.1 hx with hx | hx
     ·exact h2 x hx
     ·simp at hx;subst hx;exact g1
    ·intro x hx
     rcases List.mem_append.1 hx with hx | hx
     ·exact h3 x hx
     ·simp at hx;subst hx;exact g2
    ·rw[e2];exact h5.append' g4
    ·rw[e2,qf5]
     refine h6.append ?_
     simpa[cellsL] using g5
  obtain⟨xs,h1,h2,h3,h4,h5,h6⟩:=all len (Nat.le_refl _)
  have ea:a=⟨a.block,a.off,none⟩:=by cases a;simp_all
  refine⟨.sl e.cells xs false,.inr ⟨xs,rfl,by omega,h2⟩,?_,by simp[One,Value.oneCell'],rfl⟩
  rw[ea,←h1]
  exact .cons _ _ _ _ (.sl e.cells xs false a.block a.off cap c E fr (hI _ hblt) hb (by rw[h1];exact h4) h3 (by omega) (fun h=>by cases h) (by rw[h1];exact h5) (by rw[h1];exact h6)) .nil
theorem struct_rep {n:Nat} (ih:∀ (m:Nat) (D:DTy) (t:TypeId) (cs:List Value) (x:DataW H×List MemPlace),isD P m D t=true→DataW.trod enc P w 0 (fun _=>true) held n t cs=some x→RepD w I lp D cs) :
  ∀ (m:Nat) (ds:List DTy) (fs:List Field) (off:Nat) (cs:List Value) (xs:List (DataW H×List MemPlace)),isFs P m off ds fs=true→xs.length=fs.length→cs.length=off+DTy.cellsL ds →
  (∀ (i:Nat) (f:Field),fs[i]?=some f→DataW.trod enc P w 0 (fun _=>true) held n f.type ((cs.drop f.offset).take (P.cellsOf f.type))=xs[i]?) →
  ∃ vs:List PV,HasVs ds vs∧qbv w I lp none (cellsL vs) (cs.drop off)∧One (cs.drop off)∧(cellsL vs).length=DTy.cellsL ds:=by
 intro m
 induction m with
 | zero=>intro ds fs off cs xs h;cases h
 | succ m ihm =>
  intro ds fs off cs xs h hl hc hf
  match ds,fs,h with
  | [],[],_ =>
   refine⟨[],rfl,?_,?_,rfl⟩
   ·rw[List.drop_of_length_le (by simp[DTy.cellsL] at hc;omega)];exact .nil
   ·rw[List.drop_of_length_le (by simp[DTy.cellsL] at hc;omega)];simp[One]
  | D :: ds,f :: fs,h =>
   simp only[isFs,Bool.and_eq_true,beq_iff_eq] at h
   obtain⟨⟨⟨h1,h2⟩,h3⟩,h4⟩:=h
   match xs,hl with
   | x :: xs,hl =>
    have hx:=hf 0 f rfl
    rw[h1,h2] at hx
    obtain⟨v,g1,g2,g3,g4⟩:=ih m D f.type _ x h3 hx
    simp only[DTy.cellsL] at hc
    obtain⟨vs,k1,k2,k3,k4⟩:=ihm ds fs (off+D.cells) cs xs h4 (by simpa using hl) (by omega) (fun i f hi=>by simpa using hf (i+1) f (by simpa using hi))
    have e1:cs.drop off=(cs.drop off).take D.cells++cs.drop (off+D.cells):=by rw[←List.drop_drop,List.take_append_drop]
    refine⟨v :: vs,⟨v,vs,rfl,g1,k1⟩,?_,?_,by simp[cellsL,DTy.cellsL,g4,k4]⟩
    ·rw[e1];exact g2.append k2
    ·rw[e1];exact g3.append' k3
theorem Qk7 (hI:∀ b,b < w.heap.size→I b):∀ (fuel m:Nat) (D:DTy) (t:TypeId) (cs:List Value) (x:DataW H×List MemPlace),isD P m D t=true→DataW.trod enc P w 0 (fun _=>true) held fuel t cs=some x→RepD w I lp D cs:=by
 intro fuel
 induction fuel with
 | zero=>intro m D t cs x _ h;simp[DataW.trod] at h
 | succ fuel ih =>
  intro m D t cs x hD h
  cases m with
  | zero=>cases hD
  | succ m =>
   cases hu:P.underlying t with
   | none=>cases D<;>simp[isD,hu] at hD
   | some d =>
    cases D with
    | bool =>
     cases d<;>simp[isD,hu] at hD
     obtain⟨b,rfl,_⟩:=DataW.trod_bool hu h
     exact⟨.bool b,⟨b,rfl⟩,.cons _ _ _ _ (.bool b) .nil,by simp[One,Value.oneCell'],rfl⟩
    | int k =>
     cases d<;>simp[isD,hu] at hD
     subst hD
     obtain⟨n,rfl,_,hw⟩:=DataW.trod_int hu h
     exact⟨.int _ n,⟨n,rfl,hw⟩,.cons _ _ _ _ (.int _ n) .nil,by simp[One,Value.oneCell'],rfl⟩
    | str =>
     cases d<;>simp[isD,hu] at hD
     obtain⟨s,rfl,_,hw⟩:=DataW.trod_string hu h
     obtain⟨l,rfl⟩:∃ l:List UInt8,s=⟨l.toArray⟩:=⟨s.data.toList,by cases s;simp⟩
     exact⟨.str l,⟨l,rfl,by simpa[ByteArray.size] using hw⟩,.cons _ _ _ _ (.str l) .nil,by simp[One,Value.oneCell'],rfl⟩
    | slice e =>
     cases d<;>simp[isD,hu] at hD
     rename_i et
     obtain⟨⟨h1,h2⟩,h3⟩:=hD
     rcases DataW.trod_slice hu h with ⟨rfl,_⟩ | ⟨a,len,cap,elems,rest,n,hn,rfl,_,_,hl,hm,hlen,hel,_⟩
     ·exact⟨.nilS,.inl rfl,.cons _ _ _ _ .nilS .nil,by simp[One,Value.oneCell'],rfl⟩
     ·cases hn
      refine list_rep hI hl hm h3 fun i hi=>?_
      have:=hel i hi
      rw[List.getElem?_eq_getElem (by omega),Option.bind_eq_some_iff,h2] at this
      obtain⟨cs,hcs,hx⟩:=this
      exact⟨cs,hcs,ih m e et cs _ h1 hx⟩
    | struct ds =>
     cases d<;>simp[isD,hu] at hD
     rename_i fields
     obtain⟨h1,h2⟩:=hD
     obtain⟨xs,n,hn,_,hl,hlen,hf⟩:=DataW.trod_struct hu h
     cases hn
     obtain⟨vs,k1,k2,k3,k4⟩:=struct_rep ih m ds fields.toList 0 cs xs h2 (by simpa using hlen) (by rw[hl,h1];omega) (fun i f hi=>hf i f (by simpa using hi))
     rw[List.drop_zero] at k2 k3
     exact⟨.agg (cellsL vs),⟨vs,rfl,k1⟩,k2,k3,by simpa[PV.cells,DTy.cells] using k4⟩
variable {w':World} {sp':Nat→Bool}
theorem cell?_keep (hk:∀ b,b < w.heap.size→w'.heap[b]?=w.heap[b]?) {a:Addr} {v:Value} (h:w.cell? a=some v):a.block < w.heap.size∧w'.cell? a=some v:=by
 obtain⟨c,E,fr,hb,hs,hv⟩:=cell?_row h
 have hlt:a.block < w.heap.size:=(Array.getElem?_eq_some_iff.1 hb).1
 refine⟨hlt,?_⟩
 unfold World.cell?
 rw[hk _ hlt,hb]
 simp[hs,hv]
theorem qk3 {α β:Type} {f g:α→Option β}:∀ (l:List α) {ys:List β},l.mapM f=some ys→(∀ x∈l,∀ y,f x=some y→g x=some y)→l.mapM g=some ys
 | [],ys,h,_=>by simpa using h
 | x :: l,ys,h,hg=>by
  rw[List.mapM_cons] at h ⊢
  simp only[Option.bind_eq_bind,Option.bind_eq_some_iff,Option.pure_def,Option.some.injEq] at h ⊢
  obtain⟨y,h1,ys',h2,rfl⟩:=h
  exact⟨y,hg x (by simp) y h1,ys',qk3 l h2 (fun z hz=>hg z (by simp[hz])),rfl⟩
theorem cells?_keep (hk:∀ b,b < w.heap.size→w'.heap[b]?=w.heap[b]?) {a:Addr} {n:Nat} {l:List Value} (h:w.cells? 0 a n=some l):w'.cells? 0 a n=some l∧(0 < n→a.block < w.heap.size):=by
 refine⟨?_,fun hn=>?_⟩
 ·unfold World.cells? at h ⊢
  rw[if_pos (Nat.zero_le _)] at h ⊢
  exact qk3 _ h fun i _ v hv=>(cell?_keep hk hv).2
 ·obtain⟨h1,h2⟩:=cells?_get h
  have:=h2 0 hn
  rw[List.getElem?_eq_getElem (by omega)] at this
  have:=(cell?_keep hk this).1
  rwa [block_add] at this
theorem Qmc {n:Nat} (ih:∀ (m:Nat) (D:DTy) (t:TypeId) (cs:List Value) (x:DataW H×List MemPlace),isD P m D t=true→DataW.trod enc P w 0 (fun _=>true) held n t cs=some x→DataW.trod enc P w' 0 sp' held n t cs=some x) :
  ∀ (m:Nat) (ds:List DTy) (fs:List Field) (off:Nat),isFs P m off ds fs=true→∀ f∈fs,∀ cs x,DataW.trod enc P w 0 (fun _=>true) held n f.type cs=some x→DataW.trod enc P w' 0 sp' held n f.type cs=some x:=by
 intro m
 induction m with
 | zero=>intro ds fs off h;cases h
 | succ m ihm =>
  intro ds fs off h f hf cs x hx
  match ds,fs,h with
  | [],[],_=>cases hf
  | D :: ds,g :: fs,h =>
   simp only[isFs,Bool.and_eq_true,beq_iff_eq] at h
   rcases List.mem_cons.1 hf with rfl | hf
   ·exact ih m D _ cs x h.1.2 hx
   ·exact ihm ds fs _ h.2 f hf cs x hx
theorem trod_keep (hk:∀ b,b < w.heap.size→w'.heap[b]?=w.heap[b]?) (hsp:∀ b,b < w.heap.size→sp' b=true):∀ (fuel m:Nat) (D:DTy) (t:TypeId) (cs:List Value) (x:DataW H×List MemPlace),isD P m D t=true →
  DataW.trod enc P w 0 (fun _=>true) held fuel t cs=some x→DataW.trod enc P w' 0 sp' held fuel t cs=some x:=by
 intro fuel
 induction fuel with
 | zero=>intro m D t cs x _ h;simp[DataW.trod] at h
 | succ fuel ih =>
  intro m D t cs x hD h
  cases m with
  | zero=>cases hD
  | succ m =>
   cases hu:P.underlying t with
   | none=>cases D<;>simp[isD,hu] at hD
   | some d =>
    cases D with
    | bool =>
     cases d<;>simp[isD,hu] at hD
     obtain⟨b,rfl,rfl⟩:=DataW.trod_bool hu h
     simp[DataW.trod,hu]
    | int k =>
     cases d<;>simp[isD,hu] at hD
     subst hD
     obtain⟨n,rfl,rfl,hw⟩:=DataW.trod_int hu h
     simp[DataW.trod,hu,hw]
    | str =>
     cases d<;>simp[isD,hu] at hD
     obtain⟨s,rfl,rfl,hw⟩:=DataW.trod_string hu h
     simp[DataW.trod,hu,hw]
    | slice e =>
     cases d<;>simp[isD,hu] at hD
     rename_i et
     obtain⟨⟨h1,h2⟩,h3⟩:=hD
     rcases DataW.trod_slice hu h with ⟨rfl,rfl⟩ | ⟨a,len,cap,elems,rest,n,hn,rfl,_,_,hl,hm,hlen,_,_⟩
     ·simp[DataW.trod,hu]
     ·unfold DataW.trod at h ⊢
      simp only[hu] at h ⊢
      rw[if_pos ⟨Nat.zero_le _,hl,hm⟩] at h ⊢
      have el:∀ i y,(w.cells? 0 (a.add (i*P.cellsOf et)) (P.cellsOf et)).bind (DataW.trod enc P w 0 (fun _=>true) held fuel et)=some y→(w'.cells? 0 (a.add (i*P.cellsOf et)) (P.cellsOf et)).bind (DataW.trod enc P w' 0 sp' held fuel et)=some y∧a.block < w.heap.size:=by
       intro i y hy
       obtain⟨cs,hcs,hx⟩:=Option.bind_eq_some_iff.1 hy
       obtain⟨k1,k2⟩:=cells?_keep hk hcs
       refine⟨Option.bind_eq_some_iff.2 ⟨cs,k1,ih m e et cs y h1 hx⟩,?_⟩
       have:=k2 (by omega)
       rwa [block_add] at this
      obtain⟨es,he,h⟩:=Option.bind_eq_some_iff.1 h
      refine Option.bind_eq_some_iff.2 ⟨es,qk3 _ he fun i _ y hy=>(el i y hy).1,?_⟩
      obtain⟨rs,hr,rfl⟩:=Option.map_eq_some_iff.1 h
      refine Option.map_eq_some_iff.2 ⟨rs,?_,rfl⟩
      simp only[if_true] at hr
      cases hc:cap - len with
      | zero =>
       rw[hc] at hr
       simp at hr
       subst hr
       split<;>simp
      | succ q =>
       have hlt:a.block < w.heap.size:=by
        rw[hc,List.range_succ_eq_map,List.mapM_cons] at hr
        simp only[Option.bind_eq_bind,Option.bind_eq_some_iff] at hr
        obtain⟨y,hy,_⟩:=hr
        exact (el _ y (Option.bind_eq_some_iff.2 hy)).2
       rw[if_pos (hsp _ hlt),←hc]
       exact qk3 _ hr fun i _ y hy=>(el _ y hy).1
    | struct ds =>
     cases d<;>simp[isD,hu] at hD
     rename_i fields
     obtain⟨h1,h2⟩:=hD
     have key:=Qmc ih m ds fields.toList 0 h2
     unfold DataW.trod at h ⊢
     simp only[hu] at h ⊢
     split at h
     ·rename_i hlc
      rw[if_pos hlc]
      obtain⟨xs,hx,rfl⟩:=Option.map_eq_some_iff.1 h
      exact Option.map_eq_some_iff.2 ⟨xs,qk3 _ hx fun f hf y hy=>key f hf _ y hy,rfl⟩
     ·cases h
def isDs (P:Program) (m:Nat):List DTy→List TypeId→Bool
 | [],[]=>true
 | D :: Ds,t :: ts=>isD P m D t&&isDs P m Ds ts
 | _,_=>false
theorem val_rep (hI:∀ b,b < w.heap.size→I b) {m:Nat} {D:DTy} {t:TypeId} {v:Value} {d:DataW H} {ps:List MemPlace} {base:Nat} (hD:isD P m D t=true) (hv:Value.okWide P w .any base t v) (h:DataW.Trod enc P w 0 (fun _=>true) held t v d ps) :
  ∃ u:PV,HasV D u∧qbz w I lp none u v:=by
 obtain⟨fuel,h⟩:=h
 obtain⟨u,h1,h2,h3,h4⟩:=Qk7 (lp:=lp) hI fuel m D t _ _ hD h
 cases m with
 | zero=>cases hD
 | succ m =>
  cases hu:P.underlying t with
  | none=>cases D<;>simp[isD,hu] at hD
  | some dd =>
   have one:(∀ x,v.cells.toList=[x]→v=x)→(∀ x:PV,u.cells=[x]→u=x)→(∃ x,u.cells=[x])→∃ u:PV,HasV D u∧qbz w I lp none u v:=by
    intro ho hp ⟨x,hx⟩
    have hux:=hp x hx
    rw[hx] at h2
    obtain⟨y,hy,hr⟩:=repL1' h2
    rw[ho y hy]
    exact⟨u,h1,by rw[hux];exact hr⟩
   have sc:(∀ vs,v≠.agg vs)→∀ x,v.cells.toList=[x]→v=x:=by
    intro hn x hx
    cases v<;>first | (simp[Value.cells] at hx;exact hx) | exact absurd rfl (hn _)
   cases D with
   | struct ds =>
    cases dd<;>simp[isD,hu] at hD
    obtain⟨cs,rfl,_⟩:=okWide_struct hu hv
    obtain⟨vs,rfl,hvs⟩:=h1
    exact⟨_,⟨vs,rfl,hvs⟩,.agg _ _ h3 h2⟩
   | bool =>
    cases dd<;>simp[isD,hu] at hD
    obtain⟨b,rfl⟩:=h1
    exact one (sc fun vs e=>by subst e;simp[Value.okWide,hu,Cell.okWide,Cell.ok] at hv) (fun x hx=>by simpa[PV.cells] using hx) ⟨_,rfl⟩
   | int k =>
    cases dd<;>simp[isD,hu] at hD
    obtain⟨b,rfl,_⟩:=h1
    exact one (sc fun vs e=>by subst e;simp[Value.okWide,hu,Cell.okWide,Cell.ok] at hv) (fun x hx=>by simpa[PV.cells] using hx) ⟨_,rfl⟩
   | str =>
    cases dd<;>simp[isD,hu] at hD
    obtain⟨b,rfl,_⟩:=h1
    exact one (sc fun vs e=>by subst e;simp[Value.okWide,hu,Cell.okWide,Cell.ok] at hv) (fun x hx=>by simpa[PV.cells] using hx) ⟨_,rfl⟩
   | slice e =>
    cases dd<;>simp[isD,hu] at hD
    have hs:=sc fun vs e=>by subst e;simp[Value.okWide,hu,Cell.okWide,Cell.ok] at hv
    rcases h1 with rfl | ⟨xs,rfl,_,_⟩
    ·exact one hs (fun x hx=>by simpa[PV.cells] using hx) ⟨_,rfl⟩
    ·exact one hs (fun x hx=>by simpa[PV.cells] using hx) ⟨_,rfl⟩
theorem Qf7 (hI:∀ b,b < w.heap.size→I b) {m base:Nat}:∀ (Ds:List DTy) (ts:List TypeId) (vs:List Value) (ds:List (DataW H)) (p:List MemPlace),isDs P m Ds ts=true →
  (∀ (j:Nat) t v,ts[j]?=some t→vs[j]?=some v→Value.okWide P w .any base t v)→DataW.TrodAll enc P w 0 (fun _=>true) held ts vs ds p→∃ us:List PV,HasVs Ds us∧qbv w I lp none us vs
 | [],[],vs,ds,p,_,_,h=>by
  obtain⟨rfl,rfl,rfl⟩:=trodAll_nil h
  exact⟨[],rfl,.nil⟩
 | D :: Ds,t :: ts,vs,ds,p,hD,hv,h=>by
  obtain⟨v,vs,d,ds,p,q,rfl,rfl,rfl,h1,h2⟩:=trodAll_cons h
  simp only[isDs,Bool.and_eq_true] at hD
  obtain⟨u,a,b⟩:=val_rep (lp:=lp) hI hD.1 (hv 0 t v rfl rfl) h1
  obtain⟨us,a',b'⟩:=Qf7 hI Ds ts vs ds q hD.2 (fun j t v ht hj=>hv (j+1) t v (by simpa using ht) (by simpa using hj)) h2
  exact⟨u :: us,⟨u,us,rfl,a,a'⟩,.cons _ _ _ _ b b'⟩
 | [],_ :: _,_,_,_,hD,_,_=>by cases hD
 | _ :: _,[],_,_,_,hD,_,_=>by cases hD
theorem qz4 (hk:∀ b,b < w.heap.size→w'.heap[b]?=w.heap[b]?) (hsp:∀ b,b < w.heap.size→sp' b=true) {m:Nat}:∀ (Ds:List DTy) (ts:List TypeId) (vs:List Value) (ds:List (DataW H)) (p:List MemPlace),isDs P m Ds ts=true →
  DataW.TrodAll enc P w 0 (fun _=>true) held ts vs ds p→DataW.TrodAll enc P w' 0 sp' held ts vs ds p
 | [],[],vs,ds,p,_,h=>by
  obtain⟨rfl,rfl,rfl⟩:=trodAll_nil h
  exact rfl
 | D :: Ds,t :: ts,vs,ds,p,hD,h=>by
  obtain⟨v,vs,d,ds,p,q,rfl,rfl,rfl,⟨fuel,h1⟩,h2⟩:=trodAll_cons h
  simp only[isDs,Bool.and_eq_true] at hD
  exact⟨p,q,⟨fuel,trod_keep hk hsp fuel m D t _ _ hD.1 h1⟩,qz4 hk hsp Ds ts vs ds q hD.2 h2,rfl⟩
 | [],_ :: _,_,_,_,hD,_=>by cases hD
 | _ :: _,[],_,_,_,hD,_=>by cases hD
end
end Go.Ab


namespace Go.Ab.Derive2
open Go Go.Ab Go.Proofs
theorem sp_loc:Qgb sp0:=fun g=>sp_here g
theorem tab_ok:Qmz cx0 qkj (deadH Qjf Tryz.prog):=by
 intro f fn h
 unfold qkj at h
 split at h
 ·cases h;exact qbe (by kernel_rfl)
 ·cases h;exact qbe (by kernel_rfl)
 ·cases h;exact qbe (by kernel_rfl)
 ·cases h;exact qbe (by kernel_rfl)
 ·cases h;exact qbe (by kernel_rfl)
 ·cases h;exact qbe (by kernel_rfl)
 ·cases h;exact qbe (by kernel_rfl)
 ·cases h;exact qbe (by kernel_rfl)
 ·cases h;exact qbe (by kernel_rfl)
 ·cases h;exact qbe (by kernel_rfl)
 ·cases h;exact qbe (by kernel_rfl)
 ·cases h;exact qbe (by kernel_rfl)
 ·cases h;exact qbe (by kernel_rfl)
 ·cases h;exact qbe (by kernel_rfl)
 ·cases h;exact qbe (by kernel_rfl)
 ·cases h;exact qbe (by kernel_rfl)
 ·cases h;exact qbe (by kernel_rfl)
 ·cases h;exact qbe (by kernel_rfl)
 ·cases h;exact qbe (by kernel_rfl)
 ·cases h;exact qbe (by kernel_rfl)
 ·cases h;exact qbe (by kernel_rfl)
 ·cases h;exact qbe (by kernel_rfl)
 ·cases h;exact qbe (by kernel_rfl)
 ·cases h;exact qbe (by kernel_rfl)
 ·cases h;exact qbe (by kernel_rfl)
 ·cases h;exact qbe (by kernel_rfl)
 ·cases h;exact qbe (by kernel_rfl)
 ·cases h;exact qbe (by kernel_rfl)
 ·cases h;exact qbe (by kernel_rfl)
 ·cases h;exact qbe (by kernel_rfl)
 ·cases h;exact qbe (by kernel_rfl)
 ·cases h;exact qbe (by kernel_rfl)
 ·cases h;exact qbe (by kernel_rfl)
 ·cases h;exact qbe (by kernel_rfl)
 ·cases h;exact qbe (by kernel_rfl)
 ·cases h;exact qbe (by kernel_rfl)
 ·cases h;exact qbe (by kernel_rfl)
 ·cases h;exact qbe (by kernel_rfl)
 ·cases h;exact qbe (by kernel_rfl)
 ·cases h;exact qbe (by kernel_rfl)
 ·cases h;exact qbe (by kernel_rfl)
 ·cases h;exact qbe (by kernel_rfl)
 ·cases h;exact qbe (by kernel_rfl)
 ·cases h;exact qbe (by kernel_rfl)
 ·cases h;exact qbe (by kernel_rfl)
 ·cases h;exact qbe (by kernel_rfl)
 ·cases h;exact qbe (by kernel_rfl)
 ·cases h;exact qbe (by kernel_rfl)
 ·cases h;exact qbe (by kernel_rfl)
 ·cases h;exact qbe (by kernel_rfl)
 ·cases h;exact qbe (by kernel_rfl)
 ·cases h;exact qbe (by kernel_rfl)
 ·cases h;exact qbe (by kernel_rfl)
 ·cases h;exact qbe (by kernel_rfl)
 ·cases h;exact qbe (by kernel_rfl)
 ·cases h;exact qbe (by kernel_rfl)
 ·cases h;exact qbe (by kernel_rfl)
 ·cases h;exact qbe (by kernel_rfl)
 ·cases h;exact qbe (by kernel_rfl)
 ·cases h;exact qbe (by kernel_rfl)
 ·cases h;exact qbe (by kernel_rfl)
 ·cases h;exact qbe (by kernel_rfl)
 ·cases h;exact qbe (by kernel_rfl)
 ·cases h;exact qbe (by kernel_rfl)
 ·cases h;exact qbe (by kernel_rfl)
 ·cases h;exact qbe (by kernel_rfl)
 ·cases h;exact qbe (by kernel_rfl)
 ·cases h;exact qbe (by kernel_rfl)
 ·cases h;exact qbe (by kernel_rfl)
 ·cases h;exact qbe (by kernel_rfl)
 ·cases h;exact qbe (by kernel_rfl)
 ·cases h;exact qbe (by kernel_rfl)
 ·cases h;exact qbe (by kernel_rfl)
 ·cases h;exact qbe (by kernel_rfl)
 ·cases h;exact qbe (by kernel_rfl)
 ·cases h;exact qbe (by kernel_rfl)
 ·cases h;exact qbe (by kernel_rfl)
 ·cases h;exact qbe (by kernel_rfl)
 ·cases h;exact qbe (by kernel_rfl)
 ·cases h;exact qbe (by kernel_rfl)
 ·cases h;exact qbe (by kernel_rfl)
 ·cases h;exact qbe (by kernel_rfl)
 ·cases h;exact qbe (by kernel_rfl)
 ·cases h;exact qbe (by kernel_rfl)
 ·cases h;exact qbe (by kernel_rfl)
 ·cases h;exact qbe (by kernel_rfl)
 ·cases h;exact qbe (by kernel_rfl)
 ·cases h;exact qbe (by kernel_rfl)
 ·cases h;exact qbe (by kernel_rfl)
 ·cases h;exact qbe (by kernel_rfl)
 ·cases h;exact qbe (by kernel_rfl)
 ·cases h;exact qbe (by kernel_rfl)
 ·cases h;exact qbe (by kernel_rfl)
 ·cases h;exact qbe (by kernel_rfl)
 ·cases h;exact qbe (by kernel_rfl)
 ·cases h;exact qbe (by kernel_rfl)
 ·cases h;exact qbe (by kernel_rfl)
 ·cases h;exact qbe (by kernel_rfl)
 ·cases h;exact qbe (by kernel_rfl)
 ·cases h;exact qbe (by kernel_rfl)
 ·cases h;exact qbe (by kernel_rfl)
 ·cases h;exact qbe (by kernel_rfl)
 ·cases h;exact qbe (by kernel_rfl)
 ·cases h;exact qbe (by kernel_rfl)
 ·cases h;exact qbe (by kernel_rfl)
 ·cases h;exact qbe (by kernel_rfl)
 ·cases h;exact qbe (by kernel_rfl)
 ·cases h;exact qbe (by kernel_rfl)
 ·cases h;exact qbe (by kernel_rfl)
 ·cases h;exact qbe (by kernel_rfl)
 ·cases h;exact qbe (by kernel_rfl)
 ·cases h;exact qbe (by kernel_rfl)
 ·cases h;exact qbe (by kernel_rfl)
 ·cases h;exact qbe (by kernel_rfl)
 ·cases h;exact qbe (by kernel_rfl)
 ·cases h;exact qbe (by kernel_rfl)
 ·cases h;exact qbe (by kernel_rfl)
 ·cases h;exact qbe (by kernel_rfl)
 ·cases h;exact qbe (by kernel_rfl)
 ·cases h;exact qbe (by kernel_rfl)
 ·cases h;exact qbe (by kernel_rfl)
 ·cases h;exact qbe (by kernel_rfl)
 ·cases h;exact qbe (by kernel_rfl)
 ·cases h;exact qbe (by kernel_rfl)
 ·cases h;exact qbe (by kernel_rfl)
 ·cases h;exact qbe (by kernel_rfl)
 ·cases h;exact qbe (by kernel_rfl)
 ·cases h;exact qbe (by kernel_rfl)
 ·cases h;exact qbe (by kernel_rfl)
 ·cases h;exact qbe (by kernel_rfl)
 ·cases h
theorem Qn2 {g:FuncId} {fn:RFn} (ht:qkj g=some fn) {args:List PV} (ha:qb1 args=true) (hl:args.length≤fn.nt)
  (hr:qfy (qdo B0 fun _=>.cl) fn .cl qbc 0 (args.map KV.cv) ()=some (.bool true,())) {I:Nat→Prop} {w:World} {vs:List Value}
  (hI:∀ b,I b→b < w.heap.size) (hw:cx0.Wd I w) (hrep:qbv w I (fun _=>none) none args vs) :
  Calls cx0.P g vs.toArray w fun e w'=>e=.returned (.bool true)∧Qkr w w':=by
 obtain⟨n,hn⟩:=law_of_run (qd0 fun _=>.cl) ht ha hl hr
 exact law_calls (fn_ok sp_ok sp_loc tab_ok n) hn hI hw hrep
def Told (fn:RFn) (Ds:List DTy):Prop:=∀ us,HasVs Ds us→qb1 us=true∧us.length≤fn.nt∧qfy (qdo B0 fun _=>.cl) fn .cl qbc 0 (us.map KV.cv) ()=some (.bool true,())
end Go.Ab.Derive2


namespace Go.Ab.Derive2
open Go Go.Ab
def arrD:DTy:=.struct [.bool,.bool,.slice (.int .i64)]
theorem ints_of:∀ (xs:List PV),(∀ x∈xs,HasV (.int .i64) x)→∃ l,xs=qd3 l
 | [],_=>⟨[],rfl⟩
 | x :: xs,h=>by
  obtain⟨n,rfl,_⟩:=h x List.mem_cons_self
  obtain⟨l,rfl⟩:=ints_of xs fun y hy=>h y (List.mem_cons_of_mem _ hy)
  exact⟨n :: l,rfl⟩
theorem arr_of {v:PV} (h:HasV arrD v):∃ a,IsA v a:=by
 obtain⟨vs,rfl,b,r,rfl,⟨b,rfl⟩,c,r,rfl,⟨c,rfl⟩,x,r,rfl,hx,rfl⟩:=h
 have key:∃ l,IsL x l∧x.cells=[x]:=by
  rcases hx with rfl | ⟨xs,rfl,_,hx⟩
  ·exact⟨[],.nil,rfl⟩
  ·obtain⟨l,rfl⟩:=ints_of xs hx
   exact⟨l,.sl l false,rfl⟩
 obtain⟨l,h1,h2⟩:=key
 refine⟨⟨b,c,l⟩,?_⟩
 rw[show cellsL [PV.bool b,PV.bool c,x]=[.bool b,.bool c,x] by simp only[cellsL,h2];rfl]
 exact .mk _ _ _ _ h1
theorem Qdo:Told fn7 [arrD]:=by
 rintro us ⟨_,_,rfl,ha,rfl⟩
 obtain⟨a,ha⟩:=arr_of ha
 exact⟨by simp[qb1,ha.ok],Nat.le_of_ble_eq_true rfl,Qhq ha⟩
theorem told_same:Told fn8 [arrD]:=by
 rintro us ⟨_,_,rfl,ha,rfl⟩
 obtain⟨a,ha⟩:=arr_of ha
 exact⟨by simp[qb1,ha.ok],Nat.le_of_ble_eq_true rfl,law_same ha⟩
end Go.Ab.Derive2


namespace Go.Ab.Derive2
open Go Go.Ab Go.Proofs Go.Proofs.YtbeonejdegijfaaGreatDoor Go.ChangeShapes Go.WideShapes Go.RowKit
theorem p_own:ownKnob Tryz.prog.godebug=none:=by kernel_rfl
theorem p_et:Tryz.prog.globalNamed "errors.errorType"=some 0:=by kernel_rfl
theorem p_p:Tryz.prog.globalNamed "internal/strconv.uint64pow10"=some 6:=by kernel_rfl
theorem p_pt:(Tryz.prog.globals[6]?).map (·.type)=some 245:=by kernel_rfl
theorem p_rt:(Tryz.prog.cutTypes.find? (·.1 == "internal/reflectlite.rtype")).map (·.2)=some 200:=by kernel_rfl
theorem p_oneRow:((List.range 296).filter fun t=>Tryz.prog.rowNamed t [101,114,114,111,114])=[63]:=by kernel_rfl
theorem p_size:Tryz.prog.types.size=296:=by kernel_rfl
theorem p_cS:Tryz.prog.cellsOf 284=1:=by kernel_rfl
theorem p_cs:Tryz.prog.cellsOf 9=1:=by kernel_rfl
theorem p_star : "*" ++ "errors.errorString" = "*errors.errorString":=by decide
theorem p_row (u:TypeId) (h:Tryz.prog.typeName? 3 u=some "*errors.errorString"):u=265 :=
 typeName_ptr_named (nm := "errors.errorString") (by rw[p_star];kernel_rfl) (by kernel_rfl) (by decide) u (by rw[p_star];exact h)
theorem qtm {W:World} {n:String} {g:Nat} {cs:Array Value} (hg:Tryz.prog.globalNamed n=some g) (h:W.var? Tryz.prog n=some cs):∃ E fr,W.heap[g]?=some (.cells cs E fr):=by
 unfold World.var? at h
 rw[hg] at h
 simp only[Option.bind_some] at h
 split at h
 ·rename_i cs' E fr hh
  cases h
  exact⟨E,fr,hh⟩
 ·cases h
theorem qy1 {W:World} {b:Nat} {o:Obj} (h:W.heap[b]?=some o):b < W.heap.size:=(Array.getElem?_eq_some_iff.1 h).1
theorem p_e0:Tryz.prog.globalNamed "diaeresis/number.errOver"=some 1:=by kernel_rfl
theorem p_t0:(Tryz.prog.globals[1]?).map (·.type)=some 63:=by kernel_rfl
theorem p_e1:Tryz.prog.globalNamed "diaeresis/number.errDivide"=some 2:=by kernel_rfl
theorem p_t1:(Tryz.prog.globals[2]?).map (·.type)=some 63:=by kernel_rfl
set_option maxRecDepth 100000 in
theorem Qbt {W:World} (hsh:W.ShapedOpen Tryz.prog) (h:laidMetH Tryz.prog Rows.deriveGreatestRow.laid W):cx0.Wd (fun b=>b < W.heap.size) W:=by
 have h':handlesMet Tryz.prog [("errors.errorType",Rows.laid_errors_errorType)] W:=h.2
 have hd:laidMet Tryz.prog [("math/bits.deBruijn32tab",Rows.laid_math_bits_deBruijn32tab),("math/bits.deBruijn64tab",Rows.laid_math_bits_deBruijn64tab),("internal/strconv.uint64pow10",Rows.laid_internal_strconv_uint64pow10),("unicode/utf8.acceptRanges",Rows.laid_unicode_utf8_acceptRanges),("diaeresis/number.errOver",Rows.laid_diaeresis_number_errOver),("diaeresis/number.errDivide",Rows.laid_diaeresis_number_errDivide),("unicode/utf8.first",Rows.laid_unicode_utf8_first)] W:=h.1
 have hs:=hd.filter fun x=>x.1 == "diaeresis/number.errOver"||x.1 == "diaeresis/number.errDivide"
 have hp:=hd.filter fun x=>x.1 == "internal/strconv.uint64pow10"
 have hs:laidMet Tryz.prog [("diaeresis/number.errOver",Rows.laid_diaeresis_number_errOver),("diaeresis/number.errDivide",Rows.laid_diaeresis_number_errDivide)] W:=hs
 have hp:laidMet Tryz.prog [("internal/strconv.uint64pow10",Lib.tabData .u64 Lib.pow10Tab)] W:=hp
 obtain⟨name,u,ty,e1,e2,e3,e4,e5⟩:=h' _ (List.mem_singleton.2 rfl)
 have en:name=[101,114,114,111,114]:=(Option.some.inj e1).symm
 subst en
 obtain rfl:=Option.some.inj (p_rt.symm.trans e2)
 have hm:ty∈(List.range 296).filter fun t=>Tryz.prog.rowNamed t [101,114,114,111,114]:=List.mem_filter.2 ⟨List.mem_range.2 (by rw[←p_size];exact e3),e4⟩
 rw[p_oneRow] at hm
 obtain rfl:=List.mem_singleton.1 hm
 have hh:typeHandle Tryz.prog 63=.pointer (some ⟨9,63,none⟩):=by kernel_rfl
 rw[hh] at e5
 have h0:W.cell? ⟨0,0,none⟩=some et0:=by simpa[et0] using World.var?_cell p_et e5 0
 have i0:0 < W.heap.size:=by
  rcases Nat.lt_or_ge 0 W.heap.size with h | h
  ·exact h
  ·simp[World.cell?,Array.getElem?_eq_none h] at h0
 have hpw:Lib.TabIs Tryz.prog W "internal/strconv.uint64pow10" .u64 Lib.pow10Tab:=Lib.tabIs_of_head p_p p_pt Tryz.underlying245 Tryz.underlying190 (by kernel_rfl) (by kernel_rfl) hp
 obtain⟨E3,f3,r3⟩:=qtm p_p hpw
 obtain⟨a0,a1,s0,s1,c0,c1,t0,t1,hv0,hv1,hc0,hs0,hz0,hc1,hs1,hz1,hne,hb0,hb1⟩:=laid_sentinels2 hs p_e0 p_t0 p_e1 p_t1 Tryz.underlying63 p_row Tryz.underlying265 Tryz.underlying284 rfl rfl Tryz.underlying9 p_cS p_cs
 obtain⟨E1,f1,r1⟩:=qtm p_e0 hv0
 obtain⟨E2,f2,r2⟩:=qtm p_e1 hv1
 have hml:∃ m,W.cell? ⟨3,0,none⟩=some (.int .i64 m):=cell_of_shapedOpen_int hsh (g:=3) (t:=3) (zero:=#[.int .i64 0]) (of_decide_eq_true (by kernel_rfl)) (by kernel_rfl) rfl (by kernel_rfl) (by kernel_rfl) Tryz.underlying3
 exact⟨⟨fun g=>if g=1 then a0 else a1,fun g hg=>by
   rcases List.mem_cons.1 hg with rfl | hg
   ·exact⟨qy1 r1,qy1 hb0,⟨E1,f1,r1⟩,c0,t0,hb0⟩
   ·obtain rfl:=List.mem_singleton.1 hg
    exact⟨qy1 r2,qy1 hb1,⟨E2,f2,r2⟩,c1,t1,hb1⟩,fun g hg g' hg' hn=>by
   simp only[List.mem_cons,List.not_mem_nil,or_false] at hg hg'
   rcases hg with rfl | rfl<;>rcases hg' with rfl | rfl
   ·exact absurd rfl hn
   ·exact hne
   ·exact hne.symm
   ·exact absurd rfl hn⟩,fun p hp=>(by
  obtain rfl:=List.mem_singleton.1 hp
  exact⟨i0,h0⟩),fun p hp=>by
  obtain rfl:=List.mem_singleton.1 hp
  exact⟨qy1 r3,E3,f3,r3⟩,fun g hg=>by
  obtain rfl:=List.mem_singleton.1 hg
  refine⟨?_,hml⟩
  obtain⟨m,hm⟩:=hml
  rcases Nat.lt_or_ge 3 W.heap.size with h | h
  ·exact h
  ·simp[World.cell?,Array.getElem?_eq_none h] at hm⟩
theorem qm0 {H:Type} {enc:TypeId×Value→H} {C:Checked} {os:Os} {f:FuncId} {fn:Func} {s:ChangeSpec} {conds:List PathCond} {apart fresh handsOn again:Bool} {X:World→Array Value→Prop}
  (hX:∀ (w w':World) (args:Array Value),w.heap=w'.heap→X w args→X w' args)
  (own:ownKnob C.prog.godebug=none) (started:os.Started) (noInit:C.prog.inits.idxOf? f=none) (hfn:C.prog.funcs[f]?=some fn)
  (witness:∃ (w:World) (tape:Tape) (i:Input),w.os=os∧(w.forCall tape i).Shaped C.prog∧i.vars=[]∧Input.okWide C.prog (w.forCall tape i) .any w.heap.size f i ∧
   ((s.pre enc C.prog fn conds apart (w.forCall tape i).memory i.args∧X (w.forCall tape i).memory i.args)∧sizedMet enc C.prog fn (OpenSpec.ofChange s) apart (w.forCall tape i).memory i.args)∧({}:Assume).holds C.prog (lone (Frame.enter C.prog f i.args .normal) [] (w.forCall tape i)))
  (contract:∀ (W:World) (base:Nat) (args:Array Value) (ds gs:List (DataW H)) (before:List MemPlace),
   (∀ (j:Nat) t v,fn.params[j]?=some t→args[j]?=some v→Value.okWide C.prog W .any base t v) →
   DataW.Whole enc C.prog fn.params.toList s.vars apart W args.toList ds gs before→X W args→W.ShapedOpen C.prog →
   Calls C.prog f args W fun e W'=>∃ v,e=.returned v∧s.post enc C.prog fn apart fresh handsOn again W args v W') :
  ReturnsInHanded {} C os f .any (fun w args=>(s.pre enc C.prog fn conds apart w args∧X w args)∧sizedMet enc C.prog fn (OpenSpec.ofChange s) apart w args) (s.post enc C.prog fn apart fresh handsOn again):=by
 refine returnsInHanded_of_calls own started noInit witness ?_
 intro w tape i _ hsh _ hok hpre _
 obtain⟨_,_,_,fn',hfn',_,_,_,_,hval⟩:=hok
 have e:fn'=fn:=Option.some.inj (hfn'.symm.trans hfn)
 subst e
 obtain⟨⟨⟨ds,gs,before,hw,hc⟩,hx⟩,hz⟩:=hpre
 have hw':=DataW.Whole.of_heap (w':=w.forCall tape i) (by rfl) hw
 refine (contract (w.forCall tape i) w.heap.size i.args ds gs before hval hw' (hX _ _ _ (by rfl) hx) hsh).mono fun e W' ⟨v,he,hp⟩=>?_
 subst he
 exact ChangeSpec.post_blind hp
mutual
def Qnc:DataW Unit→List Value
 | .lit (.int k n)=>[.int k n]
 | .agg ds=>Qgk ds
 | _=>[]
def Qgk:List (DataW Unit)→List Value
 | []=>[]
 | d :: ds=>Qnc d++Qgk ds
end
def textOf:DataW Unit→ByteArray
 | .iface _ (.ptr (.agg [.lit (.string s)]))=>⟨s.toArray⟩
 | _=>⟨#[]⟩
def Qg2 (h:Array Obj) (i:Nat) (d:DataW Unit):Array Obj:=h.modify i fun
 | .cells _ t frozen=>.cells (Qnc d).toArray t frozen
 | o=>o
def Qlg (h:Array Obj) (i:Nat) (v:Value):Array Obj:=h.modify i fun
 | .cells _ t frozen=>.cells #[v] t frozen
 | o=>o
noncomputable def low:Nat:=(World.holding Tryz.prog default ⟨#[],#[],[]⟩).heap.size
noncomputable def qym (os:Os):World :=
 let w0:=World.holding Tryz.prog os ⟨#[.cells #[.string (textOf Rows.laid_diaeresis_number_errOver)] 284,.cells #[.string (textOf Rows.laid_diaeresis_number_errDivide)] 284],#[],[]⟩
 let h0:=Qlg w0.heap 0 (.iface 200 (.agg #[.pointer (some ⟨9,63,none⟩)]))
 let h1:=Qlg (Qlg (h0) 1 (.iface 265 (.pointer (some ⟨low+0,0,none⟩)))) 2 (.iface 265 (.pointer (some ⟨low+1,0,none⟩)))
 {w0 with heap:=Qg2 (Qg2 (Qg2 (Qg2 (Qg2 (h1) 7 Rows.laid_math_bits_deBruijn32tab) 8 Rows.laid_math_bits_deBruijn64tab) 6 Rows.laid_internal_strconv_uint64pow10) 5 Rows.laid_unicode_utf8_acceptRanges) 4 Rows.laid_unicode_utf8_first}
theorem qsl (os:Os) (args:Array Value):laidMetH Tryz.prog Rows.deriveGreatestRow.laid ((qym os).forCall (fun _ _=>0) ⟨#[],args,[]⟩).memory :=
 laidMetH_of_parts (laidMet_of_run' 8 (by kernel_rfl) (by kernel_rfl)) (by kernel_rfl)
set_option maxRecDepth 100000
theorem qbr {a b:Bool} (ha:a=true) (hb:b=true):(a&&b)=true:=by rw[ha,hb];rfl
theorem jp_1:(laidOutB Tryz.prog)=true:=by kernel_rfl
theorem jp_2:(mapsRowed Tryz.prog)=true:=by kernel_rfl
theorem jp_6:((Tryz.prog.stops==[]))=true:=by kernel_rfl
theorem jp_8:((Tryz.prog.stopKnobs==[]))=true:=by kernel_rfl
theorem jp_24:(Tryz.prog.stopsHeard)=true:=by kernel_rfl
theorem jp_25:(Tryz.prog.mayEnter)=true:=by kernel_rfl
end Go.Ab.Derive2

