/-
  Part 11 of a proof: a machine of our own for the given program, its laws, and what it says of the program. Nothing here is a claim by itself.
-/
import Derived.Test.YtbeonejdegijfaaGreatDoorK06
import Derived.Test.YtbeonejdegijfaaGreatDoorK10
import Derived.Test.YtbeonejdegijfaaGreatDoorK05
import Derived.Test.YtbeonejdegijfaaGreatDoorProg
import Derived.WalkKit
import Derived.LaidEql
import Derived.Stop.Asserts
import Derived.RowKitTokens
import Derived.Test.YtbeonejdegijfaaGreatDoorK01
import Derived.Lib.Builder
import Derived.Lib.UnsafeStr
import Derived.Lib.Bytealg
import Derived.Lib.AppendZerosOnto
import Derived.Lib.Walk
import Derived.Lib.SliceRun
import Derived.Laws.Externs
import Derived.Shelf.RegionOpenPlain
import Derived.Shelf.Strings.Replace
import Derived.Shelf.Strconv.Itoa4
import Derived.Lib.Strings
import Derived.Conc.MuLone
import Derived.Laws.LoneSync
import Derived.KernelRfl
import Derived.Test.YtbeonejdegijfaaGreatDoorK03
import Derived.ChangeArms
import Derived.ChangeSlices
import Derived.ChangeMaps5
import Derived.JoinedOf
import Derived.RowKit
import Derived.Test.YtbeonejdegijfaaGreatDoorRows
import Derived.ProofKit
import Derived.ChangeSame
import Derived.ChangeVars
import Derived.LaidLaws
import Derived.LaidHandle
import Derived.Stop.Joined
import Derived.Carry
import Derived.Stop.LaidTwo
import Derived.Stop.LaidErr
import Derived.LaidSub
import Derived.Lib.LaidTab
import Derived.Shelf.Vars
import Derived.Handed
set_option linter.all false

namespace Go.Ab.Derive2
open Go Go.Ab
theorem shown_run:qbj B0 .cl (.fn 11 []) []=some (.bool true):=by
 obtain⟨n,h⟩:=ev_shown
 exact qmq (by decide) h rfl rfl
def Arr.cut (a:Arr):Arr:=⟨a.li,a.ru,a.n.take 40⟩
end Go.Ab.Derive2


namespace Go.Ab.Derive2
open Go Go.Ab
theorem thr_all {F:Arr→Arr×Int}:∀ {l:List Arr},(∀ a∈l,(F a).2=0)→thrF F l=.inr (l.map fun a=>(F a).1)
 | [],_=>rfl
 | a :: l,h=>by rw[Qfk,if_pos (h a List.mem_cons_self),thr_all fun b hb=>h b (List.mem_cons_of_mem _ hb)];rfl
theorem Qjh (ru:Bool):∀ l:List Int,qqb (l.map (qjn ru))=l
 | []=>rfl
 | n :: l=>by
  have:=Qjh ru l
  unfold qqb at this ⊢
  rw[List.map_cons,List.flatMap_cons,this]
  rfl
theorem gat_itms {li ru:Bool} {l:List Int} (hr:∀ n∈l,(qjn ru n).right=true) (h1:li=false→l.length=1) (h2:l.length≤200) (r0:Bool) :
  Qb0 li (l.map (qjn ru))=0∧gatA li r0 (l.map (qjn ru))=⟨li,if l.length=0 then r0 else ru,l⟩:=by
 have e:Qb0 li (l.map (qjn ru))=0:=by
  unfold Qb0
  have a1:(l.map (qjn ru)).all Arr.right=true:=by
   rw[List.all_eq_true]
   intro a ha
   obtain⟨n,hn,rfl⟩:=List.mem_map.1 ha
   exact hr n hn
  have a2:(l.map (qjn ru)).any Arr.li=false:=by
   rw[List.any_eq_false]
   intro a ha
   obtain⟨n,hn,rfl⟩:=List.mem_map.1 ha
   simp[qjn]
  have a3:(l.map (qjn ru)).any (fun a=>a.ru != (hdA (l.map (qjn ru))).ru)=false:=by
   rw[List.any_eq_false]
   intro a ha
   obtain⟨n,hn,rfl⟩:=List.mem_map.1 ha
   cases l with
   | nil=>cases hn
   | cons m l=>simp[qjn,hdA]
  rw[a1,a2,a3]
  simp only[Bool.true_eq_false,Bool.false_eq_true,if_false,List.length_map]
  rw[if_neg (fun h=>h.2 (h1 h.1)),if_neg (by omega)]
 refine⟨e,?_⟩
 unfold gatA
 rw[if_pos e,Qjh,List.length_map]
 cases l with
 | nil=>rfl
 | cons n l=>rfl
theorem ldI (n:Int):qbb (.load 1 false (.c (.ptr [I n] 0)))=some (I n):=rfl
end Go.Ab.Derive2


namespace Go.Ab.Derive2
open Go Go.Ab
def errS (c:Int):PV:=if c=0 then .nilI else .iface 153 (.agg [I c])
theorem errS_0:errS 0=.nilI:=rfl
theorem errS_ok (c:Int):okV (errS c)=true:=by unfold errS;split<;>rfl
theorem stold_run (c:Int):qbj B0 .cl (.fn 68 []) [errS c]=some (I c):=by
 refine call (d:=fun _=>.cl) rfl (by decide) (by simp[qb3,errS_ok]) rfl ?_
 rw[List.map_cons,List.map_nil,run68]
 unfold errS
 by_cases h:c=0
 ·subst h;rfl
 ·simp only[h,if_false];rfl
theorem freeL_ints (l:List Int):qpc (qcy l)=true:=by
 induction l with
 | nil=>rfl
 | cons a l ih=>simpa[qcy,qpc,PV.free,I] using ih
theorem lend_own {g:FuncId} {fn:RFn} {args:List PV} {l:List Int} {d:Nat→RSh} (ht:qjd g=some fn) (ha:qb3 args=true) (hl:Nat.ble args.length fn.nt=true)
  (hr:qf8 (qfj B0 d) fn (.own 1) qbc 0 (args.map KV.cv) ()=some (.sl 1 (qcy l) false,())) (hle:fn.leans=false:=by rfl):qft B0 (.own 1) true g args=some (.sl 1 (qcy l) false):=by
 obtain⟨r,obs,h1,h2⟩:=qta (qhu d) ht (hn:=fun _=>qbc) noH (Qh9 ha) Qh8 (by simpa using Nat.le_of_ble_eq_true hl) hr
 rw[Qcd] at h2
 have hL:B0.L Unit qbc 0 g args ()=some (r,obs,()):=qvo h2
 have hfree:(r.free&&obs.all Ob.free)=true:=by
  unfold qlw at h1
  simp only[qht] at h1
  split at h1
  ·rename_i r' j hr'
   split at hr'
   ·rename_i nm k' o n k'' xs ho
    obtain⟨c1,c2⟩:=qbp hr'
    cases c2
    obtain⟨c3,c4⟩:=qbp h1
    injection c4 with c4
    injection c4 with _ c4 _
    subst c4
    simp only[beq_iff_eq] at c3
    match obs,ho,c3 with
    | [o],ho,_ =>
     simp at ho;subst ho
     simp[PV.free,Ob.free,freeL_ints]
    | [],ho,_=>simp at ho
    | _ :: _ :: _,_,c3=>simp at c3
   ·cases hr'
  ·cases h1
 unfold qft
 rw[(qb4 ha).2]
 have hl0:B0.leans g=false:=by show qgr qjd g=false;unfold qgr;rw[ht];exact hle
 simp only[Bool.false_eq_true,if_false,hL,hfree,hl0,Bool.not_false,Bool.and_true,beq_self_eq_true,qbk]
 exact h1
theorem qzj {v:PV} {a:Arr} (h:IsA v a) (hl:a.n.length≤1000000):qbj B0 .cl (.fn 128 []) [v]=some (.bool (!a.right)):=by
 obtain⟨x,rfl,hx⟩:=h.get
 refine call (d:=fun _=>.cl) rfl (by decide) (by simp[qb3,h.ok]) rfl ?_
 rw[List.map_cons,List.map_nil,run128,qgy,qwz rfl rfl hx.cell,qbk]
 simp only[qga,qcv,sel3_a,qbe,qns h hl,qdl]
theorem right2 {v u:PV} {a b:Arr} (h:IsA v a) (hu:IsA u b) (hl:a.n.length≤1000000) (hm:b.n.length≤1000000):qft B0 .cl true 67 [.sl 3 [v,u] false]=some (.bool (a.right&&b.right)):=by
 have hi:qbj B0 .cl (.fn 168 []) [.sl 3 [v,u] false,.fn 128 []]=some (I (if a.right then (if b.right then -1 else 1) else 0)):=by
  refine call (d:=fun _=>.cl) rfl (by decide) (by simp[qb3,okV,h.ok,hu.ok]) rfl ?_
  rw[List.map_cons,List.map_cons,List.map_nil,run168,qgk]
  simp only[qbe]
  rw[show qb9 [.sl 3 [v,u] false,.fn 128 [],.int .i64 (([v,u].length:Nat):Int),.int .i64 0]=true from rfl,qbk]
  have he:=qzj h hl
  have he2:=qzj hu hm
  obtain⟨x,rfl,hx⟩:=h.get
  obtain⟨y,rfl,hy⟩:=hu.get
  have i0:qbb (.idxAddr 3 (.c (.sl 3 [.agg [.bool a.li,.bool a.ru,x],.agg [.bool b.li,.bool b.ru,y]] false)) (.c (I 0)))=some (.ptr [.bool a.li,.bool a.ru,x] 0):=Qgr (j:=0) rfl
  have i1:qbb (.idxAddr 3 (.c (.sl 3 [.agg [.bool a.li,.bool a.ru,x],.agg [.bool b.li,.bool b.ru,y]] false)) (.c (I 1)))=some (.ptr [.bool b.li,.bool b.ru,y] 0):=Qgr (j:=1) rfl
  cases hr:a.right with
  | false =>
   refine qch ?_
   simp only[qdw,qdv,qd4,qfz,qfg,qfw,qbe,qbh]
   rw[i0]
   simp only[qbe,Qdb,he,hr,Bool.not_false,qbh]
   rfl
  | true =>
   rw[qdg (s':=([.sl 3 [.agg [.bool a.li,.bool a.ru,x],.agg [.bool b.li,.bool b.ru,y]] false,.fn 128 [],I 2,I 1],()))]
   ·cases hr2:b.right with
    | false =>
     refine qch ?_
     simp only[qdw,qdv,qd4,qfz,qfg,qfw,qbe,qbh]
     rw[i1]
     simp only[qbe,Qdb,he2,hr2,Bool.not_false,qbh]
     rfl
    | true =>
     rw[qdg (s':=([.sl 3 [.agg [.bool a.li,.bool a.ru,x],.agg [.bool b.li,.bool b.ru,y]] false,.fn 128 [],I 2,I 2],()))]
     ·exact qch rfl
     ·simp only[qdw,qdv,qd4,qfz,qfg,qfw,qbe,qbh]
      rw[i1]
      simp only[qbe,Qdb,he2,hr2,Bool.not_true,qbh]
      rfl
   ·simp only[qdw,qdv,qd4,qfz,qfg,qfw,qbe,qbh]
    rw[i0]
    simp only[qbe,Qdb,he,hr,Bool.not_true,qbh]
    rfl
 have hc:qbj B0 .cl (.fn 127 []) [.sl 3 [v,u] false,.fn 128 []]=some (.bool (!(a.right&&b.right))):=by
  refine call (d:=fun _=>.cl) rfl (by decide) (by simp[qb3,okV,h.ok,hu.ok]) rfl ?_
  rw[List.map_cons,List.map_cons,List.map_nil,run127,hi]
  simp only[qbe,qfg,I_geq]
  cases a.right<;>cases b.right<;>rfl
 refine lendN (d:=fun _=>.cl) rfl (by simp[qb3,okV,h.ok,hu.ok]) rfl ?_ rfl
 rw[List.map_cons,List.map_nil,run67,hc]
 cases a.right<;>cases b.right<;>rfl
def Gives (g:FuncId) (v:PV) (r:Arr) (c:Int):Prop:=∃ y,qbj B0 .cl (.fn g []) [v]=some (.tup [y,errS c])∧IsA y r
theorem slO_all (l:List Int):slO 1 1 (qcy l) 0 (qbu (qcy l))=.sl 1 (qcy l) false:=by simp[slO]
inductive IsP:PV→Arr→Arr→Prop
 | mk (l1 r1 l2 r2:Bool) (x y:PV) (b a:List Int) (hx:IsL x b) (hy:IsL y a):IsP (.agg [.bool l1,.bool r1,x,.bool l2,.bool r2,y]) ⟨l1,r1,b⟩ ⟨l2,r2,a⟩
theorem IsP.get {v:PV} {b a:Arr} (h:IsP v b a):∃ x y,v=.agg [.bool b.li,.bool b.ru,x,.bool a.li,.bool a.ru,y]∧IsL x b.n∧IsL y a.n:=by
 obtain⟨_,_,_,_,x,y,_,_,hx,hy⟩:=h
 exact⟨x,y,rfl,hx,hy⟩
theorem IsP.ok {v:PV} {b a:Arr} (h:IsP v b a):okV v=true:=by
 obtain⟨x,y,rfl,hx,hy⟩:=h.get
 simp[okV,qb3,hx.ok,hy.ok]
theorem val6 {a b c d e f:PV} (ha:a.isCell=true) (hb:b.isCell=true) (hc:c.isCell=true) (hd:d.isCell=true) (he:e.isCell=true) (hf:f.isCell=true):(PV.agg [a,b,c,d,e,f]).isVal=true:=by simp[PV.isVal,ha,hb,hc,hd,he,hf]
theorem IsP.val {v:PV} {b a:Arr} (h:IsP v b a):qjc v=true:=by
 obtain⟨x,y,rfl,hx,hy⟩:=h.get
 exact val6 rfl rfl hx.cell rfl rfl hy.cell
theorem sel6_1 (a b c d e f:PV):sel [a,b,c,d,e,f] 1 1 false=some b:=rfl
theorem sel6_2 (a b c d e f:PV):sel [a,b,c,d,e,f] 2 1 false=some c:=rfl
theorem sel6_4 (a b c d e f:PV):sel [a,b,c,d,e,f] 4 1 false=some e:=rfl
theorem sel6_5 (a b c d e f:PV):sel [a,b,c,d,e,f] 5 1 false=some f:=rfl
theorem sel6_a (a b c d e f:PV):sel [a,b,c,d,e,f] 0 3 true=some (.agg [a,b,c]):=rfl
theorem sel6_b (a b c d e f:PV):sel [a,b,c,d,e,f] 3 3 true=some (.agg [d,e,f]):=rfl
theorem isA3 (li ru:Bool) {x:PV} {l:List Int} (h:IsL x l):IsA (.agg [.bool li,.bool ru,x]) ⟨li,ru,l⟩:=.mk _ _ _ _ h
theorem grow_run {n:Int} (h0:0≤n) (h1:n≤1000000):qbj B0 (.own 1) (.fn 190 []) [.nilS,I n]=some (.sl 1 [] false):=by
 have hs:B0.sp 190 (fun _=>none) [.nilS,I n]=some {v:=.arr (0,0) 1 0 0,new:=[.arr 1 0 []]}:=by
  have:sp0 190 (fun _=>none) [.nilS,I n]=some {v:=.arr (0,0) 1 0 0,new:=[.arr 1 0 []]}:=by simp[sp0,Qmj,I,h0,h1]
  exact this
 have e:spO B0.sp (qfh 190) (qcc 190 [.nilS,I n] [])=some (some (.arr (0,0) 1 0 0,[.arr 1 0 []])):=by
  show spO B0.sp 190 [.nilS,I n]=_
  unfold spO
  rw[hs]
  rfl
 unfold qbj
 dsimp only
 rw[e]
 rfl
theorem concat_run {u v:PV} {l m:List Int} (hu:IsL u l) (hv:IsL v m) (hl:l.length≤400000) (hm:m.length≤400000):qft B0 (.own 1) true 165 [.sl 1 [u,v] false]=some (.sl 1 (qcy (l++m)) false):=by
 refine lend_own (d:=fun _=>.cl) rfl (by simp[qb3,okV,hu.ok,hv.ok]) rfl ?_
 rw[List.map_cons,List.map_nil,run165,qgk]
 simp only[qbe]
 rw[show qb9 [.sl 1 [u,v] false,.int .i64 0,.sl 1 [u,v] false,.int .i64 (([u,v].length:Nat):Int),.int .i64 0]=true from rfl,qbk]
 have i0:qbb (.idxAddr 1 (.c (.sl 1 [u,v] false)) (.c (I 0)))=some (.ptr [u] 0):=by
  have:=qry (k:=.i64) (xs:=[u,v]) (j:=0) (n:=1) (f:=false) (v:=u) (by omega) rfl
  rw[hu.cells] at this
  exact this
 have i1:qbb (.idxAddr 1 (.c (.sl 1 [u,v] false)) (.c (I 1)))=some (.ptr [v] 0):=by
  have:=qry (k:=.i64) (xs:=[u,v]) (j:=1) (n:=1) (f:=false) (v:=v) (by omega) rfl
  rw[hv.cells] at this
  exact this
 have l1:∀ w:PV,qbb (.load 1 false (.c (.ptr [w] 0)))=some w:=fun w=>by rw[qrx];rfl
 rw[qdg (s':=([.sl 1 [u,v] false,I l.length,.sl 1 [u,v] false,I 2,I 1],()))]
 ·rw[qdg (s':=([.sl 1 [u,v] false,I ((l.length:Int)+m.length),.sl 1 [u,v] false,I 2,I 2],()))]
  ·refine qch ?_
   simp only[qdw,qdv,qd4,qfz,qke,qfg,qfw,qbe,qbh]
   rw[if_neg (by decide),grow_run (by omega) (by omega)]
   simp only[qbe,qgk,qdz]
   rw[show qb9 [nI (qbu []),.sl 1 [u,v] false,.int .i64 (([u,v].length:Nat):Int),I 0]=true from rfl,qbk]
   rw[qdg (s':=([I l.length,.sl 1 [u,v] false,I 2,I 1,.sl 1 (qcy l) false],()))]
   ·rw[qdg (s':=([I ((l.length+m.length:Nat):Int),.sl 1 [u,v] false,I 2,I 2,.sl 1 (qcy (l++m)) false],()))]
    ·rw[qch (r:=(.sl 1 (qcy (l++m)) false,()))]
     ·rfl
     ·simp only[qdw,qdv,qd4,qfz,qke,qfg,qfw,qbe,qbh,qdz]
      rw[if_neg (by decide)]
      have:eqN (qbz (I ((l.length+m.length:Nat):Int))) (qbu (qcy (l++m)))=true:=by simp[qc5];omega
      rw[this]
      rfl
    ·simp only[qdw,qdv,qd4,qfz,qke,qfg,qfw,qbe,qbh,qdz]
     rw[if_pos (by decide),i1]
     simp only[qbe,l1,hv.elems]
     have e1:qnj (leN (qbz (I l.length)) (qbu (qcy l))) (leN (qdu (qbz (I l.length)) (qbu (qcy m))) 2147483648)=true:=by
      have:l.length+m.length≤2147483648:=by omega
      simp[qc5,this]
     rw[e1,qbk]
     have e2:qpk (qb1 (qbz (I l.length)) (qcy l)) (qcy m)=qcy (l++m):=by
      have:(qcy l).take l.length=qcy l:=List.take_of_length_le (by rw[qc5];exact Nat.le_refl _)
      simp[this,Qdo]
     rw[e2]
     have e3:nI (qdu (qbz (I l.length)) (qbu (qcy m)))=I ((l.length+m.length:Nat):Int):=by simp[qc5,I]
     rw[e3]
     rfl
   ·simp only[qdw,qdv,qd4,qfz,qke,qfg,qbe,qbh,qdz]
    rw[show nI (qbu [])=I 0 from rfl]
    rw[show I (([u,v].length:Nat):Int)=I 2 from rfl]
    simp only[qfw,qbe,qbh]
    rw[if_pos (by decide),i0]
    simp only[qbe,l1,hu.elems]
    have e1:qnj (leN (qbz (I 0)) (qbu [])) (leN (qdu (qbz (I 0)) (qbu (qcy l))) 2147483648)=true:=by
     have:l.length≤2147483648:=by omega
     simp[qc5,this]
    rw[e1,qbk]
    have e2:qpk (qb1 (qbz (I 0)) []) (qcy l)=qcy l:=by simp
    rw[e2]
    have e3:nI (qdu (qbz (I 0)) (qbu (qcy l)))=I l.length:=by simp[qc5,I]
    rw[e3]
    rfl
  ·simp only[qdw,qdv,qd4,qfz,qke,qfg,qfw,qbe,qbh]
   rw[if_pos (by decide),i1]
   simp only[qbe,l1,hv.len,qri,qfw,qbh]
   rw[w64 (by omega) (by omega),if_neg (by simp;omega)]
   rfl
 ·simp only[qdw,qdv,qd4,qfz,qke,qfg]
  rw[show I (([u,v].length:Nat):Int)=I 2 from rfl]
  simp only[qfw,qbe,qbh]
  rw[if_pos (by decide),i0]
  simp only[qbe,l1,hu.len,qri,qfw,qbh]
  rw[w64 (by omega) (by omega),if_neg (by simp)]
  simp
  rfl
def qmc (a:Arr):Bool:=a.ru&&decide (0 < a.n.length)
theorem Qfn {v:PV} {a:Arr} (h:IsA v a):qbj B0 .cl (.fn 164 []) [v]=some (.bool (qmc a)):=by
 obtain⟨x,rfl,hx⟩:=h.get
 refine call (d:=fun _=>.cl) rfl (by decide) (by simp[qb3,h.ok]) rfl ?_
 rw[List.map_cons,List.map_nil,run164,qgy,qwz rfl rfl hx.cell,qbk]
 simp only[qga,qcv,qvk,qqg,qbe,hx.len,qfg,Qjx,qbh]
 unfold qmc
 have:decide ((0:Int) < (a.n.length:Int))=decide (0 < a.n.length):=by
  rw[Bool.eq_iff_iff,decide_eq_true_iff,decide_eq_true_iff];omega
 rw[this]
 cases a.ru<;>rfl
def qyb (a b:Arr):Int:=if 0 < a.n.length∧0 < b.n.length∧a.ru≠b.ru then 102 else if 200 < a.n.length+b.n.length then 113 else 0
def Qk8 (a b:Arr):Arr:=if qyb a b=0 then ⟨true,qmc a||(qmc b||(a.ru&&b.ru)),a.n++b.n⟩ else qj2
theorem join_run {v:PV} {b a:Arr} (h:IsP v b a) (hb:b.n.length≤400000) (ha:a.n.length≤400000):Gives 118 v (Qk8 a b) (qyb a b):=by
 obtain⟨x,y,rfl,hx,hy⟩:=h.get
 have hta:=Qfn (isA3 a.li a.ru hy)
 have htb:=Qfn (isA3 b.li b.ru hx)
 have hcc:=concat_run hy hx ha hb
 have e1:∀ l:List Int,decide ((0:Int) < (l.length:Int))=decide (0 < l.length):=by
  intro l
  rw[Bool.eq_iff_iff,decide_eq_true_iff,decide_eq_true_iff];omega
 have e2:decide ((200:Int) < (a.n.length:Int)+(b.n.length:Int))=decide (200 < a.n.length+b.n.length):=by
  rw[Bool.eq_iff_iff,decide_eq_true_iff,decide_eq_true_iff];omega
 have oks:qc7 1 [y,x]=true:=by simp[qc7,hx.val,hy.val,hx.cells,hy.cells]
 have slO2:slO 1 1 [y,x] 0 (qbu [y,x])=.sl 1 [y,x] false:=rfl
 have fin:∀ r:Bool,okU (.tup [.agg [.bool true,.bool r,slO 1 1 (qcy (a.n++b.n)) 0 (qbu (qcy (a.n++b.n)))],.nilI])=true:=fun r=>by
  rw[slO_all];simp[okU,okV,qb3,qkw]
 by_cases h0:qyb a b=0
 ·refine⟨.agg [.bool true,.bool (qmc a||(qmc b||(a.ru&&b.ru))),.sl 1 (qcy (a.n++b.n)) false],?_,by unfold Qk8;rw[if_pos h0];exact .mk _ _ _ _ (.sl _ _)⟩
  have h1:¬ (0 < a.n.length∧0 < b.n.length∧a.ru≠b.ru):=fun h=>by unfold qyb at h0;rw[if_pos h] at h0;cases h0
  have h2:¬ 200 < a.n.length+b.n.length:=fun h=>by unfold qyb at h0;rw[if_neg h1,if_pos h] at h0;cases h0
  rw[h0]
  refine call (d:=fun _=>.cl) rfl (by decide) (by simp[qb3,h.ok]) rfl ?_
  rw[List.map_cons,List.map_nil,run118,h.val,qbk]
  simp only[qga,qcv,sel6_1,sel6_2,sel6_4,sel6_5,sel6_a,sel6_b,qbe,hx.len,hy.len,qfg,Qjx,qri,qbh,qm2,e1,hta,htb,oks,qbk,slO2,hcc,qdz,fin]
  have c1:(if decide (0 < a.n.length)=true then (if decide (0 < b.n.length)=true then some (PV.bool (!(a.ru==b.ru))) else some (.bool false)) else some (.bool false))=some (.bool false):=by
   by_cases q1:0 < a.n.length
   ·by_cases q2:0 < b.n.length
    ·have:a.ru=b.ru:=Classical.byContradiction fun q=>h1 ⟨q1,q2,q⟩
     simp[q1,q2,this]
    ·simp[q1,q2]
   ·simp[q1]
  rw[c1]
  simp only[qbe,qbh,Bool.false_eq_true,if_false]
  rw[w64 (by omega) (by omega),e2,decide_eq_false h2]
  simp only[qbh,Bool.false_eq_true,if_false]
  rw[slO_all]
  have ta:qmc ⟨a.li,a.ru,a.n⟩=qmc a:=rfl
  have tb:qmc ⟨b.li,b.ru,b.n⟩=qmc b:=rfl
  rw[ta,tb]
  have fin2:∀ r:Bool,okU (.tup [.agg [.bool true,.bool r,.sl 1 (qcy (a.n++b.n)) false],.nilI])=true:=fun r=>by simp[okU,okV,qb3,qkw]
  have oc:∀ r:Bool,qbi (PV.bool r) 1=true:=fun _=>rfl
  have cp:∀ r:Bool,qbf (PV.bool r) 0=.bool r:=fun _=>rfl
  rw[oc,cp,fin2]
  cases qmc a<;>cases qmc b<;>cases a.ru<;>simp[fin2,errS_0]
 ·refine⟨.agg [.bool false,.bool false,.nilS],?_,by unfold Qk8;rw[if_neg h0];exact qd3⟩
  refine call (d:=fun _=>.cl) rfl (by decide) (by simp[qb3,h.ok]) rfl ?_
  rw[List.map_cons,List.map_nil,run118,h.val,qbk]
  simp only[qga,qcv,sel6_1,sel6_2,sel6_4,sel6_5,qbe,hx.len,hy.len,qfg,Qjx,qri,qbh,qm2,e1]
  unfold qyb at h0 ⊢
  by_cases h1:0 < a.n.length∧0 < b.n.length∧a.ru≠b.ru
  ·rw[if_pos h1]
   obtain⟨q1,q2,q3⟩:=h1
   have:(a.ru==b.ru)=false:=by simpa using q3
   simp only[q1,q2,this,decide_true,if_true,qbe,qbh,Bool.not_false]
   rfl
  ·rw[if_neg h1] at h0 ⊢
   have c1:(if decide (0 < a.n.length)=true then (if decide (0 < b.n.length)=true then some (PV.bool (!(a.ru==b.ru))) else some (.bool false)) else some (.bool false))=some (.bool false):=by
    by_cases q1:0 < a.n.length
    ·by_cases q2:0 < b.n.length
     ·have:a.ru=b.ru:=Classical.byContradiction fun q=>h1 ⟨q1,q2,q⟩
      simp[q1,q2,this]
     ·simp[q1,q2]
    ·simp[q1]
   rw[c1]
   simp only[qbe,qbh,Bool.false_eq_true,if_false]
   rw[w64 (by omega) (by omega),e2]
   by_cases h2:200 < a.n.length+b.n.length
   ·rw[if_pos h2,decide_eq_true h2]
    rfl
   ·rw[if_neg h2] at h0;exact absurd rfl h0
theorem pair_build {v u:PV} {a b:Arr} (h:IsA v a) (hu:IsA u b):∃ p,qbb (.build [.bool false,.bool false,.nilS,.bool false,.bool false,.nilS] [(0,(3,.c u)),(3,(3,.c v))])=some p∧IsP p b a:=by
 obtain⟨x,rfl,hx⟩:=h.get
 obtain⟨y,rfl,hy⟩:=hu.get
 refine⟨.agg [.bool b.li,.bool b.ru,y,.bool a.li,.bool a.ru,x],?_,.mk _ _ _ _ _ _ _ _ hy hx⟩
 simp[qbb,exec,qhq,RX.ev,qwz (a:=.bool a.li) (b:=.bool a.ru) rfl rfl hx.cell,qwz (a:=.bool b.li) (b:=.bool b.ru) rfl rfl hy.cell,splice,chk]
end Go.Ab.Derive2


namespace Go.Ab.Derive2
open Go Go.Ab
def qrj:List Int→Int
 | []=>0
 | x :: l=>x+qrj l
theorem Qcq (l m:List Int):qrj (l++m)=qrj l+qrj m:=by
 induction l with
 | nil=>simp[qrj]
 | cons x l ih=>simp only[List.cons_append,qrj,ih];omega
theorem sumL_rev (l:List Int):qrj l.reverse=qrj l:=by
 induction l with
 | nil=>rfl
 | cons x l ih=>rw[List.reverse_cons,Qcq,ih];simp only[qrj];omega
def qpn (l:List Int):Prop:=∀ x∈l, -999≤x∧x≤999
theorem qpn.take {l:List Int} (h:qpn l) (k:Nat):qpn (l.take k):=fun x hx=>h x (List.mem_of_mem_take hx)
theorem qpn.app {l m:List Int} (h:qpn l) (h':qpn m):qpn (l++m):=fun x hx=>by
 rcases List.mem_append.1 hx with hx | hx
 ·exact h x hx
 ·exact h' x hx
theorem qpn.sum {l:List Int} (h:qpn l) : -(999*(l.length:Int))≤qrj l∧qrj l≤999*(l.length:Int):=by
 induction l with
 | nil=>simp[qrj]
 | cons x l ih =>
  have h1:=h x List.mem_cons_self
  have h2:=ih fun y hy=>h y (List.mem_cons_of_mem _ hy)
  simp only[qrj,List.length_cons]
  omega
theorem nAdd_small {x y:Int} (hx : -1000000000≤x∧x≤1000000000) (hy : -1000000000≤y∧y≤1000000000):nAdd x y=(x+y,.ok):=by
 unfold nAdd
 have e:i64 (x+y)=x+y:=w64 (by omega) (by omega)
 simp only[e]
 have hc:(!(decide (x < 0)==decide (y < 0))||(decide (x+y < 0)==decide (x < 0)))=true:=by
  by_cases h1:x < 0<;>by_cases h2:y < 0
  ·rw[decide_eq_true h1,decide_eq_true h2,decide_eq_true (by omega:x+y < 0)];rfl
  ·rw[decide_eq_true h1,decide_eq_false h2];rfl
  ·rw[decide_eq_false h1,decide_eq_true h2];rfl
  ·rw[decide_eq_false h1,decide_eq_false h2,decide_eq_false (by omega:¬ x+y < 0)];rfl
 rw[hc];rfl
theorem sum_itm {x y:Int} (hx : -1000000000≤x∧x≤1000000000) (hy : -1000000000≤y∧y≤1000000000):Arr.dy Qb1 (qjn false x) (qjn false y)=(qjn false (x+y),0):=by
 have h:=dy_itm (g:=Qb1) rfl rfl x y
 rw[show nDy Qb1 x y=nAdd x y from rfl,nAdd_small hx hy] at h
 exact h
theorem red_add:∀ (r:List Int) (m:Int),qpn r → -500000000+999*(r.length:Int)≤m→m+999*(r.length:Int)≤500000000 →
  redF (Arr.dy Qb1) (r.map (qjn false)) (qjn false m)=(qjn false (qrj r+m),0):=by
 intro r
 induction r with
 | nil=>intro m _ _ _;simp[redF,qrj]
 | cons x r ih =>
  intro m hs h0 hm
  have h1:=hs x List.mem_cons_self
  simp only[List.length_cons] at hm h0
  rw[List.map_cons]
  unfold redF
  rw[sum_itm (by omega) (by omega),if_pos rfl]
  refine (ih (x+m) (fun y hy=>hs y (List.mem_cons_of_mem _ hy)) (by omega) (by omega)).trans ?_
  simp only[qrj]
  rw[show qrj r+(x+m)=x+qrj r+m by omega]
theorem Qmp {b:Arr} (hru:b.ru=false) (hn:b.n≠[]) (hs:qpn b.n) (hl:b.n.length≤1000) (N:Arr×Int):Qkf (Arr.dy Qb1) N b=(qjn false (qrj b.n),0):=by
 obtain⟨r,m,hb,hbr⟩:=Qk0 hn
 unfold Qkf
 rw[hbr,hru]
 have hlen:r.length+1=b.n.length:=by rw[hb];simp
 have hm:=hs m (by rw[hb];simp)
 refine (red_add r m (fun x hx=>hs x (by rw[hb];simp[hx])) (by omega) (by omega)).trans ?_
 rw[hb,Qcq,sumL_rev]
 simp[qrj]
theorem red_zero {v:PV} {b:Arr} (hv:IsA v b) (hli:b.li=true) (hru:b.ru=false) (hn:b.n=[]):qbj B0 .cl (.fn 19 []) [.str Qb1,v]=some (.tup [qwq false 0,I 0]):=by
 obtain⟨x,rfl,hx⟩:=hv.get
 rw[hli,hru]
 rw[hn] at hx
 generalize hq:([]:List Int)=q at hx
 cases hx with
 | nil=>obtain⟨n,h⟩:=ev_sum0;exact qmq (by decide) h rfl rfl
 | sl l f =>
  subst hq
  cases f
  ·obtain⟨n,h⟩:=ev_sum1;exact qmq (by decide) h rfl rfl
  ·obtain⟨n,h⟩:=ev_sum2;exact qmq (by decide) h rfl rfl
theorem qwl {b:Arr} (hli:b.li=true) (hru:b.ru=false) (hl:b.n.length≤200):b.right=true:=by
 unfold Arr.right
 rw[hli,hru]
 simpa using hl
theorem Qke {v:PV} {b:Arr} (hv:IsA v b) (hli:b.li=true) (hru:b.ru=false) (hs:qpn b.n) (hl:b.n.length≤200) :
  ∃ w,qbj B0 .cl (.fn 19 []) [.str Qb1,v]=some (.tup [w,I 0])∧IsA w (qjn false (qrj b.n)):=by
 by_cases hn:b.n=[]
 ·refine⟨_,red_zero hv hli hru hn,?_⟩
  rw[hn];exact Qnj _ _
 ·obtain⟨w,h1,h2⟩:=red_any hv (by omega:b.n.length≤1000000) rfl fun _=>qxj (dy_ok (g:=Qb1) rfl) (qj2,0) hv (by omega) hn
  rw[Qmp hru hn hs (by omega)] at h1 h2
  unfold ifR at h1 h2
  rw[if_pos (qwl hli hru hl)] at h1 h2
  exact⟨w,h1,h2⟩
def sums (l:List Int):List Int:=(List.range l.length).map fun i=>qrj (l.take (i+1))
theorem scan_sums {b:Arr} (hli:b.li=true) (hru:b.ru=false) (hs:qpn b.n) (hl:b.n.length≤200) (N:Arr×Int):scanA (Arr.dy Qb1) N b=(⟨true,false,sums b.n⟩,0):=by
 have hF:∀ i,i < b.n.length→Qkf (Arr.dy Qb1) N (Qdq b.ru b.n i)=(qjn false (qrj (b.n.take (i+1))),0):=by
  intro i hi
  refine Qmp (b:=Qdq b.ru b.n i) hru ?_ (hs.take _) (by simp only[Qdq,List.length_take];omega) N
  intro h
  have:=congrArg List.length h
  simp only[Qdq,List.length_take,List.length_nil] at this
  omega
 have hL:((qyi b).map fun a=>(Qkf (Arr.dy Qb1) N a).1)=(sums b.n).map (qjn false):=by
  unfold qyi sums
  rw[List.map_map,List.map_map]
  refine List.map_congr_left fun i hi=>?_
  show (Qkf (Arr.dy Qb1) N (Qdq b.ru b.n i)).1=_
  rw[hF i (List.mem_range.1 hi)]
  rfl
 unfold scanA thrA
 rw[thr_all (by
  intro a ha
  obtain⟨i,hi,rfl⟩:=List.mem_map.1 ha
  rw[hF i (List.mem_range.1 hi)]),hL]
 have hlen:(sums b.n).length=b.n.length:=by simp[sums]
 obtain⟨e1,e2⟩:=gat_itms (li:=b.li) (ru:=false) (l:=sums b.n) (fun n _=>rfl) (fun h=>by rw[hli] at h;cases h) (by rw[hlen];exact hl) b.ru
 rw[hli] at e1
 rw[hli,hru] at e2
 simp only[hru,hli,e1,e2,ite_self]
theorem scan_all {v:PV} {b:Arr} (hv:IsA v b) (hli:b.li=true) (hru:b.ru=false) (hs:qpn b.n) (hl:b.n.length≤200) :
  ∃ w,qbj B0 .cl (.fn 21 []) [.str Qb1,v]=some (.tup [w,I 0])∧IsA w ⟨true,false,sums b.n⟩:=by
 obtain⟨w,h1,h2⟩:=scan_any (dy_ok (g:=Qb1) rfl) (qj2,0) hv (by omega:b.n.length≤1000000)
 unfold ifR at h1 h2
 rw[if_pos (qwl hli hru hl),scan_sums hli hru hs hl] at h1 h2
 exact⟨w,h1,h2⟩
def gC:List UInt8:=[44]
def shapeF:PV:=.imap [.str [226,141,180],.agg [.fn 111 [],.fn 112 []],.str [226,141,179],.agg [.fn 113 [],.fn 114 []],.str [44],.agg [.fn 115 [],.fn 118 []],.str [226,140,189],.agg [.fn 119 [],.fn 120 []],.str [226,134,145],.agg [.fn 121 [],.fn 122 []],.str [226,134,147],.agg [.nilF,.fn 123 []],.str [226,137,162],.agg [.fn 124 [],.fn 126 []]]
theorem shapeF_run:qbj B0 .cl (.fn 66 []) []=some shapeF:=by
 obtain⟨n,h⟩:=e66_0
 exact qmq (by decide) h rfl rfl
theorem sdy_join {v u:PV} {a b:Arr} (h:IsA v a) (hu:IsA u b) (ha:a.right=true) (hb:b.right=true):∃ y,qbj B0 .cl (.fn 43 []) [.str gC,v,u]=some (.tup [y,I (qyb a b)])∧IsA y (Qk8 a b):=by
 obtain⟨p,hp1,hp2⟩:=pair_build h hu
 have la:=qrv ha
 have lb:=qrv hb
 obtain⟨y,h1,h2⟩:=join_run hp2 (by omega) (by omega)
 refine⟨y,call (d:=fun _=>.cl) rfl (by decide) (by simp[qb3,okV,h.ok,hu.ok]) rfl ?_,h2⟩
 have hok:qc7 3 [v,u]=true:=by
  obtain⟨x,rfl,hx⟩:=h.get
  obtain⟨y,rfl,hy⟩:=hu.get
  exact okSls33 hx hy
 rw[List.map_cons,List.map_cons,List.map_cons,List.map_nil,run43,qgt h,qgt hu,cT,cT,shapeF_run,bV]
 rw[show qbb (.lookup .str (.agg [.nilF,.nilF]) false (.c shapeF) (.c (.str gC)))=some (.agg [.fn 115 [],.fn 118 []]) from rfl,bV,show qbi (.agg [.fn 115 [],.fn 118 []]) 2=true from rfl,cT]
 rw[ql1 h,bV,ql1 hu,bV,hok,cT,show slO 3 3 [v,u] 0 (qbu [v,u])=.sl 3 [v,u] false from rfl,right2 h hu (by omega) (by omega),bV,ha,hb]
 rw[qdl,bV,qbh,if_neg (by decide),show qbf (.agg [.fn 115 [],.fn 118 []]) 1=.fn 118 [] from rfl,show qbb (.bin .eql .func true (.c (.fn 118 [])) (.c .nilF))=some (.bool false) from rfl,bV,qbh,if_neg (by decide),bV,bV,hp1,bV,h1,bV]
 simp only[qgz,List.getElem?_cons_zero,List.getElem?_cons_succ,bV,qcq h2,cT,stold_run,qhw h2]
theorem dy_join {v u:PV} {a b:Arr} (h:IsA v a) (hu:IsA u b) (ha:a.right=true) (hb:b.right=true):∃ y,qbj B0 .cl (.fn 16 []) [.str gC,v,u]=some (.tup [y,I (qyb a b)])∧IsA y (Qk8 a b):=by
 obtain⟨w,h1,h2⟩:=sdy_join h hu ha hb
 refine⟨w,call (d:=fun _=>.cl) rfl (by decide) (by simp[qb3,okV,h.ok,hu.ok]) rfl ?_,h2⟩
 rw[List.map_cons,List.map_cons,List.map_cons,List.map_nil,run16,qgt h,cT,qgt hu,cT,Qdm,bV,show qn7 gC=false from rfl]
 simp only[qbh,Bool.false_eq_true,if_false,ql1 h,ql1 hu,bV,h1,qgz,List.getElem?_cons_zero,List.getElem?_cons_succ,qcq h2,cT,qhw h2]
theorem Qm4 (l:List Int):qft B0 .cl false 25 [.sl 1 (qcy l) false]=some (.agg [.bool true,.bool false,.sl 1 (qcy l) false]):=by
 refine lendN (d:=fun _=>.cl) rfl (by simp[qb3,okV,qkw]) rfl ?_ rfl
 rw[List.map_cons,List.map_nil,run25]
 rfl
theorem lst_call (l:List Int):qbj B0 .cl (.fn 25 []) [.sl 1 (qcy l) false]=some (.agg [.bool true,.bool false,.sl 1 (qcy l) false]):=by
 refine call (d:=fun _=>.cl) rfl (by decide) (by simp[qb3,okV,qkw]) rfl ?_
 rw[List.map_cons,List.map_nil,run25]
 rfl
end Go.Ab.Derive2


namespace Go.Ab.Derive2
open Go Go.Ab
def mds (l:List Int):List Int:=l.map fun n=>n.tmod 1000
theorem Qc8 (l:List Int):(mds l).length=l.length:=by simp[mds]
theorem Qgn (l:List Int):qpn (mds l):=fun x hx=>by
 obtain⟨n,_,rfl⟩:=List.mem_map.1 hx
 have h1:(n.tmod 1000).natAbs < 1000:=by
  have:=Int.natAbs_tmod n 1000
  rw[this]
  exact Nat.mod_lt _ (by decide)
 omega
theorem Qm3 {l:List Int} {i:Nat} (h:i < l.length):mds (l.take (i+1))=mds (l.take i)++[(l[i]).tmod 1000]:=by
 unfold mds
 rw[List.take_succ_eq_append_getElem h,List.map_append]
 rfl
theorem Qn7 (i n:Nat):(if decide ((i:Int) < (n:Int))=true then some (PV.bool (decide ((i:Int) < 40))) else some (PV.bool false))=some (.bool (decide (i < min n 40))):=by
 by_cases h1:i < n
 ·rw[if_pos (by simpa using h1)]
  congr 2
  rw[Bool.eq_iff_iff,decide_eq_true_iff,decide_eq_true_iff]
  omega
 ·rw[if_neg (by simpa using h1),decide_eq_false (by omega)]
theorem rem_run (x:Int):qbb (.bin .rem .num true (.c (I x)) (.c (I 1000)))=some (I (x.tmod 1000)):=Qcw x 1000 (by decide)
theorem leOne (x:PV):leN (qdu 0 (qbu [x])) (qbu [x])=true:=rfl
theorem okApp {k:Nat} (x:Int) {l:List Int} (h:l.length=k) (hk:k≤1000):qnj (leN (qbz (I k)) (qbu (qcy l))) (leN (qdu (qbz (I k)) (qbu (qb1 (qbu [I x]) (qcx 0 [I x])))) 2147483648)=true:=by
 simp[qc5,h];omega
theorem catApp {k:Nat} (x:Int) {l:List Int} (h:l.length=k):qpk (qb1 (qbz (I k)) (qcy l)) (qb1 (qbu [I x]) (qcx 0 [I x]))=qcy (l++[x]):=by
 have:(qcy l).take k=qcy l:=List.take_of_length_le (by rw[qc5];omega)
 have e:qbz (I (k:Int))=k:=by simp
 show (qcy l).take (qbz (I k))++[I x]=qcy (l++[x])
 rw[e,this,←Qdo]
 rfl
theorem nApp (k:Nat) (x:Int):nI (qdu (qbz (I k)) (qbu (qb1 (qbu [I x]) (qcx 0 [I x]))))=I ((k+1:Nat):Int):=by
 simp[I]
theorem slO_len {k:Nat} {l:List Int} (h:l.length=k):slO 1 1 (qcy l) 0 (qbz (I k))=.sl 1 (qcy l) false:=by
 subst h
 have:(qcy l).take l.length=qcy l:=List.take_of_length_le (by rw[qc5];exact Nat.le_refl _)
 simp[slO,qc5,this]
theorem join_small {x y:List Int} (hl:x.length+y.length≤200):qyb ⟨true,false,x⟩ ⟨true,false,y⟩=0∧Qk8 ⟨true,false,x⟩ ⟨true,false,y⟩=⟨true,false,x++y⟩:=by
 have e:qyb ⟨true,false,x⟩ ⟨true,false,y⟩=0:=by
  unfold qyb
  rw[if_neg (fun h=>h.2.2 rfl),if_neg (by show ¬ 200 < x.length+y.length;omega)]
 refine⟨e,?_⟩
 unfold Qk8
 rw[if_pos e]
 simp[qmc]
theorem neq00:qbb (.bin .neq .num true (.c (I 0)) (.c (I 0)))=some (.bool false):=rfl
theorem sums_last {l:List Int} (h:0 < l.length):(sums l)[l.length - 1]?=some (qrj l):=by
 unfold sums
 rw[List.getElem?_map,List.getElem?_range (by omega)]
 simp only[Option.map_some]
 rw[show l.length - 1+1=l.length by omega,List.take_length]
theorem cT' {β:Type} {c:Bool} (h:c=true) (a:Option β):qbq c a=a:=by rw[h];rfl
theorem Qjn {α β:Type} {x:Option α} {r:α} (h:x=some r):qba x (fun z=>some (Sum.inr z:Sum β α))=some (.inr r):=by rw[h];rfl
set_option maxHeartbeats 2000000 in
theorem law_sums {v u:PV} {a b:Arr} (hv:IsA v a) (hu:IsA u b):qf8 (qfj B0 (fun _=>.cl)) fn5 (.cl) qbc 0 [.cv v,.cv u] ()=some (.bool true,()):=by
 have vv:=qgt hv
 have vu:=qgt hu
 obtain⟨x,rfl,hx⟩:=hv.get
 obtain⟨y,rfl,hy⟩:=hu.get
 obtain⟨X,hX⟩:∃ X,X=mds (a.n.take 40):=⟨_,rfl⟩
 obtain⟨Y,hY⟩:∃ Y,Y=mds (b.n.take 40):=⟨_,rfl⟩
 have sX:qpn X:=hX ▸ Qgn _
 have sY:qpn Y:=hY ▸ Qgn _
 have lX:X.length=min a.n.length 40:=by rw[hX,Qc8,List.length_take];omega
 have lY:Y.length=min b.n.length 40:=by rw[hY,Qc8,List.length_take];omega
 have sXY:=sX.app sY
 have lXY:(X++Y).length≤80:=by rw[List.length_append];omega
 have iX:IsA (.agg [.bool true,.bool false,.sl 1 (qcy X) false]) ⟨true,false,X⟩:=.mk _ _ _ _ (.sl _ _)
 have iY:IsA (.agg [.bool true,.bool false,.sl 1 (qcy Y) false]) ⟨true,false,Y⟩:=.mk _ _ _ _ (.sl _ _)
 obtain⟨c,hc1,hc2⟩:=dy_join iX iY (qwl rfl rfl (by show X.length≤200;omega)) (qwl rfl rfl (by show Y.length≤200;omega))
 obtain⟨j1,j2⟩:=join_small (x:=X) (y:=Y) (by rw[List.length_append] at lXY;omega)
 rw[j1] at hc1
 rw[j2] at hc2
 obtain⟨s,hs1,hs2⟩:=Qke hc2 rfl rfl sXY (by show (X++Y).length≤200;omega)
 obtain⟨t,ht1,ht2⟩:=Qke iX rfl rfl sX (by show X.length≤200;omega)
 obtain⟨w,hw1,hw2⟩:=Qke iY rfl rfl sY (by show Y.length≤200;omega)
 obtain⟨q,hq1,hq2⟩:=dyn_run (g:=Qb1) ht2 hw2 (by simp[qjn]) (by simp[qjn]) rfl
 have bX:=sX.sum
 have bY:=sY.sum
 rw[sum_itm (by show -1000000000≤qrj X∧qrj X≤1000000000;omega) (by show -1000000000≤qrj Y∧qrj Y≤1000000000;omega)] at hq1 hq2
 obtain⟨z,hz1,hz2⟩:=scan_all hc2 rfl rfl sXY (by show (X++Y).length≤200;omega)
 rw[run5,vv,cT,vu,cT,shown_run,bV,show qb9 [.bool true,nI 0,nI 0,.int .i64 0]=true from rfl,cT]
 refine Qm5 (fun i=>(([.bool true,I i,I 0,I i,.agg [.bool a.li,.bool a.ru,x],.agg [.bool b.li,.bool b.ru,y],.sl 1 (qcy (mds (a.n.take i))) false,.sl 1 [] false],()):List PV×Unit)) (min a.n.length 40) rfl ?_ ?_
 ·intro i hi
  have hi':i < a.n.length:=by omega
  have hm:(mds (a.n.take i)).length=i:=by rw[Qc8,List.length_take];omega
  simp only[qdw,qdv,qd4,qfz,qke,qqy,qr3,qth,qga,qcv,qqg,bV,hx.len,qfw,qbh,iD,Qn7]
  rw[if_pos (by simpa using hi)]
  simp only[hx.idx hi',bV,ldI,rem_run,okSls_I,cT,leOne,qdz,okApp _ hm (by omega:i≤1000),catApp _ hm,nApp,qri,qzp (by omega:i < 9223372036854775807),Qm3 hi']
  rfl
 ·simp only[qdw,qdv,qd4,qfz,qke,qqy,qr3,qth,qga,qcv,qqg,bV,hx.len,qfw,qbh,iD,Qn7]
  rw[if_neg (by simp),cT' (show qb9 [.bool true,nI (qbz (I ((min a.n.length 40:Nat):Int))),nI (qbz (I 0)),I 0]=true from rfl),qdz,qdz]
  have hXe:mds (a.n.take (min a.n.length 40))=X:=by
   rw[hX]
   rcases Nat.le_total a.n.length 40 with h | h
   ·rw[Nat.min_eq_left h,List.take_length,List.take_of_length_le h]
   ·rw[Nat.min_eq_right h]
  have hYe:mds (b.n.take (min b.n.length 40))=Y:=by
   rw[hY]
   rcases Nat.le_total b.n.length 40 with h | h
   ·rw[Nat.min_eq_left h,List.take_length,List.take_of_length_le h]
   ·rw[Nat.min_eq_right h]
  rw[hXe]
  refine Qjn (Qm5 (fun i=>(([.bool true,I X.length,I i,I i,.agg [.bool b.li,.bool b.ru,y],.sl 1 (qcy X) false,.sl 1 (qcy (mds (b.n.take i))) false],()):List PV×Unit)) (min b.n.length 40) (by rw[lX];rfl) ?_ ?_)
  ·intro i hi
   have hi':i < b.n.length:=by omega
   have hm:(mds (b.n.take i)).length=i:=by rw[Qc8,List.length_take];omega
   simp only[qdw,qdv,qd4,qfz,qke,qqy,qr3,qth,qga,qcv,qqg,bV,hy.len,qfw,qbh,iD,Qn7]
   rw[if_pos (by simpa using hi)]
   simp only[hy.idx hi',bV,ldI,rem_run,okSls_I,cT,leOne,qdz,okApp _ hm (by omega:i≤1000),catApp _ hm,nApp,qri,qzp (by omega:i < 9223372036854775807),Qm3 hi']
   rfl
  ·simp only[qdw,qdv,qd4,qfz,qke,qqy,qr3,qth,qga,qcv,qqg,bV,hy.len,qfw,qbh,iD,Qn7,qdz]
   rw[if_neg (by simp),hYe,slO_len (k:=X.length) rfl,show slO 1 1 (qcy Y) 0 (qbz (I ((min b.n.length 40:Nat):Int)))=.sl 1 (qcy Y) false from slO_len lY]
   refine Qjn ?_
   rw[Qm4,bV,Qm4,bV,show PV.str [44]=.str gC from rfl,hc1,bV]
   simp only[qgz,List.getElem?_cons_zero,List.getElem?_cons_succ,bV,qcq hc2,cT,qhw hc2]
   rw[show PV.str [43]=.str Qb1 from rfl,hs1,bV]
   simp only[qgz,List.getElem?_cons_zero,List.getElem?_cons_succ,bV,qcq hs2,cT,lst_call,ht1,qcq ht2,hw1,qcq hw2,qhw ht2,qhw hw2,hq1,qcq hq2,hz1,qcq hz2,neq00,qbh,Bool.false_eq_true,if_false]
   obtain⟨z,rfl,hz⟩:=hz2.get
   have hz:IsL z (sums (X++Y)):=hz
   have hzl:(sums (X++Y)).length=(X++Y).length:=by simp[sums]
   have hsame:qbj B0 .cl (.fn 26 []) [s,q]=some (.bool true):=by
    rw[same_run hs2 hq2 (by simp[qjn]) (by simp[qjn])]
    simp[Arr.same,qjn,Qcq,eqL_iff]
   rw[qhw hs2,qhw hq2,hsame]
   obtain⟨s,rfl,hs⟩:=hs2.get
   have hs:IsL s [qrj (X++Y)]:=hs
   simp only[qln,hz.len,hzl,qgk,qc5,bV,iD,qri,qvb,qbh,hs.len]
   rw[w64 (by omega) (by omega),if_pos (by rw[List.length_append];simp),if_pos trivial]
   by_cases h0:(X++Y).length=0
   ·rw[if_pos (by rw[h0];rfl),if_pos trivial]
   ·have hp:0 < (X++Y).length:=by omega
    rw[if_neg (by rw[beq_iff_eq];omega)]
    rw[show ([qrj (X++Y)].length:Int)=1 from rfl,if_pos (by rfl)]
    rw[I_sub,w64 (by omega) (by omega),bV,show ((X++Y).length:Int) - 1=(((X++Y).length - 1:Nat):Int) by omega]
    rw[hz.idx (i:=(X++Y).length - 1) (by omega),bV,ldI,bV,show I 0=I ((0:Nat):Int) from rfl,hs.idx (i:=0) (by simp),bV,ldI,bV,qvb,bV]
    have hlast:=sums_last hp
    rw[List.getElem?_eq_getElem (by omega)] at hlast
    rw[Option.some.inj hlast]
    simp
end Go.Ab.Derive2


namespace Go.Proofs.AbAsD
open Go.RowKit Go.Extern.Stop Go.Stop Go.Extern
theorem as_nil (t:Value) (w:World) :
  Calls Tryz.prog 95 #[.nilIface,t] w fun e w'=>e=.returned (.bool false)∧w'=w:=by
 go_enter Tryz.func95,Tryz.ntmps95
 go_wp2
 go_ret
 exact⟨rfl,rfl⟩
def Pr (P Q:TypeId):Prop:=(P=126∧Q=124)∨(P=146∧Q=145)∨(P=154∧Q=153)∨(P=182∧Q=143)
theorem Tryz.valueOf27 {P Q:TypeId} (hp:Pr P Q) (t:Addr) (w:World):(ReflectliteValue.unpack (.iface P (.pointer (some t)))).run Tryz.prog w
  = .ok (.agg #[.pointer (some ⟨9,P,none⟩),.pointer (some ⟨w.heap.size,0,none⟩),.int .u64 150]) (w.alloc (.cells #[.pointer (some t)] P)):=by
 rcases hp with ⟨rfl,rfl⟩ | ⟨rfl,rfl⟩ | ⟨rfl,rfl⟩ | ⟨rfl,rfl⟩<;>kernel_rfl
theorem Tryz.type27 {P Q:TypeId} (hp:Pr P Q) (a:Addr) (w:World):(ReflectliteValue.methodAny (ReflectliteValue.valueError "reflectlite.Value.Type" 0) (fun t _ _ _=>ReflectliteType.toType t) #[.agg #[.pointer (some ⟨9,P,none⟩),.pointer (some a),.int .u64 150]]).run Tryz.prog w
  = .ok (.iface 200 (.agg #[.pointer (some ⟨9,P,none⟩)])) w:=by
 rcases hp with ⟨rfl,rfl⟩ | ⟨rfl,rfl⟩ | ⟨rfl,rfl⟩ | ⟨rfl,rfl⟩<;>kernel_rfl
theorem Tryz.methodKind (h:Value) (w:World):(Go.method 396 200 (.agg #[h]) "Kind").run Tryz.prog w=.ok (253,h) w:=by kernel_rfl
theorem Tryz.kind27 {P Q:TypeId} (hp:Pr P Q) (w:World):((ReflectliteType.abiMethod fun t=>Functor.map (fun a:Nat=>Value.int IntKind.u8 (a:Int)) (Rtype.kind t)) #[.pointer (some ⟨9,P,none⟩)]).run Tryz.prog w=.ok (.int .u8 22) w:=by
 rcases hp with ⟨rfl,rfl⟩ | ⟨rfl,rfl⟩ | ⟨rfl,rfl⟩ | ⟨rfl,rfl⟩<;>kernel_rfl
theorem Tryz.kind25 {P Q:TypeId} (hp:Pr P Q) (w:World):((ReflectliteType.abiMethod fun t=>Functor.map (fun a:Nat=>Value.int IntKind.u8 (a:Int)) (Rtype.kind t)) #[.pointer (some ⟨9,Q,none⟩)]).run Tryz.prog w=.ok (.int .u8 25) w:=by
 rcases hp with ⟨rfl,rfl⟩ | ⟨rfl,rfl⟩ | ⟨rfl,rfl⟩ | ⟨rfl,rfl⟩<;>kernel_rfl
theorem rlm (z:Sem Value) (f:TypeId→Addr→Nat→Nat→Sem Value) (v:Value) :
  ReflectliteValue.method z f #[v]=(do match ←ReflectliteValue.parts v with | none=>z | some (t,a,fl)=>f t a fl (fl%32)):=rfl
theorem Tryz.parts27 {P Q:TypeId} (hp:Pr P Q) (a:Addr) (w:World):(ReflectliteValue.parts (.agg #[.pointer (some ⟨9,P,none⟩),.pointer (some a),.int .u64 150])).run Tryz.prog w=.ok (some (P,a,150)) w:=by
 rcases hp with ⟨rfl,rfl⟩ | ⟨rfl,rfl⟩ | ⟨rfl,rfl⟩ | ⟨rfl,rfl⟩<;>kernel_rfl
theorem Tryz.isNil27 {P Q:TypeId} (hp:Pr P Q) (a p:Addr) (W:World) (ha:W.cell? a=some (.pointer (some p))) :
  (ReflectliteValue.method (ReflectliteValue.valueError "reflectlite.Value.IsNil" 0) ReflectliteValue.isNil #[.agg #[.pointer (some ⟨9,P,none⟩),.pointer (some a),.int .u64 150]]).run Tryz.prog W=.ok (.bool false) W:=by
 rw[rlm]
 simp only[Sem.run_bind,(Tryz.parts27 hp),Result.andThen]
 rcases hp with ⟨rfl,rfl⟩ | ⟨rfl,rfl⟩ | ⟨rfl,rfl⟩ | ⟨rfl,rfl⟩ <;>
  (simp[ReflectliteValue.isNil,loadVar,isAgg,underlying,Tryz.underlying126,Tryz.underlying146,Tryz.underlying154,Tryz.underlying182,ha,Result.andThen])
theorem Tryz.methodElem (h:Value) (w:World):(Go.method 396 200 (.agg #[h]) "Elem").run Tryz.prog w=.ok (267,.agg #[h]) w:=by kernel_rfl
theorem Tryz.methodImplements (h:Value) (w:World):(Go.method 396 200 (.agg #[h]) "Implements").run Tryz.prog w=.ok (268,.agg #[h]) w:=by kernel_rfl
theorem Tryz.methodAssignableTo (h:Value) (w:World):(Go.method 396 200 (.agg #[h]) "AssignableTo").run Tryz.prog w=.ok (265,.agg #[h]) w:=by kernel_rfl
theorem Tryz.elem27 {P Q:TypeId} (hp:Pr P Q) (w:World):(ReflectliteType.method ReflectliteType.elem #[.agg #[.pointer (some ⟨9,P,none⟩)]]).run Tryz.prog w=.ok (.iface 200 (.agg #[.pointer (some ⟨9,Q,none⟩)])) w:=by
 rcases hp with ⟨rfl,rfl⟩ | ⟨rfl,rfl⟩ | ⟨rfl,rfl⟩ | ⟨rfl,rfl⟩<;>kernel_rfl
theorem Tryz.implements25 {P Q:TypeId} (hp:Pr P Q) (w:World):(ReflectliteType.relation "Implements" ReflectliteType.implements_ #[.agg #[.pointer (some ⟨9,Q,none⟩)],.iface 200 (.agg #[.pointer (some ⟨9,63,none⟩)])]).run Tryz.prog w=.ok (.bool true) w:=by
 rcases hp with ⟨rfl,rfl⟩ | ⟨rfl,rfl⟩ | ⟨rfl,rfl⟩ | ⟨rfl,rfl⟩<;>kernel_rfl
theorem Tryz.typeOf25 {P Q:TypeId} (hp:Pr P Q) (v:Value) (w:World):(ReflectliteType.typeOf #[.iface Q v]).run Tryz.prog w=.ok (.iface 200 (.agg #[.pointer (some ⟨9,Q,none⟩)])) w:=by
 rcases hp with ⟨rfl,rfl⟩ | ⟨rfl,rfl⟩ | ⟨rfl,rfl⟩ | ⟨rfl,rfl⟩<;>kernel_rfl
theorem Tryz.assignable25 {P Q:TypeId} (hp:Pr P Q) (w:World):(ReflectliteType.relation "AssignableTo" ReflectliteType.assignableTo #[.agg #[.pointer (some ⟨9,Q,none⟩)],.iface 200 (.agg #[.pointer (some ⟨9,Q,none⟩)])]).run Tryz.prog w=.ok (.bool true) w:=by
 rcases hp with ⟨rfl,rfl⟩ | ⟨rfl,rfl⟩ | ⟨rfl,rfl⟩ | ⟨rfl,rfl⟩<;>kernel_rfl
theorem Tryz.elemOf27 {P Q:TypeId} (hp:Pr P Q) (w:World):(Rtype.elem? P).run Tryz.prog w=.ok (some Q) w:=by
 rcases hp with ⟨rfl,rfl⟩ | ⟨rfl,rfl⟩ | ⟨rfl,rfl⟩ | ⟨rfl,rfl⟩<;>kernel_rfl
theorem Tryz.mk25 {P Q:TypeId} (hp:Pr P Q) (p:Addr) (w:World):(ReflectliteValue.mk Q p ReflectliteValue.flagAddr).run Tryz.prog w=.ok (.agg #[.pointer (some ⟨9,Q,none⟩),.pointer (some p),.int .u64 409]) w:=by
 rcases hp with ⟨rfl,rfl⟩ | ⟨rfl,rfl⟩ | ⟨rfl,rfl⟩ | ⟨rfl,rfl⟩<;>kernel_rfl
theorem Tryz.elemV27 {P Q:TypeId} (hp:Pr P Q) (a p:Addr) (W:World) (ha:W.cell? a=some (.pointer (some p))) :
  (ReflectliteValue.method (ReflectliteValue.valueError "reflectlite.Value.Elem" 0) ReflectliteValue.elem #[.agg #[.pointer (some ⟨9,P,none⟩),.pointer (some a),.int .u64 150]]).run Tryz.prog W
   = .ok (.agg #[.pointer (some ⟨9,Q,none⟩),.pointer (some p),.int .u64 409]) W:=by
 rw[rlm]
 simp only[Sem.run_bind,(Tryz.parts27 hp),Result.andThen]
 have g0:=@Tryz.elemOf27 _ _ hp
 have g1:=@Tryz.mk25 _ _ hp
 rcases hp with ⟨rfl,rfl⟩ | ⟨rfl,rfl⟩ | ⟨rfl,rfl⟩ | ⟨rfl,rfl⟩ <;>
  (simp[ReflectliteValue.elem,loadVar,isAgg,underlying,Tryz.underlying126,Tryz.underlying146,Tryz.underlying154,Tryz.underlying182,ha,Result.andThen,g0,g1])
theorem rls (v x:Value):ReflectliteValue.set #[v,x]=(do
  let (some (dst,a,fl),some (src,b,_)):=(←ReflectliteValue.parts v,←ReflectliteValue.parts x)
   | unsupported (.noEntry "extern/(internal/reflectlite.Value).Set.zeroValue")
  if fl / ReflectliteValue.flagAddr%2==0 then unsupported (.noEntry "extern/(internal/reflectlite.Value).Set.unaddressable")
  let val ←loadVar src b
  if ←Rtype.directlyAssignable dst src then storeVar dst a val
  else if ←Rtype.implements dst src then
   if (←Rtype.kind src)==20 then
    match val with
    | .nilIface=>unsupported (.noEntry "extern/reflectlite: a nil value of one interface type handed on as a value of another")
    | _=>storeVar dst a val
   else storeVar dst a (.iface src val)
  else panicString ("reflectlite.Set: value of type "++(←Rtype.spelt src) ++ " is not assignable to type "++(←Rtype.spelt dst))
  pure (.tuple #[])):=rfl
theorem Tryz.parts25a {P Q:TypeId} (hp:Pr P Q) (a:Addr) (w:World):(ReflectliteValue.parts (.agg #[.pointer (some ⟨9,Q,none⟩),.pointer (some a),.int .u64 409])).run Tryz.prog w=.ok (some (Q,a,409)) w:=by
 rcases hp with ⟨rfl,rfl⟩ | ⟨rfl,rfl⟩ | ⟨rfl,rfl⟩ | ⟨rfl,rfl⟩<;>kernel_rfl
theorem Tryz.parts25 {P Q:TypeId} (hp:Pr P Q) (a:Addr) (w:World):(ReflectliteValue.parts (.agg #[.pointer (some ⟨9,Q,none⟩),.pointer (some a),.int .u64 153])).run Tryz.prog w=.ok (some (Q,a,153)) w:=by
 rcases hp with ⟨rfl,rfl⟩ | ⟨rfl,rfl⟩ | ⟨rfl,rfl⟩ | ⟨rfl,rfl⟩<;>kernel_rfl
theorem Tryz.direct25 {P Q:TypeId} (hp:Pr P Q) (w:World):(Rtype.directlyAssignable Q Q).run Tryz.prog w=.ok true w:=by
 rcases hp with ⟨rfl,rfl⟩ | ⟨rfl,rfl⟩ | ⟨rfl,rfl⟩ | ⟨rfl,rfl⟩<;>kernel_rfl
theorem Tryz.set25 {P Q:TypeId} (hp:Pr P Q) (ta b:Addr) (e old:Value) (h1:e.oneCell'=true) (W:World) (hb:W.cell? b=some e) (ht:W.cell? ta=some old) (hf:W.frozen? ta=false) :
  (ReflectliteValue.set #[.agg #[.pointer (some ⟨9,Q,none⟩),.pointer (some ta),.int .u64 409],.agg #[.pointer (some ⟨9,Q,none⟩),.pointer (some b),.int .u64 153]]).run Tryz.prog W
   = .ok (.tuple #[]) (W.setCell ta e):=by
 rw[rls]
 simp only[Sem.run_bind,(Tryz.parts25a hp),(Tryz.parts25 hp),Result.andThen]
 have g0:=@Tryz.direct25 _ _ hp
 rcases hp with ⟨rfl,rfl⟩ | ⟨rfl,rfl⟩ | ⟨rfl,rfl⟩ | ⟨rfl,rfl⟩ <;>
  (simp[ReflectliteValue.flagAddr,loadVar,Tryz.isAgg124,Tryz.isAgg145,Tryz.isAgg153,Tryz.isAgg143,loadCells,loadCellsFrom,hb,Result.andThen,g0,storeVar,Value.cells,storeCells,Addr.add]
   rw[run_store Tryz.prog W ta _ _ h1]
   simp[ht,hf])
theorem valueOf51g {P Q:TypeId} (hp:Pr P Q) (v:Value) (w:World):(ReflectliteValue.unpack (.iface Q v)).run Tryz.prog w
  = .ok (.agg #[.pointer (some ⟨9,Q,none⟩),.pointer (some ⟨w.heap.size,0,none⟩),.int .u64 153]) (w.alloc (.cells v.cells Q)):=by
 rcases hp with ⟨rfl,rfl⟩ | ⟨rfl,rfl⟩ | ⟨rfl,rfl⟩ | ⟨rfl,rfl⟩<;>kernel_rfl
theorem valueOf51 {P Q:TypeId} (hp:Pr P Q) (v n:Value) (hv:v.cells=#[n]) (w:World):(ReflectliteValue.unpack (.iface Q v)).run Tryz.prog w
  = .ok (.agg #[.pointer (some ⟨9,Q,none⟩),.pointer (some ⟨w.heap.size,0,none⟩),.int .u64 153]) (w.alloc (.cells #[n] Q)):=by rw[(valueOf51g hp),hv]
set_option maxHeartbeats 8000000 in
set_option maxRecDepth 100000 in
theorem as_hit {P Q:TypeId} (hp:Pr P Q) (v n:Value) (hv:v.cells=#[n]) (h1:n.oneCell'=true) (t:Addr) (old:Value) (w:World) (hg:w.cell? ⟨0,0,none⟩=some (.iface 200 (.agg #[.pointer (some ⟨9,63,none⟩)]))) (ht0:w.cell? t=some old) (hf0:w.frozen? t=false) :
  Calls Tryz.prog 95 #[.iface Q v,.iface P (.pointer (some t))] w fun ev w'=>ev=.returned (.bool true)∧w'=((((w.alloc (.cells #[.pointer (some t)] P)).alloc (.cells #[.pointer (some ⟨9,P,none⟩),.pointer (some ⟨w.heap.size,0,none⟩),.int .u64 150] 168)).alloc (.cells #[.pointer (some ⟨9,P,none⟩),.pointer (some ⟨w.heap.size,0,none⟩),.int .u64 150] 168)).alloc (.cells #[n] Q)).setCell t n:=by
 have h6:=@run_callFunc_extern Tryz.prog 152 _ (fun args=>ReflectliteValue.unpack (args.getD 0 (.tuple #[]))) Tryz.func152 (by kernel_rfl) (by kernel_rfl) (by kernel_rfl) (by kernel_rfl)
 have h7:=@run_callFunc_extern Tryz.prog 153 _ (ReflectliteValue.methodAny (ReflectliteValue.valueError "reflectlite.Value.Type" 0) (fun t _ _ _=>ReflectliteType.toType t)) Tryz.func153 (by kernel_rfl) (by kernel_rfl) (by kernel_rfl) (by kernel_rfl)
 have h8:=@run_callFunc_extern Tryz.prog 154 _ (ReflectliteValue.method (ReflectliteValue.valueError "reflectlite.Value.IsNil" 0) ReflectliteValue.isNil) Tryz.func154 (by kernel_rfl) (by kernel_rfl) (by kernel_rfl) (by kernel_rfl)
 have h27:=@run_callFunc_extern Tryz.prog 253 _ (ReflectliteType.abiMethod fun t=>do pure (.int .u8 (←Rtype.kind t))) Tryz.func253 (by kernel_rfl) (by kernel_rfl) (by kernel_rfl) (by kernel_rfl)
 have h37:=@run_callFunc_extern Tryz.prog 267 _ (ReflectliteType.method ReflectliteType.elem) Tryz.func267 (by kernel_rfl) (by kernel_rfl) (by kernel_rfl) (by kernel_rfl)
 have h38:=@run_callFunc_extern Tryz.prog 268 _ (ReflectliteType.relation "Implements" ReflectliteType.implements_) Tryz.func268 (by kernel_rfl) (by kernel_rfl) (by kernel_rfl) (by kernel_rfl)
 have h10:=@run_callFunc_extern Tryz.prog 180 _ ReflectliteType.typeOf Tryz.func180 (by kernel_rfl) (by kernel_rfl) (by kernel_rfl) (by kernel_rfl)
 have h35:=@run_callFunc_extern Tryz.prog 265 _ (ReflectliteType.relation "AssignableTo" ReflectliteType.assignableTo) Tryz.func265 (by kernel_rfl) (by kernel_rfl) (by kernel_rfl) (by kernel_rfl)
 have h11:=@run_callFunc_extern Tryz.prog 181 _ (ReflectliteValue.method (ReflectliteValue.valueError "reflectlite.Value.Elem" 0) ReflectliteValue.elem) Tryz.func181 (by kernel_rfl) (by kernel_rfl) (by kernel_rfl) (by kernel_rfl)
 have h12:=@run_callFunc_extern Tryz.prog 182 _ ReflectliteValue.set Tryz.func182 (by kernel_rfl) (by kernel_rfl) (by kernel_rfl) (by kernel_rfl)
 have tO:=(Tryz.typeOf25 hp)
 have mA:=Tryz.methodAssignableTo
 have a25:=(Tryz.assignable25 hp)
 have v25:=valueOf51 hp v n hv
 have f6:=(Tryz.valueOf27 hp)
 have f7:=(Tryz.type27 hp)
 have mK:=Tryz.methodKind
 have mE:=Tryz.methodElem
 have mI:=Tryz.methodImplements
 have k27:=(Tryz.kind27 hp)
 have k25:=(Tryz.kind25 hp)
 have e27:=(Tryz.elem27 hp)
 have i25:=(Tryz.implements25 hp)
 have n8:=(Tryz.isNil27 hp) ⟨w.heap.size,0,none⟩ t ((w.alloc (.cells #[.pointer (some t)] P)).alloc (.cells #[.pointer (some ⟨9,P,none⟩),.pointer (some ⟨w.heap.size,0,none⟩),.int .u64 150] 168)) (by simp)
 have hlt:0 < w.heap.size:=by
  rcases Nat.eq_zero_or_pos w.heap.size with h0 | h
  ·simp[World.cell?,h0] at hg
  ·exact h
 have hg2:((w.alloc (.cells #[.pointer (some t)] P)).alloc (.cells #[.pointer (some ⟨9,P,none⟩),.pointer (some ⟨w.heap.size,0,none⟩),.int .u64 150] 168)).cell? ⟨0,0,none⟩=some (.iface 200 (.agg #[.pointer (some ⟨9,63,none⟩)])):=by
  rw[World.cell?_alloc_lt _ _ ⟨0,0,none⟩ (by simp),World.cell?_alloc_lt _ _ ⟨0,0,none⟩ hlt];exact hg
 have htl:t.block < w.heap.size:=by
  rcases Nat.lt_or_ge t.block w.heap.size with h | h
  ·exact h
  ·simp[World.cell?,Array.getElem?_eq_none h] at ht0
 have el:=(Tryz.elemV27 hp) ⟨w.heap.size,0,none⟩ t (((w.alloc (.cells #[.pointer (some t)] P)).alloc (.cells #[.pointer (some ⟨9,P,none⟩),.pointer (some ⟨w.heap.size,0,none⟩),.int .u64 150] 168)).alloc (.cells #[.pointer (some ⟨9,P,none⟩),.pointer (some ⟨w.heap.size,0,none⟩),.int .u64 150] 168)) (by rw[World.cell?_alloc_lt _ _ ⟨w.heap.size,0,none⟩ (by simp;omega)];simp)
 have st:=(Tryz.set25 hp) t ⟨w.heap.size+1+1+1,0,none⟩ n old h1 ((((w.alloc (.cells #[.pointer (some t)] P)).alloc (.cells #[.pointer (some ⟨9,P,none⟩),.pointer (some ⟨w.heap.size,0,none⟩),.int .u64 150] 168)).alloc (.cells #[.pointer (some ⟨9,P,none⟩),.pointer (some ⟨w.heap.size,0,none⟩),.int .u64 150] 168)).alloc (.cells #[n] Q))
  (by rw[World.cell?_alloc_at _ _ _ _ (by simp)];rfl)
  (by rw[World.cell?_alloc_lt _ _ t (by simp;omega),World.cell?_alloc_lt _ _ t (by simp;omega),World.cell?_alloc_lt _ _ t (by simp;omega),World.cell?_alloc_lt _ _ t htl];exact ht0)
  (by rw[World.frozen?_alloc_old _ _ t (by simp;omega),World.frozen?_alloc_old _ _ t (by simp;omega),World.frozen?_alloc_old _ _ t (by simp;omega),World.frozen?_alloc_old _ _ t (Nat.ne_of_lt htl)];exact hf0)
 go_enter Tryz.func95,Tryz.ntmps95
 go_wp2
 refine wp_loop_rounds 1 ?_
 rw[rounds_succ]
 go_wp2
 go_ret
 exact⟨rfl,rfl⟩
end Go.Proofs.AbAsD


namespace Go.Proofs.AbIsD
open Go.RowKit Go.Extern.Stop Go.Stop Go.Extern Go.Proofs
theorem Qdl (v:Value) (w:World):(Extern.ReflectliteType.typeOf #[.iface 265 v]).run Tryz.prog w=.ok (.iface 200 (.agg #[.pointer (some ⟨9,265,none⟩)])) w:=by kernel_rfl
theorem qn8 (w:World):((Extern.ReflectliteType.method fun t=>do Extern.Rtype.noPackHeld "Comparable" t;(fun a=>Value.bool a.comparable) <$> typeInfo t) #[.agg #[.pointer (some ⟨9,265,none⟩)]]).run Tryz.prog w=.ok (.bool true) w:=by kernel_rfl
theorem qho (v:Value) (w:World):(Go.method 396 200 v "Comparable").run Tryz.prog w=.ok (266,v) w:=by kernel_rfl
theorem isComp:(Tryz.prog.info? 265).map (·.comparable)=some true:=by kernel_rfl
theorem isSize:(Tryz.prog.info? 284).map (·.size)=some 1:=by kernel_rfl
theorem noIs265 (v:Value) (xT:TypeId) (w:World):(Instr.typeAssert (.iface 265 v) xT 231 true).run Tryz.prog w=.ok (.tuple #[.nilIface,.bool false]) w:=run_typeAssert_lacksB Tryz.underlying231 (by kernel_rfl) (by kernel_rfl) v xT w
theorem noUn265 (v:Value) (xT:TypeId) (w:World):(Instr.typeAssert (.iface 265 v) xT 208 true).run Tryz.prog w=.ok (.tuple #[.nilIface,.bool false]) w:=run_typeAssert_lacksB Tryz.underlying208 (by kernel_rfl) (by kernel_rfl) v xT w
theorem noUs265 (v:Value) (xT:TypeId) (w:World):(Instr.typeAssert (.iface 265 v) xT 210 true).run Tryz.prog w=.ok (.tuple #[.nilIface,.bool false]) w:=run_typeAssert_lacksB Tryz.underlying210 (by kernel_rfl) (by kernel_rfl) v xT w
theorem noIs143 (v:Value) (xT:TypeId) (w:World):(Instr.typeAssert (.iface 143 v) xT 231 true).run Tryz.prog w=.ok (.tuple #[.nilIface,.bool false]) w:=run_typeAssert_lacksB Tryz.underlying231 (by kernel_rfl) (by kernel_rfl) v xT w
theorem noUn143 (v:Value) (xT:TypeId) (w:World):(Instr.typeAssert (.iface 143 v) xT 208 true).run Tryz.prog w=.ok (.tuple #[.nilIface,.bool false]) w:=run_typeAssert_lacksB Tryz.underlying208 (by kernel_rfl) (by kernel_rfl) v xT w
theorem noUs143 (v:Value) (xT:TypeId) (w:World):(Instr.typeAssert (.iface 143 v) xT 210 true).run Tryz.prog w=.ok (.tuple #[.nilIface,.bool false]) w:=run_typeAssert_lacksB Tryz.underlying210 (by kernel_rfl) (by kernel_rfl) v xT w
set_option maxHeartbeats 1000000 in
set_option maxRecDepth 100000 in
theorem is_same (a:Addr) (w:World) :
  Calls Tryz.prog 159 #[.iface 265 (.pointer (some a)),.iface 265 (.pointer (some a))] w fun e w'=>e=.returned (.bool true)∧w'=w:=by
 obtain⟨i,hi,hcmp⟩:=Option.map_eq_some_iff.1 isComp
 obtain⟨j,hj,hjs⟩:=Option.map_eq_some_iff.1 isSize
 have h8:=@run_callFunc_extern Tryz.prog 180 _ Extern.ReflectliteType.typeOf Tryz.func180 (by kernel_rfl) (by kernel_rfl) (by kernel_rfl) (by kernel_rfl)
 have h32:=@run_callFunc_extern Tryz.prog 266 _ (Extern.ReflectliteType.method fun t=>do Extern.Rtype.noPackHeld "Comparable" t;pure (.bool (←typeInfo t).comparable)) Tryz.func266 (by kernel_rfl) (by kernel_rfl) (by kernel_rfl) (by kernel_rfl)
 have tT:=Qdl
 have cT:=qn8
 have mR:=qho
 have heq:=run_eql_iface_ptr_same (P:=Tryz.prog) w a Tryz.underlying63 Tryz.underlying265 hi hcmp hj
 go_enter Tryz.func159,Tryz.ntmps159
 go_wp2
 refine wp_loop_rounds 1 ?_
 rw[rounds_succ]
 go_wp2
 go_ret
 exact⟨rfl,rfl⟩
set_option maxHeartbeats 1000000 in
set_option maxRecDepth 100000 in
theorem is_nil (b:Addr) (w:World) :
  Calls Tryz.prog 159 #[.nilIface,.iface 265 (.pointer (some b))] w fun e w'=>e=.returned (.bool false)∧w'=w:=by
 have hn:=run_eql_iface_nil_left (P:=Tryz.prog) w 265 (.pointer (some b)) Tryz.underlying63
 go_enter Tryz.func159,Tryz.ntmps159
 go_wp2
 go_ret
 exact⟨rfl,rfl⟩
set_option maxHeartbeats 1000000 in
set_option maxRecDepth 100000 in
theorem is_other (a b:Addr) (ca cb:Array Value) (ta tb:TypeId) (w:World) (hne:a≠b) (ha:w.heap[a.block]?=some (.cells ca ta (0,0))) (hb:w.heap[b.block]?=some (.cells cb tb (0,0))) :
  Calls Tryz.prog 159 #[.iface 265 (.pointer (some a)),.iface 265 (.pointer (some b))] w fun e w'=>e=.returned (.bool false)∧w'=w:=by
 obtain⟨i,hi,hcmp⟩:=Option.map_eq_some_iff.1 isComp
 obtain⟨j,hj,hjs⟩:=Option.map_eq_some_iff.1 isSize
 have h8:=@run_callFunc_extern Tryz.prog 180 _ Extern.ReflectliteType.typeOf Tryz.func180 (by kernel_rfl) (by kernel_rfl) (by kernel_rfl) (by kernel_rfl)
 have h32:=@run_callFunc_extern Tryz.prog 266 _ (Extern.ReflectliteType.method fun t=>do Extern.Rtype.noPackHeld "Comparable" t;pure (.bool (←typeInfo t).comparable)) Tryz.func266 (by kernel_rfl) (by kernel_rfl) (by kernel_rfl) (by kernel_rfl)
 have tT:=Qdl
 have cT:=qn8
 have mR:=qho
 have nE:=noIs265
 have uE:=noUn265
 have vE:=noUs265
 have heq:=run_eql_iface_ptr_other (P:=Tryz.prog) w Tryz.underlying63 Tryz.underlying265 hi hcmp hj (by rw[hjs];decide) hne ha hb
 go_enter Tryz.func159,Tryz.ntmps159
 go_wp2
 refine wp_loop_rounds 1 ?_
 rw[rounds_succ]
 go_wp2
 go_ret
 exact⟨rfl,rfl⟩
set_option maxHeartbeats 1000000 in
set_option maxRecDepth 100000 in
theorem is_type143 (v:Value) (b:Addr) (w:World) :
  Calls Tryz.prog 159 #[.iface 143 v,.iface 265 (.pointer (some b))] w fun e w'=>e=.returned (.bool false)∧w'=w:=by
 have h8:=@run_callFunc_extern Tryz.prog 180 _ Extern.ReflectliteType.typeOf Tryz.func180 (by kernel_rfl) (by kernel_rfl) (by kernel_rfl) (by kernel_rfl)
 have h32:=@run_callFunc_extern Tryz.prog 266 _ (Extern.ReflectliteType.method fun t=>do Extern.Rtype.noPackHeld "Comparable" t;pure (.bool (←typeInfo t).comparable)) Tryz.func266 (by kernel_rfl) (by kernel_rfl) (by kernel_rfl) (by kernel_rfl)
 have tT:=Qdl
 have cT:=qn8
 have mR:=qho
 have nE:=noIs143
 have uE:=noUn143
 have vE:=noUs143
 have hty:=run_eql_iface_types (P:=Tryz.prog) 143 265 v (.pointer (some b)) Tryz.underlying63 (by decide) w
 go_enter Tryz.func159,Tryz.ntmps159
 go_wp2
 refine wp_loop_rounds 1 ?_
 rw[rounds_succ]
 go_wp2
 go_ret
 exact⟨rfl,rfl⟩
end Go.Proofs.AbIsD


namespace Go.Proofs.AbDS
open Go.RowKit Go.Proofs
theorem lies_b:liesAt Tryz.prog Tryz.prog.depth 130 (2 / Tryz.prog.cellsOf 130) 0 130 1=true:=by kernel_rfl
theorem info_b':(Tryz.prog.info? 130).map (·.size)=some 2:=by kernel_rfl
theorem info_b:∃ j,Tryz.prog.info? 130=some j∧j.size=2:=Option.map_eq_some_iff.1 info_b'
theorem cells5:Tryz.prog.cellsOf 5=1:=by kernel_rfl
set_option maxHeartbeats 1000000 in
set_option maxRecDepth 100000 in
theorem check_used (b:Nat) (w:World) (h0:w.cell? ⟨b,0,none⟩=some (.pointer (some ⟨b,0,none⟩))) :
  Calls Tryz.prog 156 #[.pointer (some ⟨b,0,none⟩)] w fun e w'=>e=.returned (.tuple #[])∧w'=w:=by
 obtain⟨j,hj,_⟩:=info_b
 go_enter Tryz.func156,Tryz.ntmps156
 go_wp2
 rw[Lib.run_neq_ptr_same w _ Tryz.underlying127 hj]
 go_wp2
 go_end0
 exact⟨rfl,rfl⟩
set_option maxHeartbeats 1000000 in
set_option maxRecDepth 100000 in
theorem check_fresh (b:Nat) (w:World) (h0:w.cell? ⟨b,0,none⟩=some (.pointer none)) (hsh:w.shape? b=some (130,2)) (hfz:w.frozen? ⟨b,0,none⟩=false) :
  Calls Tryz.prog 156 #[.pointer (some ⟨b,0,none⟩)] w fun e w'=>e=.returned (.tuple #[])∧w'=w.setCell ⟨b,0,none⟩ (.pointer (some ⟨b,0,none⟩)):=by
 obtain⟨j,hj,hjs⟩:=info_b
 go_enter Tryz.func156,Tryz.ntmps156
 go_wp2
 rw[Lib.run_to_unsafe w ⟨b,0,none⟩ Tryz.underlying127 Tryz.underlying165 hj (by rw[hjs];decide) hsh (Nat.zero_lt_succ 1)]
 simp only[Result.andThen]
 rw[Oper.upon_value]
 go_wp2
 rw[run_callFunc_extern Tryz.func183 (by kernel_rfl) (by kernel_rfl) (by kernel_rfl) (e:=Extern.AbiNoEscape.same) (by kernel_rfl)]
 rw[Lib.run_noEscape]
 simp only[Result.andThen]
 rw[Oper.upon_value]
 go_wp2
 rw[Lib.run_from_unsafe w ⟨b,0,none⟩ Tryz.underlying165 Tryz.underlying127 hj hsh lies_b]
 simp only[Result.andThen]
 rw[Oper.upon_value]
 go_wp2
 go_end0
 exact⟨rfl,rfl⟩
set_option maxHeartbeats 1000000 in
set_option maxRecDepth 100000 in
theorem string_some (b g cap:Nat) (p:Value) (cur:Array Value) (l:List UInt8) (w:World) (hbk:w.heap[b]?=some (.cells #[p,.slice (some ⟨g,0,none⟩) l.length cap] 130 (0,0)))
  (hg:w.heap[g]?=some (.cells cur 5 (0,0))) (h0:l≠[]) (hcap:l.length≤cap) (hcs:l.length≤cur.size) (h63:l.length≤9223372036854775807) (hl:∀ (j:Nat) (x:UInt8),l[j]?=some x→cur[j]?=some (Value.int .u8 (x.toNat:Int))) :
  Calls Tryz.prog 99 #[.pointer (some ⟨b,0,none⟩)] w fun e w'=>e=.returned (.string ⟨l.toArray⟩)∧w'=w.drew.freeze ⟨g,0,none⟩ l.length:=by
 have hl0:l.length≠0:=by simpa using h0
 have c1:w.drew.cell? ⟨b,1,none⟩=some (.slice (some ⟨g,0,none⟩) l.length cap):=by
  have:w.drew.heap[b]?=some (.cells #[p,.slice (some ⟨g,0,none⟩) l.length cap] 130 (0,0)):=hbk
  rw[Lib.cell_of_heap this];rfl
 have hSD:(Builtin.unsafeSliceData_ #[128] 179 #[.slice (some ⟨g,0,none⟩) l.length cap]).run Tryz.prog w.drew=.ok (.pointer (some ⟨g,0,none⟩)) w.drew :=
  Lib.run_unsafeSliceData_row _ _ _ _ _ _ (by omega)
 have hUS:(Builtin.unsafeString_ #[179,3] 9 #[.pointer (some ⟨g,0,none⟩),.int .i64 l.length]).run Tryz.prog w.drew=.ok (.string ⟨l.toArray⟩) (w.drew.freeze ⟨g,0,none⟩ l.length):=by
  refine Lib.run_unsafeString_row w.drew 179 3 9 5 Tryz.underlying179 cells5 g cur.size (by have hg':w.drew.heap[g]?=some (.cells cur 5 (0,0)):=hg;simp[World.shape?,hg']) l h0 hcs h63 ?_
  intro j x hx
  have hg':w.drew.heap[g]?=some (.cells cur 5 (0,0)):=hg
  have e:((⟨g,0,none⟩:Addr).add j)=⟨g,j,none⟩:=by cases j<;>simp[Addr.add]
  rw[e,Lib.cell_of_heap hg']
  exact hl j x hx
 have mixed:Tryz.prog.follows .mixedOrders=true:=by kernel_rfl
 go_enter Tryz.func99,Tryz.ntmps99
 go_wp2
 go_region_o
 all_goals (go_wp2;go_ret;exact⟨rfl,rfl⟩)
set_option maxHeartbeats 1000000 in
set_option maxRecDepth 100000 in
theorem string_nil (b:Nat) (p:Value) (w:World) (hbk:w.heap[b]?=some (.cells #[p,.slice none 0 0] 130 (0,0))) :
  Calls Tryz.prog 99 #[.pointer (some ⟨b,0,none⟩)] w fun e w'=>e=.returned (.string ⟨#[]⟩)∧w'=w.drew:=by
 have hUS:∀ W q,(Builtin.unsafeString_ #[179,3] 9 #[.pointer q,.int .i64 0]).run Tryz.prog W=.ok (.string .empty) W:=fun W q=>Lib.run_unsafeString_none W _ _ _ q
 have c1:w.drew.cell? ⟨b,1,none⟩=some (.slice none 0 0):=by
  have:w.drew.heap[b]?=some (.cells #[p,.slice none 0 0] 130 (0,0)):=hbk
  rw[Lib.cell_of_heap this];rfl
 have hSD:(Builtin.unsafeSliceData_ #[128] 179 #[.slice none 0 0]).run Tryz.prog w.drew=.ok (.pointer none) w.drew:=rfl
 have mixed:Tryz.prog.follows .mixedOrders=true:=by kernel_rfl
 go_enter Tryz.func99,Tryz.ntmps99
 go_wp2
 go_region_o
 all_goals (go_wp2;go_ret;exact⟨rfl,rfl⟩)
end Go.Proofs.AbDS


namespace Go.Proofs
open Go.Shelf Go.RowKit Go.Sort Go.Lib
def Tryz.lays154_ren:Go.Shelf.Ren:=⟨fun | 154=>157 | 138=>184 | 165=>185 | 143=>186 | 166=>96 | 197=>187 | 169=>99 | 195=>193 | 218=>194 | 240=>156 | 241=>195 | 219=>196 | 260=>197 | 276=>183 | 277=>206 | 217=>207 | 225=>208 | 224=>209 | 267=>210 | 266=>220 | 314=>221 | n=>n,fun | 9=>9 | 3=>3 | 4=>4 | 72=>130 | 0=>0 | 76=>92 | 105=>216 | 21=>21 | 5=>5 | 70=>127 | 20=>20 | 37=>128 | 75=>63 | 127=>179 | 164=>165 | 46=>194 | 119=>240 | 139=>243 | 138=>242 | 146=>252 | 51=>108 | 80=>134 | n=>n,fun | 1=>3 | 3=>4 | 4=>5 | n=>n⟩
theorem Tryz.lays154:Go.Proofs.Lays.n154 Tryz.prog Tryz.lays154_ren:={
 mixed:=by kernel_rfl
 f138:=Tryz.func184.trans (congrArg some (by kernel_rfl))
 f143:=Tryz.func186.trans (congrArg some (by kernel_rfl))
 f154:=Tryz.func157.trans (congrArg some (by kernel_rfl))
 f165:=Tryz.func185.trans (congrArg some (by kernel_rfl))
 f166:=Tryz.func96.trans (congrArg some (by kernel_rfl))
 f169:=Tryz.func99.trans (congrArg some (by kernel_rfl))
 f195:=Tryz.func193.trans (congrArg some (by kernel_rfl))
 f197:=Tryz.func187.trans (congrArg some (by kernel_rfl))
 f217:=Tryz.func207.trans (congrArg some (by kernel_rfl))
 f218:=Tryz.func194.trans (congrArg some (by kernel_rfl))
 f219:=Tryz.func196.trans (congrArg some (by kernel_rfl))
 f224:=Tryz.func209.trans (congrArg some (by kernel_rfl))
 f225:=Tryz.func208.trans (congrArg some (by kernel_rfl))
 f240:=Tryz.func156.trans (congrArg some (by kernel_rfl))
 f241:=Tryz.func195.trans (congrArg some (by kernel_rfl))
 f260:=Tryz.func197.trans (congrArg some (by kernel_rfl))
 f266:=Tryz.func220.trans (congrArg some (by kernel_rfl))
 f267:=Tryz.func210.trans (congrArg some (by kernel_rfl))
 f276:=Tryz.func183.trans (congrArg some (by kernel_rfl))
 f277:=Tryz.func206.trans (congrArg some (by kernel_rfl))
 f314:=Tryz.func221.trans (congrArg some (by kernel_rfl))
 t0:=Tryz.underlying0
 a0:=Tryz.isAgg0
 z0:=Tryz.sizeOf0
 v0:=Tryz.zeroValue0
 t3:=Tryz.underlying3
 a3:=Tryz.isAgg3
 z3:=Tryz.sizeOf3
 v3:=Tryz.zeroValue3
 t4:=Tryz.underlying4
 a4:=Tryz.isAgg4
 z4:=Tryz.sizeOf4
 v4:=Tryz.zeroValue4
 t5:=Tryz.underlying5
 a5:=Tryz.isAgg5
 z5:=Tryz.sizeOf5
 v5:=Tryz.zeroValue5
 t9:=Tryz.underlying9
 a9:=Tryz.isAgg9
 z9:=Tryz.sizeOf9
 v9:=Tryz.zeroValue9
 t20:=Tryz.underlying20
 a20:=Tryz.isAgg20
 z20:=Tryz.sizeOf20
 v20:=Tryz.zeroValue20
 t21:=Tryz.underlying21
 a21:=Tryz.isAgg21
 z21:=Tryz.sizeOf21
 v21:=Tryz.zeroValue21
 t37:=Tryz.underlying128
 a37:=Tryz.isAgg128
 z37:=Tryz.sizeOf128
 v37:=Tryz.zeroValue128
 t46:=Tryz.underlying194
 a46:=Tryz.isAgg194
 z46:=Tryz.sizeOf194
 v46:=Tryz.zeroValue194
 t51:=Tryz.underlying108
 a51:=Tryz.isAgg108
 z51:=Tryz.sizeOf108
 v51:=Tryz.zeroValue108
 t70:=Tryz.underlying127
 a70:=Tryz.isAgg127
 z70:=Tryz.sizeOf127
 v70:=Tryz.zeroValue127
 t72:=Tryz.underlying130
 a72:=Tryz.isAgg130
 z72:=Tryz.sizeOf130
 v72:=Tryz.zeroValue130
 t75:=Tryz.underlying63
 a75:=Tryz.isAgg63
 z75:=Tryz.sizeOf63
 v75:=Tryz.zeroValue63
 t76:=Tryz.underlying92
 a76:=Tryz.isAgg92
 z76:=Tryz.sizeOf92
 v76:=Tryz.zeroValue92
 t105:=Tryz.underlying216
 a105:=Tryz.isAgg216
 z105:=Tryz.sizeOf216
 v105:=Tryz.zeroValue216
 t119:=Tryz.underlying240
 a119:=Tryz.isAgg240
 z119:=Tryz.sizeOf240
 t127:=Tryz.underlying179
 a127:=Tryz.isAgg179
 z127:=Tryz.sizeOf179
 v127:=Tryz.zeroValue179
 t138:=Tryz.underlying242
 a138:=Tryz.isAgg242
 z138:=Tryz.sizeOf242
 v138:=Tryz.zeroValue242
 t139:=Tryz.underlying243
 a139:=Tryz.isAgg243
 z139:=Tryz.sizeOf243
 v139:=Tryz.zeroValue243
 t146:=Tryz.underlying252
 a146:=Tryz.isAgg252
 z146:=Tryz.sizeOf252
 v146:=Tryz.zeroValue252
 t164:=Tryz.underlying165
 a164:=Tryz.isAgg165
 z164:=Tryz.sizeOf165
 v164:=Tryz.zeroValue165
 g1:=by kernel_rfl
 g3:=by kernel_rfl
 g4:=by kernel_rfl}
theorem Tryz.extra:Builder.Extra Tryz.prog Tryz.lays154_ren where
 sizeBuilder:=by kernel_rfl
 liesBuilder:=by kernel_rfl
 t5:=Tryz.lays154.t5
 a5:=Tryz.lays154.a5
 z5:=Tryz.lays154.z5
 v5:=Tryz.lays154.v5
 infoByte:=by kernel_rfl
 cellsByte:=by kernel_rfl
 sizeByte:=by kernel_rfl
 neB5:=by decide
def Tryz.lays173_ren:Go.Shelf.Ren:=⟨fun | 173=>158 | 246=>188 | 283=>198 | 284=>199 | 285=>200 | 286=>201 | 129=>212 | 317=>211 | 318=>213 | 319=>214 | 320=>215 | 337=>222 | 338=>223 | n=>n,fun | 2=>2 | 3=>3 | 9=>9 | 4=>4 | 171=>226 | 0=>0 | 53=>190 | 37=>128 | 5=>5 | 173=>229 | 212=>245 | 51=>108 | 20=>20 | 213=>246 | 46=>194 | 232=>261 | 233=>262 | n=>n,fun | 17=>6 | 18=>7 | 19=>8 | n=>n⟩
theorem Tryz.lays173:Go.Proofs.LaysM.n173 Tryz.prog Tryz.lays173_ren:={
 mixed:=by kernel_rfl
 f129:=Tryz.func212.trans (congrArg some (by kernel_rfl))
 f173:=Tryz.func158.trans (congrArg some (by kernel_rfl))
 f246:=Tryz.func188.trans (congrArg some (by kernel_rfl))
 f283:=Tryz.func198.trans (congrArg some (by kernel_rfl))
 f284:=Tryz.func199.trans (congrArg some (by kernel_rfl))
 f285:=Tryz.func200.trans (congrArg some (by kernel_rfl))
 f286:=Tryz.func201.trans (congrArg some (by kernel_rfl))
 f317:=Tryz.func211.trans (congrArg some (by kernel_rfl))
 f318:=Tryz.func213.trans (congrArg some (by kernel_rfl))
 f319:=Tryz.func214.trans (congrArg some (by kernel_rfl))
 f320:=Tryz.func215.trans (congrArg some (by kernel_rfl))
 f337:=Tryz.func222.trans (congrArg some (by kernel_rfl))
 f338:=Tryz.func223.trans (congrArg some (by kernel_rfl))
 t0:=Tryz.underlying0
 a0:=Tryz.isAgg0
 z0:=Tryz.sizeOf0
 v0:=Tryz.zeroValue0
 t2:=Tryz.underlying2
 a2:=Tryz.isAgg2
 z2:=Tryz.sizeOf2
 v2:=Tryz.zeroValue2
 t3:=Tryz.underlying3
 a3:=Tryz.isAgg3
 z3:=Tryz.sizeOf3
 v3:=Tryz.zeroValue3
 t4:=Tryz.underlying4
 a4:=Tryz.isAgg4
 z4:=Tryz.sizeOf4
 v4:=Tryz.zeroValue4
 t5:=Tryz.underlying5
 a5:=Tryz.isAgg5
 z5:=Tryz.sizeOf5
 v5:=Tryz.zeroValue5
 t9:=Tryz.underlying9
 a9:=Tryz.isAgg9
 z9:=Tryz.sizeOf9
 v9:=Tryz.zeroValue9
 t20:=Tryz.underlying20
 a20:=Tryz.isAgg20
 z20:=Tryz.sizeOf20
 v20:=Tryz.zeroValue20
 t37:=Tryz.underlying128
 a37:=Tryz.isAgg128
 z37:=Tryz.sizeOf128
 v37:=Tryz.zeroValue128
 t46:=Tryz.underlying194
 a46:=Tryz.isAgg194
 z46:=Tryz.sizeOf194
 v46:=Tryz.zeroValue194
 t51:=Tryz.underlying108
 a51:=Tryz.isAgg108
 z51:=Tryz.sizeOf108
 v51:=Tryz.zeroValue108
 t53:=Tryz.underlying190
 a53:=Tryz.isAgg190
 z53:=Tryz.sizeOf190
 v53:=Tryz.zeroValue190
 t171:=Tryz.underlying226
 a171:=Tryz.isAgg226
 z171:=Tryz.sizeOf226
 v171:=Tryz.zeroValue226
 t173:=Tryz.underlying229
 a173:=Tryz.isAgg229
 z173:=Tryz.sizeOf229
 v173:=Tryz.zeroValue229
 t212:=Tryz.underlying245
 a212:=Tryz.isAgg245
 z212:=Tryz.sizeOf245
 v212:=Tryz.zeroValue245
 t213:=Tryz.underlying246
 a213:=Tryz.isAgg246
 z213:=Tryz.sizeOf246
 t232:=Tryz.underlying261
 a232:=Tryz.isAgg261
 z232:=Tryz.sizeOf261
 v232:=Tryz.zeroValue261
 t233:=Tryz.underlying262
 a233:=Tryz.isAgg262
 z233:=Tryz.sizeOf262
 v233:=Tryz.zeroValue262
 g17:=by kernel_rfl
 g18:=by kernel_rfl
 g19:=by kernel_rfl
 i0:=by kernel_rfl
 i2:=by kernel_rfl
 i3:=by kernel_rfl
 i4:=by kernel_rfl
 i5:=by kernel_rfl
 i9:=by kernel_rfl
 i20:=by kernel_rfl
 i37:=by kernel_rfl
 i46:=by kernel_rfl
 i51:=by kernel_rfl
 i53:=by kernel_rfl
 i171:=by kernel_rfl
 i173:=by kernel_rfl
 i212:=by kernel_rfl
 i232:=by kernel_rfl
 i233:=by kernel_rfl
 m17:=by kernel_rfl
 m18:=by kernel_rfl
 m19:=by kernel_rfl}
namespace AbShD
theorem repl_run (s old new:ByteArray) (n m:Int) (w:World) (hs:s.size < 4294967281) (hm:w.cell? ⟨3,0,none⟩=some (.int .i64 m)) (h1:1≤old.size) (hlen:s.size+Lib.countB s old*new.size≤140737488355328) :
  Calls Tryz.prog 157 #[.string s,.string old,.string new,.int .i64 n] w fun e w'=>e=.returned (.string ⟨(Lib.replace s.data.toList old.data.toList new.data.toList n).toArray⟩)∧Below w.heap.size w w' :=
 Any.strings_Replace Tryz.lays154 Tryz.extra s old new n m w hs hm h1 hlen
theorem fmt_run (n:Int) (h0 : -9223372036854775808≤n) (h1:n≤9223372036854775807) (w:World) (ht:Lib.TabIs Tryz.prog w "internal/strconv.uint64pow10" .u64 Lib.pow10Tab) :
  Calls Tryz.prog 158 #[.int .i64 n,.int .i64 10] w fun e w'=>e=.returned (.string ⟨(Lib.itoa n).toArray⟩)∧∃ k os,w'=grow (w.drewN k) os :=
 Any.strconv_FormatInt_10 Tryz.lays173 n h0 h1 w ht
end AbShD
end Go.Proofs


namespace Go.Proofs.AbLkD
open Go
abbrev link:Go.Conc.Locks.MuLink:={lock:=203,unlock:=204,ilock:=216,iunlock:=217,lockSlow:=228,unlockSlow:=231,disable:=224,enable:=226,acquire:=227,relMerge:=229,cas32:=225,add32:=230,tIMutex:=112,tMutex:=114,tPMutex:=249,tPIMutex:=255,tPI32:=257,tUP:=165,tNoCopy:=106,tU32:=108}
theorem lib:Go.Conc.Locks.MuLib Tryz.prog link :=
 ⟨Tryz.func203,Tryz.func204,Tryz.func216,Tryz.func217,Tryz.func224,Tryz.func226,Tryz.func227,Tryz.func229,Tryz.func225,Tryz.func230,Tryz.underlying112,Tryz.runUnderlying112,Tryz.sizeOf112,Tryz.isAgg112,Tryz.zeroValue112,Tryz.underlying114,Tryz.runUnderlying114,Tryz.sizeOf114,Tryz.isAgg114,Tryz.zeroValue114,Tryz.underlying249,Tryz.runUnderlying249,Tryz.sizeOf249,Tryz.isAgg249,Tryz.zeroValue249,Tryz.underlying255,Tryz.runUnderlying255,Tryz.sizeOf255,Tryz.isAgg255,Tryz.zeroValue255,Tryz.underlying257,Tryz.runUnderlying257,Tryz.sizeOf257,Tryz.isAgg257,Tryz.zeroValue257,Tryz.underlying165,Tryz.runUnderlying165,Tryz.sizeOf165,Tryz.isAgg165,Tryz.zeroValue165,Tryz.underlying106,Tryz.runUnderlying106,Tryz.sizeOf106,Tryz.isAgg106,Tryz.zeroValue106,Tryz.underlying21,Tryz.runUnderlying21,Tryz.sizeOf21,Tryz.isAgg21,Tryz.zeroValue21,(by kernel_rfl)⟩
theorem load (a:Addr) (y:Int) (w:World) (h:w.cell? a=some (.int .u32 y)):(callFunc 202 #[.pointer (some a)]).run Tryz.prog w=.ok (.value (.int .u32 y)) w :=
 run_call_load (P:=Tryz.prog) Tryz.func202 (by kernel_rfl) (by kernel_rfl) (by kernel_rfl) .u32 (by kernel_rfl) h
theorem store (a:Addr) (y0 y:Int) (w:World) (h:w.cell? a=some (.int .u32 y0)) (hz:w.frozen? a=false):(callFunc 218 #[.pointer (some a),.int .u32 y]).run Tryz.prog w=.ok (.value (.tuple #[])) (w.setCell a (.int .u32 y)) :=
 run_call_store (P:=Tryz.prog) Tryz.func218 (by kernel_rfl) (by kernel_rfl) (by kernel_rfl) (by kernel_rfl) h hz
theorem lock (a:Addr) (w:World) (h:w.cell? a=some (.int .i32 0)) (hz:w.frozen? a=false):Calls Tryz.prog 216 #[.pointer (some a)] w fun e w'=>e=.returned (.tuple #[])∧w'=w.setCell a (.int .i32 1):=Go.MuLone.ilock_free lib a w h hz
theorem unlock (a:Addr) (w:World) (h:w.cell? a=some (.int .i32 1)) (hz:w.frozen? a=false):Calls Tryz.prog 217 #[.pointer (some a)] w fun e w'=>e=.returned (.tuple #[])∧w'=w.setCell a (.int .i32 0):=Go.MuLone.iunlock_held lib a w h hz
end Go.Proofs.AbLkD


namespace Go.Proofs.AbDS
open Go.RowKit Go.Proofs
theorem info2':(Tryz.prog.info? 2).map (fun i=>(i.zero,i.size,i.bytes))=some (some (.int .i64 0),1,8):=by kernel_rfl
theorem info2:∃ i z,Tryz.prog.info? 2=some i∧i.zero=some z∧i.size=1∧i.bytes=8∧z=.int .i64 0:=by
 obtain⟨i,h1,h2⟩:=Option.map_eq_some_iff.1 info2'
 simp only[Prod.mk.injEq] at h2
 exact⟨i,_,h1,h2.1,h2.2.1,h2.2.2,rfl⟩
set_option maxHeartbeats 1000000 in
set_option maxRecDepth 100000 in
theorem grow_zero (w:World):Calls Tryz.prog 190 #[.slice none 0 0,.int .i64 0] w fun e w'=>e=.returned (.slice none 0 0)∧w'=w:=by
 go_enter Tryz.func190,Tryz.ntmps190
 go_wp2
 go_ret
 exact⟨rfl,rfl⟩
set_option maxHeartbeats 4000000 in
set_option maxRecDepth 100000 in
theorem grow_some (n:Nat) (w:World) (h0:0 < n) (hn:n≤1000000):Calls Tryz.prog 190 #[.slice none 0 0,.int .i64 n] w fun e w' =>
  ∃ G row,e=.returned (.slice (some ⟨w.heap.size,0,none⟩) 0 G)∧G≤row.size∧w'=w.drew.alloc (.cells row 2):=by
 obtain⟨i0,z,hi0,hz0,hs0,hb0,rfl⟩:=info2
 have h1:¬ ((n:Int) < 0):=by omega
 have h3:wrap64 ((n:Int) - 0)=(n:Int):=by unfold wrap64;omega
 have h4:(n:Int)>0:=by omega
 have hrz:∀ ty,(Builtin.append_ #[22,3] ty #[.slice none 0 0,.int .i64 (n:Int)]).run Tryz.prog w =
   .ok (.slice (some ⟨w.heap.size,0,none⟩) n (grownCap w n 0 2)) (w.drew.alloc (.cells ((#[]:Array Value)++Builtin.zeroCells (Value.int .i64 0).cells n++Builtin.zeroCells (Value.int .i64 0).cells (grownCap w n 0 2 - n)) 2)):=fun ty=>by
  have h:=Lib.run_append_grow_zeros (P:=Tryz.prog) w 22 3 ty 2 i0 (.int .i64 0) .i64 .i64 Tryz.underlying22 Tryz.underlying3 hi0 hz0 none 0 0 [] (by rw[hs0];exact run_firstCells_none w.drew 1 0 0 0) n h0 (by omega) (by omega) (by omega) (by rw[hb0];omega)
   (growslice_fits (by omega) (by rw[hb0];omega))
  rw[Nat.zero_add] at h
  exact h
 have hGn:n≤grownCap w n 0 2:=grownCap_ge w _ _ _
 have hG63:grownCap w n 0 2≤9223372036854775807:=by
  have:=grownCap_le_maxLen w n 0 2 (by unfold maxLen;omega)
  unfold maxLen at this
  omega
 obtain⟨row,hrow⟩:∃ row,row=((#[]:Array Value)++Builtin.zeroCells (Value.int .i64 0).cells n++Builtin.zeroCells (Value.int .i64 0).cells (grownCap w n 0 2 - n)):=⟨_,rfl⟩
 have hsz:grownCap w n 0 2≤row.size:=by
  rw[hrow]
  simp[size_zeroCells,Value.cells]
  omega
 rw[←hrow] at hrz
 obtain⟨G,hG⟩:∃ G,G=grownCap w n 0 2:=⟨_,rfl⟩
 rw[←hG] at hrz hGn hG63 hsz
 clear hrow hG
 go_enter Tryz.func190,Tryz.ntmps190
 go_wp2_with (at_builtin;refine Lib.wpList_append_run _ rfl _ _ _ _ rfl _ _ rfl rfl _ _ (hrz _) ?_)
 all_goals (go_ret;exact⟨G,rfl,row,hsz,rfl⟩)
end Go.Proofs.AbDS


namespace Go.Ab.Derive2
open Go Go.Ab Go.Proofs
def et0:Value:=.iface 200 (.agg #[.pointer (some ⟨9,63,none⟩)])
def tabs0:List (Nat×Array Value):=[(6,(Lib.pow10Tab.map fun z=>Value.int .u64 z).toArray)]
noncomputable def cx0:Cx:=cxOf Tryz.prog (by kernel_rfl) [1,2] 265 [(0,et0)] tabs0 [3]
theorem enters95:qfi Tryz.prog 95:=⟨_,Tryz.func95,by rfl,by rfl⟩
theorem enters159:qfi Tryz.prog 159:=⟨_,Tryz.func159,by rfl,by rfl⟩
theorem enters190:qfi Tryz.prog 190:=⟨_,Tryz.func190,by rfl,by rfl⟩
theorem enters157:qfi Tryz.prog 157:=⟨_,Tryz.func157,by rfl,by rfl⟩
theorem enters158:qfi Tryz.prog 158:=⟨_,Tryz.func158,by rfl,by rfl⟩
theorem enters156:qfi Tryz.prog 156:=⟨_,Tryz.func156,by rfl,by rfl⟩
theorem enters99:qfi Tryz.prog 99:=⟨_,Tryz.func99,by rfl,by rfl⟩
theorem enters216:qfi Tryz.prog 216:=⟨_,Tryz.func216,by rfl,by rfl⟩
theorem enters217:qfi Tryz.prog 217:=⟨_,Tryz.func217,by rfl,by rfl⟩
theorem as_ok:AsOK Tryz.prog 95 0 et0 ps0 where
 enters:=enters95
 none v w:=Go.Proofs.AbAsD.as_nil v w
 hit p t h v n hv h1 a old w hg h0 hf:=by
  simp only[ps0,List.lookup] at h
  split at h
  ·rename_i hp
   obtain rfl:p=126:=by simpa using hp
   cases h
   refine (Go.Proofs.AbAsD.as_hit (.inl ⟨rfl,rfl⟩) v n hv h1 a old w hg h0 hf).mono ?_
   rintro ev w' ⟨rfl,rfl⟩
   exact⟨rfl,_,_,_,_,rfl⟩
  split at h
  ·rename_i hp
   obtain rfl:p=146:=by simpa using hp
   cases h
   refine (Go.Proofs.AbAsD.as_hit (.inr (.inl ⟨rfl,rfl⟩)) v n hv h1 a old w hg h0 hf).mono ?_
   rintro ev w' ⟨rfl,rfl⟩
   exact⟨rfl,_,_,_,_,rfl⟩
  split at h
  ·rename_i hp
   obtain rfl:p=154:=by simpa using hp
   cases h
   refine (Go.Proofs.AbAsD.as_hit (.inr (.inr (.inl ⟨rfl,rfl⟩))) v n hv h1 a old w hg h0 hf).mono ?_
   rintro ev w' ⟨rfl,rfl⟩
   exact⟨rfl,_,_,_,_,rfl⟩
  split at h
  ·rename_i hp
   obtain rfl:p=182:=by simpa using hp
   cases h
   refine (Go.Proofs.AbAsD.as_hit (.inr (.inr (.inr ⟨rfl,rfl⟩))) v n hv h1 a old w hg h0 hf).mono ?_
   rintro ev w' ⟨rfl,rfl⟩
   exact⟨rfl,_,_,_,_,rfl⟩
  cases h
theorem is_ok:IsOK Tryz.prog 159 265 [143] where
 enters:=enters159
 none a w:=Go.Proofs.AbIsD.is_nil a w
 same a w:=Go.Proofs.AbIsD.is_same a w
 other a b ca cb ta tb w h h1 h2:=Go.Proofs.AbIsD.is_other a b ca cb ta tb w h h1 h2
 type s hs v b w:=by
  simp only[List.mem_cons,List.not_mem_nil,or_false] at hs
  subst hs
  exact Go.Proofs.AbIsD.is_type143 v b w
theorem bld_ok:BldOK Tryz.prog 156 99 130 5 where
 entersC:=enters156
 entersS:=enters99
 nzT:=by decide
 nzU:=by decide
 used:=Go.Proofs.AbDS.check_used
 fresh b w h0 h1 h2:=Go.Proofs.AbDS.check_fresh b w h0 h1 h2
 strNil b p w h:=Go.Proofs.AbDS.string_nil b p w h
 strSome b g cap p cur l w h1 h2 h3 h4 h5 h6 h7:=Go.Proofs.AbDS.string_some b g cap p cur l w h1 h2 h3 h4 h5 h6 h7
theorem sp_ok:SpOK cx0 sp0:=by
 intro g st vs out h
 unfold sp0 at h
 split at h
 ·rename_i hg
  subst hg
  exact .inr (as_at (List.mem_singleton.2 rfl) as_ok h)
 split at h
 ·rename_i hg
  subst hg
  exact .inr (is_at is_ok h)
 split at h
 ·rename_i hg
  subst hg
  exact .inr (grow_at enters190 Go.Proofs.AbDS.grow_zero (fun m w h0 hm=>Go.Proofs.AbDS.grow_some m w h0 hm) h)
 split at h
 ·rename_i hg
  subst hg
  exact .inr (repl_at enters157 (gm:=3) (by decide) (fun s old new n m w hs hm h1 hl=>Go.Proofs.AbShD.repl_run s old new n m w hs hm h1 hl) h)
 split at h
 ·rename_i hg
  subst hg
  exact .inr (fmt_at enters158 (gt:=6) (List.mem_singleton.2 rfl) (by kernel_rfl) (fun n h0 h1 w ht=>Go.Proofs.AbShD.fmt_run n h0 h1 w ht) h)
 split at h
 ·rename_i hg
  subst hg
  exact .inr (check_at bld_ok h)
 split at h
 ·rename_i hg
  subst hg
  exact .inr (str_at bld_ok h)
 split at h
 ·rename_i hg
  subst hg
  exact .inl (load_ret Go.Proofs.AbLkD.load h)
 split at h
 ·rename_i hg
  subst hg
  exact .inl (store_ret Go.Proofs.AbLkD.store h)
 split at h
 ·rename_i hg
  subst hg
  exact .inr (swap_at enters216 Go.Proofs.AbLkD.lock h)
 split at h
 ·rename_i hg
  subst hg
  exact .inr (swap_at enters217 Go.Proofs.AbLkD.unlock h)
 cases h
end Go.Ab.Derive2


namespace Go.Ab
open Go Go.ChangeShapes Go.WideShapes Go.RowKit
inductive DTy where
 | bool
 | int (k:IntKind)
 | str
 | slice (e:DTy)
 | struct (fs:List DTy)
mutual
def DTy.cells:DTy→Nat
 | .struct fs=>DTy.cellsL fs
 | .bool | .int _ | .str | .slice _=>1
def DTy.cellsL:List DTy→Nat
 | []=>0
 | d :: ds=>d.cells+DTy.cellsL ds
end
mutual
def isD (P:Program):Nat→DTy→TypeId→Bool
 | 0,_,_=>false
 | n+1,D,t=>match D,P.underlying t with
  | .bool,some .bool=>true
  | .int k,some (.int k')=>k'==k
  | .str,some .string=>true
  | .slice e,some (.slice et)=>isD P n e et&&P.cellsOf et==e.cells&&decide (0 < e.cells)
  | .struct fs,some (.struct fields)=>P.cellsOf t==DTy.cellsL fs&&isFs P n 0 fs fields.toList
  | _,_=>false
def isFs (P:Program):Nat→Nat→List DTy→List Field→Bool
 | 0,_,_,_=>false
 | _+1,_,[],[]=>true
 | n+1,off,D :: ds,f :: fs=>f.offset==off&&P.cellsOf f.type==D.cells&&isD P n D f.type&&isFs P n (off+D.cells) ds fs
 | _+1,_,_,_=>false
end
mutual
def HasV:DTy→PV→Prop
 | .bool,v=>∃ b,v=.bool b
 | .int k,v=>∃ n,v=.int k n∧(Lit.int k n).wf=true
 | .str,v=>∃ s,v=.str s∧s.length≤maxLen
 | .slice e,v=>v=.nilS∨∃ xs,v=.sl e.cells xs false∧xs.length≤maxLen∧∀ x∈xs,HasV e x
 | .struct fs,v=>∃ vs,v=.agg (cellsL vs)∧HasVs fs vs
def HasVs:List DTy→List PV→Prop
 | [],vs=>vs=[]
 | D :: fs,vs=>∃ v r,vs=v :: r∧HasV D v∧HasVs fs r
end
theorem repL1' {w:World} {I:Nat→Prop} {lp:Nat→Option Nat} {L:Option Loc} {a:PV} {us:List Value} (h:qbv w I lp L [a] us):∃ u,us=[u]∧qbx w I lp L a u:=by
 obtain⟨u,r,h1,rfl,h2⟩:∃ u r,qbx w I lp L a u∧us=u :: r∧qbv w I lp L [] r:=by
  cases h;exact⟨_,_,by assumption,rfl,by assumption⟩
 cases h2
 exact⟨u,rfl,h1⟩
section
variable {H:Type} {enc:TypeId×Value→H} {P:Program} {w:World} {I:Nat→Prop} {lp:Nat→Option Nat} {held:Bool} {sp:Nat→Bool}
def RepD (w:World) (I:Nat→Prop) (lp:Nat→Option Nat) (D:DTy) (cs:List Value):Prop:=∃ v:PV,HasV D v∧qbv w I lp none v.cells cs∧One cs∧v.cells.length=D.cells
theorem cells?_get {base:Nat} {a:Addr} {n:Nat} {l:List Value} (h:w.cells? base a n=some l):l.length=n∧∀ i,i < n→w.cell? (a.add i)=l[i]?:=by
 obtain⟨_,h1,h2⟩:=World.cells?_some h
 exact⟨h1,fun i hi=>by rw[h2 i hi]⟩
theorem cell?_row {a:Addr} {v:Value} (h:w.cell? a=some v):∃ c E fr,w.heap[a.block]?=some (.cells c E fr)∧a.spot=none∧c[a.off]?=some v:=by
 unfold World.cell? at h
 split at h
 ·rename_i c E fr hb
  split at h
  ·cases h
  ·rename_i hs
   exact⟨c,E,fr,hb,by simpa using hs,h⟩
 ·cases h
theorem Qpi (a:Addr) (h:a.spot=none) (i:Nat):a.add i=⟨a.block,a.off+i,none⟩:=by
 unfold Addr.add
 split
 ·rename_i hi;subst hi;cases a;simp_all
 ·rfl
theorem list_rep {e:DTy} (hI:∀ b,b < w.heap.size→I b) {a:Addr} {len cap:Nat} (hlc:len≤cap) (hcm:cap≤maxLen) (hpos:0 < e.cells)
  (hel:∀ i,i < len→∃ cs,w.cells? 0 (a.add (i*e.cells)) e.cells=some cs∧RepD w I lp e cs):RepD w I lp (.slice e) [.slice (some a) len cap]:=by
 by_cases h0:len=0
 ·subst h0
  exact⟨.sl e.cells [] false,.inr ⟨[],rfl,Nat.zero_le _,fun x hx=>by cases hx⟩,.cons _ _ _ _ (.slE _ _ _ _ (fun h=>by cases h)) .nil,by simp[One,Value.oneCell'],rfl⟩
 ·obtain⟨cs0,hcs0,_⟩:=hel 0 (by omega)
  obtain⟨hl0,hg0⟩:=cells?_get hcs0
  have hf:=hg0 0 hpos
  rw[Nat.zero_mul] at hf
  have e0:(a.add 0).add 0=a:=by simp[Addr.add]
  rw[e0,List.getElem?_eq_getElem (by omega)] at hf
  obtain⟨c,E,fr,hb,hs,_⟩:=cell?_row hf
  have hblt:a.block < w.heap.size:=(Array.getElem?_eq_some_iff.1 hb).1
  have each:∀ i,i < len→∃ v:PV,HasV e v∧v.cells.length=e.cells∧(a.off+i*e.cells)+e.cells≤c.size∧One ((c.toList.drop (a.off+i*e.cells)).take e.cells)∧qbv w I lp none v.cells ((c.toList.drop (a.off+i*e.cells)).take e.cells):=by
   intro i hi
   obtain⟨cs,hcs,v,h1,h2,h3,h4⟩:=hel i hi
   obtain⟨hl,hg⟩:=cells?_get hcs
   have key:∀ j,j < e.cells→c[a.off+i*e.cells+j]?=cs[j]?:=by
    intro j hj
    have:=hg j hj
    rw[Qpi a hs,Qpi _ rfl,qs0 hb] at this
    exact this
   have hsz:a.off+i*e.cells+e.cells≤c.size:=by
    have:=key (e.cells - 1) (by omega)
    rw[List.getElem?_eq_getElem (by omega)] at this
    have:=(Array.getElem?_eq_some_iff.1 this).1
    omega
   have e1:(c.toList.drop (a.off+i*e.cells)).take e.cells=cs:=by
    apply List.ext_getElem?
    intro j
    by_cases hj:j < e.cells
    ·rw[List.getElem?_take_of_lt hj,List.getElem?_drop,←key j hj];simp
    ·rw[List.getElem?_eq_none (by simp;omega),List.getElem?_eq_none (by omega)]
   exact⟨v,h1,h4,hsz,by rw[e1];exact h3,by rw[e1];exact h2⟩
  have all:∀ n,n≤len→∃ xs:List PV,xs.length=n∧(∀ x∈xs,HasV e x)∧(∀ x∈xs,x.cells.length=e.cells)∧a.off+n*e.cells≤c.size∧One ((c.toList.drop a.off).take (n*e.cells))∧qbv w I lp none (cellsL xs) ((c.toList.drop a.off).take (n*e.cells)):=by
   intro n
   induction n with
   | zero =>
    intro _
    refine⟨[],rfl,by simp,by simp,?_,by simp[One],by simp;exact .nil⟩
    obtain⟨_,_,_,h,_⟩:=each 0 (by omega)
    omega
   | succ n ih =>
    intro hn
    obtain⟨xs,h1,h2,h3,h4,h5,h6⟩:=ih (by omega)
    obtain⟨v,g1,g2,g3,g4,g5⟩:=each n (by omega)
    have e2:(c.toList.drop a.off).take ((n+1)*e.cells)=(c.toList.drop a.off).take (n*e.cells)++(c.toList.drop (a.off+n*e.cells)).take e.cells:=by
     rw[Nat.add_mul,Nat.one_mul,List.take_add,List.drop_drop]
    refine⟨xs++[v],by simp[h1],?_,?_,by rw[Nat.add_mul];omega,?_,?_⟩
    ·intro x hx
     rcases List.mem_append.1 hx with hx | hx
     ·exact h2 x hx
     ·simp at hx;subst hx;exact g1
    ·intro x hx
     rcases List.mem_append.1 hx with hx | hx
     ·exact h3 x hx
     ·simp at hx;subst hx;exact g2
    ·rw[e2];exact h5.append' g4
    ·rw[e2,qf4]
     refine h6.append ?_
     simpa[cellsL] using g5
  obtain⟨xs,h1,h2,h3,h4,h5,h6⟩:=all len (Nat.le_refl _)
  have ea:a=⟨a.block,a.off,none⟩:=by cases a;simp_all
  refine⟨.sl e.cells xs false,.inr ⟨xs,rfl,by omega,h2⟩,?_,by simp[One,Value.oneCell'],rfl⟩
  rw[ea,←h1]
  exact .cons _ _ _ _ (.sl e.cells xs false a.block a.off cap c E fr (hI _ hblt) hb (by rw[h1];exact h4) h3 (by omega) (fun h=>by cases h) (by rw[h1];exact h5) (by rw[h1];exact h6)) .nil
theorem struct_rep {n:Nat} (ih:∀ (m:Nat) (D:DTy) (t:TypeId) (cs:List Value) (x:DataW H×List MemPlace),isD P m D t=true→DataW.trod enc P w 0 (fun _=>true) held n t cs=some x→RepD w I lp D cs) :
  ∀ (m:Nat) (ds:List DTy) (fs:List Field) (off:Nat) (cs:List Value) (xs:List (DataW H×List MemPlace)),isFs P m off ds fs=true→xs.length=fs.length→cs.length=off+DTy.cellsL ds →
  (∀ (i:Nat) (f:Field),fs[i]?=some f→DataW.trod enc P w 0 (fun _=>true) held n f.type ((cs.drop f.offset).take (P.cellsOf f.type))=xs[i]?) →
  ∃ vs:List PV,HasVs ds vs∧qbv w I lp none (cellsL vs) (cs.drop off)∧One (cs.drop off)∧(cellsL vs).length=DTy.cellsL ds:=by
 intro m
 induction m with
 | zero=>intro ds fs off cs xs h;cases h
 | succ m ihm =>
  intro ds fs off cs xs h hl hc hf
  match ds,fs,h with
  | [],[],_ =>
   refine⟨[],rfl,?_,?_,rfl⟩
   ·rw[List.drop_of_length_le (by simp[DTy.cellsL] at hc;omega)];exact .nil
   ·rw[List.drop_of_length_le (by simp[DTy.cellsL] at hc;omega)];simp[One]
  | D :: ds,f :: fs,h =>
   simp only[isFs,Bool.and_eq_true,beq_iff_eq] at h
   obtain⟨⟨⟨h1,h2⟩,h3⟩,h4⟩:=h
   match xs,hl with
   | x :: xs,hl =>
    have hx:=hf 0 f rfl
    rw[h1,h2] at hx
    obtain⟨v,g1,g2,g3,g4⟩:=ih m D f.type _ x h3 hx
    simp only[DTy.cellsL] at hc
    obtain⟨vs,k1,k2,k3,k4⟩:=ihm ds fs (off+D.cells) cs xs h4 (by simpa using hl) (by omega) (fun i f hi=>by simpa using hf (i+1) f (by simpa using hi))
    have e1:cs.drop off=(cs.drop off).take D.cells++cs.drop (off+D.cells):=by rw[←List.drop_drop,List.take_append_drop]
    refine⟨v :: vs,⟨v,vs,rfl,g1,k1⟩,?_,?_,by simp[cellsL,DTy.cellsL,g4,k4]⟩
    ·rw[e1];exact g2.append k2
    ·rw[e1];exact g3.append' k3
theorem Qka (hI:∀ b,b < w.heap.size→I b):∀ (fuel m:Nat) (D:DTy) (t:TypeId) (cs:List Value) (x:DataW H×List MemPlace),isD P m D t=true→DataW.trod enc P w 0 (fun _=>true) held fuel t cs=some x→RepD w I lp D cs:=by
 intro fuel
 induction fuel with
 | zero=>intro m D t cs x _ h;simp[DataW.trod] at h
 | succ fuel ih =>
  intro m D t cs x hD h
  cases m with
  | zero=>cases hD
  | succ m =>
   cases hu:P.underlying t with
   | none=>cases D<;>simp[isD,hu] at hD
   | some d =>
    cases D with
    | bool =>
     cases d<;>simp[isD,hu] at hD
     obtain⟨b,rfl,_⟩:=DataW.trod_bool hu h
     exact⟨.bool b,⟨b,rfl⟩,.cons _ _ _ _ (.bool b) .nil,by simp[One,Value.oneCell'],rfl⟩
    | int k =>
     cases d<;>simp[isD,hu] at hD
     subst hD
     obtain⟨n,rfl,_,hw⟩:=DataW.trod_int hu h
     exact⟨.int _ n,⟨n,rfl,hw⟩,.cons _ _ _ _ (.int _ n) .nil,by simp[One,Value.oneCell'],rfl⟩
    | str =>
     cases d<;>simp[isD,hu] at hD
     obtain⟨s,rfl,_,hw⟩:=DataW.trod_string hu h
     obtain⟨l,rfl⟩:∃ l:List UInt8,s=⟨l.toArray⟩:=⟨s.data.toList,by cases s;simp⟩
     exact⟨.str l,⟨l,rfl,by simpa[ByteArray.size] using hw⟩,.cons _ _ _ _ (.str l) .nil,by simp[One,Value.oneCell'],rfl⟩
    | slice e =>
     cases d<;>simp[isD,hu] at hD
     rename_i et
     obtain⟨⟨h1,h2⟩,h3⟩:=hD
     rcases DataW.trod_slice hu h with ⟨rfl,_⟩ | ⟨a,len,cap,elems,rest,n,hn,rfl,_,_,hl,hm,hlen,hel,_⟩
     ·exact⟨.nilS,.inl rfl,.cons _ _ _ _ .nilS .nil,by simp[One,Value.oneCell'],rfl⟩
     ·cases hn
      refine list_rep hI hl hm h3 fun i hi=>?_
      have:=hel i hi
      rw[List.getElem?_eq_getElem (by omega),Option.bind_eq_some_iff,h2] at this
      obtain⟨cs,hcs,hx⟩:=this
      exact⟨cs,hcs,ih m e et cs _ h1 hx⟩
    | struct ds =>
     cases d<;>simp[isD,hu] at hD
     rename_i fields
     obtain⟨h1,h2⟩:=hD
     obtain⟨xs,n,hn,_,hl,hlen,hf⟩:=DataW.trod_struct hu h
     cases hn
     obtain⟨vs,k1,k2,k3,k4⟩:=struct_rep ih m ds fields.toList 0 cs xs h2 (by simpa using hlen) (by rw[hl,h1];omega) (fun i f hi=>hf i f (by simpa using hi))
     rw[List.drop_zero] at k2 k3
     exact⟨.agg (cellsL vs),⟨vs,rfl,k1⟩,k2,k3,by simpa[PV.cells,DTy.cells] using k4⟩
variable {w':World} {sp':Nat→Bool}
theorem cell?_keep (hk:∀ b,b < w.heap.size→w'.heap[b]?=w.heap[b]?) {a:Addr} {v:Value} (h:w.cell? a=some v):a.block < w.heap.size∧w'.cell? a=some v:=by
 obtain⟨c,E,fr,hb,hs,hv⟩:=cell?_row h
 have hlt:a.block < w.heap.size:=(Array.getElem?_eq_some_iff.1 hb).1
 refine⟨hlt,?_⟩
 unfold World.cell?
 rw[hk _ hlt,hb]
 simp[hs,hv]
theorem qkx {α β:Type} {f g:α→Option β}:∀ (l:List α) {ys:List β},l.mapM f=some ys→(∀ x∈l,∀ y,f x=some y→g x=some y)→l.mapM g=some ys
 | [],ys,h,_=>by simpa using h
 | x :: l,ys,h,hg=>by
  rw[List.mapM_cons] at h ⊢
  simp only[Option.bind_eq_bind,Option.bind_eq_some_iff,Option.pure_def,Option.some.injEq] at h ⊢
  obtain⟨y,h1,ys',h2,rfl⟩:=h
  exact⟨y,hg x (by simp) y h1,ys',qkx l h2 (fun z hz=>hg z (by simp[hz])),rfl⟩
theorem cells?_keep (hk:∀ b,b < w.heap.size→w'.heap[b]?=w.heap[b]?) {a:Addr} {n:Nat} {l:List Value} (h:w.cells? 0 a n=some l):w'.cells? 0 a n=some l∧(0 < n→a.block < w.heap.size):=by
 refine⟨?_,fun hn=>?_⟩
 ·unfold World.cells? at h ⊢
  rw[if_pos (Nat.zero_le _)] at h ⊢
  exact qkx _ h fun i _ v hv=>(cell?_keep hk hv).2
 ·obtain⟨h1,h2⟩:=cells?_get h
  have:=h2 0 hn
  rw[List.getElem?_eq_getElem (by omega)] at this
  have:=(cell?_keep hk this).1
  rwa [block_add] at this
theorem Qll {n:Nat} (ih:∀ (m:Nat) (D:DTy) (t:TypeId) (cs:List Value) (x:DataW H×List MemPlace),isD P m D t=true→DataW.trod enc P w 0 (fun _=>true) held n t cs=some x→DataW.trod enc P w' 0 sp' held n t cs=some x) :
  ∀ (m:Nat) (ds:List DTy) (fs:List Field) (off:Nat),isFs P m off ds fs=true→∀ f∈fs,∀ cs x,DataW.trod enc P w 0 (fun _=>true) held n f.type cs=some x→DataW.trod enc P w' 0 sp' held n f.type cs=some x:=by
 intro m
 induction m with
 | zero=>intro ds fs off h;cases h
 | succ m ihm =>
  intro ds fs off h f hf cs x hx
  match ds,fs,h with
  | [],[],_=>cases hf
  | D :: ds,g :: fs,h =>
   simp only[isFs,Bool.and_eq_true,beq_iff_eq] at h
   rcases List.mem_cons.1 hf with rfl | hf
   ·exact ih m D _ cs x h.1.2 hx
   ·exact ihm ds fs _ h.2 f hf cs x hx
theorem trod_keep (hk:∀ b,b < w.heap.size→w'.heap[b]?=w.heap[b]?) (hsp:∀ b,b < w.heap.size→sp' b=true):∀ (fuel m:Nat) (D:DTy) (t:TypeId) (cs:List Value) (x:DataW H×List MemPlace),isD P m D t=true →
  DataW.trod enc P w 0 (fun _=>true) held fuel t cs=some x→DataW.trod enc P w' 0 sp' held fuel t cs=some x:=by
 intro fuel
 induction fuel with
 | zero=>intro m D t cs x _ h;simp[DataW.trod] at h
 | succ fuel ih =>
  intro m D t cs x hD h
  cases m with
  | zero=>cases hD
  | succ m =>
   cases hu:P.underlying t with
   | none=>cases D<;>simp[isD,hu] at hD
   | some d =>
    cases D with
    | bool =>
     cases d<;>simp[isD,hu] at hD
     obtain⟨b,rfl,rfl⟩:=DataW.trod_bool hu h
     simp[DataW.trod,hu]
    | int k =>
     cases d<;>simp[isD,hu] at hD
     subst hD
     obtain⟨n,rfl,rfl,hw⟩:=DataW.trod_int hu h
     simp[DataW.trod,hu,hw]
    | str =>
     cases d<;>simp[isD,hu] at hD
     obtain⟨s,rfl,rfl,hw⟩:=DataW.trod_string hu h
     simp[DataW.trod,hu,hw]
    | slice e =>
     cases d<;>simp[isD,hu] at hD
     rename_i et
     obtain⟨⟨h1,h2⟩,h3⟩:=hD
     rcases DataW.trod_slice hu h with ⟨rfl,rfl⟩ | ⟨a,len,cap,elems,rest,n,hn,rfl,_,_,hl,hm,hlen,_,_⟩
     ·simp[DataW.trod,hu]
     ·unfold DataW.trod at h ⊢
      simp only[hu] at h ⊢
      rw[if_pos ⟨Nat.zero_le _,hl,hm⟩] at h ⊢
      have el:∀ i y,(w.cells? 0 (a.add (i*P.cellsOf et)) (P.cellsOf et)).bind (DataW.trod enc P w 0 (fun _=>true) held fuel et)=some y→(w'.cells? 0 (a.add (i*P.cellsOf et)) (P.cellsOf et)).bind (DataW.trod enc P w' 0 sp' held fuel et)=some y∧a.block < w.heap.size:=by
       intro i y hy
       obtain⟨cs,hcs,hx⟩:=Option.bind_eq_some_iff.1 hy
       obtain⟨k1,k2⟩:=cells?_keep hk hcs
       refine⟨Option.bind_eq_some_iff.2 ⟨cs,k1,ih m e et cs y h1 hx⟩,?_⟩
       have:=k2 (by omega)
       rwa [block_add] at this
      obtain⟨es,he,h⟩:=Option.bind_eq_some_iff.1 h
      refine Option.bind_eq_some_iff.2 ⟨es,qkx _ he fun i _ y hy=>(el i y hy).1,?_⟩
      obtain⟨rs,hr,rfl⟩:=Option.map_eq_some_iff.1 h
      refine Option.map_eq_some_iff.2 ⟨rs,?_,rfl⟩
      simp only[if_true] at hr
      cases hc:cap - len with
      | zero =>
       rw[hc] at hr
       simp at hr
       subst hr
       split<;>simp
      | succ q =>
       have hlt:a.block < w.heap.size:=by
        rw[hc,List.range_succ_eq_map,List.mapM_cons] at hr
        simp only[Option.bind_eq_bind,Option.bind_eq_some_iff] at hr
        obtain⟨y,hy,_⟩:=hr
        exact (el _ y (Option.bind_eq_some_iff.2 hy)).2
       rw[if_pos (hsp _ hlt),←hc]
       exact qkx _ hr fun i _ y hy=>(el _ y hy).1
    | struct ds =>
     cases d<;>simp[isD,hu] at hD
     rename_i fields
     obtain⟨h1,h2⟩:=hD
     have key:=Qll ih m ds fields.toList 0 h2
     unfold DataW.trod at h ⊢
     simp only[hu] at h ⊢
     split at h
     ·rename_i hlc
      rw[if_pos hlc]
      obtain⟨xs,hx,rfl⟩:=Option.map_eq_some_iff.1 h
      exact Option.map_eq_some_iff.2 ⟨xs,qkx _ hx fun f hf y hy=>key f hf _ y hy,rfl⟩
     ·cases h
def isDs (P:Program) (m:Nat):List DTy→List TypeId→Bool
 | [],[]=>true
 | D :: Ds,t :: ts=>isD P m D t&&isDs P m Ds ts
 | _,_=>false
theorem val_rep (hI:∀ b,b < w.heap.size→I b) {m:Nat} {D:DTy} {t:TypeId} {v:Value} {d:DataW H} {ps:List MemPlace} {base:Nat} (hD:isD P m D t=true) (hv:Value.okWide P w .any base t v) (h:DataW.Trod enc P w 0 (fun _=>true) held t v d ps) :
  ∃ u:PV,HasV D u∧qbx w I lp none u v:=by
 obtain⟨fuel,h⟩:=h
 obtain⟨u,h1,h2,h3,h4⟩:=Qka (lp:=lp) hI fuel m D t _ _ hD h
 cases m with
 | zero=>cases hD
 | succ m =>
  cases hu:P.underlying t with
  | none=>cases D<;>simp[isD,hu] at hD
  | some dd =>
   have one:(∀ x,v.cells.toList=[x]→v=x)→(∀ x:PV,u.cells=[x]→u=x)→(∃ x,u.cells=[x])→∃ u:PV,HasV D u∧qbx w I lp none u v:=by
    intro ho hp ⟨x,hx⟩
    have hux:=hp x hx
    rw[hx] at h2
    obtain⟨y,hy,hr⟩:=repL1' h2
    rw[ho y hy]
    exact⟨u,h1,by rw[hux];exact hr⟩
   have sc:(∀ vs,v≠.agg vs)→∀ x,v.cells.toList=[x]→v=x:=by
    intro hn x hx
    cases v<;>first | (simp[Value.cells] at hx;exact hx) | exact absurd rfl (hn _)
   cases D with
   | struct ds =>
    cases dd<;>simp[isD,hu] at hD
    obtain⟨cs,rfl,_⟩:=okWide_struct hu hv
    obtain⟨vs,rfl,hvs⟩:=h1
    exact⟨_,⟨vs,rfl,hvs⟩,.agg _ _ h3 h2⟩
   | bool =>
    cases dd<;>simp[isD,hu] at hD
    obtain⟨b,rfl⟩:=h1
    exact one (sc fun vs e=>by subst e;simp[Value.okWide,hu,Cell.okWide,Cell.ok] at hv) (fun x hx=>by simpa[PV.cells] using hx) ⟨_,rfl⟩
   | int k =>
    cases dd<;>simp[isD,hu] at hD
    obtain⟨b,rfl,_⟩:=h1
    exact one (sc fun vs e=>by subst e;simp[Value.okWide,hu,Cell.okWide,Cell.ok] at hv) (fun x hx=>by simpa[PV.cells] using hx) ⟨_,rfl⟩
   | str =>
    cases dd<;>simp[isD,hu] at hD
    obtain⟨b,rfl,_⟩:=h1
    exact one (sc fun vs e=>by subst e;simp[Value.okWide,hu,Cell.okWide,Cell.ok] at hv) (fun x hx=>by simpa[PV.cells] using hx) ⟨_,rfl⟩
   | slice e =>
    cases dd<;>simp[isD,hu] at hD
    have hs:=sc fun vs e=>by subst e;simp[Value.okWide,hu,Cell.okWide,Cell.ok] at hv
    rcases h1 with rfl | ⟨xs,rfl,_,_⟩
    ·exact one hs (fun x hx=>by simpa[PV.cells] using hx) ⟨_,rfl⟩
    ·exact one hs (fun x hx=>by simpa[PV.cells] using hx) ⟨_,rfl⟩
theorem Qpg (hI:∀ b,b < w.heap.size→I b) {m base:Nat}:∀ (Ds:List DTy) (ts:List TypeId) (vs:List Value) (ds:List (DataW H)) (p:List MemPlace),isDs P m Ds ts=true →
  (∀ (j:Nat) t v,ts[j]?=some t→vs[j]?=some v→Value.okWide P w .any base t v)→DataW.TrodAll enc P w 0 (fun _=>true) held ts vs ds p→∃ us:List PV,HasVs Ds us∧qbv w I lp none us vs
 | [],[],vs,ds,p,_,_,h=>by
  obtain⟨rfl,rfl,rfl⟩:=trodAll_nil h
  exact⟨[],rfl,.nil⟩
 | D :: Ds,t :: ts,vs,ds,p,hD,hv,h=>by
  obtain⟨v,vs,d,ds,p,q,rfl,rfl,rfl,h1,h2⟩:=trodAll_cons h
  simp only[isDs,Bool.and_eq_true] at hD
  obtain⟨u,a,b⟩:=val_rep (lp:=lp) hI hD.1 (hv 0 t v rfl rfl) h1
  obtain⟨us,a',b'⟩:=Qpg hI Ds ts vs ds q hD.2 (fun j t v ht hj=>hv (j+1) t v (by simpa using ht) (by simpa using hj)) h2
  exact⟨u :: us,⟨u,us,rfl,a,a'⟩,.cons _ _ _ _ b b'⟩
 | [],_ :: _,_,_,_,hD,_,_=>by cases hD
 | _ :: _,[],_,_,_,hD,_,_=>by cases hD
theorem Qjq (hk:∀ b,b < w.heap.size→w'.heap[b]?=w.heap[b]?) (hsp:∀ b,b < w.heap.size→sp' b=true) {m:Nat}:∀ (Ds:List DTy) (ts:List TypeId) (vs:List Value) (ds:List (DataW H)) (p:List MemPlace),isDs P m Ds ts=true →
  DataW.TrodAll enc P w 0 (fun _=>true) held ts vs ds p→DataW.TrodAll enc P w' 0 sp' held ts vs ds p
 | [],[],vs,ds,p,_,h=>by
  obtain⟨rfl,rfl,rfl⟩:=trodAll_nil h
  exact rfl
 | D :: Ds,t :: ts,vs,ds,p,hD,h=>by
  obtain⟨v,vs,d,ds,p,q,rfl,rfl,rfl,⟨fuel,h1⟩,h2⟩:=trodAll_cons h
  simp only[isDs,Bool.and_eq_true] at hD
  exact⟨p,q,⟨fuel,trod_keep hk hsp fuel m D t _ _ hD.1 h1⟩,Qjq hk hsp Ds ts vs ds q hD.2 h2,rfl⟩
 | [],_ :: _,_,_,_,hD,_=>by cases hD
 | _ :: _,[],_,_,_,hD,_=>by cases hD
end
end Go.Ab


namespace Go.Ab.Derive2
open Go Go.Ab Go.Proofs
theorem sp_loc:Qfa sp0:=fun g=>sp_here g
theorem tab_ok:Ql5 cx0 qjd (deadH Qhh Tryz.prog):=by
 intro f fn h
 unfold qjd at h
 split at h
 ·cases h;exact qbd (by kernel_rfl)
 ·cases h;exact qbd (by kernel_rfl)
 ·cases h;exact qbd (by kernel_rfl)
 ·cases h;exact qbd (by kernel_rfl)
 ·cases h;exact qbd (by kernel_rfl)
 ·cases h;exact qbd (by kernel_rfl)
 ·cases h;exact qbd (by kernel_rfl)
 ·cases h;exact qbd (by kernel_rfl)
 ·cases h;exact qbd (by kernel_rfl)
 ·cases h;exact qbd (by kernel_rfl)
 ·cases h;exact qbd (by kernel_rfl)
 ·cases h;exact qbd (by kernel_rfl)
 ·cases h;exact qbd (by kernel_rfl)
 ·cases h;exact qbd (by kernel_rfl)
 ·cases h;exact qbd (by kernel_rfl)
 ·cases h;exact qbd (by kernel_rfl)
 ·cases h;exact qbd (by kernel_rfl)
 ·cases h;exact qbd (by kernel_rfl)
 ·cases h;exact qbd (by kernel_rfl)
 ·cases h;exact qbd (by kernel_rfl)
 ·cases h;exact qbd (by kernel_rfl)
 ·cases h;exact qbd (by kernel_rfl)
 ·cases h;exact qbd (by kernel_rfl)
 ·cases h;exact qbd (by kernel_rfl)
 ·cases h;exact qbd (by kernel_rfl)
 ·cases h;exact qbd (by kernel_rfl)
 ·cases h;exact qbd (by kernel_rfl)
 ·cases h;exact qbd (by kernel_rfl)
 ·cases h;exact qbd (by kernel_rfl)
 ·cases h;exact qbd (by kernel_rfl)
 ·cases h;exact qbd (by kernel_rfl)
 ·cases h;exact qbd (by kernel_rfl)
 ·cases h;exact qbd (by kernel_rfl)
 ·cases h;exact qbd (by kernel_rfl)
 ·cases h;exact qbd (by kernel_rfl)
 ·cases h;exact qbd (by kernel_rfl)
 ·cases h;exact qbd (by kernel_rfl)
 ·cases h;exact qbd (by kernel_rfl)
 ·cases h;exact qbd (by kernel_rfl)
 ·cases h;exact qbd (by kernel_rfl)
 ·cases h;exact qbd (by kernel_rfl)
 ·cases h;exact qbd (by kernel_rfl)
 ·cases h;exact qbd (by kernel_rfl)
 ·cases h;exact qbd (by kernel_rfl)
 ·cases h;exact qbd (by kernel_rfl)
 ·cases h;exact qbd (by kernel_rfl)
 ·cases h;exact qbd (by kernel_rfl)
 ·cases h;exact qbd (by kernel_rfl)
 ·cases h;exact qbd (by kernel_rfl)
 ·cases h;exact qbd (by kernel_rfl)
 ·cases h;exact qbd (by kernel_rfl)
 ·cases h;exact qbd (by kernel_rfl)
 ·cases h;exact qbd (by kernel_rfl)
 ·cases h;exact qbd (by kernel_rfl)
 ·cases h;exact qbd (by kernel_rfl)
 ·cases h;exact qbd (by kernel_rfl)
 ·cases h;exact qbd (by kernel_rfl)
 ·cases h;exact qbd (by kernel_rfl)
 ·cases h;exact qbd (by kernel_rfl)
 ·cases h;exact qbd (by kernel_rfl)
 ·cases h;exact qbd (by kernel_rfl)
 ·cases h;exact qbd (by kernel_rfl)
 ·cases h;exact qbd (by kernel_rfl)
 ·cases h;exact qbd (by kernel_rfl)
 ·cases h;exact qbd (by kernel_rfl)
 ·cases h;exact qbd (by kernel_rfl)
 ·cases h;exact qbd (by kernel_rfl)
 ·cases h;exact qbd (by kernel_rfl)
 ·cases h;exact qbd (by kernel_rfl)
 ·cases h;exact qbd (by kernel_rfl)
 ·cases h;exact qbd (by kernel_rfl)
 ·cases h;exact qbd (by kernel_rfl)
 ·cases h;exact qbd (by kernel_rfl)
 ·cases h;exact qbd (by kernel_rfl)
 ·cases h;exact qbd (by kernel_rfl)
 ·cases h;exact qbd (by kernel_rfl)
 ·cases h;exact qbd (by kernel_rfl)
 ·cases h;exact qbd (by kernel_rfl)
 ·cases h;exact qbd (by kernel_rfl)
 ·cases h;exact qbd (by kernel_rfl)
 ·cases h;exact qbd (by kernel_rfl)
 ·cases h;exact qbd (by kernel_rfl)
 ·cases h;exact qbd (by kernel_rfl)
 ·cases h;exact qbd (by kernel_rfl)
 ·cases h;exact qbd (by kernel_rfl)
 ·cases h;exact qbd (by kernel_rfl)
 ·cases h;exact qbd (by kernel_rfl)
 ·cases h;exact qbd (by kernel_rfl)
 ·cases h;exact qbd (by kernel_rfl)
 ·cases h;exact qbd (by kernel_rfl)
 ·cases h;exact qbd (by kernel_rfl)
 ·cases h;exact qbd (by kernel_rfl)
 ·cases h;exact qbd (by kernel_rfl)
 ·cases h;exact qbd (by kernel_rfl)
 ·cases h;exact qbd (by kernel_rfl)
 ·cases h;exact qbd (by kernel_rfl)
 ·cases h;exact qbd (by kernel_rfl)
 ·cases h;exact qbd (by kernel_rfl)
 ·cases h;exact qbd (by kernel_rfl)
 ·cases h;exact qbd (by kernel_rfl)
 ·cases h;exact qbd (by kernel_rfl)
 ·cases h;exact qbd (by kernel_rfl)
 ·cases h;exact qbd (by kernel_rfl)
 ·cases h;exact qbd (by kernel_rfl)
 ·cases h;exact qbd (by kernel_rfl)
 ·cases h;exact qbd (by kernel_rfl)
 ·cases h;exact qbd (by kernel_rfl)
 ·cases h;exact qbd (by kernel_rfl)
 ·cases h;exact qbd (by kernel_rfl)
 ·cases h;exact qbd (by kernel_rfl)
 ·cases h;exact qbd (by kernel_rfl)
 ·cases h;exact qbd (by kernel_rfl)
 ·cases h;exact qbd (by kernel_rfl)
 ·cases h;exact qbd (by kernel_rfl)
 ·cases h;exact qbd (by kernel_rfl)
 ·cases h;exact qbd (by kernel_rfl)
 ·cases h;exact qbd (by kernel_rfl)
 ·cases h;exact qbd (by kernel_rfl)
 ·cases h;exact qbd (by kernel_rfl)
 ·cases h;exact qbd (by kernel_rfl)
 ·cases h;exact qbd (by kernel_rfl)
 ·cases h;exact qbd (by kernel_rfl)
 ·cases h;exact qbd (by kernel_rfl)
 ·cases h;exact qbd (by kernel_rfl)
 ·cases h;exact qbd (by kernel_rfl)
 ·cases h;exact qbd (by kernel_rfl)
 ·cases h;exact qbd (by kernel_rfl)
 ·cases h;exact qbd (by kernel_rfl)
 ·cases h;exact qbd (by kernel_rfl)
 ·cases h;exact qbd (by kernel_rfl)
 ·cases h;exact qbd (by kernel_rfl)
 ·cases h;exact qbd (by kernel_rfl)
 ·cases h
theorem law_done {g:FuncId} {fn:RFn} (ht:qjd g=some fn) {args:List PV} (ha:qb3 args=true) (hl:args.length≤fn.nt)
  (hr:qf8 (qfj B0 fun _=>.cl) fn .cl qbc 0 (args.map KV.cv) ()=some (.bool true,())) {I:Nat→Prop} {w:World} {vs:List Value}
  (hI:∀ b,I b→b < w.heap.size) (hw:cx0.Wd I w) (hrep:qbv w I (fun _=>none) none args vs) :
  Calls cx0.P g vs.toArray w fun e w'=>e=.returned (.bool true)∧qzn w w':=by
 obtain⟨n,hn⟩:=law_of_run (qhu fun _=>.cl) ht ha hl hr
 exact law_calls (fn_ok sp_ok sp_loc tab_ok n) hn hI hw hrep
def Told (fn:RFn) (Ds:List DTy):Prop:=∀ us,HasVs Ds us→qb3 us=true∧us.length≤fn.nt∧qf8 (qfj B0 fun _=>.cl) fn .cl qbc 0 (us.map KV.cv) ()=some (.bool true,())
end Go.Ab.Derive2


namespace Go.Ab.Derive2
open Go Go.Ab
def arrD:DTy:=.struct [.bool,.bool,.slice (.int .i64)]
theorem ints_of:∀ (xs:List PV),(∀ x∈xs,HasV (.int .i64) x)→∃ l,xs=qcy l
 | [],_=>⟨[],rfl⟩
 | x :: xs,h=>by
  obtain⟨n,rfl,_⟩:=h x List.mem_cons_self
  obtain⟨l,rfl⟩:=ints_of xs fun y hy=>h y (List.mem_cons_of_mem _ hy)
  exact⟨n :: l,rfl⟩
theorem arr_of {v:PV} (h:HasV arrD v):∃ a,IsA v a:=by
 obtain⟨vs,rfl,b,r,rfl,⟨b,rfl⟩,c,r,rfl,⟨c,rfl⟩,x,r,rfl,hx,rfl⟩:=h
 have key:∃ l,IsL x l∧x.cells=[x]:=by
  rcases hx with rfl | ⟨xs,rfl,_,hx⟩
  ·exact⟨[],.nil,rfl⟩
  ·obtain⟨l,rfl⟩:=ints_of xs hx
   exact⟨l,.sl l false,rfl⟩
 obtain⟨l,h1,h2⟩:=key
 refine⟨⟨b,c,l⟩,?_⟩
 rw[show cellsL [PV.bool b,PV.bool c,x]=[.bool b,.bool c,x] by simp only[cellsL,h2];rfl]
 exact .mk _ _ _ _ h1
theorem told_sums:Told fn5 [arrD,arrD]:=by
 rintro us ⟨_,_,rfl,ha,_,_,rfl,hb,rfl⟩
 obtain⟨a,ha⟩:=arr_of ha
 obtain⟨b,hb⟩:=arr_of hb
 exact⟨by simp[qb3,ha.ok,hb.ok],Nat.le_of_ble_eq_true rfl,law_sums ha hb⟩
end Go.Ab.Derive2


namespace Go.Ab.Derive2
open Go Go.Ab Go.Proofs Go.Proofs.YtbeonejdegijfaaGreatDoor Go.ChangeShapes Go.WideShapes Go.RowKit
theorem p_own:ownKnob Tryz.prog.godebug=none:=by kernel_rfl
theorem p_et:Tryz.prog.globalNamed "errors.errorType"=some 0:=by kernel_rfl
theorem p_p:Tryz.prog.globalNamed "internal/strconv.uint64pow10"=some 6:=by kernel_rfl
theorem p_pt:(Tryz.prog.globals[6]?).map (·.type)=some 245:=by kernel_rfl
theorem p_rt:(Tryz.prog.cutTypes.find? (·.1 == "internal/reflectlite.rtype")).map (·.2)=some 200:=by kernel_rfl
theorem p_oneRow:((List.range 296).filter fun t=>Tryz.prog.rowNamed t [101,114,114,111,114])=[63]:=by kernel_rfl
theorem p_size:Tryz.prog.types.size=296:=by kernel_rfl
theorem p_cS:Tryz.prog.cellsOf 284=1:=by kernel_rfl
theorem p_cs:Tryz.prog.cellsOf 9=1:=by kernel_rfl
theorem p_star : "*" ++ "errors.errorString" = "*errors.errorString":=by decide
theorem p_row (u:TypeId) (h:Tryz.prog.typeName? 3 u=some "*errors.errorString"):u=265 :=
 typeName_ptr_named (nm := "errors.errorString") (by rw[p_star];kernel_rfl) (by kernel_rfl) (by decide) u (by rw[p_star];exact h)
theorem qtb {W:World} {n:String} {g:Nat} {cs:Array Value} (hg:Tryz.prog.globalNamed n=some g) (h:W.var? Tryz.prog n=some cs):∃ E fr,W.heap[g]?=some (.cells cs E fr):=by
 unfold World.var? at h
 rw[hg] at h
 simp only[Option.bind_some] at h
 split at h
 ·rename_i cs' E fr hh
  cases h
  exact⟨E,fr,hh⟩
 ·cases h
theorem qyg {W:World} {b:Nat} {o:Obj} (h:W.heap[b]?=some o):b < W.heap.size:=(Array.getElem?_eq_some_iff.1 h).1
theorem p_e0:Tryz.prog.globalNamed "diaeresis/number.errOver"=some 1:=by kernel_rfl
theorem p_t0:(Tryz.prog.globals[1]?).map (·.type)=some 63:=by kernel_rfl
theorem p_e1:Tryz.prog.globalNamed "diaeresis/number.errDivide"=some 2:=by kernel_rfl
theorem p_t1:(Tryz.prog.globals[2]?).map (·.type)=some 63:=by kernel_rfl
set_option maxRecDepth 100000 in
theorem wd_of_laid {W:World} (hsh:W.ShapedOpen Tryz.prog) (h:laidMetH Tryz.prog Rows.deriveGreatestRow.laid W):cx0.Wd (fun b=>b < W.heap.size) W:=by
 have h':handlesMet Tryz.prog [("errors.errorType",Rows.laid_errors_errorType)] W:=h.2
 have hd:laidMet Tryz.prog [("math/bits.deBruijn32tab",Rows.laid_math_bits_deBruijn32tab),("math/bits.deBruijn64tab",Rows.laid_math_bits_deBruijn64tab),("internal/strconv.uint64pow10",Rows.laid_internal_strconv_uint64pow10),("unicode/utf8.acceptRanges",Rows.laid_unicode_utf8_acceptRanges),("diaeresis/number.errOver",Rows.laid_diaeresis_number_errOver),("diaeresis/number.errDivide",Rows.laid_diaeresis_number_errDivide),("unicode/utf8.first",Rows.laid_unicode_utf8_first)] W:=h.1
 have hs:=hd.filter fun x=>x.1 == "diaeresis/number.errOver"||x.1 == "diaeresis/number.errDivide"
 have hp:=hd.filter fun x=>x.1 == "internal/strconv.uint64pow10"
 have hs:laidMet Tryz.prog [("diaeresis/number.errOver",Rows.laid_diaeresis_number_errOver),("diaeresis/number.errDivide",Rows.laid_diaeresis_number_errDivide)] W:=hs
 have hp:laidMet Tryz.prog [("internal/strconv.uint64pow10",Lib.tabData .u64 Lib.pow10Tab)] W:=hp
 obtain⟨name,u,ty,e1,e2,e3,e4,e5⟩:=h' _ (List.mem_singleton.2 rfl)
 have en:name=[101,114,114,111,114]:=(Option.some.inj e1).symm
 subst en
 obtain rfl:=Option.some.inj (p_rt.symm.trans e2)
 have hm:ty∈(List.range 296).filter fun t=>Tryz.prog.rowNamed t [101,114,114,111,114]:=List.mem_filter.2 ⟨List.mem_range.2 (by rw[←p_size];exact e3),e4⟩
 rw[p_oneRow] at hm
 obtain rfl:=List.mem_singleton.1 hm
 have hh:typeHandle Tryz.prog 63=.pointer (some ⟨9,63,none⟩):=by kernel_rfl
 rw[hh] at e5
 have h0:W.cell? ⟨0,0,none⟩=some et0:=by simpa[et0] using World.var?_cell p_et e5 0
 have i0:0 < W.heap.size:=by
  rcases Nat.lt_or_ge 0 W.heap.size with h | h
  ·exact h
  ·simp[World.cell?,Array.getElem?_eq_none h] at h0
 have hpw:Lib.TabIs Tryz.prog W "internal/strconv.uint64pow10" .u64 Lib.pow10Tab:=Lib.tabIs_of_head p_p p_pt Tryz.underlying245 Tryz.underlying190 (by kernel_rfl) (by kernel_rfl) hp
 obtain⟨E3,f3,r3⟩:=qtb p_p hpw
 obtain⟨a0,a1,s0,s1,c0,c1,t0,t1,hv0,hv1,hc0,hs0,hz0,hc1,hs1,hz1,hne,hb0,hb1⟩:=laid_sentinels2 hs p_e0 p_t0 p_e1 p_t1 Tryz.underlying63 p_row Tryz.underlying265 Tryz.underlying284 rfl rfl Tryz.underlying9 p_cS p_cs
 obtain⟨E1,f1,r1⟩:=qtb p_e0 hv0
 obtain⟨E2,f2,r2⟩:=qtb p_e1 hv1
 have hml:∃ m,W.cell? ⟨3,0,none⟩=some (.int .i64 m):=cell_of_shapedOpen_int hsh (g:=3) (t:=3) (zero:=#[.int .i64 0]) (of_decide_eq_true (by kernel_rfl)) (by kernel_rfl) rfl (by kernel_rfl) (by kernel_rfl) Tryz.underlying3
 exact⟨⟨fun g=>if g=1 then a0 else a1,fun g hg=>by
   rcases List.mem_cons.1 hg with rfl | hg
   ·exact⟨qyg r1,qyg hb0,⟨E1,f1,r1⟩,c0,t0,hb0⟩
   ·obtain rfl:=List.mem_singleton.1 hg
    exact⟨qyg r2,qyg hb1,⟨E2,f2,r2⟩,c1,t1,hb1⟩,fun g hg g' hg' hn=>by
   simp only[List.mem_cons,List.not_mem_nil,or_false] at hg hg'
   rcases hg with rfl | rfl<;>rcases hg' with rfl | rfl
   ·exact absurd rfl hn
   ·exact hne
   ·exact hne.symm
   ·exact absurd rfl hn⟩,fun p hp=>(by
  obtain rfl:=List.mem_singleton.1 hp
  exact⟨i0,h0⟩),fun p hp=>by
  obtain rfl:=List.mem_singleton.1 hp
  exact⟨qyg r3,E3,f3,r3⟩,fun g hg=>by
  obtain rfl:=List.mem_singleton.1 hg
  refine⟨?_,hml⟩
  obtain⟨m,hm⟩:=hml
  rcases Nat.lt_or_ge 3 W.heap.size with h | h
  ·exact h
  ·simp[World.cell?,Array.getElem?_eq_none h] at hm⟩
theorem qt7 {H:Type} {enc:TypeId×Value→H} {C:Checked} {os:Os} {f:FuncId} {fn:Func} {s:ChangeSpec} {conds:List PathCond} {apart fresh handsOn again:Bool} {X:World→Array Value→Prop}
  (hX:∀ (w w':World) (args:Array Value),w.heap=w'.heap→X w args→X w' args)
  (own:ownKnob C.prog.godebug=none) (started:os.Started) (noInit:C.prog.inits.idxOf? f=none) (hfn:C.prog.funcs[f]?=some fn)
  (witness:∃ (w:World) (tape:Tape) (i:Input),w.os=os∧(w.forCall tape i).Shaped C.prog∧i.vars=[]∧Input.okWide C.prog (w.forCall tape i) .any w.heap.size f i ∧
   ((s.pre enc C.prog fn conds apart (w.forCall tape i).memory i.args∧X (w.forCall tape i).memory i.args)∧sizedMet enc C.prog fn (OpenSpec.ofChange s) apart (w.forCall tape i).memory i.args)∧({}:Assume).holds C.prog (lone (Frame.enter C.prog f i.args .normal) [] (w.forCall tape i)))
  (contract:∀ (W:World) (base:Nat) (args:Array Value) (ds gs:List (DataW H)) (before:List MemPlace),
   (∀ (j:Nat) t v,fn.params[j]?=some t→args[j]?=some v→Value.okWide C.prog W .any base t v) →
   DataW.Whole enc C.prog fn.params.toList s.vars apart W args.toList ds gs before→X W args→W.ShapedOpen C.prog →
   Calls C.prog f args W fun e W'=>∃ v,e=.returned v∧s.post enc C.prog fn apart fresh handsOn again W args v W') :
  ReturnsInHanded {} C os f .any (fun w args=>(s.pre enc C.prog fn conds apart w args∧X w args)∧sizedMet enc C.prog fn (OpenSpec.ofChange s) apart w args) (s.post enc C.prog fn apart fresh handsOn again):=by
 refine returnsInHanded_of_calls own started noInit witness ?_
 intro w tape i _ hsh _ hok hpre _
 obtain⟨_,_,_,fn',hfn',_,_,_,_,hval⟩:=hok
 have e:fn'=fn:=Option.some.inj (hfn'.symm.trans hfn)
 subst e
 obtain⟨⟨⟨ds,gs,before,hw,hc⟩,hx⟩,hz⟩:=hpre
 have hw':=DataW.Whole.of_heap (w':=w.forCall tape i) (by rfl) hw
 refine (contract (w.forCall tape i) w.heap.size i.args ds gs before hval hw' (hX _ _ _ (by rfl) hx) hsh).mono fun e W' ⟨v,he,hp⟩=>?_
 subst he
 exact ChangeSpec.post_blind hp
mutual
def Qmi:DataW Unit→List Value
 | .lit (.int k n)=>[.int k n]
 | .agg ds=>Qfl ds
 | _=>[]
def Qfl:List (DataW Unit)→List Value
 | []=>[]
 | d :: ds=>Qmi d++Qfl ds
end
def textOf:DataW Unit→ByteArray
 | .iface _ (.ptr (.agg [.lit (.string s)]))=>⟨s.toArray⟩
 | _=>⟨#[]⟩
def Qf1 (h:Array Obj) (i:Nat) (d:DataW Unit):Array Obj:=h.modify i fun
 | .cells _ t frozen=>.cells (Qmi d).toArray t frozen
 | o=>o
def Qki (h:Array Obj) (i:Nat) (v:Value):Array Obj:=h.modify i fun
 | .cells _ t frozen=>.cells #[v] t frozen
 | o=>o
noncomputable def low:Nat:=(World.holding Tryz.prog default ⟨#[],#[],[]⟩).heap.size
noncomputable def Qgs (os:Os):World :=
 let w0:=World.holding Tryz.prog os ⟨#[.cells #[.string (textOf Rows.laid_diaeresis_number_errOver)] 284,.cells #[.string (textOf Rows.laid_diaeresis_number_errDivide)] 284],#[],[]⟩
 let h0:=Qki w0.heap 0 (.iface 200 (.agg #[.pointer (some ⟨9,63,none⟩)]))
 let h1:=Qki (Qki (h0) 1 (.iface 265 (.pointer (some ⟨low+0,0,none⟩)))) 2 (.iface 265 (.pointer (some ⟨low+1,0,none⟩)))
 {w0 with heap:=Qf1 (Qf1 (Qf1 (Qf1 (Qf1 (h1) 7 Rows.laid_math_bits_deBruijn32tab) 8 Rows.laid_math_bits_deBruijn64tab) 6 Rows.laid_internal_strconv_uint64pow10) 5 Rows.laid_unicode_utf8_acceptRanges) 4 Rows.laid_unicode_utf8_first}
theorem Qdd (os:Os) (args:Array Value):laidMetH Tryz.prog Rows.deriveGreatestRow.laid ((Qgs os).forCall (fun _ _=>0) ⟨#[],args,[]⟩).memory :=
 laidMetH_of_parts (laidMet_of_run' 8 (by kernel_rfl) (by kernel_rfl)) (by kernel_rfl)
set_option maxRecDepth 100000
theorem qcf {a b:Bool} (ha:a=true) (hb:b=true):(a&&b)=true:=by rw[ha,hb];rfl
theorem jp_1:(laidOutB Tryz.prog)=true:=by kernel_rfl
theorem jp_2:(mapsRowed Tryz.prog)=true:=by kernel_rfl
theorem jp_6:((Tryz.prog.stops==[]))=true:=by kernel_rfl
theorem jp_8:((Tryz.prog.stopKnobs==[]))=true:=by kernel_rfl
theorem jp_24:(Tryz.prog.stopsHeard)=true:=by kernel_rfl
theorem jp_25:(Tryz.prog.mayEnter)=true:=by kernel_rfl
end Go.Ab.Derive2

