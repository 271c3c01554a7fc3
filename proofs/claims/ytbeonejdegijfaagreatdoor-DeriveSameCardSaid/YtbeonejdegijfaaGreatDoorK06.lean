/-
  Part 6 of a proof: a machine of our own for the given program, its laws, and what it says of the program. Nothing here is a claim by itself.
-/
import Derived.Test.YtbeonejdegijfaaGreatDoorK05
import Derived.Test.YtbeonejdegijfaaGreatDoorK03
import Derived.Test.YtbeonejdegijfaaGreatDoorK04
set_option linter.all false

namespace Go.Ab.Derive2
open Go Go.Ab
theorem one_run {v:PV} {a:Arr} (h:IsA v a) (n:Int):qbj B0 .cl (.fn 94 []) [v,I n]=some (qyv a.ru n):=by
 obtain⟨x,rfl,hx⟩:=h.get
 refine call (d:=fun _=>.cl) rfl (by decide) (by simp[qb1,h.ok]) rfl ?_
 rw[List.map_cons,List.map_cons,List.map_nil,run94,qvk hx,cT]
 rfl
theorem agg33 {a:Arr} {x:PV} (h:IsL x a.n):qbb (.build [.bool false,.bool false,.nilS] [(0,(3,.c (.agg [.bool a.li,.bool a.ru,x])))])=some (.agg [.bool a.li,.bool a.ru,x]):=by
 have:=Qbu (a:=.bool a.li) (b:=.bool a.ru) rfl rfl h.cell
 simp[qbb,exec,qh5,RX.ev,this,splice,chk,PV.cells]
theorem Qpa {a:Arr} {x:PV} (h:IsL x a.n):qbj B0 .cl (.fn 57 []) [.agg [.bool a.li,.bool a.ru,x]]=some (.fn 93 [.ptr [.bool a.li,.bool a.ru,x] 0]):=by
 refine call (d:=fun _=>.cl) rfl (by decide) (by simp[qb1,okV,h.ok]) rfl ?_
 rw[List.map_cons,List.map_nil,run57,qvk h,cT]
 have:okU (.fn 93 [.ptr [.bool a.li,.bool a.ru,x] 0])=true:=by simp[okU,okV,qb1,h.ok]
 show qbn (okU (.fn 93 [.ptr [.bool a.li,.bool a.ru,x] 0])) _=_
 rw[this];rfl
theorem qyw {E:Type} (h:qbf E) (dep:Nat) {a:Arr} {x:PV} (hx:IsL x a.n) (hl:a.n.length≤1000000) {e e':E} (hy:qc6 h dep (a.n.map fun n=>[qyv a.ru n]) e=some e') :
  qf0 B0 h dep (.fn 93 [.ptr [.bool a.li,.bool a.ru,x] 0]) e=some e':=by
 refine qlo (qd0 fun _=>.cl) (g:=93) (fn:=fn93) rfl (by simp[qb1,okV,hx.ok]) (Nat.le_of_ble_eq_true rfl) (u:=.tup []) ?_
 simp only[List.map_cons,List.map_nil]
 rw[run93,fa3_0,bV,fa3_2,bV,ld3_2,bV,hx.len,bV,show qci [nI dep,.ptr [.bool a.li,.bool a.ru,x] 0,x,I a.n.length,.int .i64 0]=true by simp only[qci,List.all_cons,hx.und];rfl,cT]
 have hA:IsA (.agg [.bool a.li,.bool a.ru,x]) a:=.mk _ _ _ _ hx
 have l3:qbb (.load 3 true (.c (.ptr [.bool a.li,.bool a.ru,x] 0)))=some (.agg [.bool a.li,.bool a.ru,x]):=rfl
 refine (qtv (h:=h) (d:=dep) (fun i=>[nI dep,.ptr [.bool a.li,.bool a.ru,x] 0,x,I a.n.length,I i]) (a.n.map fun n=>[qyv a.ru n]) (fun e=>(PV.tup [],e)) ?_ ?_ ?_ hy)
 ·intro i hi e e' hq
  rw[List.length_map] at hi
  rw[List.getElem_map] at hq
  simp only[qfb,qfa,qfj,qgk,qlj,qg1,bV,qbh]
  rw[if_pos (by simpa using hi),hx.idx hi]
  simp only[bV,Qcn,l3,one_run hA,qne,qdr,qse,Int.toNat_natCast,hq,qc1,Bool.not_true,qbh,Bool.false_eq_true,if_false,iD,Qbp,Qbc (by omega:i < 9223372036854775807)]
 ·intro i hi e e' hq
  rw[List.length_map] at hi
  rw[List.getElem_map] at hq
  simp only[qfb,qfa,qfj,qgk,qlj,qg1,bV,qbh]
  rw[if_pos (by simpa using hi),hx.idx hi]
  simp only[bV,Qcn,l3,one_run hA,qne,qdr,qse,Int.toNat_natCast,hq,qc1,Bool.not_false,qbh,if_true]
 ·intro e
  rw[List.length_map]
  simp only[qfb,qfa,qfj,qgk,qlj,qg1,bV,qbh,Int.lt_irrefl,decide_false,Bool.false_eq_true,if_false]
theorem slO_3 (vs:List PV):slO 3 3 vs 0 vs.length=.sl 3 vs false:=by
 unfold slO
 rw[if_pos ⟨rfl,by omega⟩,List.drop_zero,List.take_of_length_le (Nat.le_refl _)]
theorem slO_1 (l:List Int):slO 1 1 (qd3 l) 0 l.length=.sl 1 (qd3 l) false:=by
 unfold slO
 rw[if_pos ⟨rfl,by rw[qfo];omega⟩,List.drop_zero,List.take_of_length_le (by rw[qfo];exact Nat.le_refl _)]
theorem Qmr {f:PV} {l:List Arr} {vs:List PV} (hf:okV f=true) (hv:Qbr vs l) (hl:l.length≤1000000)
  (hr:∀ {E:Type} (h:qbf E) {e e':E},qc6 h 0 (vs.map fun v=>[v]) e=some e'→qf0 B0 h 0 f e=some e') :
  qbj B0 .cl (.fn 56 []) [f]=some (.sl 3 vs false):=by
 refine call (d:=fun _=>.cl) rfl (by decide) (by simp[qb1,hf]) rfl ?_
 rw[List.map_cons,List.map_nil,run56]
 have h1:qbj B0 .cl (.fn 92 []) [.nilS,f]=some (.sl 3 vs false):=by
  refine callK (d:=fun _=>.cl) (xs:=[.nils,.cv f]) rfl (by decide) ⟨trivial,hf,trivial⟩ (by intro x hx;simp at hx;rcases hx with rfl | rfl<;>rfl) rfl rfl ?_
  rw[run92]
  have hlen:=hv.len
  refine range_then (([.nilS,f,nI vs.length,.sl 3 vs false],(none,())):KRec Unit) (hr _ ?_) ?_
  ·refine (yield_run (fun i=>(([.nilS,f,nI i,.sl 3 (vs.take i) false],(none,())):KRec Unit)) _ fun i hi=>?_).trans ?_
   ·rw[List.length_map] at hi
    rw[List.getElem_map]
    obtain⟨v,h3,h4⟩:=hv.get i (by omega)
    rw[List.getElem?_eq_getElem hi] at h3
    obtain⟨x,hx,hx2⟩:=h4.get
    have hvi:vs[i]=.agg [.bool l[i].li,.bool l[i].ru,x]:=(Option.some.inj h3).trans hx
    simp only[qd6,if_true,qfb,qfa,qfj,qgk,hvi]
    rw[show qgx [PV.agg [.bool l[i].li,.bool l[i].ru,x]] 1=true by simp[qgx,qb1,okV,hx2.ok],cT,Qhf hx2,cT]
    simp only[qlw,qlv,qjl]
    rw[show qdf 3 [PV.agg [.bool l[i].li,.bool l[i].ru,x]]=true by simp[qdf,PV.isVal,PV.isCell,hx2.cell,PV.cells],cT]
    simp only[Qga,Qlu,Qcp,qne,qdr,Int.toNat_natCast,qk6,Qdr,Qf1,Qmu,qvi,List.length_singleton,List.drop_zero,List.take_succ_cons,List.take_zero,List.length_take,Nat.min_eq_left (Nat.le_of_lt hi)]
    rw[show decide (0+1≤1)=true from rfl,cT,show (decide (i≤i)&&decide (i+1≤2147483648))=true by simp;omega,cT,List.take_take,Nat.min_self,←hvi,List.take_append_getElem hi]
   ·rw[List.length_map,List.take_of_length_le (Nat.le_refl _)]
  ·simp only[qfj,qgk,qk6,qne,qdr,Int.toNat_natCast,slO_3]
   rw[show okU (.sl 3 vs false)=true by simp[okU,okV,hv.ok]]
   rfl
 rw[h1];rfl
def qqe (c:Int):PV:=if c=0 then .nilI else .iface 124 (.agg [I c])
theorem errD_ok (c:Int):okV (qqe c)=true:=by unfold qqe;split<;>rfl
theorem Qfz (c:Int):qbb (.bin .neq .iface true (.c (qqe c)) (.c .nilI))=some (.bool (decide (c≠0))):=by
 unfold qqe
 by_cases h:c=0<;>simp[h]<;>rfl
theorem qzu (c:Int):qbj B0 .cl (.fn 59 []) [qqe c]=some (I c):=by
 refine call (d:=fun _=>.cl) rfl (by decide) (by simp[qb1,errD_ok]) rfl ?_
 rw[List.map_cons,List.map_nil,run59]
 unfold qqe
 by_cases h:c=0
 ·subst h;rfl
 ·simp only[h,if_false];rfl
def hdA (l:List Arr):Arr:=l.headD qf2
def Qbm (li:Bool) (l:List Arr):Int :=
 if l.all Arr.right=false then 114 else if l.any Arr.li then 111 else if l.any (fun a=>a.ru != (hdA l).ru) then 102
 else if li=false∧l.length≠1 then 111 else if 200 < l.length then 113 else 0
def qqk (l:List Arr):List Int:=l.flatMap Arr.n
def gatA (li ru:Bool) (l:List Arr):Arr:=if Qbm li l=0 then ⟨li,if l.length=0 then ru else (hdA l).ru,qqk l⟩ else qf2
theorem Qdx {a:Arr} (h:a.right=true):a.n.length≤200:=by
 unfold Arr.right at h
 simp only[Bool.and_eq_true] at h
 cases hl:a.li with
 | true=>simpa[hl] using h.2
 | false=>simp[hl] at h;omega
theorem catA_len {l:List Arr} (h:∀ a∈l,a.right=true):(qqk l).length≤200*l.length:=by
 induction l with
 | nil=>simp[qqk]
 | cons a l ih =>
  have h1:=Qdx (h a List.mem_cons_self)
  have h2:=ih fun b hb=>h b (List.mem_cons_of_mem _ hb)
  simp only[qqk,List.flatMap_cons,List.length_append,List.length_cons] at h2 ⊢
  omega
theorem qxf {α:Type} {l:List α} {i:Nat} (h:i < l.length):l.take (i+1)=l.take i++[l[i]]:=(List.take_append_getElem h).symm
theorem Qkd {l:List Arr} {i:Nat} (h:i < l.length):qqk (l.take (i+1))=qqk (l.take i)++l[i].n:=by unfold qqk;rw[qxf h,List.flatMap_append];simp only[List.flatMap_cons,List.flatMap_nil,List.append_nil]
theorem qlx {p:Arr→Bool} {l:List Arr} {i:Nat} (h:i < l.length):(l.take (i+1)).any p=((l.take i).any p||p l[i]):=by rw[qxf h,List.any_append];simp only[List.any_cons,List.any_nil,Bool.or_false]
theorem hd_get {l:List Arr} (h:0 < l.length):hdA l=l[0]:=by
 cases l with
 | nil=>simp at h
 | cons a l=>rfl
theorem not_all {l:List Arr} {i:Nat} (h:i < l.length) (hr:l[i].right=false):l.all Arr.right=false:=by
 cases hq:l.all Arr.right with
 | false=>rfl
 | true=>rw[List.all_eq_true.1 hq _ (List.getElem_mem h)] at hr;cases hr
theorem gat_not {li ru:Bool} {l:List Arr} (h:l.all Arr.right=false):Qbm li l=114∧gatA li ru l=qf2:=by
 have e:Qbm li l=114:=by unfold Qbm;rw[if_pos h]
 exact⟨e,by unfold gatA;rw[e];rfl⟩
theorem gat_bad {li ru:Bool} {l:List Arr} (h:Qbm li l≠0):gatA li ru l=qf2:=by unfold gatA;rw[if_neg h]
theorem build_lr (b c:Bool):qbb (.build [.bool false,.bool false,.nilS] [(0,(1,.c (.bool b))),(1,(1,.c (.bool c)))])=some (.agg [.bool b,.bool c,.nilS]):=rfl
theorem okC_lr (b c:Bool):qbi (.agg [.bool b,.bool c,.nilS]) 3=true:=rfl
theorem Qki:qbb (.build [.bool false,.bool false,.nilS] [])=some (.agg [.bool false,.bool false,.nilS]):=rfl
theorem Qp6 (c:Int):qbb (.build [.int .i64 0] [(0,(1,.c (.int .i64 c)))])=some (.agg [I c]):=rfl
theorem qy4 {v u:PV} {is:Arr} {l:List Arr} (hv:IsA v is) (hu:IsB u l) (hl:l.length≤1000000) (hs:∀ a∈l,a.n.length≤1000000) :
  ∃ w,qgw B0 .cl false 58 [v,u]=some (.tup [w,qqe (Qbm is.li l)])∧IsA w (gatA is.li is.ru l):=by
 obtain⟨x,rfl,hx⟩:=hv.get
 suffices key:∃ r,qfy (qdo B0 (fun _=>.cl)) fn58 (.cl) qbc 0 [.cv (.agg [.bool is.li,.bool is.ru,x]),.cv u] ()=some r∧∃ w,r=(.tup [w,qqe (Qbm is.li l)],())∧IsA w (gatA is.li is.ru l) by
  obtain⟨r,h1,w,rfl,h2⟩:=key
  exact⟨w,qyi (qd0 fun _=>.cl) (fn:=fn58) rfl (by simp[qb1,okV,hv.ok,hu.ok,hx.ok]) (Nat.le_of_ble_eq_true rfl) h1 (by rw[show qhs qkj 58=true from rfl,Bool.not_true,Bool.and_false]),h2⟩
 rw[run58,qvk hx,cT]
 simp only[qh7,qco,qn1,qn0,bV,build_lr,okC_lr,cT,hu.len,qlw,qlv,qjl]
 unfold Qhj
 dsimp only
 rw[show qci [u,.bool false,.bool false,u,I l.length,.int .i64 0]=true by simp only[qci,List.all_cons,hu.und];rfl,cT]
 have hI:∀ i (hi:i < l.length),∃ y,qbb (.idxAddr 3 (.c u) (.c (I i)))=some (.ptr [.bool l[i].li,.bool l[i].ru,y] 0)∧IsL y l[i].n:=fun i hi=>hu.idx hi
 refine loop_inv (α:=Unit) (fun i _=>(([u,.bool ((l.take i).any Arr.li),.bool ((l.take i).any fun a=>a.ru != (hdA l).ru),u,I l.length,I i,.agg [.bool is.li,.bool is.ru,x],.bool false,.bool false,.nilS,.bool is.li,.bool (if i=0 then is.ru else (hdA l).ru),nI (qqk (l.take i)).length,.sl 1 (qd3 (qqk (l.take i))) false],()):List PV×Unit)) l.length (fun i _=>∀ a∈l.take i,a.right=true) _ ?_ ?_ (by simp) (a0:=())
 ·intro i _ hi hp
  obtain⟨y,h1,h2⟩:=hI i hi
  obtain⟨y0,h3,h4⟩:=hI 0 (by omega)
  have hR:=qkz (.mk _ _ _ _ h2:IsA (.agg [.bool l[i].li,.bool l[i].ru,y]) l[i]) (hs _ (List.getElem_mem hi))
  have hcl:=catA_len hp
  have hcl:(qqk (l.take i)).length≤200*i:=by simpa[Nat.min_eq_left (Nat.le_of_lt hi)] using hcl
  have e0:l[0].ru=(hdA l).ru:=by rw[hd_get (by omega)]
  simp only[qfb,qfa,qfj,qgk,qlj,qnd,qg1,bV,qbh]
  rw[if_pos (by simpa using hi),h1]
  rw[show qbb (.idxAddr 3 (.c u) (.c (.int .i64 0)))=_ from h3]
  simp only[bV,show ∀ a b c:PV,qbb (.load 3 true (.c (.ptr [a,b,c] 0)))=some (.agg [a,b,c]) from fun _ _ _=>rfl,Qhf h2,cT,qlw,qlv,qjl,hR,qc1,qbh]
  cases hr:l[i].right with
  | false =>
   right
   simp only[Bool.not_false,if_true]
   obtain⟨g1,g2⟩:=gat_not (li:=is.li) (ru:=is.ru) (not_all hi hr)
   rw[Qp6,bV]
   exact⟨_,rfl,_,by rw[g1];rfl,by rw[g2];exact qc2⟩
  | true =>
   left
   refine⟨(),?_,?_⟩
   ·have hn:=Qdx hr
    simp only[Bool.not_true,Bool.false_eq_true,if_false,fa3_1,bV,ld3_1,okC_b,cellP_b,cT,qr5,h2.elems,Qbp,iD,Qbc (by omega:i < 9223372036854775807)]
    have hw:qnt (leN (qb7 (nth [u,.bool ((l.take i).any Arr.li),.bool ((l.take i).any fun a=>a.ru != (hdA l).ru),u,I l.length,I i,.agg [.bool is.li,.bool is.ru,x],.bool false,.bool false,.nilS,.bool is.li,.bool (if i=0 then is.ru else (hdA l).ru),nI (qqk (l.take i)).length,.sl 1 (qd3 (qqk (l.take i))) false] 12)) (qbw (qbs (nth [u,.bool ((l.take i).any Arr.li),.bool ((l.take i).any fun a=>a.ru != (hdA l).ru),u,I l.length,I i,.agg [.bool is.li,.bool is.ru,x],.bool false,.bool false,.nilS,.bool is.li,.bool (if i=0 then is.ru else (hdA l).ru),nI (qqk (l.take i)).length,.sl 1 (qd3 (qqk (l.take i))) false] 13)))) (leN (qd5 (qb7 (nth [u,.bool ((l.take i).any Arr.li),.bool ((l.take i).any fun a=>a.ru != (hdA l).ru),u,I l.length,I i,.agg [.bool is.li,.bool is.ru,x],.bool false,.bool false,.nilS,.bool is.li,.bool (if i=0 then is.ru else (hdA l).ru),nI (qqk (l.take i)).length,.sl 1 (qd3 (qqk (l.take i))) false] 12)) (qbw (qd3 l[i].n))) 2147483648)=true:=by
     show qnt (leN (qb7 (nI (qqk (l.take i)).length)) (qd3 (qqk (l.take i))).length) (leN (qd5 (qb7 (nI (qqk (l.take i)).length)) (qd3 l[i].n).length) 2147483648)=true
     simp only[qne,qdr,Int.toNat_natCast,Qcp,qvi,Qga,qfo,decide_eq_true_eq,Bool.and_eq_true]
     omega
    rw[hw]
    have e1:nI (qd5 (qb7 (nI (qqk (l.take i)).length)) (qbw (qd3 l[i].n)))=nI (qqk (l.take (i+1))).length:=by
     rw[Qkd hi];simp[qfo]
    have e2:(PV.sl 1 (qqr (qb2 (qb7 (nI (qqk (l.take i)).length)) (qd3 (qqk (l.take i)))) (qd3 l[i].n)) false)=.sl 1 (qd3 (qqk (l.take (i+1)))) false:=by
     rw[Qkd hi];simp[qyz,ints_app]
    have e3:(if i+1=0 then is.ru else (hdA l).ru)=(hdA l).ru:=if_neg (by omega)
    have fin:∀ b c:Bool,b=(l.take (i+1)).any Arr.li→c=((l.take (i+1)).any fun a=>a.ru != (hdA l).ru) →
      (some (Sum.inl (([u,.bool b,.bool c,u,I l.length,I ((i+1:Nat):Int),.agg [.bool is.li,.bool is.ru,x],.bool false,.bool false,.nilS,.bool is.li,.bool l[0].ru,nI (qd5 (qb7 (nI (qqk (l.take i)).length)) (qbw (qd3 l[i].n))),.sl 1 (qqr (qb2 (qb7 (nI (qqk (l.take i)).length)) (qd3 (qqk (l.take i)))) (qd3 l[i].n)) false],()):List PV×Unit)):Option (Sum (List PV×Unit) (PV×Unit))) =
      some (Sum.inl ([u,.bool ((l.take (i+1)).any Arr.li),.bool ((l.take (i+1)).any fun a=>a.ru != (hdA l).ru),u,I l.length,I ((i+1:Nat):Int),.agg [.bool is.li,.bool is.ru,x],.bool false,.bool false,.nilS,.bool is.li,.bool (if i+1=0 then is.ru else (hdA l).ru),nI (qqk (l.take (i+1))).length,.sl 1 (qd3 (qqk (l.take (i+1)))) false],())):=by
     intro b c hb hc
     rw[e1,e2,e3,e0,hb,hc]
    simp only[cT]
    cases hb:(l.take i).any Arr.li<;>cases hc:(l.take i).any (fun a=>a.ru != (hdA l).ru) <;>
     simp only[if_true,if_false,Bool.false_eq_true]
    ·exact fin _ _ (by rw[qlx hi,hb];rfl) (by rw[qlx hi,hc,←e0];rfl)
    ·exact fin _ _ (by rw[qlx hi,hb];rfl) (by rw[qlx hi,hc];rfl)
    ·exact fin _ _ (by rw[qlx hi,hb];rfl) (by rw[qlx hi,hc,←e0];rfl)
    ·exact fin _ _ (by rw[qlx hi,hb];rfl) (by rw[qlx hi,hc];rfl)
   ·intro a ha
    rw[qxf hi] at ha
    rcases List.mem_append.1 ha with h | h
    ·exact hp a h
    ·rw[List.mem_singleton.1 h];exact hr
 ·intro _ hp
  rw[List.take_of_length_le (Nat.le_refl _)] at hp ⊢
  have hall:l.all Arr.right=true:=List.all_eq_true.2 hp
  simp only[qfb,qfa,qfj,qgk,qlj,qnd,qnr,qg1,bV,qbh,Int.lt_irrefl,decide_false,Bool.false_eq_true,if_false,Qki,Qp6,okC_lr,cT,qh7,qco,qn1,qc1,hu.len,iD,qwr,Qm3,qlw,qlv,qjl]
  have hA:¬ l.all Arr.right=false:=by rw[hall];simp
  have bad:∀ {c:Int},Qbm is.li l=c→c≠0→qqe (Qbm is.li l)=.iface 124 (.agg [I c])∧gatA is.li is.ru l=qf2:=fun {c} h h0=>⟨by rw[h];exact if_neg h0,gat_bad (by rw[h];exact h0)⟩
  simp only[qyb,qya,qx9,qx8,qne,qdr,qse,qk6,iD,Int.toNat_natCast,slO_1]
  cases h1:l.any Arr.li with
  | true =>
   obtain⟨b1,b2⟩:=bad (c:=111) (by unfold Qbm;rw[if_neg hA,if_pos h1]) (by decide)
   exact⟨_,rfl,_,by rw[b1];rfl,by rw[b2];exact qc2⟩
  | false =>
   have n1:¬ l.any Arr.li=true:=by rw[h1];simp
   cases h2:l.any (fun a=>a.ru != (hdA l).ru) with
   | true =>
    obtain⟨b1,b2⟩:=bad (c:=102) (by unfold Qbm;rw[if_neg hA,if_neg n1,if_pos h2]) (by decide)
    exact⟨_,rfl,_,by rw[b1];rfl,by rw[b2];exact qc2⟩
   | false =>
    have n2:¬ (l.any fun a=>a.ru != (hdA l).ru)=true:=by rw[h2];simp
    by_cases h3:is.li=false∧l.length≠1
    ·have e5:((l.length:Int) != 1)=true:=by have:=h3.2;simp;omega
     obtain⟨b1,b2⟩:=bad (c:=111) (by unfold Qbm;rw[if_neg hA,if_neg n1,if_neg n2,if_pos h3]) (by decide)
     rw[h3.1] at b1 b2 ⊢
     rw[e5]
     exact⟨_,rfl,_,by rw[b1];rfl,by rw[b2];exact qc2⟩
    ·have e5:(if (!is.li)=true then some (PV.bool ((l.length:Int) != 1)) else some (.bool false))=some (.bool false):=by
      cases hq:is.li with
      | true=>rfl
      | false =>
       have:l.length=1:=by
        rw[hq] at h3
        by_cases hz:l.length=1
        ·exact hz
        ·exact absurd ⟨rfl,hz⟩ h3
       simp[this]
     rw[e5]
     by_cases h4:200 < l.length
     ·obtain⟨b1,b2⟩:=bad (c:=113) (by unfold Qbm;rw[if_neg hA,if_neg n1,if_neg n2,if_neg h3,if_pos h4]) (by decide)
      rw[decide_eq_true (by omega:(200:Int) < (l.length:Int))]
      exact⟨_,rfl,_,by rw[b1];rfl,by rw[b2];exact qc2⟩
     ·have hE:Qbm is.li l=0:=by unfold Qbm;rw[if_neg hA,if_neg n1,if_neg n2,if_neg h3,if_neg h4]
      rw[decide_eq_false (by omega:¬ (200:Int) < (l.length:Int)),hE,show gatA is.li is.ru l=⟨is.li,if l.length=0 then is.ru else (hdA l).ru,qqk l⟩ from if_pos hE,
       show okU (.tup [.agg [.bool is.li,.bool (if l.length=0 then is.ru else (hdA l).ru),.sl 1 (qd3 (qqk l)) false],.nilI])=true by simp[okU,okV,qb1,qsb]]
      exact⟨_,rfl,_,rfl,.mk _ _ _ _ (.sl _ _)⟩
end Go.Ab.Derive2


namespace Go.Ab.Derive2
open Go Go.Ab
theorem qgt {v:PV} {a:Arr} (h:IsA v a):qh3 v=true:=by
 obtain⟨x,rfl,hx⟩:=h.get
 rw[qhm,Qbu rfl rfl hx.cell]
theorem qkx {v:PV} {a:Arr} (h:IsA v a):qb0 v 0 3 true=some v:=by
 obtain⟨x,rfl,hx⟩:=h.get
 rfl
theorem qcb {v:PV} {a:Arr} (h:IsA v a):qbi v 3=true:=by
 obtain⟨x,rfl,hx⟩:=h.get
 exact qwx (Qbu rfl rfl hx.cell)
theorem qg0 {v:PV} {a:Arr} (h:IsA v a):PV.agg [qbd v 0,qbd v 1,qbd v 2]=v:=by
 obtain⟨x,rfl,hx⟩:=h.get
 rfl
theorem IsL.at {v:PV} {l:List Int} (h:IsL v l) {i:Nat} {n:Int} (hi:l[i]?=some n):qbb (.idxAddr 1 (.c v) (.c (I i)))=some (.ptr [I n] 0):=by
 obtain⟨h1,h2⟩:=List.getElem?_eq_some_iff.1 hi
 rw[h.idx h1,h2]
end Go.Ab.Derive2


namespace Go.Ab.Derive2
open Go Go.Ab
def Qmi (c:Int):PV:=if c=0 then .nilI else .iface 145 (.agg [I c])
theorem errV_ok (c:Int):okV (Qmi c)=true:=by unfold Qmi;split<;>rfl
theorem errV_free (c:Int):(Qmi c).free=true:=by unfold Qmi;split<;>rfl
theorem Qmh (c:Int):qbb (.bin .neq .iface true (.c (Qmi c)) (.c .nilI))=some (.bool (decide (c≠0))):=by
 unfold Qmi
 by_cases h:c=0
 ·simp only[h,if_true];rfl
 ·rw[if_neg h,show decide (c≠0)=true by simp[h]];rfl
def qsd:PV:=.agg [.bool false,.bool false,.nilS]
theorem Qdn (c:Int):qbj B0 .cl (.fn 63 []) [Qmi c]=some (I c):=by
 refine call (d:=fun _=>.cl) rfl (by decide) (by simp[qb1,errV_ok]) rfl ?_
 rw[List.map_cons,List.map_nil,run63]
 unfold Qmi
 by_cases h:c=0
 ·subst h;rfl
 ·simp only[h,if_false];rfl
theorem qwf {vs:List PV} {l:List Arr} (h:Qbr vs l) (hl:l.length≤1000000) (hs:∀ a∈l,a.n.length≤1000000):qgw B0 .cl true 62 [.sl 3 vs false]=some (Qmi (if l.all Arr.right then 0 else 114)):=by
 refine lendN (d:=fun _=>.cl) rfl (by simp[qb1,okV,h.ok]) rfl ?_ (by rw[errV_free];rfl)
 rw[List.map_cons,List.map_nil,run62,qk2,h.len]
 simp only[qbg]
 rw[show qci [.sl 3 vs false,.int .i64 ((l.length:Nat):Int),.int .i64 0]=true from rfl,qbk]
 have key:∀ m i,i+m=l.length→qgc (fun z2=>qba (qbb (.bin .lss .num false (.c (nth z2.1 2)) (.c (nth z2.1 1)))) (fun z3=>qca z3 (qba (qbb (.idxAddr 3 (.c (nth z2.1 0)) (.c (nth z2.1 2)))) (fun z4=>qba (qbb (.load 3 true (.c z4))) (fun z5=>qbn (qbi z5 3) (qba (qbj B0 .cl (.fn 27 []) [.agg [qbd z5 0,qbd z5 1,qbd z5 2]]) (fun z6=>qba (qbb (.un .not (.c z6))) (fun z7=>qca z7 (qba (qbb (.build [.int .i64 0] [(0,(1,.c (.int .i64 114)))])) (fun z8=>qba (some (PV.iface 145 z8,z2.2)) (fun z9=>some (.inr z9)))) (qba (qbb (.bin .add .num true (.c (nth z2.1 2)) (.c (.int .i64 1)))) (fun z10=>some (.inl ([nth z2.1 0,nth z2.1 1,z10],z2.2)))))))))) (qba (some (PV.nilI,z2.2)) (fun z11=>some (.inr z11))))) (([.sl 3 vs false,I l.length,I i],()):List PV×Unit)=some (Qmi (if (l.drop i).all Arr.right then 0 else 114),()):=by
  intro m
  induction m with
  | zero =>
   intro i hi
   refine qcr ?_
   have:i=l.length:=by omega
   subst this
   simp[Qmi]
  | succ m ih =>
   intro i hi
   have hlt:i < l.length:=by omega
   rw[qpo hlt]
   obtain⟨v,hv,ha⟩:=h.get i hlt
   have hr:=qkz ha (hs _ (List.getElem_mem hlt))
   obtain⟨x,rfl,hx⟩:=ha.get
   cases hrt:(l[i]).right with
   | false =>
    refine qcr ?_
    simp only[qfb,qfa,qfj,qg1,qbg,qbh]
    rw[if_pos (by simpa using hlt),lidx3 hv]
    simp only[qbg,load3,qwx (Qbu (a:=.bool (l[i]).li) (b:=.bool (l[i]).ru) rfl rfl hx.cell),qbk,qlw,qlv,qjl,hr,qc1,hrt,Bool.not_false,qbh,if_true,Qp6]
    rw[List.all_cons,hrt]
    rfl
   | true =>
    rw[qf8 (s':=([.sl 3 vs false,I l.length,I ((i+1:Nat):Int)],()))]
    ·rw[ih (i+1) (by omega),List.all_cons,hrt,Bool.true_and]
    ·simp only[qfb,qfa,qfj,qg1,qbg,qbh]
     rw[if_pos (by simpa using hlt),lidx3 hv]
     simp only[qbg,load3,qwx (Qbu (a:=.bool (l[i]).li) (b:=.bool (l[i]).ru) rfl rfl hx.cell),qbk,qlw,qlv,qjl,hr,qc1,hrt,Bool.not_true,qbh,if_false,Bool.false_eq_true,qgq,Qbp,Qbc (by omega:i < 9223372036854775807)]
 have:=key l.length 0 (by omega)
 simpa[qgq] using this
def Arr.sz (a b:Arr):Int×Int:=if a.li&&(b.li&&decide (a.n.length≠b.n.length)) then (0,110) else if a.li then (a.n.length,0) else (b.n.length,0)
theorem size6 {a b:Arr} {x y:PV} (hx:IsL x a.n) (hy:IsL y b.n):qbj B0 .cl (.fn 76 []) [.agg [.bool a.li,.bool a.ru,x,.bool b.li,.bool b.ru,y]]=some (.tup [I (a.sz b).1,Qmi (a.sz b).2]):=by
 have hv:(PV.agg [.bool a.li,.bool a.ru,x,.bool b.li,.bool b.ru,y]).isVal=true:=by simp[PV.isVal,PV.isCell,hx.cell,hy.cell]
 refine call (d:=fun _=>.cl) rfl (by decide) (by simp[qb1,okV,hx.ok,hy.ok]) rfl ?_
 rw[List.map_cons,List.map_nil,run76,qhm,hv,qbk]
 simp only[qh7,qco,show sel [PV.bool a.li,.bool a.ru,x,.bool b.li,.bool b.ru,y] 0 1 false=some (.bool a.li) from rfl,show sel [PV.bool a.li,.bool a.ru,x,.bool b.li,.bool b.ru,y] 3 1 false=some (.bool b.li) from rfl,show sel [PV.bool a.li,.bool a.ru,x,.bool b.li,.bool b.ru,y] 2 1 false=some x from rfl,show sel [PV.bool a.li,.bool a.ru,x,.bool b.li,.bool b.ru,y] 5 1 false=some y from rfl,
  qbg,qbh,hx.len,hy.len,qwr,Qp6]
 unfold Arr.sz
 have e:((a.n.length:Int) != (b.n.length:Int))=decide (a.n.length≠b.n.length):=by
  by_cases h:a.n.length=b.n.length
  ·simp[h]
  ·have:¬ (a.n.length:Int)=(b.n.length:Int):=by omega
   simp[h,this]
 rw[e]
 cases a.li<;>cases b.li<;>simp[Qmi]<;>(try (by_cases h:a.n.length=b.n.length<;>simp[h,Qmi]))<;>rfl
def Arr.text (a:Arr):Bool:=a.ru&&decide (0 < a.n.length)
theorem Qdq {v:PV} {a:Arr} (h:IsA v a):qbj B0 .cl (.fn 64 []) [v]=some (.bool a.text):=by
 obtain⟨x,rfl,hx⟩:=h.get
 refine call (d:=fun _=>.cl) rfl (by decide) (by simp[qb1,h.ok]) rfl ?_
 rw[List.map_cons,List.map_nil,run64,qhm,Qbu rfl rfl hx.cell,qbk]
 simp only[qh7,qco,qn1,qn0,qmb,qbg,hx.len,qbh,qgq,Qm3]
 unfold Arr.text
 have e:decide ((0:Int) < (a.n.length:Int))=decide (0 < a.n.length):=by by_cases h:0 < a.n.length<;>simp[h]
 rw[e]
 cases a.ru<;>simp
def Arr.at (a:Arr) (i:Nat):Int:=if a.li then a.n.getD i 0 else a.n.getD 0 0
def Arr.fits (a:Arr) (i:Nat):Prop:=if a.li then i < a.n.length else 0 < a.n.length
theorem of_run {v:PV} {a:Arr} (h:IsA v a) {i:Nat} (hi:a.fits i):qbj B0 .cl (.fn 142 []) [v,I i]=some (I (a.at i)):=by
 obtain⟨x,rfl,hx⟩:=h.get
 refine call (d:=fun _=>.cl) rfl (by decide) (by simp[qb1,h.ok]) rfl ?_
 rw[List.map_cons,List.map_cons,List.map_nil,run142,qhm,Qbu rfl rfl hx.cell,qbk]
 simp only[qh7,qco,qn1,qn0,qmb,qbg,qbh]
 unfold Arr.at
 unfold Arr.fits at hi
 cases hli:a.li with
 | true =>
  simp only[hli,if_true] at hi
  simp only[if_true,hx.idx hi,qbg,Qcn]
  rw[List.getD_eq_getElem?_getD,List.getElem?_eq_getElem hi]
  rfl
 | false =>
  simp only[hli,Bool.false_eq_true,if_false] at hi
  simp only[Bool.false_eq_true,if_false]
  rw[show (PV.int .i64 0)=I ((0:Nat):Int) from rfl,hx.idx hi]
  simp only[qbg,Qcn]
  rw[List.getD_eq_getElem?_getD,List.getElem?_eq_getElem hi]
  rfl
def qdb (a b:Arr) (i:Nat):Nat→List (Int×Int)
 | 0=>[]
 | m+1=>(a.at i,b.at i) :: qdb a b (i+1) m
def Qli (p:Int×Int):List PV:=[I p.1,I p.2]
theorem both_run {a b:Arr} {x y:PV} (hx:IsL x a.n) (hy:IsL y b.n) (n:Nat):qbj B0 .cl (.fn 77 []) [.agg [.bool a.li,.bool a.ru,x,.bool b.li,.bool b.ru,y],I n]=some (.fn 141 [.ptr [I n] 0,.ptr [.bool a.li,.bool a.ru,x,.bool b.li,.bool b.ru,y] 0]):=by
 have hv:(PV.agg [.bool a.li,.bool a.ru,x,.bool b.li,.bool b.ru,y]).isVal=true:=by simp[PV.isVal,PV.isCell,hx.cell,hy.cell]
 refine call (d:=fun _=>.cl) rfl (by decide) (by simp[qb1,okV,hx.ok,hy.ok]) rfl ?_
 rw[List.map_cons,List.map_cons,List.map_nil,run77,qhm,hv,qbk,show qh3 (I (n:Int))=true from rfl,qbk]
 rw[show okU (.fn 141 [Qlh (qfu (I n)) 0,Qlh (qfu (.agg [.bool a.li,.bool a.ru,x,.bool b.li,.bool b.ru,y])) 0])=true by
  show okV _=true
  have:okV (PV.fn 141 [.ptr [I n] 0,.ptr [.bool a.li,.bool a.ru,x,.bool b.li,.bool b.ru,y] 0])=true:=by simp[okV,qb1,hx.ok,hy.ok]
  exact this]
 rfl
theorem Qg5 {E:Type} (h:qbf E) (dep:Nat) {a b:Arr} {x y:PV} (hx:IsL x a.n) (hy:IsL y b.n) (n:Nat) (hn:n≤1000000) (hf:∀ i,i < n→a.fits i∧b.fits i) {e e':E}
  (hyy:qc6 h dep ((qdb a b 0 n).map Qli) e=some e'):qf0 B0 h dep (.fn 141 [.ptr [I n] 0,.ptr [.bool a.li,.bool a.ru,x,.bool b.li,.bool b.ru,y] 0]) e=some e':=by
 have hA:IsA (.agg [.bool a.li,.bool a.ru,x]) a:=.mk _ _ _ _ hx
 have hB:IsA (.agg [.bool b.li,.bool b.ru,y]) b:=.mk _ _ _ _ hy
 refine qlo (qd0 fun _=>.cl) (g:=141) (fn:=fn141) rfl (by simp[qb1,okV,hx.ok,hy.ok]) (Nat.le_of_ble_eq_true rfl) (u:=.tup []) ?_
 simp only[List.map_cons,List.map_nil]
 rw[run141,qr6,qtk]
 simp only[qbg]
 rw[show qci [nI dep,.ptr [.bool a.li,.bool a.ru,x,.bool b.li,.bool b.ru,y] 0,I n,.int .i64 0]=true from rfl,qbk]
 have key:∀ m i,i+m=n→∀ e e',qc6 h dep ((qdb a b i m).map Qli) e=some e'→qgc (fun z2=>qba (qbb (.bin .lss .num false (.c (nth z2.1 3)) (.c (nth z2.1 2)))) (fun z3=>qca z3 (qba (qbb (.fieldAddr 0 (.c (nth z2.1 1)))) (fun z4=>qba (qbb (.load 3 true (.c z4))) (fun z5=>qba (qbj B0 .cl (.fn 142 []) [z5,nth z2.1 3]) (fun z6=>qba (qbb (.fieldAddr 3 (.c (nth z2.1 1)))) (fun z7=>qba (qbb (.load 3 true (.c z7))) (fun z8=>qba (qbj B0 .cl (.fn 142 []) [z8,nth z2.1 3]) (fun z9=>qba (h (qb7 (nth z2.1 0)) [z6,z9] z2.2) (fun z10=>qba (qbb (.un .not (.c (.bool z10.1)))) (fun z11=>qca z11 (qba (some (PV.tup [],z10.2)) (fun z12=>some (.inr z12))) (qba (qbb (.bin .add .num true (.c (nth z2.1 3)) (.c (.int .i64 1)))) (fun z13=>some (.inl ([nI (qb7 (nth z2.1 0)),nth z2.1 1,nth z2.1 2,z13],z10.2))))))))))))) (qba (some (PV.tup [],z2.2)) (fun z14=>some (.inr z14))))) (([nI dep,.ptr [.bool a.li,.bool a.ru,x,.bool b.li,.bool b.ru,y] 0,I n,I i],e):List PV×E)=some (.tup [],e'):=by
  intro m
  induction m with
  | zero =>
   intro i hi e e' hq
   have:i=n:=by omega
   subst this
   cases hq
   refine qcr ?_
   simp
  | succ m ih =>
   intro i hi e e' hq
   have hlt:i < n:=by omega
   obtain⟨f1,f2⟩:=hf i hlt
   have o1:=of_run hA f1
   have o2:=of_run hB f2
   have q0:qbb (.load 3 true (.c (.ptr [.bool a.li,.bool a.ru,x,.bool b.li,.bool b.ru,y] 0)))=some (.agg [.bool a.li,.bool a.ru,x]):=rfl
   have q3:qbb (.load 3 true (.c (.ptr [.bool a.li,.bool a.ru,x,.bool b.li,.bool b.ru,y] 3)))=some (.agg [.bool b.li,.bool b.ru,y]):=rfl
   have g0:qbb (.fieldAddr 0 (.c (.ptr [.bool a.li,.bool a.ru,x,.bool b.li,.bool b.ru,y] 0)))=some (.ptr [.bool a.li,.bool a.ru,x,.bool b.li,.bool b.ru,y] 0):=rfl
   have g3:qbb (.fieldAddr 3 (.c (.ptr [.bool a.li,.bool a.ru,x,.bool b.li,.bool b.ru,y] 0)))=some (.ptr [.bool a.li,.bool a.ru,x,.bool b.li,.bool b.ru,y] 3):=rfl
   unfold qdb at hq
   simp only[List.map_cons,qc6,Qli] at hq
   split at hq
   ·rename_i e1 hh
    rw[qf8 (s':=([nI dep,.ptr [.bool a.li,.bool a.ru,x,.bool b.li,.bool b.ru,y] 0,I n,I ((i+1:Nat):Int)],e1))]
    ·exact ih (i+1) (by omega) _ _ hq
    ·simp only[qfb,qfa,qfj,qgk,qg1,qbg,qbh]
     rw[if_pos (by simpa using hlt)]
     simp only[g0,g3,q0,q3,o1,o2,qbg,qne,qdr,qse,Int.toNat_natCast,hh,qc1,Bool.not_true,qbh,if_false,Bool.false_eq_true,qgq,Qbp,Qbc (by omega:i < 9223372036854775807)]
   ·rename_i e1 hh
    cases hq
    refine qcr ?_
    simp only[qfb,qfa,qfj,qgk,qg1,qbg,qbh]
    rw[if_pos (by simpa using hlt)]
    simp only[g0,g3,q0,q3,o1,o2,qbg,qne,qdr,qse,Int.toNat_natCast,hh,qc1,Bool.not_false,qbh,if_true]
   ·cases hq
 have:=key n 0 (by omega) e e' hyy
 simpa[qgq] using this
noncomputable def qzt:List PV→List PV→Unit→Option (Bool×KRec Unit):=(fun z25=>fun z26=>fun z27=>qbn (qgx z26 2) (qba (qca (nth z25 8) (qba (qb0 (nth z25 2) 1 1 false) (fun z28=>qba (qb0 (nth z25 3) 1 1 false) (fun z29=>qba (qbb (.bin .neq .bool false (.c z28) (.c z29))) (fun z30=>some z30)))) (some (.bool false))) (fun z31=>qca z31 (qba (qb0 (nth z25 1) 0 1 false) (fun z32=>qba (qbj B0 .cl (.fn 78 []) [z32,.int .i64 0,.int .i64 1]) (fun z33=>qba (qbb (.extract 0 (.c z33))) (fun z34=>qba (qbb (.extract 1 (.c z33))) (fun z35=>qba (qbb (.bin .neq .num true (.c z35) (.c (.int .i64 0)))) (fun z36=>qca z36 (qba (qbb (.build [.bool false,.bool false,.nilS] [])) (fun z37=>qbn (qbi z37 3) (qbn (qbi z35 1) (some (false,([nth z25 0,nth z25 1,nth z25 2,nth z25 3,qbd z37 0,qbd z37 1,qbd z37 2,qbd z35 0,nth z25 8,nth z25 9,nth z25 10,nI (qb7 (nth z25 11)),.sl 1 (qbs (nth z25 12)) false],(some .ret,z27))))))) (qbn (qdf 1 [z34]) (qbn (leN (qd5 0 (qbw [z34])) (qbw [z34])) (qbn (qnt (leN (qb7 (nth z25 11)) (qbw (qbs (nth z25 12)))) (leN (qd5 (qb7 (nth z25 11)) (qbw (qb2 (qbw [z34]) (qcx 0 [z34])))) 2147483648)) (some (true,([nth z25 0,nth z25 1,nth z25 2,nth z25 3,nth z25 4,nth z25 5,nth z25 6,nth z25 7,nth z25 8,nth z25 9,nth z25 10,nI (qd5 (qb7 (nth z25 11)) (qbw (qb2 (qbw [z34]) (qcx 0 [z34])))),.sl 1 (qqr (qb2 (qb7 (nth z25 11)) (qbs (nth z25 12))) (qb2 (qbw [z34]) (qcx 0 [z34]))) false],(none,z27))))))))))))) (qba (qb0 (nth z25 1) 0 1 false) (fun z38=>qba (qbj B0 .cl (.fn 78 []) [z38,nth z26 0,nth z26 1]) (fun z39=>qba (qbb (.extract 0 (.c z39))) (fun z40=>qba (qbb (.extract 1 (.c z39))) (fun z41=>qba (qbb (.bin .neq .num true (.c z41) (.c (.int .i64 0)))) (fun z42=>qca z42 (qba (qbb (.build [.bool false,.bool false,.nilS] [])) (fun z43=>qbn (qbi z43 3) (qbn (qbi z41 1) (some (false,([nth z25 0,nth z25 1,nth z25 2,nth z25 3,qbd z43 0,qbd z43 1,qbd z43 2,qbd z41 0,nth z25 8,nth z25 9,nth z25 10,nI (qb7 (nth z25 11)),.sl 1 (qbs (nth z25 12)) false],(some .ret,z27))))))) (qbn (qdf 1 [z40]) (qbn (leN (qd5 0 (qbw [z40])) (qbw [z40])) (qbn (qnt (leN (qb7 (nth z25 11)) (qbw (qbs (nth z25 12)))) (leN (qd5 (qb7 (nth z25 11)) (qbw (qb2 (qbw [z40]) (qcx 0 [z40])))) 2147483648)) (some (true,([nth z25 0,nth z25 1,nth z25 2,nth z25 3,nth z25 4,nth z25 5,nth z25 6,nth z25 7,nth z25 8,nth z25 9,nth z25 10,nI (qd5 (qb7 (nth z25 11)) (qbw (qb2 (qbw [z40]) (qcx 0 [z40])))),.sl 1 (qqr (qb2 (qb7 (nth z25 11)) (qbs (nth z25 12))) (qb2 (qbw [z40]) (qcx 0 [z40]))) false],(none,z27))))))))))))))))
def dyL (f:Int→Int→Int×NE):List (Int×Int)→Sum Int (List Int)
 | []=>.inr []
 | p :: l=>if (f p.1 p.2).2.no≠0 then .inl (f p.1 p.2).2.no else match dyL f l with
  | .inl c=>.inl c
  | .inr r=>.inr ((f p.1 p.2).1 :: r)
def dyF (g:List UInt8) (sub:Bool) (x y:Int):Int×NE:=if sub then nDy g 0 1 else nDy g x y
def dySt (z:PV) (g:List UInt8) (a b:Arr) (x y:PV) (eqv li:Bool) (w:List PV) (k:Nat) (xs:List PV):List PV :=
 [z,.str g,.agg [.bool a.li,.bool a.ru,x],.agg [.bool b.li,.bool b.ru,y]]++w++[.bool eqv,.bool li,.bool false,nI k,.sl 1 xs false]
theorem Qhe (n:Int):qdf 1 [I n]=true:=rfl
theorem dyBody_run (z:PV) (g:List UInt8) (a b:Arr) (x y:PV) (eqv li:Bool) (c0 c1 c2 c3:PV) (acc:List Int) (hacc:acc.length < 1000000) (p:Int×Int) :
  qzt (dySt z g a b x y eqv li [c0,c1,c2,c3] acc.length (qd3 acc)) (Qli p) () =
   let r:=dyF g (eqv&&(a.ru != b.ru)) p.1 p.2
   if r.2.no≠0 then some (false,(dySt z g a b x y eqv li [.bool false,.bool false,.nilS,I r.2.no] acc.length (qd3 acc),(some .ret,())))
   else some (true,(dySt z g a b x y eqv li [c0,c1,c2,c3] (acc++[r.1]).length (qd3 (acc++[r.1])),(none,()))):=by
 unfold qzt dySt
 simp only[List.cons_append,List.nil_append,qfb,qfa,qfj,qgk,qlj,qnd,qnr,qq7,qwl,Qli]
 rw[show qgx [I p.1,I p.2] 2=true from rfl,qbk]
 simp only[qbh,qh7,qco,Qkb,qtk,qn0,qbg,qr5,dy_run,qdq,List.getElem?_cons_zero,List.getElem?_cons_succ,qgq,qwr,Qki,qfb,qfa,
  show qbi (.agg [.bool false,.bool false,.nilS]) 3=true from rfl,qbk,qlw,qlv,qjl,Qhe]
 have hlen:∀ n,(decide (acc.length≤(qd3 acc).length)&&decide (acc.length+((qd3 acc).length - (qd3 acc).length+1)≤n))=decide (acc.length+1≤n):=fun n=>by simp[qfo]
 have fin:∀ r:Int×NE,(if (r.2.no != 0)=true then qbn (qbi (I r.2.no) 1) (some (false,([z,.str g,.agg [.bool a.li,.bool a.ru,x],.agg [.bool b.li,.bool b.ru,y],.bool false,.bool false,.nilS,qbd (I r.2.no) 0,.bool eqv,.bool li,.bool false,nI (qb7 (nth [z,.str g,.agg [.bool a.li,.bool a.ru,x],.agg [.bool b.li,.bool b.ru,y],c0,c1,c2,c3,.bool eqv,.bool li,.bool false,nI acc.length,.sl 1 (qd3 acc) false] 11)),.sl 1 (qbs (nth [z,.str g,.agg [.bool a.li,.bool a.ru,x],.agg [.bool b.li,.bool b.ru,y],c0,c1,c2,c3,.bool eqv,.bool li,.bool false,nI acc.length,.sl 1 (qd3 acc) false] 12)) false],(some Ex.ret,()))))
   else qbn (leN (qd5 0 (qbw [I r.1])) (qbw [I r.1])) (qbn (qnt (leN (qb7 (nth [z,.str g,.agg [.bool a.li,.bool a.ru,x],.agg [.bool b.li,.bool b.ru,y],c0,c1,c2,c3,.bool eqv,.bool li,.bool false,nI acc.length,.sl 1 (qd3 acc) false] 11)) (qbw (qbs (nth [z,.str g,.agg [.bool a.li,.bool a.ru,x],.agg [.bool b.li,.bool b.ru,y],c0,c1,c2,c3,.bool eqv,.bool li,.bool false,nI acc.length,.sl 1 (qd3 acc) false] 12)))) (leN (qd5 (qb7 (nth [z,.str g,.agg [.bool a.li,.bool a.ru,x],.agg [.bool b.li,.bool b.ru,y],c0,c1,c2,c3,.bool eqv,.bool li,.bool false,nI acc.length,.sl 1 (qd3 acc) false] 11)) (qbw (qb2 (qbw [I r.1]) (qcx 0 [I r.1])))) 2147483648)) (some (true,([z,.str g,.agg [.bool a.li,.bool a.ru,x],.agg [.bool b.li,.bool b.ru,y],c0,c1,c2,c3,.bool eqv,.bool li,.bool false,nI (qd5 (qb7 (nth [z,.str g,.agg [.bool a.li,.bool a.ru,x],.agg [.bool b.li,.bool b.ru,y],c0,c1,c2,c3,.bool eqv,.bool li,.bool false,nI acc.length,.sl 1 (qd3 acc) false] 11)) (qbw (qb2 (qbw [I r.1]) (qcx 0 [I r.1])))),.sl 1 (qqr (qb2 (qb7 (nth [z,.str g,.agg [.bool a.li,.bool a.ru,x],.agg [.bool b.li,.bool b.ru,y],c0,c1,c2,c3,.bool eqv,.bool li,.bool false,nI acc.length,.sl 1 (qd3 acc) false] 11)) (qbs (nth [z,.str g,.agg [.bool a.li,.bool a.ru,x],.agg [.bool b.li,.bool b.ru,y],c0,c1,c2,c3,.bool eqv,.bool li,.bool false,nI acc.length,.sl 1 (qd3 acc) false] 12))) (qb2 (qbw [I r.1]) (qcx 0 [I r.1]))) false],((none:Option Ex),())))))) =
   (if r.2.no≠0 then some (false,([z,.str g,.agg [.bool a.li,.bool a.ru,x],.agg [.bool b.li,.bool b.ru,y],.bool false,.bool false,.nilS,I r.2.no,.bool eqv,.bool li,.bool false,nI acc.length,.sl 1 (qd3 acc) false],(some Ex.ret,())))
   else some (true,([z,.str g,.agg [.bool a.li,.bool a.ru,x],.agg [.bool b.li,.bool b.ru,y],c0,c1,c2,c3,.bool eqv,.bool li,.bool false,nI (acc++[r.1]).length,.sl 1 (qd3 (acc++[r.1])) false],(none,())))):=by
  intro r
  by_cases h:r.2.no=0
  ·rw[if_neg (by simp[h]),if_neg (by simp[h])]
   show qbn (leN (0+1) 1) (qbn (qnt (leN (qb7 (nI acc.length)) (qd3 acc).length) (leN (qb7 (nI acc.length)+1) 2147483648)) (some (true,(_,(none,())))))=_
   simp only[Qcp,qvi,qne,qdr,Int.toNat_natCast,qfo]
   rw[show (decide (0+1≤1))=true from rfl,qbk,show (decide (acc.length≤acc.length)&&decide (acc.length+1≤2147483648))=true by simp;omega,qbk]
   have e1:qb7 (nI acc.length)=acc.length:=by simp
   show some (true,([z,.str g,.agg [.bool a.li,.bool a.ru,x],.agg [.bool b.li,.bool b.ru,y],c0,c1,c2,c3,.bool eqv,.bool li,.bool false,nI (qb7 (nI acc.length)+1),.sl 1 ((qd3 acc).take (qb7 (nI acc.length))++[I r.1]) false],((none:Option Ex),())))=_
   rw[e1,List.take_of_length_le (by rw[qfo];exact Nat.le_refl _),List.length_append,show qd3 (acc++[r.1])=qd3 acc++[I r.1] by simp[qd3]]
   rfl
  ·rw[if_pos (by simp[h]),if_pos h]
   rfl
 unfold dyF
 cases eqv with
 | false =>
  simp only[Bool.false_eq_true,if_false,Bool.false_and]
  exact fin _
 | true =>
  simp only[if_true,Bool.true_and]
  have e:(!(a.ru==b.ru))=(a.ru != b.ru):=rfl
  rw[e]
  cases a.ru != b.ru with
  | false =>
   simp only[Bool.false_eq_true,if_false]
   exact fin _
  | true =>
   simp only[if_true]
   exact fin _
theorem Qll (body:List PV→List PV→Unit→Option (Bool×KRec Unit)) (vs args:List PV):qd6 0 qbc body 0 args (vs,(none,()))=body vs args ():=rfl
theorem dyAll_run (z:PV) (g:List UInt8) (a b:Arr) (x y:PV) (eqv li:Bool) (c0 c1 c2 c3:PV):∀ (ps:List (Int×Int)) (acc:List Int),acc.length+ps.length < 1000000 →
  match dyL (dyF g (eqv&&(a.ru != b.ru))) ps with
  | .inl c=>∃ k xs,qc6 (qd6 0 qbc qzt) 0 (ps.map Qli) (dySt z g a b x y eqv li [c0,c1,c2,c3] acc.length (qd3 acc),(none,()))=some (dySt z g a b x y eqv li [.bool false,.bool false,.nilS,I c] k xs,(some .ret,()))
  | .inr r=>qc6 (qd6 0 qbc qzt) 0 (ps.map Qli) (dySt z g a b x y eqv li [c0,c1,c2,c3] acc.length (qd3 acc),(none,()))=some (dySt z g a b x y eqv li [c0,c1,c2,c3] (acc++r).length (qd3 (acc++r)),(none,())):=by
 intro ps
 induction ps with
 | nil=>intro acc _;simp[dyL,qc6]
 | cons p ps ih =>
  intro acc hl
  simp only[List.length_cons] at hl
  have hb:=dyBody_run z g a b x y eqv li c0 c1 c2 c3 acc (by omega) p
  simp only at hb
  unfold dyL
  simp only[List.map_cons,qc6,Qll]
  rw[hb]
  by_cases h:(dyF g (eqv&&(a.ru != b.ru)) p.1 p.2).2.no=0
  ·simp only[h,ne_eq,not_true_eq_false,if_false]
   have hi:=ih (acc++[(dyF g (eqv&&(a.ru != b.ru)) p.1 p.2).1]) (by simp;omega)
   cases hd:dyL (dyF g (eqv&&(a.ru != b.ru))) ps with
   | inl c =>
    rw[hd] at hi
    exact hi
   | inr r =>
    rw[hd] at hi
    simp only at hi ⊢
    rw[hi]
    simp
  ·simp only[h,ne_eq,not_false_eq_true,if_true]
   exact⟨_,_,rfl⟩
theorem dyTail {a b:Arr} {x y:PV} (hx:IsL x a.n) (hy:IsL y b.n) (g:List UInt8) (eqv li:Bool) (n:Nat) (hn:n < 1000000) (hf:∀ i,i < n→a.fits i∧b.fits i) :
  (qba (qbj B0 .cl (.fn 77 []) [.agg [.bool a.li,.bool a.ru,x,.bool b.li,.bool b.ru,y],I n]) (fun z24=>Qhj (.nilS) (qba (qf0 B0 (qd6 0 qbc qzt) 0 z24 ([z24,.str g,.agg [.bool a.li,.bool a.ru,x],.agg [.bool b.li,.bool b.ru,y],.bool false,.bool false,.nilS,.int .i64 0,.bool eqv,.bool li,.bool false,nI 0,.sl 1 [] false],(none,()))) (fun z44=>qqj (qht z44.2.1) (qbn (qbi (.int .i64 0) 1) (qbn (okU (PV.tup [.agg [nth z44.1 9,nth z44.1 10,slO 1 1 (qbs (nth z44.1 12)) 0 (qb7 (nth z44.1 11))],qbd (.int .i64 0) 0])) (some (PV.tup [.agg [nth z44.1 9,nth z44.1 10,slO 1 1 (qbs (nth z44.1 12)) 0 (qb7 (nth z44.1 11))],qbd (.int .i64 0) 0],z44.2.2)))) (qqj (qmm z44.2.1) (some (PV.tup [.agg [nth z44.1 4,nth z44.1 5,nth z44.1 6],nth z44.1 7],z44.2.2)) none))))) =
   match dyL (dyF g (eqv&&(a.ru != b.ru))) (qdb a b 0 n) with
   | .inl c=>some (PV.tup [qsd,I c],())
   | .inr r=>some (PV.tup [.agg [.bool li,.bool false,.sl 1 (qd3 r) false],I 0],()):=by
 rw[both_run hx hy n]
 simp only[qbg]
 have hlen:(qdb a b 0 n).length=n:=by
  have:∀ m i,(qdb a b i m).length=m:=by
   intro m
   induction m with
   | zero=>intro i;rfl
   | succ m ih=>intro i;simp[qdb,ih]
  exact this n 0
 have hall:=dyAll_run (.fn 141 [.ptr [I n] 0,.ptr [.bool a.li,.bool a.ru,x,.bool b.li,.bool b.ru,y] 0]) g a b x y eqv li (.bool false) (.bool false) .nilS (.int .i64 0) (qdb a b 0 n) [] (by simp[hlen];omega)
 unfold Qhj
 dsimp only
 cases hd:dyL (dyF g (eqv&&(a.ru != b.ru))) (qdb a b 0 n) with
 | inl c =>
  rw[hd] at hall
  obtain⟨k,xs,hall⟩:=hall
  have hr:=Qg5 (qd6 0 qbc qzt) 0 hx hy n (by omega) hf hall
  unfold dySt at hr
  simp only[List.cons_append,List.nil_append,List.length_nil,show qd3 []=[] from rfl] at hr
  rw[hr]
  rfl
 | inr r =>
  rw[hd] at hall
  simp only[List.nil_append] at hall
  have hr:=Qg5 (qd6 0 qbc qzt) 0 hx hy n (by omega) hf hall
  unfold dySt at hr
  simp only[List.cons_append,List.nil_append,List.length_nil,show qd3 []=[] from rfl] at hr
  rw[hr]
  have es:slO 1 1 (qd3 r) 0 r.length=.sl 1 (qd3 r) false:=by
   unfold slO
   rw[if_pos ⟨rfl,by rw[qfo];omega⟩,List.drop_zero,List.take_of_length_le (by rw[qfo];exact Nat.le_refl _)]
  simp only[qbg]
  show qbn (qbi (.int .i64 0) 1) (qbn (okU (PV.tup [.agg [.bool li,.bool false,slO 1 1 (qd3 r) 0 (qb7 (nI r.length))],qbd (.int .i64 0) 0])) (some (PV.tup [.agg [.bool li,.bool false,slO 1 1 (qd3 r) 0 (qb7 (nI r.length))],qbd (.int .i64 0) 0],())))=_
  rw[qne,qdr,Int.toNat_natCast,es,show qbi (.int .i64 0) 1=true from rfl,qbk,show okU (.tup [.agg [.bool li,.bool false,.sl 1 (qd3 r) false],qbd (.int .i64 0) 0])=true by
   show okV (.tup [.agg [.bool li,.bool false,.sl 1 (qd3 r) false],I 0])=true
   simp[okV,qb1,qsb],qbk]
  rfl
end Go.Ab.Derive2


namespace Go.Ab.Derive2
open Go Go.Ab
theorem build6 {a b:Arr} {x y:PV} (hx:IsL x a.n) (hy:IsL y b.n) :
  qbb (.build [.bool false,.bool false,.nilS,.bool false,.bool false,.nilS] [(0,(3,.c (.agg [.bool a.li,.bool a.ru,x]))),(3,(3,.c (.agg [.bool b.li,.bool b.ru,y])))])=some (.agg [.bool a.li,.bool a.ru,x,.bool b.li,.bool b.ru,y]):=by
 simp[qbb,exec,qh5,RX.ev,PV.cells,Qbu (a:=.bool a.li) (b:=.bool a.ru) rfl rfl hx.cell,Qbu (a:=.bool b.li) (b:=.bool b.ru) rfl rfl hy.cell,splice,chk]
theorem okCells6 {a b:Arr} {x y:PV} (hx:IsL x a.n) (hy:IsL y b.n):qbi (.agg [.bool a.li,.bool a.ru,x,.bool b.li,.bool b.ru,y]) 6=true:=by
 simp[qbi,PV.isVal,PV.isCell,hx.cell,hy.cell]
theorem okSls3 {a:Arr} {x:PV} (hx:IsL x a.n):qdf 3 [.agg [.bool a.li,.bool a.ru,x]]=true:=by
 simp[qdf,Qbu (a:=.bool a.li) (b:=.bool a.ru) rfl rfl hx.cell,PV.cells]
theorem okSls33 {a b:Arr} {x y:PV} (hx:IsL x a.n) (hy:IsL y b.n):qdf 3 [.agg [.bool a.li,.bool a.ru,x],.agg [.bool b.li,.bool b.ru,y]]=true:=by
 simp[qdf,Qbu (a:=.bool a.li) (b:=.bool a.ru) rfl rfl hx.cell,Qbu (a:=.bool b.li) (b:=.bool b.ru) rfl rfl hy.cell,PV.cells]
def Arr.isEq (g:List UInt8):Bool:=(g==gEq)||(g==gNe)
def Arr.dy (g:List UInt8) (a b:Arr):Arr×Int :=
 if (a.right&&b.right)=false then (qf2,114)
 else if qqq g=false then (qf2,102)
 else if (a.sz b).2≠0 then (qf2,(a.sz b).2)
 else if !Arr.isEq g&&(a.text||b.text) then (qf2,102)
 else match dyL (dyF g (Arr.isEq g&&(a.ru != b.ru))) (qdb a b 0 (a.sz b).1.toNat) with
  | .inl c=>(qf2,c)
  | .inr r=>(⟨a.li||b.li,false,r⟩,0)
theorem qr3 {a:Arr} (h:a.right=true):a.n.length≤200:=by
 unfold Arr.right at h
 simp only[Bool.and_eq_true] at h
 cases hl:a.li with
 | true=>simpa[hl] using h.2
 | false=>simp[hl] at h;omega
theorem sz_fits {a b:Arr} (ha:a.right=true) (hb:b.right=true) (hs:(a.sz b).2=0):(a.sz b).1=((a.sz b).1.toNat:Nat)∧(a.sz b).1.toNat≤200∧∀ i,i < (a.sz b).1.toNat→a.fits i∧b.fits i:=by
 have la:=qr3 ha
 have lb:=qr3 hb
 unfold Arr.right at ha hb
 simp only[Bool.and_eq_true] at ha hb
 have h1:=ha.2
 have h2:=hb.2
 unfold Arr.sz at hs ⊢
 unfold Arr.fits
 cases hl:a.li<;>cases hr:b.li<;>simp[hl,hr] at h1 h2 hs ⊢
 ·refine⟨by omega,fun i hi=>by omega⟩
 ·refine⟨by omega,fun i hi=>by omega⟩
 ·refine⟨by omega,fun i hi=>by omega⟩
 ·by_cases h:a.n.length=b.n.length
  ·simp[h];omega
  ·simp[h] at hs
set_option maxHeartbeats 2000000 in
theorem adyR {v u:PV} {a b:Arr} (hv:IsA v a) (hu:IsA u b) (hla:a.n.length≤1000000) (hlb:b.n.length≤1000000) (g:List UInt8) :
  ∃ w,qbj B0 .cl (.fn 42 []) [.str g,v,u]=some (.tup [w,I (Arr.dy g a b).2])∧IsA w (Arr.dy g a b).1:=by
 have hok:qb1 [.str g,v,u]=true:=by simp[qb1,okV,hv.ok,hu.ok]
 have hri:=qwf (.cons hv (.cons hu .nil)) (by simp) (by intro c hc;simp at hc;rcases hc with rfl | rfl<;>assumption)
 have htx:=Qdq hv
 have hty:=Qdq hu
 obtain⟨x,rfl,hx⟩:=hv.get
 obtain⟨y,rfl,hy⟩:=hu.get
 have hsz:=size6 hx hy
 suffices key:∃ w,qfy (qdo B0 (fun _=>.cl)) fn42 (.cl) qbc 0 [.cv (.str g),.cv (.agg [.bool a.li,.bool a.ru,x]),.cv (.agg [.bool b.li,.bool b.ru,y])] ()=some (.tup [w,I (Arr.dy g a b).2],())∧IsA w (Arr.dy g a b).1 by
  obtain⟨w,h1,h2⟩:=key
  exact⟨w,call (d:=fun _=>.cl) rfl (by decide) hok rfl h1,h2⟩
 rw[run42,show qh3 (.str g)=true from rfl,qbk,qhm,qhm,Qbu rfl rfl hx.cell,Qbu rfl rfl hy.cell,qbk,qbk]
 simp only[qh7,qco,qvs,qn1,qn0,Qkb,qtk,qbg,build6 hx hy,okCells6 hx hy,qbk,okSls33 hx hy]
 rw[show slO 3 3 [.agg [.bool a.li,.bool a.ru,x],.agg [.bool b.li,.bool b.ru,y]] 0 (qbw [.agg [.bool a.li,.bool a.ru,x],.agg [.bool b.li,.bool b.ru,y]])=.sl 3 [.agg [.bool a.li,.bool a.ru,x],.agg [.bool b.li,.bool b.ru,y]] false from rfl,hri]
 simp only[qbg,Qmh,qbh,Qki,Qdn,List.all_cons,List.all_nil,Bool.and_true]
 unfold Arr.dy
 by_cases hr:(a.right&&b.right)=true
 ·simp only[hr,if_true,ne_eq,not_true_eq_false,decide_false,Bool.false_eq_true,if_false,Qpb,qbg,qc1,qbh,Bool.true_eq_false]
  by_cases hd:qqq g=true
  ·simp only[hd,Bool.not_true,Bool.false_eq_true,if_false,Bool.true_eq_false]
   rw[show qbj B0 .cl (.fn 76 []) [.agg [qbd (.agg [.bool a.li,.bool a.ru,x,.bool b.li,.bool b.ru,y]) 0,qbd (.agg [.bool a.li,.bool a.ru,x,.bool b.li,.bool b.ru,y]) 1,qbd (.agg [.bool a.li,.bool a.ru,x,.bool b.li,.bool b.ru,y]) 2,qbd (.agg [.bool a.li,.bool a.ru,x,.bool b.li,.bool b.ru,y]) 3,qbd (.agg [.bool a.li,.bool a.ru,x,.bool b.li,.bool b.ru,y]) 4,qbd (.agg [.bool a.li,.bool a.ru,x,.bool b.li,.bool b.ru,y]) 5]]=some (.tup [I (a.sz b).1,Qmi (a.sz b).2]) from hsz]
   simp only[qbg,qdq,List.getElem?_cons_zero,List.getElem?_cons_succ,qwv,qbh,Qmh,Qdn]
   by_cases hs:(a.sz b).2=0
   ·simp only[Bool.and_eq_true] at hr
    obtain⟨z1,z2,z3⟩:=sz_fits hr.1 hr.2 hs
    rw[z1]
    generalize (a.sz b).1.toNat=n at z2 z3 ⊢
    have tail:=fun eqv li=>dyTail hx hy g eqv li n (by omega) z3
    have fin:∀ (eqv li:Bool),∃ w,(match dyL (dyF g (eqv&&(a.ru != b.ru))) (qdb a b 0 n) with
      | .inl c=>some (PV.tup [qsd,I c],())
      | .inr r=>some (PV.tup [.agg [.bool li,.bool false,.sl 1 (qd3 r) false],I 0],()))=some (PV.tup [w,I (match dyL (dyF g (eqv&&(a.ru != b.ru))) (qdb a b 0 n) with
       | .inl c=>(qf2,c)
       | .inr r=>((⟨li,false,r⟩:Arr),0)).2],())∧IsA w (match dyL (dyF g (eqv&&(a.ru != b.ru))) (qdb a b 0 n) with
       | .inl c=>(qf2,c)
       | .inr r=>((⟨li,false,r⟩:Arr),0)).1:=by
     intro eqv li
     cases dyL (dyF g (eqv&&(a.ru != b.ru))) (qdb a b 0 n) with
     | inl c=>exact⟨_,rfl,qc2⟩
     | inr r=>exact⟨_,rfl,.mk _ _ _ _ (.sl _ _)⟩
    have bl:∀ li:Bool,qbb (.build [.bool false,.bool false,.nilS] [(0,(1,.c (.bool li)))])=some (.agg [.bool li,.bool false,.nilS]):=fun li=>rfl
    have ok3:∀ li:Bool,qbi (.agg [.bool li,.bool false,.nilS]) 3=true:=fun li=>rfl
    by_cases h1:g=gEq
    ·subst h1
     have q1:(gEq==[61])=true:=rfl
     have q2:Arr.isEq gEq=true:=rfl
     simp only[q1,q2,hs,ne_eq,not_true_eq_false,decide_false,Bool.false_eq_true,if_true,if_false,bl,qbg,ok3,qbk,Bool.not_true,Bool.false_and,Bool.true_and]
     cases hli:a.li with
     | true =>
      simp only[if_true,Bool.true_or]
      obtain⟨w,f1,f2⟩:=fin true true
      refine⟨w,Eq.trans (Eq.trans ?_ (tail true true)) f1,f2⟩
      rw[hli]
      rfl
     | false =>
      simp only[if_false,Bool.false_or,Bool.false_eq_true]
      obtain⟨w,f1,f2⟩:=fin true b.li
      refine⟨w,Eq.trans (Eq.trans ?_ (tail true b.li)) f1,f2⟩
      rw[hli]
      rfl
    ·have q1:(g==[61])=false:=by simpa[gEq] using h1
     simp only[q1,hs,ne_eq,not_true_eq_false,decide_false,Bool.false_eq_true,if_true,if_false,bl,qbg,ok3,qbk]
     rw[show qbi (.bool (g==[226,137,160])) 1=true from rfl,qbk,show qbd (.bool (g==[226,137,160])) 0=.bool (g==[226,137,160]) from rfl]
     have q2:Arr.isEq g=(g==[226,137,160]):=by
      unfold Arr.isEq
      rw[show (g==gEq)=false from q1,Bool.false_or];rfl
     rw[q2]
     simp only[qc1,qbg,qbh,htx,hty]
     cases h2:(g==[226,137,160]) with
     | true =>
      simp only[Bool.not_true,Bool.false_eq_true,if_false,Bool.false_and,Bool.true_and]
      cases hli:a.li with
      | true =>
       simp only[if_true,Bool.true_or]
       obtain⟨w,f1,f2⟩:=fin true true
       refine⟨w,Eq.trans (Eq.trans ?_ (tail true true)) f1,f2⟩
       rw[hli]
       rfl
      | false =>
       simp only[if_false,Bool.false_or,Bool.false_eq_true]
       obtain⟨w,f1,f2⟩:=fin true b.li
       refine⟨w,Eq.trans (Eq.trans ?_ (tail true b.li)) f1,f2⟩
       rw[hli]
       rfl
     | false =>
      simp only[Bool.not_false,if_true,Bool.true_and]
      cases ht1:a.text with
      | true=>simp only[if_true,Bool.true_or];exact⟨_,rfl,qc2⟩
      | false =>
       cases ht2:b.text with
       | true=>simp only[if_true,Bool.false_or,if_false,Bool.false_eq_true];exact⟨_,rfl,qc2⟩
       | false =>
        simp only[if_false,Bool.false_or,Bool.false_eq_true]
        cases hli:a.li with
        | true =>
         simp only[if_true,Bool.true_or]
         obtain⟨w,f1,f2⟩:=fin false true
         refine⟨w,Eq.trans (Eq.trans ?_ (tail false true)) f1,f2⟩
         rw[hli]
         rfl
        | false =>
         simp only[if_false,Bool.false_or,Bool.false_eq_true]
         obtain⟨w,f1,f2⟩:=fin false b.li
         refine⟨w,Eq.trans (Eq.trans ?_ (tail false b.li)) f1,f2⟩
         rw[hli]
         rfl
   ·simp only[hs,ne_eq,not_false_eq_true,decide_true,if_true]
    cases (g==[61]) with
    | true=>exact⟨qsd,rfl,qc2⟩
    | false=>exact⟨qsd,rfl,qc2⟩
  ·have hd':qqq g=false:=by simpa using hd
   simp only[hd',Bool.not_false,if_true]
   exact⟨qsd,rfl,qc2⟩
 ·have hr':(a.right&&b.right)=false:=by simpa using hr
  simp only[hr',Bool.false_eq_true,if_false,if_true]
  exact⟨qsd,rfl,qc2⟩
def monL (f:Int→Int×NE):List Int→Sum Int (List Int)
 | []=>.inr []
 | x :: l=>if (f x).2.no≠0 then .inl (f x).2.no else match monL f l with
  | .inl c=>.inl c
  | .inr r=>.inr ((f x).1 :: r)
def Arr.mon (g:List UInt8) (a:Arr):Arr×Int :=
 if a.right=false then (qf2,114)
 else if ql3 g=false then (qf2,102)
 else if a.text then (qf2,102)
 else match monL (Qba g) a.n with
  | .inl c=>(qf2,c)
  | .inr r=>(⟨a.li,false,r⟩,0)
theorem amonR {v:PV} {a:Arr} (hv:IsA v a) (hla:a.n.length≤1000000) (g:List UInt8) :
  ∃ w,qbj B0 .cl (.fn 36 []) [.str g,v]=some (.tup [w,I (Arr.mon g a).2])∧IsA w (Arr.mon g a).1:=by
 have hok:qb1 [.str g,v]=true:=by simp[qb1,okV,hv.ok]
 have hri:=qwf (.cons hv .nil) (by simp) (by intro c hc;simp at hc;rcases hc with rfl;assumption)
 have htx:=Qdq hv
 obtain⟨x,rfl,hx⟩:=hv.get
 suffices key:∃ w,qfy (qdo B0 (fun _=>.cl)) fn36 (.cl) qbc 0 [.cv (.str g),.cv (.agg [.bool a.li,.bool a.ru,x])] ()=some (.tup [w,I (Arr.mon g a).2],())∧IsA w (Arr.mon g a).1 by
  obtain⟨w,h1,h2⟩:=key
  exact⟨w,call (d:=fun _=>.cl) rfl (by decide) hok rfl h1,h2⟩
 rw[run36,qhm,Qbu rfl rfl hx.cell,qbk]
 simp only[qh7,qco,qvs,qn1,qmb,qbg,qbk,okSls3 hx]
 rw[show slO 3 3 [.agg [.bool a.li,.bool a.ru,x]] 0 (qbw [.agg [.bool a.li,.bool a.ru,x]])=.sl 3 [.agg [.bool a.li,.bool a.ru,x]] false from rfl,hri]
 simp only[qbg,Qmh,qbh,Qki,Qdn,List.all_cons,List.all_nil,Bool.and_true]
 unfold Arr.mon
 by_cases hr:a.right=true
 ·have hlen:=qr3 hr
  simp only[hr,if_true,ne_eq,not_true_eq_false,decide_false,Bool.false_eq_true,if_false,Qh9,qbg,qc1,qbh,Bool.true_eq_false]
  by_cases hd:ql3 g=true
  ·simp only[hd,Bool.not_true,Bool.false_eq_true,if_false,Bool.true_eq_false,htx,qbg,qbh]
   cases ht1:a.text with
   | true=>simp only[if_true];exact⟨_,rfl,qc2⟩
   | false =>
    simp only[Bool.false_eq_true,if_false]
    rw[show qbb (.build [.bool false,.bool false,.nilS] [(0,(1,.c (.bool a.li)))])=some (.agg [.bool a.li,.bool false,.nilS]) from rfl]
    simp only[qbg,hx.len]
    rw[show qbi (.agg [.bool a.li,.bool false,.nilS]) 3=true from rfl,qbk]
    unfold Qhj
    dsimp only [qjl]
    rw[show qci [.str g,x,I a.n.length,.int .i64 0]=true by simp only[qci,List.all_cons,hx.und];rfl,qbk]
    have key:∀ (m i:Nat) (acc:List Int),i+m=a.n.length→acc.length=i→∃ w,qgc (fun z16=>qba (qbb (.bin .lss .num false (.c (nth z16.1 3)) (.c (nth z16.1 2)))) (fun z17=>qca z17 (qba (qbb (.idxAddr 1 (.c (nth z16.1 1)) (.c (nth z16.1 3)))) (fun z18=>qba (qbb (.load 1 false (.c z18))) (fun z19=>qba (qbj B0 .cl (.fn 65 []) [nth z16.1 0,z19]) (fun z20=>qba (qbb (.extract 0 (.c z20))) (fun z21=>qba (qbb (.extract 1 (.c z20))) (fun z22=>qba (qbb (.bin .neq .num true (.c z22) (.c (.int .i64 0)))) (fun z23=>qca z23 (qba (qbb (.build [.bool false,.bool false,.nilS] [])) (fun z24=>qbn (qbi z24 3) (qba (some (PV.tup [.agg [qbd z24 0,qbd z24 1,qbd z24 2],z22],z16.2)) (fun z25=>some (.inr z25))))) (qbn (qdf 1 [z21]) (qbn (leN (qd5 0 (qbw [z21])) (qbw [z21])) (qbn (qnt (leN (qb7 (nth z16.1 9)) (qbw (qbs (nth z16.1 10)))) (leN (qd5 (qb7 (nth z16.1 9)) (qbw (qb2 (qbw [z21]) (qcx 0 [z21])))) 2147483648)) (qba (qbb (.bin .add .num true (.c (nth z16.1 3)) (.c (.int .i64 1)))) (fun z26=>some (.inl ([nth z16.1 0,nth z16.1 1,nth z16.1 2,z26,nth z16.1 4,nth z16.1 5,nth z16.1 6,nth z16.1 7,nth z16.1 8,nI (qd5 (qb7 (nth z16.1 9)) (qbw (qb2 (qbw [z21]) (qcx 0 [z21])))),.sl 1 (qqr (qb2 (qb7 (nth z16.1 9)) (qbs (nth z16.1 10))) (qb2 (qbw [z21]) (qcx 0 [z21]))) false],z16.2)))))))))))))) (qba (qbn (okU (PV.tup [.agg [nth z16.1 7,nth z16.1 8,slO 1 1 (qbs (nth z16.1 10)) 0 (qb7 (nth z16.1 9))],.int .i64 0])) (some (PV.tup [.agg [nth z16.1 7,nth z16.1 8,slO 1 1 (qbs (nth z16.1 10)) 0 (qb7 (nth z16.1 9))],.int .i64 0],z16.2))) (fun z27=>some (.inr z27))))) (([.str g,x,I a.n.length,I i,.bool false,.bool false,.nilS,.bool a.li,.bool false,nI acc.length,.sl 1 (qd3 acc) false],()):List PV×Unit) =
      some (.tup [w,I (match monL (Qba g) (a.n.drop i) with | .inl c=>(qf2,c) | .inr r=>((⟨a.li,false,acc++r⟩:Arr),0)).2],())∧IsA w (match monL (Qba g) (a.n.drop i) with | .inl c=>(qf2,c) | .inr r=>((⟨a.li,false,acc++r⟩:Arr),0)).1:=by
     intro m
     induction m with
     | zero =>
      intro i acc hi ha
      have hd0:a.n.drop i=[]:=List.drop_eq_nil_of_le (by omega)
      rw[hd0]
      have es:slO 1 1 (qd3 acc) 0 (qb7 (nI acc.length))=.sl 1 (qd3 acc) false:=by
       rw[qne,qdr,Int.toNat_natCast]
       unfold slO
       rw[if_pos ⟨rfl,by rw[qfo];omega⟩,List.drop_zero,List.take_of_length_le (by rw[qfo];exact Nat.le_refl _)]
      refine⟨.agg [.bool a.li,.bool false,.sl 1 (qd3 acc) false],qcr ?_,?_⟩
      ·have hlt:¬ ((i:Int) < (a.n.length:Int)):=by omega
       simp only[qfj,qgk,qg1,qbg,qbh,hlt,decide_false,Bool.false_eq_true,if_false]
       show qba (qbn (okU (PV.tup [.agg [.bool a.li,.bool false,slO 1 1 (qd3 acc) 0 (qb7 (nI acc.length))],.int .i64 0])) (some (PV.tup [.agg [.bool a.li,.bool false,slO 1 1 (qd3 acc) 0 (qb7 (nI acc.length))],.int .i64 0],()))) (fun z27=>some (Sum.inr z27))=_
       rw[es,show okU (PV.tup [.agg [.bool a.li,.bool false,.sl 1 (qd3 acc) false],.int .i64 0])=true by
        show okV _=true
        simp[okV,qb1,qsb],qbk]
       rfl
      ·simp only[monL,List.append_nil]
       exact .mk _ _ _ _ (.sl _ _)
     | succ m ih =>
      intro i acc hi ha
      have hlt:i < a.n.length:=by omega
      have hlt':(i:Int) < (a.n.length:Int):=by omega
      rw[qpo hlt]
      unfold monL
      by_cases hno:(Qba g a.n[i]).2.no=0
      ·simp only[hno,ne_eq,not_true_eq_false,if_false]
       rw[qf8 (s':=([.str g,x,I a.n.length,I ((i+1:Nat):Int),.bool false,.bool false,.nilS,.bool a.li,.bool false,nI (acc++[(Qba g a.n[i]).1]).length,.sl 1 (qd3 (acc++[(Qba g a.n[i]).1])) false],()))]
       ·obtain⟨w,h1,h2⟩:=ih (i+1) (acc++[(Qba g a.n[i]).1]) (by omega) (by simp[ha])
        cases hm:monL (Qba g) (a.n.drop (i+1)) with
        | inl c=>rw[hm] at h1 h2;exact⟨w,h1,h2⟩
        | inr r =>
         rw[hm] at h1 h2
         simp only[List.append_assoc,List.cons_append,List.nil_append] at h1 h2
         exact⟨w,h1,h2⟩
       ·simp only[qfb,qfa,qfj,qgk,qlj,qnd,qnr,qq7,qwl,qg1,qbg,qbh,hlt',decide_true,if_true,hx.idx hlt,Qcn,mon_run,qdq,List.getElem?_cons_zero,List.getElem?_cons_succ,qgq,qwr,hno,bne_self_eq_false,Bool.false_eq_true,if_false,Qhe,qbk]
        show qbn (leN (0+1) 1) (qbn (qnt (leN (qb7 (nI acc.length)) (qd3 acc).length) (leN (qb7 (nI acc.length)+1) 2147483648)) _)=_
        have e1:qb7 (nI acc.length)=acc.length:=by simp
        simp only[Qcp,qvi,e1,qfo]
        rw[show (decide (0+1≤1))=true from rfl,qbk,show (decide (acc.length≤acc.length)&&decide (acc.length+1≤2147483648))=true by simp;omega,qbk]
        simp only[Qbp,qbg,Qbc (by omega:i < 9223372036854775807)]
        show some (Sum.inl ([.str g,x,I a.n.length,I ((i+1:Nat):Int),.bool false,.bool false,.nilS,.bool a.li,.bool false,nI (qb7 (nI acc.length)+1),.sl 1 ((qd3 acc).take (qb7 (nI acc.length))++[I (Qba g a.n[i]).1]) false],()))=_
        rw[e1,List.take_of_length_le (by rw[qfo];exact Nat.le_refl _),List.length_append,show qd3 (acc++[(Qba g a.n[i]).1])=qd3 acc++[I (Qba g a.n[i]).1] by simp[qd3]]
        rfl
      ·simp only[hno,ne_eq,not_false_eq_true,if_true]
       refine⟨qsd,qcr ?_,qc2⟩
       have hb:((Qba g a.n[i]).2.no != 0)=true:=by simpa using hno
       simp only[qfb,qfa,qfj,qgk,qg1,qbg,qbh,hlt',decide_true,if_true,hx.idx hlt,Qcn,mon_run,qdq,List.getElem?_cons_zero,List.getElem?_cons_succ,qgq,qwr,hb,Qki]
       rfl
    have:=key a.n.length 0 [] (by omega) rfl
    simp only[List.drop_zero,List.nil_append,List.length_nil,show qd3 []=[] from rfl] at this
    exact this
  ·have hd':ql3 g=false:=by simpa using hd
   simp only[hd',Bool.not_false,if_true]
   exact⟨qsd,rfl,qc2⟩
 ·have hr':a.right=false:=by simpa using hr
  simp only[hr',Bool.false_eq_true,if_false,if_true]
  exact⟨qsd,rfl,qc2⟩
end Go.Ab.Derive2


namespace Go.Ab.Derive2
open Go Go.Ab
section
variable {x0 x1 x2 x3 x4 x5 x6 x7:PV}
theorem load_io {k:Int} (hv:qb1 [x1,x2,x3,x4,x5,x6,x7]=true):ioO B0 sh191 191 [.int .u32 k,x1,x2,x3,x4,x5,x6,x7]=some [.bool (k != 0),.int .u32 k,x1,x2,x3,x4,x5,x6,x7]:=by
 refine qc7 (qd0 fun _=>.cl) (fn:=fn191) rfl (Pf:=shs191) rfl (xs:=[]) (obs:=[]) rfl rfl (by simpa[qb1,okV] using hv) ?_
 rw[show shs191 [] []=sh191 from rfl,run191]
 rw[show qsq .u32 (.int .u32 k)=true from rfl,qbk,Qnn]
 rfl
theorem lock_io (hv:qb1 [x0,x2,x3,x4,x5,x6,x7]=true):ioO B0 sh203 203 [x0,.int .i32 0,x2,x3,x4,x5,x6,x7]=some [x0,.int .i32 1,x2,x3,x4,x5,x6,x7]:=by
 refine qc7 (qd0 fun _=>.cl) (fn:=fn203) rfl (Pf:=shs203) rfl (xs:=[]) (obs:=[]) rfl rfl (by simp[qb1,okV] at hv ⊢;exact hv) ?_
 rw[show shs203 [] []=sh203 from rfl,run203]
 rfl
theorem unlock_io (hv:qb1 [x0,x2,x3,x4,x5,x6,x7]=true):ioO B0 sh204 204 [x0,.int .i32 1,x2,x3,x4,x5,x6,x7]=some [x0,.int .i32 0,x2,x3,x4,x5,x6,x7]:=by
 refine qc7 (qd0 fun _=>.cl) (fn:=fn204) rfl (Pf:=shs204) rfl (xs:=[]) (obs:=[]) rfl rfl (by simp[qb1,okV] at hv ⊢;exact hv) ?_
 rw[show shs204 [] []=sh204 from rfl,run204]
 rfl
theorem b32_run:qbj B0 .cl (.fn 219 []) [.bool true]=some (.int .u32 1):=by
 refine call (d:=fun _=>.cl) rfl (by decide) rfl rfl ?_
 rw[List.map_cons,List.map_nil,run219]
 rfl
theorem store_io {k:Int} (hv:qb1 [x1,x2,x3,x4,x5,x6,x7]=true):ioO B0 sh205 205 [.bool true,.int .u32 k,x1,x2,x3,x4,x5,x6,x7]=some [.int .u32 1,x1,x2,x3,x4,x5,x6,x7]:=by
 refine qc7 (qd0 fun _=>.cl) (fn:=fn205) rfl (Pf:=shs205) rfl (xs:=[]) (obs:=[]) rfl rfl (by simpa[qb1,okV] using hv) ?_
 rw[show shs205 [] []=sh205 from rfl,run205]
 simp only[b32_run,qbg]
 rfl
end
end Go.Ab.Derive2


namespace Go.Ab.Derive2
open Go Go.Ab
theorem bO {α β:Type} {x:Option α} {f:α→Option β} {r:Option β} (a:α) (h:x=some a) (h2:f a=r):qba x f=r:=by subst h;exact h2
theorem cO {β:Type} {c:Bool} {x r:Option β} (h:c=true) (h2:x=r):qbn c x=r:=by subst h;exact h2
theorem iO {β:Type} {x y r:Option β} (h:x=r):qca (.bool true) x y=r:=h
def Qgf:PV:=.iface 124 (.agg [.int .i64 102])
section
variable {g:List UInt8} {n:Int} (hU:qbj B0 .cl (.fn 178 []) [.str g]=some (.tup [.int .i64 n,.bool false]))
include hU
theorem none_io:ioO B0 sh177 177 [.int .u32 0,.int .i32 1,.int .u32 0,.str g,.bool false,.bool false,.nilS,.nilI]=some [.int .u32 0,.int .i32 1,.int .u32 0,.str g,.bool false,.bool false,.nilS,Qgf]:=by
 refine qc7 (qd0 fun _=>.cl) (fn:=fn177) rfl (Pf:=shs177) rfl (xs:=[]) (obs:=[]) rfl rfl rfl ?_
 rw[show shs177 [] []=sh177 from rfl,run177]
 refine bO _ hU ?_
 refine bO (.int .i64 n) rfl ?_
 refine bO (.bool false) rfl ?_
 refine cO rfl ?_
 refine bO (.bool true) rfl ?_
 refine iO ?_
 rfl
theorem slow_io:ioO B0 sh192 192 [.int .u32 0,.int .i32 0,.int .u32 0,.str g,.bool false,.bool false,.nilS,.nilI]=some [.int .u32 1,.int .i32 0,.int .u32 0,.str g,.bool false,.bool false,.nilS,Qgf]:=by
 refine qc7 (qd0 fun _=>.cl) (fn:=fn192) rfl (Pf:=shs192) rfl (xs:=[]) (obs:=[]) rfl rfl rfl ?_
 rw[show shs192 [] []=sh192 from rfl,run192]
 refine bO _ (lock_io rfl) ?_
 refine bO _ (load_io (k:=0) rfl) ?_
 refine bO (.bool true) rfl ?_
 refine iO ?_
 refine bO _ (none_io hU) ?_
 refine bO _ (store_io (k:=0) rfl) ?_
 refine bO _ (unlock_io rfl) ?_
 rfl
theorem do_io:ioO B0 sh176 176 [.int .u32 0,.int .i32 0,.int .u32 0,.str g,.bool false,.bool false,.nilS,.nilI]=some [.int .u32 1,.int .i32 0,.int .u32 0,.str g,.bool false,.bool false,.nilS,Qgf]:=by
 refine qc7 (qd0 fun _=>.cl) (fn:=fn176) rfl (Pf:=shs176) rfl (xs:=[]) (obs:=[]) rfl rfl rfl ?_
 rw[show shs176 [] []=sh176 from rfl,run176]
 refine bO _ (load_io (k:=0) rfl) ?_
 refine bO (.bool true) rfl ?_
 refine iO ?_
 refine bO _ (slow_io hU) ?_
 rfl
theorem empty_io:ioO B0 sh148 148 [.int .u32 0,.int .i32 0,.int .u32 0,.str g,.bool false,.bool false,.nilS,.nilI]=some [.agg [.bool false,.bool false,.nilS],Qgf,.int .u32 1,.int .i32 0,.int .u32 0,.str g,.bool false,.bool false,.nilS,Qgf]:=by
 refine qc7 (qd0 fun _=>.cl) (fn:=fn148) rfl (Pf:=shs148) rfl (xs:=[]) (obs:=[]) rfl rfl rfl ?_
 rw[show shs148 [] []=sh148 from rfl,run148]
 refine bO _ (do_io hU) ?_
 rfl
end
end Go.Ab.Derive2


namespace Go.Ab.Derive2
open Go Go.Ab
theorem of_io {g:List UInt8}:ioO B0 sh49 49 [.str g]=some [.int .u32 0,.int .i32 0,.int .u32 0,.str g,.bool false,.bool false,.nilS,.nilI]:=by
 refine qc7 (qd0 fun _=>.cl) (fn:=fn49) rfl (Pf:=shs49) rfl (xs:=[]) (obs:=[]) rfl rfl rfl ?_
 rw[show shs49 [] []=sh49 from rfl,run49]
 rfl
theorem Qlb {g:List UInt8} {n:Int} (hU:qbj B0 .cl (.fn 178 []) [.str g]=some (.tup [.int .i64 n,.bool false])) {v x:PV} (hv:okV v=true) (h1:qh3 v=true) (h2:qb0 v 2 1 false=some x) (h3:qbb (.len .slice (.c x))=some (.int .i64 0)) :
  ioO B0 sh84 84 [v,.int .u32 0,.int .i32 0,.int .u32 0,.str g,.bool false,.bool false,.nilS,.nilI]=some [.agg [.bool false,.bool false,.nilS],Qgf,.int .u32 1,.int .i32 0,.int .u32 0,.str g,.bool false,.bool false,.nilS,Qgf]:=by
 refine qc7 (qd0 fun _=>.cl) (fn:=fn84) rfl (Pf:=shs84) rfl (xs:=[]) (obs:=[]) rfl rfl (by simp[qb1,okV,hv]) ?_
 rw[show shs84 [] []=sh84 from rfl,run84]
 refine cO h1 ?_
 refine bO x h2 ?_
 refine bO _ h3 ?_
 refine bO (.bool true) rfl ?_
 refine iO ?_
 refine bO _ (empty_io hU) ?_
 rfl
end Go.Ab.Derive2


namespace Go.Ab.Derive2
open Go Go.Ab
theorem qxv {E α β:Type} {B:KB} {h:qbf E} {dep:Nat} {f:PV} {e:E} {K:E→Option β} (st:Nat→α→E) (l:List (List PV)) (P:Nat→α→Prop) (Q:β→Prop) (hr:∀ {e'},qc6 h dep l e=some e'→qf0 B h dep f e=some e') {a0:α} (he0:e=st 0 a0) (h0:P 0 a0)
  (hs:∀ i a (hi:i < l.length),P i a→(∃ a',h dep l[i] (st i a)=some (true,st (i+1) a')∧P (i+1) a')∨∃ e',h dep l[i] (st i a)=some (false,e')∧∃ r,K e'=some r∧Q r)
  (he:∀ a,P l.length a→∃ r,K (st l.length a)=some r∧Q r):∃ r,qba (qf0 B h dep f e) K=some r∧Q r:=by
 obtain⟨e',h1,r,h2,h3⟩:=Qge (h:=h) (d:=dep) st l P (fun e'=>∃ r,K e'=some r∧Q r) hs he h0
 subst he0
 refine⟨r,?_,h3⟩
 rw[hr h1]
 exact h2
theorem dyn_run {v u:PV} {a b:Arr} (hv:IsA v a) (hu:IsA u b) (hla:a.n.length≤1000000) (hlb:b.n.length≤1000000) {g:List UInt8} (hg:qqq g=true) :
  ∃ w,qbj B0 .cl (.fn 16 []) [.str g,v,u]=some (.tup [w,I (Arr.dy g a b).2])∧IsA w (Arr.dy g a b).1:=by
 obtain⟨w,h1,h2⟩:=adyR hv hu hla hlb g
 refine⟨w,call (d:=fun _=>.cl) rfl (by decide) (by simp[qb1,okV,hv.ok,hu.ok]) rfl ?_,h2⟩
 rw[List.map_cons,List.map_cons,List.map_cons,List.map_nil,run16,qgt hv,cT,qgt hu,cT,Qpb,bV,hg]
 simp only[qbh,if_true,qkx hv,qkx hu,bV,h1,qdq,List.getElem?_cons_zero,List.getElem?_cons_succ,qcb h2,cT,qg0 h2]
theorem monn_run {v:PV} {a:Arr} (hv:IsA v a) (hla:a.n.length≤1000000) {g:List UInt8} (hg:ql3 g=true) :
  ∃ w,qbj B0 .cl (.fn 13 []) [.str g,v]=some (.tup [w,I (Arr.mon g a).2])∧IsA w (Arr.mon g a).1:=by
 obtain⟨w,h1,h2⟩:=amonR hv hla g
 refine⟨w,call (d:=fun _=>.cl) rfl (by decide) (by simp[qb1,okV,hv.ok]) rfl ?_,h2⟩
 rw[List.map_cons,List.map_cons,List.map_nil,run13,qgt hv,cT,Qh9,bV,hg]
 simp only[qbh,if_true,qkx hv,bV,h1,qdq,List.getElem?_cons_zero,List.getElem?_cons_succ,qcb h2,cT,qg0 h2]
theorem Qb6 {v:PV} {a:Arr} (hv:IsA v a) (c:Int):∃ w,qbj B0 .cl (.fn 150 []) [v,I c]=some (.tup [w,qqe c])∧IsA w (if c=0 then a else qf2):=by
 by_cases h:c=0
 ·subst h
  refine⟨v,call (d:=fun _=>.cl) rfl (by decide) (by simp[qb1,okV,hv.ok,I]) rfl ?_,by rw[if_pos rfl];exact hv⟩
  rw[List.map_cons,List.map_cons,List.map_nil,run150,qgt hv,cT,iD,qwr,bV]
  simp only[qbh,bne_self_eq_false,Bool.false_eq_true,if_false,qkx hv,bV,qcb hv,cT,qg0 hv]
  rfl
 ·refine⟨qsd,call (d:=fun _=>.cl) rfl (by decide) (by simp[qb1,okV,hv.ok,I]) rfl ?_,by rw[if_neg h];exact qc2⟩
  rw[List.map_cons,List.map_cons,List.map_nil,run150,qgt hv,cT,iD,qwr,bV]
  rw[qbh,if_pos (by simpa using h),show qbb (.build [I 0] [(0,(1,.c (I c)))])=some (.agg [I c]) from rfl,bV,show qqe c=.iface 124 (.agg [I c]) from if_neg h]
  rfl
def qwq (vs:List PV):List (List PV):=(List.range vs.length).map fun i=>[I ((vs.length - 1 - i:Nat):Int),vs.getD (vs.length - 1 - i) .undef]
theorem back_fn {vs:List PV} (f:Bool) (hok:qb1 vs=true):qbj B0 .cl (.fn 149 []) [.sl 3 vs f]=some (.fn 179 [.ptr [.sl 3 vs f] 0]):=by
 refine call (d:=fun _=>.cl) rfl (by decide) (by simp[qb1,okV,hok]) rfl ?_
 rw[List.map_cons,List.map_nil,run149,show qh3 (.sl 3 vs f)=true from rfl,cT]
 have:okU (.fn 179 [.ptr [.sl 3 vs f] 0])=true:=by simp[okU,okV,qb1,hok]
 show qbn (okU (.fn 179 [.ptr [.sl 3 vs f] 0])) _=_
 rw[this];rfl
theorem back_range {E:Type} (h:qbf E) (dep:Nat) {vs:List PV} (f:Bool) (hok:qb1 vs=true) (hl:vs.length≤1000000) (hs:∀ v∈vs,∃ a b c,v=.agg [a,b,c]) {e e':E} (hy:qc6 h dep (qwq vs) e=some e') :
  qf0 B0 h dep (.fn 179 [.ptr [.sl 3 vs f] 0]) e=some e':=by
 refine qlo (qd0 fun _=>.cl) (g:=179) (fn:=fn179) rfl (by simp[qb1,okV,hok]) (Nat.le_of_ble_eq_true rfl) (u:=.tup []) ?_
 simp only[List.map_cons,List.map_nil]
 have l1:qbb (.load 1 false (.c (.ptr [.sl 3 vs f] 0)))=some (.sl 3 vs f):=rfl
 have hlen:(qwq vs).length=vs.length:=by simp[qwq]
 rw[run179,l1,bV,qk2,bV,iD,iD,Qks,w64 (by omega) (by omega),bV,show qci [nI dep,.ptr [.sl 3 vs f] 0,I ((vs.length:Int) - 1)]=true from rfl,cT]
 have hgo:∀ i,i < vs.length→(qwq vs)[i]?=some [I ((vs.length - 1 - i:Nat):Int),vs.getD (vs.length - 1 - i) .undef]∧∃ a b c,vs[vs.length - 1 - i]?=some (.agg [a,b,c])∧vs.getD (vs.length - 1 - i) .undef=.agg [a,b,c]:=by
  intro i hi
  refine⟨by simp[qwq,hi],?_⟩
  have hlt:vs.length - 1 - i < vs.length:=by omega
  obtain⟨a,b,c,habc⟩:=hs _ (List.getElem_mem hlt)
  exact⟨a,b,c,by rw[List.getElem?_eq_getElem hlt,habc],by rw[List.getD_eq_getElem?_getD,List.getElem?_eq_getElem hlt,habc];rfl⟩
 have e0:∀ i,i < vs.length→(vs.length:Int) - 1 - (i:Int)=((vs.length - 1 - i:Nat):Int):=by intro i hi;omega
 rw[show (vs.length:Int) - 1=(vs.length:Int) - 1 - ((0:Nat):Int) by simp]
 refine (qtv (h:=h) (d:=dep) (fun i=>[nI dep,.ptr [.sl 3 vs f] 0,I ((vs.length:Int) - 1 - (i:Int))]) (qwq vs) (fun e=>(PV.tup [],e)) ?_ ?_ ?_ hy)
 ·intro i hi e e' hq
  rw[hlen] at hi
  obtain⟨g1,a,b,c,g2,g3⟩:=hgo i hi
  rw[(List.getElem?_eq_some_iff.1 g1).2,g3] at hq
  simp only[qfb,qfa,qfj]
  rw[e0 i hi]
  simp only[iD,I_geq,bV,qbh]
  rw[if_pos (by simpa using Int.natCast_nonneg _)]
  simp only[l1,bV,lidx3 g2,load3,qne,qdr,qse,Int.toNat_natCast,hq,qc1,Bool.not_true,qbh,Bool.false_eq_true,if_false,Qks]
  rw[w64 (by omega) (by omega),show ((vs.length - 1 - i:Nat):Int) - 1=(vs.length:Int) - 1 - ((i+1:Nat):Int) by omega]
 ·intro i hi e e' hq
  rw[hlen] at hi
  obtain⟨g1,a,b,c,g2,g3⟩:=hgo i hi
  rw[(List.getElem?_eq_some_iff.1 g1).2,g3] at hq
  simp only[qfb,qfa,qfj]
  rw[e0 i hi]
  simp only[iD,I_geq,bV,qbh]
  rw[if_pos (by simpa using Int.natCast_nonneg _)]
  simp only[l1,bV,lidx3 g2,load3,qne,qdr,qse,Int.toNat_natCast,hq,qc1,Bool.not_false,qbh,if_true]
 ·intro e
  rw[hlen]
  simp only[qfb,qfa,qfj,iD,I_geq,bV,qbh]
  rw[if_neg (by simp;omega)]
end Go.Ab.Derive2


namespace Go.Ab.Derive2
open Go Go.Ab
theorem Qch (a0 a1 a2 a3 a4 a5 a6 a7 a8 a9 a10 a11 a12 a13 x:PV) (l:List PV):nth (a0 :: a1 :: a2 :: a3 :: a4 :: a5 :: a6 :: a7 :: a8 :: a9 :: a10 :: a11 :: a12 :: a13 :: x :: l) 14=x:=rfl
theorem Qcg (a0 a1 a2 a3 a4 a5 a6 a7 a8 a9 a10 a11 a12 a13 a14 x:PV) (l:List PV):nth (a0 :: a1 :: a2 :: a3 :: a4 :: a5 :: a6 :: a7 :: a8 :: a9 :: a10 :: a11 :: a12 :: a13 :: a14 :: x :: l) 15=x:=rfl
def fresh (g:List UInt8):List PV:=[.int .u32 0,.int .i32 0,.int .u32 0,.str g,.bool false,.bool false,.nilS,.nilI]
def Qni (D:Arr→Arr→Arr×Int):List Arr→Arr→Arr×Int
 | [],o=>(o,0)
 | x :: xs,o=>if (D x o).2=0 then Qni D xs (D x o).1 else (qf2,(D x o).2)
def qz9 (D:Arr→Arr→Arr×Int) (N:Arr×Int) (b:Arr):Arr×Int :=
 match b.n.reverse with
 | []=>N
 | n :: r=>Qni D (r.map (qgs b.ru)) (qgs b.ru n)
structure DyOK (g:List UInt8) (D:Arr→Arr→Arr×Int):Prop where
 run:∀ {v u:PV} {a b:Arr},IsA v a→IsA u b→a.n.length≤1000000→b.n.length≤1000000→∃ w,qbj B0 .cl (.fn 16 []) [.str g,v,u]=some (.tup [w,I (D a b).2])∧IsA w (D a b).1
 le:∀ a b,(D a b).1.n.length≤1000000
theorem redF_le {D:Arr→Arr→Arr×Int} (hD:∀ a b,(D a b).1.n.length≤1000000):∀ (l:List Arr) (o:Arr),o.n.length≤1000000→(Qni D l o).1.n.length≤1000000
 | [],_,h=>h
 | x :: xs,o,h=>by
  unfold Qni
  split
  ·exact redF_le hD xs _ (hD x o)
  ·simp[qf2]
theorem qyl {b:Arr} (h:b.n≠[]):∃ r m,b.n=r.reverse++[m]∧b.n.reverse=m :: r:=by
 cases hr:b.n.reverse with
 | nil=>exact absurd (List.reverse_eq_nil_iff.1 hr) h
 | cons m r =>
  refine⟨r,m,?_,rfl⟩
  have:=congrArg List.reverse hr
  simpa using this
theorem sl_hi {k m:Nat} {xs:List PV} {f:Bool} (h:m≤xs.length):qbb (.slice k (.c (.sl k xs f)) none (some (.c (I m))) none)=some (.sl k (xs.take m) (f&&m==xs.length)):=by
 simp[qbb,exec,RX.ev,evO,qlg,qns,chk,I,h,qh6]
theorem qpn (c:Int):qbd (qqe c) 0=qqe c:=by unfold qqe;split<;>rfl
theorem qx1 (c:Int):qbi (qqe c) 1=true:=by unfold qqe;split<;>rfl
theorem itm_agg (ru:Bool) (n:Int):PV.agg [qbd (qyv ru n) 0,qbd (qyv ru n) 1,qbd (qyv ru n) 2]=qyv ru n:=rfl
theorem qxu {g:List UInt8} {D:Arr→Arr→Arr×Int} (hD:DyOK g D) (N:Arr×Int) {v:PV} {b:Arr} (hv:IsA v b) (hl:b.n.length≤1000000) (hne:b.n≠[]) :
  ∃ w,ioO B0 sh84 84 (v :: fresh g)=some (w :: qqe (qz9 D N b).2 :: fresh g)∧IsA w (qz9 D N b).1:=by
 obtain⟨x,rfl,hx⟩:=hv.get
 suffices key:∃ rs,qfz (qdo B0 fun _=>.cl) fn84 sh84 (.agg [.bool b.li,.bool b.ru,x] :: fresh g)=some rs∧∃ w,rs=w :: qqe (qz9 D N b).2 :: fresh g∧IsA w (qz9 D N b).1 by
  obtain⟨rs,h1,w,rfl,h2⟩:=key
  exact⟨w,qc7 (qd0 fun _=>.cl) (fn:=fn84) rfl (Pf:=shs84) rfl (xs:=[]) (obs:=[]) rfl rfl (by simp[qb1,okV,hx.ok,fresh]) h1,h2⟩
 obtain⟨r,m,hb,hbr⟩:=qyl hne
 have hpos:0 < b.n.length:=by rw[hb];simp
 have hrl:r.length+1=b.n.length:=by rw[hb];simp
 have hR:qz9 D N b=Qni D (r.map (qgs b.ru)) (qgs b.ru m):=by unfold qz9;rw[hbr]
 have hvs:b.n.map (qyv b.ru)=r.reverse.map (qyv b.ru)++[qyv b.ru m]:=by rw[hb];simp
 unfold fresh
 rw[run84,qvk hx,cT]
 simp only[qh7,qco,qmb,qvs,bV,hx.len,iD,qpv,qbh]
 rw[if_neg (by simp;omega),agg33 hx,bV,Qpa hx,bV]
 rw[Qmr (f:=.fn 93 [.ptr [.bool b.li,.bool b.ru,x] 0]) (l:=b.n.map (qgs b.ru)) (vs:=b.n.map (qyv b.ru)) (by simp[okV,qb1,hx.ok]) (Qfj _ _) (by simpa using hl) fun h e e' hq=>qyw h 0 hx hl (by rw[List.map_map] at hq;exact hq),bV,qk2,bV]
 rw[List.length_map,iD,Qks,w64 (by omega) (by omega),bV,show (b.n.length:Int) - 1=((r.length:Nat):Int) by omega]
 have hlast:(b.n.map (qyv b.ru))[r.length]?=some (.agg [.bool false,.bool b.ru,.sl 1 [I m] false]):=by
  rw[hvs,List.getElem?_append_right (by simp)];simp[qyv]
 rw[lidx3 hlast,bV,load3,bV,show qbi (.agg [.bool false,.bool b.ru,.sl 1 [I m] false]) 3=true from rfl,cT]
 rw[bV,Qks,w64 (by omega) (by omega),bV,show (b.n.length:Int) - 1=((r.length:Nat):Int) by omega]
 rw[sl_hi (k:=3) (m:=r.length) (by rw[List.length_map];omega),bV]
 have htake:(b.n.map (qyv b.ru)).take r.length=r.reverse.map (qyv b.ru):=by
  rw[hvs,List.take_append_of_le_length (by simp)]
  exact List.take_of_length_le (by simp)
 rw[htake]
 generalize hus:r.reverse.map (qyv b.ru)=us
 have husl:us.length=r.length:=by rw[←hus];simp
 have husok:qb1 us=true:=by
  rw[←hus]
  exact (Qfj b.ru r.reverse).ok
 have hust:∀ v∈us,∃ a b c,v=.agg [a,b,c]:=by
  intro v hv
  rw[←hus] at hv
  obtain⟨n,_,rfl⟩:=List.mem_map.1 hv
  exact⟨_,_,_,rfl⟩
 have hbl:(qwq us).length=r.length:=by simp[qwq,husl]
 have hbi:∀ i (hi:i < r.length) (h2:i < (qwq us).length),(qwq us)[i]=[I ((r.length - 1 - i:Nat):Int),qyv b.ru r[i]]:=by
  intro i hi h2
  simp only[qwq,List.getElem_map,List.getElem_range,husl]
  rw[←hus,List.getD_eq_getElem?_getD,List.getElem?_map,List.getElem?_reverse (by omega),show r.length - 1 - (r.length - 1 - i)=i by omega,List.getElem?_eq_getElem hi]
  rfl
 rw[back_fn _ husok,bV,hR]
 clear hR
 generalize hRR:Qni D (r.map (qgs b.ru)) (qgs b.ru m)=R
 let z16:PV:=.fn 179 [.ptr [.sl 3 us (false&&r.length==(b.n.map (qyv b.ru)).length)] 0]
 refine qxv (fun _ w=>(([z16,.int .u32 0,.int .i32 0,.int .u32 0,.str g,.bool false,.bool false,.nilS,.nilI,.bool false,.bool false,.nilS,.nilI,qbd w 0,qbd w 1,qbd w 2],(none,())):KRec Unit)) (qwq us)
  (fun i w=>∃ o,IsA w o∧o.n.length≤1000000∧Qni D ((r.drop i).map (qgs b.ru)) o=R)
  (fun rs=>∃ w,rs=w :: qqe R.2 :: fresh g∧IsA w R.1)
  (fun hq=>back_range _ 0 _ husok (by omega) hust hq) (a0:=qyv b.ru m) rfl ⟨qgs b.ru m,itm_is _ _,by simp[qgs],hRR⟩ ?_ ?_
 ·rintro i w hi ⟨o,hw,ho,hq⟩
  have hi':i < r.length:=by omega
  rw[hbi i hi' hi]
  rw[List.drop_eq_getElem_cons hi',List.map_cons] at hq
  unfold Qni at hq
  obtain⟨w2,h1,h2⟩:=hD.run (itm_is b.ru r[i]) hw (by simp[qgs]) ho
  obtain⟨w3,h3,h4⟩:=Qb6 h2 (D (qgs b.ru r[i]) o).2
  simp only[qd6,if_true,qfb,qfa,qfj,qgk,qlj,qnd,qnr,qq7,qwl,Qbj,qyb,qya,qx9,qx8,Qch,Qcg]
  rw[show qgx [I ((r.length - 1 - i:Nat):Int),qyv b.ru r[i]] 2=true from rfl,cT,show qbi (qyv b.ru r[i]) 3=true from rfl,cT,itm_agg,qg0 hw,h1,bV]
  simp only[qdq,List.getElem?_cons_zero,List.getElem?_cons_succ,bV,h3,qcb h4,cT,Qfz,qbh]
  by_cases hc:(D (qgs b.ru r[i]) o).2=0
  ·left
   refine⟨w3,?_,(D (qgs b.ru r[i]) o).1,by rw[if_pos hc] at h4;exact h4,hD.le _ _,by rw[if_pos hc] at hq;exact hq⟩
   rw[if_neg (by simpa using hc)]
  ·right
   rw[if_pos (by simpa using hc)]
   rw[if_neg hc] at hq
   refine⟨_,by rw[qx1,cT],?_⟩
   refine⟨_,rfl,qsd,?_,by rw[←hq];exact qc2⟩
   rw[←hq,qpn]
   rfl
 ·rintro w ⟨o,hw,ho,hq⟩
  rw[hbl,List.drop_length,List.map_nil] at hq
  unfold Qni at hq
  refine⟨_,rfl,w,?_,by rw[←hq];exact hw⟩
  rw[←hq]
  simp only[qfb,qfa,qfj,qgk,qlj,qnd,qnr,qq7,qwl,Qbj,qyb,qya,qx9,qx8,Qch,Qcg,qg0 hw]
  rfl
def headV (ru:Bool) (l:List Int) (i:Nat):PV:=.agg [.bool true,.bool ru,.sl 1 (qd3 (l.take (i+1))) true]
def Qjg (ru:Bool) (l:List Int) (i:Nat):Arr:=⟨true,ru,l.take (i+1)⟩
theorem head_is (ru:Bool) (l:List Int) (i:Nat):IsA (headV ru l i) (Qjg ru l i):=.mk _ _ _ _ (.sl _ _)
theorem heads_fn {a:Arr} {x:PV} (h:IsL x a.n):qbj B0 .cl (.fn 87 []) [.agg [.bool a.li,.bool a.ru,x]]=some (.fn 151 [.ptr [.bool a.li,.bool a.ru,x] 0]):=by
 refine call (d:=fun _=>.cl) rfl (by decide) (by simp[qb1,okV,h.ok]) rfl ?_
 rw[List.map_cons,List.map_nil,run87,qvk h,cT]
 have:okU (.fn 151 [.ptr [.bool a.li,.bool a.ru,x] 0])=true:=by simp[okU,okV,qb1,h.ok]
 show qbn (okU (.fn 151 [.ptr [.bool a.li,.bool a.ru,x] 0])) _=_
 rw[this];rfl
theorem hi3 {l:List Int} {k:Nat} {f:Bool} (h:k≤l.length):qbb (.slice 1 (.c (.sl 1 (qd3 l) f)) none (some (.c (I k))) (some (.c (I k))))=some (.sl 1 (qd3 (l.take k)) true):=by
 have h2:k≤(qd3 l).length:=by rw[qfo];exact h
 simp[qbb,exec,RX.ev,evO,qlg,qns,chk,I,h2,qyz,qh6]
theorem Ql6 {E:Type} (h:qbf E) (dep:Nat) {a:Arr} {x:PV} (hx:IsL x a.n) (hl:a.n.length≤1000000) {e e':E} (hy:qc6 h dep ((List.range a.n.length).map fun i=>[headV a.ru a.n i]) e=some e') :
  qf0 B0 h dep (.fn 151 [.ptr [.bool a.li,.bool a.ru,x] 0]) e=some e':=by
 refine qlo (qd0 fun _=>.cl) (g:=151) (fn:=fn151) rfl (by simp[qb1,okV,hx.ok]) (Nat.le_of_ble_eq_true rfl) (u:=.tup []) ?_
 simp only[List.map_cons,List.map_nil]
 rw[run151,fa3_0,bV,fa3_2,bV,ld3_2,bV,hx.len,bV,show qci [nI dep,.ptr [.bool a.li,.bool a.ru,x] 0,I a.n.length,.int .i64 0]=true from rfl,cT]
 have hsl:∀ i,i < a.n.length→qbb (.slice 1 (.c x) none (some (.c (I ((i+1:Nat):Int)))) (some (.c (I ((i+1:Nat):Int)))))=some (.sl 1 (qd3 (a.n.take (i+1))) true):=by
  intro i hi
  generalize hn:a.n=n at hx hi
  cases hx with
  | nil=>simp at hi
  | sl l f=>exact hi3 (by omega)
 have hbd:∀ (ru:Bool) (l:List Int),qbb (.build [.bool false,.bool false,.nilS] [(0,(1,.c (.bool true))),(1,(1,.c (.bool ru))),(2,(1,.c (.sl 1 (qd3 l) true)))])=some (.agg [.bool true,.bool ru,.sl 1 (qd3 l) true]):=fun _ _=>rfl
 refine (qtv (h:=h) (d:=dep) (fun i=>[nI dep,.ptr [.bool a.li,.bool a.ru,x] 0,I a.n.length,I i]) ((List.range a.n.length).map fun i=>[headV a.ru a.n i]) (fun e=>(PV.tup [],e)) ?_ ?_ ?_ hy)
 ·intro i hi e e' hq
  rw[List.length_map,List.length_range] at hi
  rw[List.getElem_map,List.getElem_range] at hq
  simp only[qfb,qfa,qfj,qgk,qg1,bV,qbh]
  rw[if_pos (by simpa using hi)]
  simp only[fa3_0,fa3_1,fa3_2,ld3_1,ld3_2,bV,iD,Qbp,Qbc (by omega:i < 9223372036854775807),hsl i hi,hbd]
  rw[show PV.agg [.bool true,.bool a.ru,.sl 1 (qd3 (a.n.take (i+1))) true]=headV a.ru a.n i from rfl]
  simp only[qne,qdr,qse,Int.toNat_natCast,hq,bV,qc1,Bool.not_true,qbh,Bool.false_eq_true,if_false]
 ·intro i hi e e' hq
  rw[List.length_map,List.length_range] at hi
  rw[List.getElem_map,List.getElem_range] at hq
  simp only[qfb,qfa,qfj,qgk,qg1,bV,qbh]
  rw[if_pos (by simpa using hi)]
  simp only[fa3_0,fa3_1,fa3_2,ld3_1,ld3_2,bV,iD,Qbp,Qbc (by omega:i < 9223372036854775807),hsl i hi,hbd]
  rw[show PV.agg [.bool true,.bool a.ru,.sl 1 (qd3 (a.n.take (i+1))) true]=headV a.ru a.n i from rfl]
  simp only[qne,qdr,qse,Int.toNat_natCast,hq,bV,qc1,Bool.not_false,qbh,if_true]
 ·intro e
  rw[List.length_map,List.length_range]
  simp only[qfb,qfa,qfj,qgk,qg1,bV,qbh,Int.lt_irrefl,decide_false,Bool.false_eq_true,if_false]
end Go.Ab.Derive2


namespace Go.Ab.Derive2
open Go Go.Ab
def thrF (F:Arr→Arr×Int):List Arr→Sum Int (List Arr)
 | []=>.inr []
 | a :: l=>if (F a).2=0 then (match thrF F l with
  | .inl c=>.inl c
  | .inr r=>.inr ((F a).1 :: r)) else .inl (F a).2
theorem qxe (F:Arr→Arr×Int) (a:Arr) (l:List Arr):thrF F (a :: l)=if (F a).2=0 then (match thrF F l with
  | .inl c=>.inl c
  | .inr r=>.inr ((F a).1 :: r)) else .inl (F a).2:=rfl
def thrJ (acc:List Arr):Sum Int (List Arr)→Sum Int (List Arr)
 | .inl c=>.inl c
 | .inr r=>.inr (acc++r)
theorem Qna (x:Sum Int (List Arr)):thrJ [] x=x:=by cases x<;>rfl
def qws (F:Arr→Arr×Int) (b:Arr) (l:List Arr):Arr×Int :=
 match thrF F l with
 | .inl c=>(qf2,c)
 | .inr r=>(gatA b.li b.ru r,Qbm b.li r)
theorem Qnu {v:PV} {a:Arr} (h:IsA v a):qdf 3 [v]=true:=by
 obtain⟨x,rfl,hx⟩:=h.get
 exact okSls3 hx
theorem Qp5 {v:PV} {a:Arr} (h:IsA v a):qbb (.build [.bool false,.bool false,.nilS] [(0,(3,.c v))])=some v:=by
 obtain⟨x,rfl,hx⟩:=h.get
 exact agg33 hx
theorem through_0 {g:List UInt8} {F:Arr→Arr×Int} {v fv:PV} {b:Arr} {vs:List PV} {l:List Arr} (hv:IsA v b) (hf:okV fv=true) (hvs:Qbr vs l) (hl:l.length≤1000000)
  (hr:∀ {E:Type} (h:qbf E) {e e':E},qc6 h 0 (vs.map fun v=>[v]) e=some e'→qf0 B0 h 0 fv e=some e')
  (hdo:∀ {v:PV} {a:Arr},IsA v a→a∈l→∃ w,ioO B0 sh84 84 (v :: fresh g)=some (w :: qqe (F a).2 :: fresh g)∧IsA w (F a).1) (hF:∀ a∈l,(F a).1.n.length≤1000000) :
  ∃ w,ioO B0 Qgt 86 (v :: fv :: fresh g)=some (w :: qqe (qws F b l).2 :: fresh g)∧IsA w (qws F b l).1:=by
 suffices key:∃ rs,qfz (qdo B0 fun _=>.cl) fn86 Qgt (v :: fv :: fresh g)=some rs∧∃ w,rs=w :: qqe (qws F b l).2 :: fresh g∧IsA w (qws F b l).1 by
  obtain⟨rs,h1,w,rfl,h2⟩:=key
  exact⟨w,qc7 (qd0 fun _=>.cl) (fn:=fn86) rfl (Pf:=shs86) rfl (xs:=[.cv .nilI,.cv .nilI,.fn 1000084 []]) (obs:=[]) rfl rfl (by simp[qb1,okV,hv.ok,hf,fresh]) h1,h2⟩
 have hlen:=hvs.len
 unfold fresh
 rw[run86_0,qgt hv,cT]
 refine qxv (fun i xs=>(([fv,.int .u32 0,.int .i32 0,.int .u32 0,.str g,.bool false,.bool false,.nilS,.nilI,v,.bool false,.bool false,.nilS,.nilI,nI i,.sl 3 xs false],(none,())):KRec Unit)) (vs.map fun v=>[v])
  (fun i xs=>∃ acc,Qbr xs acc∧xs.length=i∧(∀ a∈acc,a.n.length≤1000000)∧thrF F l=thrJ acc (thrF F (l.drop i)))
  (fun rs=>∃ w,rs=w :: qqe (qws F b l).2 :: fresh g∧IsA w (qws F b l).1)
  (fun hq=>hr _ hq) (a0:=[]) rfl ⟨[],.nil,rfl,by simp,by rw[List.drop_zero];exact (Qna _).symm⟩ ?_ ?_
 ·rintro i xs hi ⟨acc,ha,hxl,hsz,hq⟩
  rw[List.length_map] at hi
  have hi':i < l.length:=by omega
  obtain⟨u,h3,h4⟩:=hvs.get i hi'
  have hu:vs[i]=u:=by rw[List.getElem?_eq_getElem hi] at h3;exact Option.some.inj h3
  rw[List.getElem_map,hu]
  rw[List.drop_eq_getElem_cons hi'] at hq
  rw[qxe] at hq
  obtain⟨w,h1,h2⟩:=hdo h4 (List.getElem_mem hi')
  unfold fresh at h1
  simp only[qd6,if_true,qfb,qfa,qfj,qgk,qlj,qnd,qnr,qq7,qwl,Qbj,qyb,qya,qx9,qx8,Qch,Qcg]
  rw[show qgx [u] 1=true by simp[qgx,qb1,h4.ok],cT,qcb h4,cT,qg0 h4,h1,bV]
  simp only[qfb,qfa,qfj,qgk,qlj,qnd,qnr,qq7,qwl,Qbj]
  rw[qcb h2,cT,Qfz,bV,qbh]
  by_cases hc:(F l[i]).2=0
  ·left
   rw[if_neg (by simpa using hc),qg0 h2,Qnu h2,cT]
   rw[if_pos hc] at hq
   refine⟨xs++[w],?_,acc++[(F l[i]).1],ha.snoc h2,by simp[hxl],?_,?_⟩
   ·simp only[Qga,Qlu,Qcp,qne,qdr,Int.toNat_natCast,qk6,Qdr,Qf1,Qmu,qvi,List.length_singleton,List.drop_zero,List.take_succ_cons,List.take_zero,hxl]
    rw[show decide (0+1≤1)=true from rfl,cT,show (decide (i≤i)&&decide (i+1≤2147483648))=true by simp;omega,cT,List.take_of_length_le (by omega)]
   ·intro a h
    rcases List.mem_append.1 h with h | h
    ·exact hsz a h
    ·rw[List.mem_singleton.1 h];exact hF _ (List.getElem_mem hi')
   ·rw[hq]
    cases thrF F (l.drop (i+1))<;>simp[thrJ]
  ·right
   rw[if_pos (by simpa using hc),qx1,cT]
   rw[if_neg hc] at hq
   refine⟨_,rfl,?_⟩
   have hA:qws F b l=(qf2,(F l[i]).2):=by unfold qws;rw[hq];rfl
   rw[hA]
   refine⟨_,rfl,qsd,?_,qc2⟩
   rw[qpn]
   rfl
 ·rintro xs ⟨acc,ha,hxl,hsz,hq⟩
  rw[List.length_map,hlen,List.drop_length] at hq
  rw[List.length_map] at hxl
  have hA:qws F b l=(gatA b.li b.ru acc,Qbm b.li acc):=by unfold qws;rw[hq];simp[thrF,thrJ]
  rw[hA]
  have hal:=ha.len
  obtain⟨w,h1,h2⟩:=qy4 hv (.sl false ha) (by omega) hsz
  simp only[qfb,qfa,qfj,qgk,qlj,qnd,qnr,qq7,qwl,Qbj,qyb,qya,qx9,qx8,Qch,Qcg,qne,qdr,Int.toNat_natCast,qk6]
  rw[show ∀ X Y:Option (List PV),qqj (qht none) X Y=X from fun _ _=>rfl,qkx hv,bV,Qp5 hv,bV,List.length_map,show vs.length=xs.length by omega,slO_3,h1,bV]
  simp only[qdq,List.getElem?_cons_zero,List.getElem?_cons_succ,bV,qcb h2,qx1,cT,qg0 h2,qpn]
  exact⟨_,rfl,w,rfl,h2⟩
theorem through_1 {g:List UInt8} {F:Arr→Arr×Int} {v fv:PV} {b:Arr} {vs:List PV} {l:List Arr} (hv:IsA v b) (hf:okV fv=true) (hvs:Qbr vs l) (hl:l.length≤1000000)
  (hr:∀ {E:Type} (h:qbf E) {e e':E},qc6 h 0 (vs.map fun v=>[v]) e=some e'→qf0 B0 h 0 fv e=some e')
  (hdo:∀ {v:PV} {a:Arr},IsA v a→a∈l→∃ w,ioO B0 sh89 89 (v :: fresh g)=some (w :: qqe (F a).2 :: fresh g)∧IsA w (F a).1) (hF:∀ a∈l,(F a).1.n.length≤1000000) :
  ∃ w,ioO B0 Qgs 86 (v :: fv :: fresh g)=some (w :: qqe (qws F b l).2 :: fresh g)∧IsA w (qws F b l).1:=by
 suffices key:∃ rs,qfz (qdo B0 fun _=>.cl) fn86 Qgs (v :: fv :: fresh g)=some rs∧∃ w,rs=w :: qqe (qws F b l).2 :: fresh g∧IsA w (qws F b l).1 by
  obtain⟨rs,h1,w,rfl,h2⟩:=key
  exact⟨w,qc7 (qd0 fun _=>.cl) (fn:=fn86) rfl (Pf:=shs86) rfl (xs:=[.cv .nilI,.cv .nilI,.fn 1000089 []]) (obs:=[]) rfl rfl (by simp[qb1,okV,hv.ok,hf,fresh]) h1,h2⟩
 have hlen:=hvs.len
 unfold fresh
 rw[run86_1,qgt hv,cT]
 refine qxv (fun i xs=>(([fv,.int .u32 0,.int .i32 0,.int .u32 0,.str g,.bool false,.bool false,.nilS,.nilI,v,.bool false,.bool false,.nilS,.nilI,nI i,.sl 3 xs false],(none,())):KRec Unit)) (vs.map fun v=>[v])
  (fun i xs=>∃ acc,Qbr xs acc∧xs.length=i∧(∀ a∈acc,a.n.length≤1000000)∧thrF F l=thrJ acc (thrF F (l.drop i)))
  (fun rs=>∃ w,rs=w :: qqe (qws F b l).2 :: fresh g∧IsA w (qws F b l).1)
  (fun hq=>hr _ hq) (a0:=[]) rfl ⟨[],.nil,rfl,by simp,by rw[List.drop_zero];exact (Qna _).symm⟩ ?_ ?_
 ·rintro i xs hi ⟨acc,ha,hxl,hsz,hq⟩
  rw[List.length_map] at hi
  have hi':i < l.length:=by omega
  obtain⟨u,h3,h4⟩:=hvs.get i hi'
  have hu:vs[i]=u:=by rw[List.getElem?_eq_getElem hi] at h3;exact Option.some.inj h3
  rw[List.getElem_map,hu]
  rw[List.drop_eq_getElem_cons hi'] at hq
  rw[qxe] at hq
  obtain⟨w,h1,h2⟩:=hdo h4 (List.getElem_mem hi')
  unfold fresh at h1
  simp only[qd6,if_true,qfb,qfa,qfj,qgk,qlj,qnd,qnr,qq7,qwl,Qbj,qyb,qya,qx9,qx8,Qch,Qcg]
  rw[show qgx [u] 1=true by simp[qgx,qb1,h4.ok],cT,qcb h4,cT,qg0 h4,h1,bV]
  simp only[qfb,qfa,qfj,qgk,qlj,qnd,qnr,qq7,qwl,Qbj]
  rw[qcb h2,cT,Qfz,bV,qbh]
  by_cases hc:(F l[i]).2=0
  ·left
   rw[if_neg (by simpa using hc),qg0 h2,Qnu h2,cT]
   rw[if_pos hc] at hq
   refine⟨xs++[w],?_,acc++[(F l[i]).1],ha.snoc h2,by simp[hxl],?_,?_⟩
   ·simp only[Qga,Qlu,Qcp,qne,qdr,Int.toNat_natCast,qk6,Qdr,Qf1,Qmu,qvi,List.length_singleton,List.drop_zero,List.take_succ_cons,List.take_zero,hxl]
    rw[show decide (0+1≤1)=true from rfl,cT,show (decide (i≤i)&&decide (i+1≤2147483648))=true by simp;omega,cT,List.take_of_length_le (by omega)]
   ·intro a h
    rcases List.mem_append.1 h with h | h
    ·exact hsz a h
    ·rw[List.mem_singleton.1 h];exact hF _ (List.getElem_mem hi')
   ·rw[hq]
    cases thrF F (l.drop (i+1))<;>simp[thrJ]
  ·right
   rw[if_pos (by simpa using hc),qx1,cT]
   rw[if_neg hc] at hq
   refine⟨_,rfl,?_⟩
   have hA:qws F b l=(qf2,(F l[i]).2):=by unfold qws;rw[hq];rfl
   rw[hA]
   refine⟨_,rfl,qsd,?_,qc2⟩
   rw[qpn]
   rfl
 ·rintro xs ⟨acc,ha,hxl,hsz,hq⟩
  rw[List.length_map,hlen,List.drop_length] at hq
  rw[List.length_map] at hxl
  have hA:qws F b l=(gatA b.li b.ru acc,Qbm b.li acc):=by unfold qws;rw[hq];simp[thrF,thrJ]
  rw[hA]
  have hal:=ha.len
  obtain⟨w,h1,h2⟩:=qy4 hv (.sl false ha) (by omega) hsz
  simp only[qfb,qfa,qfj,qgk,qlj,qnd,qnr,qq7,qwl,Qbj,qyb,qya,qx9,qx8,Qch,Qcg,qne,qdr,Int.toNat_natCast,qk6]
  rw[show ∀ X Y:Option (List PV),qqj (qht none) X Y=X from fun _ _=>rfl,qkx hv,bV,Qp5 hv,bV,List.length_map,show vs.length=xs.length by omega,slO_3,h1,bV]
  simp only[qdq,List.getElem?_cons_zero,List.getElem?_cons_succ,bV,qcb h2,qx1,cT,qg0 h2,qpn]
  exact⟨_,rfl,w,rfl,h2⟩
end Go.Ab.Derive2


namespace Go.Ab.Derive2
open Go Go.Ab
structure MonOK (g:List UInt8) (M:Arr→Arr×Int):Prop where
 run:∀ {v:PV} {a:Arr},IsA v a→a.n.length≤1000000→∃ w,qbj B0 .cl (.fn 13 []) [.str g,v]=some (.tup [w,I (M a).2])∧IsA w (M a).1
 le:∀ a,(M a).1.n.length≤1000000
def orNo (r:Arr×Int):Arr×Int:=(if r.2=0 then r.1 else qf2,r.2)
theorem orNo_le {r:Arr×Int} (h:r.1.n.length≤1000000):(orNo r).1.n.length≤1000000:=by
 unfold orNo;dsimp only;split
 ·exact h
 ·simp[qf2]
theorem each_run {g:List UInt8} {M:Arr→Arr×Int} (hM:MonOK g M) {v:PV} {a:Arr} (hv:IsA v a) (hl:a.n.length≤1000000) :
  ∃ w,ioO B0 sh89 89 (v :: fresh g)=some (w :: qqe (orNo (M a)).2 :: fresh g)∧IsA w (orNo (M a)).1:=by
 obtain⟨w,h1,h2⟩:=hM.run hv hl
 obtain⟨u,h3,h4⟩:=Qb6 h2 (M a).2
 refine⟨u,qc7 (qd0 fun _=>.cl) (fn:=fn89) rfl (Pf:=shs89) rfl (xs:=[]) (obs:=[]) rfl rfl (by simp[qb1,okV,hv.ok,fresh]) ?_,h4⟩
 unfold fresh
 rw[show shs89 [] []=sh89 from rfl,run89,qgt hv,cT,qkx hv,bV,h1,bV]
 simp only[qdq,List.getElem?_cons_zero,List.getElem?_cons_succ,bV,h3,qcb h4,cT,qg0 h4]
 rfl
def qy3 (b:Arr):List Arr:=(List.range b.n.length).map (Qjg b.ru b.n)
theorem heads_is (b:Arr):Qbr ((List.range b.n.length).map (headV b.ru b.n)) (qy3 b):=by
 unfold qy3
 induction List.range b.n.length with
 | nil=>exact .nil
 | cons i l ih=>exact .cons (head_is _ _ _) ih
def Qk2 (D:Arr→Arr→Arr×Int) (N:Arr×Int) (b:Arr):Arr×Int:=qws (qz9 D N) b (qy3 b)
def Qml (M:Arr→Arr×Int) (b:Arr):Arr×Int:=qws (fun a=>orNo (M a)) b (b.n.map (qgs b.ru))
theorem redA_le {D:Arr→Arr→Arr×Int} (hD:∀ a b,(D a b).1.n.length≤1000000) {N:Arr×Int} {b:Arr} (h:b.n≠[]):(qz9 D N b).1.n.length≤1000000:=by
 obtain⟨r,m,_,hbr⟩:=qyl h
 unfold qz9
 rw[hbr]
 exact redF_le hD _ _ (by simp[qgs])
theorem scan_run {g:List UInt8} {D:Arr→Arr→Arr×Int} (hD:DyOK g D) (N:Arr×Int) {v:PV} {b:Arr} (hv:IsA v b) (hl:b.n.length≤1000000) :
  ∃ w,ioO B0 sh85 85 (v :: fresh g)=some (w :: qqe (Qk2 D N b).2 :: fresh g)∧IsA w (Qk2 D N b).1:=by
 obtain⟨x,rfl,hx⟩:=hv.get
 have hfok:okV (.fn 151 [.ptr [.bool b.li,.bool b.ru,x] 0])=true:=by simp[okV,qb1,hx.ok]
 have hmem:∀ a∈qy3 b,a.n≠[]∧a.n.length≤1000000:=by
  intro a ha
  obtain⟨i,hi,rfl⟩:=List.mem_map.1 ha
  rw[List.mem_range] at hi
  constructor
  ·intro he
   have:=congrArg List.length he
   simp only[Qjg,List.length_take,List.length_nil] at this
   omega
  ·simp only[Qjg,List.length_take];omega
 obtain⟨w,h1,h2⟩:=through_0 (g:=g) (F:=qz9 D N) hv hfok (heads_is b) (by simpa[qy3] using hl) (fun h e e' hq=>Ql6 h 0 hx hl (by rw[List.map_map] at hq;exact hq))
  (fun h ha=>qxu hD N h (hmem _ ha).2 (hmem _ ha).1) (fun a ha=>redA_le hD.le (hmem a ha).1)
 refine⟨w,qc7 (qd0 fun _=>.cl) (fn:=fn85) rfl (Pf:=shs85) rfl (xs:=[]) (obs:=[]) rfl rfl (by simp[qb1,okV,hx.ok,fresh]) ?_,h2⟩
 unfold fresh at h1 ⊢
 rw[show shs85 [] []=sh85 from rfl,run85,qgt hv,cT,qkx hv,bV,bV,agg33 hx,bV,heads_fn hx,bV,h1,bV]
 simp only[qfb,qfa,qfj,qgk,qlj,qnd,qnr,qq7,qwl,Qbj,qcb h2,cT,qg0 h2]
 rfl
theorem eachs_run {g:List UInt8} {M:Arr→Arr×Int} (hM:MonOK g M) {v:PV} {b:Arr} (hv:IsA v b) (hl:b.n.length≤1000000) :
  ∃ w,ioO B0 sh88 88 (v :: fresh g)=some (w :: qqe (Qml M b).2 :: fresh g)∧IsA w (Qml M b).1:=by
 obtain⟨x,rfl,hx⟩:=hv.get
 have hfok:okV (.fn 93 [.ptr [.bool b.li,.bool b.ru,x] 0])=true:=by simp[okV,qb1,hx.ok]
 have hmem:∀ a∈b.n.map (qgs b.ru),a.n.length≤1000000:=by
  intro a ha
  obtain⟨i,hi,rfl⟩:=List.mem_map.1 ha
  simp[qgs]
 obtain⟨w,h1,h2⟩:=through_1 (g:=g) (F:=fun a=>orNo (M a)) hv hfok (Qfj b.ru b.n) (by simpa using hl) (fun h e e' hq=>qyw h 0 hx hl (by rw[List.map_map] at hq;exact hq))
  (fun h ha=>each_run hM h (hmem _ ha)) (fun a ha=>orNo_le (hM.le a))
 refine⟨w,qc7 (qd0 fun _=>.cl) (fn:=fn88) rfl (Pf:=shs88) rfl (xs:=[]) (obs:=[]) rfl rfl (by simp[qb1,okV,hx.ok,fresh]) ?_,h2⟩
 unfold fresh at h1 ⊢
 rw[show shs88 [] []=sh88 from rfl,run88,qgt hv,cT,qkx hv,bV,bV,agg33 hx,bV,Qpa hx,bV,h1,bV]
 simp only[qfb,qfa,qfj,qgk,qlj,qnd,qnr,qq7,qwl,Qbj,qcb h2,cT,qg0 h2]
 rfl
def ifR (b:Arr) (r:Arr×Int):Arr×Int:=if b.right then r else (qf2,114)
theorem check_0 {g:List UInt8} {v:PV} {b:Arr} {r:Arr×Int} {rs:List PV} (hv:IsA v b) (hl:b.n.length≤1000000) (hrl:rs.length=8)
  (h:b.right=true→∃ w,ioO B0 sh84 84 (v :: fresh g)=some (w :: qqe r.2 :: rs)∧IsA w r.1) :
  ∃ w rs,ioO B0 Qgw 48 (v :: fresh g)=some (w :: I (ifR b r).2 :: rs)∧IsA w (ifR b r).1:=by
 have key:∃ w rs,qfz (qdo B0 fun _=>.cl) fn48 Qgw (v :: fresh g)=some (w :: I (ifR b r).2 :: rs)∧IsA w (ifR b r).1:=by
  unfold fresh ifR
  rw[run48_0,qgt hv,cT,qkx hv,bV,qkz hv hl,bV,qc1,bV,qbh]
  cases hb:b.right with
  | false=>exact⟨_,_,rfl,qc2⟩
  | true =>
   obtain⟨w,h1,h2⟩:=h hb
   unfold fresh at h1
   rw[show (!true)=false from rfl]
   simp only[Bool.false_eq_true,if_false,if_true,bV,h1,qfb,qfa,qcb h2,cT,qzu,qg0 h2]
   exact⟨_,_,rfl,h2⟩
 obtain⟨w,rs,h1,h2⟩:=key
 exact⟨w,rs,qc7 (qd0 fun _=>.cl) (fn:=fn48) rfl (Pf:=Qk1) rfl (xs:=[.cv .nilI,.fn 1000084 []]) (obs:=[]) rfl rfl (by simp[qb1,okV,hv.ok,fresh]) h1,h2⟩
theorem check_1 {g:List UInt8} {v:PV} {b:Arr} {r:Arr×Int} {rs:List PV} (hv:IsA v b) (hl:b.n.length≤1000000)
  (h:b.right=true→∃ w,ioO B0 sh85 85 (v :: fresh g)=some (w :: qqe r.2 :: rs)∧IsA w r.1) :
  ∃ w rs,ioO B0 Qgv 48 (v :: fresh g)=some (w :: I (ifR b r).2 :: rs)∧IsA w (ifR b r).1:=by
 have key:∃ w rs,qfz (qdo B0 fun _=>.cl) fn48 Qgv (v :: fresh g)=some (w :: I (ifR b r).2 :: rs)∧IsA w (ifR b r).1:=by
  unfold fresh ifR
  rw[run48_1,qgt hv,cT,qkx hv,bV,qkz hv hl,bV,qc1,bV,qbh]
  cases hb:b.right with
  | false=>exact⟨_,_,rfl,qc2⟩
  | true =>
   obtain⟨w,h1,h2⟩:=h hb
   unfold fresh at h1
   rw[show (!true)=false from rfl]
   simp only[Bool.false_eq_true,if_false,if_true,bV,h1,qfb,qfa,qcb h2,cT,qzu,qg0 h2]
   exact⟨_,_,rfl,h2⟩
 obtain⟨w,rs,h1,h2⟩:=key
 exact⟨w,rs,qc7 (qd0 fun _=>.cl) (fn:=fn48) rfl (Pf:=Qk1) rfl (xs:=[.cv .nilI,.fn 85 []]) (obs:=[]) rfl rfl (by simp[qb1,okV,hv.ok,fresh]) h1,h2⟩
theorem check_2 {g:List UInt8} {v:PV} {b:Arr} {r:Arr×Int} {rs:List PV} (hv:IsA v b) (hl:b.n.length≤1000000)
  (h:b.right=true→∃ w,ioO B0 sh88 88 (v :: fresh g)=some (w :: qqe r.2 :: rs)∧IsA w r.1) :
  ∃ w rs,ioO B0 Qgu 48 (v :: fresh g)=some (w :: I (ifR b r).2 :: rs)∧IsA w (ifR b r).1:=by
 have key:∃ w rs,qfz (qdo B0 fun _=>.cl) fn48 Qgu (v :: fresh g)=some (w :: I (ifR b r).2 :: rs)∧IsA w (ifR b r).1:=by
  unfold fresh ifR
  rw[run48_2,qgt hv,cT,qkx hv,bV,qkz hv hl,bV,qc1,bV,qbh]
  cases hb:b.right with
  | false=>exact⟨_,_,rfl,qc2⟩
  | true =>
   obtain⟨w,h1,h2⟩:=h hb
   unfold fresh at h1
   rw[show (!true)=false from rfl]
   simp only[Bool.false_eq_true,if_false,if_true,bV,h1,qfb,qfa,qcb h2,cT,qzu,qg0 h2]
   exact⟨_,_,rfl,h2⟩
 obtain⟨w,rs,h1,h2⟩:=key
 exact⟨w,rs,qc7 (qd0 fun _=>.cl) (fn:=fn48) rfl (Pf:=Qk1) rfl (xs:=[.cv .nilI,.fn 88 []]) (obs:=[]) rfl rfl (by simp[qb1,okV,hv.ok,fresh]) h1,h2⟩
theorem red_any {g:List UInt8} {v:PV} {b:Arr} {r:Arr×Int} {rs:List PV} (hv:IsA v b) (hl:b.n.length≤1000000) (hrl:rs.length=8)
  (h:b.right=true→∃ w,ioO B0 sh84 84 (v :: fresh g)=some (w :: qqe r.2 :: rs)∧IsA w r.1) :
  ∃ w,qbj B0 .cl (.fn 19 []) [.str g,v]=some (.tup [w,I (ifR b r).2])∧IsA w (ifR b r).1:=by
 obtain⟨w,rs,h1,h2⟩:=check_0 hv hl hrl h
 refine⟨w,call (d:=fun _=>.cl) rfl (by decide) (by simp[qb1,okV,hv.ok]) rfl ?_,h2⟩
 unfold fresh at h1
 rw[List.map_cons,List.map_cons,List.map_nil,run19,qgt hv,cT,qkx hv,bV,of_io,bV]
 simp only[qfb,qfa,qfj,qgk,qlj,qnd,qnr,qq7,h1,bV,qcb h2,cT,qg0 h2]
theorem scan_any {g:List UInt8} {D:Arr→Arr→Arr×Int} (hD:DyOK g D) (N:Arr×Int) {v:PV} {b:Arr} (hv:IsA v b) (hl:b.n.length≤1000000) :
  ∃ w,qbj B0 .cl (.fn 21 []) [.str g,v]=some (.tup [w,I (ifR b (Qk2 D N b)).2])∧IsA w (ifR b (Qk2 D N b)).1:=by
 obtain⟨w,rs,h1,h2⟩:=check_1 hv hl fun _=>scan_run hD N hv hl
 refine⟨w,call (d:=fun _=>.cl) rfl (by decide) (by simp[qb1,okV,hv.ok]) rfl ?_,h2⟩
 unfold fresh at h1
 rw[List.map_cons,List.map_cons,List.map_nil,run21,qgt hv,cT,qkx hv,bV,of_io,bV]
 simp only[qfb,qfa,qfj,qgk,qlj,qnd,qnr,qq7,h1,bV,qcb h2,cT,qg0 h2]
theorem each_any {g:List UInt8} {M:Arr→Arr×Int} (hM:MonOK g M) {v:PV} {b:Arr} (hv:IsA v b) (hl:b.n.length≤1000000) :
  ∃ w,qbj B0 .cl (.fn 23 []) [.str g,v]=some (.tup [w,I (ifR b (Qml M b)).2])∧IsA w (ifR b (Qml M b)).1:=by
 obtain⟨w,rs,h1,h2⟩:=check_2 hv hl fun _=>eachs_run hM hv hl
 refine⟨w,call (d:=fun _=>.cl) rfl (by decide) (by simp[qb1,okV,hv.ok]) rfl ?_,h2⟩
 unfold fresh at h1
 rw[List.map_cons,List.map_cons,List.map_nil,run23,qgt hv,cT,qkx hv,bV,of_io,bV]
 simp only[qfb,qfa,qfj,qgk,qlj,qnd,qnr,qq7,h1,bV,qcb h2,cT,qg0 h2]
def Qlc (D:Arr→Arr→Arr×Int) (b:Arr):Arr×Int:=qz9 D (qf2,102) b
theorem red_run {g:List UInt8} {D:Arr→Arr→Arr×Int} (hD:DyOK g D) {n:Int} (hU:qbj B0 .cl (.fn 178 []) [.str g]=some (.tup [.int .i64 n,.bool false])) {v:PV} {b:Arr} (hv:IsA v b) (hl:b.n.length≤1000000) :
  ∃ w,qbj B0 .cl (.fn 19 []) [.str g,v]=some (.tup [w,I (ifR b (Qlc D b)).2])∧IsA w (ifR b (Qlc D b)).1:=by
 by_cases hn:b.n=[]
 ·obtain⟨x,rfl,hx⟩:=hv.get
  have hR:Qlc D b=(qf2,102):=by unfold Qlc qz9;rw[hn];rfl
  refine red_any hv hl (rs:=[.int .u32 1,.int .i32 0,.int .u32 0,.str g,.bool false,.bool false,.nilS,Qgf]) rfl fun _=>⟨qsd,?_,?_⟩
  ·rw[hR]
   exact Qlb hU hv.ok (qvk hx) (qmb _ _ _) (by rw[hx.len,hn];rfl)
  ·rw[hR];exact qc2
 ·exact red_any hv hl rfl fun _=>qxu hD _ hv hl hn
end Go.Ab.Derive2


namespace Go.Ab.Derive2
open Go Go.Ab
theorem dyL_len {f:Int→Int→Int×NE}:∀ {l:List (Int×Int)} {r:List Int},dyL f l=.inr r→r.length=l.length
 | [],r,h=>by unfold dyL at h;cases h;rfl
 | p :: l,r,h=>by
  unfold dyL at h
  split at h
  ·cases h
  ·split at h
   ·cases h
   ·rename_i r' hr
    cases h
    simp[dyL_len hr]
theorem Qny {f:Int→Int×NE}:∀ {l:List Int} {r:List Int},monL f l=.inr r→r.length=l.length
 | [],r,h=>by unfold monL at h;cases h;rfl
 | p :: l,r,h=>by
  unfold monL at h
  split at h
  ·cases h
  ·split at h
   ·cases h
   ·rename_i r' hr
    cases h
    simp[Qny hr]
theorem Qg6 (a b:Arr):∀ (n i:Nat),(qdb a b i n).length=n
 | 0,_=>rfl
 | n+1,i=>by unfold qdb;rw[List.length_cons,Qg6 a b n (i+1)]
theorem qho:qf2.n.length≤1000000:=by simp[qf2]
theorem dy_le (g:List UInt8) (a b:Arr):(Arr.dy g a b).1.n.length≤1000000:=by
 unfold Arr.dy
 split
 ·exact qho
 split
 ·exact qho
 split
 ·exact qho
 split
 ·exact qho
 rename_i h1 _ h3 _
 split
 ·exact qho
 ·rename_i r hr
  have h1:(a.right&&b.right)=true:=by cases h:(a.right&&b.right)<;>simp_all
  simp only[Bool.and_eq_true] at h1
  have hs:=sz_fits h1.1 h1.2 (Decidable.not_not.1 h3)
  show r.length≤1000000
  rw[dyL_len hr,Qg6]
  have:=hs.2.1
  omega
theorem mon_le (g:List UInt8) (a:Arr):(Arr.mon g a).1.n.length≤1000000:=by
 unfold Arr.mon
 split
 ·exact qho
 split
 ·exact qho
 split
 ·exact qho
 rename_i h1 _ _
 split
 ·exact qho
 ·rename_i r hr
  have h1:a.right=true:=by cases h:a.right<;>simp_all
  show r.length≤1000000
  rw[Qny hr]
  have:=qr3 h1
  omega
theorem dy_ok {g:List UInt8} (hg:qqq g=true):DyOK g (Arr.dy g):=⟨fun hv hu ha hb=>dyn_run hv hu ha hb hg,dy_le g⟩
theorem mon_ok {g:List UInt8} (hg:ql3 g=true):MonOK g (Arr.mon g):=⟨fun hv ha=>monn_run hv ha hg,mon_le g⟩
theorem qyu (n:Int):(qgs false n).right=true:=rfl
theorem dy_itm {g:List UInt8} (hg:qqq g=true) (he:Arr.isEq g=false) (x y:Int):Arr.dy g (qgs false x) (qgs false y)=if (nDy g x y).2.no≠0 then (qf2,(nDy g x y).2.no) else (qgs false (nDy g x y).1,0):=by
 unfold Arr.dy
 rw[qyu,qyu,if_neg (by simp),if_neg (by simp[hg]),if_neg (by simp[qgs,Arr.sz]),if_neg (by simp[qgs,Arr.text]),he]
 have hp:qdb (qgs false x) (qgs false y) 0 ((qgs false x).sz (qgs false y)).1.toNat=[(x,y)]:=rfl
 rw[hp]
 unfold dyL dyF
 simp only[Bool.false_and,Bool.false_eq_true,if_false]
 by_cases h:(nDy g x y).2.no≠0
 ·rw[if_pos h,if_pos h]
 ·rw[if_neg h,if_neg h]
  rfl
theorem dy_text {g:List UInt8} (he:Arr.isEq g=false) {a b:Arr} (ha:a.text=true):(Arr.dy g a b).2≠0:=by
 unfold Arr.dy
 split
 ·decide
 split
 ·decide
 split
 ·assumption
 ·rename_i h1 h2 h3
  rw[if_pos (by simp[he,ha])]
  decide
theorem red_text {g:List UInt8} (he:Arr.isEq g=false) {N:Arr×Int} {b:Arr} (hr:b.ru=true) (h0:(qz9 (Arr.dy g) N b).2=0):b.n=[]∨∃ m,b.n=[m]∧qz9 (Arr.dy g) N b=(qgs true m,0):=by
 by_cases hn:b.n=[]
 ·exact .inl hn
 ·obtain⟨r,m,hb,hbr⟩:=qyl hn
  unfold qz9 at h0 ⊢
  rw[hbr] at h0 ⊢
  cases r with
  | nil=>exact .inr ⟨m,hb,by rw[hr];rfl⟩
  | cons x r =>
   exfalso
   have hd:(Arr.dy g (qgs b.ru x) (qgs b.ru m)).2≠0:=dy_text he (by rw[hr];rfl)
   simp only[List.map_cons,Qni,if_neg hd] at h0
   exact hd h0
theorem max_itm (x y:Int):Arr.dy Qfo (qgs false x) (qgs false y)=(qgs false (max x y),0):=dy_itm (g:=Qfo) rfl rfl x y
theorem min_itm (x y:Int):Arr.dy Qbb (qgs false x) (qgs false y)=(qgs false (min x y),0):=dy_itm (g:=Qbb) rfl rfl x y
theorem red_max (m:Int):∀ (r:List Int) ,Qni (Arr.dy Qfo) (r.map (qgs false)) (qgs false m)=(qgs false (r.foldl (fun o x=>max x o) m),0):=by
 intro r
 induction r generalizing m with
 | nil=>rfl
 | cons x r ih =>
  rw[List.map_cons]
  unfold Qni
  rw[max_itm,if_pos rfl]
  exact ih _
theorem red_min (m:Int):∀ (r:List Int) ,Qni (Arr.dy Qbb) (r.map (qgs false)) (qgs false m)=(qgs false (r.foldl (fun o x=>min x o) m),0):=by
 intro r
 induction r generalizing m with
 | nil=>rfl
 | cons x r ih =>
  rw[List.map_cons]
  unfold Qni
  rw[min_itm,if_pos rfl]
  exact ih _
theorem foldl_max (r:List Int) (m:Int):(r.foldl (fun o x=>max x o) m=m∨r.foldl (fun o x=>max x o) m∈r)∧m≤r.foldl (fun o x=>max x o) m∧∀ x∈r,x≤r.foldl (fun o x=>max x o) m:=by
 induction r generalizing m with
 | nil=>exact⟨.inl rfl,Int.le_refl _,by simp⟩
 | cons y r ih =>
  obtain⟨h1,h2,h3⟩:=ih (max y m)
  rw[List.foldl_cons]
  refine⟨?_,by omega,?_⟩
  ·rcases h1 with h1 | h1
   ·rw[h1]
    rcases Int.le_total y m with h | h
    ·left;omega
    ·right;rw[Int.max_eq_left h];exact List.mem_cons_self
   ·exact .inr (List.mem_cons_of_mem _ h1)
  ·intro x hx
   rcases List.mem_cons.1 hx with rfl | hx
   ·omega
   ·exact h3 x hx
theorem greatest (b:Arr) :
  ((ifR b (Qlc (Arr.dy Qfo) b)).2≠0∧(b.right=false∨b.n.length=0∨b.ru=true)) ∨
  ((ifR b (Qlc (Arr.dy Qfo) b)).2=0∧∃ ru k,(ifR b (Qlc (Arr.dy Qfo) b)).1=⟨false,ru,[k]⟩∧k∈b.n∧∀ n∈b.n,n≤k):=by
 unfold ifR
 cases hr:b.right with
 | false=>exact .inl ⟨by simp,.inl rfl⟩
 | true =>
  simp only[if_true]
  by_cases hn:b.n=[]
  ·left
   have:Qlc (Arr.dy Qfo) b=(qf2,102):=by unfold Qlc qz9;rw[hn];rfl
   rw[this]
   exact⟨by decide,.inr (.inl (by rw[hn];rfl))⟩
  ·cases hru:b.ru with
   | true =>
    by_cases h0:(Qlc (Arr.dy Qfo) b).2=0
    ·right
     rcases red_text (N:=(qf2,102)) rfl hru h0 with h | ⟨m,h1,h2⟩
     ·exact absurd h hn
     ·refine⟨h0,true,m,by unfold Qlc;rw[h2];rfl,by rw[h1];simp,by rw[h1];simp⟩
    ·exact .inl ⟨h0,.inr (.inr rfl)⟩
   | false =>
    right
    obtain⟨r,m,hb,hbr⟩:=qyl hn
    have:Qlc (Arr.dy Qfo) b=(qgs false (r.foldl (fun o x=>max x o) m),0):=by
     unfold Qlc qz9;rw[hbr,hru];exact red_max m r
    rw[this]
    obtain⟨h1,h2,h3⟩:=foldl_max r m
    refine⟨rfl,false,_,rfl,?_,?_⟩
    ·rw[hb]
     rcases h1 with h1 | h1
     ·rw[h1];simp
     ·exact List.mem_append_left _ (List.mem_reverse.2 h1)
    ·intro n hn
     rw[hb] at hn
     rcases List.mem_append.1 hn with h | h
     ·exact h3 n (List.mem_reverse.1 h)
     ·rw[List.mem_singleton.1 h];exact h2
end Go.Ab.Derive2


namespace Go.Ab
def Qd8 (memo:FuncId→List PV→Option PV) (c:qtd):qtd:=fun E h dep g args e =>
 match dep,memo g args with
 | 0,some r=>some (r,[],e)
 | _,_=>c E h dep g args e
def qzo (memo:FuncId→List PV→Option PV) (sp:FuncId→(Nm→Option Ob)→List PV→Option Out) (tab:FuncId→Option RFn):Nat→qfl
 | 0=>qlk sp tab 0
 | n+1=>{qlk sp tab 0 with call:=Qd8 memo (qpu (qzo memo sp tab n) n tab),io:=Qkt (qzo memo sp tab n) n tab}
def evalFm (memo:FuncId→List PV→Option PV) (sp:FuncId→(Nm→Option Ob)→List PV→Option Out) (tab:FuncId→Option RFn) (n:Nat):qtd:=(qzo memo sp tab n).call
section memo
variable {memo:FuncId→List PV→Option PV} {sp:FuncId→(Nm→Option Ob)→List PV→Option Out} {tab:FuncId→Option RFn}
 (hm:∀ g args r,memo g args=some r→∃ n,qcw sp tab n Unit qbc 0 g args ()=some (r,[],()))
include hm
theorem evalMm_le:∀ n,MLe (qzo memo sp tab n) (qlk sp tab):=by
 intro n
 induction n with
 | zero=>exact Qpt 0
 | succ n ih =>
  have hk:=Qdg ih n tab
  refine MLe.of_tail ⟨fun k=>rfl,?_,fun k=>rfl,fun k=>rfl,fun k=>rfl,fun g dst σ vs out h=>Qpc ih n tab g dst σ vs out h⟩ rfl rfl rfl rfl
  intro E1 E2 RE h1 h2 hh dep g args e1 e2 he r obs e1' h
  simp only[qzo,Qd8] at h
  split at h
  ·rename_i r' hr
   cases h
   obtain⟨m,hm'⟩:=hm g args r hr
   obtain⟨_,rfl,a,ha⟩:=qvd m Unit E2 (fun _ e=>e2=e) qbc (fun k=>h2 (k - 1)) (fun _ _ _ _ _ _ _ h=>by cases h) 0 g args () e2 rfl r [] () hm'
   exact⟨e2,he,a,fun k hk=>ha (k+1) (by omega)⟩
  ·exact hk E1 E2 RE h1 h2 hh _ g args e1 e2 he r obs e1' h
theorem ev_memo {n:Nat} {g:FuncId} {args:List PV} {r:PV} (h:evalFm memo sp tab n Unit qbc 0 g args ()=some (r,[],())):∃ m,qcw sp tab m Unit qbc 0 g args ()=some (r,[],()):=by
 obtain⟨m,hm'⟩:=qxc (evalMm_le hm n) g args h
 exact⟨m,hm' m (Nat.le_refl _)⟩
end memo
mutual
def sameV:PV→PV→Bool
 | .bool a,.bool b=>a==b
 | .int k n,.int k' n'=>decide (k=k')&&decide (n=n')
 | .str s,.str s'=>decide (s=s')
 | .nilS,.nilS=>true
 | .nilI,.nilI=>true
 | .agg cs,.agg cs'=>sameL cs cs'
 | .sl k xs f,.sl k' xs' f'=>decide (k=k')&&(f==f')&&sameL xs xs'
 | _,_=>false
def sameL:List PV→List PV→Bool
 | [],[]=>true
 | x :: xs,y :: ys=>sameV x y&&sameL xs ys
 | _,_=>false
end
mutual
theorem sameV_eq:∀ (x y:PV),sameV x y=true→x=y
 | x,y,h=>by
  unfold sameV at h
  split at h
  ·simpa using h
  ·simp only[Bool.and_eq_true,decide_eq_true_eq] at h;rw[h.1,h.2]
  ·simp only[decide_eq_true_eq] at h;rw[h]
  ·rfl
  ·rfl
  ·rename_i cs cs';rw[qwt cs cs' h]
  ·rename_i k xs f k' xs' f'
   simp only[Bool.and_eq_true,decide_eq_true_eq,beq_iff_eq] at h
   rw[h.1.1,h.1.2,qwt xs xs' h.2]
  ·cases h
theorem qwt:∀ (xs ys:List PV),sameL xs ys=true→xs=ys
 | xs,ys,h=>by
  unfold sameL at h
  split at h
  ·rfl
  ·rename_i x xs y ys
   simp only[Bool.and_eq_true] at h
   rw[sameV_eq x y h.1,qwt xs ys h.2]
  ·cases h
end
abbrev Qgc:=List (FuncId×List PV×PV)
def Qhm:Qgc→FuncId→List PV→Option PV
 | [],_,_=>none
 | p :: l,g,args=>if p.1=g∧sameL p.2.1 args=true then some p.2.2 else Qhm l g args
def qtc (sp:FuncId→(Nm→Option Ob)→List PV→Option Out) (tab:FuncId→Option RFn) (l:Qgc):Prop :=
 ∀ p∈l,∃ n,qcw sp tab n Unit qbc 0 p.1 p.2.1 ()=some (p.2.2,[],())
theorem qpy {sp:FuncId→(Nm→Option Ob)→List PV→Option Out} {tab:FuncId→Option RFn}:qtc sp tab []:=fun _ h=>by cases h
theorem qby {sp:FuncId→(Nm→Option Ob)→List PV→Option Out} {tab:FuncId→Option RFn} {g:FuncId} {args:List PV} {r:PV} {l:Qgc}
  (h:∃ n,qcw sp tab n Unit qbc 0 g args ()=some (r,[],())) (hl:qtc sp tab l):qtc sp tab ((g,args,r) :: l):=fun p hp=>by
 rcases List.mem_cons.1 hp with rfl | hp
 ·exact h
 ·exact hl p hp
theorem Qck {sp:FuncId→(Nm→Option Ob)→List PV→Option Out} {tab:FuncId→Option RFn}:∀ {l:Qgc},qtc sp tab l→∀ g args r,Qhm l g args=some r→∃ n,qcw sp tab n Unit qbc 0 g args ()=some (r,[],())
 | [],_,_,_,_,h=>by cases h
 | p :: l,hl,g,args,r,h=>by
  unfold Qhm at h
  split at h
  ·rename_i hp
   cases h
   have:=hl p List.mem_cons_self
   rwa [hp.1,qwt _ _ hp.2] at this
  ·exact Qck (fun q hq=>hl q (List.mem_cons_of_mem _ hq)) g args r h
theorem ev_known {sp:FuncId→(Nm→Option Ob)→List PV→Option Out} {tab:FuncId→Option RFn} {l:Qgc} (hl:qtc sp tab l) {n:Nat} {g:FuncId} {args:List PV} {r:PV}
  (h:evalFm (Qhm l) sp tab n Unit qbc 0 g args ()=some (r,[],())):∃ m,qcw sp tab m Unit qbc 0 g args ()=some (r,[],()):=ev_memo (Qck hl) h
end Go.Ab


namespace Go.Ab
noncomputable section
section qja
variable {R:Type}
def fN (n:Nat) (K:Nat→R):R:=match n with
 | 0=>K 0
 | m+1=>K (Nat.succ m)
def fI (n:Int) (K:Int→R):R:=match n with
 | .ofNat m=>fN m fun m=>K (.ofNat m)
 | .negSucc m=>fN m fun m=>K (.negSucc m)
def fB (b:Bool) (K:Bool→R):R:=match b with
 | true=>K true
 | false=>K false
def fKd (k:IntKind) (K:IntKind→R):R:=match k with
 | .i8=>K .i8 | .i16=>K .i16 | .i32=>K .i32 | .i64=>K .i64
 | .u8=>K .u8 | .u16=>K .u16 | .u32=>K .u32 | .u64=>K .u64
def fS:List UInt8→(List UInt8→R)→R
 | [],K=>K []
 | x :: xs,K=>fS xs fun xs=>K (x :: xs)
def fP {α β:Type} (p:α×β) (K:α×β→R):R:=match p with
 |(a,b)=>K (a,b)
def fSp {α:Type}:List α→(List α→R)→R
 | [],K=>K []
 | x :: xs,K=>fSp xs fun xs=>K (x :: xs)
mutual
def fV (d:Bool):PV→(PV→R)→R
 | .undef,K=>K .undef
 | .bool b,K=>fB b fun b=>K (.bool b)
 | .int k n,K=>fKd k fun k=>fI n fun n=>K (.int k n)
 | .str s,K=>fS s fun s=>K (.str s)
 | .nilS,K=>K .nilS | .nilP,K=>K .nilP | .nilF,K=>K .nilF | .nilI,K=>K .nilI | .nilM,K=>K .nilM
 | .sl k xs f,K=>match d with
  | true=>fVL true xs fun xs=>K (.sl k xs f)
  | false=>fSp xs fun xs=>K (.sl k xs f)
 | .ptr cs o,K=>match d with
  | true=>fVL true cs fun cs=>K (.ptr cs o)
  | false=>fSp cs fun cs=>K (.ptr cs o)
 | .agg cs,K=>fVL d cs fun cs=>K (.agg cs)
 | .iface t x,K=>fV d x fun x=>K (.iface t x)
 | .fn f cap,K=>fVL d cap fun cap=>K (.fn f cap)
 | .yld l,K=>K (.yld l)
 | .tup xs,K=>fVL d xs fun xs=>K (.tup xs)
 | .imap es,K=>match d with
  | true=>fVL true es fun es=>K (.imap es)
  | false=>fSp es fun es=>K (.imap es)
 | .glob g t,K=>K (.glob g t)
 | .ref nm o,K=>fP nm fun nm=>fN o fun o=>K (.ref nm o)
 | .aref nm k i o,K=>fP nm fun nm=>fN i fun i=>fN o fun o=>K (.aref nm k i o)
 | .arr nm k o n,K=>fP nm fun nm=>fN o fun o=>fN n fun n=>K (.arr nm k o n)
 | .mp nm,K=>fP nm fun nm=>K (.mp nm)
 | .it nm,K=>fP nm fun nm=>K (.it nm)
def fVL (d:Bool):List PV→(List PV→R)→R
 | [],K=>K []
 | x :: xs,K=>fV d x fun x=>fVL d xs fun xs=>K (x :: xs)
end
def fH:PV→(PV→R)→R
 | .undef,K=>K .undef
 | .bool b,K=>K (.bool b) | .int k n,K=>K (.int k n) | .str s,K=>K (.str s)
 | .nilS,K=>K .nilS | .nilP,K=>K .nilP | .nilF,K=>K .nilF | .nilI,K=>K .nilI | .nilM,K=>K .nilM
 | .sl k xs f,K=>K (.sl k xs f)
 | .ptr cs o,K=>K (.ptr cs o)
 | .agg cs,K=>fVL false cs fun cs=>K (.agg cs)
 | .iface t x,K=>fV false x fun x=>K (.iface t x)
 | .fn f cap,K=>fVL false cap fun cap=>K (.fn f cap)
 | .yld l,K=>K (.yld l)
 | .tup xs,K=>fVL false xs fun xs=>K (.tup xs)
 | .imap es,K=>K (.imap es)
 | .glob g t,K=>K (.glob g t)
 | .ref nm o,K=>fP nm fun nm=>K (.ref nm o)
 | .aref nm k i o,K=>fP nm fun nm=>K (.aref nm k i o)
 | .arr nm k o n,K=>fP nm fun nm=>K (.arr nm k o n)
 | .mp nm,K=>fP nm fun nm=>K (.mp nm)
 | .it nm,K=>fP nm fun nm=>K (.it nm)
def fHL (l:List PV):(List PV→R)→R:=List.rec (motive:=fun _=>(List PV→R)→R) (fun K=>K []) (fun x _ ih K=>fH x fun x=>ih fun xs=>K (x :: xs)) l
def fOb (d:Bool):Ob→(Ob→R)→R
 | .cells ty cs,K=>fVL d cs fun cs=>K (.cells ty cs)
 | .arr k ty xs,K=>match d with
  | true=>fVL true xs fun xs=>K (.arr k ty xs)
  | false=>fSp xs fun xs=>K (.arr k ty xs)
 | .map es,K=>fSp es fun es=>K (.map es)
 | .siter s p,K=>fN p fun p=>K (.siter s p)
def fObs (d:Bool):List Ob→(List Ob→R)→R
 | [],K=>K []
 | x :: xs,K=>fOb d x fun x=>fObs d xs fun xs=>K (x :: xs)
def fObH:Ob→(Ob→R)→R
 | .cells ty cs,K=>fVL false cs fun cs=>K (.cells ty cs)
 | .arr k ty xs,K=>K (.arr k ty xs)
 | .map es,K=>K (.map es)
 | .siter s p,K=>K (.siter s p)
def fObHs:List Ob→(List Ob→R)→R
 | [],K=>K []
 | x :: xs,K=>fObH x fun x=>fObHs xs fun xs=>K (x :: xs)
def fOL:List (List Ob)→(List (List Ob)→R)→R
 | [],K=>K []
 | x :: xs,K=>fObHs x fun x=>fOL xs fun xs=>K (x :: xs)
def fSt (st:St) (K:St→R):R:=match st with
 | ⟨tmps,objs,keep⟩=>fHL tmps fun tmps=>fOL objs fun objs=>fHL keep fun keep=>K ⟨tmps,objs,keep⟩
def fTm (st:St) (K:St→R):R:=match st with
 | ⟨tmps,objs,keep⟩=>fHL tmps fun tmps=>K ⟨tmps,objs,keep⟩
def fUpd (u:Option (Nm×Ob)) (K:Option (Nm×Ob)→R):R:=match u with
 | none=>K none
 | some (nm,o)=>fP nm fun nm=>fOb false o fun o=>K (some (nm,o))
def deepOp:ROp→Bool
 | .call _ _=>true
 | .toBytes _=>true
 | _=>false
def fOut (d:Bool) (o:Out) (K:Out→R):R:=match o with
 | ⟨v,new,upd,kill,frz,gone,ups,io,slot⟩=>fV d v fun v=>fObs d new fun new=>fUpd upd fun upd=>K ⟨v,new,upd,kill,frz,gone,ups,io,slot⟩
end qja
def getR {α:Type} (l:List α):Nat→Option α:=List.rec (motive:=fun _=>Nat→Option α) (fun _=>none) (fun x _ ih n=>Nat.rec (motive:=fun _=>Option α) (some x) (fun m _=>ih m) n) l
def nthR (l:List PV):Nat→PV:=List.rec (motive:=fun _=>Nat→PV) (fun _=>.undef) (fun x _ ih n=>Nat.rec (motive:=fun _=>PV) x (fun m _=>ih m) n) l
def setR (l:List PV):Nat→PV→List PV:=List.rec (motive:=fun _=>Nat→PV→List PV) (fun _ _=>[]) (fun x xs ih n v=>Nat.rec (motive:=fun _=>List PV) (v :: xs) (fun m _=>x :: ih m v) n) l
def lookR (σ:List (List Ob)) (nm:Nm):Option Ob:=match getR σ nm.1 with
 | some l=>getR l nm.2
 | none=>none
def RX.evR (tm:List PV):RX→RX
 | .t i=>.c (nthR tm i)
 | .c v=>.c v
def RX.evF (tm:List PV):RX→PV
 | .t i=>nthR tm i
 | .c v=>v
def Qkk (m i:Nat):Bool:=Nat.beq (Nat.land (Nat.shiftRight m i) 1) 1
def qtt:List Nat→Nat
 | []=>0
 | d :: ds=>Nat.lor (Nat.shiftLeft 1 d) (qtt ds)
def Qh7 (m:Nat) (b:Bool):Nat→List PV→List PV
 | _,[]=>[]
 | i,v :: vs=>(match Qkk m i with
  | true=>bif b then v else .undef
  | false=>bif b then .undef else v) :: Qh7 m b (Nat.succ i) vs
def qxd:Nat→List PV→List Nat
 | _,[]=>[]
 | i,v :: vs=>match v with
  | .undef=>i :: qxd (Nat.succ i) vs
  | _=>qxd (Nat.succ i) vs
def qgh (R:List Nm):Nat→List (List Ob)→List Nat
 | _,[]=>[]
 | i,l :: ls=>match l with
  | []=>qgh R (Nat.succ i) ls
  | _ :: _=>match R.all fun nm=>nm.1 != i with
   | true=>i :: qgh R (Nat.succ i) ls
   | false=>qgh R (Nat.succ i) ls
def Qdk (ds:List Nat) (st:St):St:={st with tmps:=Qh7 (qtt ds) false 0 st.tmps}
def qyq (ks:List Nat) (st:St):St:={st with tmps:=Qh7 (qtt ks) true 0 st.tmps}
def Qdj (st:St):List Nat:=qgh (qbl st.tmps++qbl st.keep++st.objs.flatMap fun l=>l.flatMap Ob.names) 0 st.objs
def undefsQ (st:St):List Nat:=qxd 0 st.tmps
def Qf0 (m:Nat):Nat→List (List Ob)→List (List Ob)
 | _,[]=>[]
 | i,l :: ls=>(match Qkk m i with
  | true=>[]
  | false=>l) :: Qf0 m (Nat.succ i) ls
def Qp9 (objs:List (List Ob)):List Nat→Bool
 | []=>true
 | d :: ds=>match getR objs d with
  | some (_ :: _)=>false
  | _=>Qp9 objs ds
def Qp1 (ds:List Nat) (st:St):St :=
 let st:=qku (fun m=>match Qkk (qtt ds) m.1 with | true=>some none | false=>none) st
 {st with objs:=Qf0 (qtt ds) 0 st.objs}
def Qj9 (ds:List Nat) (st:St):St:=match Qp9 st.objs ds with
 | true=>st
 | false=>Qp1 ds st
def Qp0 (st:St):St:=match Qdj st with
 | []=>st
 | d :: ds=>Qp1 (d :: ds) st
def dropQ (ds:List Nat) (st:St):St:=Qp0 (Qdk ds st)
def qy2 (m:Nat):Nat→List PV→Bool
 | _,[]=>true
 | i,v :: vs=>match v with
  | .arr nm _ _ _=>(match Qkk m i with
   | true=>(match nm with
    |(a,b)=>(match Nat.beq a i with
     | true=>(match b with
      | 0=>qy2 m (Nat.succ i) vs
      | _+1=>false)
     | false=>false))
   | false=>qy2 m (Nat.succ i) vs)
  | _=>qy2 m (Nat.succ i) vs
def qr4 {R:Type}:List Nat→St→(St→R)→R
 | [],st,K=>K st
 | t :: asg,st,K=>match nthR st.tmps t with
  | .arr nm k o n=>fSt (qj5 t st) fun st=>qr4 asg st K
  | _=>qr4 asg st K
def norm0K {R:Type} (asg:List Nat) (grow:List (Nat×Nat)) (st:St) (K:St→R):R:=match qy2 (qtt asg) 0 st.tmps with
 | true=>K (grow.foldl (fun st (t,k)=>Qfn t k st) st)
 | false=>qr4 asg st fun st=>K (grow.foldl (fun st (t,k)=>Qfn t k st) st)
def normQ (asg:List Nat) (grow:List (Nat×Nat)) (st:St):St:=norm0K asg grow st fun st=>fSt st fun st=>dropQ (undefsQ st) st
def tidyQ (live:Option (List Nat)) (st:St):St :=
 match live with
 | none=>st
 | some ks=>Qp0 (qyq ks st)
def stillO (o:Out):Bool:=qb8 o&&o.new.isEmpty
def Qdh (st:St) (dst:Option Nat) (o:Out):St:=match stillO o with
 | true=>(match dst with
  | some d=>{st with tmps:=setR st.tmps d o.v}
  | none=>st)
 | false=>apply st dst o
def freshQ (o:qbx) (st:St):Bool :=
 if Qho o.op then
  match o.dst with
  | some d=>match getR st.objs d with
   | some []=>true
   | _=>false
  | none=>match o.op with
   | .call _ _=>true
   | _=>false
 else true
def outQ (M:qfl) {E:Type} (h:qbf E) (dep:Nat) (o:qbx) (st:St) (e:E):Option (Out×E) :=
 chk (freshQ o st) (match o.op with
  | .call f args=>match qck M h dep (o.dst.getD 0) (lookR st.objs) [] (f.evR st.tmps) (args.map (RX.evR st.tmps)) e with
   | some (out,e)=>chk (qpi o.dst out) (some (out,e))
   | none=>none
  | op=>match exec (o.dst.getD 0) (lookR st.objs) [] (op.mapX (RX.evR st.tmps)) with
   | some out=>some (out,e)
   | none=>none)
def Qm6 (ops:List qbx) (o:qbx) (tm:List PV):Option Bool :=
 match o.guard with
 | none=>some true
 | some (j,want) =>
  match getR ops j with
  | some p=>match p.dst with
   | some d=>match nthR tm d with
    | .bool b=>some (b==want)
    | .tup []=>some false
    | _=>none
   | none=>none
  | none=>none
def stepQ (M:qfl) {E:Type} (h:qbf E) (dep:Nat) (ops:List qbx) (o:qbx) (st:St) (e:E):Option (St×E) :=
 match Qm6 ops o st.tmps with
 | some true=>match outQ M h dep o st e with
  | some (out,e)=>fOut (deepOp o.op) out fun out=>some (Qdh st o.dst out,e)
  | none=>none
 | some false=>some (Qdh st o.dst {v:=.tup []},e)
 | none=>none
def runQ (M:qfl) {E:Type} (h:qbf E) (dep:Nat) (ops:List qbx):List qbx→St→E→Option (St×E)
 | [],st,e=>some (st,e)
 | o :: rest,st,e=>match stepQ M h dep ops o st e with
  | some (st,e)=>runQ M h dep ops rest st e
  | none=>none
def rnQ (o:qbx) (st:St) (out:Out):List Nm :=
 if qwp o.op&&qb8 out then [] else qcl (lookR st.objs) (qkk o.op (qb8 out)) (qbl (o.op.xs.map (RX.evF st.tmps))++out.frz)
def yldQ (op:ROp) (tm:List PV):Bool :=
 match op with
 | .call f args=>match f.evF tm with
  | .yld _=>(qbl (args.map (RX.evF tm))).isEmpty
  | _=>false
 | _=>false
def infoQ (ops:List qbx) (i:Nat) (o:qbx) (st:St) (out:Out):qrs :=
 let vs:=o.op.xs.map (RX.evF st.tmps)
 {i,dst:=o.dst,reads:=qtj o.op.xs++qdc ops o,rn:=rnQ o st out,rv:=if qjt o.op then [] else Qfm (lookR st.objs) (rnQ o st out),
  cls:=if qh4 o.op&&qdj vs then (if yldQ o.op st.tmps then .calls else .other) else if qb8 out then .quiet else if qdl out then .turns else .other,
  on:=out.v.names++out.new.flatMap Ob.names,tch:=qd8 out++(out.frz++out.kill.toList),frz:=!(out.frz++out.kill.toList).isEmpty,
  vn:=(qtj o.op.xs++qdc ops o).flatMap fun s=>(nthR st.tmps s).names}
def outDQ (M:qfl) {E:Type} (h:qbf E) (dep:Nat) (ops:List qbx) (i:Nat) (o:qbx) (st:St) (e:E):Option (St×E×qrs) :=
 match Qm6 ops o st.tmps with
 | some true=>match outQ M h dep o st e with
  | some (out,e)=>fOut (deepOp o.op) out fun out=>some (Qdh st o.dst out,e,infoQ ops i o st out)
  | none=>none
 | some false=>some (Qdh st o.dst {v:=.tup []},e,{i,cls:=.quiet,dst:=o.dst,reads:=qdc ops o,rn:=[],vn:=(qdc ops o).flatMap fun s=>(nthR st.tmps s).names})
 | none=>none
def runDQ (M:qfl) {E:Type} (h:qbf E) (dep:Nat) (ops:List qbx):List (Nat×Nat)→List qrs→St→E→Option (St×E)
 | [],_,st,e=>some (st,e)
 |(i,bef) :: rest,infos,st,e=>match getR ops i with
  | some o=>match outDQ M h dep ops i o st e with
   | some (st,e,info)=>chk (infos.all fun j=>bef.testBit j.i||Qbl j info) (runDQ M h dep ops rest (info :: infos) st e)
   | none=>none
  | none=>none
def qmu (M:qfl) (fuel:Nat):qc9→{E:Type}→qbf E→Nat→St→E→Option (Ex×St×E)
 | .skip,_,_,_,st,e=>some (.normal,st,e)
 | .region ops none qhx,_,h,dep,st,e=>match runQ M h dep ops ops (Qj9 (qro ops) st) e with
  | some (st,e)=>fTm (tidyQ qhx st) fun st=>some (.normal,st,e)
  | none=>none
 | .region ops (some bef) qhx,_,h,dep,st,e=>match runDQ M h dep ops bef [] (Qj9 (qro ops) st) e with
  | some (st,e)=>fTm (tidyQ qhx st) fun st=>some (.normal,st,e)
  | none=>none
 | .seq a b,_,h,dep,st,e=>match qmu M fuel a h dep st e with
  | some (.normal,st,e)=>qmu M fuel b h dep st e
  | r=>r
 | .cond c a b,_,h,dep,st,e=>match c.ev st.tmps with
  | .bool true=>qmu M fuel a h dep st e
  | .bool false=>qmu M fuel b h dep st e
  | _=>none
 | .block id body,_,h,dep,st,e=>match qmu M fuel body h dep st e with
  | some (.exit id',st,e)=>if id'=id then some (.normal,st,e) else some (.exit id',st,e)
  | r=>r
 | .loop asg grow body,E,h,dep,st,e=>fSt (normQ asg grow st) fun st =>
  match qg4 (fun (s:St×E)=>match qmu M fuel body h dep s.1 s.2 with
   | some (.normal,st1,e)=>fSt (dropQ (undefs st) st1) fun st1=>fSt (normQ asg grow st1) fun st=>some (.inl (st,e))
   | some (x,st,e)=>some (.inr (x,st,e))
   | none=>none) fuel (st,e) with
  | some (x,st,e)=>some (x,st,e)
  | none=>none
 | .scope body,_,h,dep,st,e=>match qmu M fuel body h dep st e with
  | some (.exit id,st,e)=>if id < qha then some (.exit id,st,e) else none
  | r=>r
 | .norm grow,_,_,_,st,e=>fSt (normQ [] grow (trim st)) fun st=>some (.normal,st,e)
 | .rangeFunc f ps a b,_,h,dep,st,e=>qbu M fuel (.rangeFunc f ps a b) h dep st e
 | .exit id,_,_,_,st,e=>some (.exit id,st,e)
 | .ret,_,_,_,st,e=>some (.ret,st,e)
 | .dreg _ _ _ _,_,_,_,_,_=>none
 | .bad,_,_,_,_,_=>none
def callQ (M:qfl) (n:Nat) (tab:FuncId→Option RFn):qtd:=fun _ h dep f args e =>
 match tab f with
 | none=>none
 | some fn=>fVL false args fun args =>
  match qmu M n fn.code h dep {tmps:=args++List.replicate (fn.nt - args.length) .undef,objs:=List.replicate fn.nt [],keep:=[]} e with
  | some (x,st,e) =>
   match x with
   | .exit _=>none
   | _=>match qm9 st fn.res with
    | some vs=>match qko fn.shut st (qq5 vs) with
     | some (v,obs)=>fV true v fun v=>fObs true obs fun obs=>some (v,obs,e)
     | none=>none
    | none=>none
  | none=>none
def qlt (M:qfl) (fuel nt:Nat):qc9→St→Option (Ex×St×List Nat)
 | .dreg ops f args live,st=>match runQ M qbc 0 ops ops (Qj9 (qro ops) st) () with
  | some (st,_)=>chk (decide (args.length+1≤nt)&&isFn (f.ev st.tmps))
    (fTm (tidyQ live (pushD nt (f.ev st.tmps :: args.map (RX.ev st.tmps)) st)) fun st=>some (.normal,st,[args.length]))
  | none=>none
 | .seq a b,st=>match qlt M fuel nt a st with
  | some (.normal,st,l)=>match qlt M fuel nt b st with
   | some (x,st,l')=>some (x,st,l'++l)
   | none=>none
  | r=>r
 | .cond c a b,st=>match c.ev st.tmps with
  | .bool true=>qlt M fuel nt a st
  | .bool false=>qlt M fuel nt b st
  | _=>none
 | .block id body,st=>match qlt M fuel nt body st with
  | some (.exit id',st,l)=>if id'=id then some (.normal,st,l) else some (.exit id',st,l)
  | r=>r
 | .scope body,st=>if qw0 body then none else match qlt M fuel nt body st with
  | some (.exit id,st,l)=>if id < qha then some (.exit id,st,l) else none
  | r=>r
 | c,st=>qra (qmu M fuel c qbc 0 st ())
def ioRawQ (M:qfl) (n:Nat) (fn:RFn) (ins:List Ob) (vs:List PV):Option (St×PV) :=
 if noD fn.code then fSt (ioSt fn.gone fn.nt ins vs) fun st0=>match qmu M n fn.code qbc 0 st0 () with
  | some (x,st,_) =>
   match x with
   | .exit _=>none
   | _=>match qm9 st fn.res with
    | some rs=>some (st,qq5 rs)
    | none=>none
  | none=>none
 else fSt (ioSt fn.gone fn.nt ins vs) fun st0=>match qlt M n fn.nt fn.code st0 with
  | some (x,st,l) =>
   match x with
   | .exit _=>none
   | _=>match Qpv M fn.nt l st with
    | some st=>match qm9 st fn.res with
     | some rs=>some (st,qq5 rs)
     | none=>none
    | none=>none
  | none=>none
def fObD {R:Type}:Ob→(Ob→R)→R
 | .cells ty cs,K=>fVL false cs fun cs=>K (.cells ty cs)
 | .arr k ty xs,K=>fVL false xs fun xs=>K (.arr k ty xs)
 | .map es,K=>fSp es fun es=>K (.map es)
 | .siter s p,K=>K (.siter s p)
def fObDs {R:Type}:List Ob→(List Ob→R)→R
 | [],K=>K []
 | x :: xs,K=>fObD x fun x=>fObDs xs fun xs=>K (x :: xs)
def ioOfQ (M:qfl) (n:Nat) (tab:FuncId→Option RFn) (f:FuncId) (dst:Nat) (σ:Nm→Option Ob) (vs:List PV):Option Out :=
 match tab f with
 | none=>none
 | some fn =>
  fSp (qgg (qcl σ qbm (qbl vs))) fun R =>
  match R.mapM σ with
  | none=>none
  | some ins =>
   chk (!qdj vs&&qjo σ R&&ins.all (fun o=>!o.hasY)&&(decide (vs.length≤fn.nt)&&decide (R.length≤fn.nt)&&decide (0 < fn.nt))) (
    fObDs (ins.map (Ob.ren fun m=>(0,R.idxOf m))) fun ins=>fVL false (qh0 (fun m=>(0,R.idxOf m)) vs) fun vs =>
    match ioRawQ M n fn ins vs with
    | some (st,v)=>fSt st fun st=>qre σ dst R st v
    | none=>none)
def Qjy (memo:FuncId→List PV→Option PV) (sp:FuncId→(Nm→Option Ob)→List PV→Option Out) (tab:FuncId→Option RFn):Nat→qfl
 | 0=>qlk sp tab 0
 | n+1=>{qlk sp tab 0 with call:=Qd8 memo (callQ (Qjy memo sp tab n) n tab),io:=ioOfQ (Qjy memo sp tab n) n tab}
def evalFq (memo:FuncId→List PV→Option PV) (sp:FuncId→(Nm→Option Ob)→List PV→Option Out) (tab:FuncId→Option RFn) (n:Nat):qtd:=(Qjy memo sp tab n).call
section qc3
variable {R:Type}
theorem fN_eq (n:Nat) (K:Nat→R):fN n K=K n:=by cases n<;>rfl
theorem fI_eq (n:Int) (K:Int→R):fI n K=K n:=by cases n<;>simp only[fI,fN_eq]
theorem fB_eq (b:Bool) (K:Bool→R):fB b K=K b:=by cases b<;>rfl
theorem fKd_eq (k:IntKind) (K:IntKind→R):fKd k K=K k:=by cases k<;>rfl
theorem fS_eq:∀ (s:List UInt8) (K:List UInt8→R),fS s K=K s
 | [],_=>rfl
 | x :: xs,K=>by simp only[fS];rw[fS_eq xs]
theorem Qmd {α β:Type} (p:α×β) (K:α×β→R):fP p K=K p:=rfl
theorem qzm {α:Type}:∀ (s:List α) (K:List α→R),fSp s K=K s
 | [],_=>rfl
 | x :: xs,K=>by simp only[fSp];rw[qzm xs]
mutual
theorem fV_eq (d:Bool):∀ (v:PV) (K:PV→R),fV d v K=K v
 | .undef,K | .nilS,K | .nilP,K | .nilF,K | .nilI,K | .nilM,K | .yld _,K | .glob _ _,K=>by simp only[fV]
 | .bool b,K=>by simp only[fV,fB_eq]
 | .int k n,K=>by simp only[fV,fKd_eq,fI_eq]
 | .str s,K=>by simp only[fV,fS_eq]
 | .sl k xs f,K=>by cases d<;>simp only[fV,qzm];rw[qmt true xs]
 | .ptr cs o,K=>by cases d<;>simp only[fV,qzm];rw[qmt true cs]
 | .imap es,K=>by cases d<;>simp only[fV,qzm];rw[qmt true es]
 | .agg cs,K=>by simp only[fV];rw[qmt d cs]
 | .iface t x,K=>by simp only[fV];rw[fV_eq d x]
 | .fn f cap,K=>by simp only[fV];rw[qmt d cap]
 | .tup xs,K=>by simp only[fV];rw[qmt d xs]
 | .ref nm o,K=>by simp only[fV,Qmd,fN_eq]
 | .aref nm k i o,K=>by simp only[fV,Qmd,fN_eq]
 | .arr nm k o n,K=>by simp only[fV,Qmd,fN_eq]
 | .mp nm,K=>by simp only[fV,Qmd]
 | .it nm,K=>by simp only[fV,Qmd]
theorem qmt (d:Bool):∀ (xs:List PV) (K:List PV→R),fVL d xs K=K xs
 | [],K=>by simp only[fVL]
 | x :: xs,K=>by simp only[fVL];rw[fV_eq d x,qmt d xs]
end
theorem fH_eq (v:PV) (K:PV→R):fH v K=K v:=by cases v<;>simp only[fH,qmt,fV_eq,Qmd]
theorem fHL_eq:∀ (xs:List PV) (K:List PV→R),fHL xs K=K xs
 | [],_=>rfl
 | x :: xs,K=>by
  show fH x (fun x=>fHL xs fun xs=>K (x :: xs))=_
  rw[fH_eq,fHL_eq xs]
theorem fOb_eq (d:Bool) (o:Ob) (K:Ob→R):fOb d o K=K o:=by cases o<;>cases d<;>simp only[fOb,qmt,qzm,fN_eq]
theorem Qme (d:Bool):∀ (xs:List Ob) (K:List Ob→R),fObs d xs K=K xs
 | [],_=>rfl
 | x :: xs,K=>by simp only[fObs];rw[fOb_eq,Qme d xs]
theorem fObH_eq (o:Ob) (K:Ob→R):fObH o K=K o:=by cases o<;>simp only[fObH,qmt]
theorem Qpr:∀ (xs:List Ob) (K:List Ob→R),fObHs xs K=K xs
 | [],_=>rfl
 | x :: xs,K=>by simp only[fObHs];rw[fObH_eq,Qpr xs]
theorem fOL_eq:∀ (xs:List (List Ob)) (K:List (List Ob)→R),fOL xs K=K xs
 | [],_=>rfl
 | x :: xs,K=>by simp only[fOL];rw[Qpr,fOL_eq xs]
theorem qv7 (st:St) (K:St→R):fSt st K=K st:=by cases st;simp only[fSt,fHL_eq,fOL_eq]
theorem Qju (st:St) (K:St→R):fTm st K=K st:=by cases st;simp only[fTm,fHL_eq]
theorem fUpd_eq (u:Option (Nm×Ob)) (K:Option (Nm×Ob)→R):fUpd u K=K u:=by
 cases u with
 | none=>rfl
 | some p=>simp only[fUpd,Qmd,fOb_eq]
theorem fOut_eq (d:Bool) (o:Out) (K:Out→R):fOut d o K=K o:=by cases o;simp only[fOut,fV_eq,Qme,fUpd_eq]
end qc3
theorem qrg {α:Type}:∀ (l:List α) (n:Nat),getR l n=l[n]?
 | [],_=>by simp[getR]
 | x :: xs,0=>rfl
 | x :: xs,n+1=>by rw[List.getElem?_cons_succ,←qrg xs n];rfl
theorem qq8:∀ (l:List PV) (n:Nat),nthR l n=l.getD n .undef
 | [],_=>by simp[nthR]
 | x :: xs,0=>rfl
 | x :: xs,n+1=>by rw[List.getD_cons_succ,←qq8 xs n];rfl
theorem setR_eq:∀ (l:List PV) (n:Nat) (v:PV),setR l n v=l.set n v
 | [],_,_=>by simp[setR]
 | x :: xs,0,_=>rfl
 | x :: xs,n+1,v=>by rw[List.set_cons_succ,←setR_eq xs n];rfl
theorem evR_eq (tm:List PV):RX.evR tm=fun x=>.c (x.ev tm):=by
 funext x
 cases x with
 | t i=>simp only[RX.evR,RX.ev,qq8]
 | c v=>rfl
theorem Qn0 (σ:List (List Ob)):lookR σ=qbo σ:=by
 funext nm
 unfold lookR qbo
 rw[qrg]
 cases σ[nm.1]? with
 | none=>rfl
 | some l=>exact qrg l nm.2
theorem evF_eq (tm:List PV):RX.evF tm=RX.ev tm:=by
 funext x
 cases x with
 | t i=>exact qq8 tm i
 | c v=>rfl
theorem Qp7 (m i:Nat):Qkk m i=m.testBit i:=by
 unfold Qkk
 rw[Nat.testBit_eq_decide_div_mod_eq]
 show ((m >>> i) &&& 1).beq 1=_
 rw[Nat.and_one_is_mod,Nat.shiftRight_eq_div_pow]
 by_cases h:m / 2 ^ i%2=1
 ·rw[h];rfl
 ·cases hb:(m / 2 ^ i%2).beq 1 with
  | false=>simp[h]
  | true=>exact absurd (Nat.eq_of_beq_eq_true hb) h
theorem qye (i:Nat):∀ ds:List Nat,Qkk (qtt ds) i=ds.contains i
 | []=>by rw[Qp7];simp[qtt]
 | d :: ds=>by
  have ih:=qye i ds
  rw[Qp7] at ih ⊢
  show (1 <<< d ||| qtt ds).testBit i=_
  rw[Nat.testBit_or,ih,Nat.one_shiftLeft,Nat.testBit_two_pow,List.contains_cons]
  congr 1
  by_cases h:i=d
  ·simp[h]
  ·have h2:¬d=i:=fun e=>h e.symm
   simp[h,h2]
theorem qyr (ds:List Nat) (b:Bool):∀ (l:List PV) (i:Nat),Qh7 (qtt ds) b i l=(l.zipIdx i).map fun (v,j)=>if ds.contains j=b then v else .undef
 | [],_=>rfl
 | v :: vs,i=>by
  simp only[Qh7,List.zipIdx_cons,List.map_cons,qyr ds b vs,qye]
  congr 1
  cases ds.contains i<;>cases b<;>simp
theorem Qku (ds:List Nat) (st:St):Qdk ds st=qm2 ds st:=by
 unfold Qdk qm2
 rw[qyr]
 congr 2
 funext p
 cases ds.contains p.2<;>simp
theorem Qh6 (ds:List Nat) (st:St):qyq ds st=qkm ds st:=by
 unfold qyq qkm
 rw[qyr]
theorem Qbv:∀ (l:List PV) (i:Nat),qxd i l=((l.zipIdx i).filter fun (v,_)=>qg7 v).map (·.2)
 | [],_=>rfl
 | v :: vs,i=>by
  simp only[qxd,List.zipIdx_cons,List.filter_cons,Qbv vs]
  cases v<;>simp[qg7]
theorem undefsQ_eq (st:St):undefsQ st=undefs st:=Qbv _ _
theorem qvn (R:List Nm):∀ (objs:List (List Ob)) (i:Nat) (f:Nat→List Ob),(∀ j,j < objs.length→f (i+j)=objs.getD j []) →
  (List.range' i objs.length).filter (fun d=>!(f d).isEmpty&&R.all fun nm=>nm.1 != d)=qgh R i objs
 | [],_,_,_=>rfl
 | l :: ls,i,f,hf=>by
  have ih:=qvn R ls (i+1) f fun j hj=>by
   have:=hf (j+1) (by simpa using hj)
   rw[show i+1+j=i+(j+1) by omega,this]
   rfl
  have h0:f i=l:=hf 0 (by simp)
  simp only[List.length_cons,List.range'_succ,List.filter_cons,h0,qgh]
  rw[ih]
  cases l with
  | nil=>simp
  | cons a l=>cases (R.all fun nm=>nm.1 != i)<;>simp
theorem qxb (st:St):Qdj st=qqt st:=by
 unfold Qdj qqt
 rw[←qvn _ st.objs 0 (fun d=>st.objs.getD d []) (fun j _=>by rw[Nat.zero_add]),List.range_eq_range']
theorem Qc8 (ds:List Nat):∀ (l:List (List Ob)) (i:Nat),Qf0 (qtt ds) i l=(l.zipIdx i).map fun (v,j)=>if ds.contains j then [] else v
 | [],_=>rfl
 | v :: vs,i=>by
  simp only[Qf0,List.zipIdx_cons,List.map_cons,Qc8 ds vs,qye]
  congr 1
  cases ds.contains i<;>simp
theorem Qko (objs:List (List Ob)):∀ ds:List Nat,Qp9 objs ds=ds.all fun d=>(objs.getD d []).isEmpty
 | []=>rfl
 | d :: ds=>by
  simp only[Qp9,List.all_cons,Qko objs ds,qrg,List.getD_eq_getElem?_getD]
  cases objs[d]? with
  | none=>simp
  | some l=>cases l<;>simp
theorem Qka (ds:List Nat) (st:St) (h:(ds.all fun d=>(st.objs.getD d []).isEmpty)=false):Qp1 ds st=qlf ds st:=by
 unfold qlf
 rw[if_neg (by rw[h];decide)]
 unfold Qp1
 rw[show (fun m:Nm=>match Qkk (qtt ds) m.1 with | true=>some (none:Option Ob) | false=>none)=fun m=>if ds.contains m.1 then some none else none by
  funext m
  rw[qye]
  cases ds.contains m.1<;>rfl]
 simp only[Qc8]
theorem qpr (ds:List Nat) (st:St):Qj9 ds st=qlf ds st:=by
 unfold Qj9
 rw[Qko]
 split
 ·rename_i h;unfold qlf;rw[if_pos h]
 ·rename_i h;exact Qka ds st h
theorem qvm (R:List Nm):∀ (objs:List (List Ob)) (i d:Nat),d∈qgh R i objs→i≤d∧∃ a l,objs[d - i]?=some (a :: l)
 | [],_,_,h=>by simp[qgh] at h
 | l :: ls,i,d,h=>by
  have ih:=qvm R ls (i+1) d
  have step:d∈qgh R (i+1) ls→i≤d∧∃ a l',(l :: ls)[d - i]?=some (a :: l'):=fun h=>by
   obtain⟨h1,a,l',h2⟩:=ih h
   refine⟨by omega,a,l',?_⟩
   rw[show d - i=d - (i+1)+1 by omega,List.getElem?_cons_succ]
   exact h2
  simp only[qgh] at h
  split at h
  ·exact step h
  ·split at h
   ·rcases List.mem_cons.1 h with rfl | h
    ·exact⟨Nat.le_refl _,_,_,by rw[Nat.sub_self];rfl⟩
    ·exact step h
   ·exact step h
theorem Qj8 (st:St):Qp0 st=qlf (qqt st) st:=by
 unfold Qp0
 split
 ·rename_i h;rw[←qxb,h];rfl
 ·rename_i d ds h
  rw[←qxb,h]
  refine Qka _ _ ?_
  obtain⟨_,a,l,h2⟩:=qvm _ st.objs 0 d (by rw[show qgh _ 0 st.objs=d :: ds from h];exact List.mem_cons_self)
  rw[List.all_cons,List.getD_eq_getElem?_getD,show st.objs[d]?=some (a :: l) from h2]
  rfl
theorem qs2 (ds:List Nat) (st:St):dropQ ds st=drop ds st:=by unfold dropQ drop;rw[Qj8,Qku]
theorem Qcz (asg:List Nat):∀ (l:List PV) (i t:Nat),qy2 (qtt asg) i l=true→asg.contains (i+t)=true→∀ nm k o n,l.getD t .undef=.arr nm k o n→nm=(i+t,0)
 | [],_,_,_,_,_,_,_,_=>by simp
 | x :: xs,i,0,h,hc,nm,k,o,n=>by
  intro e
  simp only[List.getD_cons_zero] at e
  subst e
  simp only[qy2,qye] at h
  rw[show asg.contains i=true from hc] at h
  obtain⟨a,b⟩:=nm
  dsimp only at h
  cases hb:Nat.beq a i with
  | false=>rw[hb] at h;cases h
  | true =>
   rw[hb] at h
   cases b with
   | zero=>rw[Nat.eq_of_beq_eq_true hb];rfl
   | succ b=>cases h
 | x :: xs,i,t+1,h,hc,nm,k,o,n=>by
  rw[List.getD_cons_succ,show i+(t+1)=i+1+t by omega]
  rw[show i+(t+1)=i+1+t by omega] at hc
  refine Qcz asg xs (i+1) t ?_ hc nm k o n
  simp only[qy2] at h
  repeat' split at h
  all_goals first | exact h | cases h
theorem Qb9 (t:Nat) (st:St) (h:∀ nm k o n,st.tmps.getD t .undef=.arr nm k o n→nm=(t,0)):qj5 t st=st:=by
 unfold qj5
 split
 ·rename_i nm k o n e
  rw[if_neg]
  exact fun hh=>hh.1 (h nm k o n e)
 ·rfl
theorem Qb8 (st:St):∀ (asg:List Nat),(∀ t∈asg,∀ nm k o n,st.tmps.getD t .undef=.arr nm k o n→nm=(t,0))→asg.foldl (fun st t=>qj5 t st) st=st
 | [],_=>rfl
 | t :: asg,h=>by rw[List.foldl_cons,Qb9 t st (h t List.mem_cons_self)];exact Qb8 st asg fun u hu=>h u (List.mem_cons_of_mem _ hu)
theorem qq2 {R:Type}:∀ (asg:List Nat) (st:St) (K:St→R),qr4 asg st K=K (asg.foldl (fun st t=>qj5 t st) st)
 | [],_,_=>rfl
 | t :: asg,st,K=>by
  rw[List.foldl_cons]
  simp only[qr4]
  split
  ·rw[qv7];exact qq2 asg _ K
  ·rename_i h
   rw[Qb9 t st (fun nm k o n e=>absurd (by rw[qq8];exact e) (h nm k o n))]
   exact qq2 asg st K
theorem norm0K_eq {R:Type} (asg:List Nat) (grow:List (Nat×Nat)) (st:St) (K:St→R):norm0K asg grow st K=K (norm0 asg grow st):=by
 unfold norm0K norm0
 split
 ·rename_i h;rw[Qb8 st asg fun t ht nm k o n e=>by have:=Qcz asg st.tmps 0 t h (by simpa using ht) nm k o n e;simpa using this]
 ·rw[qq2]
theorem qwy (asg:List Nat) (grow:List (Nat×Nat)) (st:St):normQ asg grow st=norm asg grow st:=by unfold normQ norm;rw[norm0K_eq,qv7,qs2,undefsQ_eq]
theorem qru (live:Option (List Nat)) (st:St):tidyQ live st=Qm9 live st:=by
 unfold tidyQ Qm9
 split
 ·rfl
 ·rw[Qj8,Qh6]
theorem evRs_eq (tm tm':List PV) (xs:List RX):(xs.map fun x=>RX.c (x.ev tm)).map (RX.ev tm')=xs.map (RX.ev tm):=by
 rw[List.map_map];rfl
theorem exec_instA (d:Nat) (σ:Nm→Option Ob) (T:List PV) (op:ROp):exec d σ [] (op.mapX fun x=>.c (x.ev T))=exec d σ T op:=by
 cases op with
 | build z ps=>simp only[ROp.mapX,exec];rw[Qpo T]
 | slice k x lo hi mx=>simp only[ROp.mapX,exec];rw[ql6,ql6,ql6];rfl
 | strSlice x lo hi=>simp only[ROp.mapX,exec];rw[ql6,ql6];rfl
 | minmax mx xs=>simp only[ROp.mapX,exec,List.map_map];rfl
 | mkSl k xs=>simp only[ROp.mapX,exec,List.map_map];rfl
 | mkF f xs=>simp only[ROp.mapX,exec,List.map_map];rfl
 | _=>rfl
theorem qz6 (st:St) (dst:Option Nat) (o:Out):Qdh st dst o=apply st dst o:=by
 unfold Qdh
 split
 ·rename_i h
  obtain⟨v,new,upd,kill,frz,gone,ups,io,slot⟩:=o
  simp only[stillO,qb8,Bool.and_eq_true,Option.isNone_iff_eq_none,List.isEmpty_iff] at h
  obtain⟨⟨⟨⟨⟨⟨rfl,rfl⟩,rfl⟩,rfl⟩,rfl⟩,rfl⟩,rfl⟩:=h
  unfold apply
  cases dst<;>simp[setR_eq]
 ·rfl
section eval_eq
variable (M:qfl) {E:Type} (h:qbf E) (dep:Nat) (ops:List qbx)
theorem Qfv (dst:Nat) (σ:Nm→Option Ob) (tm:List PV) (f:RX) (args:List RX) (e:E):qck M h dep dst σ [] (.c (f.ev tm)) (args.map fun x=>.c (x.ev tm)) e=qck M h dep dst σ tm f args e:=by
 have hv:=evRs_eq tm [] args
 unfold qck
 simp only[hv]
 rfl
theorem outQ_eq (o:qbx) (st:St) (e:E):outQ M h dep o st e=qh8 M h dep o st e:=by
 unfold outQ qh8
 rw[show freshQ o st=qgd o st by unfold freshQ qgd;simp only[qrg]<;>rfl,Qn0,evR_eq]
 congr 1
 cases o.op with
 | call f args=>have hc:=Qfv M h dep (o.dst.getD 0) (qbo st.objs) st.tmps f args e;simp only[hc]<;>rfl
 | _=>simp only[exec_instA]<;>rfl
theorem Qgg (o:qbx) (tm:List PV):Qm6 ops o tm=qjm ops o tm:=by
 unfold Qm6 qjm
 simp only[qrg,qq8]<;>rfl
theorem stepQ_eq (o:qbx) (st:St) (e:E):stepQ M h dep ops o st e=stepG M h dep ops o st e:=by
 unfold stepQ stepG qrw
 rw[Qgg]
 split<;>rename_i hw<;>simp only[hw,fOut_eq,outQ_eq,qz6]<;>rfl
theorem Qk4:∀ (l:List qbx) (st:St) (e:E),runQ M h dep ops l st e=qhg M h dep ops l st e
 | [],_,_=>rfl
 | o :: l,st,e=>by
  simp only[runQ,qhg,stepQ_eq,Qk4 l]<;>rfl
theorem infoQ_eq (i:Nat) (o:qbx) (st:St) (out:Out):infoQ ops i o st out=qk8 ops i o st out:=by
 unfold infoQ qk8 rnQ Qgz yldQ qty
 simp only[evF_eq,Qn0,qq8]<;>rfl
theorem outDQ_eq (i:Nat) (o:qbx) (st:St) (e:E):outDQ M h dep ops i o st e=Qgn M h dep ops i o st e:=by
 unfold outDQ Qgn qm1
 rw[Qgg,outQ_eq]
 cases qjm ops o st.tmps with
 | none=>rfl
 | some b =>
  cases b with
  | true =>
   cases qh8 M h dep o st e with
   | none=>rfl
   | some p=>simp only[fOut_eq,qz6,infoQ_eq]
  | false=>simp only[qz6,qq8]
theorem Qng:∀ (l:List (Nat×Nat)) (infos:List qrs) (st:St) (e:E),runDQ M h dep ops l infos st e=Qnh M h dep ops l infos st e
 | [],_,_,_=>rfl
 |(i,bef) :: l,infos,st,e=>by
  simp only[runDQ,Qnh,qrg,outDQ_eq,Qng l]<;>rfl
end eval_eq
theorem qjk (M:qfl) (fuel:Nat):∀ (c:qc9) {E:Type} (h:qbf E) (dep:Nat) (st:St) (e:E),qmu M fuel c h dep st e=qbu M fuel c h dep st e
 | .skip,_,_,_,_,_ | .exit _,_,_,_,_,_ | .ret,_,_,_,_,_ | .bad,_,_,_,_,_ | .dreg _ _ _ _,_,_,_,_,_ | .rangeFunc _ _ _ _,_,_,_,_,_=>by simp only[qmu,qbu]<;>rfl
 | .norm _,_,_,_,_,_=>by simp only[qmu,qbu,qv7,Qju,qpr,qru,qwy,qs2]<;>rfl
 | .region ops none qhx,_,h,dep,st,e=>by simp only[qmu,qbu,qv7,Qju,qpr,qru,qwy,qs2,Qk4]<;>rfl
 | .region ops (some bef) qhx,_,h,dep,st,e=>by simp only[qmu,qbu,qv7,Qju,qpr,qru,qwy,qs2,Qng]<;>rfl
 | .seq a b,_,h,dep,st,e=>by simp only[qmu,qbu,qjk M fuel a,qjk M fuel b]<;>rfl
 | .cond c a b,_,h,dep,st,e=>by simp only[qmu,qbu,qjk M fuel a,qjk M fuel b]<;>rfl
 | .block id b,_,h,dep,st,e=>by simp only[qmu,qbu,qjk M fuel b]<;>rfl
 | .scope b,_,h,dep,st,e=>by simp only[qmu,qbu,qjk M fuel b]<;>rfl
 | .loop asg grow b,_,h,dep,st,e=>by simp only[qmu,qbu,qv7,Qju,qpr,qru,qwy,qs2,qjk M fuel b]<;>rfl
theorem callQ_eq (M:qfl) (n:Nat) (tab:FuncId→Option RFn):callQ M n tab=qpu M n tab:=by
 funext E h dep f args e
 simp only[callQ,qpu,qmt,qjk,fV_eq,Qme]<;>rfl
theorem qla (M:qfl) (fuel nt:Nat):∀ (c:qc9) (st:St),qlt M fuel nt c st=qcm M fuel nt c st
 | .dreg ops f args live,st=>by simp only[qlt,qcm,Qk4,qpr,Qju,qru]<;>rfl
 | .seq a b,st=>by simp only[qlt,qcm,qla M fuel nt a,qla M fuel nt b]<;>rfl
 | .cond c a b,st=>by simp only[qlt,qcm,qla M fuel nt a,qla M fuel nt b]<;>rfl
 | .block id b,st=>by simp only[qlt,qcm,qla M fuel nt b]<;>rfl
 | .scope b,st=>by simp only[qlt,qcm,qla M fuel nt b]<;>rfl
 | .skip,_ | .region _ _ _,_ | .loop _ _ _,_ | .rangeFunc _ _ _ _,_ | .exit _,_ | .ret,_ | .norm _,_ | .bad,_=>by simp only[qlt,qcm,qjk]<;>rfl
theorem ioRawQ_eq (M:qfl) (n:Nat) (fn:RFn) (ins:List Ob) (vs:List PV):ioRawQ M n fn ins vs=qt0 M n fn ins vs:=by
 unfold ioRawQ qt0
 simp only[qv7,qjk,qla]<;>rfl
theorem fObD_eq {R:Type} (o:Ob) (K:Ob→R):fObD o K=K o:=by cases o<;>simp only[fObD,qmt,qzm]
theorem Qps {R:Type}:∀ (xs:List Ob) (K:List Ob→R),fObDs xs K=K xs
 | [],_=>rfl
 | x :: xs,K=>by simp only[fObDs];rw[fObD_eq,Qps xs]
theorem ioOfQ_eq (M:qfl) (n:Nat) (tab:FuncId→Option RFn):ioOfQ M n tab=Qkt M n tab:=by
 funext f dst σ vs
 unfold ioOfQ Qkt
 simp only[qzm,Qps,qmt,ioRawQ_eq,qv7]<;>rfl
theorem Qjx (memo:FuncId→List PV→Option PV) (sp:FuncId→(Nm→Option Ob)→List PV→Option Out) (tab:FuncId→Option RFn):∀ n,Qjy memo sp tab n=qzo memo sp tab n
 | 0=>rfl
 | n+1=>by simp only[Qjy,qzo,Qjx memo sp tab n,callQ_eq,ioOfQ_eq]
theorem qct {sp:FuncId→(Nm→Option Ob)→List PV→Option Out} {tab:FuncId→Option RFn} {l:Qgc} (hl:qtc sp tab l) {n:Nat} {g:FuncId} {args:List PV} {r:PV}
  (h:evalFq (Qhm l) sp tab n Unit qbc 0 g args ()=some (r,[],())):∃ m,qcw sp tab m Unit qbc 0 g args ()=some (r,[],()) :=
 ev_known hl (n:=n) (by unfold evalFm;rw[←Qjx];exact h)
end
end Go.Ab

