/-
  Part 5 of a proof: a machine of our own for the given program, its laws, and what it says of the program. Nothing here is a claim by itself.
-/
import Derived.Test.YtbeonejdegijfaaGreatDoorK04
import Derived.Test.YtbeonejdegijfaaGreatDoorK03
import Derived.RowKit
import Derived.Lib.AppendIntMem
import Derived.Lib.CountLaws
import Derived.Lib.Replace
import Derived.Lib.ItoaNum
import Derived.Conc.MuLone
import Derived.Test.YtbeonejdegijfaaGreatDoorProg
import Derived.Test.YtbeonejdegijfaaGreatDoorK01
import Derived.KernelRfl
import Derived.IntWalk
import Derived.Lib.Mul64
import Derived.Lib.EndianBits
set_option linter.all false

namespace Go.Ab
mutual
theorem qra:∀ (p x:KV),qhj p x=true→x.ok→qp3 p x.pv=some (qdh p x)
 | .un,x,h,_=>by cases x<;>simp[qhj] at h;rfl
 | .sk,x,h,_=>by cases x<;>simp[qhj] at h;rfl
 | .yld d,x,h,_=>by cases x<;>simp[qhj] at h;rfl
 | .ref nm o,x,h,_=>by cases x<;>simp[qhj] at h;obtain⟨rfl,rfl⟩:=h;simp[qp3,KV.pv,qdh,qbq]
 | .aref _ _ _ _,x,h,_=>by simp[qhj] at h
 | .mp nm,x,h,_=>by cases x<;>simp[qhj] at h;subst h;simp[qp3,KV.pv,qdh,qbq]
 | .it nm,x,h,_=>by cases x<;>simp[qhj] at h;subst h;simp[qp3,KV.pv,qdh,qbq]
 | .wit nm,x,h,_=>by cases x<;>simp[qhj] at h;subst h;simp[qp3,KV.pv,qdh,qbq]
 | .arr nm k o n,x,h,_=>by
  cases x with
  | arr nm' k' o' n' =>
   simp only[qhj] at h
   simp only[KV.pv,qp3,qdh]
   rw[h];rfl
  | _=>simp[qhj] at h
 | .lit b,x,h,hx=>qr8 hx (by simpa[qhj] using h)
 | .nils,x,h,hx=>qr8 hx (by simpa[qhj] using h)
 | .cv v,x,h,hx=>qr8 hx (by simpa[qhj] using h)
 | .fn f cap,x,h,hx=>by
  cases x with
  | fn f' cap' =>
   simp only[qhj,Bool.and_eq_true,beq_iff_eq] at h
   obtain⟨rfl,h⟩:=h
   simp only[KV.pv,qp3,if_true,qdh]
   exact qjr cap cap' h hx
  | _=>simp[qhj] at h
 | .tup xs,x,h,hx=>by
  cases x with
  | tup ys =>
   simp only[qhj] at h
   simp only[KV.pv,qp3,qdh]
   exact qjr xs ys h hx
  | _=>simp[qhj] at h
 | .agg cs,x,h,hx=>by
  simp only[qhj] at h
  simp only[qp3,qdh]
  by_cases hc:(clL cs).isSome=true
  ·rw[if_pos hc] at h
   rw[if_pos hc,if_pos hc]
   exact qr8 hx h
  ·rw[if_neg hc] at h
   rw[if_neg hc,if_neg hc]
   cases x with
   | agg cs'=>exact qjr cs cs' h hx
   | _=>simp at h
 | .iface t y,x,h,hx=>by
  simp only[qhj] at h
  simp only[qp3,qdh]
  by_cases hc:y.cl.isSome=true
  ·rw[if_pos hc] at h
   rw[if_pos hc,if_pos hc]
   exact qr8 hx h
  ·rw[if_neg hc] at h
   rw[if_neg hc,if_neg hc]
   cases x with
   | iface t' y' =>
    simp only[Bool.and_eq_true,beq_iff_eq] at h
    obtain⟨rfl,h⟩:=h
    simp only[KV.pv,if_true]
    exact qra y y' h hx
   | _=>simp at h
theorem qjr:∀ (ps xs:List KV),qzy ps xs=true→qf6 xs→qys ps (pvL xs)=some (qhn ps xs)
 | [],xs,h,_=>by cases xs<;>simp[qzy] at h;rfl
 | p :: ps,xs,h,hx=>by
  cases xs with
  | nil=>simp[qzy] at h
  | cons x xs =>
   simp only[qzy,Bool.and_eq_true] at h
   simp only[pvL,qys,qhn]
   rw[qra p x h.1 hx.1,qjr ps xs h.2 hx.2]
theorem qr8 {x:KV} (hx:x.ok) (h:x.cl.isSome=true):qbq (okV x.pv) (some [x.pv])=some [x.cl.getD .undef]:=by
 obtain⟨v,hv⟩:=Option.isSome_iff_exists.1 h
 have h1:=KV.cl_ok hx hv
 rw[KV.cl_pv hv,hv]
 simp[qbq,h1]
end
theorem Qdv (p x:KOb) (h:qj5 p x=true) (hx:x.ok):qjq p x.ob=some (qn3 p x):=by
 cases p with
 | cells ty cs =>
  cases x with
  | cells ty' cs' =>
   simp only[qj5,Bool.and_eq_true,beq_iff_eq] at h
   obtain⟨rfl,h⟩:=h
   simp only[qjq,KOb.ob,if_true]
   exact qjr cs cs' h hx
  | _=>simp[qj5] at h
 | whole ty w =>
  cases x with
  | whole ty' v =>
   simp only[qj5,beq_iff_eq] at h
   subst h
   have hx':okV v=true:=hx
   have h2:qb3 (qfu v)=true:=qco hx'
   simp[qjq,KOb.ob,qn3,qbq,h2]
  | _=>simp[qj5] at h
 | arr k kt ws =>
  cases x with
  | arr k' kt xs =>
   simp only[qj5,Bool.and_eq_true,beq_iff_eq] at h
   obtain⟨rfl,rfl⟩:=h
   have hx':qb3 xs=true:=hx
   simp[qjq,KOb.ob,qn3,qg1,qbq,hx']
  | _=>simp[qj5] at h
 | map ws =>
  cases x with
  | map es =>
   have hx':qb3 es=true:=hx
   simp[qjq,KOb.ob,qn3,qg1,qbq,hx']
  | _=>simp[qj5] at h
 | siter s0 p0 =>
  cases x with
  | siter s pos=>rfl
  | _=>simp[qj5] at h
theorem qlu:∀ (ps xs:List KOb),qhp ps xs=true→(∀ o∈xs,o.ok)→qm4 ps (xs.map KOb.ob)=some (ql6 ps xs)
 | [],[],_,_=>rfl
 | [],_ :: _,h,_=>by simp[qhp] at h
 | _ :: _,[],h,_=>by simp[qhp] at h
 | p :: ps,x :: xs,h,hx=>by
  simp only[qhp,Bool.and_eq_true] at h
  simp only[List.map_cons,qm4,ql6]
  rw[Qdv p x h.1 (hx x List.mem_cons_self),qlu ps xs h.2 fun o ho=>hx o (List.mem_cons_of_mem _ ho)]
theorem kwit_pv {x:KV} (h:x.ok):qqj x.pv=Qbq x:=by
 cases x with
 | arr nm k o n =>
  simp only[KV.pv,Qbq,qqj]
  by_cases hc:k=1∧o=0∧n=0
  ·obtain⟨rfl,rfl,rfl⟩:=hc;rfl
  ·rw[if_neg hc]
   split
   ·rename_i heq
    cases heq
    exact absurd ⟨rfl,rfl,rfl⟩ hc
   ·rfl
 | cv v =>
  have hv:okV v=true:=h
  simp only[KV.pv,Qbq]
  unfold qqj
  split
  ·simp[okV] at hv
  ·rfl
 | _=>rfl
section
variable {ks:KSt}
theorem kioEnd_ok (hk:ks.Ok) {P:qkc} {v:KV} (hv:v.ok) {rs:List PV} (h:Qg1 P ks v=some rs):∃ out,qts none 1 0 (qhv P.ins.length) ks.st v.pv=some out∧ioFit P out=some rs:=by
 unfold Qg1 at h
 split at h
 case h_2=>cases h
 rename_i sp hkeep
 simp only at h
 have hsp:qla ks.nt sp:=hk.kp sp (by rw[hkeep];exact List.mem_singleton.2 rfl)
 have hst:ks.st.keep=qdk ks.nt sp:=by
  show ks.keep.flatMap (qdk ks.nt)=_
  rw[hkeep];simp
 have hw:∀ j,qqj (ks.st.keep.getD j .undef)=Qbq (qcg sp j):=fun j=>by
  rw[hst,qh7 hsp,kwit_pv (hsp.get_ok j)]
 have hA:qg5 (qhv P.ins.length) ks.st.keep=qlj P.ins.length sp:=by
  unfold qg5 qlj
  exact List.map_congr_left fun p _=>by rw[hw]
 have hG:qvv (qhv P.ins.length) ks.st.keep=Qdj P.ins.length sp:=by
  unfold qvv Qdj
  congr 1
  exact List.filter_congr fun p _=>by rw[hw]
 have hlk:=qdp hk
 have hnm:∀ m:Nm,((qbo ks.st.objs m).map Ob.names).getD []=((qc1 ks.objs m).map KOb.names).getD []:=by
  intro m
  rw[qjz hk]
  cases hl:qc1 ks.objs m with
  | none=>rfl
  | some o =>
   simp only[Option.map_some,Option.getD_some]
   exact KOb.ob_names (qc9 hk.ob hl)
 have hN:qyc (qbo ks.st.objs) (qlj P.ins.length sp) v.pv=Qdi (qc1 ks.objs) (qlj P.ins.length sp) v:=by
  unfold qyc Qdi
  rw[KV.pv_names hv]
  have e1:((qlj P.ins.length sp).flatMap fun p=>((qbo ks.st.objs p.1).map Ob.names).getD [])=(qlj P.ins.length sp).flatMap fun p=>((qc1 ks.objs p.1).map KOb.names).getD []:=by
   congr 1;funext p;exact hnm p.1
  rw[e1,hlk,←qgn (qcj hk)]
 generalize qlj P.ins.length sp=A at h hA hN
 generalize hNd:Qdi (qc1 ks.objs) A v=N at h hN
 generalize hB:(A++N.zipIdx.map fun p=>(p.1,(1,0+p.2)))=B at h
 split at h
 case isFalse=>cases h
 rename_i hcd
 obtain⟨hnd,hgone,hfit⟩:=hcd
 cases h
 simp only[Bool.and_eq_true] at hfit
 obtain⟨hf1,hf2,hf3⟩:=hfit
 have hoff:(fun m=>if (B.map (·.1)).contains m then none else some none:Nm→Option (Option Ob))=qqe fun m=>!(B.map (·.1)).contains m:=by
  funext m
  show (if (B.map (·.1)).contains m=true then none else some none)=if (!(B.map (·.1)).contains m)=true then some none else none
  cases (B.map (·.1)).contains m<;>rfl
 have hob:∀ nm,ioOb (qbo ks.st.objs) B nm=(Qk5 (qc1 ks.objs) B nm).ob∧(Qk5 (qc1 ks.objs) B nm).ok:=by
  intro nm
  unfold ioOb Qk5
  have hok:((qc1 ks.objs nm).getD qsc).ok:=by
   cases hl:qc1 ks.objs nm with
   | none=>exact rfl
   | some o=>exact qc9 hk.ob hl
  have hobs:((qbo ks.st.objs nm).getD qhs)=((qc1 ks.objs nm).getD qsc).ob:=by
   rw[qjz hk]
   cases qc1 ks.objs nm<;>rfl
  rw[hoff,hobs,←KOb.off_ob _ hok,←KOb.ren_ob _ (KOb.off_ok _ hok)]
  exact⟨rfl,KOb.ren_ok _ (KOb.off_ok _ hok)⟩
 refine⟨{v:=(v.pv.sub fun m=>if (B.map (·.1)).contains m then none else some none).ren fun m=>(B.lookup m).getD m,new:=N.map (ioOb (qbo ks.st.objs) B),ups:=A.map fun p=>(p.2,ioOb (qbo ks.st.objs) B p.1),gone:=Qdj P.ins.length sp,io:=true},?_,?_⟩
 ·unfold qts
  simp only
  rw[hA,hN,hB,hG]
  simp[chk,hnd]
 ·unfold ioFit
  simp only
  rw[if_pos hgone]
  have e1:(v.pv.sub fun m=>if (B.map (·.1)).contains m then none else some none).ren (fun m=>(B.lookup m).getD m)=((v.off fun m=>!(B.map (·.1)).contains m).ren fun m=>(B.lookup m).getD m).pv:=by
   rw[hoff,←KV.off_pv _ hv,←KV.ren_pv _ (KV.off_ok _ hv)]
  have e2:(A.map fun p=>(p.2,ioOb (qbo ks.st.objs) B p.1)).map (·.2)=(A.map fun p=>Qk5 (qc1 ks.objs) B p.1).map KOb.ob:=by
   rw[List.map_map,List.map_map]
   exact List.map_congr_left fun p _=>(hob p.1).1
  have e3:N.map (ioOb (qbo ks.st.objs) B)=(N.map (Qk5 (qc1 ks.objs) B)).map KOb.ob:=by
   rw[List.map_map]
   exact List.map_congr_left fun m _=>(hob m).1
  rw[e1,e2,e3,qra _ _ hf1 (KV.ren_ok _ (KV.off_ok _ hv)),qlu _ _ hf2 (fun o ho=>by
   obtain⟨p,_,rfl⟩:=List.mem_map.1 ho;exact (hob p.1).2),qlu _ _ hf3 (fun o ho=>by
   obtain⟨m,_,rfl⟩:=List.mem_map.1 ho;exact (hob m).2)]
end
mutual
theorem Qnw {vs:List PV} (hv:qb3 vs=true):∀ (p:KV) (i:Nat),(fill p vs i).1.ok
 | .un,i | .sk,i | .yld _,i | .ref _ _,i | .aref _ _ _ _,i | .mp _,i | .it _,i | .wit _,i | .arr _ _ _ _,i=>trivial
 | .lit _,i | .nils,i | .cv _,i=>Qbk hv i
 | .fn f cap,i=>qmj hv cap i
 | .tup xs,i=>qmj hv xs i
 | .agg cs,i=>by
  simp only[fill]
  split
  ·exact Qbk hv i
  ·exact qmj hv cs i
 | .iface t y,i=>by
  simp only[fill]
  split
  ·exact Qbk hv i
  ·exact Qnw hv y i
theorem qmj {vs:List PV} (hv:qb3 vs=true):∀ (ps:List KV) (i:Nat),qf6 (qh6 ps vs i).1
 | [],i=>trivial
 | p :: ps,i=>⟨Qnw hv p i,qmj hv ps _⟩
theorem Qbk {vs:List PV} (hv:qb3 vs=true) (i:Nat):okV (nth vs i)=true:=by
 unfold nth
 rw[List.getD_eq_getElem?_getD]
 cases h:vs[i]? with
 | none=>rfl
 | some x=>exact qjg hv h
end
theorem fillOb_any {vs:List PV} (hv:qb3 vs=true) (p:KOb) (i:Nat):(qds p vs i).1.ok:=by
 cases p with
 | cells ty cs=>exact qmj hv cs i
 | whole ty w=>exact Qbk hv i
 | arr k kt xs =>
  have:=Qbk hv i
  show qb3 (qbl (nth vs i))=true
  unfold qbl
  split
  ·rename_i heq;rw[heq] at this;simpa[okV] using this
  ·rfl
 | map es =>
  have:=Qbk hv i
  show qb3 (Qls (nth vs i))=true
  unfold Qls
  split
  ·rename_i heq;rw[heq] at this;simpa[okV] using this
  ·rfl
 | siter s p=>trivial
theorem qyz {vs:List PV} (hv:qb3 vs=true):∀ (ps:List KOb) (i:Nat),(∀ o∈(qdc ps vs i).1,o.ok)∧(qdc ps vs i).1.length=ps.length
 | [],i=>⟨fun o ho=>(by cases ho),rfl⟩
 | p :: ps,i=>by
  obtain⟨h1,h2⟩:=qyz hv ps (qds p vs i).2
  refine⟨fun o ho=>?_,by simp[qdc,h2]⟩
  simp only[qdc,List.mem_cons] at ho
  rcases ho with rfl | ho
  ·exact fillOb_any hv p i
  ·exact h1 o ho
theorem Qnx {vs:List PV}:∀ (ps:List KV) (i:Nat),(∀ p∈ps,qn6 p=false)→(∀ x∈(qh6 ps vs i).1,qn6 x=false)∧(qh6 ps vs i).1.length=ps.length
 | [],i,_=>⟨fun o ho=>(by cases ho),rfl⟩
 | p :: ps,i,hp=>by
  obtain⟨h1,h2⟩:=Qnx (vs:=vs) ps (fill p vs i).2 fun q hq=>hp q (List.mem_cons_of_mem _ hq)
  refine⟨fun x hx=>?_,by simp[qh6,h2]⟩
  simp only[qh6,List.mem_cons] at hx
  rcases hx with rfl | hx
  ·exact un_fill (hp p List.mem_cons_self)
  ·exact h1 x hx
theorem qmd {cfg:qzo} {tab:FuncId→Option RFn} (hc:qld cfg tab) {g:FuncId} {fn:RFn} (ht:tab g=some fn) {P:qkc} {Pf:List KV→List KOb→qkc} (hPf:cfg.ioF g=some Pf) {xs:List KV} {obs:List KOb} (hP:Pf xs obs=P) (hun:P.args.all (fun p=>!qn6 p)=true) {vs rs:List PV} (hv:qb3 vs=true)
  (hr:qnf cfg fn P vs=some rs):ioO cfg.b P g vs=some rs:=by
 obtain⟨fn',ht',hnt,hll⟩:=hc.ioP g Pf hPf
 have hla:=(hll xs obs).1
 have hli:=(hll xs obs).2
 rw[hP] at hla hli
 rw[ht] at ht';cases ht'
 unfold qnf at hr
 simp only at hr
 rw[qc2] at hr
 obtain⟨u1,u2⟩:=Qnx (vs:=vs) P.args 0 fun p hp=>by simpa using List.all_eq_true.1 hun p hp
 have a1:=qmj hv P.args 0
 obtain⟨b1,b2⟩:=qyz hv P.ins (qh6 P.args vs 0).2
 generalize has:(qh6 P.args vs 0).1=aas at hr u1 u2 a1
 generalize hos:(qdc P.ins vs (qh6 P.args vs 0).2).1=os at hr b1 b2
 obtain⟨i1,i2⟩:=Qle (nt:=fn.nt) a1 u1 (by omega)
 have hwsp:qla fn.nt (((List.range P.ins.length).filter fun j=>!fn.gone.contains j).map fun j=>(j,KV.wit (0,j))):=by
  refine⟨?_,?_,?_,?_⟩
  ·rw[List.map_map]
   have:((fun p:Nat×KV=>p.1)∘fun j=>(j,KV.wit (0,j)))=id:=rfl
   rw[this,List.map_id]
   exact List.pairwise_lt_range.filter _
  ·intro p hp
   obtain⟨j,hj,rfl⟩:=List.mem_map.1 hp
   have:=List.mem_range.1 (List.mem_filter.1 hj).1
   simp only;omega
  ·intro p hp
   obtain⟨j,hj,rfl⟩:=List.mem_map.1 hp
   trivial
  ·intro p hp
   obtain⟨j,hj,rfl⟩:=List.mem_map.1 hp
   rfl
 have hso:qkl fn.nt [(0,os)]:=⟨by simp,by simp[hnt],fun p hp o ho=>by simp only[List.mem_singleton] at hp;subst hp;exact b1 o ho⟩
 have hks:({nt:=fn.nt,tmps:=aas.zipIdx.map fun p=>(p.2,p.1),objs:=[(0,os)],keep:=[((List.range P.ins.length).filter fun j=>!fn.gone.contains j).map fun j=>(j,KV.wit (0,j))]}:KSt).Ok :=
  ⟨i1.tm,hso,fun sp hsp=>by simp only[List.mem_singleton] at hsp;subst hsp;exact hwsp⟩
 have hst:({nt:=fn.nt,tmps:=aas.zipIdx.map fun p=>(p.2,p.1),objs:=[(0,os)],keep:=[((List.range P.ins.length).filter fun j=>!fn.gone.contains j).map fun j=>(j,KV.wit (0,j))]}:KSt).st=ioSt fn.gone fn.nt (os.map KOb.ob) (pvL aas):=by
  have e1:qdk fn.nt (aas.zipIdx.map fun p=>(p.2,p.1))=pvL aas++List.replicate (fn.nt - (pvL aas).length) .undef:=congrArg St.tmps i2
  unfold KSt.st ioSt
  simp only
  rw[e1]
  congr 1
  ·refine qh9 (by simp) fun i hi=>?_
   by_cases h0:i=0
   ·subst h0
    rw[List.getElem?_set_self (by simpa using hnt)]
    rfl
   ·rw[List.getElem?_set_ne (Ne.symm h0),List.getElem?_replicate,if_pos hi]
    have:qcs [(0,os)] i=[]:=by
     simp only[qcs]
     cases hb:Nat.beq i 0 with
     | true=>exact absurd (qcr hb) h0
     | false=>rfl
    rw[this];rfl
  ·simp only[List.flatMap_cons,List.flatMap_nil,List.append_nil]
   refine qk4 (by simp[wits]) fun i hi=>?_
   unfold wits
   rw[List.getElem?_map,List.getElem?_range hi]
   simp only[Option.map_some,List.length_map]
   by_cases hij:i < os.length∧fn.gone.contains i=false
   ·rw[if_pos hij]
    have hm:(i,KV.wit (0,i))∈((List.range P.ins.length).filter fun j=>!fn.gone.contains j).map fun j=>(j,KV.wit (0,j)):=List.mem_map.2 ⟨i,List.mem_filter.2 ⟨List.mem_range.2 (by have:=hij.1;omega),by simp only[hij.2,Bool.not_false]⟩,rfl⟩
    rw[show qcg (((List.range P.ins.length).filter fun j=>!fn.gone.contains j).map fun j=>(j,KV.wit (0,j))) i=KV.wit (0,i) from hwsp.get_mem hm]
    rfl
   ·rw[if_neg hij]
    rw[show qcg (((List.range P.ins.length).filter fun j=>!fn.gone.contains j).map fun j=>(j,KV.wit (0,j))) i=.un from qw9 fun p hp=>by
     obtain⟨j,hj,rfl⟩:=List.mem_map.1 hp
     obtain⟨h1,h2⟩:=List.mem_filter.1 hj
     have:=List.mem_range.1 h1
     simp only
     intro e
     subst e
     exact hij ⟨by omega,by simpa using h2⟩]
    rfl
 have fin:∀ {k1:KSt},k1.Ok→(qvp k1 fn.res fun vs=>Qg1 P k1 (qvr vs))=some rs→(∀ v,qmz k1.st fn.res=some v→Evl fun n=>qtq (qj3 cfg.b.sp tab n) n fn (os.map KOb.ob) (pvL aas)=some (k1.st,qqw v))→ioO cfg.b P g vs=some rs:=by
  intro k1 hk1 hr hx
  obtain⟨ws,hr,hws,h1⟩:=Qgy hk1 fn.res hr
  obtain⟨o1,o2⟩:=Qg0 hws
  obtain⟨out,g1,g2⟩:=kioEnd_ok hk1 o1 hr
  have hI:cfg.b.I g (os.map KOb.ob) (pvL aas)=some (k1.st,(qvr ws).pv):=by
   rw[hc.I]
   unfold limIo
   rw[ht,o2]
   exact qvo (hx _ h1)
  unfold ioO
  rw[hos,has,hI]
  simp only[g1,g2]
 split at hr
 ·rename_i hD
  obtain⟨x,k1,e1,hr,hk1,hev⟩:=Qd1 hc fn.code (h:=qbc) (hn:=fun _=>qbc) noH 0 hks hr
  rw[hst] at hev
  cases x with
  | exit id=>cases hr
  | _ =>
   refine fin hk1 hr fun v h1=>hev.mono fun n hn'=>?_
   unfold qtq
   rw[if_pos hD,hn']
   simp only[h1]
 ·rename_i hD
  obtain⟨x,k1,l,hr,hk1,hev⟩:=evalDK_ok hc fn.code hks hr
  rw[hst] at hev
  cases x with
  | exit id=>cases hr
  | _ =>
   obtain⟨k2,hr,hk2,hdf⟩:=dfrsK_ok hc l hk1 hr
   refine fin hk2 hr fun v h1=>hev.mono2 hdf fun n hn' hd'=>?_
   unfold qtq
   rw[if_neg hD,hn']
   simp only[hd',h1]
end Go.Ab


namespace Go.Ab
section sp
variable {cx:Cx} {E:Type} {w0:World} {I0 F0:Nat→Prop} {O0:Own} {Hd:Nat→Option Obj} {R:qlp E} {e:E} {ds:List Deferred} {I F:Nat→Prop} {lp:Nat→Option Nat} {L:Loc} {tmv suf:List Value} {st:St} {w w':World} {dst:Option Nat}
theorem qlq (hs:SR lp I L st tmv suf w) (hf:Fr cx w0 I0 F0 O0 Hd R e ds I F L w) (h:qzn w w') {u:PV} {v:Value} (hv:qbx w' I lp (some L) u v) :
  ∃ I' L',SR lp I' L' (apply st dst {v:=u}) (Qjy tmv dst v) suf w'∧Fr cx w0 I0 F0 O0 Hd R e ds I' F L' w':=by
 have hx:Ext I F w I F w':=⟨h.os,h.tape,h.output,h.size,fun b hb _=>h.same b hb,fun _ h=>h,fun _ h=>.inl h,fun _ h=>.inl h⟩
 have hi:IF I F w':=⟨fun b hb=>Nat.lt_of_lt_of_le (hf.sep.iB b hb) h.size,fun b hb=>⟨Nat.lt_of_lt_of_le (hf.sep.fB b hb).1 h.size,(hf.sep.fB b hb).2⟩⟩
 have hw:cx.Wd I w':=cx.stab I I w w' hf.wd (fun _ h=>h) (fun b hb=>h.same b (hf.sep.iB b hb)) h.size
 have hr:R.rel e I F w':=R.stab e I I F w w' hf.re (fun _ h=>h) (fun b hb=>h.same b (hb.elim (hf.sep.iB b) fun h=>(hf.sep.fB b h).1)) h.size
 refine⟨I,L,?_,hf.called hx hi hw hr⟩
 have h2:=hs.called hf hx
 cases dst with
 | none=>exact h2
 | some d=>exact h2.put d hv
theorem qgm (w:World):qzn w w:=⟨rfl,rfl,rfl,Nat.le_refl _,fun _ _=>rfl⟩
theorem Qj2 (hs:SR lp I L st tmv suf w) (hf:Fr cx w0 I0 F0 O0 Hd R e ds I F L w) {nm:Nm} {b C:Nat} (hL:L nm=some (some (b,C)))
  (h1:w'.os=w.os) (h2:w'.tape=w.tape) (h3:w'.output=w.output) (h4:w.heap.size≤w'.heap.size) (hk:∀ k,k < w.heap.size→k≠b→w'.heap[k]?=w.heap[k]?)
  {ob:Ob} (hob:ObRep w' I lp L b C ob) {u:PV} {v:Value} (hv:qbx w' I lp (some L) u v) :
  ∃ I' L',SR lp I' L' (apply st dst {v:=u,upd:=some (nm,ob)}) (Qjy tmv dst v) suf w'∧Fr cx w0 I0 F0 O0 Hd R e ds I' F L' w':=by
 have hI:∀ k,I k→w'.heap[k]?=w.heap[k]?:=fun k hi=>hk k (hf.sep.iB k hi) fun e=>(hf.lB nm b C hL).2.2.1 (e ▸ hi)
 have hfr:Fr cx w0 I0 F0 O0 Hd R e ds I F L w':=hf.own h1 h2 h3 h4
  (fun k hb hno=>hk k hb fun e=>hno nm C (e ▸ hL)) (fun _ h=>h) (fun _ h=>.inl h)
  (fun nm' b' C' h=>⟨Nat.lt_of_lt_of_le (hf.lB nm' b' C' h).2.1 h4,(hf.lB nm' b' C' h).2.2.1,.inr ⟨nm',C',h⟩⟩) hf.inj
 have hsr:SR lp I L {st with objs:=qcz st.objs nm ob} tmv suf w':=hs.upd hL hI
  (fun m b' C' hm h=>hk b' (hf.lB m b' C' h).2.1 fun e=>hm (hf.inj m nm b' C' C h (e ▸ hL))) hob
 refine⟨I,L,?_,hfr⟩
 cases dst with
 | none=>exact hsr
 | some d=>exact hsr.put d hv
theorem sp_gone (hs:SR lp I L st tmv suf w) (hf:Fr cx w0 I0 F0 O0 Hd R e ds I F L w) {nm:Nm} {p:Option (Nat×Nat)} (hL:L nm=some p)
  (h1:w'.os=w.os) (h2:w'.tape=w.tape) (h3:w'.output=w.output) (h4:w.heap.size≤w'.heap.size) (hk:∀ b',b' < w.heap.size→(∀ C,p≠some (b',C))→w'.heap[b']?=w.heap[b']?)
  {u:PV} {v:Value} (hv:∀ L':Loc,qbx w' I lp (some L') u v) :
  ∃ I' L',SR lp I' L' (apply st dst {v:=u,upd:=some (nm,qhs),kill:=some nm}) (Qjy tmv dst v) suf w'∧Fr cx w0 I0 F0 O0 Hd R e ds I' F L' w':=by
 have hI:∀ b',I b'→w'.heap[b']?=w.heap[b']?:=fun b' hb'=>hk b' (hf.sep.iB b' hb') fun C e=>(hf.lB nm b' C (by rw[hL,e])).2.2.1 hb'
 have hu:=hs.regrow (w':=w') (k:=0) (kt:=0) (xs:=[]) (p':=none) hL hI
  (fun m b' C' hm hn=>hk b' (hf.lB m b' C' hn).2.1 fun C e=>hm (hf.inj m nm b' C' C hn (by rw[hL,e]))) ⟨0,0,rfl⟩
 refine⟨I,(fun m=>if m=nm then some none else L m),?_,?_⟩
 ·cases dst with
  | none=>exact hu
  | some d=>exact hu.put d (hv _)
 ·refine hf.own h1 h2 h3 h4 (fun b' hb' hn=>hk b' hb' fun C e=>hn nm C (by rw[hL,e])) (fun _ h=>h) (fun _ h=>.inl h) ?_ ?_
  ·intro m b' C' hn
   by_cases hm:m=nm
   ·simp[hm] at hn
   ·simp only[hm,if_false] at hn
    exact⟨by have:=(hf.lB m b' C' hn).2.1;omega,(hf.lB m b' C' hn).2.2.1,.inr ⟨m,C',hn⟩⟩
  ·intro m m' b' C1 C2 hn hn'
   by_cases hm:m=nm
   ·simp[hm] at hn
   ·by_cases hm':m'=nm
    ·simp[hm'] at hn'
    ·simp only[hm,hm',if_false] at hn hn'
     exact hf.inj m m' b' C1 C2 hn hn'
theorem sp_new (hs:SR lp I L st tmv suf w) (hf:Fr cx w0 I0 F0 O0 Hd R e ds I F L w) (hd:∀ d,dst=some d→st.objs[d]?=some []) (h:qzn w w') {k:Nat} {v:Value} {p:Option (Nat×Nat)}
  (hp:∀ b C,p=some (b,C)→w.heap.size≤b∧b < w'.heap.size) (hob:∀ L',qjy w' I lp L' (.arr k 0 []) p) (hv:∀ (L':Loc) (nm:Nm),L' nm=some p→qbx w' I lp (some L') (.arr nm k 0 0) v) :
  ∃ I' L',SR lp I' L' (apply st dst {v:=.arr (dst.getD 0,0) k 0 0,new:=[.arr k 0 []]}) (Qjy tmv dst v) suf w'∧Fr cx w0 I0 F0 O0 Hd R e ds I' F L' w':=by
 have hkk:SR lp I L st tmv suf w':=hs.keeps (fun _ h=>h) (fun b hb=>h.same b (hf.sep.iB b hb)) fun nm b C hn=>h.same b (hf.lB nm b C hn).2.1
 cases dst with
 | none =>
  refine⟨I,L,hkk,?_⟩
  have hx:Ext I F w I F w':=⟨h.os,h.tape,h.output,h.size,fun b hb _=>h.same b hb,fun _ h=>h,fun _ h=>.inl h,fun _ h=>.inl h⟩
  have hi:IF I F w':=⟨fun b hb=>Nat.lt_of_lt_of_le (hf.sep.iB b hb) h.size,fun b hb=>⟨Nat.lt_of_lt_of_le (hf.sep.fB b hb).1 h.size,(hf.sep.fB b hb).2⟩⟩
  have hw:cx.Wd I w':=cx.stab I I w w' hf.wd (fun _ h=>h) (fun b hb=>h.same b (hf.sep.iB b hb)) h.size
  have hr:R.rel e I F w':=R.stab e I I F w w' hf.re (fun _ h=>h) (fun b hb=>h.same b (hb.elim (hf.sep.iB b) fun h=>(hf.sep.fB b h).1)) h.size
  exact hf.called hx hi hw hr
 | some d =>
  have hd:=hd d rfl
  have hn:=hkk.news hd [.arr k 0 []] [p] rfl (by
   intro j ob' q h1 h2
   cases j with
   | zero=>simp at h1 h2;subst h1;subst h2;exact hob _
   | succ j=>simp at h1)
  refine⟨I,qdr L d [p],hn.put d (hv _ (d,0) (by simp[qdr])),Fr.news hf hd h.os h.tape h.output h.size (fun b hb=>h.same b hb) ?_ ?_⟩
  ·intro j b C hj
   cases j with
   | zero=>simp at hj;exact hp b C hj
   | succ j=>simp at hj
  ·intro j j' b C C' h1 h2
   cases j with
   | zero =>
    cases j' with
    | zero=>rfl
    | succ j'=>simp at h2
   | succ j=>simp at h1
end sp
theorem Qkb {w:World} {I:Nat→Prop} {lp:Nat→Option Nat} {L:Option Loc} {a:PV} {us:List Value} (h:qbv w I lp L [a] us):∃ u,us=[u]∧qbx w I lp L a u:=by
 obtain⟨u,r,h1,rfl,h2⟩:∃ u r,qbx w I lp L a u∧us=u :: r∧qbv w I lp L [] r:=by
  cases h;exact⟨_,_,by assumption,rfl,by assumption⟩
 cases h2
 exact⟨u,rfl,h1⟩
theorem qtc {w:World} {I:Nat→Prop} {lp:Nat→Option Nat} {L:Option Loc} {a b:PV} {us:List Value} (h:qbv w I lp L [a,b] us):∃ u v,us=[u,v]∧qbx w I lp L a u∧qbx w I lp L b v:=by
 obtain⟨u,r,h1,rfl,h2⟩:∃ u r,qbx w I lp L a u∧us=u :: r∧qbv w I lp L [b] r:=by
  cases h;exact⟨_,_,by assumption,rfl,by assumption⟩
 obtain⟨v,rfl,h3⟩:=Qkb h2
 exact⟨u,v,rfl,h1,h3⟩
theorem qnq {W:World} {b o:Nat} {c:Array Value} {n:Value} {E':TypeId} {fr:Nat×Nat} (h:W.heap[b]?=some (.cells c E' fr)):(W.setCell ⟨b,o,none⟩ n).heap[b]?=some (.cells (c.setIfInBounds o n) E' fr):=by
 simp[World.setCell,Array.getElem?_modify,h]
theorem qnp (W:World) (a:Addr) (n:Value):(W.setCell a n).heap.size=W.heap.size:=by simp[World.setCell]
theorem cell_of_heap {w w':World} {b:Nat} (h:w'.heap[b]?=w.heap[b]?) (o:Nat):w'.cell? ⟨b,o,none⟩=w.cell? ⟨b,o,none⟩:=by
 simp only[World.cell?,h]
theorem arr_one {c:Array Value} (h:c.size=1):∃ n,c=#[n]:=by
 refine⟨c[0],?_⟩
 apply Array.ext
 ·simp[h]
 ·intro i h1 h2
  have:i=0:=by omega
  subst this;rfl
end Go.Ab


namespace Go.Ab
open Go
def ErrVars (gs:List Nat) (T:Nat) (I:Nat→Prop) (w:World):Prop :=
 ∃ ad:Nat→Addr,(∀ g∈gs,I g∧I (ad g).block∧(∃ E f,w.heap[g]?=some (.cells #[.iface T (.pointer (some (ad g)))] E f))∧∃ c t,w.heap[(ad g).block]?=some (.cells c t (0,0)))∧∀ g∈gs,∀ g'∈gs,g≠g'→ad g≠ad g'
structure WVars (gs:List Nat) (T:Nat) (et:List (Nat×Value)) (tabs:List (Nat×Array Value)) (ns:List Nat) (I:Nat→Prop) (w:World):Prop where
 err:ErrVars gs T I w
 et0:∀ p∈et,I p.1∧w.cell? ⟨p.1,0,none⟩=some p.2
 tab:∀ p∈tabs,I p.1∧∃ E f,w.heap[p.1]?=some (.cells p.2 E f)
 num:∀ g∈ns,I g∧∃ m,w.cell? ⟨g,0,none⟩=some (.int .i64 m)
def globsE (gs:List Nat) (T:Nat):qnl:=fun g=>if gs.contains g then some [.glob g T] else none
noncomputable def cxOf (P:Program) (mixed:P.follows .mixedOrders=true) (gs:List Nat) (T:Nat) (et:List (Nat×Value)) (tabs:List (Nat×Array Value)) (ns:List Nat):Cx where
 P:=P
 mixed:=mixed
 G:=globsE gs T
 Wd I w:=WVars gs T et tabs ns I w
 stab I I' w w' h h1 h2 _:=by
  obtain⟨⟨ad,e1,e2⟩,e0,ht,hn⟩:=h
  refine⟨⟨ad,fun g hg=>?_,e2⟩,fun p hp=>⟨h1 _ (e0 p hp).1,by rw[cell_of_heap (h2 _ (e0 p hp).1)];exact (e0 p hp).2⟩,fun p hp=>?_,fun g hg=>?_⟩
  ·obtain⟨a1,a2,a3,a4⟩:=e1 g hg
   exact⟨h1 _ a1,h1 _ a2,by rw[h2 _ a1];exact a3,by rw[h2 _ a2];exact a4⟩
  ·obtain⟨a1,a2⟩:=ht p hp
   exact⟨h1 _ a1,by rw[h2 _ a1];exact a2⟩
  ·obtain⟨a1,m,a2⟩:=hn g hg
   exact⟨h1 _ a1,m,by rw[cell_of_heap (h2 _ a1)];exact a2⟩
 gl I w g cs h hg lp L:=by
  unfold globsE at hg
  split at hg
  ·rename_i hgg
   cases hg
   obtain⟨ad,e1,_⟩:=h.err
   obtain⟨a1,a2,⟨E,f,a3⟩,a4⟩:=e1 g (by simpa using hgg)
   exact qbx.ptr (off:=0) (o:=0) [.glob g T] g _ _ _ a1 a3 (by simp) (by simp) (by simp[One];rfl) (by simp;exact .cons _ _ _ _ (.glob g T _ _ _ _ a1 a3 rfl) .nil)
  ·cases hg
def SpAt (cx:Cx) (g:FuncId) (st:St) (vs:List PV) (out:Out):Prop:=qfi cx.P g ∧
  ∀ (E:Type) (w0:World) (I0 F0:Nat→Prop) (O0:Own) (Hd:Nat→Option Obj) (R:qlp E) (e:E) (ds:List Deferred) (I F:Nat→Prop) (lp:Nat→Option Nat) (L:Loc) (tmv suf us:List Value) (w:World) (dst:Option Nat),
   SR lp I L st tmv suf w→Fr cx w0 I0 F0 O0 Hd R e ds I F L w→qbv w I lp (some L) vs us→(∀ d,dst=some d→st.objs[d]?=some []) →
   CallsIn Fence.wide 0 cx.P g us.toArray w fun
    | .returned v,w'=>∃ I' L',SR lp I' L' (apply st dst {out with v:=out.v.ren (qh0 (dst.getD 0))}) (Qjy tmv dst v) suf w'∧Fr cx w0 I0 F0 O0 Hd R e ds I' F L' w'
    | _,_=>False
def qv6 (f:(Nm→Option Ob)→List PV→Option Out):Prop:=∀ σ σ' vs,(∀ nm∈qcm σ qbn (qbm vs),σ nm=σ' nm)→f σ vs=f σ' vs
theorem qse {w:World} {I:Nat→Prop} {lp:Nat→Option Nat} {L:Option Loc} {g:Nat} {t:TypeId} {v:Value} (h:qbx w I lp L (.glob g t) v):∃ x c E fr,v=.iface t x∧w.heap[g]?=some (.cells c E fr)∧c[0]?=some (.iface t x):=by
 cases h with
 | glob g t x c E fr hI hb hv=>exact⟨x,c,E,fr,rfl,hb,hv⟩
theorem qr9 {w w':World} (h:Go.RowKit.Below w.heap.size w w'):qzn w w':=⟨h.os,h.tape,h.output,h.size,h.block⟩
def qzr (ps:List (Nat×Nat)) (σ:Nm→Option Ob):List PV→Option Out
 | [.nilI,.iface p (.ref _ o)]=>if (ps.lookup p).isSome=true∧o=0 then some {v:=.bool false} else none
 | [.iface t x,.iface p (.ref nm o)]=>match σ nm with
  | some (.cells ty cs)=>if ps.lookup p=some t∧o=0∧cs.length=1∧qbi x 1=true then some {v:=.bool true,upd:=some (nm,.cells ty x.cells)} else none
  | _=>none
 | _=>none
structure AsOK (P:Program) (g:FuncId) (ge:Nat) (et:Value) (ps:List (Nat×Nat)):Prop where
 enters:qfi P g
 none:∀ (v:Value) (w:World),Calls P g #[.nilIface,v] w fun e w'=>e=.returned (.bool false)∧w'=w
 hit:∀ p t,ps.lookup p=some t→∀ (v n:Value),v.cells=#[n]→n.oneCell'=true→∀ (a:Addr) (old:Value) (w:World),w.cell? ⟨ge,0,Option.none⟩=some et→w.cell? a=some old→w.frozen? a=false →
  Calls P g #[.iface t v,.iface p (.pointer (some a))] w fun e w'=>e=.returned (.bool true)∧∃ o1 o2 o3 o4,w'=((((w.alloc o1).alloc o2).alloc o3).alloc o4).setCell a n
section at_
variable {P:Program} {mx:P.follows .mixedOrders=true} {gs:List Nat} {T:Nat} {et:List (Nat×Value)} {tabs:List (Nat×Array Value)} {ns:List Nat}
theorem as_at {g:FuncId} {ps:List (Nat×Nat)} {ge:Nat} {ev:Value} (hge:(ge,ev)∈et) (hA:AsOK P g ge ev ps) {st:St} {vs:List PV} {out:Out} (h:qzr ps (qbo st.objs) vs=some out):SpAt (cxOf P mx gs T et tabs ns) g st vs out:=by
 refine⟨hA.enters,?_⟩
 unfold qzr at h
 split at h
 ·split at h
  ·rename_i hp
   obtain⟨hp,rfl⟩:=hp
   cases h
   intro E w0 I0 F0 O0 Hd R e ds I F lp L tmv suf us w dst hs hf hu hd
   obtain⟨u,v,rfl,h1,h2⟩:=qtc hu
   rw[qki h1]
   refine callsIn_wide.2 ((hA.none v w).mono ?_)
   rintro ev w' ⟨rfl,rfl⟩
   exact qlq hs hf (qgm _) (.bool false)
  ·cases h
 ·split at h
  ·rename_i t x p nm o _ ty cs hlk
   split at h
   ·rename_i hp
    obtain⟨hpp,rfl,hc1,hx1⟩:=hp
    cases h
    intro E w0 I0 F0 O0 Hd R e ds I F lp L tmv suf us w dst hs hf hu hd
    obtain⟨u,v,rfl,h1,h2⟩:=qtc hu
    obtain⟨u',rfl,hx⟩:=qme h1
    obtain⟨v',rfl,hr⟩:=qme h2
    obtain⟨b,C,hL,rfl⟩:=qg6 hr
    obtain⟨q,hq,hob⟩:=hs.ob nm _ hlk
    rw[hL] at hq;cases hq
    obtain⟨c,E',hb,hC,hone,hcs⟩:=hob
    unfold qbi at hx1
    simp only[Bool.and_eq_true,beq_iff_eq] at hx1
    obtain⟨hu1,hu2⟩:=hx.cells hx1.1
    have len1:u'.cells.size=1:=by
     have:=hu2.length
     simpa[hx1.2] using this.symm
    have lenc:c.size=1:=by
     have:=hcs.length
     simpa[hc1] using this.symm
    obtain⟨n,hn⟩:∃ n,u'.cells=#[n]:=arr_one len1
    obtain⟨old,rfl⟩:∃ n,c=#[n]:=arr_one lenc
    have hn1:n.oneCell'=true:=hu1 n (by simp[hn])
    have hbl:b < w.heap.size:=(hf.lB nm b C hL).2.1
    refine callsIn_wide.2 ((hA.hit p t hpp u' n hn hn1 ⟨b,0,none⟩ old w (hf.wd.et0 _ hge).2 (by simp[World.cell?,hb]) (by simp[World.frozen?,hb])).mono ?_)
    rintro ev w' ⟨rfl,o1,o2,o3,o4,hw'⟩
    have hother:∀ k,k < w.heap.size→k≠b→w'.heap[k]?=w.heap[k]?:=fun k hk hkb=>by
     subst hw'
     rw[Go.RowKit.Below.heap_setCell _ _ _ _ hkb,qb0 _ _ (by simp;omega),qb0 _ _ (by simp;omega),qb0 _ _ (by simp;omega),qb0 _ _ hk]
    have hself:w'.heap[b]?=some (.cells #[n] E' (0,0)):=by
     subst hw'
     suffices key:((((w.alloc o1).alloc o2).alloc o3).alloc o4).heap[b]?=some (.cells #[old] E' (0,0)) by
      have:=qnq (o:=0) (n:=n) key
      simpa using this
     rw[qb0 _ _ (by simp;omega),qb0 _ _ (by simp;omega),qb0 _ _ (by simp;omega),qb0 _ _ hbl]
     exact hb
    have hI:∀ k,I k→w'.heap[k]?=w.heap[k]?:=fun k hk=>hother k (hf.sep.iB k hk) fun e=>(hf.lB nm b C hL).2.2.1 (e ▸ hk)
    refine Qj2 hs hf hL (by subst hw';rfl) (by subst hw';rfl) (by subst hw';rfl) (by subst hw';rw[qnp];simp;omega) hother ?_ (.bool true)
    exact⟨#[n],E',hself,hC,⟨fun v hv=>by simp at hv;subst hv;exact hn1,hone.2⟩,qbv.mono (fun _ h=>h) hI (fun _ _ h=>h) (by rw[hn] at hu2;exact hu2)⟩
   ·cases h
  ·cases h
 ·cases h
theorem as_here (ps:List (Nat×Nat)):qv6 (qzr ps):=by
 intro σ σ' vs h
 unfold qzr
 split
 ·rfl
 ·rename_i t x p nm o
  rw[h nm (qdf _ _ nm (by simp[qbm,PV.names]))]
 ·rfl
def spIsG (gs:List Nat) (T:Nat) (S:List Nat):List PV→Option Out
 | [.nilI,.glob g t]=>if g∈gs∧t=T then some {v:=.bool false} else none
 | [.glob g t,.glob g' t']=>if g∈gs∧g'∈gs∧t=T∧t'=T then some {v:=.bool (g==g')} else none
 | [.iface s x,.glob g t]=>if g∈gs∧t=T∧s∈S∧okV x=true then some {v:=.bool false} else none
 | _=>none
structure IsOK (P:Program) (g:FuncId) (T:Nat) (S:List Nat):Prop where
 enters:qfi P g
 none:∀ (a:Addr) (w:World),Calls P g #[.nilIface,.iface T (.pointer (some a))] w fun e w'=>e=.returned (.bool false)∧w'=w
 same:∀ (a:Addr) (w:World),Calls P g #[.iface T (.pointer (some a)),.iface T (.pointer (some a))] w fun e w'=>e=.returned (.bool true)∧w'=w
 other:∀ (a b:Addr) (ca cb:Array Value) (ta tb:TypeId) (w:World),a≠b→w.heap[a.block]?=some (.cells ca ta (0,0))→w.heap[b.block]?=some (.cells cb tb (0,0)) →
  Calls P g #[.iface T (.pointer (some a)),.iface T (.pointer (some b))] w fun e w'=>e=.returned (.bool false)∧w'=w
 type:∀ s∈S,∀ (v:Value) (b:Addr) (w:World),Calls P g #[.iface s v,.iface T (.pointer (some b))] w fun e w'=>e=.returned (.bool false)∧w'=w
theorem is_at {g:FuncId} {S:List Nat} (hA:IsOK P g T S) {st:St} {vs:List PV} {out:Out} (h:spIsG gs T S vs=some out):SpAt (cxOf P mx gs T et tabs ns) g st vs out:=by
 refine⟨hA.enters,?_⟩
 unfold spIsG at h
 split at h
 ·split at h
  ·rename_i hp
   obtain⟨hgg,rfl⟩:=hp
   cases h
   intro E w0 I0 F0 O0 Hd R e ds I F lp L tmv suf us w dst hs hf hu hd
   obtain⟨u,v,rfl,h1,h2⟩:=qtc hu
   rw[qki h1]
   obtain⟨ad,e1,e2⟩:=hf.wd.err
   obtain⟨x,c,E',fr,rfl,q1,q2⟩:=qse h2
   obtain⟨_,_,⟨_,_,a3⟩,_⟩:=e1 _ hgg
   rw[a3] at q1;cases q1;cases q2
   refine callsIn_wide.2 ((hA.none _ w).mono ?_)
   rintro ev w' ⟨rfl,rfl⟩
   exact qlq hs hf (qgm _) (.bool false)
  ·cases h
 ·rename_i g1 t1 g2 t2
  split at h
  ·rename_i hp
   obtain⟨hg1,hg2,rfl,rfl⟩:=hp
   cases h
   intro E w0 I0 F0 O0 Hd R e ds I F lp L tmv suf us w dst hs hf hu hd
   obtain⟨u,v,rfl,h1,h2⟩:=qtc hu
   obtain⟨ad,e1,e2⟩:=hf.wd.err
   obtain⟨x,c,E',fr,rfl,q1,q2⟩:=qse h1
   obtain⟨y,c',E'',fr',rfl,q1',q2'⟩:=qse h2
   obtain⟨_,_,⟨_,_,a3⟩,ca,ta,a4⟩:=e1 _ hg1
   obtain⟨_,_,⟨_,_,b3⟩,cb,tb,b4⟩:=e1 _ hg2
   rw[a3] at q1;cases q1;cases q2
   rw[b3] at q1';cases q1';cases q2'
   by_cases hgg:g1=g2
   ·subst hgg
    refine callsIn_wide.2 ((hA.same _ w).mono ?_)
    rintro ev w' ⟨rfl,rfl⟩
    rw[beq_self_eq_true]
    exact qlq hs hf (qgm _) (.bool true)
   ·refine callsIn_wide.2 ((hA.other _ _ ca cb ta tb w (e2 _ hg1 _ hg2 hgg) a4 b4).mono ?_)
    rintro ev w' ⟨rfl,rfl⟩
    rw[beq_eq_false_iff_ne.2 hgg]
    exact qlq hs hf (qgm _) (.bool false)
  ·cases h
 ·rename_i ss x g1 t1
  split at h
  ·rename_i hp
   obtain⟨hgg,rfl,hS,hx⟩:=hp
   cases h
   intro E w0 I0 F0 O0 Hd R e ds I F lp L tmv suf us w dst hs hf hu hd
   obtain⟨u,v,rfl,h1,h2⟩:=qtc hu
   obtain⟨u',rfl,hx'⟩:=qme h1
   obtain⟨ad,e1,e2⟩:=hf.wd.err
   obtain⟨x,c,E',fr,rfl,q1,q2⟩:=qse h2
   obtain⟨_,_,⟨_,_,a3⟩,_⟩:=e1 _ hgg
   rw[a3] at q1;cases q1;cases q2
   refine callsIn_wide.2 ((hA.type _ hS u' _ w).mono ?_)
   rintro ev w' ⟨rfl,rfl⟩
   exact qlq hs hf (qgm _) (.bool false)
  ·cases h
 ·cases h
end at_
section any
variable {cx:Cx} {g:FuncId} {st:St} {vs:List PV} {out:Out}
def countB (c:UInt8):List UInt8→Nat
 | []=>0
 | x :: xs=>(if x=c then 1 else 0)+countB c xs
def Qmj:List PV→Option Out
 | [.nilS,.int .i64 n]=>if 0≤n∧n≤1000000 then some {v:=.arr (0,0) 1 0 0,new:=[.arr 1 0 []]} else none
 | _=>none
theorem grow_at (he:qfi cx.P g) (hz:∀ w:World,Calls cx.P g #[.slice none 0 0,.int .i64 0] w fun e w'=>e=.returned (.slice none 0 0)∧w'=w)
  {T:TypeId} (hc:∀ (m:Nat) (w:World),0 < m→m≤1000000→Calls cx.P g #[.slice none 0 0,.int .i64 m] w fun e w'=>∃ (G:Nat) (row:Array Value),e=.returned (.slice (some ⟨w.heap.size,0,none⟩) 0 G)∧G≤row.size∧w'=w.drew.alloc (.cells row T))
  (h:Qmj vs=some out):SpAt cx g st vs out:=by
 refine⟨he,?_⟩
 unfold Qmj at h
 split at h
 ·rename_i n
  split at h
  ·rename_i hn
   cases h
   intro E w0 I0 F0 O0 Hd R e ds I F lp L tmv suf us w dst hs hf hu hd
   obtain⟨u,v,rfl,h1,h2⟩:=qtc hu
   rw[qgg h1,qfe h2]
   obtain⟨m,rfl⟩:∃ m:Nat,n=(m:Int):=⟨n.toNat,by omega⟩
   have hv:(PV.arr (0,0) 1 0 0).ren (qh0 (dst.getD 0))=.arr (dst.getD 0,0) 1 0 0:=rfl
   by_cases hm:m=0
   ·subst hm
    refine callsIn_wide.2 ((hz w).mono ?_)
    rintro ev w' ⟨rfl,rfl⟩
    simp only[hv]
    exact sp_new hs hf hd (qgm _) (p:=none) (fun b C h=>by cases h) (fun L'=>⟨1,0,rfl⟩) (fun L' nm h=>.arrN nm 1 h)
   ·refine callsIn_wide.2 ((hc m w (by omega) (by omega)).mono ?_)
    rintro ev w' ⟨G,row,rfl,hG,rfl⟩
    simp only[hv]
    have hle:qzn w (w.drew.alloc (.cells row T)):=⟨rfl,rfl,rfl,by simp,fun b hb=>qb0 w.drew _ hb⟩
    refine sp_new hs hf hd hle (p:=some (w.heap.size,row.size)) (fun b C h=>by cases h;exact⟨Nat.le_refl _,by simp⟩)
     (fun L'=>⟨row,T,qdj w.drew _,rfl,⟨by simp,.inl rfl⟩,by simp,by simp[One],by simp;exact .nil⟩) (fun L' nm h=>?_)
    have:=qbx.arr (w:=w.drew.alloc (.cells row T)) (I:=I) (lp:=lp) (L:=L') nm 1 0 0 G w.heap.size row.size h (by simpa using hG) (Nat.zero_le _)
    simpa using this
  ·cases h
 ·cases h
def qxa (T:Nat) (σ:Nm→Option Ob):List PV→Option Out
 | [.ref n 0]=>match σ n with
  | some (.cells t [.nilP,x])=>if t=T then some {v:=.tup [],upd:=some (n,.cells T [.ref n 0,x])} else none
  | some (.cells t [.ref n' 0,_])=>if t=T∧n'=n then some {v:=.tup []} else none
  | _=>none
 | _=>none
def spStr (T U:Nat) (σ:Nm→Option Ob):List PV→Option Out
 | [.ref n 0]=>match σ n with
  | some (.cells t [_,.nilS])=>if t=T then some {v:=.str []} else none
  | some (.cells t [_,.arr n' 1 0 k])=>match σ n' with
   | some (.arr 1 u xs)=>match qjb (xs.take k) with
    | some s=>if t=T∧u=U∧n'≠n∧0 < k∧k≤xs.length∧k≤qhl then some {v:=.str s,upd:=some (n',qhs),kill:=some n'} else none
    | none=>none
   | _=>none
  | _=>none
 | _=>none
theorem check_here (T:Nat):qv6 (qxa T):=by
 intro σ σ' vs h
 unfold qxa
 split
 ·rename_i n
  rw[h n (qdf _ _ n (by simp[qbm,PV.names]))]
 ·rfl
theorem str_here (T U:Nat):qv6 (spStr T U):=by
 intro σ σ' vs h
 unfold spStr
 split
 ·rename_i n
  rw[←h n (qdf _ _ n (by simp[qbm,PV.names]))]
  have h2:∀ t a n' k,σ n=some (.cells t [a,.arr n' 1 0 k])→σ n'=σ' n':=by
   intro t a n' k he
   refine h n' ?_
   show n'∈qcm σ 3 [n]
   unfold qcm
   refine List.mem_append_right _ (qdf _ _ n' ?_)
   simp[he,Ob.names,qbm,PV.names]
  generalize hx:σ n=o at *
  split
  ·rfl
  ·rename_i t a n' k
   rw[h2 t a n' k rfl]
  ·rfl
 ·rfl
theorem Qbc {w:World} {I:Nat→Prop} {lp:Nat→Option Nat} {L:Option Loc}:∀ (xs:List PV) (vs:List Value) (s:List UInt8),qbv w I lp L xs vs→qjb xs=some s→∀ (j:Nat) (x:UInt8),s[j]?=some x→vs[j]?=some (.int .u8 (x.toNat:Int))
 | [],_,s,_,h,j,x,hj=>by cases h;simp at hj
 | p :: xs,_,s,h,hb,j,x,hj=>by
  cases h with
  | cons _ v _ vs hv hs =>
   simp only[qjb] at hb
   split at hb
   ·rename_i b bs h1 h2
    cases hb
    have hp:v=.int .u8 (b.toNat:Int):=by
     unfold Qjk at h1
     split at h1
     ·rename_i n
      split at h1
      ·rename_i hn
       cases h1
       rw[qfe hv]
       congr 1
       simp
       omega
      ·cases h1
     ·cases h1
    cases j with
    | zero=>simp at hj;subst hj;simp[hp]
    | succ j=>simp at hj ⊢;exact Qbc xs vs bs hs h2 j x hj
   ·cases hb
theorem qzh:∀ (xs:List PV) (s:List UInt8),qjb xs=some s→s.length=xs.length
 | [],s,h=>by cases h;rfl
 | p :: xs,s,h=>by
  simp only[qjb] at h
  split at h
  ·rename_i b bs h1 h2
   cases h
   simp[qzh xs bs h2]
  ·cases h
theorem Qcf:∀ (xs:List PV) (s:List UInt8),qjb xs=some s→cellsL xs=xs
 | [],_,_=>rfl
 | p :: xs,s,h=>by
  simp only[qjb] at h
  split at h
  ·rename_i b bs h1 h2
   have hp:p.cells=[p]:=by
    unfold Qjk at h1
    split at h1
    ·rfl
    ·cases h1
   simp[cellsL,hp,Qcf xs bs h2]
  ·cases h
theorem Qd6 {c:Array Value} {a b:Value} (h:c.toList=[a,b]):c=#[a,b]:=by
 apply Array.toList_inj.1
 simpa using h
theorem Qhk {W:World} {a:Addr} {n k:Nat} (h:k≠a.block):(W.freeze a n).heap[k]?=W.heap[k]?:=by
 unfold World.freeze
 split
 ·rfl
 ·simp[Array.getElem?_modify,Ne.symm h]
theorem repL4 {w:World} {I:Nat→Prop} {lp:Nat→Option Nat} {L:Option Loc} {a b c d:PV} {us:List Value} (h:qbv w I lp L [a,b,c,d] us):∃ u v x y,us=[u,v,x,y]∧qbx w I lp L a u∧qbx w I lp L b v∧qbx w I lp L c x∧qbx w I lp L d y:=by
 obtain⟨u,r,h1,rfl,h2⟩:∃ u r,qbx w I lp L a u∧us=u :: r∧qbv w I lp L [b,c,d] r:=by
  cases h;exact⟨_,_,by assumption,rfl,by assumption⟩
 obtain⟨v,r,h3,rfl,h4⟩:∃ u q,qbx w I lp L b u∧r=u :: q∧qbv w I lp L [c,d] q:=by
  cases h2;exact⟨_,_,by assumption,rfl,by assumption⟩
 obtain⟨x,y,rfl,h5,h6⟩:=qtc h4
 exact⟨u,v,x,y,rfl,h1,h3,h5,h6⟩
structure BldOK (P:Program) (gc gs:FuncId) (T U:Nat):Prop where
 entersC:qfi P gc
 entersS:qfi P gs
 nzT:T≠0
 nzU:U≠0
 used:∀ (b:Nat) (w:World),w.cell? ⟨b,0,none⟩=some (.pointer (some ⟨b,0,none⟩))→Calls P gc #[.pointer (some ⟨b,0,none⟩)] w fun e w'=>e=.returned (.tuple #[])∧w'=w
 fresh:∀ (b:Nat) (w:World),w.cell? ⟨b,0,none⟩=some (.pointer none)→w.shape? b=some (T,2)→w.frozen? ⟨b,0,none⟩=false →
  Calls P gc #[.pointer (some ⟨b,0,none⟩)] w fun e w'=>e=.returned (.tuple #[])∧w'=w.setCell ⟨b,0,none⟩ (.pointer (some ⟨b,0,none⟩))
 strNil:∀ (b:Nat) (p:Value) (w:World),w.heap[b]?=some (.cells #[p,.slice none 0 0] T (0,0))→Calls P gs #[.pointer (some ⟨b,0,none⟩)] w fun e w'=>e=.returned (.string ⟨#[]⟩)∧w'=w.drew
 strSome:∀ (b g cap:Nat) (p:Value) (cur:Array Value) (l:List UInt8) (w:World),w.heap[b]?=some (.cells #[p,.slice (some ⟨g,0,none⟩) l.length cap] T (0,0))→w.heap[g]?=some (.cells cur U (0,0))→l≠[]→l.length≤cap→l.length≤cur.size →
  l.length≤9223372036854775807→(∀ (j:Nat) (x:UInt8),l[j]?=some x→cur[j]?=some (Value.int .u8 (x.toNat:Int))) →
  Calls P gs #[.pointer (some ⟨b,0,none⟩)] w fun e w'=>e=.returned (.string ⟨l.toArray⟩)∧w'=w.drew.freeze ⟨g,0,none⟩ l.length
theorem check_at {gs:FuncId} {T U:Nat} (hB:BldOK cx.P g gs T U) (h:qxa T (qbo st.objs) vs=some out):SpAt cx g st vs out:=by
 refine⟨hB.entersC,?_⟩
 unfold qxa at h
 split at h
 ·rename_i n
  split at h
  ·rename_i t x hlk
   split at h
   case isFalse=>cases h
   rename_i ht
   subst ht
   cases h
   intro E w0 I0 F0 O0 Hd R e ds I F lp L tmv suf us w dst hs hf hu hd
   obtain⟨u,rfl,hr⟩:=Qkb hu
   obtain⟨b,C,hL,rfl⟩:=qg6 hr
   obtain⟨q,hq,hob⟩:=hs.ob n _ hlk
   rw[hL] at hq;cases hq
   obtain⟨c,E',hb,hC,hone,hcs⟩:=hob
   obtain⟨v0,v1,hc,r0,r1⟩:=qtc hcs
   have hc:=Qd6 hc
   subst hc
   obtain rfl:E'=t:=hone.2.resolve_left hB.nzT
   rw[qm3 r0] at hb
   refine callsIn_wide.2 ((hB.fresh b w (by simp[World.cell?,hb]) (by simp[World.shape?,hb]) (by simp[World.frozen?,hb])).mono ?_)
   rintro ev w' ⟨rfl,rfl⟩
   have hself:=qnq (o:=0) (n:=.pointer (some ⟨b,0,none⟩)) hb
   have hI:∀ k,I k→(w.setCell ⟨b,0,none⟩ (.pointer (some ⟨b,0,none⟩))).heap[k]?=w.heap[k]?:=fun k hk=>Go.RowKit.Below.heap_setCell _ _ _ _ fun (e:k=b)=>(hf.lB n b C hL).2.2.1 (e ▸ hk)
   refine Qj2 (w':=w.setCell ⟨b,0,none⟩ (.pointer (some ⟨b,0,none⟩))) hs hf hL rfl rfl rfl (by rw[qnp];exact Nat.le_refl _) (fun k _ hk=>Go.RowKit.Below.heap_setCell _ _ _ _ hk) ?_ (.tup [] #[] .nil)
   refine⟨_,E',hself,by simpa using hC,⟨?_,.inr rfl⟩,?_⟩
   ·intro v hv
    simp at hv
    rcases hv with rfl | rfl
    ·rfl
    ·exact hone.1 _ (by simp)
   ·simp
    exact .cons _ _ _ _ (.ref n 0 b C hL) (.cons _ _ _ _ (qbx.mono (fun _ h=>h) hI (fun _ _ h=>h) r1) .nil)
  ·rename_i t n' x hlk
   split at h
   ·rename_i hn
    obtain⟨rfl,rfl⟩:=hn
    cases h
    intro E w0 I0 F0 O0 Hd R e ds I F lp L tmv suf us w dst hs hf hu hd
    obtain⟨u,rfl,hr⟩:=Qkb hu
    obtain⟨b,C,hL,rfl⟩:=qg6 hr
    obtain⟨q,hq,hob⟩:=hs.ob _ _ hlk
    rw[hL] at hq;cases hq
    obtain⟨c,E',hb,hC,hone,hcs⟩:=hob
    obtain⟨v0,v1,hc,r0,r1⟩:=qtc hcs
    have hc:=Qd6 hc
    subst hc
    obtain⟨b',C',hL',rfl⟩:=qg6 r0
    rw[hL] at hL';cases hL'
    refine callsIn_wide.2 ((hB.used b w (by simp[World.cell?,hb])).mono ?_)
    rintro ev w' ⟨rfl,rfl⟩
    exact qlq hs hf (qgm _) (.tup [] #[] .nil)
   ·cases h
  ·cases h
 ·cases h
theorem str_at {gc:FuncId} {T U:Nat} (hB:BldOK cx.P gc g T U) (h:spStr T U (qbo st.objs) vs=some out):SpAt cx g st vs out:=by
 refine⟨hB.entersS,?_⟩
 unfold spStr at h
 split at h
 ·rename_i n
  split at h
  ·rename_i t x hlk
   split at h
   case isFalse=>cases h
   rename_i ht
   subst ht
   cases h
   intro E w0 I0 F0 O0 Hd R e ds I F lp L tmv suf us w dst hs hf hu hd
   obtain⟨u,rfl,hr⟩:=Qkb hu
   obtain⟨b,C,hL,rfl⟩:=qg6 hr
   obtain⟨q,hq,hob⟩:=hs.ob _ _ hlk
   rw[hL] at hq;cases hq
   obtain⟨c,E',hb,hC,hone,hcs⟩:=hob
   obtain⟨v0,v1,hc,r0,r1⟩:=qtc hcs
   have hc:=Qd6 hc
   subst hc
   obtain rfl:E'=t:=hone.2.resolve_left hB.nzT
   rw[qgg r1] at hb
   refine callsIn_wide.2 ((hB.strNil b v0 w hb).mono ?_)
   rintro ev w' ⟨rfl,rfl⟩
   exact qlq (w':=w.drew) hs hf ⟨rfl,rfl,rfl,Nat.le_refl _,fun _ _=>rfl⟩ (.str [])
  ·rename_i t x n' k hlk
   split at h
   ·rename_i u' xs hlk'
    split at h
    ·rename_i s hs'
     split at h
     ·rename_i hc0
      obtain⟨rfl,rfl,hnn,hk0,hkl,hkm⟩:=hc0
      cases h
      intro E w0 I0 F0 O0 Hd R e ds I F lp L tmv suf us w dst hs hf hu hd
      obtain⟨u,rfl,hr⟩:=Qkb hu
      obtain⟨b,C,hL,rfl⟩:=qg6 hr
      obtain⟨q,hq,hob⟩:=hs.ob _ _ hlk
      rw[hL] at hq;cases hq
      obtain⟨c,E',hb,hC,hone,hcs⟩:=hob
      obtain⟨v0,v1,hc,r0,r1⟩:=qtc hcs
      have hc:=Qd6 hc
      subst hc
      obtain rfl:E'=t:=hone.2.resolve_left hB.nzT
      obtain⟨q',hq',hob'⟩:=hs.ob _ _ hlk'
      rcases qn9 r1 with ⟨g,C',cap,hL',rfl,hC',hn⟩ | ⟨_,_,_,h0⟩
      ·rw[hL'] at hq';cases hq'
       obtain⟨cur,E2,hg,hCg,hle,hkx,hone2,hrep⟩:=hob'
       obtain rfl:E2=u':=hle.2.resolve_left hB.nzU
       have hlen:=qzh _ _ hs'
       rw[List.length_take,Nat.min_eq_left hkl] at hlen
       have hrk:qbv w I lp none (xs.take k) (cur.toList.take k):=by
        have h1:=hrep.take k
        rw[show k=k*1 by omega,←qgp hkx,Qcf _ _ hs',List.take_take,Nat.min_eq_left (by omega)] at h1
        simpa using h1
       have hbytes:=Qbc _ _ _ hrk hs'
       have hcur:k≤cur.size:=by have:=hle.1;omega
       subst hlen
       refine callsIn_wide.2 ((hB.strSome b g cap v0 cur s w (by simpa using hb) hg (by intro e;subst e;simp at hk0) hn hcur ?_ ?_).mono ?_)
       ·unfold qhl at hkm;omega
       ·intro j x hx
        have hj:j < s.length:=(List.getElem?_eq_some_iff.1 hx).1
        have h1:=hbytes j x hx
        rw[List.getElem?_take_of_lt hj] at h1
        simpa using h1
       ·rintro ev w' ⟨rfl,rfl⟩
        have hfz:∀ (W:World) (a:Addr) (n:Nat),(W.freeze a n).os=W.os∧(W.freeze a n).tape=W.tape∧(W.freeze a n).output=W.output∧(W.freeze a n).heap.size=W.heap.size:=fun W a n=>by
         unfold World.freeze
         split<;>simp
        obtain⟨f1,f2,f3,f4⟩:=hfz w.drew ⟨g,0,none⟩ s.length
        refine sp_gone (w':=w.drew.freeze ⟨g,0,none⟩ s.length) hs hf hL' f1 f2 f3 (Nat.le_of_eq f4.symm) (fun k' hk' hne=>?_) (fun L'=>.str s)
        rw[Qhk (fun e=>hne C' (by rw[e]))]
        rfl
      ·omega
     ·cases h
    ·cases h
   ·cases h
  ·cases h
 ·cases h
end any
def digs:Nat→Nat→List UInt8
 | 0,_=>[]
 | k+1,u=>if u < 10 then [UInt8.ofNat (48+u)] else digs k (u / 10)++[UInt8.ofNat (48+u%10)]
def itoaF (n:Int):List UInt8:=if n < 0 then 45 :: digs 20 n.natAbs else digs 20 n.toNat
theorem Qlu:∀ (k u:Nat),u < 10 ^ k→0 < k→digs k u=Lib.decDigits u
 | 0,_,_,h=>absurd h (Nat.lt_irrefl _)
 | k+1,u,h,_=>by
  unfold digs
  rw[Lib.decDigits]
  by_cases hu:u < 10
  ·rw[if_pos hu,dif_pos hu]
  ·rw[if_neg hu,dif_neg hu]
   have h1:0 < k:=by
    rcases Nat.eq_zero_or_pos k with rfl | hk
    ·exact absurd (by simpa using h) hu
    ·exact hk
   have h2:u / 10 < 10 ^ k:=by
    refine Nat.div_lt_of_lt_mul ?_
    rw[Nat.pow_succ,Nat.mul_comm] at h
    exact h
   rw[Qlu k (u / 10) h2 h1]
theorem itoa_eq (n:Int) (h0 : -9223372036854775808≤n) (h1:n≤9223372036854775807):itoaF n=Lib.itoa n:=by
 unfold itoaF Lib.itoa
 have hp:(18446744073709551616:Nat)≤10 ^ 20:=by decide
 rw[Qlu 20 n.natAbs (by omega) (by decide),Qlu 20 n.toNat (by omega) (by decide)]
def spFmt:List PV→Option Out
 | [.int .i64 n,.int .i64 10]=>if -9223372036854775808≤n∧n≤9223372036854775807 then some {v:=.str (itoaF n)} else none
 | _=>none
def spRepl:List PV→Option Out
 | [.str s,.str old,.str new,.int .i64 n]=>if s.length≤65536∧new.length≤65536∧1≤old.length then some {v:=.str (Lib.replace s old new n)} else none
 | _=>none
section at2
variable {P:Program} {mx:P.follows .mixedOrders=true} {gs:List Nat} {T:Nat} {et:List (Nat×Value)} {tabs:List (Nat×Array Value)} {ns:List Nat} {g:FuncId} {st:St} {vs:List PV} {out:Out}
theorem fmt_at (he:qfi P g) {gt:Nat} (ht:(gt,(Lib.pow10Tab.map fun z=>Value.int .u64 z).toArray)∈tabs) (hn:P.globalNamed "internal/strconv.uint64pow10"=some gt)
  (hc:∀ (n:Int), -9223372036854775808≤n→n≤9223372036854775807→∀ w:World,Lib.TabIs P w "internal/strconv.uint64pow10" .u64 Lib.pow10Tab→Calls P g #[.int .i64 n,.int .i64 10] w fun e w'=>e=.returned (.string ⟨(Lib.itoa n).toArray⟩)∧∃ k os,w'=Sort.grow (w.drewN k) os)
  (h:spFmt vs=some out):SpAt (cxOf P mx gs T et tabs ns) g st vs out:=by
 refine⟨he,?_⟩
 unfold spFmt at h
 split at h
 ·rename_i n
  split at h
  ·rename_i hr
   cases h
   intro E w0 I0 F0 O0 Hd R e ds I F lp L tmv suf us w dst hs hf hu hd
   obtain⟨u,v,rfl,h1,h2⟩:=qtc hu
   rw[qfe h1,qfe h2]
   obtain⟨_,E',fr,hp⟩:=hf.wd.tab _ ht
   have ht:Lib.TabIs P w "internal/strconv.uint64pow10" .u64 Lib.pow10Tab:=by
    unfold Lib.TabIs World.var?
    rw[hn]
    simp only[Option.bind_some,hp]
   refine callsIn_wide.2 ((hc n hr.1 hr.2 w ht).mono ?_)
   rintro ev w' ⟨rfl,k,os,rfl⟩
   rw[itoa_eq n hr.1 hr.2]
   exact qlq hs hf (qr9 (Lib.below_grow _ w (Nat.le_refl _) k os)) (.str _)
  ·cases h
 ·cases h
theorem repl_at (he:qfi P g) {gm:Nat} (hg:gm∈ns)
  (hc:∀ (s old new:ByteArray) (n m:Int) (w:World),s.size < 4294967281→w.cell? ⟨gm,0,none⟩=some (.int .i64 m)→1≤old.size→s.size+Lib.countB s old*new.size≤140737488355328 →
   Calls P g #[.string s,.string old,.string new,.int .i64 n] w fun e w'=>e=.returned (.string ⟨(Lib.replace s.data.toList old.data.toList new.data.toList n).toArray⟩)∧Go.RowKit.Below w.heap.size w w')
  (h:spRepl vs=some out):SpAt (cxOf P mx gs T et tabs ns) g st vs out:=by
 refine⟨he,?_⟩
 unfold spRepl at h
 split at h
 ·rename_i s old new n
  split at h
  ·rename_i hr
   obtain⟨l1,l2,l3⟩:=hr
   cases h
   intro E w0 I0 F0 O0 Hd R e ds I F lp L tmv suf us w dst hs hf hu hd
   obtain⟨u1,u2,u3,u4,rfl,h1,h2,h3,h4⟩:=repL4 hu
   rw[qgo h1,qgo h2,qgo h3,qfe h4]
   obtain⟨_,m,hm⟩:=hf.wd.num _ hg
   have hcl:=Lib.count_le s old
   refine callsIn_wide.2 ((hc ⟨s.toArray⟩ ⟨old.toArray⟩ ⟨new.toArray⟩ n m w (by show s.toArray.size < _;simp;omega) hm (by show 1≤old.toArray.size;simp;omega) (by
    show s.toArray.size+Lib.count s.toArray.toList old.toArray.toList*new.toArray.size≤_
    simp only[List.size_toArray]
    have:Lib.count s old*new.length≤65537*65536:=Nat.mul_le_mul (by omega) l2
    omega)).mono ?_)
   rintro ev w' ⟨rfl,hw⟩
   exact qlq hs hf (qr9 hw) (.str _)
  ·cases h
 ·cases h
end at2
theorem cfg_loc {sp:FuncId→(Nm→Option Ob)→List PV→Option Out} (h:∀ g,qv6 (sp g)) (g:FuncId) (σ:Nm→Option Ob) (vs:List PV) (hv:qb3 vs=true):sp g σ vs=sp g (fun _=>none) vs:=by
 refine h g σ _ vs fun nm hm=>?_
 rw[(qb4 hv).1] at hm
 have:qcm σ qbn []=[]:=by simp[qcm,qbn]
 rw[this] at hm
 cases hm
theorem Qpf {ps:List (Nat×Nat)} {p t:Nat} (hp:ps.lookup p=some t) {σ:Nm→Option Ob} {nm:Nm} {ty:Nat} {cs:List PV} (h1:σ nm=some (.cells ty cs)) (h2:cs.length=1) :
  qzr ps σ [.nilI,.iface p (.ref nm 0)]=some {v:=.bool false}∧∀ x,qbi x 1=true→qzr ps σ [.iface t x,.iface p (.ref nm 0)]=some {v:=.bool true,upd:=some (nm,.cells ty x.cells)}:=by
 refine⟨by simp[qzr,hp],fun x hx=>?_⟩
 unfold qzr
 simp only[h1,hp,h2,hx,and_self,if_true]
end Go.Ab


namespace Go.Ab
open Go
def qw7 (k:IntKind) (σ:Nm→Option Ob):List PV→Option Out
 | [.ref n o]=>match σ n with
  | some (.cells _ cs)=>match cs[o]? with
   | some (.int k' y)=>if k'=k then some {v:=.int k y} else none
   | _=>none
  | _=>none
 | _=>none
def qqp (k:IntKind) (σ:Nm→Option Ob):List PV→Option Out
 | [.ref n o,.int k1 y]=>match σ n with
  | some (.cells ty cs)=>match cs[o]? with
   | some (.int k' _)=>if k'=k∧k1=k then some {v:=.tup [],upd:=some (n,.cells ty (cs.set o (.int k y)))} else none
   | _=>none
  | _=>none
 | _=>none
def qvh (k:IntKind) (x y:Int) (σ:Nm→Option Ob):List PV→Option Out
 | [.ref n o]=>match σ n with
  | some (.cells ty cs)=>match cs[o]? with
   | some (.int k' z)=>if k'=k∧z=x then some {v:=.tup [],upd:=some (n,.cells ty (cs.set o (.int k y)))} else none
   | _=>none
  | _=>none
 | _=>none
theorem load_here (k:IntKind):qv6 (qw7 k):=by
 intro σ σ' vs h
 unfold qw7
 split
 ·rename_i n o
  rw[h n (qdf _ _ n (by simp[qbm,PV.names]))]
 ·rfl
theorem store_here (k:IntKind):qv6 (qqp k):=by
 intro σ σ' vs h
 unfold qqp
 split
 ·rename_i n o k1 y
  rw[h n (qdf _ _ n (by simp[qbm,PV.names]))]
 ·rfl
theorem Qfm (k:IntKind) (x y:Int):qv6 (qvh k x y):=by
 intro σ σ' vs h
 unfold qvh
 split
 ·rename_i n o
  rw[h n (qdf _ _ n (by simp[qbm,PV.names]))]
 ·rfl
section
variable {cx:Cx} {E:Type} {w0:World} {I0 F0:Nat→Prop} {O0:Own} {Hd:Nat→Option Obj} {R:qlp E} {e:E} {ds:List Deferred} {I F:Nat→Prop} {lp:Nat→Option Nat} {L:Loc} {tmv suf:List Value} {st:St} {w:World} {dst:Option Nat}
theorem Qd5 (hs:SR lp I L st tmv suf w) {nm:Nm} {ty:Nat} {cs:List PV} {o:Nat} {k:IntKind} {y0:Int} {u:Value} (hlk:qbo st.objs nm=some (.cells ty cs)) (hr:qbx w I lp (some L) (.ref nm o) u) (h0:cs[o]?=some (.int k y0)) :
  ∃ b C,L nm=some (some (b,C))∧u=.pointer (some ⟨b,o,none⟩)∧w.cell? ⟨b,o,none⟩=some (.int k y0)∧w.frozen? ⟨b,o,none⟩=false:=by
 obtain⟨b,C,hL,rfl⟩:=qg6 hr
 obtain⟨q,hq,hob⟩:=hs.ob nm _ hlk
 rw[hL] at hq;cases hq
 obtain⟨c,E',hb,hC,hone,hcs⟩:=hob
 obtain⟨v,hv,hrv⟩:=hcs.get h0
 rw[qfe hrv] at hv
 refine⟨b,C,hL,rfl,?_,by simp[World.frozen?,hb]⟩
 rw[Array.getElem?_toList] at hv
 simp[World.cell?,hb,hv]
theorem Qmd (hs:SR lp I L st tmv suf w) (hf:Fr cx w0 I0 F0 O0 Hd R e ds I F L w) {nm:Nm} {ty:Nat} {cs:List PV} {o:Nat} {k:IntKind} {b C:Nat} (hlk:qbo st.objs nm=some (.cells ty cs)) (hL:L nm=some (some (b,C))) (y:Int) :
  ∃ I' L',SR lp I' L' (apply st dst {v:=.tup [],upd:=some (nm,.cells ty (cs.set o (.int k y)))}) (Qjy tmv dst (.tuple #[])) suf (w.setCell ⟨b,o,none⟩ (.int k y))∧Fr cx w0 I0 F0 O0 Hd R e ds I' F L' (w.setCell ⟨b,o,none⟩ (.int k y)):=by
 obtain⟨q,hq,hob⟩:=hs.ob nm _ hlk
 rw[hL] at hq;cases hq
 obtain⟨c,E',hb,hC,hone,hcs⟩:=hob
 have hself:=qnq (o:=o) (n:=.int k y) hb
 have hI:∀ j,I j→(w.setCell ⟨b,o,none⟩ (.int k y)).heap[j]?=w.heap[j]?:=fun j hj=>Go.RowKit.Below.heap_setCell _ _ _ _ fun (e:j=b)=>(hf.lB nm b C hL).2.2.1 (e ▸ hj)
 refine Qj2 (w':=w.setCell ⟨b,o,none⟩ (.int k y)) hs hf hL rfl rfl rfl (by rw[qnp];exact Nat.le_refl _) (fun j _ hj=>Go.RowKit.Below.heap_setCell _ _ _ _ hj) ?_ (.tup [] #[] .nil)
 refine⟨_,E',hself,by simpa using hC,⟨?_,hone.2⟩,?_⟩
 ·intro v hv
  rw[Array.toList_setIfInBounds] at hv
  rcases List.mem_or_eq_of_mem_set hv with hv | rfl
  ·exact hone.1 v hv
  ·rfl
 ·rw[Array.toList_setIfInBounds]
  exact qbv.mono (fun _ h=>h) hI (fun _ _ h=>h) (hcs.set o (.int k y))
end
section at_
variable {cx:Cx} {g:FuncId} {st:St} {vs:List PV} {out:Out} {k:IntKind}
theorem load_ret (hg:∀ (a:Addr) (y:Int) (w:World),w.cell? a=some (.int k y)→(callFunc g #[.pointer (some a)]).run cx.P w=.ok (.value (.int k y)) w) (h:qw7 k (qbo st.objs) vs=some out):SpRet cx g st vs out:=by
 unfold qw7 at h
 split at h
 case h_2=>cases h
 split at h
 case h_2=>cases h
 rename_i ty cs hlk
 split at h
 case h_2=>cases h
 rename_i k' y h0
 split at h
 case isFalse=>cases h
 rename_i hk
 subst hk
 cases h
 intro E w0 I0 F0 O0 Hd R e ds I F lp L tmv suf us w dst hs hf hu hd
 obtain⟨u,rfl,hr⟩:=Qkb hu
 obtain⟨b,C,hL,rfl,h1,h2⟩:=Qd5 hs hlk hr h0
 exact⟨_,w,hg _ _ w h1,qlq hs hf (qgm w) (.int _ _)⟩
theorem store_ret (hg:∀ (a:Addr) (y0 y:Int) (w:World),w.cell? a=some (.int k y0)→w.frozen? a=false→(callFunc g #[.pointer (some a),.int k y]).run cx.P w=.ok (.value (.tuple #[])) (w.setCell a (.int k y))) (h:qqp k (qbo st.objs) vs=some out):SpRet cx g st vs out:=by
 unfold qqp at h
 split at h
 case h_2=>cases h
 split at h
 case h_2=>cases h
 rename_i ty cs hlk
 split at h
 case h_2=>cases h
 rename_i k' y0 h0
 split at h
 case isFalse=>cases h
 rename_i hk
 obtain⟨rfl,rfl⟩:=hk
 cases h
 intro E w0 I0 F0 O0 Hd R e ds I F lp L tmv suf us w dst hs hf hu hd
 obtain⟨u,v,rfl,hr,hv⟩:=qtc hu
 obtain⟨b,C,hL,rfl,h1,h2⟩:=Qd5 hs hlk hr h0
 rw[qfe hv]
 exact⟨_,_,hg _ _ _ w h1 h2,Qmd hs hf hlk hL _⟩
theorem swap_at {x y:Int} (he:qfi cx.P g) (hg:∀ (a:Addr) (w:World),w.cell? a=some (.int k x)→w.frozen? a=false→Calls cx.P g #[.pointer (some a)] w fun e w'=>e=.returned (.tuple #[])∧w'=w.setCell a (.int k y)) (h:qvh k x y (qbo st.objs) vs=some out):SpAt cx g st vs out:=by
 refine⟨he,?_⟩
 unfold qvh at h
 split at h
 case h_2=>cases h
 split at h
 case h_2=>cases h
 rename_i ty cs hlk
 split at h
 case h_2=>cases h
 rename_i k' z h0
 split at h
 case isFalse=>cases h
 rename_i hk
 obtain⟨rfl,rfl⟩:=hk
 cases h
 intro E w0 I0 F0 O0 Hd R e ds I F lp L tmv suf us w dst hs hf hu hd
 obtain⟨u,rfl,hr⟩:=Qkb hu
 obtain⟨b,C,hL,rfl,h1,h2⟩:=Qd5 hs hlk hr h0
 refine callsIn_wide.2 ((hg _ w h1 h2).mono ?_)
 rintro ev w' ⟨rfl,rfl⟩
 exact Qmd hs hf hlk hL _
end at_
def kLoad (k:IntKind) (σ:Nm→Option KOb):List KV→Option (Bool×qb8)
 | [.ref n o]=>match σ n with
  | some (.cells _ cs)=>match cs[o]? with
   | some (.cv v)=>some (Qhc k v,{v:=.cv v})
   | _=>none
  | _=>none
 | _=>none
def kStore (k:IntKind) (σ:Nm→Option KOb):List KV→Option (Bool×qb8)
 | [.ref n o,.cv u]=>match σ n with
  | some (.cells ty cs)=>match cs[o]? with
   | some (.cv v)=>some (qnj (Qhc k v) (Qhc k u),{v:=.tup [],upd:=some (n,.cells ty (cs.set o (.cv u)))})
   | _=>none
  | _=>none
 | _=>none
def kSwap (k:IntKind) (x y:Int) (σ:Nm→Option KOb):List KV→Option (Bool×qb8)
 | [.ref n o]=>match σ n with
  | some (.cells ty cs)=>match cs[o]? with
   | some (.cv v)=>some (isIntV k x v,{v:=.tup [],upd:=some (n,.cells ty (cs.set o (.cv (.int k y))))})
   | _=>none
  | _=>none
 | _=>none
theorem qq4 {k:IntKind} {v:PV} (h:Qhc k v=true):∃ y,v=.int k y:=by
 unfold Qhc at h
 split at h
 ·rename_i k' y;exact⟨y,by rw[of_decide_eq_true h]⟩
 ·cases h
theorem Qlc {k:IntKind} {x:Int} {v:PV} (h:isIntV k x v=true):v=.int k x:=by
 unfold isIntV at h
 split at h
 ·simp only[Bool.and_eq_true,decide_eq_true_eq] at h;rw[h.1,h.2]
 ·cases h
theorem pvL_set (cs:List KV) (o:Nat) (x:KV):pvL (cs.set o x)=(pvL cs).set o x.pv:=by
 rw[qfq,qfq,List.map_set]
section k_
variable {σ:Nm→Option KOb} {xs:List KV} {out:qb8} {k:IntKind}
theorem Qkg {cs:List KV} {o:Nat} {x:KV} (h:cs[o]?=some x):(pvL cs)[o]?=some x.pv:=by
 rw[qfq,List.getElem?_map,h];rfl
theorem kLoad_ok (h:kLoad k σ xs=some (true,out)):out.Ok∧qw7 k (fun nm=>(σ nm).map KOb.ob) (pvL xs)=some out.out∧∀ f,out.out.v.ren f=out.out.v:=by
 unfold kLoad at h
 split at h
 case h_2=>cases h
 split at h
 case h_2=>cases h
 rename_i n o _ ty cs hn
 split at h
 case h_2=>cases h
 rename_i v h0
 simp only[Option.some.injEq,Prod.mk.injEq] at h
 obtain⟨hv,rfl⟩:=h
 obtain⟨y,rfl⟩:=qq4 hv
 refine⟨qb8.plain (v:=.cv (.int _ y)) rfl,?_,fun _=>rfl⟩
 simp only[pvL,KV.pv,qw7,hn,Option.map_some,KOb.ob,Qkg h0,if_true]
 rfl
theorem upd_ok {cs:List KV} {n:Nm} {ty o:Nat} {u:PV} (hu:okV u=true) (h:qf6 cs):({v:=.tup [],upd:=some (n,.cells ty (cs.set o (.cv u)))}:qb8).Ok :=
 ⟨trivial,by simp,fun nm ob he=>by
  cases he
  show qf6 _
  refine qct.2 fun x hx=>?_
  rcases List.mem_or_eq_of_mem_set hx with hx | rfl
  ·exact qct.1 h x hx
  ·exact hu,by simp⟩
theorem kStore_ok (hσ:∀ nm o,σ nm=some o→o.ok) (h:kStore k σ xs=some (true,out)):out.Ok∧qqp k (fun nm=>(σ nm).map KOb.ob) (pvL xs)=some out.out∧∀ f,out.out.v.ren f=out.out.v:=by
 unfold kStore at h
 split at h
 case h_2=>cases h
 split at h
 case h_2=>cases h
 rename_i n o u _ ty cs hn
 split at h
 case h_2=>cases h
 rename_i v h0
 simp only[Option.some.injEq,Prod.mk.injEq] at h
 obtain⟨hv,rfl⟩:=h
 unfold qnj at hv
 simp only[Bool.and_eq_true] at hv
 obtain⟨y0,rfl⟩:=qq4 hv.1
 obtain⟨y,rfl⟩:=qq4 hv.2
 refine⟨upd_ok rfl (hσ _ _ hn),?_,fun _=>rfl⟩
 simp only[pvL,KV.pv,qqp,hn,Option.map_some,KOb.ob,Qkg h0,and_self,if_true,qb8.out,pvL_set,Option.map_none,List.map_nil]
theorem Qni {x y:Int} (hσ:∀ nm o,σ nm=some o→o.ok) (h:kSwap k x y σ xs=some (true,out)):out.Ok∧qvh k x y (fun nm=>(σ nm).map KOb.ob) (pvL xs)=some out.out∧∀ f,out.out.v.ren f=out.out.v:=by
 unfold kSwap at h
 split at h
 case h_2=>cases h
 split at h
 case h_2=>cases h
 rename_i n o _ ty cs hn
 split at h
 case h_2=>cases h
 rename_i v h0
 simp only[Option.some.injEq,Prod.mk.injEq] at h
 obtain⟨hv,rfl⟩:=h
 obtain rfl:=Qlc hv
 refine⟨upd_ok rfl (hσ _ _ hn),?_,fun _=>rfl⟩
 simp only[pvL,KV.pv,qvh,hn,Option.map_some,KOb.ob,Qkg h0,and_self,if_true,qb8.out,pvL_set,Option.map_none,List.map_nil]
end k_
end Go.Ab


namespace Go.Ab
open Go
section kb_
variable {σ:Nm→Option KOb} {xs:List KV} {out:qb8} {T U:Nat}
end kb_
end Go.Ab


namespace Go.Ab
open Go
def Qnr:qnl:=globsE [1,2] 265
def Qhh:Hint:=[(5,3,some [(7,1)],false)]
noncomputable def mkF (io shut leans:Bool) (gone:List Nat) (nt:Nat) (f:FuncId):RFn:={nt,code:=((Qlx Go.Proofs.Tryz.prog Qnr (deadH Qhh Go.Proofs.Tryz.prog f) f).getD default).code,res:=((Qlx Go.Proofs.Tryz.prog Qnr (deadH Qhh Go.Proofs.Tryz.prog f) f).getD default).res,io,shut,leans,gone}
theorem qbd {io shut leans:Bool} {gone:List Nat} {nt:Nat} {f:FuncId} (h:(Qlx Go.Proofs.Tryz.prog Qnr (deadH Qhh Go.Proofs.Tryz.prog f) f).map (·.nt)=some nt):Qlx Go.Proofs.Tryz.prog Qnr (deadH Qhh Go.Proofs.Tryz.prog f) f=some {mkF io shut leans gone nt f with io:=false,shut:=false,leans:=false,gone:=[]}:=by
 obtain⟨fn,h1,rfl⟩:=Option.map_eq_some_iff.1 h
 unfold mkF
 rw[h1]
 have h2:=h1
 unfold Qlx at h2
 split at h2
 ·split at h2
  ·split at h2
   ·cases h2
   ·cases h2;rfl
  ·cases h2
 ·cases h2
noncomputable def fn191:RFn:=mkF true true false [] 8 191
noncomputable def fn203:RFn:=mkF true true false [] 6 203
noncomputable def fn204:RFn:=mkF true true false [] 6 204
noncomputable def fn205:RFn:=mkF true true false [] 10 205
noncomputable def fn219:RFn:=mkF false true false [] 4 219
noncomputable def fn177:RFn:=mkF true true false [] 28 177
noncomputable def fn192:RFn:=mkF true true false [] 21 192
noncomputable def fn176:RFn:=mkF true true false [] 12 176
noncomputable def fn148:RFn:=mkF true true false [] 17 148
noncomputable def fn49:RFn:=mkF true true false [] 12 49
noncomputable def fn84:RFn:=mkF true true false [] 57 84
noncomputable def fn89:RFn:=mkF true true false [] 17 89
noncomputable def fn85:RFn:=mkF true true false [] 14 85
noncomputable def fn88:RFn:=mkF true true false [] 14 88
noncomputable def fn86:RFn:=mkF true true false [] 34 86
noncomputable def fn48:RFn:=mkF true true false [] 21 48
noncomputable def fn19:RFn:=mkF false true false [] 13 19
noncomputable def fn21:RFn:=mkF false true false [] 13 21
noncomputable def fn23:RFn:=mkF false true false [] 13 23
noncomputable def fn7:RFn:=mkF false true false [] 83 7
noncomputable def fn8:RFn:=mkF false true false [] 105 8
noncomputable def fn14:RFn:=mkF false true false [] 8 14
noncomputable def fn13:RFn:=mkF false true false [] 18 13
noncomputable def fn16:RFn:=mkF false true false [] 22 16
noncomputable def fn26:RFn:=mkF false true false [] 24 26
noncomputable def fn27:RFn:=mkF false true false [] 24 27
noncomputable def fn25:RFn:=mkF false true true [] 5 25
noncomputable def fn35:RFn:=mkF false true false [] 7 35
noncomputable def fn36:RFn:=mkF false true false [] 56 36
noncomputable def fn41:RFn:=mkF false true false [] 7 41
noncomputable def fn42:RFn:=mkF false true false [] 101 42
noncomputable def fn52:RFn:=mkF false true false [] 26 52
noncomputable def fn53:RFn:=mkF false true false [] 6 53
noncomputable def fn54:RFn:=mkF false true false [] 17 54
noncomputable def fn55:RFn:=mkF false true false [] 9 55
noncomputable def fn56:RFn:=mkF false true false [] 5 56
noncomputable def fn57:RFn:=mkF false true false [] 4 57
noncomputable def fn58:RFn:=mkF false true true [] 88 58
noncomputable def fn59:RFn:=mkF false true false [] 9 59
noncomputable def fn62:RFn:=mkF false true false [] 17 62
noncomputable def fn63:RFn:=mkF false true false [] 9 63
noncomputable def fn64:RFn:=mkF false true false [] 11 64
noncomputable def fn65:RFn:=mkF false true false [] 31 65
noncomputable def fn76:RFn:=mkF false true false [] 38 76
noncomputable def fn77:RFn:=mkF false true false [] 6 77
noncomputable def fn78:RFn:=mkF false true false [] 36 78
noncomputable def fn87:RFn:=mkF false true false [] 4 87
noncomputable def fn91:RFn:=mkF false true false [] 19 91
noncomputable def fn92:RFn:=mkF false true false [] 13 92
noncomputable def fn93:RFn:=mkF false true false [] 20 93
noncomputable def fn94:RFn:=mkF false true false [] 11 94
noncomputable def fn149:RFn:=mkF false true false [] 4 149
noncomputable def fn150:RFn:=mkF false true false [] 13 150
noncomputable def fn151:RFn:=mkF false true false [] 27 151
noncomputable def fn179:RFn:=mkF false true false [] 19 179
noncomputable def fn141:RFn:=mkF false true false [] 21 141
noncomputable def fn142:RFn:=mkF false true false [] 16 142
noncomputable def fn12:RFn:=mkF false true false [] 15 12
noncomputable def fn100:RFn:=mkF false true false [] 5 100
noncomputable def fn101:RFn:=mkF false true false [] 10 101
noncomputable def fn102:RFn:=mkF false true false [] 36 102
noncomputable def fn103:RFn:=mkF false true false [] 11 103
noncomputable def fn104:RFn:=mkF false true false [] 4 104
noncomputable def fn105:RFn:=mkF false true false [] 10 105
noncomputable def fn106:RFn:=mkF false true false [] 56 106
noncomputable def fn107:RFn:=mkF false true false [] 18 107
noncomputable def fn108:RFn:=mkF false true true [] 21 108
noncomputable def fn109:RFn:=mkF false true false [] 13 109
noncomputable def fn110:RFn:=mkF false true false [] 16 110
noncomputable def fn132:RFn:=mkF false true false [] 36 132
noncomputable def fn133:RFn:=mkF false true false [] 51 133
noncomputable def fn134:RFn:=mkF false true false [] 43 134
noncomputable def fn135:RFn:=mkF false true false [] 11 135
noncomputable def fn136:RFn:=mkF false true false [] 11 136
noncomputable def fn137:RFn:=mkF false true false [] 10 137
noncomputable def fn138:RFn:=mkF false true false [] 66 138
noncomputable def fn139:RFn:=mkF false true false [] 10 139
noncomputable def fn140:RFn:=mkF false true false [] 41 140
noncomputable def fn170:RFn:=mkF false true false [] 51 170
noncomputable def fn171:RFn:=mkF false true false [] 10 171
noncomputable def fn5:RFn:=mkF false true false [] 167 5
noncomputable def fn6:RFn:=mkF false true false [] 115 6
noncomputable def fn34:RFn:=mkF false true false [] 29 34
noncomputable def fn37:RFn:=mkF false true false [] 33 37
noncomputable def fn43:RFn:=mkF false true false [] 38 43
noncomputable def fn60:RFn:=mkF false true false [] 34 60
noncomputable def fn61:RFn:=mkF false true false [] 10 61
noncomputable def fn66:RFn:=mkF false true false [] 10 66
noncomputable def fn67:RFn:=mkF false true false [] 6 67
noncomputable def fn68:RFn:=mkF false true false [] 9 68
noncomputable def fn75:RFn:=mkF false true false [] 29 75
noncomputable def fn96:RFn:=mkF true false false [] 19 96
noncomputable def fn97:RFn:=mkF false true false [] 11 97
noncomputable def fn98:RFn:=mkF false true false [] 6 98
noncomputable def fn111:RFn:=mkF false true false [] 13 111
noncomputable def fn112:RFn:=mkF false true false [] 59 112
noncomputable def fn113:RFn:=mkF false true false [] 44 113
noncomputable def fn114:RFn:=mkF false true false [] 56 114
noncomputable def fn115:RFn:=mkF false true false [] 8 115
noncomputable def fn116:RFn:=mkF false true false [] 9 116
noncomputable def fn117:RFn:=mkF false false false [] 13 117
noncomputable def fn118:RFn:=mkF false true false [] 73 118
noncomputable def fn119:RFn:=mkF false true false [] 11 119
noncomputable def fn120:RFn:=mkF false true false [] 53 120
noncomputable def fn121:RFn:=mkF false true false [] 17 121
noncomputable def fn122:RFn:=mkF false true false [] 72 122
noncomputable def fn123:RFn:=mkF false true false [] 47 123
noncomputable def fn124:RFn:=mkF false true false [] 8 124
noncomputable def fn125:RFn:=mkF false true false [] 6 125
noncomputable def fn126:RFn:=mkF false true false [] 11 126
noncomputable def fn127:RFn:=mkF false true false [] 9 127
noncomputable def fn128:RFn:=mkF false true false [] 6 128
noncomputable def fn160:RFn:=mkF false true false [] 5 160
noncomputable def fn161:RFn:=mkF false true false [] 32 161
noncomputable def fn162:RFn:=mkF false true false [] 20 162
noncomputable def fn163:RFn:=mkF false true false [] 19 163
noncomputable def fn164:RFn:=mkF false true false [] 11 164
noncomputable def fn165:RFn:=mkF false false false [] 36 165
noncomputable def fn166:RFn:=mkF true false false [] 28 166
noncomputable def fn167:RFn:=mkF false true false [] 4 167
noncomputable def fn168:RFn:=mkF false true false [] 19 168
noncomputable def fn178:RFn:=mkF false true false [] 15 178
noncomputable def fn185:RFn:=mkF false false false [] 25 185
noncomputable def fn195:RFn:=mkF false false false [] 30 195
noncomputable def fn190:RFn:=mkF false false false [] 27 190
noncomputable def fn9:RFn:=mkF false true false [] 68 9
noncomputable def fn10:RFn:=mkF false true false [] 55 10
noncomputable def fn11:RFn:=mkF false true false [] 62 11
noncomputable def fn18:RFn:=mkF false true false [] 24 18
noncomputable def fn29:RFn:=mkF false true false [] 11 29
noncomputable def fn31:RFn:=mkF false true false [] 22 31
noncomputable def fn33:RFn:=mkF false true false [] 27 33
noncomputable def qjd:FuncId→Option RFn
 | 191=>some fn191
 | 203=>some fn203
 | 204=>some fn204
 | 205=>some fn205
 | 219=>some fn219
 | 177=>some fn177
 | 192=>some fn192
 | 176=>some fn176
 | 148=>some fn148
 | 49=>some fn49
 | 84=>some fn84
 | 89=>some fn89
 | 85=>some fn85
 | 88=>some fn88
 | 86=>some fn86
 | 48=>some fn48
 | 19=>some fn19
 | 21=>some fn21
 | 23=>some fn23
 | 7=>some fn7
 | 8=>some fn8
 | 14=>some fn14
 | 13=>some fn13
 | 16=>some fn16
 | 26=>some fn26
 | 27=>some fn27
 | 25=>some fn25
 | 35=>some fn35
 | 36=>some fn36
 | 41=>some fn41
 | 42=>some fn42
 | 52=>some fn52
 | 53=>some fn53
 | 54=>some fn54
 | 55=>some fn55
 | 56=>some fn56
 | 57=>some fn57
 | 58=>some fn58
 | 59=>some fn59
 | 62=>some fn62
 | 63=>some fn63
 | 64=>some fn64
 | 65=>some fn65
 | 76=>some fn76
 | 77=>some fn77
 | 78=>some fn78
 | 87=>some fn87
 | 91=>some fn91
 | 92=>some fn92
 | 93=>some fn93
 | 94=>some fn94
 | 149=>some fn149
 | 150=>some fn150
 | 151=>some fn151
 | 179=>some fn179
 | 141=>some fn141
 | 142=>some fn142
 | 12=>some fn12
 | 100=>some fn100
 | 101=>some fn101
 | 102=>some fn102
 | 103=>some fn103
 | 104=>some fn104
 | 105=>some fn105
 | 106=>some fn106
 | 107=>some fn107
 | 108=>some fn108
 | 109=>some fn109
 | 110=>some fn110
 | 132=>some fn132
 | 133=>some fn133
 | 134=>some fn134
 | 135=>some fn135
 | 136=>some fn136
 | 137=>some fn137
 | 138=>some fn138
 | 139=>some fn139
 | 140=>some fn140
 | 170=>some fn170
 | 171=>some fn171
 | 5=>some fn5
 | 6=>some fn6
 | 34=>some fn34
 | 37=>some fn37
 | 43=>some fn43
 | 60=>some fn60
 | 61=>some fn61
 | 66=>some fn66
 | 67=>some fn67
 | 68=>some fn68
 | 75=>some fn75
 | 96=>some fn96
 | 97=>some fn97
 | 98=>some fn98
 | 111=>some fn111
 | 112=>some fn112
 | 113=>some fn113
 | 114=>some fn114
 | 115=>some fn115
 | 116=>some fn116
 | 117=>some fn117
 | 118=>some fn118
 | 119=>some fn119
 | 120=>some fn120
 | 121=>some fn121
 | 122=>some fn122
 | 123=>some fn123
 | 124=>some fn124
 | 125=>some fn125
 | 126=>some fn126
 | 127=>some fn127
 | 128=>some fn128
 | 160=>some fn160
 | 161=>some fn161
 | 162=>some fn162
 | 163=>some fn163
 | 164=>some fn164
 | 165=>some fn165
 | 166=>some fn166
 | 167=>some fn167
 | 168=>some fn168
 | 178=>some fn178
 | 185=>some fn185
 | 195=>some fn195
 | 190=>some fn190
 | 9=>some fn9
 | 10=>some fn10
 | 11=>some fn11
 | 18=>some fn18
 | 29=>some fn29
 | 31=>some fn31
 | 33=>some fn33
 | _=>none
end Go.Ab


set_option maxRecDepth 100000
namespace Go.Ab
open Go
def rsh0:FuncId→RSh×Bool
 | 25=>(.cl,false)
 | 58=>(.cl,false)
 | 108=>(.cl,false)
 | 117=>(.own 1,true)
 | 165=>(.own 1,true)
 | 190=>(.own 1,true)
 | _=>(.cl,true)
def Qfv:qkc:={args:=[.cv (.bool false),.fn 1000084 [.ref (0,0) 0]],ins:=[.cells 0 [.cv (.bool false),.cv (.bool false),.cv (.bool false),.cv (.bool false),.cv (.bool false),.cv (.bool false),.cv (.bool false),.cv (.bool false)]],res:=.tup [.cv (.bool false),.cv (.bool false)],outs:=[.cells 0 [.cv (.bool false),.cv (.bool false),.cv (.bool false),.cv (.bool false),.cv (.bool false),.cv (.bool false),.cv (.bool false),.cv (.bool false)]],news:=[],gone:=[]}
def Qfu:qkc:={args:=[.cv (.bool false),.fn 85 [.ref (0,0) 0]],ins:=[.cells 104 [.ref (0,1) 0],.cells 0 [.cv (.bool false),.cv (.bool false),.cv (.bool false),.cv (.bool false),.cv (.bool false),.cv (.bool false),.cv (.bool false),.cv (.bool false)]],res:=.tup [.cv (.bool false),.cv (.bool false)],outs:=[.cells 104 [.ref (0,1) 0],.cells 0 [.cv (.bool false),.cv (.bool false),.cv (.bool false),.cv (.bool false),.cv (.bool false),.cv (.bool false),.cv (.bool false),.cv (.bool false)]],news:=[],gone:=[]}
def sh48_2:qkc:={args:=[.cv (.bool false),.fn 88 [.ref (0,0) 0]],ins:=[.cells 104 [.ref (0,1) 0],.cells 0 [.cv (.bool false),.cv (.bool false),.cv (.bool false),.cv (.bool false),.cv (.bool false),.cv (.bool false),.cv (.bool false),.cv (.bool false)]],res:=.tup [.cv (.bool false),.cv (.bool false)],outs:=[.cells 104 [.ref (0,1) 0],.cells 0 [.cv (.bool false),.cv (.bool false),.cv (.bool false),.cv (.bool false),.cv (.bool false),.cv (.bool false),.cv (.bool false),.cv (.bool false)]],news:=[],gone:=[]}
def shs48:List KV→List KOb→qkc
 | [_,.fn 1000084 _],_=>Qfv
 | [_,.fn 85 _],_=>Qfu
 | _,_=>sh48_2
def sh49:qkc:={args:=[.cv (.bool false)],ins:=[],res:=.agg [.fn 1000084 [.ref (1,1) 0],.fn 85 [.ref (1,0) 0],.fn 88 [.ref (1,0) 0]],outs:=[],news:=[.cells 104 [.ref (1,1) 0],.cells 0 [.cv (.bool false),.cv (.bool false),.cv (.bool false),.cv (.bool false),.cv (.bool false),.cv (.bool false),.cv (.bool false),.cv (.bool false)]],gone:=[]}
def shs49:List KV→List KOb→qkc
 | _,_=>sh49
def sh84:qkc:={args:=[.ref (0,0) 0,.cv (.bool false)],ins:=[.cells 0 [.cv (.bool false),.cv (.bool false),.cv (.bool false),.cv (.bool false),.cv (.bool false),.cv (.bool false),.cv (.bool false),.cv (.bool false)]],res:=.tup [.cv (.bool false),.cv (.bool false)],outs:=[.cells 0 [.cv (.bool false),.cv (.bool false),.cv (.bool false),.cv (.bool false),.cv (.bool false),.cv (.bool false),.cv (.bool false),.cv (.bool false)]],news:=[],gone:=[]}
def shs84:List KV→List KOb→qkc
 | _,_=>sh84
def sh85:qkc:={args:=[.cv (.bool false),.ref (0,0) 0],ins:=[.cells 104 [.ref (0,1) 0],.cells 0 [.cv (.bool false),.cv (.bool false),.cv (.bool false),.cv (.bool false),.cv (.bool false),.cv (.bool false),.cv (.bool false),.cv (.bool false)]],res:=.tup [.cv (.bool false),.cv (.bool false)],outs:=[.cells 104 [.ref (0,1) 0],.cells 0 [.cv (.bool false),.cv (.bool false),.cv (.bool false),.cv (.bool false),.cv (.bool false),.cv (.bool false),.cv (.bool false),.cv (.bool false)]],news:=[],gone:=[]}
def shs85:List KV→List KOb→qkc
 | _,_=>sh85
def Qft:qkc:={args:=[.cv (.bool false),.cv (.bool false),.fn 1000084 [.ref (0,0) 0]],ins:=[.cells 0 [.cv (.bool false),.cv (.bool false),.cv (.bool false),.cv (.bool false),.cv (.bool false),.cv (.bool false),.cv (.bool false),.cv (.bool false)]],res:=.tup [.cv (.bool false),.cv (.bool false)],outs:=[.cells 0 [.cv (.bool false),.cv (.bool false),.cv (.bool false),.cv (.bool false),.cv (.bool false),.cv (.bool false),.cv (.bool false),.cv (.bool false)]],news:=[],gone:=[]}
def sh86_1:qkc:={args:=[.cv (.bool false),.cv (.bool false),.fn 1000089 [.ref (0,0) 0]],ins:=[.cells 0 [.cv (.bool false),.cv (.bool false),.cv (.bool false),.cv (.bool false),.cv (.bool false),.cv (.bool false),.cv (.bool false),.cv (.bool false)]],res:=.tup [.cv (.bool false),.cv (.bool false)],outs:=[.cells 0 [.cv (.bool false),.cv (.bool false),.cv (.bool false),.cv (.bool false),.cv (.bool false),.cv (.bool false),.cv (.bool false),.cv (.bool false)]],news:=[],gone:=[]}
def shs86:List KV→List KOb→qkc
 | [_,_,.fn 1000084 _],_=>Qft
 | _,_=>sh86_1
def sh88:qkc:={args:=[.cv (.bool false),.ref (0,0) 0],ins:=[.cells 104 [.ref (0,1) 0],.cells 0 [.cv (.bool false),.cv (.bool false),.cv (.bool false),.cv (.bool false),.cv (.bool false),.cv (.bool false),.cv (.bool false),.cv (.bool false)]],res:=.tup [.cv (.bool false),.cv (.bool false)],outs:=[.cells 104 [.ref (0,1) 0],.cells 0 [.cv (.bool false),.cv (.bool false),.cv (.bool false),.cv (.bool false),.cv (.bool false),.cv (.bool false),.cv (.bool false),.cv (.bool false)]],news:=[],gone:=[]}
def shs88:List KV→List KOb→qkc
 | _,_=>sh88
def sh89:qkc:={args:=[.ref (0,0) 0,.cv (.bool false)],ins:=[.cells 0 [.cv (.bool false),.cv (.bool false),.cv (.bool false),.cv (.bool false),.cv (.bool false),.cv (.bool false),.cv (.bool false),.cv (.bool false)]],res:=.tup [.cv (.bool false),.cv (.bool false)],outs:=[.cells 0 [.cv (.bool false),.cv (.bool false),.cv (.bool false),.cv (.bool false),.cv (.bool false),.cv (.bool false),.cv (.bool false),.cv (.bool false)]],news:=[],gone:=[]}
def shs89:List KV→List KOb→qkc
 | _,_=>sh89
def sh96:qkc:={args:=[],ins:=[],res:=.un,outs:=[],news:=[],gone:=[]}
def shs96:List KV→List KOb→qkc
 | _,_=>sh96
def sh148:qkc:={args:=[.ref (0,0) 0],ins:=[.cells 0 [.cv (.bool false),.cv (.bool false),.cv (.bool false),.cv (.bool false),.cv (.bool false),.cv (.bool false),.cv (.bool false),.cv (.bool false)]],res:=.tup [.cv (.bool false),.cv (.bool false)],outs:=[.cells 0 [.cv (.bool false),.cv (.bool false),.cv (.bool false),.cv (.bool false),.cv (.bool false),.cv (.bool false),.cv (.bool false),.cv (.bool false)]],news:=[],gone:=[]}
def shs148:List KV→List KOb→qkc
 | _,_=>sh148
def sh166:qkc:={args:=[],ins:=[],res:=.un,outs:=[],news:=[],gone:=[]}
def shs166:List KV→List KOb→qkc
 | _,_=>sh166
def sh176:qkc:={args:=[.ref (0,1) 0,.fn 177 [.ref (0,0) 0]],ins:=[.cells 0 [.ref (0,1) 0],.cells 0 [.cv (.bool false),.cv (.bool false),.cv (.bool false),.cv (.bool false),.cv (.bool false),.cv (.bool false),.cv (.bool false),.cv (.bool false)]],res:=.tup [],outs:=[.cells 0 [.ref (0,1) 0],.cells 0 [.cv (.bool false),.cv (.bool false),.cv (.bool false),.cv (.bool false),.cv (.bool false),.cv (.bool false),.cv (.bool false),.cv (.bool false)]],news:=[],gone:=[]}
def shs176:List KV→List KOb→qkc
 | _,_=>sh176
def sh177:qkc:={args:=[.ref (0,0) 0],ins:=[.cells 0 [.ref (0,1) 0],.cells 0 [.cv (.bool false),.cv (.bool false),.cv (.bool false),.cv (.bool false),.cv (.bool false),.cv (.bool false),.cv (.bool false),.cv (.bool false)]],res:=.tup [],outs:=[.cells 0 [.ref (0,1) 0],.cells 0 [.cv (.bool false),.cv (.bool false),.cv (.bool false),.cv (.bool false),.cv (.bool false),.cv (.bool false),.cv (.bool false),.cv (.bool false)]],news:=[],gone:=[]}
def shs177:List KV→List KOb→qkc
 | _,_=>sh177
def sh191:qkc:={args:=[.ref (0,0) 0],ins:=[.cells 0 [.cv (.bool false),.cv (.bool false),.cv (.bool false),.cv (.bool false),.cv (.bool false),.cv (.bool false),.cv (.bool false),.cv (.bool false)]],res:=.cv (.bool false),outs:=[.cells 0 [.cv (.bool false),.cv (.bool false),.cv (.bool false),.cv (.bool false),.cv (.bool false),.cv (.bool false),.cv (.bool false),.cv (.bool false)]],news:=[],gone:=[]}
def shs191:List KV→List KOb→qkc
 | _,_=>sh191
def sh192:qkc:={args:=[.ref (0,1) 0,.fn 177 [.ref (0,0) 0]],ins:=[.cells 0 [.ref (0,1) 0],.cells 0 [.cv (.bool false),.cv (.bool false),.cv (.bool false),.cv (.bool false),.cv (.bool false),.cv (.bool false),.cv (.bool false),.cv (.bool false)]],res:=.tup [],outs:=[.cells 0 [.ref (0,1) 0],.cells 0 [.cv (.bool false),.cv (.bool false),.cv (.bool false),.cv (.bool false),.cv (.bool false),.cv (.bool false),.cv (.bool false),.cv (.bool false)]],news:=[],gone:=[]}
def shs192:List KV→List KOb→qkc
 | _,_=>sh192
def sh203:qkc:={args:=[.ref (0,0) 1],ins:=[.cells 0 [.cv (.bool false),.cv (.bool false),.cv (.bool false),.cv (.bool false),.cv (.bool false),.cv (.bool false),.cv (.bool false),.cv (.bool false)]],res:=.tup [],outs:=[.cells 0 [.cv (.bool false),.cv (.bool false),.cv (.bool false),.cv (.bool false),.cv (.bool false),.cv (.bool false),.cv (.bool false),.cv (.bool false)]],news:=[],gone:=[]}
def shs203:List KV→List KOb→qkc
 | _,_=>sh203
def sh204:qkc:={args:=[.ref (0,0) 1],ins:=[.cells 0 [.cv (.bool false),.cv (.bool false),.cv (.bool false),.cv (.bool false),.cv (.bool false),.cv (.bool false),.cv (.bool false),.cv (.bool false)]],res:=.tup [],outs:=[.cells 0 [.cv (.bool false),.cv (.bool false),.cv (.bool false),.cv (.bool false),.cv (.bool false),.cv (.bool false),.cv (.bool false),.cv (.bool false)]],news:=[],gone:=[]}
def shs204:List KV→List KOb→qkc
 | _,_=>sh204
def sh205:qkc:={args:=[.ref (0,0) 0,.cv (.bool false)],ins:=[.cells 0 [.cv (.bool false),.cv (.bool false),.cv (.bool false),.cv (.bool false),.cv (.bool false),.cv (.bool false),.cv (.bool false),.cv (.bool false)]],res:=.tup [],outs:=[.cells 0 [.cv (.bool false),.cv (.bool false),.cv (.bool false),.cv (.bool false),.cv (.bool false),.cv (.bool false),.cv (.bool false),.cv (.bool false)]],news:=[],gone:=[]}
def shs205:List KV→List KOb→qkc
 | _,_=>sh205
def iof0:FuncId→Option (List KV→List KOb→qkc)
 | 48=>some shs48
 | 49=>some shs49
 | 84=>some shs84
 | 85=>some shs85
 | 86=>some shs86
 | 88=>some shs88
 | 89=>some shs89
 | 96=>some shs96
 | 148=>some shs148
 | 166=>some shs166
 | 176=>some shs176
 | 177=>some shs177
 | 191=>some shs191
 | 192=>some shs192
 | 203=>some shs203
 | 204=>some shs204
 | 205=>some shs205
 | _=>none
def qfj (b:KB) (dsh:Nat→RSh):qzo:={b,rsh:=rsh0,spF:=fun f=>f==95||f==159||f==157||f==158||f==156||f==99||f==202||f==218||f==216||f==217||f==190,asT:=fun f p=>if f=95∧p=126 then some (124,1) else if f=95∧p=146 then some (145,1) else if f=95∧p=154 then some (153,1) else if f=95∧p=182 then some (143,1) else none,dsh,ioF:=iof0,spK:=fun f=>if f=202 then some (kLoad .u32) else if f=218 then some (kStore .u32) else if f=216 then some (kSwap .i32 0 1) else if f=217 then some (kSwap .i32 1 0) else none,flatF:=fun f=>f==204||f==205}
theorem run49 (B:KB) (x0:PV) :
  qnf (qfj B (fun _=>.cl)) fn49 sh49 [x0] =
  qbq (qbi x0 1) (some [.int .u32 0,.int .i32 0,.int .u32 0,qbf x0 0,.bool false,.bool false,.nilS,.nilI]):=by kernel_rfl
theorem run84 (B:KB) (x0:PV) (x1:PV) (x2:PV) (x3:PV) (x4:PV) (x5:PV) (x6:PV) (x7:PV) (x8:PV) :
  qnf (qfj B (fun _=>.cl)) fn84 sh84 [x0,x1,x2,x3,x4,x5,x6,x7,x8] =
  qbq (qjc x0) (qba (qb2 x0 2 1 false) (fun z1=>qba (qbb (.len .slice (.c z1))) (fun z2=>qba (qbb (.bin .eql .num true (.c z2) (.c (.int .i64 0)))) (fun z3=>qca
  z3 (qba (ioO B sh148 148 [x1,x2,x3,x4,x5,x6,x7,x8]) (fun z4=>qbq (qbi (nth z4 0) 3) (qbq (qbi (nth z4 1) 1) (some
  [.agg [qbf (nth z4 0) 0,qbf (nth z4 0) 1,qbf (nth z4 0) 2],qbf (nth z4 1) 0,nth z4 2,nth z4 3,nth z4 4,nth z4 5,nth z4 6,nth z4 7,nth z4 8,nth z4 9])))) (qba
  (qb2 x0 0 3 true) (fun z5=>qba (qbb (.build [.bool false,.bool false,.nilS] [(0,(3,.c z5))])) (fun z6=>qba (qbj B .cl (.fn 57 []) [z6]) (fun z7=>qba (qbj B
  .cl (.fn 56 []) [z7]) (fun z8=>qba (qbb (.len .slice (.c z8))) (fun z9=>qba (qbb (.bin .sub .num true (.c z9) (.c (.int .i64 1)))) (fun z10=>qba (qbb (.idxAddr 3
  (.c z8) (.c z10))) (fun z11=>qba (qbb (.load 3 true (.c z11))) (fun z12=>qbq (qbi z12 3) (qba (qbb (.len .slice (.c z8))) (fun z13=>qba (qbb (.bin .sub .num
  true (.c z13) (.c (.int .i64 1)))) (fun z14=>qba (qbb (.slice 3 (.c z8) none (some (.c z14)) none)) (fun z15=>qba (qbj B .cl (.fn 149 []) [z15]) (fun z16=>qba
  (qgd B (qfs 0 (fun z17=>fun z18=>fun z19=>none) (fun z20=>fun z21=>fun z22=>qbq (qh1 z21 2) (qbq (qbi (nth z21 1) 3) (qba (qbj B .cl (.fn 16 [])
  [nth z20 4,.agg [qbf (nth z21 1) 0,qbf (nth z21 1) 1,qbf (nth z21 1) 2],.agg [nth z20 13,nth z20 14,nth z20 15]]) (fun z23=>qba (qbb (.extract 0 (.c z23))) (fun
  z24=>qba (qbb (.extract 1 (.c z23))) (fun z25=>qba (qbj B .cl (.fn 150 []) [z24,z25]) (fun z26=>qba (qbb (.extract 0 (.c z26))) (fun z27=>qba (qbb
  (.extract 1 (.c z26))) (fun z28=>qbq (qbi z27 3) (qba (qbb (.bin .neq .iface true (.c z28) (.c .nilI))) (fun z29=>qca z29 (qbq (qbi z28 1) (some (false,([nth
  z20 0,nth z20 1,nth z20 2,nth z20 3,nth z20 4,nth z20 5,nth z20 6,nth z20 7,nth z20 8,.bool false,.bool false,.nilS,qbf z28 0,nth z20 13,nth z20 14,nth z20 15],
  (some .ret,z22))))) (some (true,([nth z20 0,nth z20 1,nth z20 2,nth z20 3,nth z20 4,nth z20 5,nth z20 6,nth z20 7,nth z20 8,nth z20 9,nth z20 10,nth z20 11,nth z20
  12,qbf z27 0,qbf z27 1,qbf z27 2],(none,z22)))))))))))))))) 0 z16 ([z16,x1,x2,x3,x4,x5,x6,x7,x8,.bool false,.bool false,.nilS,.nilI,qbf z12 0,qbf z12
  1,qbf z12 2],(none,()))) (fun z30=>qrk (qj4 z30.2.1) (qbq (qbi .nilI 1) (some [.agg [nth z30.1 13,nth z30.1 14,nth z30.1 15],qbf .nilI 0,nth z30.1 1,nth
  z30.1 2,nth z30.1 3,nth z30.1 4,nth z30.1 5,nth z30.1 6,nth z30.1 7,nth z30.1 8])) (qrk (qni z30.2.1) (some [.agg [nth z30.1 9,nth z30.1 10,nth z30.1 11],nth z30.1 12,
  nth z30.1 1,nth z30.1 2,nth z30.1 3,nth z30.1 4,nth z30.1 5,nth z30.1 6,nth z30.1 7,nth z30.1 8]) none)))))))))))))))))))):=by kernel_rfl
theorem run85 (B:KB) (x0:PV) (x1:PV) (x2:PV) (x3:PV) (x4:PV) (x5:PV) (x6:PV) (x7:PV) (x8:PV) :
  qnf (qfj B (fun _=>.cl)) fn85 sh85 [x0,x1,x2,x3,x4,x5,x6,x7,x8] =
  qbq (qjc x0) (qba (qb2 x0 0 3 true) (fun z1=>qba (qb2 x0 0 3 true) (fun z2=>qba (qbb (.build [.bool false,.bool false,.nilS] [(0,(3,.c z2))])) (fun z3=>qba
  (qbj B .cl (.fn 87 []) [z3]) (fun z4=>qba (ioO B Qft 86 [z1,z4,x1,x2,x3,x4,x5,
  x6,x7,x8]) (fun z5=>qbq (qbi (nth z5 0) 3) (some [.agg [qbf (nth z5 0) 0,qbf (nth z5 0) 1,qbf (nth z5 0) 2],nth z5 1,nth z5 2,nth z5 3,nth z5 4,nth z5 5,nth
  z5 6,nth z5 7,nth z5 8,nth z5 9]))))))):=by kernel_rfl
theorem run86_0 (B:KB) (x0:PV) (x1:PV) (x2:PV) (x3:PV) (x4:PV) (x5:PV) (x6:PV) (x7:PV) (x8:PV) (x9:PV) :
  qnf (qfj B (fun _=>.cl)) fn86 Qft [x0,x1,x2,x3,x4,x5,x6,x7,x8,x9] =
  qbq (qjc x0) (qba (qgd B (qfs 0 (fun z1=>fun z2=>fun z3=>none) (fun z4=>fun z5=>fun z6=>qbq (qh1 z5 1) (qbq (qbi (nth z5 0) 3) (qba (ioO B sh84 84 [.agg [qbf (nth z5 0) 0,qbf (nth z5 0) 1,qbf (nth z5 0) 2],nth z4 1,nth z4 2,nth z4 3,nth z4 4,nth z4
  5,nth z4 6,nth z4 7,nth z4 8]) (fun z7=>qbq (qbi (nth z7 0) 3) (qba (qbb (.bin .neq .iface true (.c (nth z7 1)) (.c .nilI))) (fun z8=>qca z8 (qbq (qbi (nth z7
  1) 1) (some (false,([nth z4 0,nth z7 2,nth z7 3,nth z7 4,nth z7 5,nth z7 6,nth z7 7,nth z7 8,nth z7 9,nth z4 9,.bool false,.bool false,.nilS,qbf (nth z7 1) 0,nI
  (qbz (nth z4 14)),.sl 3 (qbl (nth z4 15)) false],(some .ret,z6))))) (qbq (qc7 3 [.agg [qbf (nth z7 0) 0,qbf (nth z7 0) 1,qbf (nth z7 0) 2]]) (qbq (leN (qdu 0
  (qbu [.agg [qbf (nth z7 0) 0,qbf (nth z7 0) 1,qbf (nth z7 0) 2]])) (qbu [.agg [qbf (nth z7 0) 0,qbf (nth z7 0) 1,qbf (nth z7 0) 2]])) (qbq (qnj (leN (qbz (nth
  z4 14)) (qbu (qbl (nth z4 15)))) (leN (qdu (qbz (nth z4 14)) (qbu (qb1 (qbu [.agg [qbf (nth z7 0) 0,qbf (nth z7 0) 1,qbf (nth z7 0) 2]]) (qcx 0 [.agg [qbf
  (nth z7 0) 0,qbf (nth z7 0) 1,qbf (nth z7 0) 2]])))) 2147483648)) (some (true,([nth z4 0,nth z7 2,nth z7 3,nth z7 4,nth z7 5,nth z7 6,nth z7 7,nth z7 8,nth z7 9,nth
  z4 9,nth z4 10,nth z4 11,nth z4 12,nth z4 13,nI (qdu (qbz (nth z4 14)) (qbu (qb1 (qbu [.agg [qbf (nth z7 0) 0,qbf (nth z7 0) 1,qbf (nth z7 0) 2]]) (qcx 0 [.agg
  [qbf (nth z7 0) 0,qbf (nth z7 0) 1,qbf (nth z7 0) 2]])))),.sl 3 (qpk (qb1 (qbz (nth z4 14)) (qbl (nth z4 15))) (qb1 (qbu [.agg [qbf (nth z7 0) 0,qbf (nth z7
  0) 1,qbf (nth z7 0) 2]]) (qcx 0 [.agg [qbf (nth z7 0) 0,qbf (nth z7 0) 1,qbf (nth z7 0) 2]]))) false],(none,z6)))))))))))))) 0 x1 ([x1,x2,x3,x4,x5,x6,x7,x8,
  x9,x0,.bool false,.bool false,.nilS,.nilI,nI 0,.sl 3 [] false],(none,()))) (fun z9=>qrk (qj4 z9.2.1) (qba (qb2 (nth z9.1 9) 0 3 true) (fun z10=>qba (qbb
  (.build [.bool false,.bool false,.nilS] [(0,(3,.c z10))])) (fun z11=>qba (qft B .cl false 58 [z11,slO 3 3 (qbl (nth z9.1 15)) 0 (qbz (nth z9.1 14))]) (fun z12 =>
  qba (qbb (.extract 0 (.c z12))) (fun z13=>qba (qbb (.extract 1 (.c z12))) (fun z14=>qbq (qbi z13 3) (qbq (qbi z14 1) (some [.agg [qbf z13 0,qbf z13 1,
  qbf z13 2],qbf z14 0,nth z9.1 1,nth z9.1 2,nth z9.1 3,nth z9.1 4,nth z9.1 5,nth z9.1 6,nth z9.1 7,nth z9.1 8])))))))) (qrk (qni z9.2.1) (some [.agg [nth z9.1 10,
  nth z9.1 11,nth z9.1 12],nth z9.1 13,nth z9.1 1,nth z9.1 2,nth z9.1 3,nth z9.1 4,nth z9.1 5,nth z9.1 6,nth z9.1 7,nth z9.1 8]) none))):=by kernel_rfl
theorem run48_0 (B:KB) (x0:PV) (x1:PV) (x2:PV) (x3:PV) (x4:PV) (x5:PV) (x6:PV) (x7:PV) (x8:PV) :
  qnf (qfj B (fun _=>.cl)) fn48 Qfv [x0,x1,x2,x3,x4,x5,x6,x7,x8] =
  qbq (qjc x0) (qba (qb2 x0 0 3 true) (fun z1=>qba (qbj B .cl (.fn 27 []) [z1]) (fun z2=>qba (qbb (.un .not (.c z2))) (fun z3=>qca z3 (some [.agg [.bool false,
  .bool false,.nilS],.int .i64 114,x1,x2,x3,x4,x5,x6,x7,x8]) (qba (qb2 x0 0 3 true) (fun z4=>qba (ioO B sh84
  84 [z4,x1,x2,x3,x4,x5,x6,x7,x8]) (fun z5=>qbq (qbi (nth z5 0) 3) (qba (qbj B .cl (.fn 59 []) [nth z5 1]) (fun z6=>some [.agg [qbf (nth z5 0) 0,qbf (nth z5
  0) 1,qbf (nth z5 0) 2],z6,nth z5 2,nth z5 3,nth z5 4,nth z5 5,nth z5 6,nth z5 7,nth z5 8,nth z5 9]))))))))):=by kernel_rfl
theorem run48_1 (B:KB) (x0:PV) (x1:PV) (x2:PV) (x3:PV) (x4:PV) (x5:PV) (x6:PV) (x7:PV) (x8:PV) :
  qnf (qfj B (fun _=>.cl)) fn48 Qfu [x0,x1,x2,x3,x4,x5,x6,x7,x8] =
  qbq (qjc x0) (qba (qb2 x0 0 3 true) (fun z1=>qba (qbj B .cl (.fn 27 []) [z1]) (fun z2=>qba (qbb (.un .not (.c z2))) (fun z3=>qca z3 (some [.agg [.bool false,
  .bool false,.nilS],.int .i64 114,x1,x2,x3,x4,x5,x6,x7,x8]) (qba (qb2 x0 0 3 true) (fun z4=>qba (ioO B sh85 85 [z4,x1,x2,x3,x4,x5,x6,x7,x8]) (fun z5=>qbq (qbi (nth z5 0) 3) (qba (qbj B .cl (.fn 59 []) [nth z5 1])
  (fun z6=>some [.agg [qbf (nth z5 0) 0,qbf (nth z5 0) 1,qbf (nth z5 0) 2],z6,nth z5 2,nth z5 3,nth z5 4,nth z5 5,nth z5 6,nth z5 7,nth z5 8,nth z5 9]))))))))):=by kernel_rfl
theorem run19 (B:KB) {E:Type} (h:qbg E) (dep:Nat) (e:E) (x0:PV) (x1:PV) :
  qf8 (qfj B (fun _=>.cl)) fn19 (.cl) h dep [.cv x0,.cv x1] e =
  qbq (qjc x1) (qba (qb2 x1 0 3 true) (fun z1=>qba (ioO B sh49 49 [x0]) (fun z2=>qba (ioO B Qfv 48 [z1,nth z2 0,nth z2 1,nth z2 2,nth z2 3,
  nth z2 4,nth z2 5,nth z2 6,nth z2 7]) (fun z3=>qbq (qbi (nth z3 0) 3) (some (.tup [.agg [qbf (nth z3 0) 0,qbf (nth z3 0) 1,qbf (nth z3 0) 2],nth z3 1],e)))))):=by kernel_rfl
theorem run21 (B:KB) {E:Type} (h:qbg E) (dep:Nat) (e:E) (x0:PV) (x1:PV) :
  qf8 (qfj B (fun _=>.cl)) fn21 (.cl) h dep [.cv x0,.cv x1] e =
  qbq (qjc x1) (qba (qb2 x1 0 3 true) (fun z1=>qba (ioO B sh49 49 [x0]) (fun z2=>qba (ioO B Qfu
  48 [z1,nth z2 0,nth z2 1,nth z2 2,nth z2 3,nth z2 4,nth z2 5,nth z2 6,nth z2 7]) (fun z3=>qbq (qbi (nth z3 0) 3) (some (.tup [.agg [qbf (nth z3 0) 0,qbf (nth z3
  0) 1,qbf (nth z3 0) 2],nth z3 1],e)))))):=by kernel_rfl
theorem run16 (B:KB) {E:Type} (h:qbg E) (dep:Nat) (e:E) (x0:PV) (x1:PV) (x2:PV) :
  qf8 (qfj B (fun _=>.cl)) fn16 (.cl) h dep [.cv x0,.cv x1,.cv x2] e =
  qbq (qjc x1) (qbq (qjc x2) (qba (qbj B .cl (.fn 41 []) [x0]) (fun z1=>qca z1 (qba (qb2 x1 0 3 true) (fun z2=>qba (qb2 x2 0 3 true) (fun z3=>qba (qbj B .cl
  (.fn 42 []) [x0,z2,z3]) (fun z4=>qba (qbb (.extract 0 (.c z4))) (fun z5=>qba (qbb (.extract 1 (.c z4))) (fun z6=>qbq (qbi z5 3) (some (.tup [.agg [qbf z5 0,
  qbf z5 1,qbf z5 2],z6],e)))))))) (qba (qb2 x1 0 3 true) (fun z7=>qba (qb2 x2 0 3 true) (fun z8=>qba (qbj B .cl (.fn 43 []) [x0,z7,z8]) (fun z9=>qba
  (qbb (.extract 0 (.c z9))) (fun z10=>qba (qbb (.extract 1 (.c z9))) (fun z11=>qbq (qbi z10 3) (some (.tup [.agg [qbf z10 0,qbf z10 1,qbf z10 2],z11],
  e))))))))))):=by kernel_rfl
theorem run26 (B:KB) {E:Type} (h:qbg E) (dep:Nat) (e:E) (x0:PV) (x1:PV) :
  qf8 (qfj B (fun _=>.cl)) fn26 (.cl) h dep [.cv x0,.cv x1] e =
  qbq (qjc x0) (qbq (qjc x1) (qba (qb2 x0 0 1 false) (fun z1=>qba (qb2 x1 0 1 false) (fun z2=>qba (qbb (.bin .eql .bool false (.c z1) (.c z2))) (fun z3=>qca z3
  (qba (qb2 x0 1 1 false) (fun z4=>qba (qb2 x1 1 1 false) (fun z5=>qba (qbb (.bin .eql .bool false (.c z4) (.c z5))) (fun z6=>qca z6 (qba (qb2 x0 2 1 false) (fun
  z7=>qba (qb2 x1 2 1 false) (fun z8=>qba (qbj B .cl (.fn 52 []) [z7,z8]) (fun z9=>some (z9,e))))) (some (.bool false,e)))))) (some (.bool false,e))))))):=by kernel_rfl
theorem run27 (B:KB) {E:Type} (h:qbg E) (dep:Nat) (e:E) (x0:PV) :
  qf8 (qfj B (fun _=>.cl)) fn27 (.cl) h dep [.cv x0] e =
  qbq (qjc x0) (qba (qb2 x0 1 1 false) (fun z1=>qca z1 (qba (qb2 x0 2 1 false) (fun z2=>qba (qbj B .cl (.fn 55 []) [z2,.fn 53 []]) (fun z3=>qca z3 (some (.bool
  false,e)) (qba (qb2 x0 0 1 false) (fun z4=>qca z4 (qba (qb2 x0 2 1 false) (fun z5=>qba (qbb (.len .slice (.c z5))) (fun z6=>qba (qbb (.bin .leq .num true (.c
  z6) (.c (.int .i64 200)))) (fun z7=>some (z7,e))))) (qba (qb2 x0 2 1 false) (fun z8=>qba (qbb (.len .slice (.c z8))) (fun z9=>qba (qbb (.bin .eql .num true (.c
  z9) (.c (.int .i64 1)))) (fun z10=>some (z10,e)))))))))) (qba (qb2 x0 0 1 false) (fun z11=>qca z11 (qba (qb2 x0 2 1 false) (fun z12=>qba (qbb (.len .slice (.c
  z12))) (fun z13=>qba (qbb (.bin .leq .num true (.c z13) (.c (.int .i64 200)))) (fun z14=>some (z14,e))))) (qba (qb2 x0 2 1 false) (fun z15=>qba (qbb (.len .slice
  (.c z15))) (fun z16=>qba (qbb (.bin .eql .num true (.c z16) (.c (.int .i64 1)))) (fun z17=>some (z17,e))))))))):=by kernel_rfl
theorem run25 (B:KB) {E:Type} (h:qbg E) (dep:Nat) (e:E) (x0:PV) :
  qf8 (qfj B (fun _=>.cl)) fn25 (.cl) h dep [.cv x0] e =
  qba (qbb (.build [.bool false,.bool false,.nilS] [(0,(1,.c (.bool true))),(2,(1,.c x0))])) (fun z1=>qbq (qbi z1 3) (some (.agg [qbf z1 0,qbf z1 1,qbf z1
  2],e))):=by kernel_rfl
theorem run41 (B:KB) {E:Type} (h:qbg E) (dep:Nat) (e:E) (x0:PV) :
  qf8 (qfj B (fun _=>.cl)) fn41 (.cl) h dep [.cv x0] e =
  qba (qbj B .cl (.fn 75 []) []) (fun z1=>qba (qbb (.lookup .str .nilF false (.c z1) (.c x0))) (fun z2=>qba (qbb (.bin .neq .func true (.c z2) (.c .nilF))) (fun z3 =>
  some (z3,e)))):=by kernel_rfl
theorem run42 (B:KB) {E:Type} (h:qbg E) (dep:Nat) (e:E) (x0:PV) (x1:PV) (x2:PV) :
  qf8 (qfj B (fun _=>.cl)) fn42 (.cl) h dep [.cv x0,.cv x1,.cv x2] e =
  qbq (qjc x0) (qbq (qjc x1) (qbq (qjc x2) (qba (qb2 x1 0 3 true) (fun z1=>qba (qb2 x2 0 3 true) (fun z2=>qba (qbb (.build [.bool false,.bool false,.nilS,.bool
  false,.bool false,.nilS] [(0,(3,.c z1)),(3,(3,.c z2))])) (fun z3=>qbq (qbi z3 6) (qba (qb2 x1 0 3 true) (fun z4=>qba (qb2 x2 0 3 true) (fun z5=>qbq (qc7
  3 [z4,z5]) (qba (qft B .cl true 62 [slO 3 3 [z4,z5] 0 (qbu [z4,z5])]) (fun z6=>qba (qbb (.bin .neq .iface true (.c z6) (.c .nilI))) (fun z7=>qca z7 (qba (qbj B
  .cl (.fn 63 []) [z6]) (fun z8=>qbq (qbi z8 1) (some (.tup [.agg [.bool false,.bool false,.nilS],qbf z8 0],e)))) (qba (qb2 x0 0 1 false) (fun z9=>qba (qbj B
  .cl (.fn 41 []) [z9]) (fun z10=>qba (qbb (.un .not (.c z10))) (fun z11=>qca z11 (qbq (qbi (.int .i64 102) 1) (some (.tup [.agg [.bool false,.bool false,.nilS],
  qbf (.int .i64 102) 0],e))) (qba (qbj B .cl (.fn 76 []) [.agg [qbf z3 0,qbf z3 1,qbf z3 2,qbf z3 3,qbf z3 4,qbf z3 5]]) (fun z12=>qba (qbb (.extract 0
  (.c z12))) (fun z13=>qba (qbb (.extract 1 (.c z12))) (fun z14=>qba (qb2 x0 0 1 false) (fun z15=>qba (qbb (.bin .eql .str true (.c z15) (.c (.str [61])))) (fun z16
  => qca z16 (qba (qbb (.bin .neq .iface true (.c z14) (.c .nilI))) (fun z17=>qca z17 (qba (qbj B .cl (.fn 63 []) [z14]) (fun z18=>qbq (qbi z18 1) (some (.tup
  [.agg [.bool false,.bool false,.nilS],qbf z18 0],e)))) (qba (qb2 x1 0 1 false) (fun z19=>qca z19 (qba (qbb (.build [.bool false,.bool false,.nilS] [(0,(1,.c
  (.bool true)))])) (fun z20=>qbq (qbi z20 3) (qba (qbj B .cl (.fn 77 []) [.agg [qbf z3 0,qbf z3 1,qbf z3 2,qbf z3 3,qbf z3 4,qbf z3 5],z13]) (fun z21 =>
  Qkt (qbf z20 2) (qba (qgd B (qfs dep h (fun z22=>fun z23=>fun z24=>qbq (qh1 z23 2) (qba (qca (nth z22 8) (qba (qb2 (nth z22 2) 1 1 false) (fun z25 =>
  qba (qb2 (nth z22 3) 1 1 false) (fun z26=>qba (qbb (.bin .neq .bool false (.c z25) (.c z26))) (fun z27=>some z27)))) (some (.bool false))) (fun z28=>qca z28 (qba
  (qb2 (nth z22 1) 0 1 false) (fun z29=>qba (qbj B .cl (.fn 78 []) [z29,.int .i64 0,.int .i64 1]) (fun z30=>qba (qbb (.extract 0 (.c z30))) (fun z31=>qba (qbb
  (.extract 1 (.c z30))) (fun z32=>qba (qbb (.bin .neq .num true (.c z32) (.c (.int .i64 0)))) (fun z33=>qca z33 (qbq (qbi z32 1) (some (false,([nth z22 0,nth z22 1,
  nth z22 2,nth z22 3,.bool false,.bool false,.nilS,qbf z32 0,nth z22 8,nth z22 9,nth z22 10,nI (qbz (nth z22 11)),.sl 1 (qbl (nth z22 12)) false],(some .ret,
  z24))))) (qbq (qc7 1 [z31]) (qbq (leN (qdu 0 (qbu [z31])) (qbu [z31])) (qbq (qnj (leN (qbz (nth z22 11)) (qbu (qbl (nth z22 12)))) (leN (qdu (qbz (nth z22 11))
  (qbu (qb1 (qbu [z31]) (qcx 0 [z31])))) 2147483648)) (some (true,([nth z22 0,nth z22 1,nth z22 2,nth z22 3,nth z22 4,nth z22 5,nth z22 6,nth z22 7,nth z22 8,nth z22
  9,nth z22 10,nI (qdu (qbz (nth z22 11)) (qbu (qb1 (qbu [z31]) (qcx 0 [z31])))),.sl 1 (qpk (qb1 (qbz (nth z22 11)) (qbl (nth z22 12))) (qb1 (qbu [z31]) (qcx 0
  [z31]))) false],(none,z24))))))))))))) (qba (qb2 (nth z22 1) 0 1 false) (fun z34=>qba (qbj B .cl (.fn 78 []) [z34,nth z23 0,nth z23 1]) (fun z35=>qba (qbb
  (.extract 0 (.c z35))) (fun z36=>qba (qbb (.extract 1 (.c z35))) (fun z37=>qba (qbb (.bin .neq .num true (.c z37) (.c (.int .i64 0)))) (fun z38=>qca z38 (qbq
  (qbi z37 1) (some (false,([nth z22 0,nth z22 1,nth z22 2,nth z22 3,.bool false,.bool false,.nilS,qbf z37 0,nth z22 8,nth z22 9,nth z22 10,nI (qbz (nth z22 11)),
  .sl 1 (qbl (nth z22 12)) false],(some .ret,z24))))) (qbq (qc7 1 [z36]) (qbq (leN (qdu 0 (qbu [z36])) (qbu [z36])) (qbq (qnj (leN (qbz (nth z22 11)) (qbu (qbl
  (nth z22 12)))) (leN (qdu (qbz (nth z22 11)) (qbu (qb1 (qbu [z36]) (qcx 0 [z36])))) 2147483648)) (some (true,([nth z22 0,nth z22 1,nth z22 2,nth z22 3,nth z22 4,nth
  z22 5,nth z22 6,nth z22 7,nth z22 8,nth z22 9,nth z22 10,nI (qdu (qbz (nth z22 11)) (qbu (qb1 (qbu [z36]) (qcx 0 [z36])))),.sl 1 (qpk (qb1 (qbz (nth z22 11))
  (qbl (nth z22 12))) (qb1 (qbu [z36]) (qcx 0 [z36]))) false],(none,z24))))))))))))))))) dep z21 ([z21,x0,x1,x2,.bool false,.bool false,.nilS,.int .i64 0,.bool
  true,qbf z20 0,qbf z20 1,nI 0,.sl 1 [] false],(none,e))) (fun z39=>qrk (qj4 z39.2.1) (qbq (qbi (.int .i64 0) 1) (qbq (okU (.tup [.agg [nth z39.1 9,nth z39.1
  10,slO 1 1 (qbl (nth z39.1 12)) 0 (qbz (nth z39.1 11))],qbf (.int .i64 0) 0])) (some (.tup [.agg [nth z39.1 9,nth z39.1 10,slO 1 1 (qbl (nth z39.1 12)) 0 (qbz (nth
  z39.1 11))],qbf (.int .i64 0) 0],z39.2.2)))) (qrk (qni z39.2.1) (some (.tup [.agg [nth z39.1 4,nth z39.1 5,nth z39.1 6],nth z39.1 7],z39.2.2)) none))))))) (qba (qb2
  x2 0 1 false) (fun z40=>qba (qbb (.build [.bool false,.bool false,.nilS] [(0,(1,.c z40))])) (fun z41=>qbq (qbi z41 3) (qba (qbj B .cl (.fn 77 []) [.agg [qbf
  z3 0,qbf z3 1,qbf z3 2,qbf z3 3,qbf z3 4,qbf z3 5],z13]) (fun z42=>Qkt (qbf z41 2) (qba (qgd B (qfs dep h (fun z43=>fun z44=>fun z45=>qbq
  (qh1 z44 2) (qba (qca (nth z43 8) (qba (qb2 (nth z43 2) 1 1 false) (fun z46=>qba (qb2 (nth z43 3) 1 1 false) (fun z47=>qba (qbb (.bin .neq .bool false (.c z46)
  (.c z47))) (fun z48=>some z48)))) (some (.bool false))) (fun z49=>qca z49 (qba (qb2 (nth z43 1) 0 1 false) (fun z50=>qba (qbj B .cl (.fn 78 []) [z50,.int .i64 0,
  .int .i64 1]) (fun z51=>qba (qbb (.extract 0 (.c z51))) (fun z52=>qba (qbb (.extract 1 (.c z51))) (fun z53=>qba (qbb (.bin .neq .num true (.c z53) (.c (.int .i64
  0)))) (fun z54=>qca z54 (qbq (qbi z53 1) (some (false,([nth z43 0,nth z43 1,nth z43 2,nth z43 3,.bool false,.bool false,.nilS,qbf z53 0,nth z43 8,nth z43 9,nth
  z43 10,nI (qbz (nth z43 11)),.sl 1 (qbl (nth z43 12)) false],(some .ret,z45))))) (qbq (qc7 1 [z52]) (qbq (leN (qdu 0 (qbu [z52])) (qbu [z52])) (qbq (qnj (leN (qbz
  (nth z43 11)) (qbu (qbl (nth z43 12)))) (leN (qdu (qbz (nth z43 11)) (qbu (qb1 (qbu [z52]) (qcx 0 [z52])))) 2147483648)) (some (true,([nth z43 0,nth z43 1,nth z43 2,
  nth z43 3,nth z43 4,nth z43 5,nth z43 6,nth z43 7,nth z43 8,nth z43 9,nth z43 10,nI (qdu (qbz (nth z43 11)) (qbu (qb1 (qbu [z52]) (qcx 0 [z52])))),.sl 1 (qpk
  (qb1 (qbz (nth z43 11)) (qbl (nth z43 12))) (qb1 (qbu [z52]) (qcx 0 [z52]))) false],(none,z45))))))))))))) (qba (qb2 (nth z43 1) 0 1 false) (fun z55=>qba (qbj
  B .cl (.fn 78 []) [z55,nth z44 0,nth z44 1]) (fun z56=>qba (qbb (.extract 0 (.c z56))) (fun z57=>qba (qbb (.extract 1 (.c z56))) (fun z58=>qba (qbb (.bin .neq
  .num true (.c z58) (.c (.int .i64 0)))) (fun z59=>qca z59 (qbq (qbi z58 1) (some (false,([nth z43 0,nth z43 1,nth z43 2,nth z43 3,.bool false,.bool false,.nilS,
  qbf z58 0,nth z43 8,nth z43 9,nth z43 10,nI (qbz (nth z43 11)),.sl 1 (qbl (nth z43 12)) false],(some .ret,z45))))) (qbq (qc7 1 [z57]) (qbq (leN (qdu 0 (qbu
  [z57])) (qbu [z57])) (qbq (qnj (leN (qbz (nth z43 11)) (qbu (qbl (nth z43 12)))) (leN (qdu (qbz (nth z43 11)) (qbu (qb1 (qbu [z57]) (qcx 0 [z57])))) 2147483648))
  (some (true,([nth z43 0,nth z43 1,nth z43 2,nth z43 3,nth z43 4,nth z43 5,nth z43 6,nth z43 7,nth z43 8,nth z43 9,nth z43 10,nI (qdu (qbz (nth z43 11)) (qbu (qb1
  (qbu [z57]) (qcx 0 [z57])))),.sl 1 (qpk (qb1 (qbz (nth z43 11)) (qbl (nth z43 12))) (qb1 (qbu [z57]) (qcx 0 [z57]))) false],(none,z45))))))))))))))))) dep z42
  ([z42,x0,x1,x2,.bool false,.bool false,.nilS,.int .i64 0,.bool true,qbf z41 0,qbf z41 1,nI 0,.sl 1 [] false],(none,e))) (fun z60=>qrk (qj4 z60.2.1) (qbq
  (qbi (.int .i64 0) 1) (qbq (okU (.tup [.agg [nth z60.1 9,nth z60.1 10,slO 1 1 (qbl (nth z60.1 12)) 0 (qbz (nth z60.1 11))],qbf (.int .i64 0) 0])) (some (.tup [.agg
  [nth z60.1 9,nth z60.1 10,slO 1 1 (qbl (nth z60.1 12)) 0 (qbz (nth z60.1 11))],qbf (.int .i64 0) 0],z60.2.2)))) (qrk (qni z60.2.1) (some (.tup [.agg [nth z60.1 4,nth
  z60.1 5,nth z60.1 6],nth z60.1 7],z60.2.2)) none)))))))))))) (qba (qb2 x0 0 1 false) (fun z61=>qba (qbb (.bin .eql .str true (.c z61) (.c (.str [226,137,160])))) (fun
  z62=>qbq (qbi z62 1) (qba (qbb (.bin .neq .iface true (.c z14) (.c .nilI))) (fun z63=>qca z63 (qba (qbj B .cl (.fn 63 []) [z14]) (fun z64=>qbq (qbi z64 1)
  (some (.tup [.agg [.bool false,.bool false,.nilS],qbf z64 0],e)))) (qba (qbb (.un .not (.c (qbf z62 0)))) (fun z65=>qca z65 (qba (qb2 x1 0 3 true) (fun z66 =>
  qba (qbj B .cl (.fn 64 []) [z66]) (fun z67=>qca z67 (qbq (qbi (.int .i64 102) 1) (some (.tup [.agg [.bool false,.bool false,.nilS],qbf (.int .i64 102) 0],e)))
  (qba (qb2 x2 0 3 true) (fun z68=>qba (qbj B .cl (.fn 64 []) [z68]) (fun z69=>qca z69 (qbq (qbi (.int .i64 102) 1) (some (.tup [.agg [.bool false,.bool false,
  .nilS],qbf (.int .i64 102) 0],e))) (qba (qb2 x1 0 1 false) (fun z70=>qca z70 (qba (qbb (.build [.bool false,.bool false,.nilS] [(0,(1,.c (.bool true)))])) (fun
  z71=>qbq (qbi z71 3) (qba (qbj B .cl (.fn 77 []) [.agg [qbf z3 0,qbf z3 1,qbf z3 2,qbf z3 3,qbf z3 4,qbf z3 5],z13]) (fun z72=>Qkt (qbf z71 2)
  (qba (qgd B (qfs dep h (fun z73=>fun z74=>fun z75=>qbq (qh1 z74 2) (qba (qca (nth z73 8) (qba (qb2 (nth z73 2) 1 1 false) (fun z76=>qba (qb2 (nth z73
  3) 1 1 false) (fun z77=>qba (qbb (.bin .neq .bool false (.c z76) (.c z77))) (fun z78=>some z78)))) (some (.bool false))) (fun z79=>qca z79 (qba (qb2 (nth z73 1) 0 1
  false) (fun z80=>qba (qbj B .cl (.fn 78 []) [z80,.int .i64 0,.int .i64 1]) (fun z81=>qba (qbb (.extract 0 (.c z81))) (fun z82=>qba (qbb (.extract 1 (.c z81)))
  (fun z83=>qba (qbb (.bin .neq .num true (.c z83) (.c (.int .i64 0)))) (fun z84=>qca z84 (qbq (qbi z83 1) (some (false,([nth z73 0,nth z73 1,nth z73 2,nth z73 3,
  .bool false,.bool false,.nilS,qbf z83 0,nth z73 8,nth z73 9,nth z73 10,nI (qbz (nth z73 11)),.sl 1 (qbl (nth z73 12)) false],(some .ret,z75))))) (qbq (qc7 1
  [z82]) (qbq (leN (qdu 0 (qbu [z82])) (qbu [z82])) (qbq (qnj (leN (qbz (nth z73 11)) (qbu (qbl (nth z73 12)))) (leN (qdu (qbz (nth z73 11)) (qbu (qb1 (qbu [z82])
  (qcx 0 [z82])))) 2147483648)) (some (true,([nth z73 0,nth z73 1,nth z73 2,nth z73 3,nth z73 4,nth z73 5,nth z73 6,nth z73 7,nth z73 8,nth z73 9,nth z73 10,nI (qdu
  (qbz (nth z73 11)) (qbu (qb1 (qbu [z82]) (qcx 0 [z82])))),.sl 1 (qpk (qb1 (qbz (nth z73 11)) (qbl (nth z73 12))) (qb1 (qbu [z82]) (qcx 0 [z82]))) false],(none,
  z75))))))))))))) (qba (qb2 (nth z73 1) 0 1 false) (fun z85=>qba (qbj B .cl (.fn 78 []) [z85,nth z74 0,nth z74 1]) (fun z86=>qba (qbb (.extract 0 (.c z86))) (fun
  z87=>qba (qbb (.extract 1 (.c z86))) (fun z88=>qba (qbb (.bin .neq .num true (.c z88) (.c (.int .i64 0)))) (fun z89=>qca z89 (qbq (qbi z88 1) (some (false,
  ([nth z73 0,nth z73 1,nth z73 2,nth z73 3,.bool false,.bool false,.nilS,qbf z88 0,nth z73 8,nth z73 9,nth z73 10,nI (qbz (nth z73 11)),.sl 1 (qbl (nth z73 12))
  false],(some .ret,z75))))) (qbq (qc7 1 [z87]) (qbq (leN (qdu 0 (qbu [z87])) (qbu [z87])) (qbq (qnj (leN (qbz (nth z73 11)) (qbu (qbl (nth z73 12)))) (leN (qdu
  (qbz (nth z73 11)) (qbu (qb1 (qbu [z87]) (qcx 0 [z87])))) 2147483648)) (some (true,([nth z73 0,nth z73 1,nth z73 2,nth z73 3,nth z73 4,nth z73 5,nth z73 6,nth z73 7,
  nth z73 8,nth z73 9,nth z73 10,nI (qdu (qbz (nth z73 11)) (qbu (qb1 (qbu [z87]) (qcx 0 [z87])))),.sl 1 (qpk (qb1 (qbz (nth z73 11)) (qbl (nth z73 12))) (qb1
  (qbu [z87]) (qcx 0 [z87]))) false],(none,z75))))))))))))))))) dep z72 ([z72,x0,x1,x2,.bool false,.bool false,.nilS,.int .i64 0,qbf z62 0,qbf z71 0,qbf z71 1,
  nI 0,.sl 1 [] false],(none,e))) (fun z90=>qrk (qj4 z90.2.1) (qbq (qbi (.int .i64 0) 1) (qbq (okU (.tup [.agg [nth z90.1 9,nth z90.1 10,slO 1 1 (qbl (nth z90.1
  12)) 0 (qbz (nth z90.1 11))],qbf (.int .i64 0) 0])) (some (.tup [.agg [nth z90.1 9,nth z90.1 10,slO 1 1 (qbl (nth z90.1 12)) 0 (qbz (nth z90.1 11))],qbf (.int .i64 0)
  0],z90.2.2)))) (qrk (qni z90.2.1) (some (.tup [.agg [nth z90.1 4,nth z90.1 5,nth z90.1 6],nth z90.1 7],z90.2.2)) none))))))) (qba (qb2 x2 0 1 false) (fun z91=>qba
  (qbb (.build [.bool false,.bool false,.nilS] [(0,(1,.c z91))])) (fun z92=>qbq (qbi z92 3) (qba (qbj B .cl (.fn 77 []) [.agg [qbf z3 0,qbf z3 1,qbf z3 2,
  qbf z3 3,qbf z3 4,qbf z3 5],z13]) (fun z93=>Qkt (qbf z92 2) (qba (qgd B (qfs dep h (fun z94=>fun z95=>fun z96=>qbq (qh1 z95 2) (qba (qca (nth
  z94 8) (qba (qb2 (nth z94 2) 1 1 false) (fun z97=>qba (qb2 (nth z94 3) 1 1 false) (fun z98=>qba (qbb (.bin .neq .bool false (.c z97) (.c z98))) (fun z99=>some
  z99)))) (some (.bool false))) (fun z100=>qca z100 (qba (qb2 (nth z94 1) 0 1 false) (fun z101=>qba (qbj B .cl (.fn 78 []) [z101,.int .i64 0,.int .i64 1]) (fun z102 =>
  qba (qbb (.extract 0 (.c z102))) (fun z103=>qba (qbb (.extract 1 (.c z102))) (fun z104=>qba (qbb (.bin .neq .num true (.c z104) (.c (.int .i64 0)))) (fun z105 =>
  qca z105 (qbq (qbi z104 1) (some (false,([nth z94 0,nth z94 1,nth z94 2,nth z94 3,.bool false,.bool false,.nilS,qbf z104 0,nth z94 8,nth z94 9,nth z94 10,nI
  (qbz (nth z94 11)),.sl 1 (qbl (nth z94 12)) false],(some .ret,z96))))) (qbq (qc7 1 [z103]) (qbq (leN (qdu 0 (qbu [z103])) (qbu [z103])) (qbq (qnj (leN (qbz (nth
  z94 11)) (qbu (qbl (nth z94 12)))) (leN (qdu (qbz (nth z94 11)) (qbu (qb1 (qbu [z103]) (qcx 0 [z103])))) 2147483648)) (some (true,([nth z94 0,nth z94 1,nth z94 2,
  nth z94 3,nth z94 4,nth z94 5,nth z94 6,nth z94 7,nth z94 8,nth z94 9,nth z94 10,nI (qdu (qbz (nth z94 11)) (qbu (qb1 (qbu [z103]) (qcx 0 [z103])))),.sl 1 (qpk
  (qb1 (qbz (nth z94 11)) (qbl (nth z94 12))) (qb1 (qbu [z103]) (qcx 0 [z103]))) false],(none,z96))))))))))))) (qba (qb2 (nth z94 1) 0 1 false) (fun z106=>qba
  (qbj B .cl (.fn 78 []) [z106,nth z95 0,nth z95 1]) (fun z107=>qba (qbb (.extract 0 (.c z107))) (fun z108=>qba (qbb (.extract 1 (.c z107))) (fun z109=>qba (qbb
  (.bin .neq .num true (.c z109) (.c (.int .i64 0)))) (fun z110=>qca z110 (qbq (qbi z109 1) (some (false,([nth z94 0,nth z94 1,nth z94 2,nth z94 3,.bool false,.bool
  false,.nilS,qbf z109 0,nth z94 8,nth z94 9,nth z94 10,nI (qbz (nth z94 11)),.sl 1 (qbl (nth z94 12)) false],(some .ret,z96))))) (qbq (qc7 1 [z108]) (qbq (leN
  (qdu 0 (qbu [z108])) (qbu [z108])) (qbq (qnj (leN (qbz (nth z94 11)) (qbu (qbl (nth z94 12)))) (leN (qdu (qbz (nth z94 11)) (qbu (qb1 (qbu [z108]) (qcx 0
  [z108])))) 2147483648)) (some (true,([nth z94 0,nth z94 1,nth z94 2,nth z94 3,nth z94 4,nth z94 5,nth z94 6,nth z94 7,nth z94 8,nth z94 9,nth z94 10,nI (qdu (qbz (nth
  z94 11)) (qbu (qb1 (qbu [z108]) (qcx 0 [z108])))),.sl 1 (qpk (qb1 (qbz (nth z94 11)) (qbl (nth z94 12))) (qb1 (qbu [z108]) (qcx 0 [z108]))) false],(none,
  z96))))))))))))))))) dep z93 ([z93,x0,x1,x2,.bool false,.bool false,.nilS,.int .i64 0,qbf z62 0,qbf z92 0,qbf z92 1,nI 0,.sl 1 [] false],(none,e))) (fun z111 =>
  qrk (qj4 z111.2.1) (qbq (qbi (.int .i64 0) 1) (qbq (okU (.tup [.agg [nth z111.1 9,nth z111.1 10,slO 1 1 (qbl (nth z111.1 12)) 0 (qbz (nth z111.1 11))],qbf (.int
  .i64 0) 0])) (some (.tup [.agg [nth z111.1 9,nth z111.1 10,slO 1 1 (qbl (nth z111.1 12)) 0 (qbz (nth z111.1 11))],qbf (.int .i64 0) 0],z111.2.2)))) (qrk (qni
  z111.2.1) (some (.tup [.agg [nth z111.1 4,nth z111.1 5,nth z111.1 6],nth z111.1 7],z111.2.2)) none)))))))))))))))) (qba (qb2 x1 0 1 false) (fun z112=>qca z112 (qba
  (qbb (.build [.bool false,.bool false,.nilS] [(0,(1,.c (.bool true)))])) (fun z113=>qbq (qbi z113 3) (qba (qbj B .cl (.fn 77 []) [.agg [qbf z3 0,qbf z3 1,
  qbf z3 2,qbf z3 3,qbf z3 4,qbf z3 5],z13]) (fun z114=>Qkt (qbf z113 2) (qba (qgd B (qfs dep h (fun z115=>fun z116=>fun z117=>qbq (qh1 z116 2)
  (qba (qca (nth z115 8) (qba (qb2 (nth z115 2) 1 1 false) (fun z118=>qba (qb2 (nth z115 3) 1 1 false) (fun z119=>qba (qbb (.bin .neq .bool false (.c z118) (.c
  z119))) (fun z120=>some z120)))) (some (.bool false))) (fun z121=>qca z121 (qba (qb2 (nth z115 1) 0 1 false) (fun z122=>qba (qbj B .cl (.fn 78 []) [z122,.int .i64 0,
  .int .i64 1]) (fun z123=>qba (qbb (.extract 0 (.c z123))) (fun z124=>qba (qbb (.extract 1 (.c z123))) (fun z125=>qba (qbb (.bin .neq .num true (.c z125) (.c (.int
  .i64 0)))) (fun z126=>qca z126 (qbq (qbi z125 1) (some (false,([nth z115 0,nth z115 1,nth z115 2,nth z115 3,.bool false,.bool false,.nilS,qbf z125 0,nth z115 8,
  nth z115 9,nth z115 10,nI (qbz (nth z115 11)),.sl 1 (qbl (nth z115 12)) false],(some .ret,z117))))) (qbq (qc7 1 [z124]) (qbq (leN (qdu 0 (qbu [z124])) (qbu [z124]))
  (qbq (qnj (leN (qbz (nth z115 11)) (qbu (qbl (nth z115 12)))) (leN (qdu (qbz (nth z115 11)) (qbu (qb1 (qbu [z124]) (qcx 0 [z124])))) 2147483648)) (some (true,([nth
  z115 0,nth z115 1,nth z115 2,nth z115 3,nth z115 4,nth z115 5,nth z115 6,nth z115 7,nth z115 8,nth z115 9,nth z115 10,nI (qdu (qbz (nth z115 11)) (qbu (qb1 (qbu
  [z124]) (qcx 0 [z124])))),.sl 1 (qpk (qb1 (qbz (nth z115 11)) (qbl (nth z115 12))) (qb1 (qbu [z124]) (qcx 0 [z124]))) false],(none,z117))))))))))))) (qba (qb2
  (nth z115 1) 0 1 false) (fun z127=>qba (qbj B .cl (.fn 78 []) [z127,nth z116 0,nth z116 1]) (fun z128=>qba (qbb (.extract 0 (.c z128))) (fun z129=>qba (qbb
  (.extract 1 (.c z128))) (fun z130=>qba (qbb (.bin .neq .num true (.c z130) (.c (.int .i64 0)))) (fun z131=>qca z131 (qbq (qbi z130 1) (some (false,([nth z115 0,nth
  z115 1,nth z115 2,nth z115 3,.bool false,.bool false,.nilS,qbf z130 0,nth z115 8,nth z115 9,nth z115 10,nI (qbz (nth z115 11)),.sl 1 (qbl (nth z115 12)) false],
  (some .ret,z117))))) (qbq (qc7 1 [z129]) (qbq (leN (qdu 0 (qbu [z129])) (qbu [z129])) (qbq (qnj (leN (qbz (nth z115 11)) (qbu (qbl (nth z115 12)))) (leN (qdu (qbz
  (nth z115 11)) (qbu (qb1 (qbu [z129]) (qcx 0 [z129])))) 2147483648)) (some (true,([nth z115 0,nth z115 1,nth z115 2,nth z115 3,nth z115 4,nth z115 5,nth z115 6,nth
  z115 7,nth z115 8,nth z115 9,nth z115 10,nI (qdu (qbz (nth z115 11)) (qbu (qb1 (qbu [z129]) (qcx 0 [z129])))),.sl 1 (qpk (qb1 (qbz (nth z115 11)) (qbl (nth z115
  12))) (qb1 (qbu [z129]) (qcx 0 [z129]))) false],(none,z117))))))))))))))))) dep z114 ([z114,x0,x1,x2,.bool false,.bool false,.nilS,.int .i64 0,qbf z62 0,qbf
  z113 0,qbf z113 1,nI 0,.sl 1 [] false],(none,e))) (fun z132=>qrk (qj4 z132.2.1) (qbq (qbi (.int .i64 0) 1) (qbq (okU (.tup [.agg [nth z132.1 9,nth z132.1 10,
  slO 1 1 (qbl (nth z132.1 12)) 0 (qbz (nth z132.1 11))],qbf (.int .i64 0) 0])) (some (.tup [.agg [nth z132.1 9,nth z132.1 10,slO 1 1 (qbl (nth z132.1 12)) 0 (qbz (nth
  z132.1 11))],qbf (.int .i64 0) 0],z132.2.2)))) (qrk (qni z132.2.1) (some (.tup [.agg [nth z132.1 4,nth z132.1 5,nth z132.1 6],nth z132.1 7],z132.2.2)) none)))))))
  (qba (qb2 x2 0 1 false) (fun z133=>qba (qbb (.build [.bool false,.bool false,.nilS] [(0,(1,.c z133))])) (fun z134=>qbq (qbi z134 3) (qba (qbj B .cl (.fn 77
  []) [.agg [qbf z3 0,qbf z3 1,qbf z3 2,qbf z3 3,qbf z3 4,qbf z3 5],z13]) (fun z135=>Qkt (qbf z134 2) (qba (qgd B (qfs dep h (fun z136=>fun z137 =>
  fun z138=>qbq (qh1 z137 2) (qba (qca (nth z136 8) (qba (qb2 (nth z136 2) 1 1 false) (fun z139=>qba (qb2 (nth z136 3) 1 1 false) (fun z140=>qba (qbb (.bin
  .neq .bool false (.c z139) (.c z140))) (fun z141=>some z141)))) (some (.bool false))) (fun z142=>qca z142 (qba (qb2 (nth z136 1) 0 1 false) (fun z143=>qba (qbj B .cl
  (.fn 78 []) [z143,.int .i64 0,.int .i64 1]) (fun z144=>qba (qbb (.extract 0 (.c z144))) (fun z145=>qba (qbb (.extract 1 (.c z144))) (fun z146=>qba (qbb (.bin
  .neq .num true (.c z146) (.c (.int .i64 0)))) (fun z147=>qca z147 (qbq (qbi z146 1) (some (false,([nth z136 0,nth z136 1,nth z136 2,nth z136 3,.bool false,.bool
  false,.nilS,qbf z146 0,nth z136 8,nth z136 9,nth z136 10,nI (qbz (nth z136 11)),.sl 1 (qbl (nth z136 12)) false],(some .ret,z138))))) (qbq (qc7 1 [z145]) (qbq
  (leN (qdu 0 (qbu [z145])) (qbu [z145])) (qbq (qnj (leN (qbz (nth z136 11)) (qbu (qbl (nth z136 12)))) (leN (qdu (qbz (nth z136 11)) (qbu (qb1 (qbu [z145]) (qcx 0
  [z145])))) 2147483648)) (some (true,([nth z136 0,nth z136 1,nth z136 2,nth z136 3,nth z136 4,nth z136 5,nth z136 6,nth z136 7,nth z136 8,nth z136 9,nth z136 10,nI (qdu
  (qbz (nth z136 11)) (qbu (qb1 (qbu [z145]) (qcx 0 [z145])))),.sl 1 (qpk (qb1 (qbz (nth z136 11)) (qbl (nth z136 12))) (qb1 (qbu [z145]) (qcx 0 [z145]))) false],
  (none,z138))))))))))))) (qba (qb2 (nth z136 1) 0 1 false) (fun z148=>qba (qbj B .cl (.fn 78 []) [z148,nth z137 0,nth z137 1]) (fun z149=>qba (qbb (.extract 0 (.c
  z149))) (fun z150=>qba (qbb (.extract 1 (.c z149))) (fun z151=>qba (qbb (.bin .neq .num true (.c z151) (.c (.int .i64 0)))) (fun z152=>qca z152 (qbq (qbi z151
  1) (some (false,([nth z136 0,nth z136 1,nth z136 2,nth z136 3,.bool false,.bool false,.nilS,qbf z151 0,nth z136 8,nth z136 9,nth z136 10,nI (qbz (nth z136 11)),.sl
  1 (qbl (nth z136 12)) false],(some .ret,z138))))) (qbq (qc7 1 [z150]) (qbq (leN (qdu 0 (qbu [z150])) (qbu [z150])) (qbq (qnj (leN (qbz (nth z136 11)) (qbu (qbl
  (nth z136 12)))) (leN (qdu (qbz (nth z136 11)) (qbu (qb1 (qbu [z150]) (qcx 0 [z150])))) 2147483648)) (some (true,([nth z136 0,nth z136 1,nth z136 2,nth z136 3,nth z136
  4,nth z136 5,nth z136 6,nth z136 7,nth z136 8,nth z136 9,nth z136 10,nI (qdu (qbz (nth z136 11)) (qbu (qb1 (qbu [z150]) (qcx 0 [z150])))),.sl 1 (qpk (qb1 (qbz
  (nth z136 11)) (qbl (nth z136 12))) (qb1 (qbu [z150]) (qcx 0 [z150]))) false],(none,z138))))))))))))))))) dep z135 ([z135,x0,x1,x2,.bool false,.bool false,.nilS,
  .int .i64 0,qbf z62 0,qbf z134 0,qbf z134 1,nI 0,.sl 1 [] false],(none,e))) (fun z153=>qrk (qj4 z153.2.1) (qbq (qbi (.int .i64 0) 1) (qbq (okU (.tup [.agg
  [nth z153.1 9,nth z153.1 10,slO 1 1 (qbl (nth z153.1 12)) 0 (qbz (nth z153.1 11))],qbf (.int .i64 0) 0])) (some (.tup [.agg [nth z153.1 9,nth z153.1 10,slO 1 1 (qbl
  (nth z153.1 12)) 0 (qbz (nth z153.1 11))],qbf (.int .i64 0) 0],z153.2.2)))) (qrk (qni z153.2.1) (some (.tup [.agg [nth z153.1 4,nth z153.1 5,nth z153.1 6],nth z153.1
  7],z153.2.2)) none))))))))))))))))))))))))))))))))))))))):=by kernel_rfl
theorem run52 (B:KB) {E:Type} (h:qbg E) (dep:Nat) (e:E) (x0:PV) (x1:PV) :
  qf8 (qfj B (fun _=>.cl)) fn52 (.cl) h dep [.cv x0,.cv x1] e =
  qba (qbb (.len .slice (.c x0))) (fun z1=>qba (qbb (.len .slice (.c x1))) (fun z2=>qba (qbb (.bin .neq .num false (.c z1) (.c z2))) (fun z3=>qca z3 (some (.bool
  false,e)) (qba (qbb (.len .slice (.c x0))) (fun z4=>qbq (qb9 [x0,x1,z4,.int .i64 0]) (qf0 (fun z5=>qba (qbb (.bin .lss .num false (.c (nth z5.1 3)) (.c (nth
  z5.1 2)))) (fun z6=>qca z6 (qba (qbb (.idxAddr 1 (.c (nth z5.1 0)) (.c (nth z5.1 3)))) (fun z7=>qba (qbb (.load 1 false (.c z7))) (fun z8=>qba (qbb (.idxAddr 1
  (.c (nth z5.1 1)) (.c (nth z5.1 3)))) (fun z9=>qba (qbb (.load 1 false (.c z9))) (fun z10=>qba (qbb (.bin .neq .num false (.c z8) (.c z10))) (fun z11=>qca z11 (qba
  (some (.bool false,z5.2)) (fun z12=>some (.inr z12))) (qba (qbb (.bin .add .num true (.c (nth z5.1 3)) (.c (.int .i64 1)))) (fun z13=>some (.inl ([nth z5.1 0,nth z5.1 1,
  nth z5.1 2,z13],z5.2)))))))))) (qba (some (.bool true,z5.2)) (fun z14=>some (.inr z14))))) ([x0,x1,z4,.int .i64 0],e))))))):=by kernel_rfl
theorem run53 (B:KB) {E:Type} (h:qbg E) (dep:Nat) (e:E) (x0:PV) :
  qf8 (qfj B (fun _=>.cl)) fn53 (.cl) h dep [.cv x0] e =
  qba (qbj B .cl (.fn 54 []) [x0]) (fun z1=>qba (qbb (.un .not (.c z1))) (fun z2=>some (z2,e))):=by kernel_rfl
theorem run54 (B:KB) {E:Type} (h:qbg E) (dep:Nat) (e:E) (x0:PV) :
  qf8 (qfj B (fun _=>.cl)) fn54 (.cl) h dep [.cv x0] e =
  qba (qba (qbb (.bin .geq .num true (.c x0) (.c (.int .i64 0)))) (fun z1=>qca z1 (qba (qbb (.bin .leq .num true (.c x0) (.c (.int .i64 1114111)))) (fun z2=>qca z2
  (qba (qbb (.bin .lss .num true (.c x0) (.c (.int .i64 55296)))) (fun z3=>qca z3 (some (.bool true)) (qba (qbb (.bin .gtr .num true (.c x0) (.c (.int .i64 57343)))) (fun
  z4=>some z4)))) (some (.bool false)))) (some (.bool false)))) (fun z5=>some (z5,e)):=by kernel_rfl
theorem run55 (B:KB) {E:Type} (h:qbg E) (dep:Nat) (e:E) (x0:PV) (x1:PV) :
  qf8 (qfj B (fun _=>.cl)) fn55 (.cl) h dep [.cv x0,.cv x1] e =
  qba (qbj B .cl (.fn 91 []) [x0,x1]) (fun z1=>qba (qbb (.bin .geq .num true (.c z1) (.c (.int .i64 0)))) (fun z2=>some (z2,e))):=by kernel_rfl
theorem run56 (B:KB) {E:Type} (h:qbg E) (dep:Nat) (e:E) (x0:PV) :
  qf8 (qfj B (fun _=>.cl)) fn56 (.cl) h dep [.cv x0] e =
  qba (qbj B .cl (.fn 92 []) [.nilS,x0]) (fun z1=>some (z1,e)):=by kernel_rfl
theorem run57 (B:KB) {E:Type} (h:qbg E) (dep:Nat) (e:E) (x0:PV) :
  qf8 (qfj B (fun _=>.cl)) fn57 (.cl) h dep [.cv x0] e =
  qbq (qjc x0) (qbq (okU (.fn 93 [Qkj (qfu x0) 0])) (some (.fn 93 [Qkj (qfu x0) 0],e))):=by kernel_rfl
theorem run58 (B:KB) {E:Type} (h:qbg E) (dep:Nat) (e:E) (x0:PV) (x1:PV) :
  qf8 (qfj B (fun _=>.cl)) fn58 (.cl) h dep [.cv x0,.cv x1] e =
  qbq (qjc x0) (qba (qb2 x0 0 1 false) (fun z1=>qba (qb2 x0 1 1 false) (fun z2=>qba (qbb (.build [.bool false,.bool false,.nilS] [(0,(1,.c z1)),(1,(1,.c
  z2))])) (fun z3=>qbq (qbi z3 3) (qba (qbb (.len .slice (.c x1))) (fun z4=>Qkt (qbf z3 2) (qbq (qb9 [x1,.bool false,.bool false,x1,z4,.int .i64 0]) (qf0
  (fun z5=>qba (qbb (.bin .lss .num false (.c (nth z5.1 5)) (.c (nth z5.1 4)))) (fun z6=>qca z6 (qba (qbb (.idxAddr 3 (.c (nth z5.1 3)) (.c (nth z5.1 5)))) (fun z7 =>
  qba (qbb (.load 3 true (.c z7))) (fun z8=>qbq (qbi z8 3) (qba (qbj B .cl (.fn 27 []) [.agg [qbf z8 0,qbf z8 1,qbf z8 2]]) (fun z9=>qba (qbb (.un .not
  (.c z9))) (fun z10=>qca z10 (qba (qbb (.build [.int .i64 0] [(0,(1,.c (.int .i64 114)))])) (fun z11=>qba (some (.tup [.agg [.bool false,.bool false,.nilS],.iface
  124 z11],z5.2)) (fun z12=>some (.inr z12)))) (qca (nth z5.1 1) (qca (nth z5.1 2) (qba (qbb (.idxAddr 3 (.c (nth z5.1 0)) (.c (.int .i64 0)))) (fun z13=>qba (qbb
  (.fieldAddr 1 (.c z13))) (fun z14=>qba (qbb (.load 1 false (.c z14))) (fun z15=>qbq (qbi z15 1) (qba (qsp 1 (qbf z8 2)) (fun z16=>qbq (qnj (leN (qbz (nth
  z5.1 12)) (qbu (qbl (nth z5.1 13)))) (leN (qdu (qbz (nth z5.1 12)) (qbu z16)) 2147483648)) (qba (qbb (.bin .add .num true (.c (nth z5.1 5)) (.c (.int .i64 1)))) (fun z17
  => some (.inl ([nth z5.1 0,.bool true,.bool true,nth z5.1 3,nth z5.1 4,z17,nth z5.1 6,nth z5.1 7,nth z5.1 8,nth z5.1 9,nth z5.1 10,qbf z15 0,nI (qdu (qbz (nth z5.1
  12)) (qbu z16)),.sl 1 (qpk (qb1 (qbz (nth z5.1 12)) (qbl (nth z5.1 13))) z16) false],z5.2)))))))))) (qba (qbb (.idxAddr 3 (.c (nth z5.1 0)) (.c (.int .i64 0)))) (fun
  z18=>qba (qbb (.fieldAddr 1 (.c z18))) (fun z19=>qba (qbb (.load 1 false (.c z19))) (fun z20=>qba (qbb (.bin .neq .bool false (.c (qbf z8 1)) (.c z20))) (fun
  z21=>qba (qbb (.idxAddr 3 (.c (nth z5.1 0)) (.c (.int .i64 0)))) (fun z22=>qba (qbb (.fieldAddr 1 (.c z22))) (fun z23=>qba (qbb (.load 1 false (.c z23))) (fun z24
  => qbq (qbi z24 1) (qba (qsp 1 (qbf z8 2)) (fun z25=>qbq (qnj (leN (qbz (nth z5.1 12)) (qbu (qbl (nth z5.1 13)))) (leN (qdu (qbz (nth z5.1 12)) (qbu z25))
  2147483648)) (qba (qbb (.bin .add .num true (.c (nth z5.1 5)) (.c (.int .i64 1)))) (fun z26=>some (.inl ([nth z5.1 0,.bool true,z21,nth z5.1 3,nth z5.1 4,z26,nth z5.1
  6,nth z5.1 7,nth z5.1 8,nth z5.1 9,nth z5.1 10,qbf z24 0,nI (qdu (qbz (nth z5.1 12)) (qbu z25)),.sl 1 (qpk (qb1 (qbz (nth z5.1 12)) (qbl (nth z5.1 13))) z25)
  false],z5.2))))))))))))))) (qca (nth z5.1 2) (qba (qbb (.idxAddr 3 (.c (nth z5.1 0)) (.c (.int .i64 0)))) (fun z27=>qba (qbb (.fieldAddr 1 (.c z27))) (fun z28=>qba
  (qbb (.load 1 false (.c z28))) (fun z29=>qbq (qbi z29 1) (qba (qsp 1 (qbf z8 2)) (fun z30=>qbq (qnj (leN (qbz (nth z5.1 12)) (qbu (qbl (nth z5.1 13))))
  (leN (qdu (qbz (nth z5.1 12)) (qbu z30)) 2147483648)) (qba (qbb (.bin .add .num true (.c (nth z5.1 5)) (.c (.int .i64 1)))) (fun z31=>some (.inl ([nth z5.1 0,qbf z8 0,
  .bool true,nth z5.1 3,nth z5.1 4,z31,nth z5.1 6,nth z5.1 7,nth z5.1 8,nth z5.1 9,nth z5.1 10,qbf z29 0,nI (qdu (qbz (nth z5.1 12)) (qbu z30)),.sl 1 (qpk (qb1
  (qbz (nth z5.1 12)) (qbl (nth z5.1 13))) z30) false],z5.2)))))))))) (qba (qbb (.idxAddr 3 (.c (nth z5.1 0)) (.c (.int .i64 0)))) (fun z32=>qba (qbb (.fieldAddr 1 (.c
  z32))) (fun z33=>qba (qbb (.load 1 false (.c z33))) (fun z34=>qba (qbb (.bin .neq .bool false (.c (qbf z8 1)) (.c z34))) (fun z35=>qba (qbb (.idxAddr 3 (.c (nth
  z5.1 0)) (.c (.int .i64 0)))) (fun z36=>qba (qbb (.fieldAddr 1 (.c z36))) (fun z37=>qba (qbb (.load 1 false (.c z37))) (fun z38=>qbq (qbi z38 1) (qba (qsp 1
  (qbf z8 2)) (fun z39=>qbq (qnj (leN (qbz (nth z5.1 12)) (qbu (qbl (nth z5.1 13)))) (leN (qdu (qbz (nth z5.1 12)) (qbu z39)) 2147483648)) (qba (qbb (.bin .add .num
  true (.c (nth z5.1 5)) (.c (.int .i64 1)))) (fun z40=>some (.inl ([nth z5.1 0,qbf z8 0,z35,nth z5.1 3,nth z5.1 4,z40,nth z5.1 6,nth z5.1 7,nth z5.1 8,nth z5.1 9,nth
  z5.1 10,qbf z38 0,nI (qdu (qbz (nth z5.1 12)) (qbu z39)),.sl 1 (qpk (qb1 (qbz (nth z5.1 12)) (qbl (nth z5.1 13))) z39) false],z5.2)))))))))))))))))))))) (qba
  (qca (nth z5.1 1) (qba (qbb (.build [.int .i64 0] [(0,(1,.c (.int .i64 111)))])) (fun z41=>some (.tup [.agg [.bool false,.bool false,.nilS],.iface 124 z41],z5.2)))
  (qca (nth z5.1 2) (qba (qbb (.build [.int .i64 0] [(0,(1,.c (.int .i64 102)))])) (fun z42=>some (.tup [.agg [.bool false,.bool false,.nilS],.iface 124 z42],z5.2)))
  (qba (qba (qb2 (nth z5.1 6) 0 1 false) (fun z43=>qba (qbb (.un .not (.c z43))) (fun z44=>qca z44 (qba (qbb (.len .slice (.c (nth z5.1 0)))) (fun z45=>qba
  (qbb (.bin .neq .num true (.c z45) (.c (.int .i64 1)))) (fun z46=>some z46))) (some (.bool false))))) (fun z47=>qca z47 (qba (qbb (.build [.int .i64 0] [(0,(1,.c (.int
  .i64 111)))])) (fun z48=>some (.tup [.agg [.bool false,.bool false,.nilS],.iface 124 z48],z5.2))) (qba (qbb (.len .slice (.c (nth z5.1 0)))) (fun z49=>qba (qbb
  (.bin .gtr .num true (.c z49) (.c (.int .i64 200)))) (fun z50=>qca z50 (qba (qbb (.build [.int .i64 0] [(0,(1,.c (.int .i64 113)))])) (fun z51=>some (.tup [.agg [.bool
  false,.bool false,.nilS],.iface 124 z51],z5.2))) (qbq (okU (.tup [.agg [nth z5.1 10,nth z5.1 11,slO 1 1 (qbl (nth z5.1 13)) 0 (qbz (nth z5.1 12))],.nilI])) (some (.tup
  [.agg [nth z5.1 10,nth z5.1 11,slO 1 1 (qbl (nth z5.1 13)) 0 (qbz (nth z5.1 12))],.nilI],z5.2)))))))))) (fun z52=>some (.inr z52))))) ([x1,.bool false,.bool false,x1,
  z4,.int .i64 0,x0,.bool false,.bool false,.nilS,qbf z3 0,qbf z3 1,nI 0,.sl 1 [] false],e))))))))):=by kernel_rfl
theorem run59 (B:KB) {E:Type} (h:qbg E) (dep:Nat) (e:E) (x0:PV) :
  qf8 (qfj B (fun _=>.cl)) fn59 (.cl) h dep [.cv x0] e =
  qbq (eqN 1 1) (asP 124 x0 (fun z1=>qbq (qbi z1 1) (qba (qb2 z1 0 1 false) (fun z2=>some (z2,e)))) (some (.int .i64 0,e))):=by kernel_rfl
theorem run62 (B:KB) {E:Type} (h:qbg E) (dep:Nat) (e:E) (x0:PV) :
  qf8 (qfj B (fun _=>.cl)) fn62 (.cl) h dep [.cv x0] e =
  qba (qbb (.len .slice (.c x0))) (fun z1=>qbq (qb9 [x0,z1,.int .i64 0]) (qf0 (fun z2=>qba (qbb (.bin .lss .num false (.c (nth z2.1 2)) (.c (nth z2.1 1)))) (fun
  z3=>qca z3 (qba (qbb (.idxAddr 3 (.c (nth z2.1 0)) (.c (nth z2.1 2)))) (fun z4=>qba (qbb (.load 3 true (.c z4))) (fun z5=>qbq (qbi z5 3) (qba (qbj B .cl
  (.fn 27 []) [.agg [qbf z5 0,qbf z5 1,qbf z5 2]]) (fun z6=>qba (qbb (.un .not (.c z6))) (fun z7=>qca z7 (qba (qbb (.build [.int .i64 0] [(0,(1,.c (.int .i64
  114)))])) (fun z8=>qba (some (.iface 145 z8,z2.2)) (fun z9=>some (.inr z9)))) (qba (qbb (.bin .add .num true (.c (nth z2.1 2)) (.c (.int .i64 1)))) (fun z10=>some
  (.inl ([nth z2.1 0,nth z2.1 1,z10],z2.2)))))))))) (qba (some (.nilI,z2.2)) (fun z11=>some (.inr z11))))) ([x0,z1,.int .i64 0],e))):=by kernel_rfl
theorem run63 (B:KB) {E:Type} (h:qbg E) (dep:Nat) (e:E) (x0:PV) :
  qf8 (qfj B (fun _=>.cl)) fn63 (.cl) h dep [.cv x0] e =
  qbq (eqN 1 1) (asP 145 x0 (fun z1=>qbq (qbi z1 1) (qba (qb2 z1 0 1 false) (fun z2=>some (z2,e)))) (some (.int .i64 0,e))):=by kernel_rfl
theorem run64 (B:KB) {E:Type} (h:qbg E) (dep:Nat) (e:E) (x0:PV) :
  qf8 (qfj B (fun _=>.cl)) fn64 (.cl) h dep [.cv x0] e =
  qbq (qjc x0) (qba (qba (qb2 x0 1 1 false) (fun z1=>qca z1 (qba (qb2 x0 2 1 false) (fun z2=>qba (qbb (.len .slice (.c z2))) (fun z3=>qba (qbb (.bin .gtr
  .num true (.c z3) (.c (.int .i64 0)))) (fun z4=>some z4)))) (some (.bool false)))) (fun z5=>some (z5,e))):=by kernel_rfl
theorem run76 (B:KB) {E:Type} (h:qbg E) (dep:Nat) (e:E) (x0:PV) :
  qf8 (qfj B (fun _=>.cl)) fn76 (.cl) h dep [.cv x0] e =
  qbq (qjc x0) (qba (qba (qb2 x0 0 1 false) (fun z1=>qca z1 (qba (qb2 x0 3 1 false) (fun z2=>qca z2 (qba (qb2 x0 2 1 false) (fun z3=>qba (qbb (.len .slice
  (.c z3))) (fun z4=>qba (qb2 x0 5 1 false) (fun z5=>qba (qbb (.len .slice (.c z5))) (fun z6=>qba (qbb (.bin .neq .num false (.c z4) (.c z6))) (fun z7=>some
  z7)))))) (some (.bool false)))) (some (.bool false)))) (fun z8=>qca z8 (qba (qbb (.build [.int .i64 0] [(0,(1,.c (.int .i64 110)))])) (fun z9=>some (.tup [.int .i64 0,
  .iface 145 z9],e))) (qba (qb2 x0 0 1 false) (fun z10=>qca z10 (qba (qb2 x0 2 1 false) (fun z11=>qba (qbb (.len .slice (.c z11))) (fun z12=>some (.tup [z12,
  .nilI],e)))) (qba (qb2 x0 5 1 false) (fun z13=>qba (qbb (.len .slice (.c z13))) (fun z14=>some (.tup [z14,.nilI],e)))))))):=by kernel_rfl
theorem run77 (B:KB) {E:Type} (h:qbg E) (dep:Nat) (e:E) (x0:PV) (x1:PV) :
  qf8 (qfj B (fun _=>.cl)) fn77 (.cl) h dep [.cv x0,.cv x1] e =
  qbq (qjc x0) (qbq (qjc x1) (qbq (okU (.fn 141 [Qkj (qfu x1) 0,Qkj (qfu x0) 0])) (some (.fn 141 [Qkj (qfu x1) 0,Qkj (qfu x0) 0],e)))):=by kernel_rfl
theorem run78 (B:KB) {E:Type} (h:qbg E) (dep:Nat) (e:E) (x0:PV) (x1:PV) (x2:PV) :
  qf8 (qfj B (fun _=>.cl)) fn78 (.cl) h dep [.cv x0,.cv x1,.cv x2] e =
  qba (qbj B .cl (.fn 75 []) []) (fun z1=>qba (qbb (.lookup .str .nilF true (.c z1) (.c x0))) (fun z2=>qba (qbb (.extract 0 (.c z2))) (fun z3=>qba (qbb
  (.extract 1 (.c z2))) (fun z4=>qba (qbb (.un .not (.c z4))) (fun z5=>qca z5 (qba (qbb (.build [.str []] [(0,(1,.c x0))])) (fun z6=>qba (qbj B .cl (.fn 110 [])
  [.iface 143 z6]) (fun z7=>some (.tup [.int .i64 0,z7],e)))) (qba (qbb (.build [.int .i64 0,.int .i64 0] [(0,(1,.c x1)),(1,(1,.c x2))])) (fun z8=>qba (qbb
  (.build [.int .i64 0,.int .i64 0] [(0,(2,.c z8))])) (fun z9=>qba (qbj B .cl z3 [z9]) (fun z10=>qba (qbb (.extract 0 (.c z10))) (fun z11=>qba (qbb (.extract 1
  (.c z10))) (fun z12=>qba (qbj B .cl (.fn 110 []) [z12]) (fun z13=>some (.tup [z11,z13],e))))))))))))):=by kernel_rfl
theorem run87 (B:KB) {E:Type} (h:qbg E) (dep:Nat) (e:E) (x0:PV) :
  qf8 (qfj B (fun _=>.cl)) fn87 (.cl) h dep [.cv x0] e =
  qbq (qjc x0) (qbq (okU (.fn 151 [Qkj (qfu x0) 0])) (some (.fn 151 [Qkj (qfu x0) 0],e))):=by kernel_rfl
theorem run91 (B:KB) {E:Type} (h:qbg E) (dep:Nat) (e:E) (x0:PV) (x1:PV) :
  qf8 (qfj B (fun _=>.cl)) fn91 (.cl) h dep [.cv x0,.cv x1] e =
  qba (qbb (.len .slice (.c x0))) (fun z1=>qbq (qb9 [x0,x1,z1,.int .i64 0]) (qf0 (fun z2=>qba (qbb (.bin .lss .num false (.c (nth z2.1 3)) (.c (nth z2.1 2))))
  (fun z3=>qca z3 (qba (qbb (.idxAddr 1 (.c (nth z2.1 0)) (.c (nth z2.1 3)))) (fun z4=>qba (qbb (.load 1 false (.c z4))) (fun z5=>qba (qbj B .cl (nth z2.1 1) [z5])
  (fun z6=>qca z6 (qba (some (nth z2.1 3,z2.2)) (fun z7=>some (.inr z7))) (qba (qbb (.bin .add .num true (.c (nth z2.1 3)) (.c (.int .i64 1)))) (fun z8=>some (.inl
  ([nth z2.1 0,nth z2.1 1,nth z2.1 2,z8],z2.2)))))))) (qba (some (.int .i64 (-1),z2.2)) (fun z9=>some (.inr z9))))) ([x0,x1,z1,.int .i64 0],e))):=by kernel_rfl
theorem run92 (B:KB) {E:Type} (h:qbg E) (dep:Nat) (e:E) (x0:PV) :
  qf8 (qfj B (fun _=>.cl)) fn92 (.cl) h dep [.nils,.cv x0] e =
  qba (qgd B (qfs dep h (fun z1=>fun z2=>fun z3=>qbq (qh1 z2 1) (qbq (qbi (nth z2 0) 3) (qbq (qc7 3 [.agg [qbf (nth z2 0) 0,qbf (nth z2 0) 1,qbf
  (nth z2 0) 2]]) (qbq (leN (qdu 0 (qbu [.agg [qbf (nth z2 0) 0,qbf (nth z2 0) 1,qbf (nth z2 0) 2]])) (qbu [.agg [qbf (nth z2 0) 0,qbf (nth z2 0) 1,qbf (nth z2 0)
  2]])) (qbq (qnj (leN (qbz (nth z1 2)) (qbu (qbl (nth z1 3)))) (leN (qdu (qbz (nth z1 2)) (qbu (qb1 (qbu [.agg [qbf (nth z2 0) 0,qbf (nth z2 0) 1,qbf (nth z2 0)
  2]]) (qcx 0 [.agg [qbf (nth z2 0) 0,qbf (nth z2 0) 1,qbf (nth z2 0) 2]])))) 2147483648)) (some (true,([nth z1 0,nth z1 1,nI (qdu (qbz (nth z1 2)) (qbu (qb1 (qbu
  [.agg [qbf (nth z2 0) 0,qbf (nth z2 0) 1,qbf (nth z2 0) 2]]) (qcx 0 [.agg [qbf (nth z2 0) 0,qbf (nth z2 0) 1,qbf (nth z2 0) 2]])))),.sl 3 (qpk (qb1 (qbz (nth
  z1 2)) (qbl (nth z1 3))) (qb1 (qbu [.agg [qbf (nth z2 0) 0,qbf (nth z2 0) 1,qbf (nth z2 0) 2]]) (qcx 0 [.agg [qbf (nth z2 0) 0,qbf (nth z2 0) 1,qbf (nth z2
  0) 2]]))) false],(none,z3)))))))))) dep x0 ([.nilS,x0,nI 0,.sl 3 [] false],(none,e))) (fun z4=>qrk (qj4 z4.2.1) (qbq (okU (slO 3 3 (qbl (nth z4.1 3)) 0 (qbz (nth
  z4.1 2)))) (some (slO 3 3 (qbl (nth z4.1 3)) 0 (qbz (nth z4.1 2)),z4.2.2))) (qrk (qni z4.2.1) (some (nth z4.1 0,z4.2.2)) none)):=by kernel_rfl
theorem run93 (B:KB) {E:Type} (h:qbg E) (dep:Nat) (e:E) (x0:Nat) (x1:PV) :
  qf8 (qfj B (fun _=>.cl)) fn93 (.cl) h dep [.yld x0,.cv x1] e =
  qba (qbb (.fieldAddr 0 (.c x1))) (fun z1=>qba (qbb (.fieldAddr 2 (.c z1))) (fun z2=>qba (qbb (.load 1 false (.c z2))) (fun z3=>qba (qbb (.len .slice (.c z3)))
  (fun z4=>qbq (qb9 [nI x0,x1,z3,z4,.int .i64 0]) (qf0 (fun z5=>qba (qbb (.bin .lss .num false (.c (nth z5.1 4)) (.c (nth z5.1 3)))) (fun z6=>qca z6 (qba
  (qbb (.idxAddr 1 (.c (nth z5.1 2)) (.c (nth z5.1 4)))) (fun z7=>qba (qbb (.load 1 false (.c z7))) (fun z8=>qba (qbb (.load 3 true (.c (nth z5.1 1)))) (fun z9=>qba
  (qbj B .cl (.fn 94 []) [z9,z8]) (fun z10=>qba (h (qbz (nth z5.1 0)) [z10] z5.2) (fun z11=>qba (qbb (.un .not (.c (.bool z11.1)))) (fun z12=>qca z12 (qba (some
  (.tup [],z11.2)) (fun z13=>some (.inr z13))) (qba (qbb (.bin .add .num true (.c (nth z5.1 4)) (.c (.int .i64 1)))) (fun z14=>some (.inl ([nI (qbz (nth z5.1 0)),nth z5.1
  1,nth z5.1 2,nth z5.1 3,z14],z11.2))))))))))) (qba (some (.tup [],z5.2)) (fun z15=>some (.inr z15))))) ([nI x0,x1,z3,z4,.int .i64 0],e)))))):=by kernel_rfl
theorem run94 (B:KB) {E:Type} (h:qbg E) (dep:Nat) (e:E) (x0:PV) (x1:PV) :
  qf8 (qfj B (fun _=>.cl)) fn94 (.cl) h dep [.cv x0,.cv x1] e =
  qbq (qjc x0) (qba (qb2 x0 1 1 false) (fun z1=>qbq (qc7 1 [x1]) (qbq (qbi z1 1) (qbq (okU (.agg [.bool false,qbf z1 0,slO 1 1 [x1] 0 (qbu [x1])])) (some (.agg
  [.bool false,qbf z1 0,slO 1 1 [x1] 0 (qbu [x1])],e)))))):=by kernel_rfl
theorem run149 (B:KB) {E:Type} (h:qbg E) (dep:Nat) (e:E) (x0:PV) :
  qf8 (qfj B (fun _=>.cl)) fn149 (.cl) h dep [.cv x0] e =
  qbq (qjc x0) (qbq (okU (.fn 179 [Qkj (qfu x0) 0])) (some (.fn 179 [Qkj (qfu x0) 0],e))):=by kernel_rfl
theorem run150 (B:KB) {E:Type} (h:qbg E) (dep:Nat) (e:E) (x0:PV) (x1:PV) :
  qf8 (qfj B (fun _=>.cl)) fn150 (.cl) h dep [.cv x0,.cv x1] e =
  qbq (qjc x0) (qba (qbb (.bin .neq .num true (.c x1) (.c (.int .i64 0)))) (fun z1=>qca z1 (qba (qbb (.build [.int .i64 0] [(0,(1,.c x1))])) (fun z2=>some (.tup
  [.agg [.bool false,.bool false,.nilS],.iface 124 z2],e))) (qba (qb2 x0 0 3 true) (fun z3=>qbq (qbi z3 3) (some (.tup [.agg [qbf z3 0,qbf z3 1,qbf z3 2],
  .nilI],e)))))):=by kernel_rfl
theorem run151 (B:KB) {E:Type} (h:qbg E) (dep:Nat) (e:E) (x0:Nat) (x1:PV) :
  qf8 (qfj B (fun _=>.cl)) fn151 (.cl) h dep [.yld x0,.cv x1] e =
  qba (qbb (.fieldAddr 0 (.c x1))) (fun z1=>qba (qbb (.fieldAddr 2 (.c z1))) (fun z2=>qba (qbb (.load 1 false (.c z2))) (fun z3=>qba (qbb (.len .slice (.c z3)))
  (fun z4=>qbq (qb9 [nI x0,x1,z4,.int .i64 0]) (qf0 (fun z5=>qba (qbb (.bin .lss .num false (.c (nth z5.1 3)) (.c (nth z5.1 2)))) (fun z6=>qca z6 (qba (qbb
  (.fieldAddr 0 (.c (nth z5.1 1)))) (fun z7=>qba (qbb (.fieldAddr 1 (.c z7))) (fun z8=>qba (qbb (.load 1 false (.c z8))) (fun z9=>qba (qbb (.fieldAddr 0 (.c (nth
  z5.1 1)))) (fun z10=>qba (qbb (.fieldAddr 2 (.c z10))) (fun z11=>qba (qbb (.load 1 false (.c z11))) (fun z12=>qba (qbb (.bin .add .num true (.c (nth z5.1 3)) (.c
  (.int .i64 1)))) (fun z13=>qba (qbb (.bin .add .num true (.c (nth z5.1 3)) (.c (.int .i64 1)))) (fun z14=>qba (qbb (.slice 1 (.c z12) none (some (.c z13)) (some (.c
  z14)))) (fun z15=>qba (qbb (.build [.bool false,.bool false,.nilS] [(0,(1,.c (.bool true))),(1,(1,.c z9)),(2,(1,.c z15))])) (fun z16=>qba (h (qbz (nth z5.1 0))
  [z16] z5.2) (fun z17=>qba (qbb (.un .not (.c (.bool z17.1)))) (fun z18=>qca z18 (qba (some (.tup [],z17.2)) (fun z19=>some (.inr z19))) (qba (qbb (.bin .add .num
  true (.c (nth z5.1 3)) (.c (.int .i64 1)))) (fun z20=>some (.inl ([nI (qbz (nth z5.1 0)),nth z5.1 1,nth z5.1 2,z20],z17.2))))))))))))))))) (qba (some (.tup [],z5.2)) (fun
  z21=>some (.inr z21))))) ([nI x0,x1,z4,.int .i64 0],e)))))):=by kernel_rfl
theorem run179 (B:KB) {E:Type} (h:qbg E) (dep:Nat) (e:E) (x0:Nat) (x1:PV) :
  qf8 (qfj B (fun _=>.cl)) fn179 (.cl) h dep [.yld x0,.cv x1] e =
  qba (qbb (.load 1 false (.c x1))) (fun z1=>qba (qbb (.len .slice (.c z1))) (fun z2=>qba (qbb (.bin .sub .num true (.c z2) (.c (.int .i64 1)))) (fun z3=>qbq
  (qb9 [nI x0,x1,z3]) (qf0 (fun z4=>qba (qbb (.bin .geq .num true (.c (nth z4.1 2)) (.c (.int .i64 0)))) (fun z5=>qca z5 (qba (qbb (.load 1 false (.c (nth z4.1
  1)))) (fun z6=>qba (qbb (.idxAddr 3 (.c z6) (.c (nth z4.1 2)))) (fun z7=>qba (qbb (.load 3 true (.c z7))) (fun z8=>qba (h (qbz (nth z4.1 0)) [nth z4.1 2,z8] z4.2)
  (fun z9=>qba (qbb (.un .not (.c (.bool z9.1)))) (fun z10=>qca z10 (qba (some (.tup [],z9.2)) (fun z11=>some (.inr z11))) (qba (qbb (.bin .sub .num true (.c (nth
  z4.1 2)) (.c (.int .i64 1)))) (fun z12=>some (.inl ([nI (qbz (nth z4.1 0)),nth z4.1 1,z12],z9.2)))))))))) (qba (some (.tup [],z4.2)) (fun z13=>some (.inr z13))))) ([nI
  x0,x1,z3],e))))):=by kernel_rfl
theorem run141 (B:KB) {E:Type} (h:qbg E) (dep:Nat) (e:E) (x0:Nat) (x1:PV) (x2:PV) :
  qf8 (qfj B (fun _=>.cl)) fn141 (.cl) h dep [.yld x0,.cv x1,.cv x2] e =
  qba (qbb (.load 1 false (.c x1))) (fun z1=>qbq (qb9 [nI x0,x2,z1,.int .i64 0]) (qf0 (fun z2=>qba (qbb (.bin .lss .num false (.c (nth z2.1 3)) (.c (nth z2.1
  2)))) (fun z3=>qca z3 (qba (qbb (.fieldAddr 0 (.c (nth z2.1 1)))) (fun z4=>qba (qbb (.load 3 true (.c z4))) (fun z5=>qba (qbj B .cl (.fn 142 []) [z5,nth z2.1
  3]) (fun z6=>qba (qbb (.fieldAddr 3 (.c (nth z2.1 1)))) (fun z7=>qba (qbb (.load 3 true (.c z7))) (fun z8=>qba (qbj B .cl (.fn 142 []) [z8,nth z2.1 3]) (fun z9
  => qba (h (qbz (nth z2.1 0)) [z6,z9] z2.2) (fun z10=>qba (qbb (.un .not (.c (.bool z10.1)))) (fun z11=>qca z11 (qba (some (.tup [],z10.2)) (fun z12=>some (.inr
  z12))) (qba (qbb (.bin .add .num true (.c (nth z2.1 3)) (.c (.int .i64 1)))) (fun z13=>some (.inl ([nI (qbz (nth z2.1 0)),nth z2.1 1,nth z2.1 2,z13],z10.2)))))))))))))
  (qba (some (.tup [],z2.2)) (fun z14=>some (.inr z14))))) ([nI x0,x2,z1,.int .i64 0],e))):=by kernel_rfl
theorem run142 (B:KB) {E:Type} (h:qbg E) (dep:Nat) (e:E) (x0:PV) (x1:PV) :
  qf8 (qfj B (fun _=>.cl)) fn142 (.cl) h dep [.cv x0,.cv x1] e =
  qbq (qjc x0) (qba (qb2 x0 0 1 false) (fun z1=>qca z1 (qba (qb2 x0 2 1 false) (fun z2=>qba (qbb (.idxAddr 1 (.c z2) (.c x1))) (fun z3=>qba (qbb (.load 1 false
  (.c z3))) (fun z4=>some (z4,e))))) (qba (qb2 x0 2 1 false) (fun z5=>qba (qbb (.idxAddr 1 (.c z5) (.c (.int .i64 0)))) (fun z6=>qba (qbb (.load 1 false (.c z6)))
  (fun z7=>some (z7,e))))))):=by kernel_rfl
theorem run102 (B:KB) {E:Type} (h:qbg E) (dep:Nat) (e:E) (x0:PV) :
  qf8 (qfj B (fun _=>.cl)) fn102 (.cl) h dep [.cv x0] e =
  qbq (qjc x0) (qba (qb2 x0 0 1 false) (fun z1=>qba (qb2 x0 1 1 false) (fun z2=>qba (qbb (.bin .sub .num false (.c z1) (.c z2))) (fun z3=>qba (qbb (.load 1
  false (.c (.ptr [.glob 1 265] 0)))) (fun z4=>qba (qb2 x0 0 1 false) (fun z5=>qba (qbb (.bin .lss .num true (.c z5) (.c (.int .i64 0)))) (fun z6=>qba (qb2 x0 1 1
  false) (fun z7=>qba (qbb (.bin .lss .num true (.c z7) (.c (.int .i64 0)))) (fun z8=>qba (qbb (.bin .eql .bool false (.c z6) (.c z8))) (fun z9=>qca z9 (qbq (qc7 1
  [.bool true]) (qba (qft B .cl false 108 [z3,z4,slO 1 1 [.bool true] 0 (qbu [.bool true])]) (fun z10=>qba (qbb (.extract 0 (.c z10))) (fun z11=>qba (qbb (.extract
  1 (.c z10))) (fun z12=>some (.tup [z11,z12],e)))))) (qba (qbb (.bin .lss .num true (.c z3) (.c (.int .i64 0)))) (fun z13=>qba (qb2 x0 0 1 false) (fun z14=>qba
  (qbb (.bin .lss .num true (.c z14) (.c (.int .i64 0)))) (fun z15=>qba (qbb (.bin .eql .bool false (.c z13) (.c z15))) (fun z16=>qbq (qc7 1 [z16]) (qba (qft B .cl
  false 108 [z3,z4,slO 1 1 [z16] 0 (qbu [z16])]) (fun z17=>qba (qbb (.extract 0 (.c z17))) (fun z18=>qba (qbb (.extract 1 (.c z17))) (fun z19=>some (.tup [z18,z19],
  e)))))))))))))))))))):=by kernel_rfl
theorem run104 (B:KB) {E:Type} (h:qbg E) (dep:Nat) (e:E) (x0:PV) :
  qf8 (qfj B (fun _=>.cl)) fn104 (.cl) h dep [.cv x0] e =
  qca x0 (some (.int .i64 1,e)) (some (.int .i64 0,e)):=by kernel_rfl
theorem run106 (B:KB) {E:Type} (h:qbg E) (dep:Nat) (e:E) (x0:PV) :
  qf8 (qfj B (fun _=>.cl)) fn106 (.cl) h dep [.cv x0] e =
  qbq (qjc x0) (qba (qb2 x0 1 1 false) (fun z1=>qba (qbb (.bin .eql .num true (.c z1) (.c (.int .i64 0)))) (fun z2=>qca z2 (qba (qbb (.load 1 false (.c (.ptr [.glob
  2 265] 0)))) (fun z3=>qba (qb2 x0 0 1 false) (fun z4=>qba (qbb (.bin .eql .num true (.c z4) (.c (.int .i64 0)))) (fun z5=>qbq (qc7 1 [z5]) (qba (qft B .cl false
  108 [.int .i64 1,z3,slO 1 1 [z5] 0 (qbu [z5])]) (fun z6=>qba (qbb (.extract 0 (.c z6))) (fun z7=>qba (qbb (.extract 1 (.c z6))) (fun z8=>some (.tup [z7,z8],
  e))))))))) (qba (qb2 x0 1 1 false) (fun z9=>qba (qbb (.bin .eql .num true (.c z9) (.c (.int .i64 (-1))))) (fun z10=>qca z10 (qba (qb2 x0 0 1 false) (fun z11=>qba
  (qbb (.un .neg (.c z11))) (fun z12=>qba (qbb (.load 1 false (.c (.ptr [.glob 1 265] 0)))) (fun z13=>qba (qb2 x0 0 1 false) (fun z14=>qba (qbb (.bin .neq .num
  true (.c z14) (.c (.int .i64 (-9223372036854775808))))) (fun z15=>qbq (qc7 1 [z15]) (qba (qft B .cl false 108 [z12,z13,slO 1 1 [z15] 0 (qbu [z15])]) (fun z16=>qba
  (qbb (.extract 0 (.c z16))) (fun z17=>qba (qbb (.extract 1 (.c z16))) (fun z18=>some (.tup [z17,z18],e))))))))))) (qba (qb2 x0 0 1 false) (fun z19=>qba (qb2 x0
  1 1 false) (fun z20=>qba (qbb (.bin .quo .num false (.c z19) (.c z20))) (fun z21=>qba (qbb (.load 1 false (.c (.ptr [.glob 2 265] 0)))) (fun z22=>qba (qb2 x0 0 1
  false) (fun z23=>qba (qb2 x0 1 1 false) (fun z24=>qba (qbb (.bin .rem .num false (.c z23) (.c z24))) (fun z25=>qba (qbb (.bin .eql .num true (.c z25) (.c (.int
  .i64 0)))) (fun z26=>qbq (qc7 1 [z26]) (qba (qft B .cl false 108 [z21,z22,slO 1 1 [z26] 0 (qbu [z26])]) (fun z27=>qba (qbb (.extract 0 (.c z27))) (fun z28 =>
  qba (qbb (.extract 1 (.c z27))) (fun z29=>some (.tup [z28,z29],e)))))))))))))))))))):=by kernel_rfl
theorem run108 (B:KB) {E:Type} (h:qbg E) (dep:Nat) (e:E) (x0:PV) (x1:PV) (x2:PV) :
  qf8 (qfj B (fun _=>.cl)) fn108 (.cl) h dep [.cv x0,.cv x1,.cv x2] e =
  qba (qbb (.len .slice (.c x2))) (fun z1=>qbq (qb9 [x0,x1,x2,z1,.int .i64 0]) (qf0 (fun z2=>qba (qbb (.bin .lss .num false (.c (nth z2.1 4)) (.c (nth z2.1
  3)))) (fun z3=>qca z3 (qba (qbb (.idxAddr 1 (.c (nth z2.1 2)) (.c (nth z2.1 4)))) (fun z4=>qba (qbb (.load 1 false (.c z4))) (fun z5=>qba (qbb (.un .not (.c
  z5))) (fun z6=>qca z6 (qba (some (.tup [.int .i64 0,nth z2.1 1],z2.2)) (fun z7=>some (.inr z7))) (qba (qbb (.bin .add .num true (.c (nth z2.1 4)) (.c (.int .i64 1))))
  (fun z8=>some (.inl ([nth z2.1 0,nth z2.1 1,nth z2.1 2,nth z2.1 3,z8],z2.2)))))))) (qba (some (.tup [nth z2.1 0,.nilI],z2.2)) (fun z9=>some (.inr z9))))) ([x0,x1,x2,
  z1,.int .i64 0],e))):=by kernel_rfl
theorem run110 (B:KB) {E:Type} (h:qbg E) (dep:Nat) (e:E) (x0:PV) :
  qf8 (qfj B (fun _=>.cl)) fn110 (.cl) h dep [.cv x0] e =
  qba (qbb (.load 1 false (.c (.ptr [.glob 1 265] 0)))) (fun z1=>qba (qbj B .cl (.fn 159 []) [x0,z1]) (fun z2=>qca z2 (some (.int .i64 100,e)) (qba (qbb (.load 1
  false (.c (.ptr [.glob 2 265] 0)))) (fun z3=>qba (qbj B .cl (.fn 159 []) [x0,z3]) (fun z4=>qca z4 (some (.int .i64 101,e)) (qbq (eqN 1 1) (asP 143 x0 (fun z5=>qbq
  (qbi z5 1) (some (.int .i64 102,e))) (some (.int .i64 0,e))))))))):=by kernel_rfl
theorem run132 (B:KB) {E:Type} (h:qbg E) (dep:Nat) (e:E) (x0:PV) :
  qf8 (qfj B (fun _=>.cl)) fn132 (.cl) h dep [.cv x0] e =
  qbq (qjc x0) (qba (qb2 x0 0 1 false) (fun z1=>qba (qb2 x0 1 1 false) (fun z2=>qba (qbb (.bin .add .num false (.c z1) (.c z2))) (fun z3=>qba (qbb (.load 1
  false (.c (.ptr [.glob 1 265] 0)))) (fun z4=>qba (qb2 x0 0 1 false) (fun z5=>qba (qbb (.bin .lss .num true (.c z5) (.c (.int .i64 0)))) (fun z6=>qba (qb2 x0 1 1
  false) (fun z7=>qba (qbb (.bin .lss .num true (.c z7) (.c (.int .i64 0)))) (fun z8=>qba (qbb (.bin .neq .bool false (.c z6) (.c z8))) (fun z9=>qca z9 (qbq (qc7 1
  [.bool true]) (qba (qft B .cl false 108 [z3,z4,slO 1 1 [.bool true] 0 (qbu [.bool true])]) (fun z10=>qba (qbb (.extract 0 (.c z10))) (fun z11=>qba (qbb (.extract
  1 (.c z10))) (fun z12=>some (.tup [z11,z12],e)))))) (qba (qbb (.bin .lss .num true (.c z3) (.c (.int .i64 0)))) (fun z13=>qba (qb2 x0 0 1 false) (fun z14=>qba
  (qbb (.bin .lss .num true (.c z14) (.c (.int .i64 0)))) (fun z15=>qba (qbb (.bin .eql .bool false (.c z13) (.c z15))) (fun z16=>qbq (qc7 1 [z16]) (qba (qft B .cl
  false 108 [z3,z4,slO 1 1 [z16] 0 (qbu [z16])]) (fun z17=>qba (qbb (.extract 0 (.c z17))) (fun z18=>qba (qbb (.extract 1 (.c z17))) (fun z19=>some (.tup [z18,z19],
  e)))))))))))))))))))):=by kernel_rfl
theorem run133 (B:KB) {E:Type} (h:qbg E) (dep:Nat) (e:E) (x0:PV) :
  qf8 (qfj B (fun _=>.cl)) fn133 (.cl) h dep [.cv x0] e =
  qbq (qjc x0) (qba (qb2 x0 0 1 false) (fun z1=>qba (qbj B .cl (.fn 171 []) [z1]) (fun z2=>qba (qb2 x0 1 1 false) (fun z3=>qba (qbj B .cl (.fn 171 []) [z3])
  (fun z4=>qba (qbj B .cl (.fn 170 []) [z2,z4]) (fun z5=>qba (qbb (.extract 0 (.c z5))) (fun z6=>qba (qbb (.extract 1 (.c z5))) (fun z7=>qba (qb2 x0 0 1
  false) (fun z8=>qba (qbb (.bin .lss .num true (.c z8) (.c (.int .i64 0)))) (fun z9=>qba (qb2 x0 1 1 false) (fun z10=>qba (qbb (.bin .lss .num true (.c z10) (.c
  (.int .i64 0)))) (fun z11=>qba (qbb (.bin .neq .bool false (.c z9) (.c z11))) (fun z12=>qba (qbb (.conv .i64 (.c z7))) (fun z13=>qca z12 (qba (qbb (.un .neg (.c
  z13))) (fun z14=>qba (qbb (.load 1 false (.c (.ptr [.glob 1 265] 0)))) (fun z15=>qba (qbb (.bin .eql .num true (.c z6) (.c (.int .u64 0)))) (fun z16=>qba (qbb
  (.bin .leq .num true (.c z7) (.c (.int .u64 9223372036854775807)))) (fun z17=>qca z17 (qbq (qc7 1 [z16,.bool true]) (qba (qft B .cl false 108 [z14,z15,slO 1 1 [z16,
  .bool true] 0 (qbu [z16,.bool true])]) (fun z18=>qba (qbb (.extract 0 (.c z18))) (fun z19=>qba (qbb (.extract 1 (.c z18))) (fun z20=>some (.tup [z19,z20],e))))))
  (qca z12 (qba (qbb (.bin .eql .num true (.c z7) (.c (.int .u64 9223372036854775808)))) (fun z21=>qbq (qc7 1 [z16,z21]) (qba (qft B .cl false 108 [z14,z15,slO 1 1
  [z16,z21] 0 (qbu [z16,z21])]) (fun z22=>qba (qbb (.extract 0 (.c z22))) (fun z23=>qba (qbb (.extract 1 (.c z22))) (fun z24=>some (.tup [z23,z24],e))))))) (qbq
  (qc7 1 [z16,.bool false]) (qba (qft B .cl false 108 [z14,z15,slO 1 1 [z16,.bool false] 0 (qbu [z16,.bool false])]) (fun z25=>qba (qbb (.extract 0 (.c z25))) (fun
  z26=>qba (qbb (.extract 1 (.c z25))) (fun z27=>some (.tup [z26,z27],e)))))))))))) (qba (qbb (.load 1 false (.c (.ptr [.glob 1 265] 0)))) (fun z28=>qba (qbb
  (.bin .eql .num true (.c z6) (.c (.int .u64 0)))) (fun z29=>qba (qbb (.bin .leq .num true (.c z7) (.c (.int .u64 9223372036854775807)))) (fun z30=>qca z30 (qbq (qc7 1
  [z29,.bool true]) (qba (qft B .cl false 108 [z13,z28,slO 1 1 [z29,.bool true] 0 (qbu [z29,.bool true])]) (fun z31=>qba (qbb (.extract 0 (.c z31))) (fun z32=>qba
  (qbb (.extract 1 (.c z31))) (fun z33=>some (.tup [z32,z33],e)))))) (qca z12 (qba (qbb (.bin .eql .num true (.c z7) (.c (.int .u64 9223372036854775808)))) (fun z34 =>
  qbq (qc7 1 [z29,z34]) (qba (qft B .cl false 108 [z13,z28,slO 1 1 [z29,z34] 0 (qbu [z29,z34])]) (fun z35=>qba (qbb (.extract 0 (.c z35))) (fun z36=>qba (qbb
  (.extract 1 (.c z35))) (fun z37=>some (.tup [z36,z37],e))))))) (qbq (qc7 1 [z29,.bool false]) (qba (qft B .cl false 108 [z13,z28,slO 1 1 [z29,.bool false] 0 (qbu
  [z29,.bool false])]) (fun z38=>qba (qbb (.extract 0 (.c z38))) (fun z39=>qba (qbb (.extract 1 (.c z38))) (fun z40=>some (.tup [z39,z40],e))))))))))))))))))))))))):=by kernel_rfl
theorem run134 (B:KB) {E:Type} (h:qbg E) (dep:Nat) (e:E) (x0:PV) :
  qf8 (qfj B (fun _=>.cl)) fn134 (.cl) h dep [.cv x0] e =
  qbq (qjc x0) (qba (qb2 x0 0 1 false) (fun z1=>qba (qbb (.bin .eql .num true (.c z1) (.c (.int .i64 0)))) (fun z2=>qca z2 (qba (qb2 x0 1 1 false) (fun z3=>some
  (.tup [z3,.nilI],e))) (qba (qb2 x0 0 1 false) (fun z4=>qba (qbb (.bin .eql .num true (.c z4) (.c (.int .i64 (-1))))) (fun z5=>qca z5 (some (.tup [.int .i64 0,.nilI],
  e)) (qba (qb2 x0 1 1 false) (fun z6=>qba (qb2 x0 0 1 false) (fun z7=>qba (qbb (.bin .rem .num false (.c z6) (.c z7))) (fun z8=>qbq (qb9 [z8,.int .i64 0])
  (qf0 (fun z9=>qba (qbb (.bin .lss .num true (.c (nth z9.1 1)) (.c (.int .i64 1)))) (fun z10=>qca z10 (qba (qba (qbb (.bin .eql .num true (.c (nth z9.1 0)) (.c
  (.int .i64 0)))) (fun z11=>qca z11 (some (.bool true)) (qba (qbb (.bin .lss .num true (.c (nth z9.1 0)) (.c (.int .i64 0)))) (fun z12=>qba (qb2 (nth z9.1 2) 0 1 false)
  (fun z13=>qba (qbb (.bin .lss .num true (.c z13) (.c (.int .i64 0)))) (fun z14=>qba (qbb (.bin .eql .bool false (.c z12) (.c z14))) (fun z15=>some z15))))))) (fun z16
  => qca z16 (qba (some (.tup [nth z9.1 0,.nilI],z9.2)) (fun z17=>some (.inr z17))) (qba (qb2 (nth z9.1 2) 0 1 false) (fun z18=>qba (qbb (.bin .add .num false (.c
  (nth z9.1 0)) (.c z18))) (fun z19=>qba (qbb (.bin .add .num true (.c (nth z9.1 1)) (.c (.int .i64 1)))) (fun z20=>some (.inl ([z19,z20,nth z9.1 2],z9.2)))))))) (qba
  (some (.tup [nth z9.1 0,.nilI],z9.2)) (fun z21=>some (.inr z21))))) ([z8,.int .i64 0,x0],e)))))))))))):=by kernel_rfl
theorem run135 (B:KB) {E:Type} (h:qbg E) (dep:Nat) (e:E) (x0:PV) :
  qf8 (qfj B (fun _=>.cl)) fn135 (.cl) h dep [.cv x0] e =
  qbq (qjc x0) (qba (qb2 x0 0 1 false) (fun z1=>qba (qb2 x0 1 1 false) (fun z2=>qba (qbb (.minmax true [.c z1,.c z2])) (fun z3=>some (.tup [z3,.nilI],e))))):=by kernel_rfl
theorem run136 (B:KB) {E:Type} (h:qbg E) (dep:Nat) (e:E) (x0:PV) :
  qf8 (qfj B (fun _=>.cl)) fn136 (.cl) h dep [.cv x0] e =
  qbq (qjc x0) (qba (qb2 x0 0 1 false) (fun z1=>qba (qb2 x0 1 1 false) (fun z2=>qba (qbb (.minmax false [.c z1,.c z2])) (fun z3=>some (.tup [z3,.nilI],e))))):=by kernel_rfl
theorem run137 (B:KB) {E:Type} (h:qbg E) (dep:Nat) (e:E) (x0:PV) (x1:PV) :
  qf8 (qfj B (fun _=>.cl)) fn137 (.cl) h dep [.cv x0,.cv x1] e =
  qbq (qjc x0) (qba (qb2 x0 0 2 true) (fun z1=>qba (qbb (.load 1 false (.c x1))) (fun z2=>qba (qbj B .cl (.fn 138 []) [z1,z2]) (fun z3=>qba (qbb (.extract 0
  (.c z3))) (fun z4=>qba (qbb (.extract 1 (.c z3))) (fun z5=>some (.tup [z4,z5],e))))))):=by kernel_rfl
theorem Qbb (B:KB) {E:Type} (h:qbg E) (dep:Nat) (e:E) (x0:PV) (x1:PV) :
  qf8 (qfj B (fun _=>.cl)) fn138 (.cl) h dep [.cv x0,.cv x1] e =
  qbq (qjc x0) (qba (qbb (.bin .eql .str true (.c x1) (.c (.str [226,137,160])))) (fun z1=>qca z1 (qba (qb2 x0 0 1 false) (fun z2=>qba (qb2 x0 1 1 false) (fun z3
  => qba (qbb (.bin .neq .num false (.c z2) (.c z3))) (fun z4=>qba (qbj B .cl (.fn 104 []) [z4]) (fun z5=>some (.tup [z5,.nilI],e)))))) (qba (qbb (.bin .eql .str
  true (.c x1) (.c (.str [226,137,164])))) (fun z6=>qca z6 (qba (qb2 x0 0 1 false) (fun z7=>qba (qb2 x0 1 1 false) (fun z8=>qba (qbb (.bin .eql .num false (.c z7)
  (.c z8))) (fun z9=>qba (qbj B .cl (.fn 104 []) [z9]) (fun z10=>qba (qb2 x0 0 1 false) (fun z11=>qba (qb2 x0 1 1 false) (fun z12=>qba (qbb (.bin .lss .num
  false (.c z11) (.c z12))) (fun z13=>qba (qbj B .cl (.fn 104 []) [z13]) (fun z14=>qba (qbb (.bin .or .num false (.c z10) (.c z14))) (fun z15=>some (.tup [z15,.nilI],
  e))))))))))) (qba (qbb (.bin .eql .str true (.c x1) (.c (.str [60])))) (fun z16=>qca z16 (qba (qb2 x0 0 1 false) (fun z17=>qba (qb2 x0 1 1 false) (fun z18=>qba
  (qbb (.bin .lss .num false (.c z17) (.c z18))) (fun z19=>qba (qbj B .cl (.fn 104 []) [z19]) (fun z20=>qba (qbb (.bin .or .num false (.c (.int .i64 0)) (.c z20))) (fun
  z21=>some (.tup [z21,.nilI],e))))))) (qba (qbb (.bin .eql .str true (.c x1) (.c (.str [61])))) (fun z22=>qca z22 (qca z22 (qba (qb2 x0 0 1 false) (fun z23=>qba
  (qb2 x0 1 1 false) (fun z24=>qba (qbb (.bin .eql .num false (.c z23) (.c z24))) (fun z25=>qba (qbj B .cl (.fn 104 []) [z25]) (fun z26=>qba (qbb (.bin .eql .str
  true (.c x1) (.c (.str [61])))) (fun z27=>qca z27 (some (.tup [z26,.nilI],e)) (qba (qb2 x0 0 1 false) (fun z28=>qba (qb2 x0 1 1 false) (fun z29=>qba (qbb (.bin
  .gtr .num false (.c z28) (.c z29))) (fun z30=>qba (qbj B .cl (.fn 104 []) [z30]) (fun z31=>qba (qbb (.bin .or .num false (.c z26) (.c z31))) (fun z32=>some (.tup
  [z32,.nilI],e))))))))))))) (qba (qbb (.bin .eql .str true (.c x1) (.c (.str [62])))) (fun z33=>qca z33 (qba (qb2 x0 0 1 false) (fun z34=>qba (qb2 x0 1 1 false)
  (fun z35=>qba (qbb (.bin .gtr .num false (.c z34) (.c z35))) (fun z36=>qba (qbj B .cl (.fn 104 []) [z36]) (fun z37=>qba (qbb (.bin .or .num false (.c (.int .i64
  0)) (.c z37))) (fun z38=>some (.tup [z38,.nilI],e))))))) (some (.tup [.int .i64 0,.nilI],e))))) (qba (qbb (.bin .eql .str true (.c x1) (.c (.str [226,137,165])))) (fun
  z39=>qca z39 (qba (qb2 x0 0 1 false) (fun z40=>qba (qb2 x0 1 1 false) (fun z41=>qba (qbb (.bin .eql .num false (.c z40) (.c z41))) (fun z42=>qba (qbj B .cl
  (.fn 104 []) [z42]) (fun z43=>qba (qbb (.bin .eql .str true (.c x1) (.c (.str [61])))) (fun z44=>qca z44 (some (.tup [z43,.nilI],e)) (qba (qb2 x0 0 1 false) (fun z45
  => qba (qb2 x0 1 1 false) (fun z46=>qba (qbb (.bin .gtr .num false (.c z45) (.c z46))) (fun z47=>qba (qbj B .cl (.fn 104 []) [z47]) (fun z48=>qba (qbb (.bin
  .or .num false (.c z43) (.c z48))) (fun z49=>some (.tup [z49,.nilI],e))))))))))))) (qba (qbb (.bin .eql .str true (.c x1) (.c (.str [62])))) (fun z50=>qca z50 (qba
  (qb2 x0 0 1 false) (fun z51=>qba (qb2 x0 1 1 false) (fun z52=>qba (qbb (.bin .gtr .num false (.c z51) (.c z52))) (fun z53=>qba (qbj B .cl (.fn 104 []) [z53]) (fun
  z54=>qba (qbb (.bin .or .num false (.c (.int .i64 0)) (.c z54))) (fun z55=>some (.tup [z55,.nilI],e))))))) (some (.tup [.int .i64 0,.nilI],e)))))))))))))):=by kernel_rfl
theorem run139 (B:KB) {E:Type} (h:qbg E) (dep:Nat) (e:E) (x0:PV) (x1:PV) :
  qf8 (qfj B (fun _=>.cl)) fn139 (.cl) h dep [.cv x0,.cv x1] e =
  qbq (qjc x0) (qba (qb2 x0 0 2 true) (fun z1=>qba (qbb (.load 1 false (.c x1))) (fun z2=>qba (qbj B .cl (.fn 140 []) [z1,z2]) (fun z3=>qba (qbb (.extract 0
  (.c z3))) (fun z4=>qba (qbb (.extract 1 (.c z3))) (fun z5=>some (.tup [z4,z5],e))))))):=by kernel_rfl
theorem run140 (B:KB) {E:Type} (h:qbg E) (dep:Nat) (e:E) (x0:PV) (x1:PV) :
  qf8 (qfj B (fun _=>.cl)) fn140 (.cl) h dep [.cv x0,.cv x1] e =
  qbq (qjc x0) (qba (qb2 x0 0 1 false) (fun z1=>qba (qb2 x0 1 1 false) (fun z2=>qba (qbb (.bin .and .num false (.c z1) (.c z2))) (fun z3=>qba (qbb (.bin .eql
  .str true (.c x1) (.c (.str [226,136,168])))) (fun z4=>qca z4 (qba (qb2 x0 0 1 false) (fun z5=>qba (qb2 x0 1 1 false) (fun z6=>qba (qbb (.bin .or .num false (.c
  z5) (.c z6))) (fun z7=>qba (qbb (.build [.str []] [(0,(1,.c x1))])) (fun z8=>qba (qb2 x0 0 1 false) (fun z9=>qba (qbb (.bin .shr .num true (.c z9) (.c (.int .u64
  1)))) (fun z10=>qba (qbb (.bin .eql .num true (.c z10) (.c (.int .i64 0)))) (fun z11=>qba (qb2 x0 1 1 false) (fun z12=>qba (qbb (.bin .shr .num true (.c z12) (.c
  (.int .u64 1)))) (fun z13=>qba (qbb (.bin .eql .num true (.c z13) (.c (.int .i64 0)))) (fun z14=>qbq (qc7 1 [z11,z14]) (qba (qft B .cl false 108 [z7,.iface 143 z8,
  slO 1 1 [z11,z14] 0 (qbu [z11,z14])]) (fun z15=>qba (qbb (.extract 0 (.c z15))) (fun z16=>qba (qbb (.extract 1 (.c z15))) (fun z17=>some (.tup [z16,z17],
  e)))))))))))))))) (qba (qbb (.build [.str []] [(0,(1,.c x1))])) (fun z18=>qba (qb2 x0 0 1 false) (fun z19=>qba (qbb (.bin .shr .num true (.c z19) (.c (.int .u64
  1)))) (fun z20=>qba (qbb (.bin .eql .num true (.c z20) (.c (.int .i64 0)))) (fun z21=>qba (qb2 x0 1 1 false) (fun z22=>qba (qbb (.bin .shr .num true (.c z22) (.c
  (.int .u64 1)))) (fun z23=>qba (qbb (.bin .eql .num true (.c z23) (.c (.int .i64 0)))) (fun z24=>qbq (qc7 1 [z21,z24]) (qba (qft B .cl false 108 [z3,.iface 143
  z18,slO 1 1 [z21,z24] 0 (qbu [z21,z24])]) (fun z25=>qba (qbb (.extract 0 (.c z25))) (fun z26=>qba (qbb (.extract 1 (.c z25))) (fun z27=>some (.tup [z26,z27],
  e)))))))))))))))))):=by kernel_rfl
theorem run170 (B:KB) {E:Type} (h:qbg E) (dep:Nat) (e:E) (x0:PV) (x1:PV) :
  qf8 (qfj B (fun _=>.cl)) fn170 (.cl) h dep [.cv x0,.cv x1] e =
  qba (qbb (.bin .and .num true (.c x0) (.c (.int .u64 4294967295)))) (fun z1=>qba (qbb (.bin .shr .num true (.c x0) (.c (.int .u64 32)))) (fun z2=>qba (qbb (.bin
  .and .num true (.c x1) (.c (.int .u64 4294967295)))) (fun z3=>qba (qbb (.bin .shr .num true (.c x1) (.c (.int .u64 32)))) (fun z4=>qba (qbb (.bin .mul .num false (.c
  z1) (.c z3))) (fun z5=>qba (qbb (.bin .mul .num false (.c z2) (.c z3))) (fun z6=>qba (qbb (.bin .shr .num true (.c z5) (.c (.int .u64 32)))) (fun z7=>qba (qbb
  (.bin .add .num false (.c z6) (.c z7))) (fun z8=>qba (qbb (.bin .and .num true (.c z8) (.c (.int .u64 4294967295)))) (fun z9=>qba (qbb (.bin .shr .num true (.c z8) (.c
  (.int .u64 32)))) (fun z10=>qba (qbb (.bin .mul .num false (.c z1) (.c z4))) (fun z11=>qba (qbb (.bin .add .num false (.c z9) (.c z11))) (fun z12=>qba (qbb (.bin
  .mul .num false (.c z2) (.c z4))) (fun z13=>qba (qbb (.bin .add .num false (.c z13) (.c z10))) (fun z14=>qba (qbb (.bin .shr .num true (.c z12) (.c (.int .u64 32))))
  (fun z15=>qba (qbb (.bin .add .num false (.c z14) (.c z15))) (fun z16=>qba (qbb (.bin .mul .num false (.c x0) (.c x1))) (fun z17=>some (.tup [z16,z17],
  e)))))))))))))))))):=by kernel_rfl
theorem run171 (B:KB) {E:Type} (h:qbg E) (dep:Nat) (e:E) (x0:PV) :
  qf8 (qfj B (fun _=>.cl)) fn171 (.cl) h dep [.cv x0] e =
  qba (qbb (.bin .lss .num true (.c x0) (.c (.int .i64 0)))) (fun z1=>qca z1 (qba (qbb (.conv .u64 (.c x0))) (fun z2=>qba (qbb (.un .neg (.c z2))) (fun z3=>some
  (z3,e)))) (qba (qbb (.conv .u64 (.c x0))) (fun z4=>some (z4,e)))):=by kernel_rfl
end Go.Ab


set_option maxRecDepth 100000
namespace Go.Ab
open Go
theorem run5 (B:KB) {E:Type} (h:qbg E) (dep:Nat) (e:E) (x0:PV) (x1:PV) :
  qf8 (qfj B (fun _=>.cl)) fn5 (.cl) h dep [.cv x0,.cv x1] e =
  qbq (qjc x0) (qbq (qjc x1) (qba (qbj B .cl (.fn 11 []) []) (fun z1=>qbq (qb9 [z1,nI 0,nI 0,.int .i64 0]) (qf0 (fun z2=>qba (qba (qb2 (nth z2.1 4) 2 1
  false) (fun z3=>qba (qbb (.len .slice (.c z3))) (fun z4=>qba (qbb (.bin .lss .num false (.c (nth z2.1 3)) (.c z4))) (fun z5=>qca z5 (qba (qbb (.bin .lss .num
  true (.c (nth z2.1 3)) (.c (.int .i64 40)))) (fun z6=>some z6)) (some (.bool false)))))) (fun z7=>qca z7 (qba (qb2 (nth z2.1 4) 2 1 false) (fun z8=>qba (qbb (.idxAddr
  1 (.c z8) (.c (nth z2.1 3)))) (fun z9=>qba (qbb (.load 1 false (.c z9))) (fun z10=>qba (qbb (.bin .rem .num true (.c z10) (.c (.int .i64 1000)))) (fun z11=>qbq
  (qc7 1 [z11]) (qbq (leN (qdu 0 (qbu [z11])) (qbu [z11])) (qbq (qnj (leN (qbz (nth z2.1 1)) (qbu (qbl (nth z2.1 6)))) (leN (qdu (qbz (nth z2.1 1)) (qbu (qb1 (qbu
  [z11]) (qcx 0 [z11])))) 2147483648)) (qba (qbb (.bin .add .num true (.c (nth z2.1 3)) (.c (.int .i64 1)))) (fun z12=>some (.inl ([nth z2.1 0,nI (qdu (qbz (nth z2.1 1))
  (qbu (qb1 (qbu [z11]) (qcx 0 [z11])))),nI (qbz (nth z2.1 2)),z12,nth z2.1 4,nth z2.1 5,.sl 1 (qpk (qb1 (qbz (nth z2.1 1)) (qbl (nth z2.1 6))) (qb1 (qbu [z11])
  (qcx 0 [z11]))) false,.sl 1 (qbl (nth z2.1 7)) false],z2.2))))))))))) (qba (qbq (qb9 [nth z2.1 0,nI (qbz (nth z2.1 1)),nI (qbz (nth z2.1 2)),.int .i64 0]) (qf0
  (fun z13=>qba (qba (qb2 (nth z13.1 4) 2 1 false) (fun z14=>qba (qbb (.len .slice (.c z14))) (fun z15=>qba (qbb (.bin .lss .num false (.c (nth z13.1 3)) (.c
  z15))) (fun z16=>qca z16 (qba (qbb (.bin .lss .num true (.c (nth z13.1 3)) (.c (.int .i64 40)))) (fun z17=>some z17)) (some (.bool false)))))) (fun z18=>qca z18 (qba
  (qb2 (nth z13.1 4) 2 1 false) (fun z19=>qba (qbb (.idxAddr 1 (.c z19) (.c (nth z13.1 3)))) (fun z20=>qba (qbb (.load 1 false (.c z20))) (fun z21=>qba (qbb (.bin
  .rem .num true (.c z21) (.c (.int .i64 1000)))) (fun z22=>qbq (qc7 1 [z22]) (qbq (leN (qdu 0 (qbu [z22])) (qbu [z22])) (qbq (qnj (leN (qbz (nth z13.1 2)) (qbu (qbl
  (nth z13.1 6)))) (leN (qdu (qbz (nth z13.1 2)) (qbu (qb1 (qbu [z22]) (qcx 0 [z22])))) 2147483648)) (qba (qbb (.bin .add .num true (.c (nth z13.1 3)) (.c (.int .i64
  1)))) (fun z23=>some (.inl ([nth z13.1 0,nI (qbz (nth z13.1 1)),nI (qdu (qbz (nth z13.1 2)) (qbu (qb1 (qbu [z22]) (qcx 0 [z22])))),z23,nth z13.1 4,.sl 1 (qbl
  (nth z13.1 5)) false,.sl 1 (qpk (qb1 (qbz (nth z13.1 2)) (qbl (nth z13.1 6))) (qb1 (qbu [z22]) (qcx 0 [z22]))) false],z13.2))))))))))) (qba (qba (qft B .cl
  false 25 [slO 1 1 (qbl (nth z13.1 5)) 0 (qbz (nth z13.1 1))]) (fun z24=>qba (qft B .cl false 25 [slO 1 1 (qbl (nth z13.1 6)) 0 (qbz (nth z13.1 2))]) (fun z25=>qba
  (qbj B .cl (.fn 16 []) [.str [44],z24,z25]) (fun z26=>qba (qbb (.extract 0 (.c z26))) (fun z27=>qba (qbb (.extract 1 (.c z26))) (fun z28=>qbq (qbi z27 3)
  (qba (qbj B .cl (.fn 19 []) [.str [43],.agg [qbf z27 0,qbf z27 1,qbf z27 2]]) (fun z29=>qba (qbb (.extract 0 (.c z29))) (fun z30=>qba (qbb (.extract 1 (.c
  z29))) (fun z31=>qbq (qbi z30 3) (qba (qbj B .cl (.fn 25 []) [slO 1 1 (qbl (nth z13.1 5)) 0 (qbz (nth z13.1 1))]) (fun z32=>qba (qbj B .cl (.fn 19 []) [.str
  [43],z32]) (fun z33=>qba (qbb (.extract 0 (.c z33))) (fun z34=>qba (qbb (.extract 1 (.c z33))) (fun z35=>qbq (qbi z34 3) (qba (qbj B .cl (.fn 25 []) [slO 1
  1 (qbl (nth z13.1 6)) 0 (qbz (nth z13.1 2))]) (fun z36=>qba (qbj B .cl (.fn 19 []) [.str [43],z36]) (fun z37=>qba (qbb (.extract 0 (.c z37))) (fun z38=>qba
  (qbb (.extract 1 (.c z37))) (fun z39=>qbq (qbi z38 3) (qba (qbj B .cl (.fn 16 []) [.str [43],.agg [qbf z34 0,qbf z34 1,qbf z34 2],.agg [qbf z38 0,qbf
  z38 1,qbf z38 2]]) (fun z40=>qba (qbb (.extract 0 (.c z40))) (fun z41=>qba (qbb (.extract 1 (.c z40))) (fun z42=>qbq (qbi z41 3) (qba (qbj B .cl (.fn 21
  []) [.str [43],.agg [qbf z27 0,qbf z27 1,qbf z27 2]]) (fun z43=>qba (qbb (.extract 0 (.c z43))) (fun z44=>qba (qbb (.extract 1 (.c z43))) (fun z45=>qbq
  (qbi z44 3) (qba (qba (qbb (.bin .neq .num true (.c z28) (.c (.int .i64 0)))) (fun z46=>qca z46 (some (.bool true)) (qba (qbb (.bin .neq .num true (.c z31) (.c
  (.int .i64 0)))) (fun z47=>qca z47 (some (.bool true)) (qba (qbb (.bin .neq .num true (.c z35) (.c (.int .i64 0)))) (fun z48=>qca z48 (some (.bool true)) (qba (qbb
  (.bin .neq .num true (.c z39) (.c (.int .i64 0)))) (fun z49=>qca z49 (some (.bool true)) (qba (qbb (.bin .neq .num true (.c z42) (.c (.int .i64 0)))) (fun z50=>qca z50
  (some (.bool true)) (qba (qbb (.bin .neq .num true (.c z45) (.c (.int .i64 0)))) (fun z51=>some z51)))))))))))) (fun z52=>qca z52 (some (.bool false,z13.2)) (qba (qbb
  (.len .slice (.c (qbf z44 2)))) (fun z53=>qba (qbb (.len .slice (.c (slO 1 1 (qbl (nth z13.1 5)) 0 (qbz (nth z13.1 1)))))) (fun z54=>qba (qbb (.len .slice (.c
  (slO 1 1 (qbl (nth z13.1 6)) 0 (qbz (nth z13.1 2)))))) (fun z55=>qba (qbb (.bin .add .num false (.c z54) (.c z55))) (fun z56=>qba (qbb (.bin .eql .num false (.c
  z53) (.c z56))) (fun z57=>qca z57 (qba (qbb (.len .slice (.c (qbf z44 2)))) (fun z58=>qba (qbb (.bin .eql .num true (.c z58) (.c (.int .i64 0)))) (fun z59=>qca
  z59 (qca (nth z13.1 0) (qba (qbj B .cl (.fn 26 []) [.agg [qbf z30 0,qbf z30 1,qbf z30 2],.agg [qbf z41 0,qbf z41 1,qbf z41 2]]) (fun z60=>qca z60 (some
  (.bool true,z13.2)) (some (.bool false,z13.2)))) (some (.bool false,z13.2))) (qba (qbb (.len .slice (.c (qbf z30 2)))) (fun z61=>qba (qbb (.bin .eql .num true (.c
  z61) (.c (.int .i64 1)))) (fun z62=>qca z62 (qba (qbb (.len .slice (.c (qbf z44 2)))) (fun z63=>qba (qbb (.bin .sub .num true (.c z63) (.c (.int .i64 1)))) (fun z64
  => qba (qbb (.idxAddr 1 (.c (qbf z44 2)) (.c z64))) (fun z65=>qba (qbb (.load 1 false (.c z65))) (fun z66=>qba (qbb (.idxAddr 1 (.c (qbf z30 2)) (.c (.int .i64
  0)))) (fun z67=>qba (qbb (.load 1 false (.c z67))) (fun z68=>qba (qbb (.bin .eql .num false (.c z66) (.c z68))) (fun z69=>qca (nth z13.1 0) (qba (qbj B .cl (.fn
  26 []) [.agg [qbf z30 0,qbf z30 1,qbf z30 2],.agg [qbf z41 0,qbf z41 1,qbf z41 2]]) (fun z70=>qca z70 (some (z69,z13.2)) (some (.bool false,z13.2)))) (some
  (.bool false,z13.2)))))))))) (qca (nth z13.1 0) (qba (qbj B .cl (.fn 26 []) [.agg [qbf z30 0,qbf z30 1,qbf z30 2],.agg [qbf z41 0,qbf z41 1,qbf z41 2]]) (fun
  z71=>qca z71 (some (.bool false,z13.2)) (some (.bool false,z13.2)))) (some (.bool false,z13.2))))))))) (qca (nth z13.1 0) (qba (qbj B .cl (.fn 26 []) [.agg [qbf z30 0,
  qbf z30 1,qbf z30 2],.agg [qbf z41 0,qbf z41 1,qbf z41 2]]) (fun z72=>qca z72 (some (.bool false,z13.2)) (some (.bool false,z13.2)))) (some (.bool false,
  z13.2))))))))))))))))))))))))))))))))))))))) (fun z73=>some (.inr z73))))) ([nth z2.1 0,nI (qbz (nth z2.1 1)),nI (qbz (nth z2.1 2)),.int .i64 0,nth z2.1 5,.sl 1 (qbl
  (nth z2.1 6)) false,.sl 1 (qbl (nth z2.1 7)) false],z2.2))) (fun z74=>some (.inr z74))))) ([z1,nI 0,nI 0,.int .i64 0,x0,x1,.sl 1 [] false,.sl 1 [] false],e))))):=by kernel_rfl
theorem run43 (B:KB) {E:Type} (h:qbg E) (dep:Nat) (e:E) (x0:PV) (x1:PV) (x2:PV) :
  qf8 (qfj B (fun _=>.cl)) fn43 (.cl) h dep [.cv x0,.cv x1,.cv x2] e =
  qbq (qjc x1) (qbq (qjc x2) (qba (qbj B .cl (.fn 66 []) []) (fun z1=>qba (qbb (.lookup .str (.agg [.nilF,.nilF]) false (.c z1) (.c x0))) (fun z2=>qbq (qbi z2
  2) (qba (qb2 x1 0 3 true) (fun z3=>qba (qb2 x2 0 3 true) (fun z4=>qbq (qc7 3 [z3,z4]) (qba (qft B .cl true 67 [slO 3 3 [z3,z4] 0 (qbu [z3,z4])]) (fun z5 =>
  qba (qbb (.un .not (.c z5))) (fun z6=>qca z6 (some (.tup [.agg [.bool false,.bool false,.nilS],.int .i64 114],e)) (qba (qbb (.bin .eql .func true (.c (qbf z2 1))
  (.c .nilF))) (fun z7=>qca z7 (some (.tup [.agg [.bool false,.bool false,.nilS],.int .i64 102],e)) (qba (qb2 x2 0 3 true) (fun z8=>qba (qb2 x1 0 3 true) (fun z9 =>
  qba (qbb (.build [.bool false,.bool false,.nilS,.bool false,.bool false,.nilS] [(0,(3,.c z8)),(3,(3,.c z9))])) (fun z10=>qba (qbj B .cl (qbf z2 1) [z10]) (fun
  z11=>qba (qbb (.extract 0 (.c z11))) (fun z12=>qba (qbb (.extract 1 (.c z11))) (fun z13=>qbq (qbi z12 3) (qba (qbj B .cl (.fn 68 []) [z13]) (fun z14=>some
  (.tup [.agg [qbf z12 0,qbf z12 1,qbf z12 2],z14],e)))))))))))))))))))))):=by kernel_rfl
theorem run67 (B:KB) {E:Type} (h:qbg E) (dep:Nat) (e:E) (x0:PV) :
  qf8 (qfj B (fun _=>.cl)) fn67 (.cl) h dep [.cv x0] e =
  qba (qbj B .cl (.fn 127 []) [x0,.fn 128 []]) (fun z1=>qba (qbb (.un .not (.c z1))) (fun z2=>some (z2,e))):=by kernel_rfl
theorem run68 (B:KB) {E:Type} (h:qbg E) (dep:Nat) (e:E) (x0:PV) :
  qf8 (qfj B (fun _=>.cl)) fn68 (.cl) h dep [.cv x0] e =
  qbq (eqN 1 1) (asP 153 x0 (fun z1=>qbq (qbi z1 1) (qba (qb2 z1 0 1 false) (fun z2=>some (z2,e)))) (some (.int .i64 0,e))):=by kernel_rfl
theorem run118 (B:KB) {E:Type} (h:qbg E) (dep:Nat) (e:E) (x0:PV) :
  qf8 (qfj B (fun _=>.cl)) fn118 (.cl) h dep [.cv x0] e =
  qbq (qjc x0) (qba (qba (qb2 x0 5 1 false) (fun z1=>qba (qbb (.len .slice (.c z1))) (fun z2=>qba (qbb (.bin .gtr .num true (.c z2) (.c (.int .i64 0)))) (fun z3 =>
  qca z3 (qba (qb2 x0 2 1 false) (fun z4=>qba (qbb (.len .slice (.c z4))) (fun z5=>qba (qbb (.bin .gtr .num true (.c z5) (.c (.int .i64 0)))) (fun z6=>qca z6
  (qba (qb2 x0 4 1 false) (fun z7=>qba (qb2 x0 1 1 false) (fun z8=>qba (qbb (.bin .neq .bool false (.c z7) (.c z8))) (fun z9=>some z9)))) (some (.bool false))))))
  (some (.bool false)))))) (fun z10=>qca z10 (qba (qbb (.build [.int .i64 0] [(0,(1,.c (.int .i64 102)))])) (fun z11=>some (.tup [.agg [.bool false,.bool false,.nilS],
  .iface 153 z11],e))) (qba (qb2 x0 5 1 false) (fun z12=>qba (qbb (.len .slice (.c z12))) (fun z13=>qba (qb2 x0 2 1 false) (fun z14=>qba (qbb (.len .slice (.c
  z14))) (fun z15=>qba (qbb (.bin .add .num false (.c z13) (.c z15))) (fun z16=>qba (qbb (.bin .gtr .num true (.c z16) (.c (.int .i64 200)))) (fun z17=>qca z17 (qba
  (qbb (.build [.int .i64 0] [(0,(1,.c (.int .i64 113)))])) (fun z18=>some (.tup [.agg [.bool false,.bool false,.nilS],.iface 153 z18],e))) (qba (qb2 x0 3 3 true) (fun
  z19=>qba (qbj B .cl (.fn 164 []) [z19]) (fun z20=>qca z20 (qba (qb2 x0 5 1 false) (fun z21=>qba (qb2 x0 2 1 false) (fun z22=>qbq (qc7 1 [z21,z22]) (qba
  (qft B (.own 1) true 165 [slO 1 1 [z21,z22] 0 (qbu [z21,z22])]) (fun z23=>qbq (okU (.tup [.agg [.bool true,.bool true,slO 1 1 (qbl z23) 0 (qbu (qbl z23))],
  .nilI])) (some (.tup [.agg [.bool true,.bool true,slO 1 1 (qbl z23) 0 (qbu (qbl z23))],.nilI],e))))))) (qba (qb2 x0 0 3 true) (fun z24=>qba (qbj B .cl (.fn 164
  []) [z24]) (fun z25=>qca z25 (qba (qb2 x0 5 1 false) (fun z26=>qba (qb2 x0 2 1 false) (fun z27=>qbq (qc7 1 [z26,z27]) (qba (qft B (.own 1) true 165 [slO 1 1
  [z26,z27] 0 (qbu [z26,z27])]) (fun z28=>qbq (okU (.tup [.agg [.bool true,.bool true,slO 1 1 (qbl z28) 0 (qbu (qbl z28))],.nilI])) (some (.tup [.agg [.bool true,
  .bool true,slO 1 1 (qbl z28) 0 (qbu (qbl z28))],.nilI],e))))))) (qba (qb2 x0 4 1 false) (fun z29=>qca z29 (qba (qb2 x0 1 1 false) (fun z30=>qba (qb2 x0 5 1
  false) (fun z31=>qba (qb2 x0 2 1 false) (fun z32=>qbq (qc7 1 [z31,z32]) (qba (qft B (.own 1) true 165 [slO 1 1 [z31,z32] 0 (qbu [z31,z32])]) (fun z33=>qbq
  (qbi z30 1) (qbq (okU (.tup [.agg [.bool true,qbf z30 0,slO 1 1 (qbl z33) 0 (qbu (qbl z33))],.nilI])) (some (.tup [.agg [.bool true,qbf z30 0,slO 1 1 (qbl
  z33) 0 (qbu (qbl z33))],.nilI],e))))))))) (qba (qb2 x0 5 1 false) (fun z34=>qba (qb2 x0 2 1 false) (fun z35=>qbq (qc7 1 [z34,z35]) (qba (qft B (.own 1) true
  165 [slO 1 1 [z34,z35] 0 (qbu [z34,z35])]) (fun z36=>qbq (okU (.tup [.agg [.bool true,.bool false,slO 1 1 (qbl z36) 0 (qbu (qbl z36))],.nilI])) (some (.tup [.agg
  [.bool true,.bool false,slO 1 1 (qbl z36) 0 (qbu (qbl z36))],.nilI],e)))))))))))))))))))))))):=by kernel_rfl
theorem run127 (B:KB) {E:Type} (h:qbg E) (dep:Nat) (e:E) (x0:PV) (x1:PV) :
  qf8 (qfj B (fun _=>.cl)) fn127 (.cl) h dep [.cv x0,.cv x1] e =
  qba (qbj B .cl (.fn 168 []) [x0,x1]) (fun z1=>qba (qbb (.bin .geq .num true (.c z1) (.c (.int .i64 0)))) (fun z2=>some (z2,e))):=by kernel_rfl
theorem run128 (B:KB) {E:Type} (h:qbg E) (dep:Nat) (e:E) (x0:PV) :
  qf8 (qfj B (fun _=>.cl)) fn128 (.cl) h dep [.cv x0] e =
  qbq (qjc x0) (qba (qb2 x0 0 3 true) (fun z1=>qba (qbj B .cl (.fn 27 []) [z1]) (fun z2=>qba (qbb (.un .not (.c z2))) (fun z3=>some (z3,e))))):=by kernel_rfl
theorem run164 (B:KB) {E:Type} (h:qbg E) (dep:Nat) (e:E) (x0:PV) :
  qf8 (qfj B (fun _=>.cl)) fn164 (.cl) h dep [.cv x0] e =
  qbq (qjc x0) (qba (qba (qb2 x0 1 1 false) (fun z1=>qca z1 (qba (qb2 x0 2 1 false) (fun z2=>qba (qbb (.len .slice (.c z2))) (fun z3=>qba (qbb (.bin .gtr
  .num true (.c z3) (.c (.int .i64 0)))) (fun z4=>some z4)))) (some (.bool false)))) (fun z5=>some (z5,e))):=by kernel_rfl
theorem run165 (B:KB) {E:Type} (h:qbg E) (dep:Nat) (e:E) (x0:PV) :
  qf8 (qfj B (fun _=>.cl)) fn165 (.own 1) h dep [.cv x0] e =
  qba (qbb (.len .slice (.c x0))) (fun z1=>qbq (qb9 [x0,.int .i64 0,x0,z1,.int .i64 0]) (qf0 (fun z2=>qba (qbb (.bin .lss .num false (.c (nth z2.1 4)) (.c (nth
  z2.1 3)))) (fun z3=>qca z3 (qba (qbb (.idxAddr 1 (.c (nth z2.1 2)) (.c (nth z2.1 4)))) (fun z4=>qba (qbb (.load 1 false (.c z4))) (fun z5=>qba (qbb (.len .slice
  (.c z5))) (fun z6=>qba (qbb (.bin .add .num false (.c (nth z2.1 1)) (.c z6))) (fun z7=>qba (qbb (.bin .lss .num true (.c z7) (.c (.int .i64 0)))) (fun z8=>qca z8
  none (qba (qbb (.bin .add .num true (.c (nth z2.1 4)) (.c (.int .i64 1)))) (fun z9=>some (.inl ([nth z2.1 0,z7,nth z2.1 2,nth z2.1 3,z9],z2.2)))))))))) (qba (qba
  (qbj B (.own 1) (.fn 190 []) [.nilS,nth z2.1 1]) (fun z10=>qba (qbb (.len .slice (.c (nth z2.1 0)))) (fun z11=>qbq (qb9 [nI (qbu (qbl z10)),nth z2.1 0,z11,
  .int .i64 0]) (qf0 (fun z12=>qba (qbb (.bin .lss .num false (.c (nth z12.1 3)) (.c (nth z12.1 2)))) (fun z13=>qca z13 (qba (qbb (.idxAddr 1 (.c (nth z12.1 1)) (.c
  (nth z12.1 3)))) (fun z14=>qba (qbb (.load 1 false (.c z14))) (fun z15=>qba (qsp 1 z15) (fun z16=>qbq (qnj (leN (qbz (nth z12.1 0)) (qbu (qbl (nth z12.1 4))))
  (leN (qdu (qbz (nth z12.1 0)) (qbu z16)) 2147483648)) (qba (qbb (.bin .add .num true (.c (nth z12.1 3)) (.c (.int .i64 1)))) (fun z17=>some (.inl ([nI (qdu (qbz (nth
  z12.1 0)) (qbu z16)),nth z12.1 1,nth z12.1 2,z17,.sl 1 (qpk (qb1 (qbz (nth z12.1 0)) (qbl (nth z12.1 4))) z16) false],z12.2)))))))) (qba (qbq (eqN (qbz (nth z12.1
  0)) (qbu (qbl (nth z12.1 4)))) (some (.sl 1 (qbl (nth z12.1 4)) false,z12.2))) (fun z18=>some (.inr z18))))) ([nI (qbu (qbl z10)),nth z2.1 0,z11,.int .i64 0,.sl 1
  (qbl z10) false],z2.2))))) (fun z19=>some (.inr z19))))) ([x0,.int .i64 0,x0,z1,.int .i64 0],e))):=by kernel_rfl
theorem run168 (B:KB) {E:Type} (h:qbg E) (dep:Nat) (e:E) (x0:PV) (x1:PV) :
  qf8 (qfj B (fun _=>.cl)) fn168 (.cl) h dep [.cv x0,.cv x1] e =
  qba (qbb (.len .slice (.c x0))) (fun z1=>qbq (qb9 [x0,x1,z1,.int .i64 0]) (qf0 (fun z2=>qba (qbb (.bin .lss .num false (.c (nth z2.1 3)) (.c (nth z2.1 2))))
  (fun z3=>qca z3 (qba (qbb (.idxAddr 3 (.c (nth z2.1 0)) (.c (nth z2.1 3)))) (fun z4=>qba (qbb (.load 3 true (.c z4))) (fun z5=>qba (qbj B .cl (nth z2.1 1) [z5])
  (fun z6=>qca z6 (qba (some (nth z2.1 3,z2.2)) (fun z7=>some (.inr z7))) (qba (qbb (.bin .add .num true (.c (nth z2.1 3)) (.c (.int .i64 1)))) (fun z8=>some (.inl
  ([nth z2.1 0,nth z2.1 1,nth z2.1 2,z8],z2.2)))))))) (qba (some (.int .i64 (-1),z2.2)) (fun z9=>some (.inr z9))))) ([x0,x1,z1,.int .i64 0],e))):=by kernel_rfl
end Go.Ab


namespace Go.Ab.Derive2
open Go Go.Ab
def ps0:List (Nat×Nat):=[(126,124),(146,145),(154,153),(182,143)]
def sp0 (g:FuncId) (σ:Nm→Option Ob) (vs:List PV):Option Out :=
 if g=95 then qzr ps0 σ vs
 else if g=159 then spIsG [1,2] 265 [143] vs
 else if g=190 then Qmj vs
 else if g=157 then spRepl vs
 else if g=158 then spFmt vs
 else if g=156 then qxa 130 σ vs
 else if g=99 then spStr 130 5 σ vs
 else if g=202 then qw7 .u32 σ vs
 else if g=218 then qqp .u32 σ vs
 else if g=216 then qvh .i32 0 1 σ vs
 else if g=217 then qvh .i32 1 0 σ vs
 else none
noncomputable def B0:KB:={sp:=sp0,L:=limCall sp0 qjd,I:=limIo sp0 qjd,isIo:=qjp qjd,leans:=qgr qjd}
end Go.Ab.Derive2


namespace Go.Ab.Derive2
open Go Go.Ab
def Ql7 (g:FuncId):Prop:=g≠95∧g≠159∧g≠190∧g≠157∧g≠158∧g≠156∧g≠99∧g≠202∧g≠218∧g≠216∧g≠217
instance (g:FuncId):Decidable (Ql7 g):=by unfold Ql7;infer_instance
theorem qw6 {g:FuncId} (h:Ql7 g) (σ:Nm→Option Ob) (vs:List PV):sp0 g σ vs=none:=by
 unfold sp0
 rw[if_neg h.1,if_neg h.2.1,if_neg h.2.2.1,if_neg h.2.2.2.1,if_neg h.2.2.2.2.1,if_neg h.2.2.2.2.2.1,if_neg h.2.2.2.2.2.2.1,if_neg h.2.2.2.2.2.2.2.1,if_neg h.2.2.2.2.2.2.2.2.1,if_neg h.2.2.2.2.2.2.2.2.2.1,if_neg h.2.2.2.2.2.2.2.2.2.2]
set_option maxHeartbeats 2000000 in
theorem sp_here (g:FuncId):qv6 (sp0 g):=by
 intro σ σ' vs h
 unfold sp0
 split
 ·exact as_here ps0 σ σ' vs h
 split
 ·rfl
 split
 ·rfl
 split
 ·rfl
 split
 ·rfl
 split
 ·exact check_here 130 σ σ' vs h
 split
 ·exact str_here 130 5 σ σ' vs h
 split
 ·exact load_here .u32 σ σ' vs h
 split
 ·exact store_here .u32 σ σ' vs h
 split
 ·exact Qfm .i32 0 1 σ σ' vs h
 split
 ·exact Qfm .i32 1 0 σ σ' vs h
 rfl
theorem Qld:∀ g,(iof0 g).isSome=qjp qjd g:=by
 intro g
 unfold iof0 qjp
 split
 ·rfl
 ·rfl
 ·rfl
 ·rfl
 ·rfl
 ·rfl
 ·rfl
 ·rfl
 ·rfl
 ·rfl
 ·rfl
 ·rfl
 ·rfl
 ·rfl
 ·rfl
 ·rfl
 ·rfl
 ·rename_i h0 h1 h2 h3 h4 h5 h6 h7 h8 h9 h10 h11 h12 h13 h14 h15 h16
  split
  ·rename_i fn ht
   unfold qjd at ht
   split at ht
   all_goals first | (exact (h0 rfl).elim) | (exact (h1 rfl).elim) | (exact (h2 rfl).elim) | (exact (h3 rfl).elim) | (exact (h4 rfl).elim) | (exact (h5 rfl).elim) | (exact (h6 rfl).elim) | (exact (h7 rfl).elim) | (exact (h8 rfl).elim) | (exact (h9 rfl).elim) | (exact (h10 rfl).elim) | (exact (h11 rfl).elim) | (exact (h12 rfl).elim) | (exact (h13 rfl).elim) | (exact (h14 rfl).elim) | (exact (h15 rfl).elim) | (exact (h16 rfl).elim) | (cases ht;done) | (cases ht;rfl)
  ·rfl
theorem qhu (d:Nat→RSh):qld (qfj B0 d) qjd where
 L:=rfl
 I:=rfl
 isIo:=rfl
 leans:=rfl
 flat g h:=by simp only[qfj,Bool.or_eq_true,beq_iff_eq] at h;rcases h with rfl | rfl<;>kernel_rfl
 ioF g:=Qld g
 ioP g P h:=by
  simp only[qfj,iof0] at h
  split at h
  ·cases h;exact⟨fn48,rfl,by decide,fun xs os=>by show (shs48 xs os).args.length≤_∧(shs48 xs os).ins.length≤_;unfold shs48;split<;>exact⟨Nat.le_of_ble_eq_true rfl,Nat.le_of_ble_eq_true rfl⟩⟩
  ·cases h;exact⟨fn49,rfl,by decide,fun xs os=>⟨Nat.le_of_ble_eq_true rfl,Nat.le_of_ble_eq_true rfl⟩⟩
  ·cases h;exact⟨fn84,rfl,by decide,fun xs os=>⟨Nat.le_of_ble_eq_true rfl,Nat.le_of_ble_eq_true rfl⟩⟩
  ·cases h;exact⟨fn85,rfl,by decide,fun xs os=>⟨Nat.le_of_ble_eq_true rfl,Nat.le_of_ble_eq_true rfl⟩⟩
  ·cases h;exact⟨fn86,rfl,by decide,fun xs os=>by show (shs86 xs os).args.length≤_∧(shs86 xs os).ins.length≤_;unfold shs86;split<;>exact⟨Nat.le_of_ble_eq_true rfl,Nat.le_of_ble_eq_true rfl⟩⟩
  ·cases h;exact⟨fn88,rfl,by decide,fun xs os=>⟨Nat.le_of_ble_eq_true rfl,Nat.le_of_ble_eq_true rfl⟩⟩
  ·cases h;exact⟨fn89,rfl,by decide,fun xs os=>⟨Nat.le_of_ble_eq_true rfl,Nat.le_of_ble_eq_true rfl⟩⟩
  ·cases h;exact⟨fn96,rfl,by decide,fun xs os=>⟨Nat.le_of_ble_eq_true rfl,Nat.le_of_ble_eq_true rfl⟩⟩
  ·cases h;exact⟨fn148,rfl,by decide,fun xs os=>⟨Nat.le_of_ble_eq_true rfl,Nat.le_of_ble_eq_true rfl⟩⟩
  ·cases h;exact⟨fn166,rfl,by decide,fun xs os=>⟨Nat.le_of_ble_eq_true rfl,Nat.le_of_ble_eq_true rfl⟩⟩
  ·cases h;exact⟨fn176,rfl,by decide,fun xs os=>⟨Nat.le_of_ble_eq_true rfl,Nat.le_of_ble_eq_true rfl⟩⟩
  ·cases h;exact⟨fn177,rfl,by decide,fun xs os=>⟨Nat.le_of_ble_eq_true rfl,Nat.le_of_ble_eq_true rfl⟩⟩
  ·cases h;exact⟨fn191,rfl,by decide,fun xs os=>⟨Nat.le_of_ble_eq_true rfl,Nat.le_of_ble_eq_true rfl⟩⟩
  ·cases h;exact⟨fn192,rfl,by decide,fun xs os=>⟨Nat.le_of_ble_eq_true rfl,Nat.le_of_ble_eq_true rfl⟩⟩
  ·cases h;exact⟨fn203,rfl,by decide,fun xs os=>⟨Nat.le_of_ble_eq_true rfl,Nat.le_of_ble_eq_true rfl⟩⟩
  ·cases h;exact⟨fn204,rfl,by decide,fun xs os=>⟨Nat.le_of_ble_eq_true rfl,Nat.le_of_ble_eq_true rfl⟩⟩
  ·cases h;exact⟨fn205,rfl,by decide,fun xs os=>⟨Nat.le_of_ble_eq_true rfl,Nat.le_of_ble_eq_true rfl⟩⟩
  ·cases h
 spF g h σ vs:=by
  simp only[qfj,Bool.or_eq_false_iff,beq_eq_false_iff_ne] at h
  obtain⟨⟨⟨⟨⟨⟨⟨⟨⟨⟨h0,h1⟩,h2⟩,h3⟩,h4⟩,h5⟩,h6⟩,h7⟩,h8⟩,h9⟩,h10⟩:=h
  exact qw6 ⟨h0,h1,h10,h2,h3,h4,h5,h6,h7,h8,h9⟩ σ vs
 loc g σ vs hv:=cfg_loc sp_here g σ vs hv
 spK g s h σ xs out hx hσ hs:=by
  simp only[qfj] at h
  split at h
  ·rename_i hg;subst hg;cases h;exact kLoad_ok hs
  split at h
  ·rename_i hg;subst hg;cases h;exact kStore_ok hσ hs
  split at h
  ·rename_i hg;subst hg;cases h;exact Qni hσ hs
  split at h
  ·rename_i hg;subst hg;cases h;exact Qni hσ hs
  cases h
 asOk g p t n h σ nm ty cs h1 h2:=by
  have e:∀ σ vs,sp0 95 σ vs=qzr ps0 σ vs:=fun _ _=>rfl
  simp only[qfj] at h
  split at h
  ·rename_i hc
   obtain⟨rfl,rfl⟩:=hc
   cases h
   exact Qpf (ps:=ps0) (p:=126) (t:=124) rfl h1 h2
  split at h
  ·rename_i hc
   obtain⟨rfl,rfl⟩:=hc
   cases h
   exact Qpf (ps:=ps0) (p:=146) (t:=145) rfl h1 h2
  split at h
  ·rename_i hc
   obtain⟨rfl,rfl⟩:=hc
   cases h
   exact Qpf (ps:=ps0) (p:=154) (t:=153) rfl h1 h2
  split at h
  ·rename_i hc
   obtain⟨rfl,rfl⟩:=hc
   cases h
   exact Qpf (ps:=ps0) (p:=182) (t:=143) rfl h1 h2
  cases h
theorem call {d:Nat→RSh} {g:FuncId} {fn:RFn} {sh:RSh} {args:List PV} {u:PV} (ht:qjd g=some fn) (hg:Ql7 g) (ha:qb3 args=true) (hl:Nat.ble args.length fn.nt=true)
  (hr:qf8 (qfj B0 d) fn sh qbc 0 (args.map KV.cv) ()=some (u,())) (hio:fn.io=false:=by rfl) (hb:Nat.blt g qf7=true:=by rfl):qbj B0 sh (.fn g []) args=some u:=by
 refine qzg (qhu d) ht (cap:=[]) (by simpa using ha) (by simpa using Nat.le_of_ble_eq_true hl) (qw6 hg (fun _=>none) _) ?_ hio hb
 simpa using hr
theorem callK {d:Nat→RSh} {g:FuncId} {fn:RFn} {sh:RSh} {args:List PV} {xs:List KV} {u:PV} (ht:qjd g=some fn) (hg:Ql7 g) (hx:qf6 xs) (hun:∀ x∈xs,qn6 x=false) (hpv:pvL xs=args) (hl:Nat.ble xs.length fn.nt=true)
  (hr:qf8 (qfj B0 d) fn sh qbc 0 xs ()=some (u,())) (hio:fn.io=false:=by rfl) (hb:Nat.blt g qf7=true:=by rfl):qbj B0 sh (.fn g []) args=some u :=
 Qji (qhu d) ht hx hun hpv (Nat.le_of_ble_eq_true hl) (qw6 hg (fun _=>none) _) hr hio hb
theorem qmq {g:FuncId} {n:Nat} {args:List PV} {u:PV} (hg:Ql7 g) (h:qcp sp0 qjd n Unit qbc 0 g args ()=some (u,[],())) (hu:okV u=true) (hio:qjp qjd g=false) (hb:Nat.blt g qf7=true:=by rfl):qbj B0 .cl (.fn g []) args=some u:=by
 have hid:qfh g=g:=by simp[qfh,hb]
 have hfa:qcc g args []=args:=by simp[qcc,hb]
 obtain⟨e2,_,h2⟩:=qt3 n Unit Unit (fun _ _=>True) qbc (fun _=>qbc) (fun _ _ _ _ _ _ _ h=>by cases h) 0 g args () () trivial _ _ _ h
 have hL:B0.L Unit qbc 0 g args ()=some (u,[],()):=qvo h2
 have hI:B0.isIo g=false:=hio
 have hs:B0.sp g (fun _=>none) args=none:=qw6 hg _ _
 unfold qbj
 simp[hid,hfa,spO,hs,hI,hL,qlw,qht,hu,qbq]
end Go.Ab.Derive2


namespace Go.Ab.Derive2
open Go Go.Ab
theorem w64 {n:Int} (h1 : -9223372036854775808≤n) (h2:n≤9223372036854775807):IntKind.i64.wrap n=n:=IntWalk.i64_in _ ⟨h1,h2⟩
def I (n:Int):PV:=.int .i64 n
def qcy (l:List Int):List PV:=l.map I
theorem qc5 (l:List Int):(qcy l).length=l.length:=by simp[qcy]
theorem ints_get {l:List Int} {i:Nat} (h:i < l.length):(qcy l)[i]?=some (I l[i]):=by simp[qcy,h]
theorem qye (l:List Int) (k:Nat):(qcy l).take k=qcy (l.take k):=by simp[qcy,List.map_take]
theorem Qdo (l m:List Int):qcy l++qcy m=qcy (l++m):=by simp[qcy]
theorem qkw (l:List Int):qb3 (qcy l)=true:=by
 induction l with
 | nil=>rfl
 | cons a l ih=>simpa[qcy,qb3,okV,I] using ih
inductive IsL:PV→List Int→Prop
 | nil:IsL .nilS []
 | sl (l:List Int) (f:Bool):IsL (.sl 1 (qcy l) f) l
theorem IsL.ok {v:PV} {l:List Int} (h:IsL v l):okV v=true:=by
 cases h with
 | nil=>rfl
 | sl f=>simp[okV,qkw]
theorem IsL.cells {v:PV} {l:List Int} (h:IsL v l):v.cells=[v]:=by cases h<;>rfl
theorem IsL.val {v:PV} {l:List Int} (h:IsL v l):v.isVal=true:=by cases h<;>rfl
theorem IsL.cell {v:PV} {l:List Int} (h:IsL v l):v.isCell=true:=by cases h<;>rfl
theorem IsL.und {v:PV} {l:List Int} (h:IsL v l):qg4 v=false:=by cases h<;>rfl
theorem IsL.len {v:PV} {l:List Int} (h:IsL v l):qbb (.len .slice (.c v))=some (I l.length):=by
 cases h with
 | nil=>rfl
 | sl f=>rw[qgk,qc5];rfl
theorem IsL.idx {v:PV} {l:List Int} (h:IsL v l) {i:Nat} (hi:i < l.length):qbb (.idxAddr 1 (.c v) (.c (I i)))=some (.ptr [I l[i]] 0):=by
 cases h with
 | nil=>simp at hi
 | sl f=>exact qry (by omega) (ints_get hi)
theorem IsL.elems {v:PV} {l:List Int} (h:IsL v l):qsp 1 v=some (qcy l):=by
 cases h with
 | nil=>rfl
 | sl f=>simp[qsp,Go.Ab.elems,chk]
theorem IsL.hi {v:PV} {l:List Int} (h:IsL v l) {k:Nat} (hk:k≤l.length):∃ u,qbb (.slice 1 (.c v) none (some (.c (I k))) none)=some u∧IsL u (l.take k):=by
 cases h with
 | nil =>
  have:k=0:=by simpa using hk
  subst this
  exact⟨.nilS,by simp[qbb,exec,RX.ev,evO,qk9,qnk,chk,I,qh3],.nil⟩
 | sl _ f =>
  have hk':k≤(qcy l).length:=by rw[qc5];exact hk
  refine⟨.sl 1 (qcy (l.take k)) (f&&k==(qcy l).length),?_,.sl _ _⟩
  simp[qbb,exec,RX.ev,evO,qk9,qnk,chk,I,hk',qye,qh3]
@[simp] theorem Qm9 (n:Int):qbb (.load 1 false (.c (.ptr [I n] 0)))=some (I n):=rfl
@[simp] theorem qfw {c:TC} {b:Bool} (a n:Int):qbb (.bin .lss c b (.c (I a)) (.c (I n)))=some (.bool (decide (a < n))):=pure_lss a n
@[simp] theorem qvb {c:TC} {b:Bool} (a n:Int):qbb (.bin .eql c b (.c (I a)) (.c (I n)))=some (.bool (a==n)):=Qmu a n
@[simp] theorem Qjw {c:TC} {b:Bool} (a n:Int):qbb (.bin .neq c b (.c (I a)) (.c (I n)))=some (.bool (a != n)):=pure_neq a n
@[simp] theorem qri {c:TC} {b:Bool} (a n:Int):qbb (.bin .add c b (.c (I a)) (.c (I n)))=some (I (IntKind.i64.wrap (a+n))):=qr0 a n
@[simp] theorem I_sub {c:TC} {b:Bool} (a n:Int):qbb (.bin .sub c b (.c (I a)) (.c (I n)))=some (I (IntKind.i64.wrap (a - n))):=pure_sub a n
@[simp] theorem I_geq {c:TC} {b:Bool} (a n:Int):qbb (.bin .geq c b (.c (I a)) (.c (I n)))=some (.bool (decide (n≤a))):=pure_geq a n
@[simp] theorem I_leq {c:TC} {b:Bool} (a n:Int):qbb (.bin .leq c b (.c (I a)) (.c (I n)))=some (.bool (decide (a≤n))):=Qmt a n
@[simp] theorem Qjx {c:TC} {b:Bool} (a n:Int):qbb (.bin .gtr c b (.c (I a)) (.c (I n)))=some (.bool (decide (n < a))):=pure_gtr a n
theorem qfg (n:Int):PV.int .i64 n=I n:=rfl
@[simp] theorem okV_I (n:Int):okV (I n)=true:=rfl
@[simp] theorem cells_I (n:Int):(I n).cells=[I n]:=rfl
@[simp] theorem isUndef_I (n:Int):qg4 (I n)=false:=rfl
@[simp] theorem isVal_I (n:Int):(I n).isVal=true:=rfl
@[simp] theorem isCell_I (n:Int):(I n).isCell=true:=rfl
@[simp] theorem qr4 (n:Int):qbz (I n)=n.toNat:=rfl
theorem qzp {i:Nat} (h:i < 9223372036854775807):IntKind.i64.wrap ((i:Int)+1)=((i+1:Nat):Int):=by rw[w64 (by omega) (by omega)];omega
structure Arr where
 li:Bool
 ru:Bool
 n:List Int
inductive IsA:PV→Arr→Prop
 | mk (li ru:Bool) (x:PV) (l:List Int) (h:IsL x l):IsA (.agg [.bool li,.bool ru,x]) ⟨li,ru,l⟩
theorem IsA.ok {v:PV} {a:Arr} (h:IsA v a):okV v=true:=by
 obtain⟨li,ru,x,l,h⟩:=h
 simp[okV,qb3,h.ok]
theorem IsA.get {v:PV} {a:Arr} (h:IsA v a):∃ x,v=.agg [.bool a.li,.bool a.ru,x]∧IsL x a.n:=by
 obtain⟨li,ru,x,l,h⟩:=h
 exact⟨x,rfl,h⟩
def qj2:Arr:=⟨false,false,[]⟩
theorem qd3:IsA (.agg [.bool false,.bool false,.nilS]) qj2:=.mk _ _ _ _ .nil
@[simp] theorem qgy (cs:List PV):qjc (.agg cs)=(PV.agg cs).isVal:=rfl
theorem qwz {a b c:PV} (ha:a.isCell=true) (hb:b.isCell=true) (hc:c.isCell=true):(PV.agg [a,b,c]).isVal=true:=by simp[PV.isVal,ha,hb,hc]
theorem qxf (a b c:PV):sel [a,b,c] 0 1 false=some a:=rfl
theorem qvk (a b c:PV):sel [a,b,c] 1 1 false=some b:=rfl
theorem qqg (a b c:PV):sel [a,b,c] 2 1 false=some c:=rfl
theorem sel3_a (a b c:PV):sel [a,b,c] 0 3 true=some (.agg [a,b,c]):=rfl
theorem qwj {a b c:PV} (h:(PV.agg [a,b,c]).isVal=true):qbi (.agg [a,b,c]) 3=true:=by simp[qbi,h]
@[simp] theorem qnd (a b c:PV):qbf (.agg [a,b,c]) 0=a:=rfl
@[simp] theorem qnc (a b c:PV):qbf (.agg [a,b,c]) 1=b:=rfl
@[simp] theorem qln (a b c:PV):qbf (.agg [a,b,c]) 2=c:=rfl
def rune (n:Int):Bool:=decide (0≤n)&&(decide (n≤1114111)&&(decide (n < 55296)||decide (57343 < n)))
theorem rune_run (n:Int):qbj B0 .cl (.fn 54 []) [I n]=some (.bool (rune n)):=by
 refine call (d:=fun _=>.cl) rfl (by decide) rfl rfl ?_
 rw[List.map_cons,List.map_nil,run54]
 simp only[qfg,I_geq,I_leq,qfw,Qjx,qbe,qbh]
 unfold rune
 by_cases h1:0≤n<;>by_cases h2:n≤1114111<;>by_cases h3:n < 55296<;>simp[h1,h2,h3]
theorem other_run (n:Int):qbj B0 .cl (.fn 53 []) [I n]=some (.bool (!rune n)):=by
 refine call (d:=fun _=>.cl) rfl (by decide) rfl rfl ?_
 rw[List.map_cons,List.map_nil,run53,rune_run]
 simp
def idxP (p:Int→Bool) (i:Nat):List Int→Int
 | [] => -1
 | x :: l=>if p x then (i:Int) else idxP p (i+1) l
theorem idxP_any (p:Int→Bool):∀ (l:List Int) (i:Nat),decide (0≤idxP p i l)=l.any p:=by
 intro l
 induction l with
 | nil=>intro i;rfl
 | cons x l ih =>
  intro i
  simp only[idxP,List.any_cons]
  by_cases hx:p x=true
  ·simp[hx]
  ·have:=ih (i+1)
   simp only[hx,Bool.false_eq_true,if_false,this]
   simp[hx]
theorem qsq {α:Type} {l:List α} {i:Nat} (h:i < l.length):l.drop i=l[i] :: l.drop (i+1):=by rw[List.drop_eq_getElem_cons h]
theorem index_run {v f:PV} {l:List Int} {p:Int→Bool} (hv:IsL v l) (hl:l.length≤1000000) (hf:okV f=true) (hu:qg4 f=false) (hp:∀ n∈l,qbj B0 .cl f [I n]=some (.bool (p n))) :
  qbj B0 .cl (.fn 91 []) [v,f]=some (I (idxP p 0 l)):=by
 refine call (d:=fun _=>.cl) rfl (by decide) (by simp[qb3,hv.ok,hf]) rfl ?_
 rw[List.map_cons,List.map_cons,List.map_nil,run91,hv.len]
 simp only[qbe]
 have h0:qb9 [v,f,I l.length,.int .i64 0]=true:=by simp[qb9,hv.und,hu,qfg]
 rw[h0,qbk]
 have key:∀ m i,i+m=l.length→qf0 (fun z2=>qba (qbb (.bin .lss .num false (.c (nth z2.1 3)) (.c (nth z2.1 2)))) (fun z3=>qca z3 (qba (qbb (.idxAddr 1 (.c (nth z2.1 0)) (.c (nth z2.1 3)))) (fun z4=>qba (qbb (.load 1 false (.c z4))) (fun z5=>qba (qbj B0 .cl (nth z2.1 1) [z5]) (fun z6=>qca z6 (qba (some (nth z2.1 3,z2.2)) (fun z7=>some (.inr z7))) (qba (qbb (.bin .add .num true (.c (nth z2.1 3)) (.c (.int .i64 1)))) (fun z8=>some (.inl ([nth z2.1 0,nth z2.1 1,nth z2.1 2,z8],z2.2)))))))) (qba (some (.int .i64 (-1),z2.2)) (fun z9=>some (.inr z9))))) (([v,f,I l.length,I i],()):List PV×Unit)=some (I (idxP p i (l.drop i)),()):=by
  intro m
  induction m with
  | zero =>
   intro i hi
   refine qch ?_
   have:i=l.length:=by omega
   subst this
   simp[idxP];rfl
  | succ m ih =>
   intro i hi
   have hlt:i < l.length:=by omega
   rw[qsq hlt]
   by_cases hpx:p l[i]=true
   ·refine qch ?_
    simp only[qdw,qdv,qd4,qfz,qfw,qbe,qbh]
    rw[if_pos (by simpa using hlt),hv.idx hlt]
    simp[hp _ (List.getElem_mem hlt),hpx,idxP]
   ·rw[qdg (s':=([v,f,I l.length,I ((i+1:Nat):Int)],()))]
    ·rw[ih (i+1) (by omega)]
     simp[idxP,hpx]
    ·simp only[qdw,qdv,qd4,qfz,qfw,qbe,qbh]
     rw[if_pos (by simpa using hlt),hv.idx hlt]
     simp[hp _ (List.getElem_mem hlt),hpx,qfg,qzp (by omega:i < 9223372036854775807)]
 have:=key l.length 0 (by omega)
 simpa[qfg] using this
theorem any_run {v f:PV} {l:List Int} {p:Int→Bool} (hv:IsL v l) (hl:l.length≤1000000) (hf:okV f=true) (hu:qg4 f=false) (hp:∀ n∈l,qbj B0 .cl f [I n]=some (.bool (p n))) :
  qbj B0 .cl (.fn 55 []) [v,f]=some (.bool (l.any p)):=by
 refine call (d:=fun _=>.cl) rfl (by decide) (by simp[qb3,hv.ok,hf]) rfl ?_
 rw[List.map_cons,List.map_cons,List.map_nil,run55,index_run hv hl hf hu hp]
 simp only[qbe,qfg,I_geq,idxP_any]
def Arr.right (a:Arr):Bool:=!(a.ru&&a.n.any fun n=>!rune n)&&(if a.li then decide (a.n.length≤200) else decide (a.n.length=1))
theorem qns {v:PV} {a:Arr} (h:IsA v a) (hl:a.n.length≤1000000):qbj B0 .cl (.fn 27 []) [v]=some (.bool a.right):=by
 obtain⟨x,rfl,hx⟩:=h.get
 refine call (d:=fun _=>.cl) rfl (by decide) (by simp[qb3,h.ok]) rfl ?_
 rw[List.map_cons,List.map_nil,run27,qgy,qwz rfl rfl hx.cell,qbk]
 have ha:=any_run (f:=.fn 53 []) (p:=fun n=>!rune n) hx hl rfl rfl fun n _=>other_run n
 simp only[qga,qcv,qxf,qvk,qqg,qbe,hx.len,ha,qbh,qfg,I_leq,qvb]
 unfold Arr.right
 have e1:decide ((a.n.length:Int)≤200)=decide (a.n.length≤200):=by
  by_cases h:a.n.length≤200
  ·simp[h];omega
  ·have:¬ (a.n.length:Int)≤200:=by omega
   simp[h,this]
 have e2:((a.n.length:Int)==1)=decide (a.n.length=1):=by
  by_cases h:a.n.length=1
  ·simp[h]
  ·have:¬ (a.n.length:Int)=1:=by omega
   simp[h,this]
 rw[e1,e2]
 cases a.ru<;>cases a.li<;>cases a.n.any (fun n=>!rune n)<;>simp
def eqL:List Int→List Int→Bool
 | [],[]=>true
 | x :: xs,y :: ys=>x==y&&eqL xs ys
 | _,_=>false
theorem eqL_iff:∀ (a b:List Int),eqL a b=true↔a=b:=by
 intro a
 induction a with
 | nil=>intro b;cases b<;>simp[eqL]
 | cons x a ih=>intro b;cases b<;>simp[eqL,ih]
theorem equal_run {v u:PV} {l m:List Int} (hv:IsL v l) (hu:IsL u m) (hl:l.length≤1000000) (hm:m.length≤1000000):qbj B0 .cl (.fn 52 []) [v,u]=some (.bool (eqL l m)):=by
 refine call (d:=fun _=>.cl) rfl (by decide) (by simp[qb3,hv.ok,hu.ok]) rfl ?_
 rw[List.map_cons,List.map_cons,List.map_nil,run52,hv.len,hu.len]
 simp only[qbe,Qjw,qbh]
 by_cases hlm:l.length=m.length
 ·have h1:(((l.length:Int) != (m.length:Int))=true)↔False:=by simp[hlm]
  simp only[h1,if_false]
  have h0:qb9 [v,u,I l.length,.int .i64 0]=true:=by simp[qb9,hv.und,hu.und,qfg]
  rw[h0,qbk]
  have key:∀ k i,i+k=l.length→qf0 (fun z5=>qba (qbb (.bin .lss .num false (.c (nth z5.1 3)) (.c (nth z5.1 2)))) (fun z6=>qca z6 (qba (qbb (.idxAddr 1 (.c (nth z5.1 0)) (.c (nth z5.1 3)))) (fun z7=>qba (qbb (.load 1 false (.c z7))) (fun z8=>qba (qbb (.idxAddr 1 (.c (nth z5.1 1)) (.c (nth z5.1 3)))) (fun z9=>qba (qbb (.load 1 false (.c z9))) (fun z10=>qba (qbb (.bin .neq .num false (.c z8) (.c z10))) (fun z11=>qca z11 (qba (some (PV.bool false,z5.2)) (fun z12=>some (.inr z12))) (qba (qbb (.bin .add .num true (.c (nth z5.1 3)) (.c (.int .i64 1)))) (fun z13=>some (.inl ([nth z5.1 0,nth z5.1 1,nth z5.1 2,z13],z5.2)))))))))) (qba (some (PV.bool true,z5.2)) (fun z14=>some (.inr z14))))) (([v,u,I l.length,I i],()):List PV×Unit)=some (.bool (eqL (l.drop i) (m.drop i)),()):=by
   intro k
   induction k with
   | zero =>
    intro i hi
    refine qch ?_
    have h2:l.drop i=[]:=List.drop_eq_nil_of_le (by omega)
    have h3:m.drop i=[]:=List.drop_eq_nil_of_le (by omega)
    have:¬ (i < l.length):=by omega
    simp[h2,h3,eqL,this]
   | succ k ih =>
    intro i hi
    have hlt:i < l.length:=by omega
    have hlt':i < m.length:=by omega
    rw[qsq hlt,qsq hlt']
    by_cases hx:l[i]=m[i]
    ·rw[qdg (s':=([v,u,I l.length,I ((i+1:Nat):Int)],()))]
     ·rw[ih (i+1) (by omega)]
      simp[eqL,hx]
     ·simp only[qdw,qdv,qd4,qfz,qfw,qbe,qbh]
      rw[if_pos (by simpa using hlt),hv.idx hlt,hu.idx hlt']
      simp[hx,qfg,qzp (by omega:i < 9223372036854775807)]
    ·refine qch ?_
     simp only[qdw,qdv,qd4,qfz,qfw,qbe,qbh]
     rw[if_pos (by simpa using hlt),hv.idx hlt,hu.idx hlt']
     simp[hx,eqL]
  have:=key l.length 0 (by omega)
  simpa[qfg] using this
 ·have:¬ (l.length:Int)=(m.length:Int):=by omega
  have h2:eqL l m=false:=by
   cases he:eqL l m with
   | false=>rfl
   | true=>exact absurd (congrArg List.length ((eqL_iff l m).1 he)) hlm
  simp[this,h2]
def Arr.same (a b:Arr):Bool:=a.li==b.li&&(a.ru==b.ru&&eqL a.n b.n)
theorem same_run {v u:PV} {a b:Arr} (hv:IsA v a) (hu:IsA u b) (ha:a.n.length≤1000000) (hb:b.n.length≤1000000):qbj B0 .cl (.fn 26 []) [v,u]=some (.bool (a.same b)):=by
 obtain⟨x,rfl,hx⟩:=hv.get
 obtain⟨y,rfl,hy⟩:=hu.get
 refine call (d:=fun _=>.cl) rfl (by decide) (by simp[qb3,hv.ok,hu.ok]) rfl ?_
 rw[List.map_cons,List.map_cons,List.map_nil,run26,qgy,qgy,qwz rfl rfl hx.cell,qwz rfl rfl hy.cell,qbk,qbk]
 simp only[qga,qcv,qxf,qvk,qqg,qbe,qrz,qbh,equal_run hx hy ha hb]
 unfold Arr.same
 cases (a.li==b.li)<;>cases (a.ru==b.ru)<;>simp
end Go.Ab.Derive2


namespace Go.Ab.Derive2
open Go Go.Ab
theorem lendN {g:FuncId} {fn:RFn} {fr:Bool} {args:List PV} {u:PV} {d:Nat→RSh} (ht:qjd g=some fn) (ha:qb3 args=true) (hl:Nat.ble args.length fn.nt=true)
  (hr:qf8 (qfj B0 d) fn .cl qbc 0 (args.map KV.cv) ()=some (u,())) (hfr:(u.free&&!qgr qjd g)=fr):qft B0 .cl fr g args=some u :=
 qx0 (qhu d) ht ha (Nat.le_of_ble_eq_true hl) hr hfr
inductive NE where
 | ok | over | div
 | dom (g:List UInt8)
def NE.pv:NE→PV
 | .ok=>.nilI
 | .over=>.glob 1 265
 | .div=>.glob 2 265
 | .dom g=>.iface 143 (.agg [.str g])
def NE.no:NE→Int
 | .ok=>0
 | .over=>100
 | .div=>101
 | .dom _=>102
theorem NE.okV (e:NE):okV e.pv=true:=by cases e<;>rfl
theorem NE.und (e:NE):qg4 e.pv=false:=by cases e<;>rfl
theorem is_over (e:NE):qbj B0 .cl (.fn 159 []) [e.pv,.glob 1 265]=some (.bool (match e with | .over=>true | _=>false)):=by
 refine Qch (qhu fun _=>.cl) ?_ rfl
 cases e<;>rfl
theorem is_div (e:NE):qbj B0 .cl (.fn 159 []) [e.pv,.glob 2 265]=some (.bool (match e with | .div=>true | _=>false)):=by
 refine Qch (qhu fun _=>.cl) ?_ rfl
 cases e<;>rfl
theorem Qgd (e:NE):qbj B0 .cl (.fn 110 []) [e.pv]=some (I e.no):=by
 refine call (d:=fun _=>.cl) rfl (by decide) (by simp[qb3,NE.okV]) rfl ?_
 rw[List.map_cons,List.map_nil,run110]
 simp only[show qbb (.load 1 false (.c (.ptr [.glob 1 265] 0)))=some (.glob 1 265) from rfl,show qbb (.load 1 false (.c (.ptr [.glob 2 265] 0)))=some (.glob 2 265) from rfl,qbe,is_over,is_div,qbh]
 cases e<;>rfl
def qqh (r:Int×NE):PV:=.tup [I r.1,r.2.pv]
def chk1 (b:Bool) (n:Int) (e:NE):Int×NE:=if b then (n,.ok) else (0,e)
theorem qnu (r:Int×NE):qbb (.extract 0 (.c (qqh r)))=some (I r.1):=rfl
theorem qnt (r:Int×NE):qbb (.extract 1 (.c (qqh r)))=some r.2.pv:=rfl
theorem must1 (n:Int) (e:NE) (b:Bool):qft B0 .cl false 108 [I n,e.pv,.sl 1 [.bool b] false]=some (qqh (chk1 b n e)):=by
 refine lendN (d:=fun _=>.cl) rfl (by simp[qb3,NE.okV,okV]) rfl ?_ (by rw[show qgr qjd 108=true from rfl,Bool.not_true,Bool.and_false])
 rw[List.map_cons,List.map_cons,List.map_cons,List.map_nil,run108,qgk]
 simp only[qbe]
 rw[show qb9 [I n,e.pv,.sl 1 [.bool b] false,.int .i64 (([PV.bool b].length:Nat):Int),.int .i64 0]=true by simp only[qb9,List.all_cons,NE.und];rfl,qbk]
 cases b with
 | false=>exact qch rfl
 | true =>
  rw[qdg (s':=([I n,e.pv,.sl 1 [.bool true] false,I 1,I 1],()))]
  ·exact qch rfl
  ·rfl
theorem must2 (n:Int) (e:NE) (b c:Bool):qft B0 .cl false 108 [I n,e.pv,.sl 1 [.bool b,.bool c] false]=some (qqh (chk1 (b&&c) n e)):=by
 refine lendN (d:=fun _=>.cl) rfl (by simp[qb3,NE.okV,okV]) rfl ?_ (by rw[show qgr qjd 108=true from rfl,Bool.not_true,Bool.and_false])
 rw[List.map_cons,List.map_cons,List.map_cons,List.map_nil,run108,qgk]
 simp only[qbe]
 rw[show qb9 [I n,e.pv,.sl 1 [.bool b,.bool c] false,.int .i64 (([PV.bool b,.bool c].length:Nat):Int),.int .i64 0]=true by simp only[qb9,List.all_cons,NE.und];rfl,qbk]
 cases b with
 | false=>exact qch rfl
 | true =>
  rw[qdg (s':=([I n,e.pv,.sl 1 [.bool true,.bool c] false,I 2,I 1],()))]
  ·cases c with
   | false=>exact qch rfl
   | true =>
    rw[qdg (s':=([I n,e.pv,.sl 1 [.bool true,.bool true] false,I 2,I 2],()))]
    ·exact qch rfl
    ·rfl
  ·rfl
def two (x y:Int):PV:=.agg [I x,I y]
def i64 (n:Int):Int:=IntKind.i64.wrap n
theorem qgu (x y:Int):qjc (two x y)=true:=rfl
theorem qp8 (x y:Int):qb2 (two x y) 0 1 false=some (I x):=rfl
theorem qrl (x y:Int):qb2 (two x y) 1 1 false=some (I y):=rfl
theorem two_a (x y:Int):qb2 (two x y) 0 2 true=some (two x y):=rfl
theorem qn2:qbb (.load 1 false (.c (.ptr [.glob 1 265] 0)))=some NE.over.pv:=rfl
theorem load_div:qbb (.load 1 false (.c (.ptr [.glob 2 265] 0)))=some NE.div.pv:=rfl
theorem qxp (b:Bool):qc7 1 [.bool b]=true:=rfl
theorem Qc1 (b c:Bool):qc7 1 [.bool b,.bool c]=true:=rfl
theorem slO_b (b:Bool):slO 1 1 [.bool b] 0 (qbu [.bool b])=.sl 1 [.bool b] false:=rfl
theorem slO_bb (b c:Bool):slO 1 1 [.bool b,.bool c] 0 (qbu [.bool b,.bool c])=.sl 1 [.bool b,.bool c] false:=rfl
def nAdd (x y:Int):Int×NE :=
 let s:=i64 (x+y)
 chk1 (!(decide (x < 0)==decide (y < 0))||(decide (s < 0)==decide (x < 0))) s .over
def nTake (x y:Int):Int×NE :=
 let s:=i64 (x - y)
 chk1 ((decide (x < 0)==decide (y < 0))||(decide (s < 0)==decide (x < 0))) s .over
theorem add_run (x y:Int):qbj B0 .cl (.fn 132 []) [two x y]=some (qqh (nAdd x y)):=by
 refine call (d:=fun _=>.cl) rfl (by decide) rfl rfl ?_
 rw[List.map_cons,List.map_nil,run132,qgu,qbk]
 simp only[qp8,qrl,qbe,qri,qfg,qfw,qm2,qrz,qbh,qn2,qxp,qbk,slO_b,must1,qnu,qnt]
 unfold nAdd i64
 cases decide (x < 0)<;>cases decide (y < 0)<;>rfl
theorem take_run (x y:Int):qbj B0 .cl (.fn 102 []) [two x y]=some (qqh (nTake x y)):=by
 refine call (d:=fun _=>.cl) rfl (by decide) rfl rfl ?_
 rw[List.map_cons,List.map_nil,run102,qgu,qbk]
 simp only[qp8,qrl,qbe,I_sub,qfg,qfw,qm2,qrz,qbh,qn2,qxp,qbk,slO_b,must1,qnu,qnt]
 unfold nTake i64
 cases decide (x < 0)<;>cases decide (y < 0)<;>rfl
def Qku (x y:Int):Int×NE :=
 if y=0 then chk1 (x==0) 1 .div
 else if y = -1 then chk1 (x != -9223372036854775808) (i64 (0 - x)) .over
 else chk1 (x.tmod y==0) (i64 (x.tdiv y)) .div
theorem I_neg (x:Int):qbb (.un .neg (.c (I x)))=some (I (i64 (0 - x))):=rfl
theorem divide_run (x y:Int):qbj B0 .cl (.fn 106 []) [two x y]=some (qqh (Qku x y)):=by
 refine call (d:=fun _=>.cl) rfl (by decide) rfl rfl ?_
 rw[List.map_cons,List.map_nil,run106,qgu,qbk]
 simp only[qp8,qrl,qbe,qfg,qvb,Qjw,qbh,qn2,load_div,qxp,qbk,slO_b,must1,qnu,qnt]
 unfold Qku
 by_cases h0:y=0
 ·subst h0
  simp only[beq_self_eq_true,if_true]
  rfl
 ·have e0:((y==0)=true)↔False:=by simp[h0]
  simp only[e0,if_false,h0]
  by_cases h1:y = -1
  ·subst h1
   simp only[beq_self_eq_true,if_true,I_neg,qbe,qxp,qbk,slO_b,must1,qnu,qnt]
   rfl
  ·have e1:((y == -1)=true)↔False:=by simp[h1]
   simp only[e1,if_false,h1]
   rw[I,I,pure_quo _ _ h0,Qcw _ _ h0]
   simp only[qbe,qfg,qvb,qxp,qbk,slO_b,must1,qnu,qnt]
   rfl
def Qc6 (x y:Int):Int :=
 if x=0 then y else if x = -1 then 0
 else if (y.tmod x==0)||(decide (y.tmod x < 0)==decide (x < 0)) then y.tmod x else i64 (y.tmod x+x)
theorem Qj9 (x y:Int):qbj B0 .cl (.fn 134 []) [two x y]=some (qqh (Qc6 x y,.ok)):=by
 refine call (d:=fun _=>.cl) rfl (by decide) rfl rfl ?_
 rw[List.map_cons,List.map_nil,run134,qgu,qbk]
 simp only[qp8,qrl,qbe,qfg,qvb,qbh]
 unfold Qc6
 by_cases h0:x=0
 ·subst h0
  simp only[beq_self_eq_true,if_true]
  rfl
 ·have e0:((x==0)=true)↔False:=by simp[h0]
  simp only[e0,if_false,h0]
  by_cases h1:x = -1
  ·subst h1
   simp only[beq_self_eq_true,if_true]
   rfl
  ·have e1:((x == -1)=true)↔False:=by simp[h1]
   simp only[e1,if_false,h1]
   rw[show qbb (.bin .rem .num false (.c (I y)) (.c (I x)))=some (I (y.tmod x)) from Qcw _ _ h0]
   simp only[qbe]
   rw[show qb9 [I (y.tmod x),I 0]=true from rfl,qbk]
   generalize y.tmod x=r
   by_cases hc:((r==0)||(decide (r < 0)==decide (x < 0)))=true
   ·rw[if_pos hc]
    refine qch ?_
    simp only[qdw,qdv,qd4,qfg,qfw,qvb,qbe,qbh,qp8,qrz]
    cases hr:(r==0) with
    | true=>rfl
    | false =>
     simp only[hr,Bool.false_or] at hc
     simp only[hc,Bool.false_eq_true,if_false,qbe,qbh,if_true]
     rfl
   ·rw[if_neg hc]
    rw[qdg (s':=([I (i64 (r+x)),I 1,two x y],()))]
    ·exact qch rfl
    ·simp only[qdw,qdv,qd4,qfg,qfw,qvb,qbe,qbh,qp8,qrz]
     simp only[Bool.or_eq_true,not_or,Bool.not_eq_true] at hc
     simp only[hc.1,hc.2,Bool.false_eq_true,if_false,qbe,qbh,qri]
     rfl
def u64 (n:Int):PV:=.int .u64 n
def qwa (x:Int):Int:=if x < 0 then IntKind.u64.wrap (0 - IntKind.u64.wrap x) else IntKind.u64.wrap x
theorem Qmk (x:Int):qbj B0 .cl (.fn 171 []) [I x]=some (u64 (qwa x)):=by
 refine call (d:=fun _=>.cl) rfl (by decide) rfl rfl ?_
 rw[List.map_cons,List.map_nil,run171]
 simp only[qfg,qfw,qbe,qbh,show qbb (.conv .u64 (.c (I x)))=some (.int .u64 (IntKind.u64.wrap x)) from rfl,pure_neg]
 unfold qwa
 by_cases h:x < 0<;>simp[h]<;>rfl
theorem qkd (n:Nat) (h:n < 18446744073709551616):IntKind.u64.wrap (n:Int)=n:=by rw[IntKind.wrap_u64];omega
theorem Qgl (x:Int):∃ n:Nat,qwa x=n∧n < 18446744073709551616:=by
 unfold qwa
 refine⟨(if x < 0 then IntKind.u64.wrap (0 - IntKind.u64.wrap x) else IntKind.u64.wrap x).toNat,?_,?_⟩<;>(simp only[IntKind.wrap_u64];split<;>omega)
theorem and32 (n:Nat) (h:n < 18446744073709551616):qbb (.bin .and .num true (.c (.int .u64 (n:Int))) (.c (.int .u64 4294967295)))=some (.int .u64 ((n%4294967296:Nat):Int)):=by
 have e:(BitVec.ofInt 64 (n:Int) &&& BitVec.ofInt 64 4294967295).toNat=n%4294967296:=by
  rw[BitVec.toNat_and]
  have h1:(BitVec.ofInt 64 (n:Int)).toNat=n:=by rw[BitVec.toNat_ofInt];omega
  have h2:(BitVec.ofInt 64 (4294967295:Int)).toNat=2 ^ 32 - 1:=by rw[BitVec.toNat_ofInt];rfl
  rw[h1,h2,Nat.and_two_pow_sub_one_eq_mod]
 rw[show qbb (.bin .and .num true (.c (.int .u64 (n:Int))) (.c (.int .u64 4294967295)))=some (.int .u64 (IntKind.u64.wrap (((BitVec.ofInt 64 (n:Int) &&& BitVec.ofInt 64 4294967295).toNat:Nat):Int))) from rfl,e,qkd _ (by omega)]
theorem shr32 (n:Nat):qbb (.bin .shr .num true (.c (.int .u64 (n:Int))) (.c (.int .u64 32)))=some (.int .u64 ((n / 4294967296:Nat):Int)):=by
 have e:(n:Int).fdiv (2 ^ (min (32:Int).toNat 64))=((n / 4294967296:Nat):Int):=by
  rw[show (2:Int) ^ (min (32:Int).toNat 64)=4294967296 from rfl,Int.fdiv_eq_ediv_of_nonneg _ (by decide)]
  omega
 rw[show qbb (.bin .shr .num true (.c (.int .u64 (n:Int))) (.c (.int .u64 32)))=some (.int .u64 ((n:Int).fdiv (2 ^ (min (32:Int).toNat 64)))) from rfl,e]
theorem mul64_run (a b:Nat) (ha:a < 18446744073709551616) (hb:b < 18446744073709551616) :
  qbj B0 .cl (.fn 170 []) [u64 a,u64 b]=some (.tup [u64 ((a*b / 18446744073709551616:Nat):Int),u64 ((a*b%18446744073709551616:Nat):Int)]):=by
 refine call (d:=fun _=>.cl) rfl (by decide) rfl rfl ?_
 rw[List.map_cons,List.map_cons,List.map_nil,run170]
 obtain⟨h1,h2,h3,h4⟩:=Lib.mul64_hi a b ha hb
 have c1:∀ (m n:Nat),((m:Int)*(n:Int))=((m*n:Nat):Int):=fun m n=>by simp
 have c2:∀ (m n:Nat),((m:Int)+(n:Int))=((m+n:Nat):Int):=fun m n=>by simp
 have ka:=Lib.half_mul_le (a:=a / 4294967296) (b:=b / 4294967296) (by omega) (by omega)
 have kb:=Lib.half_mul_le (a:=a / 4294967296) (b:=b%4294967296) (by omega) (by omega)
 have kc:=Lib.half_mul_le (a:=a%4294967296) (b:=b / 4294967296) (by omega) (by omega)
 simp only[u64,and32 _ ha,and32 _ hb,shr32,qbe,qwg,qr0,c1,c2]
 rw[qkd _ h1,qkd (a / 4294967296*(b%4294967296)) (by omega)]
 simp only[shr32,qbe,qwg,qr0,c1,c2]
 rw[qkd _ h2]
 simp only[and32 _ h2,shr32,qbe,qwg,qr0,c1,c2]
 rw[qkd (a%4294967296*(b / 4294967296)) (by omega)]
 simp only[c2]
 rw[qkd _ h3,qkd (a / 4294967296*(b / 4294967296)) (by omega)]
 simp only[shr32,qbe,qwg,qr0,c1,c2]
 have h5:a*b / 18446744073709551616 < 18446744073709551616:=by
  refine Nat.div_lt_of_lt_mul ?_
  exact Nat.mul_lt_mul'' ha hb
 rw[qkd (a / 4294967296*(b / 4294967296)+(a / 4294967296*(b%4294967296)+a%4294967296*(b%4294967296) / 4294967296) / 4294967296) (by omega)]
 simp only[c2]
 have e:IntKind.u64.wrap ((a*b:Nat):Int)=((a*b%18446744073709551616:Nat):Int):=by rw[IntKind.wrap_u64];omega
 rw[h4,qkd _ h5,e]
def nTim (hi lo:Nat) (x y:Int):Int×NE :=
 let below:=!(decide (x < 0)==decide (y < 0))
 let v:=i64 (lo:Int)
 chk1 (decide (hi=0)&&(decide (lo≤9223372036854775807)||below&&decide (lo=9223372036854775808))) (if below then i64 (0 - v) else v) .over
def nTimes (x y:Int):Int×NE:=nTim ((qwa x).toNat*(qwa y).toNat / 18446744073709551616) ((qwa x).toNat*(qwa y).toNat%18446744073709551616) x y
theorem times_aux (hi lo:Nat) (x y:Int) (hs1:qbj B0 .cl (.fn 171 []) [I x]=some (u64 (qwa x))) (hs2:qbj B0 .cl (.fn 171 []) [I y]=some (u64 (qwa y)))
  (hm:qbj B0 .cl (.fn 170 []) [u64 (qwa x),u64 (qwa y)]=some (.tup [u64 hi,u64 lo])):qbj B0 .cl (.fn 133 []) [two x y]=some (qqh (nTim hi lo x y)):=by
 refine call (d:=fun _=>.cl) rfl (by decide) rfl rfl ?_
 rw[List.map_cons,List.map_nil,run133,qgu,qbk]
 simp only[u64] at hs1 hs2 hm
 simp only[qp8,qrl,qbe,hs1,hs2,hm,qgz,List.getElem?_cons_zero,List.getElem?_cons_succ,qfg,qfw,qm2,u64,pure_conv,qbh,Qmu,Qmt]
 unfold nTim
 have e1:((hi:Int)==0)=decide (hi=0):=by by_cases h:hi=0<;>simp[h]
 have e2:decide ((lo:Int)≤9223372036854775807)=decide (lo≤9223372036854775807):=by by_cases h:lo≤9223372036854775807<;>simp[h]<;>omega
 have e3:((lo:Int)==9223372036854775808)=decide (lo=9223372036854775808):=by by_cases h:lo=9223372036854775808<;>simp[h];omega
 rw[e1,e2,e3]
 generalize decide (hi=0)=p1
 generalize decide (lo≤9223372036854775807)=p2
 generalize decide (lo=9223372036854775808)=p3
 cases hb':!(decide (x < 0)==decide (y < 0)) with
 | false =>
  simp only[Bool.false_eq_true,if_false,qn2,qbe,qfg,Bool.false_and,Bool.or_false]
  cases p2<;>simp only[Bool.false_eq_true,if_false,if_true,Qc1,qbk,slO_bb,qbe,must2,qnu,qnt]<;>rfl
 | true =>
  simp only[if_true,I_neg,qn2,qbe,qfg,Bool.true_and]
  cases p2<;>simp only[Bool.false_eq_true,if_false,if_true,I_neg,Qc1,qbk,slO_bb,qbe,must2,qnu,qnt,Bool.false_or,Bool.true_or]<;>rfl
theorem times_run (x y:Int):qbj B0 .cl (.fn 133 []) [two x y]=some (qqh (nTimes x y)):=by
 obtain⟨a,ha,hal⟩:=Qgl x
 obtain⟨b,hb,hbl⟩:=Qgl y
 have hm:=mul64_run a b hal hbl
 refine times_aux _ _ x y (Qmk x) (Qmk y) ?_
 rw[ha,hb,hm]
 rfl
end Go.Ab.Derive2


namespace Go.Ab.Derive2
open Go Go.Ab
theorem callC {d:Nat→RSh} {g:FuncId} {fn:RFn} {sh:RSh} {args cap:List PV} {u:PV} (ht:qjd g=some fn) (hg:Ql7 g) (ha:qb3 (args++cap)=true) (hl:Nat.ble (args++cap).length fn.nt=true)
  (hr:qf8 (qfj B0 d) fn sh qbc 0 ((args++cap).map KV.cv) ()=some (u,())) (hio:fn.io=false:=by rfl) (hb:Nat.blt g qf7=true:=by rfl):qbj B0 sh (.fn g cap) args=some u :=
 qzg (qhu d) ht ha (Nat.le_of_ble_eq_true hl) (qw6 hg (fun _=>none) _) hr hio hb
def Qb1:List UInt8:=[43]
def gSub:List UInt8:=[45]
def gMul:List UInt8:=[195,151]
def gDiv:List UInt8:=[195,183]
def gRes:List UInt8:=[124]
def gMax:List UInt8:=[226,140,136]
def gMin:List UInt8:=[226,140,138]
def gEq:List UInt8:=[61]
def gNe:List UInt8:=[226,137,160]
def gLt:List UInt8:=[60]
def gGt:List UInt8:=[62]
def gLe:List UInt8:=[226,137,164]
def gGe:List UInt8:=[226,137,165]
def gAnd:List UInt8:=[226,136,167]
def gOr:List UInt8:=[226,136,168]
def bitI (b:Bool):Int:=if b then 1 else 0
theorem qt9 (b:Bool):qbj B0 .cl (.fn 104 []) [.bool b]=some (I (bitI b)):=by
 refine call (d:=fun _=>.cl) rfl (by decide) rfl rfl ?_
 rw[List.map_cons,List.map_nil,run104]
 cases b<;>rfl
theorem or_bits (a b:Bool):qbb (.bin .or .num false (.c (I (bitI a))) (.c (I (bitI b))))=some (I (bitI (a||b))):=by cases a<;>cases b<;>rfl
theorem or_zero (b:Bool):qbb (.bin .or .num false (.c (I 0)) (.c (I (bitI b))))=some (I (bitI b)):=by cases b<;>rfl
theorem eqs_t (a:List UInt8):qbb (.bin .eql .str true (.c (.str a)) (.c (.str a)))=some (.bool true):=by rw[qwh];simp
theorem qrc {a b:List UInt8} (h:Nat.beq a.length b.length=false∨(a==b)=false):qbb (.bin .eql .str true (.c (.str a)) (.c (.str b)))=some (.bool false):=by
 rw[qwh]
 rcases h with h | h
 ·have:¬ a=b:=fun e=>by subst e;simp at h
  simp[this]
 ·rw[h]
def nCmp (g:List UInt8) (x y:Int):Bool :=
 if g=gEq then x==y else if g=gNe then x != y else if g=gLt then decide (x < y) else if g=gGt then decide (y < x)
 else if g=gLe then (x==y||decide (x < y)) else (x==y||decide (y < x))
theorem cmp_eq (x y:Int):qbj B0 .cl (.fn 138 []) [two x y,.str gEq]=some (qqh (bitI (nCmp gEq x y),.ok)):=by
 refine call (d:=fun _=>.cl) rfl (by decide) rfl rfl ?_
 rw[List.map_cons,List.map_cons,List.map_nil,Qbb,qgu,qbk,gEq]
 simp only[eqs_t,qrc (a:=[61]) (b:=[226,137,160]) (.inr rfl),qrc (a:=[61]) (b:=[226,137,164]) (.inr rfl),qrc (a:=[61]) (b:=[60]) (.inr rfl),qbe,qkz,qkp,qp8,qrl,qvb,qt9]
 rfl
theorem cmp_ne (x y:Int):qbj B0 .cl (.fn 138 []) [two x y,.str gNe]=some (qqh (bitI (nCmp gNe x y),.ok)):=by
 refine call (d:=fun _=>.cl) rfl (by decide) rfl rfl ?_
 rw[List.map_cons,List.map_cons,List.map_nil,Qbb,qgu,qbk,gNe]
 simp only[eqs_t,qbe,qkz,qp8,qrl,Qjw,qt9]
 rfl
theorem cmp_lt (x y:Int):qbj B0 .cl (.fn 138 []) [two x y,.str gLt]=some (qqh (bitI (nCmp gLt x y),.ok)):=by
 refine call (d:=fun _=>.cl) rfl (by decide) rfl rfl ?_
 rw[List.map_cons,List.map_cons,List.map_nil,Qbb,qgu,qbk,gLt]
 simp only[eqs_t,qrc (a:=[60]) (b:=[226,137,160]) (.inr rfl),qrc (a:=[60]) (b:=[226,137,164]) (.inr rfl),qbe,qkz,qkp,qp8,qrl,qfw,qt9,qfg,or_zero]
 rfl
theorem cmp_le (x y:Int):qbj B0 .cl (.fn 138 []) [two x y,.str gLe]=some (qqh (bitI (nCmp gLe x y),.ok)):=by
 refine call (d:=fun _=>.cl) rfl (by decide) rfl rfl ?_
 rw[List.map_cons,List.map_cons,List.map_nil,Qbb,qgu,qbk,gLe]
 simp only[eqs_t,qrc (a:=[226,137,164]) (b:=[226,137,160]) (.inr rfl),qbe,qkz,qkp,qp8,qrl,qfw,qvb,qt9,or_bits]
 rfl
theorem cmp_gt (x y:Int):qbj B0 .cl (.fn 138 []) [two x y,.str gGt]=some (qqh (bitI (nCmp gGt x y),.ok)):=by
 refine call (d:=fun _=>.cl) rfl (by decide) rfl rfl ?_
 rw[List.map_cons,List.map_cons,List.map_nil,Qbb,qgu,qbk,gGt]
 simp only[eqs_t,qrc (a:=[62]) (b:=[226,137,160]) (.inr rfl),qrc (a:=[62]) (b:=[226,137,164]) (.inr rfl),qrc (a:=[62]) (b:=[60]) (.inr rfl),qrc (a:=[62]) (b:=[61]) (.inr rfl),qrc (a:=[62]) (b:=[226,137,165]) (.inr rfl),qbe,qkz,qkp,qp8,qrl,Qjx,qt9,qfg,or_zero]
 rfl
theorem cmp_ge (x y:Int):qbj B0 .cl (.fn 138 []) [two x y,.str gGe]=some (qqh (bitI (nCmp gGe x y),.ok)):=by
 refine call (d:=fun _=>.cl) rfl (by decide) rfl rfl ?_
 rw[List.map_cons,List.map_cons,List.map_nil,Qbb,qgu,qbk,gGe]
 simp only[eqs_t,qrc (a:=[226,137,165]) (b:=[226,137,160]) (.inr rfl),qrc (a:=[226,137,165]) (b:=[226,137,164]) (.inr rfl),qrc (a:=[226,137,165]) (b:=[60]) (.inr rfl),qrc (a:=[226,137,165]) (b:=[61]) (.inr rfl),qbe,qkz,qkp,qp8,qrl,Qjx,qvb,qt9,or_bits]
 rfl
theorem qp7 {g:List UInt8} {x y:Int} {r:Int×NE} (h:qbj B0 .cl (.fn 138 []) [two x y,.str g]=some (qqh r)):qbj B0 .cl (.fn 137 [.ptr [.str g] 0]) [two x y]=some (qqh r):=by
 refine callC (d:=fun _=>.cl) rfl (by decide) rfl rfl ?_
 simp only[List.cons_append,List.nil_append,List.map_cons,List.map_nil]
 rw[run137,qgu,qbk]
 simp only[two_a,qbe,qrx,qxe,h,qnu,qnt]
 rfl
def andI (x y:Int):Int:=IntKind.i64.wrap (BitVec.ofInt 64 x &&& BitVec.ofInt 64 y).toNat
def orI (x y:Int):Int:=IntKind.i64.wrap (BitVec.ofInt 64 x ||| BitVec.ofInt 64 y).toNat
theorem and_run (x y:Int):qbb (.bin .and .num false (.c (I x)) (.c (I y)))=some (I (andI x y)):=rfl
theorem or_run (x y:Int):qbb (.bin .or .num false (.c (I x)) (.c (I y)))=some (I (orI x y)):=rfl
theorem shr1 (x:Int):qbb (.bin .shr .num true (.c (I x)) (.c (.int .u64 1)))=some (I (x.fdiv 2)):=rfl
theorem build_g (g:List UInt8):qbb (.build [.str []] [(0,(1,.c (.str g)))])=some (.agg [.str g]):=rfl
def Qm2 (g:List UInt8) (x y:Int):Int×NE:=chk1 ((x.fdiv 2==0)&&(y.fdiv 2==0)) (if g=gOr then orI x y else andI x y) (.dom g)
theorem logic_run (g:List UInt8) (x y:Int):qbj B0 .cl (.fn 140 []) [two x y,.str g]=some (qqh (Qm2 g x y)):=by
 refine call (d:=fun _=>.cl) rfl (by decide) rfl rfl ?_
 rw[List.map_cons,List.map_cons,List.map_nil,run140,qgu,qbk]
 simp only[qp8,qrl,qbe,and_run,or_run,shr1,qfg,qvb,qwh,qbh,build_g,Qc1,qbk,slO_bb,show PV.iface 143 (.agg [.str g])=(NE.dom g).pv from rfl,must2,qnu,qnt]
 unfold Qm2
 by_cases h:g=gOr
 ·subst h;rfl
 ·have:(g==[226,136,168])=false:=by simpa[gOr] using h
  simp only[this,h,Bool.false_eq_true,if_false]
  rfl
theorem Qce (g:List UInt8) (x y:Int):qbj B0 .cl (.fn 139 [.ptr [.str g] 0]) [two x y]=some (qqh (Qm2 g x y)):=by
 refine callC (d:=fun _=>.cl) rfl (by decide) rfl rfl ?_
 simp only[List.cons_append,List.nil_append,List.map_cons,List.map_nil]
 rw[run139,qgu,qbk]
 simp only[two_a,qbe,qrx,qxe,logic_run,qnu,qnt]
 rfl
theorem max_run (x y:Int):qbj B0 .cl (.fn 135 []) [two x y]=some (qqh (max x y,.ok)):=by
 refine call (d:=fun _=>.cl) rfl (by decide) rfl rfl ?_
 rw[List.map_cons,List.map_nil,run135,qgu,qbk]
 simp only[qp8,qrl,qbe,qbb,exec,List.map_cons,List.map_nil,RX.ev,qyp,I]
 by_cases h:y>x
 ·simp[h,Int.max_eq_right (by omega:x≤y)];rfl
 ·simp[h,Int.max_eq_left (by omega:y≤x)];rfl
theorem min_run' (x y:Int):qbj B0 .cl (.fn 136 []) [two x y]=some (qqh (min x y,.ok)):=by
 refine call (d:=fun _=>.cl) rfl (by decide) rfl rfl ?_
 rw[List.map_cons,List.map_nil,run136,qgu,qbk]
 simp only[qp8,qrl,qbe,qbb,exec,List.map_cons,List.map_nil,RX.ev,qyp,I]
 by_cases h:y < x
 ·simp[h,Int.min_eq_right (by omega:y≤x)];rfl
 ·simp[h,Int.min_eq_left (by omega:x≤y)];rfl
def qwc:PV:=.imap [.str Qb1,.fn 132 [],.str gSub,.fn 102 [],.str gMul,.fn 133 [],.str gDiv,.fn 106 [],.str gRes,.fn 134 [],
 .str gMax,.fn 135 [],.str gMin,.fn 136 [],
 .str gEq,.fn 137 [.ptr [.str gEq] 0],.str gNe,.fn 137 [.ptr [.str gNe] 0],.str gLt,.fn 137 [.ptr [.str gLt] 0],.str gGt,.fn 137 [.ptr [.str gGt] 0],.str gLe,.fn 137 [.ptr [.str gLe] 0],.str gGe,.fn 137 [.ptr [.str gGe] 0],
 .str gAnd,.fn 139 [.ptr [.str gAnd] 0],.str gOr,.fn 139 [.ptr [.str gOr] 0]]
theorem Qh4:qbj B0 .cl (.fn 75 []) []=some qwc:=qmq (n:=60) (by decide) (by kernel_rfl) rfl rfl
theorem qg8 {g x:List UInt8} {v:PV} {es:List PV} (h:¬ g=x):qm5 (.str g) (.str x :: v :: es)=qm5 (.str g) es:=by
 have:(g==x)=false:=by simp[h]
 simp[qm5,Qg5,this]
theorem qf2 {g:List UInt8} {v:PV} {es:List PV}:qm5 (.str g) (.str g :: v :: es)=some (some v):=by simp[qm5,Qg5]
def qn7 (g:List UInt8):Bool:=[Qb1,gSub,gMul,gDiv,gRes,gMax,gMin,gEq,gNe,gLt,gGt,gLe,gGe,gAnd,gOr].contains g
def nDy (g:List UInt8) (x y:Int):Int×NE :=
 if g=Qb1 then nAdd x y else if g=gSub then nTake x y else if g=gMul then nTimes x y else if g=gDiv then Qku x y else if g=gRes then (Qc6 x y,.ok)
 else if g=gMax then (max x y,.ok) else if g=gMin then (min x y,.ok)
 else if g=gEq∨g=gNe∨g=gLt∨g=gGt∨g=gLe∨g=gGe then (bitI (nCmp g x y),.ok)
 else if g=gAnd∨g=gOr then Qm2 g x y else (0,.dom g)
theorem dy_find (g:List UInt8):(∃ f,qm5 (.str g) (match qwc with | .imap es=>es | _=>[])=some (some f)∧qn7 g=true∧(∀ x y,qbj B0 .cl f [two x y]=some (qqh (nDy g x y)))∧okV f=true∧∃ k c,f=.fn k c)
  ∨ (qm5 (.str g) (match qwc with | .imap es=>es | _=>[])=some none∧qn7 g=false∧∀ x y,nDy g x y=(0,.dom g)):=by
 unfold qwc
 dsimp only
 by_cases h1:g=Qb1
 ·subst h1;exact .inl ⟨_,qf2,rfl,fun x y=>add_run x y,rfl,_,_,rfl⟩
 rw[qg8 h1]
 by_cases h2:g=gSub
 ·subst h2;exact .inl ⟨_,qf2,rfl,fun x y=>take_run x y,rfl,_,_,rfl⟩
 rw[qg8 h2]
 by_cases h3:g=gMul
 ·subst h3;exact .inl ⟨_,qf2,rfl,fun x y=>times_run x y,rfl,_,_,rfl⟩
 rw[qg8 h3]
 by_cases h4:g=gDiv
 ·subst h4;exact .inl ⟨_,qf2,rfl,fun x y=>divide_run x y,rfl,_,_,rfl⟩
 rw[qg8 h4]
 by_cases h5:g=gRes
 ·subst h5;exact .inl ⟨_,qf2,rfl,fun x y=>Qj9 x y,rfl,_,_,rfl⟩
 rw[qg8 h5]
 by_cases h6:g=gMax
 ·subst h6;exact .inl ⟨_,qf2,rfl,fun x y=>max_run x y,rfl,_,_,rfl⟩
 rw[qg8 h6]
 by_cases h7:g=gMin
 ·subst h7;exact .inl ⟨_,qf2,rfl,fun x y=>min_run' x y,rfl,_,_,rfl⟩
 rw[qg8 h7]
 by_cases h8:g=gEq
 ·subst h8;exact .inl ⟨_,qf2,rfl,fun x y=>qp7 (cmp_eq x y),rfl,_,_,rfl⟩
 rw[qg8 h8]
 by_cases h9:g=gNe
 ·subst h9;exact .inl ⟨_,qf2,rfl,fun x y=>qp7 (cmp_ne x y),rfl,_,_,rfl⟩
 rw[qg8 h9]
 by_cases h10:g=gLt
 ·subst h10;exact .inl ⟨_,qf2,rfl,fun x y=>qp7 (cmp_lt x y),rfl,_,_,rfl⟩
 rw[qg8 h10]
 by_cases h11:g=gGt
 ·subst h11;exact .inl ⟨_,qf2,rfl,fun x y=>qp7 (cmp_gt x y),rfl,_,_,rfl⟩
 rw[qg8 h11]
 by_cases h12:g=gLe
 ·subst h12;exact .inl ⟨_,qf2,rfl,fun x y=>qp7 (cmp_le x y),rfl,_,_,rfl⟩
 rw[qg8 h12]
 by_cases h13:g=gGe
 ·subst h13;exact .inl ⟨_,qf2,rfl,fun x y=>qp7 (cmp_ge x y),rfl,_,_,rfl⟩
 rw[qg8 h13]
 by_cases h14:g=gAnd
 ·subst h14;exact .inl ⟨_,qf2,rfl,fun x y=>Qce gAnd x y,rfl,_,_,rfl⟩
 rw[qg8 h14]
 by_cases h15:g=gOr
 ·subst h15;exact .inl ⟨_,qf2,rfl,fun x y=>Qce gOr x y,rfl,_,_,rfl⟩
 rw[qg8 h15]
 refine .inr ⟨rfl,?_,fun x y=>?_⟩
 ·simp[qn7,h1,h2,h3,h4,h5,h6,h7,h8,h9,h10,h11,h12,h13,h14,h15]
 ·simp[nDy,h1,h2,h3,h4,h5,h6,h7,h8,h9,h10,h11,h12,h13,h14,h15]
theorem Qdm (g:List UInt8):qbj B0 .cl (.fn 41 []) [.str g]=some (.bool (qn7 g)):=by
 refine call (d:=fun _=>.cl) rfl (by decide) rfl rfl ?_
 rw[List.map_cons,List.map_nil,run41,Qh4]
 simp only[qbe]
 rcases dy_find g with ⟨f,h1,h2,_,_,k,c,rfl⟩ | ⟨h1,h2,_⟩
 ·rw[h2,show qbb (.lookup .str .nilF false (.c qwc) (.c (.str g)))=some (.fn k c) by unfold qwc at h1 ⊢;simp only[qbb,exec,RX.ev];rw[h1];rfl]
  rfl
 ·rw[h2,show qbb (.lookup .str .nilF false (.c qwc) (.c (.str g)))=some .nilF by unfold qwc at h1 ⊢;simp only[qbb,exec,RX.ev];rw[h1];rfl]
  rfl
theorem dy_run (g:List UInt8) (x y:Int):qbj B0 .cl (.fn 78 []) [.str g,I x,I y]=some (.tup [I (nDy g x y).1,I (nDy g x y).2.no]):=by
 refine call (d:=fun _=>.cl) rfl (by decide) rfl rfl ?_
 rw[List.map_cons,List.map_cons,List.map_cons,List.map_nil,run78,Qh4]
 simp only[qbe]
 rcases dy_find g with ⟨f,h1,h2,h3,_,k,c,rfl⟩ | ⟨h1,h2,h3⟩
 ·rw[show qbb (.lookup .str .nilF true (.c qwc) (.c (.str g)))=some (.tup [.fn k c,.bool true]) by unfold qwc at h1 ⊢;simp only[qbb,exec,RX.ev];rw[h1];rfl]
  simp only[qbe,qgz,List.getElem?_cons_zero,List.getElem?_cons_succ,qdl,Bool.not_true,qkp]
  rw[show qbb (.build [.int .i64 0,.int .i64 0] [(0,(1,.c (I x))),(1,(1,.c (I y)))])=some (two x y) from rfl]
  simp only[qbe]
  rw[show qbb (.build [.int .i64 0,.int .i64 0] [(0,(2,.c (two x y)))])=some (two x y) from rfl]
  simp only[qbe,h3,qnu,qnt,Qgd]
 ·rw[show qbb (.lookup .str .nilF true (.c qwc) (.c (.str g)))=some (.tup [.nilF,.bool false]) by unfold qwc at h1 ⊢;simp only[qbb,exec,RX.ev];rw[h1];rfl]
  simp only[qbe,qgz,List.getElem?_cons_zero,List.getElem?_cons_succ,qdl,Bool.not_false,qkz,build_g,show PV.iface 143 (.agg [.str g])=(NE.dom g).pv from rfl,Qgd,h3]
  rfl
end Go.Ab.Derive2


namespace Go.Ab
theorem loop_inv {σ ρ α:Type} {step:σ→Option (Sum σ ρ)} (st:Nat→α→σ) (n:Nat) (P:Nat→α→Prop) (Q:ρ→Prop)
  (hs:∀ i a,i < n→P i a→(∃ a',step (st i a)=some (.inl (st (i+1) a'))∧P (i+1) a')∨∃ r,step (st i a)=some (.inr r)∧Q r)
  (he:∀ a,P n a→∃ r,step (st n a)=some (.inr r)∧Q r) {a0:α} (h0:P 0 a0):∃ r,qf0 step (st 0 a0)=some r∧Q r:=by
 have key:∀ m i a,i+m=n→P i a→∃ r,qf0 step (st i a)=some r∧Q r:=by
  intro m
  induction m with
  | zero =>
   intro i a hi hp
   obtain rfl:i=n:=by omega
   obtain⟨r,h1,h2⟩:=he a hp
   exact⟨r,qch h1,h2⟩
  | succ m ih =>
   intro i a hi hp
   rcases hs i a (by omega) hp with ⟨a',h1,h2⟩ | ⟨r,h1,h2⟩
   ·rw[qdg h1];exact ih _ _ (by omega) h2
   ·exact⟨r,qch h1,h2⟩
 exact key n 0 a0 (by omega) h0
theorem Qfe {E α:Type} {h:qbg E} {d:Nat} (st:Nat→α→E) (l:List (List PV)) (P:Nat→α→Prop) (Q:E→Prop)
  (hs:∀ i a (hi:i < l.length),P i a→(∃ a',h d l[i] (st i a)=some (true,st (i+1) a')∧P (i+1) a')∨∃ e',h d l[i] (st i a)=some (false,e')∧Q e')
  (he:∀ a,P l.length a→Q (st l.length a)) {a0:α} (h0:P 0 a0):∃ e',qc8 h d l (st 0 a0)=some e'∧Q e':=by
 have key:∀ m i a,i+m=l.length→P i a→∃ e',qc8 h d (l.drop i) (st i a)=some e'∧Q e':=by
  intro m
  induction m with
  | zero =>
   intro i a hi hp
   obtain rfl:i=l.length:=by omega
   rw[List.drop_eq_nil_of_le (Nat.le_refl _)]
   exact⟨_,rfl,he a hp⟩
  | succ m ih =>
   intro i a hi hp
   have hlt:i < l.length:=by omega
   rw[List.drop_eq_getElem_cons hlt]
   rcases hs i a hlt hp with ⟨a',h1,h2⟩ | ⟨e',h1,h2⟩
   ·simp only[qc8,h1];exact ih _ _ (by omega) h2
   ·simp only[qc8,h1];exact⟨_,rfl,h2⟩
 exact key l.length 0 a0 (by omega) h0
theorem yield_run {E:Type} {h:qbg E} {d:Nat} (st:Nat→E) (l:List (List PV)) (hs:∀ i (hi:i < l.length),h d l[i] (st i)=some (true,st (i+1))):qc8 h d l (st 0)=some (st l.length):=by
 obtain⟨e,h1,h2⟩:=Qfe (α:=Unit) (h:=h) (d:=d) (fun i _=>st i) l (fun _ _=>True) (fun e=>e=st l.length) (fun i _ hi _=>.inl ⟨(),hs i hi,trivial⟩) (fun _ _=>rfl) (a0:=()) trivial
 rw[h1,h2]
theorem range_then {E β:Type} {B:KB} {h:qbg E} {dep:Nat} {f:PV} {e:E} {K:E→Option β} {r:β} (e':E) (h1:qgd B h dep f e=some e') (h2:K e'=some r):qba (qgd B h dep f e) K=some r:=by
 rw[h1];exact h2
theorem qtl {E ρ:Type} {step:List PV×E→Option (Sum (List PV×E) ρ)} {h:qbg E} {d:Nat} (st:Nat→List PV) (l:List (List PV)) (fin:E→ρ)
  (hs:∀ i (hi:i < l.length) e e',h d l[i] e=some (true,e')→step (st i,e)=some (.inl (st (i+1),e')))
  (hf:∀ i (hi:i < l.length) e e',h d l[i] e=some (false,e')→step (st i,e)=some (.inr (fin e')))
  (he:∀ e,step (st l.length,e)=some (.inr (fin e))) {e e':E} (hy:qc8 h d l e=some e'):qf0 step (st 0,e)=some (fin e'):=by
 have key:∀ m i e,i+m=l.length→qc8 h d (l.drop i) e=some e'→qf0 step (st i,e)=some (fin e'):=by
  intro m
  induction m with
  | zero =>
   intro i e hi hq
   obtain rfl:i=l.length:=by omega
   rw[List.drop_eq_nil_of_le (Nat.le_refl _)] at hq
   rw[←Option.some.inj hq]
   exact qch (he e)
  | succ m ih =>
   intro i e hi hq
   have hlt:i < l.length:=by omega
   rw[List.drop_eq_getElem_cons hlt] at hq
   simp only[qc8] at hq
   split at hq
   ·rename_i e1 hh
    rw[qdg (hs i hlt e e1 hh)]
    exact ih _ _ (by omega) hq
   ·rename_i e1 hh
    rw[←Option.some.inj hq]
    exact qch (hf i hlt e e1 hh)
   ·cases hq
 exact key l.length 0 e (by omega) hy
@[simp] theorem nth_9 (a0 a1 a2 a3 a4 a5 a6 a7 a8 x:PV) (l:List PV):nth (a0 :: a1 :: a2 :: a3 :: a4 :: a5 :: a6 :: a7 :: a8 :: x :: l) 9=x:=rfl
@[simp] theorem Qgh (a0 a1 a2 a3 a4 a5 a6 a7 a8 a9 x:PV) (l:List PV):nth (a0 :: a1 :: a2 :: a3 :: a4 :: a5 :: a6 :: a7 :: a8 :: a9 :: x :: l) 10=x:=rfl
@[simp] theorem Qgg (a0 a1 a2 a3 a4 a5 a6 a7 a8 a9 a10 x:PV) (l:List PV):nth (a0 :: a1 :: a2 :: a3 :: a4 :: a5 :: a6 :: a7 :: a8 :: a9 :: a10 :: x :: l) 11=x:=rfl
@[simp] theorem Qgf (a0 a1 a2 a3 a4 a5 a6 a7 a8 a9 a10 a11 x:PV) (l:List PV):nth (a0 :: a1 :: a2 :: a3 :: a4 :: a5 :: a6 :: a7 :: a8 :: a9 :: a10 :: a11 :: x :: l) 12=x:=rfl
@[simp] theorem Qge (a0 a1 a2 a3 a4 a5 a6 a7 a8 a9 a10 a11 a12 x:PV) (l:List PV):nth (a0 :: a1 :: a2 :: a3 :: a4 :: a5 :: a6 :: a7 :: a8 :: a9 :: a10 :: a11 :: a12 :: x :: l) 13=x:=rfl
end Go.Ab


namespace Go.Ab.Derive2
open Go Go.Ab
inductive Qfc:List PV→List Arr→Prop
 | nil:Qfc [] []
 | cons {v:PV} {a:Arr} {vs:List PV} {l:List Arr}:IsA v a→Qfc vs l→Qfc (v :: vs) (a :: l)
theorem Qfc.ok {vs:List PV} {l:List Arr} (h:Qfc vs l):qb3 vs=true:=by
 induction h with
 | nil=>rfl
 | cons h _ ih=>simp[qb3,h.ok,ih]
theorem Qfc.len {vs:List PV} {l:List Arr} (h:Qfc vs l):vs.length=l.length:=by
 induction h with
 | nil=>rfl
 | cons h _ ih=>simp[ih]
theorem Qfc.get {vs:List PV} {l:List Arr} (h:Qfc vs l):∀ i (hi:i < l.length),∃ v,vs[i]?=some v∧IsA v l[i]:=by
 induction h with
 | nil=>intro i hi;simp at hi
 | cons h _ ih =>
  intro i hi
  cases i with
  | zero=>exact⟨_,rfl,h⟩
  | succ i=>exact ih i (by simpa using hi)
theorem Qgr {xs:List PV} {j:Nat} {f:Bool} {a b c:PV} (h:xs[j]?=some (.agg [a,b,c])):qbb (.idxAddr 3 (.c (.sl 3 xs f)) (.c (I j)))=some (.ptr [a,b,c] 0):=by
 rw[I,qry (by omega) h];rfl
theorem Qdb (a b c:PV):qbb (.load 3 true (.c (.ptr [a,b,c] 0)))=some (.agg [a,b,c]):=rfl
theorem fa3_0 (a b c:PV):qbb (.fieldAddr 0 (.c (.ptr [a,b,c] 0)))=some (.ptr [a,b,c] 0):=rfl
theorem fa3_1 (a b c:PV):qbb (.fieldAddr 1 (.c (.ptr [a,b,c] 0)))=some (.ptr [a,b,c] 1):=rfl
theorem fa3_2 (a b c:PV):qbb (.fieldAddr 2 (.c (.ptr [a,b,c] 0)))=some (.ptr [a,b,c] 2):=rfl
theorem ld3_1 (a b c:PV):qbb (.load 1 false (.c (.ptr [a,b,c] 1)))=some b:=rfl
theorem ld3_2 (a b c:PV):qbb (.load 1 false (.c (.ptr [a,b,c] 2)))=some c:=rfl
theorem okC_b (b:Bool):qbi (.bool b) 1=true:=rfl
theorem cellP_b (b:Bool):qbf (.bool b) 0=.bool b:=rfl
theorem bV {α β:Type} (a:α) (f:α→Option β):qba (some a) f=f a:=Eq.trans rfl rfl
theorem cT {β:Type} (a:Option β):qbq true a=a:=Eq.trans rfl rfl
theorem iD (n:Int):PV.int .i64 n=I n:=Eq.trans rfl rfl
theorem Qgb {a:Arr} {x:PV} (h:IsL x a.n):qbi (.agg [.bool a.li,.bool a.ru,x]) 3=true:=qwj (qwz rfl rfl h.cell)
theorem Qfg {a:Arr} {x:PV} (h:IsL x a.n):qjc (.agg [.bool a.li,.bool a.ru,x])=true:=qwz rfl rfl h.cell
inductive IsB:PV→List Arr→Prop
 | nil:IsB .nilS []
 | sl {vs:List PV} {l:List Arr} (f:Bool) (h:Qfc vs l):IsB (.sl 3 vs f) l
theorem IsB.ok {v:PV} {l:List Arr} (h:IsB v l):okV v=true:=by
 cases h with
 | nil=>rfl
 | sl f h=>simp[okV,h.ok]
theorem IsB.und {v:PV} {l:List Arr} (h:IsB v l):qg4 v=false:=by cases h<;>rfl
theorem IsB.len {v:PV} {l:List Arr} (h:IsB v l):qbb (.len .slice (.c v))=some (I l.length):=by
 cases h with
 | nil=>rfl
 | sl f h=>rw[qgk,h.len];rfl
theorem IsB.idx {v:PV} {l:List Arr} (h:IsB v l) {i:Nat} (hi:i < l.length):∃ x,qbb (.idxAddr 3 (.c v) (.c (I i)))=some (.ptr [.bool l[i].li,.bool l[i].ru,x] 0)∧IsL x l[i].n:=by
 cases h with
 | nil=>simp at hi
 | sl f h =>
  obtain⟨u,h1,h2⟩:=h.get i hi
  obtain⟨x,rfl,hx⟩:=h2.get
  exact⟨x,Qgr h1,hx⟩
theorem Qfc.snoc {vs:List PV} {l:List Arr} (h:Qfc vs l) {v:PV} {a:Arr} (ha:IsA v a):Qfc (vs++[v]) (l++[a]):=by
 induction h with
 | nil=>exact .cons ha .nil
 | cons h1 _ ih=>exact .cons h1 ih
def qjn (ru:Bool) (n:Int):Arr:=⟨false,ru,[n]⟩
def qwq (ru:Bool) (n:Int):PV:=.agg [.bool false,.bool ru,.sl 1 [I n] false]
theorem Qnj (ru:Bool) (n:Int):IsA (qwq ru n) (qjn ru n):=.mk _ _ _ _ (.sl [n] false)
theorem okSls_I (n:Int):qc7 1 [I n]=true:=rfl
theorem Qk9 (ru:Bool):∀ l:List Int,Qfc (l.map (qwq ru)) (l.map (qjn ru))
 | []=>.nil
 | n :: l=>.cons (Qnj ru n) (Qk9 ru l)
end Go.Ab.Derive2


namespace Go.Ab.Derive2
open Go Go.Ab
theorem one_run {v:PV} {a:Arr} (h:IsA v a) (n:Int):qbj B0 .cl (.fn 94 []) [v,I n]=some (qwq a.ru n):=by
 obtain⟨x,rfl,hx⟩:=h.get
 refine call (d:=fun _=>.cl) rfl (by decide) (by simp[qb3,h.ok]) rfl ?_
 rw[List.map_cons,List.map_cons,List.map_nil,run94,Qfg hx,cT]
 rfl
theorem agg33 {a:Arr} {x:PV} (h:IsL x a.n):qbb (.build [.bool false,.bool false,.nilS] [(0,(3,.c (.agg [.bool a.li,.bool a.ru,x])))])=some (.agg [.bool a.li,.bool a.ru,x]):=by
 have:=qwz (a:=.bool a.li) (b:=.bool a.ru) rfl rfl h.cell
 simp[qbb,exec,qhq,RX.ev,this,splice,chk,PV.cells]
theorem items_fn {a:Arr} {x:PV} (h:IsL x a.n):qbj B0 .cl (.fn 57 []) [.agg [.bool a.li,.bool a.ru,x]]=some (.fn 93 [.ptr [.bool a.li,.bool a.ru,x] 0]):=by
 refine call (d:=fun _=>.cl) rfl (by decide) (by simp[qb3,okV,h.ok]) rfl ?_
 rw[List.map_cons,List.map_nil,run57,Qfg h,cT]
 have:okU (.fn 93 [.ptr [.bool a.li,.bool a.ru,x] 0])=true:=by simp[okU,okV,qb3,h.ok]
 show qbq (okU (.fn 93 [.ptr [.bool a.li,.bool a.ru,x] 0])) _=_
 rw[this];rfl
theorem Qla {E:Type} (h:qbg E) (dep:Nat) {a:Arr} {x:PV} (hx:IsL x a.n) (hl:a.n.length≤1000000) {e e':E} (hy:qc8 h dep (a.n.map fun n=>[qwq a.ru n]) e=some e') :
  qgd B0 h dep (.fn 93 [.ptr [.bool a.li,.bool a.ru,x] 0]) e=some e':=by
 refine qlg (qhu fun _=>.cl) (g:=93) (fn:=fn93) rfl (by simp[qb3,okV,hx.ok]) (Nat.le_of_ble_eq_true rfl) (u:=.tup []) ?_
 simp only[List.map_cons,List.map_nil]
 rw[run93,fa3_0,bV,fa3_2,bV,ld3_2,bV,hx.len,bV,show qb9 [nI dep,.ptr [.bool a.li,.bool a.ru,x] 0,x,I a.n.length,.int .i64 0]=true by simp only[qb9,List.all_cons,hx.und];rfl,cT]
 have hA:IsA (.agg [.bool a.li,.bool a.ru,x]) a:=.mk _ _ _ _ hx
 have l3:qbb (.load 3 true (.c (.ptr [.bool a.li,.bool a.ru,x] 0)))=some (.agg [.bool a.li,.bool a.ru,x]):=rfl
 refine (qtl (h:=h) (d:=dep) (fun i=>[nI dep,.ptr [.bool a.li,.bool a.ru,x] 0,x,I a.n.length,I i]) (a.n.map fun n=>[qwq a.ru n]) (fun e=>(PV.tup [],e)) ?_ ?_ ?_ hy)
 ·intro i hi e e' hq
  rw[List.length_map] at hi
  rw[List.getElem_map] at hq
  simp only[qdw,qdv,qd4,qfz,qke,qfw,bV,qbh]
  rw[if_pos (by simpa using hi),hx.idx hi]
  simp only[bV,Qm9,l3,one_run hA,qp9,qfl,qr4,Int.toNat_natCast,hq,qdl,Bool.not_true,qbh,Bool.false_eq_true,if_false,iD,qri,qzp (by omega:i < 9223372036854775807)]
 ·intro i hi e e' hq
  rw[List.length_map] at hi
  rw[List.getElem_map] at hq
  simp only[qdw,qdv,qd4,qfz,qke,qfw,bV,qbh]
  rw[if_pos (by simpa using hi),hx.idx hi]
  simp only[bV,Qm9,l3,one_run hA,qp9,qfl,qr4,Int.toNat_natCast,hq,qdl,Bool.not_false,qbh,if_true]
 ·intro e
  rw[List.length_map]
  simp only[qdw,qdv,qd4,qfz,qke,qfw,bV,qbh,Int.lt_irrefl,decide_false,Bool.false_eq_true,if_false]
theorem slO_3 (vs:List PV):slO 3 3 vs 0 vs.length=.sl 3 vs false:=by
 unfold slO
 rw[if_pos ⟨rfl,by omega⟩,List.drop_zero,List.take_of_length_le (Nat.le_refl _)]
theorem slO_1 (l:List Int):slO 1 1 (qcy l) 0 l.length=.sl 1 (qcy l) false:=by
 unfold slO
 rw[if_pos ⟨rfl,by rw[qc5];omega⟩,List.drop_zero,List.take_of_length_le (by rw[qc5];exact Nat.le_refl _)]
theorem Qly {f:PV} {l:List Arr} {vs:List PV} (hf:okV f=true) (hv:Qfc vs l) (hl:l.length≤1000000)
  (hr:∀ {E:Type} (h:qbg E) {e e':E},qc8 h 0 (vs.map fun v=>[v]) e=some e'→qgd B0 h 0 f e=some e') :
  qbj B0 .cl (.fn 56 []) [f]=some (.sl 3 vs false):=by
 refine call (d:=fun _=>.cl) rfl (by decide) (by simp[qb3,hf]) rfl ?_
 rw[List.map_cons,List.map_nil,run56]
 have h1:qbj B0 .cl (.fn 92 []) [.nilS,f]=some (.sl 3 vs false):=by
  refine callK (d:=fun _=>.cl) (xs:=[.nils,.cv f]) rfl (by decide) ⟨trivial,hf,trivial⟩ (by intro x hx;simp at hx;rcases hx with rfl | rfl<;>rfl) rfl rfl ?_
  rw[run92]
  have hlen:=hv.len
  refine range_then (([.nilS,f,nI vs.length,.sl 3 vs false],(none,())):KRec Unit) (hr _ ?_) ?_
  ·refine (yield_run (fun i=>(([.nilS,f,nI i,.sl 3 (vs.take i) false],(none,())):KRec Unit)) _ fun i hi=>?_).trans ?_
   ·rw[List.length_map] at hi
    rw[List.getElem_map]
    obtain⟨v,h3,h4⟩:=hv.get i (by omega)
    rw[List.getElem?_eq_getElem hi] at h3
    obtain⟨x,hx,hx2⟩:=h4.get
    have hvi:vs[i]=.agg [.bool l[i].li,.bool l[i].ru,x]:=(Option.some.inj h3).trans hx
    simp only[qfs,if_true,qdw,qdv,qd4,qfz,hvi]
    rw[show qh1 [PV.agg [.bool l[i].li,.bool l[i].ru,x]] 1=true by simp[qh1,qb3,okV,hx2.ok],cT,Qgb hx2,cT]
    simp only[qnd,qnc,qln]
    rw[show qc7 3 [PV.agg [.bool l[i].li,.bool l[i].ru,x]]=true by simp[qc7,PV.isVal,PV.isCell,hx2.cell,PV.cells],cT]
    simp only[Ql4,lenL_eq,Qna,qp9,qfl,Int.toNat_natCast,qdz,Qmh,Qn2,catL_eq,Qd8,List.length_singleton,List.drop_zero,List.take_succ_cons,List.take_zero,List.length_take,Nat.min_eq_left (Nat.le_of_lt hi)]
    rw[show decide (0+1≤1)=true from rfl,cT,show (decide (i≤i)&&decide (i+1≤2147483648))=true by simp;omega,cT,List.take_take,Nat.min_self,←hvi,List.take_append_getElem hi]
   ·rw[List.length_map,List.take_of_length_le (Nat.le_refl _)]
  ·simp only[qd4,qfz,qdz,qp9,qfl,Int.toNat_natCast,slO_3]
   rw[show okU (.sl 3 vs false)=true by simp[okU,okV,hv.ok]]
   rfl
 rw[h1];rfl
def qt4 (c:Int):PV:=if c=0 then .nilI else .iface 124 (.agg [I c])
theorem errD_ok (c:Int):okV (qt4 c)=true:=by unfold qt4;split<;>rfl
theorem Qn1 (c:Int):qbb (.bin .neq .iface true (.c (qt4 c)) (.c .nilI))=some (.bool (decide (c≠0))):=by
 unfold qt4
 by_cases h:c=0<;>simp[h]<;>rfl
theorem Qh5 (c:Int):qbj B0 .cl (.fn 59 []) [qt4 c]=some (I c):=by
 refine call (d:=fun _=>.cl) rfl (by decide) (by simp[qb3,errD_ok]) rfl ?_
 rw[List.map_cons,List.map_nil,run59]
 unfold qt4
 by_cases h:c=0
 ·subst h;rfl
 ·simp only[h,if_false];rfl
def hdA (l:List Arr):Arr:=l.headD qj2
def Qb0 (li:Bool) (l:List Arr):Int :=
 if l.all Arr.right=false then 114 else if l.any Arr.li then 111 else if l.any (fun a=>a.ru != (hdA l).ru) then 102
 else if li=false∧l.length≠1 then 111 else if 200 < l.length then 113 else 0
def qqb (l:List Arr):List Int:=l.flatMap Arr.n
def gatA (li ru:Bool) (l:List Arr):Arr:=if Qb0 li l=0 then ⟨li,if l.length=0 then ru else (hdA l).ru,qqb l⟩ else qj2
theorem Qmo {a:Arr} (h:a.right=true):a.n.length≤200:=by
 unfold Arr.right at h
 simp only[Bool.and_eq_true] at h
 cases hl:a.li with
 | true=>simpa[hl] using h.2
 | false=>simp[hl] at h;omega
theorem catA_len {l:List Arr} (h:∀ a∈l,a.right=true):(qqb l).length≤200*l.length:=by
 induction l with
 | nil=>simp[qqb]
 | cons a l ih =>
  have h1:=Qmo (h a List.mem_cons_self)
  have h2:=ih fun b hb=>h b (List.mem_cons_of_mem _ hb)
  simp only[qqb,List.flatMap_cons,List.length_append,List.length_cons] at h2 ⊢
  omega
theorem qw3 {α:Type} {l:List α} {i:Nat} (h:i < l.length):l.take (i+1)=l.take i++[l[i]]:=(List.take_append_getElem h).symm
theorem Qjg {l:List Arr} {i:Nat} (h:i < l.length):qqb (l.take (i+1))=qqb (l.take i)++l[i].n:=by unfold qqb;rw[qw3 h,List.flatMap_append];simp only[List.flatMap_cons,List.flatMap_nil,List.append_nil]
theorem qlo {p:Arr→Bool} {l:List Arr} {i:Nat} (h:i < l.length):(l.take (i+1)).any p=((l.take i).any p||p l[i]):=by rw[qw3 h,List.any_append];simp only[List.any_cons,List.any_nil,Bool.or_false]
theorem hd_get {l:List Arr} (h:0 < l.length):hdA l=l[0]:=by
 cases l with
 | nil=>simp at h
 | cons a l=>rfl
theorem not_all {l:List Arr} {i:Nat} (h:i < l.length) (hr:l[i].right=false):l.all Arr.right=false:=by
 cases hq:l.all Arr.right with
 | false=>rfl
 | true=>rw[List.all_eq_true.1 hq _ (List.getElem_mem h)] at hr;cases hr
theorem gat_not {li ru:Bool} {l:List Arr} (h:l.all Arr.right=false):Qb0 li l=114∧gatA li ru l=qj2:=by
 have e:Qb0 li l=114:=by unfold Qb0;rw[if_pos h]
 exact⟨e,by unfold gatA;rw[e];rfl⟩
theorem gat_bad {li ru:Bool} {l:List Arr} (h:Qb0 li l≠0):gatA li ru l=qj2:=by unfold gatA;rw[if_neg h]
theorem build_lr (b c:Bool):qbb (.build [.bool false,.bool false,.nilS] [(0,(1,.c (.bool b))),(1,(1,.c (.bool c)))])=some (.agg [.bool b,.bool c,.nilS]):=rfl
theorem okC_lr (b c:Bool):qbi (.agg [.bool b,.bool c,.nilS]) 3=true:=rfl
theorem build0:qbb (.build [.bool false,.bool false,.nilS] [])=some (.agg [.bool false,.bool false,.nilS]):=rfl
theorem Qpd (c:Int):qbb (.build [.int .i64 0] [(0,(1,.c (.int .i64 c)))])=some (.agg [I c]):=rfl
theorem Qlh {v u:PV} {is:Arr} {l:List Arr} (hv:IsA v is) (hu:IsB u l) (hl:l.length≤1000000) (hs:∀ a∈l,a.n.length≤1000000) :
  ∃ w,qft B0 .cl false 58 [v,u]=some (.tup [w,qt4 (Qb0 is.li l)])∧IsA w (gatA is.li is.ru l):=by
 obtain⟨x,rfl,hx⟩:=hv.get
 suffices key:∃ r,qf8 (qfj B0 (fun _=>.cl)) fn58 (.cl) qbc 0 [.cv (.agg [.bool is.li,.bool is.ru,x]),.cv u] ()=some r∧∃ w,r=(.tup [w,qt4 (Qb0 is.li l)],())∧IsA w (gatA is.li is.ru l) by
  obtain⟨r,h1,w,rfl,h2⟩:=key
  exact⟨w,qx0 (qhu fun _=>.cl) (fn:=fn58) rfl (by simp[qb3,okV,hv.ok,hu.ok,hx.ok]) (Nat.le_of_ble_eq_true rfl) h1 (by rw[show qgr qjd 58=true from rfl,Bool.not_true,Bool.and_false]),h2⟩
 rw[run58,Qfg hx,cT]
 simp only[qga,qcv,qxf,qvk,bV,build_lr,okC_lr,cT,hu.len,qnd,qnc,qln]
 unfold Qkt
 dsimp only
 rw[show qb9 [u,.bool false,.bool false,u,I l.length,.int .i64 0]=true by simp only[qb9,List.all_cons,hu.und];rfl,cT]
 have hI:∀ i (hi:i < l.length),∃ y,qbb (.idxAddr 3 (.c u) (.c (I i)))=some (.ptr [.bool l[i].li,.bool l[i].ru,y] 0)∧IsL y l[i].n:=fun i hi=>hu.idx hi
 refine loop_inv (α:=Unit) (fun i _=>(([u,.bool ((l.take i).any Arr.li),.bool ((l.take i).any fun a=>a.ru != (hdA l).ru),u,I l.length,I i,.agg [.bool is.li,.bool is.ru,x],.bool false,.bool false,.nilS,.bool is.li,.bool (if i=0 then is.ru else (hdA l).ru),nI (qqb (l.take i)).length,.sl 1 (qcy (qqb (l.take i))) false],()):List PV×Unit)) l.length (fun i _=>∀ a∈l.take i,a.right=true) _ ?_ ?_ (by simp) (a0:=())
 ·intro i _ hi hp
  obtain⟨y,h1,h2⟩:=hI i hi
  obtain⟨y0,h3,h4⟩:=hI 0 (by omega)
  have hR:=qns (.mk _ _ _ _ h2:IsA (.agg [.bool l[i].li,.bool l[i].ru,y]) l[i]) (hs _ (List.getElem_mem hi))
  have hcl:=catA_len hp
  have hcl:(qqb (l.take i)).length≤200*i:=by simpa[Nat.min_eq_left (Nat.le_of_lt hi)] using hcl
  have e0:l[0].ru=(hdA l).ru:=by rw[hd_get (by omega)]
  simp only[qdw,qdv,qd4,qfz,qke,qqy,qfw,bV,qbh]
  rw[if_pos (by simpa using hi),h1]
  rw[show qbb (.idxAddr 3 (.c u) (.c (.int .i64 0)))=_ from h3]
  simp only[bV,show ∀ a b c:PV,qbb (.load 3 true (.c (.ptr [a,b,c] 0)))=some (.agg [a,b,c]) from fun _ _ _=>rfl,Qgb h2,cT,qnd,qnc,qln,hR,qdl,qbh]
  cases hr:l[i].right with
  | false =>
   right
   simp only[Bool.not_false,if_true]
   obtain⟨g1,g2⟩:=gat_not (li:=is.li) (ru:=is.ru) (not_all hi hr)
   rw[Qpd,bV]
   exact⟨_,rfl,_,by rw[g1];rfl,by rw[g2];exact qd3⟩
  | true =>
   left
   refine⟨(),?_,?_⟩
   ·have hn:=Qmo hr
    simp only[Bool.not_true,Bool.false_eq_true,if_false,fa3_1,bV,ld3_1,okC_b,cellP_b,cT,qm2,h2.elems,qri,iD,qzp (by omega:i < 9223372036854775807)]
    have hw:qnj (leN (qbz (nth [u,.bool ((l.take i).any Arr.li),.bool ((l.take i).any fun a=>a.ru != (hdA l).ru),u,I l.length,I i,.agg [.bool is.li,.bool is.ru,x],.bool false,.bool false,.nilS,.bool is.li,.bool (if i=0 then is.ru else (hdA l).ru),nI (qqb (l.take i)).length,.sl 1 (qcy (qqb (l.take i))) false] 12)) (qbu (qbl (nth [u,.bool ((l.take i).any Arr.li),.bool ((l.take i).any fun a=>a.ru != (hdA l).ru),u,I l.length,I i,.agg [.bool is.li,.bool is.ru,x],.bool false,.bool false,.nilS,.bool is.li,.bool (if i=0 then is.ru else (hdA l).ru),nI (qqb (l.take i)).length,.sl 1 (qcy (qqb (l.take i))) false] 13)))) (leN (qdu (qbz (nth [u,.bool ((l.take i).any Arr.li),.bool ((l.take i).any fun a=>a.ru != (hdA l).ru),u,I l.length,I i,.agg [.bool is.li,.bool is.ru,x],.bool false,.bool false,.nilS,.bool is.li,.bool (if i=0 then is.ru else (hdA l).ru),nI (qqb (l.take i)).length,.sl 1 (qcy (qqb (l.take i))) false] 12)) (qbu (qcy l[i].n))) 2147483648)=true:=by
     show qnj (leN (qbz (nI (qqb (l.take i)).length)) (qcy (qqb (l.take i))).length) (leN (qdu (qbz (nI (qqb (l.take i)).length)) (qcy l[i].n).length) 2147483648)=true
     simp only[qp9,qfl,Int.toNat_natCast,Qna,Qd8,Ql4,qc5,decide_eq_true_eq,Bool.and_eq_true]
     omega
    rw[hw]
    have e1:nI (qdu (qbz (nI (qqb (l.take i)).length)) (qbu (qcy l[i].n)))=nI (qqb (l.take (i+1))).length:=by
     rw[Qjg hi];simp[qc5]
    have e2:(PV.sl 1 (qpk (qb1 (qbz (nI (qqb (l.take i)).length)) (qcy (qqb (l.take i)))) (qcy l[i].n)) false)=.sl 1 (qcy (qqb (l.take (i+1)))) false:=by
     rw[Qjg hi];simp[qye,Qdo]
    have e3:(if i+1=0 then is.ru else (hdA l).ru)=(hdA l).ru:=if_neg (by omega)
    have fin:∀ b c:Bool,b=(l.take (i+1)).any Arr.li→c=((l.take (i+1)).any fun a=>a.ru != (hdA l).ru) →
      (some (Sum.inl (([u,.bool b,.bool c,u,I l.length,I ((i+1:Nat):Int),.agg [.bool is.li,.bool is.ru,x],.bool false,.bool false,.nilS,.bool is.li,.bool l[0].ru,nI (qdu (qbz (nI (qqb (l.take i)).length)) (qbu (qcy l[i].n))),.sl 1 (qpk (qb1 (qbz (nI (qqb (l.take i)).length)) (qcy (qqb (l.take i)))) (qcy l[i].n)) false],()):List PV×Unit)):Option (Sum (List PV×Unit) (PV×Unit))) =
      some (Sum.inl ([u,.bool ((l.take (i+1)).any Arr.li),.bool ((l.take (i+1)).any fun a=>a.ru != (hdA l).ru),u,I l.length,I ((i+1:Nat):Int),.agg [.bool is.li,.bool is.ru,x],.bool false,.bool false,.nilS,.bool is.li,.bool (if i+1=0 then is.ru else (hdA l).ru),nI (qqb (l.take (i+1))).length,.sl 1 (qcy (qqb (l.take (i+1)))) false],())):=by
     intro b c hb hc
     rw[e1,e2,e3,e0,hb,hc]
    simp only[cT]
    cases hb:(l.take i).any Arr.li<;>cases hc:(l.take i).any (fun a=>a.ru != (hdA l).ru) <;>
     simp only[if_true,if_false,Bool.false_eq_true]
    ·exact fin _ _ (by rw[qlo hi,hb];rfl) (by rw[qlo hi,hc,←e0];rfl)
    ·exact fin _ _ (by rw[qlo hi,hb];rfl) (by rw[qlo hi,hc];rfl)
    ·exact fin _ _ (by rw[qlo hi,hb];rfl) (by rw[qlo hi,hc,←e0];rfl)
    ·exact fin _ _ (by rw[qlo hi,hb];rfl) (by rw[qlo hi,hc];rfl)
   ·intro a ha
    rw[qw3 hi] at ha
    rcases List.mem_append.1 ha with h | h
    ·exact hp a h
    ·rw[List.mem_singleton.1 h];exact hr
 ·intro _ hp
  rw[List.take_of_length_le (Nat.le_refl _)] at hp ⊢
  have hall:l.all Arr.right=true:=List.all_eq_true.2 hp
  simp only[qdw,qdv,qd4,qfz,qke,qqy,qr3,qfw,bV,qbh,Int.lt_irrefl,decide_false,Bool.false_eq_true,if_false,build0,Qpd,okC_lr,cT,qga,qcv,qxf,qdl,hu.len,iD,Qjw,Qjx,qnd,qnc,qln]
  have hA:¬ l.all Arr.right=false:=by rw[hall];simp
  have bad:∀ {c:Int},Qb0 is.li l=c→c≠0→qt4 (Qb0 is.li l)=.iface 124 (.agg [I c])∧gatA is.li is.ru l=qj2:=fun {c} h h0=>⟨by rw[h];exact if_neg h0,gat_bad (by rw[h];exact h0)⟩
  simp only[Qgh,Qgg,Qgf,Qge,qp9,qfl,qr4,qdz,iD,Int.toNat_natCast,slO_1]
  cases h1:l.any Arr.li with
  | true =>
   obtain⟨b1,b2⟩:=bad (c:=111) (by unfold Qb0;rw[if_neg hA,if_pos h1]) (by decide)
   exact⟨_,rfl,_,by rw[b1];rfl,by rw[b2];exact qd3⟩
  | false =>
   have n1:¬ l.any Arr.li=true:=by rw[h1];simp
   cases h2:l.any (fun a=>a.ru != (hdA l).ru) with
   | true =>
    obtain⟨b1,b2⟩:=bad (c:=102) (by unfold Qb0;rw[if_neg hA,if_neg n1,if_pos h2]) (by decide)
    exact⟨_,rfl,_,by rw[b1];rfl,by rw[b2];exact qd3⟩
   | false =>
    have n2:¬ (l.any fun a=>a.ru != (hdA l).ru)=true:=by rw[h2];simp
    by_cases h3:is.li=false∧l.length≠1
    ·have e5:((l.length:Int) != 1)=true:=by have:=h3.2;simp;omega
     obtain⟨b1,b2⟩:=bad (c:=111) (by unfold Qb0;rw[if_neg hA,if_neg n1,if_neg n2,if_pos h3]) (by decide)
     rw[h3.1] at b1 b2 ⊢
     rw[e5]
     exact⟨_,rfl,_,by rw[b1];rfl,by rw[b2];exact qd3⟩
    ·have e5:(if (!is.li)=true then some (PV.bool ((l.length:Int) != 1)) else some (.bool false))=some (.bool false):=by
      cases hq:is.li with
      | true=>rfl
      | false =>
       have:l.length=1:=by
        rw[hq] at h3
        by_cases hz:l.length=1
        ·exact hz
        ·exact absurd ⟨rfl,hz⟩ h3
       simp[this]
     rw[e5]
     by_cases h4:200 < l.length
     ·obtain⟨b1,b2⟩:=bad (c:=113) (by unfold Qb0;rw[if_neg hA,if_neg n1,if_neg n2,if_neg h3,if_pos h4]) (by decide)
      rw[decide_eq_true (by omega:(200:Int) < (l.length:Int))]
      exact⟨_,rfl,_,by rw[b1];rfl,by rw[b2];exact qd3⟩
     ·have hE:Qb0 is.li l=0:=by unfold Qb0;rw[if_neg hA,if_neg n1,if_neg n2,if_neg h3,if_neg h4]
      rw[decide_eq_false (by omega:¬ (200:Int) < (l.length:Int)),hE,show gatA is.li is.ru l=⟨is.li,if l.length=0 then is.ru else (hdA l).ru,qqb l⟩ from if_pos hE,
       show okU (.tup [.agg [.bool is.li,.bool (if l.length=0 then is.ru else (hdA l).ru),.sl 1 (qcy (qqb l)) false],.nilI])=true by simp[okU,okV,qb3,qkw]]
      exact⟨_,rfl,_,rfl,.mk _ _ _ _ (.sl _ _)⟩
end Go.Ab.Derive2


namespace Go.Ab.Derive2
open Go Go.Ab
theorem qgt {v:PV} {a:Arr} (h:IsA v a):qjc v=true:=by
 obtain⟨x,rfl,hx⟩:=h.get
 rw[qgy,qwz rfl rfl hx.cell]
theorem ql1 {v:PV} {a:Arr} (h:IsA v a):qb2 v 0 3 true=some v:=by
 obtain⟨x,rfl,hx⟩:=h.get
 rfl
theorem qcq {v:PV} {a:Arr} (h:IsA v a):qbi v 3=true:=by
 obtain⟨x,rfl,hx⟩:=h.get
 exact qwj (qwz rfl rfl hx.cell)
theorem qhw {v:PV} {a:Arr} (h:IsA v a):PV.agg [qbf v 0,qbf v 1,qbf v 2]=v:=by
 obtain⟨x,rfl,hx⟩:=h.get
 rfl
theorem IsL.at {v:PV} {l:List Int} (h:IsL v l) {i:Nat} {n:Int} (hi:l[i]?=some n):qbb (.idxAddr 1 (.c v) (.c (I i)))=some (.ptr [I n] 0):=by
 obtain⟨h1,h2⟩:=List.getElem?_eq_some_iff.1 hi
 rw[h.idx h1,h2]
end Go.Ab.Derive2

