/-
  Part 5 of a proof: a machine of our own for the given program, its laws, and what it says of the program. Nothing here is a claim by itself.
-/
import Derived.Test.YtbeonejdegijfaaGreatDoorK04
import Derived.Test.YtbeonejdegijfaaGreatDoorK03
import Derived.RowKit
import Derived.Lib.AppendIntMem
import Derived.Lib.CountLaws
import Derived.Lib.Replace
import Derived.Lib.ItoaNum
import Derived.Conc.MuLone
import Derived.Test.YtbeonejdegijfaaGreatDoorProg
import Derived.Test.YtbeonejdegijfaaGreatDoorK01
import Derived.KernelRfl
import Derived.IntWalk
import Derived.Lib.Mul64
import Derived.Lib.EndianBits
set_option linter.all false

namespace Go.Ab
mutual
theorem qrk:∀ (p x:KV),qhl p x=true→x.ok→qqb p x.pv=some (qdi p x)
 | .un,x,h,_=>by cases x<;>simp[qhl] at h;rfl
 | .sk,x,h,_=>by cases x<;>simp[qhl] at h;rfl
 | .yld d,x,h,_=>by cases x<;>simp[qhl] at h;rfl
 | .ref nm o,x,h,_=>by cases x<;>simp[qhl] at h;obtain⟨rfl,rfl⟩:=h;simp[qqb,KV.pv,qdi,qbn]
 | .aref _ _ _ _,x,h,_=>by simp[qhl] at h
 | .mp nm,x,h,_=>by cases x<;>simp[qhl] at h;subst h;simp[qqb,KV.pv,qdi,qbn]
 | .it nm,x,h,_=>by cases x<;>simp[qhl] at h;subst h;simp[qqb,KV.pv,qdi,qbn]
 | .wit nm,x,h,_=>by cases x<;>simp[qhl] at h;subst h;simp[qqb,KV.pv,qdi,qbn]
 | .arr nm k o n,x,h,_=>by
  cases x with
  | arr nm' k' o' n' =>
   simp only[qhl] at h
   simp only[KV.pv,qqb,qdi]
   rw[h];rfl
  | _=>simp[qhl] at h
 | .lit b,x,h,hx=>qsj hx (by simpa[qhl] using h)
 | .nils,x,h,hx=>qsj hx (by simpa[qhl] using h)
 | .cv v,x,h,hx=>qsj hx (by simpa[qhl] using h)
 | .fn f cap,x,h,hx=>by
  cases x with
  | fn f' cap' =>
   simp only[qhl,Bool.and_eq_true,beq_iff_eq] at h
   obtain⟨rfl,h⟩:=h
   simp only[KV.pv,qqb,if_true,qdi]
   exact qjw cap cap' h hx
  | _=>simp[qhl] at h
 | .tup xs,x,h,hx=>by
  cases x with
  | tup ys =>
   simp only[qhl] at h
   simp only[KV.pv,qqb,qdi]
   exact qjw xs ys h hx
  | _=>simp[qhl] at h
 | .agg cs,x,h,hx=>by
  simp only[qhl] at h
  simp only[qqb,qdi]
  by_cases hc:(clL cs).isSome=true
  ·rw[if_pos hc] at h
   rw[if_pos hc,if_pos hc]
   exact qsj hx h
  ·rw[if_neg hc] at h
   rw[if_neg hc,if_neg hc]
   cases x with
   | agg cs'=>exact qjw cs cs' h hx
   | _=>simp at h
 | .iface t y,x,h,hx=>by
  simp only[qhl] at h
  simp only[qqb,qdi]
  by_cases hc:y.cl.isSome=true
  ·rw[if_pos hc] at h
   rw[if_pos hc,if_pos hc]
   exact qsj hx h
  ·rw[if_neg hc] at h
   rw[if_neg hc,if_neg hc]
   cases x with
   | iface t' y' =>
    simp only[Bool.and_eq_true,beq_iff_eq] at h
    obtain⟨rfl,h⟩:=h
    simp only[KV.pv,if_true]
    exact qrk y y' h hx
   | _=>simp at h
theorem qjw:∀ (ps xs:List KV),Qbn ps xs=true→qf7 xs→qzd ps (pvL xs)=some (qhr ps xs)
 | [],xs,h,_=>by cases xs<;>simp[Qbn] at h;rfl
 | p :: ps,xs,h,hx=>by
  cases xs with
  | nil=>simp[Qbn] at h
  | cons x xs =>
   simp only[Qbn,Bool.and_eq_true] at h
   simp only[pvL,qzd,qhr]
   rw[qrk p x h.1 hx.1,qjw ps xs h.2 hx.2]
theorem qsj {x:KV} (hx:x.ok) (h:x.cl.isSome=true):qbn (okV x.pv) (some [x.pv])=some [x.cl.getD .undef]:=by
 obtain⟨v,hv⟩:=Option.isSome_iff_exists.1 h
 have h1:=KV.cl_ok hx hv
 rw[KV.cl_pv hv,hv]
 simp[qbn,h1]
end
theorem Qfs (p x:KOb) (h:qj7 p x=true) (hx:x.ok):qjv p x.ob=some (qpa p x):=by
 cases p with
 | cells ty cs =>
  cases x with
  | cells ty' cs' =>
   simp only[qj7,Bool.and_eq_true,beq_iff_eq] at h
   obtain⟨rfl,h⟩:=h
   simp only[qjv,KOb.ob,if_true]
   exact qjw cs cs' h hx
  | _=>simp[qj7] at h
 | whole ty w =>
  cases x with
  | whole ty' v =>
   simp only[qj7,beq_iff_eq] at h
   subst h
   have hx':okV v=true:=hx
   have h2:qb1 (qfu v)=true:=qcn hx'
   simp[qjv,KOb.ob,qpa,qbn,h2]
  | _=>simp[qj7] at h
 | arr k kt ws =>
  cases x with
  | arr k' kt xs =>
   simp only[qj7,Bool.and_eq_true,beq_iff_eq] at h
   obtain⟨rfl,rfl⟩:=h
   have hx':qb1 xs=true:=hx
   simp[qjv,KOb.ob,qpa,qg3,qbn,hx']
  | _=>simp[qj7] at h
 | map ws =>
  cases x with
  | map es =>
   have hx':qb1 es=true:=hx
   simp[qjv,KOb.ob,qpa,qg3,qbn,hx']
  | _=>simp[qj7] at h
 | siter s0 p0 =>
  cases x with
  | siter s pos=>rfl
  | _=>simp[qj7] at h
theorem ql4:∀ (ps xs:List KOb),qhv ps xs=true→(∀ o∈xs,o.ok)→qng ps (xs.map KOb.ob)=some (qmg ps xs)
 | [],[],_,_=>rfl
 | [],_ :: _,h,_=>by simp[qhv] at h
 | _ :: _,[],h,_=>by simp[qhv] at h
 | p :: ps,x :: xs,h,hx=>by
  simp only[qhv,Bool.and_eq_true] at h
  simp only[List.map_cons,qng,qmg]
  rw[Qfs p x h.1 (hx x List.mem_cons_self),ql4 ps xs h.2 fun o ho=>hx o (List.mem_cons_of_mem _ ho)]
theorem kwit_pv {x:KV} (h:x.ok):qqs x.pv=Qcq x:=by
 cases x with
 | arr nm k o n =>
  simp only[KV.pv,Qcq,qqs]
  by_cases hc:k=1∧o=0∧n=0
  ·obtain⟨rfl,rfl,rfl⟩:=hc;rfl
  ·rw[if_neg hc]
   split
   ·rename_i heq
    cases heq
    exact absurd ⟨rfl,rfl,rfl⟩ hc
   ·rfl
 | cv v =>
  have hv:okV v=true:=h
  simp only[KV.pv,Qcq]
  unfold qqs
  split
  ·simp[okV] at hv
  ·rfl
 | _=>rfl
section
variable {ks:KSt}
theorem kioEnd_ok (hk:ks.Ok) {P:qkh} {v:KV} (hv:v.ok) {rs:List PV} (h:Qhz P ks v=some rs):∃ out,qt2 none 1 0 (qhy P.ins.length) ks.st v.pv=some out∧ioFit P out=some rs:=by
 unfold Qhz at h
 split at h
 case h_2=>cases h
 rename_i sp hkeep
 simp only at h
 have hsp:qlh ks.nt sp:=hk.kp sp (by rw[hkeep];exact List.mem_singleton.2 rfl)
 have hst:ks.st.keep=qdk ks.nt sp:=by
  show ks.keep.flatMap (qdk ks.nt)=_
  rw[hkeep];simp
 have hw:∀ j,qqs (ks.st.keep.getD j .undef)=Qcq (qcg sp j):=fun j=>by
  rw[hst,qjc hsp,kwit_pv (hsp.get_ok j)]
 have hA:qg8 (qhy P.ins.length) ks.st.keep=qlr P.ins.length sp:=by
  unfold qg8 qlr
  exact List.map_congr_left fun p _=>by rw[hw]
 have hG:qv2 (qhy P.ins.length) ks.st.keep=Qfh P.ins.length sp:=by
  unfold qv2 Qfh
  congr 1
  exact List.filter_congr fun p _=>by rw[hw]
 have hlk:=qdp hk
 have hnm:∀ m:Nm,((qbo ks.st.objs m).map Ob.names).getD []=((qc0 ks.objs m).map KOb.names).getD []:=by
  intro m
  rw[qj3 hk]
  cases hl:qc0 ks.objs m with
  | none=>rfl
  | some o =>
   simp only[Option.map_some,Option.getD_some]
   exact KOb.ob_names (qda hk.ob hl)
 have hN:qyx (qbo ks.st.objs) (qlr P.ins.length sp) v.pv=Qfg (qc0 ks.objs) (qlr P.ins.length sp) v:=by
  unfold qyx Qfg
  rw[KV.pv_names hv]
  have e1:((qlr P.ins.length sp).flatMap fun p=>((qbo ks.st.objs p.1).map Ob.names).getD [])=(qlr P.ins.length sp).flatMap fun p=>((qc0 ks.objs p.1).map KOb.names).getD []:=by
   congr 1;funext p;exact hnm p.1
  rw[e1,hlk,←qgl (qcj hk)]
 generalize qlr P.ins.length sp=A at h hA hN
 generalize hNd:Qfg (qc0 ks.objs) A v=N at h hN
 generalize hB:(A++N.zipIdx.map fun p=>(p.1,(1,0+p.2)))=B at h
 split at h
 case isFalse=>cases h
 rename_i hcd
 obtain⟨hnd,hgone,hfit⟩:=hcd
 cases h
 simp only[Bool.and_eq_true] at hfit
 obtain⟨hf1,hf2,hf3⟩:=hfit
 have hoff:(fun m=>if (B.map (·.1)).contains m then none else some none:Nm→Option (Option Ob))=qqn fun m=>!(B.map (·.1)).contains m:=by
  funext m
  show (if (B.map (·.1)).contains m=true then none else some none)=if (!(B.map (·.1)).contains m)=true then some none else none
  cases (B.map (·.1)).contains m<;>rfl
 have hob:∀ nm,ioOb (qbo ks.st.objs) B nm=(Qlz (qc0 ks.objs) B nm).ob∧(Qlz (qc0 ks.objs) B nm).ok:=by
  intro nm
  unfold ioOb Qlz
  have hok:((qc0 ks.objs nm).getD qso).ok:=by
   cases hl:qc0 ks.objs nm with
   | none=>exact rfl
   | some o=>exact qda hk.ob hl
  have hobs:((qbo ks.st.objs nm).getD qhx)=((qc0 ks.objs nm).getD qso).ob:=by
   rw[qj3 hk]
   cases qc0 ks.objs nm<;>rfl
  rw[hoff,hobs,←KOb.off_ob _ hok,←KOb.ren_ob _ (KOb.off_ok _ hok)]
  exact⟨rfl,KOb.ren_ok _ (KOb.off_ok _ hok)⟩
 refine⟨{v:=(v.pv.sub fun m=>if (B.map (·.1)).contains m then none else some none).ren fun m=>(B.lookup m).getD m,new:=N.map (ioOb (qbo ks.st.objs) B),ups:=A.map fun p=>(p.2,ioOb (qbo ks.st.objs) B p.1),gone:=Qfh P.ins.length sp,io:=true},?_,?_⟩
 ·unfold qt2
  simp only
  rw[hA,hN,hB,hG]
  simp[chk,hnd]
 ·unfold ioFit
  simp only
  rw[if_pos hgone]
  have e1:(v.pv.sub fun m=>if (B.map (·.1)).contains m then none else some none).ren (fun m=>(B.lookup m).getD m)=((v.off fun m=>!(B.map (·.1)).contains m).ren fun m=>(B.lookup m).getD m).pv:=by
   rw[hoff,←KV.off_pv _ hv,←KV.ren_pv _ (KV.off_ok _ hv)]
  have e2:(A.map fun p=>(p.2,ioOb (qbo ks.st.objs) B p.1)).map (·.2)=(A.map fun p=>Qlz (qc0 ks.objs) B p.1).map KOb.ob:=by
   rw[List.map_map,List.map_map]
   exact List.map_congr_left fun p _=>(hob p.1).1
  have e3:N.map (ioOb (qbo ks.st.objs) B)=(N.map (Qlz (qc0 ks.objs) B)).map KOb.ob:=by
   rw[List.map_map]
   exact List.map_congr_left fun m _=>(hob m).1
  rw[e1,e2,e3,qrk _ _ hf1 (KV.ren_ok _ (KV.off_ok _ hv)),ql4 _ _ hf2 (fun o ho=>by
   obtain⟨p,_,rfl⟩:=List.mem_map.1 ho;exact (hob p.1).2),ql4 _ _ hf3 (fun o ho=>by
   obtain⟨m,_,rfl⟩:=List.mem_map.1 ho;exact (hob m).2)]
end
mutual
theorem Qpp {vs:List PV} (hv:qb1 vs=true):∀ (p:KV) (i:Nat),(fill p vs i).1.ok
 | .un,i | .sk,i | .yld _,i | .ref _ _,i | .aref _ _ _ _,i | .mp _,i | .it _,i | .wit _,i | .arr _ _ _ _,i=>trivial
 | .lit _,i | .nils,i | .cv _,i=>Qcf hv i
 | .fn f cap,i=>qms hv cap i
 | .tup xs,i=>qms hv xs i
 | .agg cs,i=>by
  simp only[fill]
  split
  ·exact Qcf hv i
  ·exact qms hv cs i
 | .iface t y,i=>by
  simp only[fill]
  split
  ·exact Qcf hv i
  ·exact Qpp hv y i
theorem qms {vs:List PV} (hv:qb1 vs=true):∀ (ps:List KV) (i:Nat),qf7 (qjb ps vs i).1
 | [],i=>trivial
 | p :: ps,i=>⟨Qpp hv p i,qms hv ps _⟩
theorem Qcf {vs:List PV} (hv:qb1 vs=true) (i:Nat):okV (nth vs i)=true:=by
 unfold nth
 rw[List.getD_eq_getElem?_getD]
 cases h:vs[i]? with
 | none=>rfl
 | some x=>exact qjj hv h
end
theorem fillOb_any {vs:List PV} (hv:qb1 vs=true) (p:KOb) (i:Nat):(qdt p vs i).1.ok:=by
 cases p with
 | cells ty cs=>exact qms hv cs i
 | whole ty w=>exact Qcf hv i
 | arr k kt xs =>
  have:=Qcf hv i
  show qb1 (qbs (nth vs i))=true
  unfold qbs
  split
  ·rename_i heq;rw[heq] at this;simpa[okV] using this
  ·rfl
 | map es =>
  have:=Qcf hv i
  show qb1 (Qmk (nth vs i))=true
  unfold Qmk
  split
  ·rename_i heq;rw[heq] at this;simpa[okV] using this
  ·rfl
 | siter s p=>trivial
theorem qzk {vs:List PV} (hv:qb1 vs=true):∀ (ps:List KOb) (i:Nat),(∀ o∈(qdd ps vs i).1,o.ok)∧(qdd ps vs i).1.length=ps.length
 | [],i=>⟨fun o ho=>(by cases ho),rfl⟩
 | p :: ps,i=>by
  obtain⟨h1,h2⟩:=qzk hv ps (qdt p vs i).2
  refine⟨fun o ho=>?_,by simp[qdd,h2]⟩
  simp only[qdd,List.mem_cons] at ho
  rcases ho with rfl | ho
  ·exact fillOb_any hv p i
  ·exact h1 o ho
theorem Qpq {vs:List PV}:∀ (ps:List KV) (i:Nat),(∀ p∈ps,qpe p=false)→(∀ x∈(qjb ps vs i).1,qpe x=false)∧(qjb ps vs i).1.length=ps.length
 | [],i,_=>⟨fun o ho=>(by cases ho),rfl⟩
 | p :: ps,i,hp=>by
  obtain⟨h1,h2⟩:=Qpq (vs:=vs) ps (fill p vs i).2 fun q hq=>hp q (List.mem_cons_of_mem _ hq)
  refine⟨fun x hx=>?_,by simp[qjb,h2]⟩
  simp only[qjb,List.mem_cons] at hx
  rcases hx with rfl | hx
  ·exact un_fill (hp p List.mem_cons_self)
  ·exact h1 x hx
theorem qc7 {cfg:qz8} {tab:FuncId→Option RFn} (hc:qll cfg tab) {g:FuncId} {fn:RFn} (ht:tab g=some fn) {P:qkh} {Pf:List KV→List KOb→qkh} (hPf:cfg.ioF g=some Pf) {xs:List KV} {obs:List KOb} (hP:Pf xs obs=P) (hun:P.args.all (fun p=>!qpe p)=true) {vs rs:List PV} (hv:qb1 vs=true)
  (hr:qfz cfg fn P vs=some rs):ioO cfg.b P g vs=some rs:=by
 obtain⟨fn',ht',hnt,hll⟩:=hc.ioP g Pf hPf
 have hla:=(hll xs obs).1
 have hli:=(hll xs obs).2
 rw[hP] at hla hli
 rw[ht] at ht';cases ht'
 unfold qfz at hr
 simp only at hr
 rw[qc3] at hr
 obtain⟨u1,u2⟩:=Qpq (vs:=vs) P.args 0 fun p hp=>by simpa using List.all_eq_true.1 hun p hp
 have a1:=qms hv P.args 0
 obtain⟨b1,b2⟩:=qzk hv P.ins (qjb P.args vs 0).2
 generalize has:(qjb P.args vs 0).1=aas at hr u1 u2 a1
 generalize hos:(qdd P.ins vs (qjb P.args vs 0).2).1=os at hr b1 b2
 obtain⟨i1,i2⟩:=Ql5 (nt:=fn.nt) a1 u1 (by omega)
 have hwsp:qlh fn.nt (((List.range P.ins.length).filter fun j=>!fn.gone.contains j).map fun j=>(j,KV.wit (0,j))):=by
  refine⟨?_,?_,?_,?_⟩
  ·rw[List.map_map]
   have:((fun p:Nat×KV=>p.1)∘fun j=>(j,KV.wit (0,j)))=id:=rfl
   rw[this,List.map_id]
   exact List.pairwise_lt_range.filter _
  ·intro p hp
   obtain⟨j,hj,rfl⟩:=List.mem_map.1 hp
   have:=List.mem_range.1 (List.mem_filter.1 hj).1
   simp only;omega
  ·intro p hp
   obtain⟨j,hj,rfl⟩:=List.mem_map.1 hp
   trivial
  ·intro p hp
   obtain⟨j,hj,rfl⟩:=List.mem_map.1 hp
   rfl
 have hso:qkq fn.nt [(0,os)]:=⟨by simp,by simp[hnt],fun p hp o ho=>by simp only[List.mem_singleton] at hp;subst hp;exact b1 o ho⟩
 have hks:({nt:=fn.nt,tmps:=aas.zipIdx.map fun p=>(p.2,p.1),objs:=[(0,os)],keep:=[((List.range P.ins.length).filter fun j=>!fn.gone.contains j).map fun j=>(j,KV.wit (0,j))]}:KSt).Ok :=
  ⟨i1.tm,hso,fun sp hsp=>by simp only[List.mem_singleton] at hsp;subst hsp;exact hwsp⟩
 have hst:({nt:=fn.nt,tmps:=aas.zipIdx.map fun p=>(p.2,p.1),objs:=[(0,os)],keep:=[((List.range P.ins.length).filter fun j=>!fn.gone.contains j).map fun j=>(j,KV.wit (0,j))]}:KSt).st=ioSt fn.gone fn.nt (os.map KOb.ob) (pvL aas):=by
  have e1:qdk fn.nt (aas.zipIdx.map fun p=>(p.2,p.1))=pvL aas++List.replicate (fn.nt - (pvL aas).length) .undef:=congrArg St.tmps i2
  unfold KSt.st ioSt
  simp only
  rw[e1]
  congr 1
  ·refine qje (by simp) fun i hi=>?_
   by_cases h0:i=0
   ·subst h0
    rw[List.getElem?_set_self (by simpa using hnt)]
    rfl
   ·rw[List.getElem?_set_ne (Ne.symm h0),List.getElem?_replicate,if_pos hi]
    have:qcq [(0,os)] i=[]:=by
     simp only[qcq]
     cases hb:Nat.beq i 0 with
     | true=>exact absurd (qcp hb) h0
     | false=>rfl
    rw[this];rfl
  ·simp only[List.flatMap_cons,List.flatMap_nil,List.append_nil]
   refine qlb (by simp[wits]) fun i hi=>?_
   unfold wits
   rw[List.getElem?_map,List.getElem?_range hi]
   simp only[Option.map_some,List.length_map]
   by_cases hij:i < os.length∧fn.gone.contains i=false
   ·rw[if_pos hij]
    have hm:(i,KV.wit (0,i))∈((List.range P.ins.length).filter fun j=>!fn.gone.contains j).map fun j=>(j,KV.wit (0,j)):=List.mem_map.2 ⟨i,List.mem_filter.2 ⟨List.mem_range.2 (by have:=hij.1;omega),by simp only[hij.2,Bool.not_false]⟩,rfl⟩
    rw[show qcg (((List.range P.ins.length).filter fun j=>!fn.gone.contains j).map fun j=>(j,KV.wit (0,j))) i=KV.wit (0,i) from hwsp.get_mem hm]
    rfl
   ·rw[if_neg hij]
    rw[show qcg (((List.range P.ins.length).filter fun j=>!fn.gone.contains j).map fun j=>(j,KV.wit (0,j))) i=.un from qxl fun p hp=>by
     obtain⟨j,hj,rfl⟩:=List.mem_map.1 hp
     obtain⟨h1,h2⟩:=List.mem_filter.1 hj
     have:=List.mem_range.1 h1
     simp only
     intro e
     subst e
     exact hij ⟨by omega,by simpa using h2⟩]
    rfl
 have fin:∀ {k1:KSt},k1.Ok→(qvw k1 fn.res fun vs=>Qhz P k1 (qvy vs))=some rs→(∀ v,qm9 k1.st fn.res=some v→Evl fun n=>qt0 (qj6 cfg.b.sp tab n) n fn (os.map KOb.ob) (pvL aas)=some (k1.st,qq5 v))→ioO cfg.b P g vs=some rs:=by
  intro k1 hk1 hr hx
  obtain⟨ws,hr,hws,h1⟩:=Qhw hk1 fn.res hr
  obtain⟨o1,o2⟩:=Qhy hws
  obtain⟨out,g1,g2⟩:=kioEnd_ok hk1 o1 hr
  have hI:cfg.b.I g (os.map KOb.ob) (pvL aas)=some (k1.st,(qvy ws).pv):=by
   rw[hc.I]
   unfold limIo
   rw[ht,o2]
   exact qyh (hx _ h1)
  unfold ioO
  rw[hos,has,hI]
  simp only[g1,g2]
 split at hr
 ·rename_i hD
  obtain⟨x,k1,e1,hr,hk1,hev⟩:=Qfy hc fn.code (h:=qbc) (hn:=fun _=>qbc) noH 0 hks hr
  rw[hst] at hev
  cases x with
  | exit id=>cases hr
  | _ =>
   refine fin hk1 hr fun v h1=>hev.mono fun n hn'=>?_
   unfold qt0
   rw[if_pos hD,hn']
   simp only[h1]
 ·rename_i hD
  obtain⟨x,k1,l,hr,hk1,hev⟩:=evalDK_ok hc fn.code hks hr
  rw[hst] at hev
  cases x with
  | exit id=>cases hr
  | _ =>
   obtain⟨k2,hr,hk2,hdf⟩:=dfrsK_ok hc l hk1 hr
   refine fin hk2 hr fun v h1=>hev.mono2 hdf fun n hn' hd'=>?_
   unfold qt0
   rw[if_neg hD,hn']
   simp only[hd',h1]
end Go.Ab


namespace Go.Ab
section sp
variable {cx:Cx} {E:Type} {w0:World} {I0 F0:Nat→Prop} {O0:Own} {Hd:Nat→Option Obj} {R:qly E} {e:E} {ds:List Deferred} {I F:Nat→Prop} {lp:Nat→Option Nat} {L:Loc} {tmv suf:List Value} {st:St} {w w':World} {dst:Option Nat}
theorem qlz (hs:SR lp I L st tmv suf w) (hf:Fr cx w0 I0 F0 O0 Hd R e ds I F L w) (h:Qkr w w') {u:PV} {v:Value} (hv:qbz w' I lp (some L) u v) :
  ∃ I' L',SR lp I' L' (apply st dst {v:=u}) (Qlf tmv dst v) suf w'∧Fr cx w0 I0 F0 O0 Hd R e ds I' F L' w':=by
 have hx:Ext I F w I F w':=⟨h.os,h.tape,h.output,h.size,fun b hb _=>h.same b hb,fun _ h=>h,fun _ h=>.inl h,fun _ h=>.inl h⟩
 have hi:IF I F w':=⟨fun b hb=>Nat.lt_of_lt_of_le (hf.sep.iB b hb) h.size,fun b hb=>⟨Nat.lt_of_lt_of_le (hf.sep.fB b hb).1 h.size,(hf.sep.fB b hb).2⟩⟩
 have hw:cx.Wd I w':=cx.stab I I w w' hf.wd (fun _ h=>h) (fun b hb=>h.same b (hf.sep.iB b hb)) h.size
 have hr:R.rel e I F w':=R.stab e I I F w w' hf.re (fun _ h=>h) (fun b hb=>h.same b (hb.elim (hf.sep.iB b) fun h=>(hf.sep.fB b h).1)) h.size
 refine⟨I,L,?_,hf.called hx hi hw hr⟩
 have h2:=hs.called hf hx
 cases dst with
 | none=>exact h2
 | some d=>exact h2.put d hv
theorem qg6 (w:World):Qkr w w:=⟨rfl,rfl,rfl,Nat.le_refl _,fun _ _=>rfl⟩
theorem Qkx (hs:SR lp I L st tmv suf w) (hf:Fr cx w0 I0 F0 O0 Hd R e ds I F L w) {nm:Nm} {b C:Nat} (hL:L nm=some (some (b,C)))
  (h1:w'.os=w.os) (h2:w'.tape=w.tape) (h3:w'.output=w.output) (h4:w.heap.size≤w'.heap.size) (hk:∀ k,k < w.heap.size→k≠b→w'.heap[k]?=w.heap[k]?)
  {ob:Ob} (hob:ObRep w' I lp L b C ob) {u:PV} {v:Value} (hv:qbz w' I lp (some L) u v) :
  ∃ I' L',SR lp I' L' (apply st dst {v:=u,upd:=some (nm,ob)}) (Qlf tmv dst v) suf w'∧Fr cx w0 I0 F0 O0 Hd R e ds I' F L' w':=by
 have hI:∀ k,I k→w'.heap[k]?=w.heap[k]?:=fun k hi=>hk k (hf.sep.iB k hi) fun e=>(hf.lB nm b C hL).2.2.1 (e ▸ hi)
 have hfr:Fr cx w0 I0 F0 O0 Hd R e ds I F L w':=hf.own h1 h2 h3 h4
  (fun k hb hno=>hk k hb fun e=>hno nm C (e ▸ hL)) (fun _ h=>h) (fun _ h=>.inl h)
  (fun nm' b' C' h=>⟨Nat.lt_of_lt_of_le (hf.lB nm' b' C' h).2.1 h4,(hf.lB nm' b' C' h).2.2.1,.inr ⟨nm',C',h⟩⟩) hf.inj
 have hsr:SR lp I L {st with objs:=qcy st.objs nm ob} tmv suf w':=hs.upd hL hI
  (fun m b' C' hm h=>hk b' (hf.lB m b' C' h).2.1 fun e=>hm (hf.inj m nm b' C' C h (e ▸ hL))) hob
 refine⟨I,L,?_,hfr⟩
 cases dst with
 | none=>exact hsr
 | some d=>exact hsr.put d hv
theorem sp_gone (hs:SR lp I L st tmv suf w) (hf:Fr cx w0 I0 F0 O0 Hd R e ds I F L w) {nm:Nm} {p:Option (Nat×Nat)} (hL:L nm=some p)
  (h1:w'.os=w.os) (h2:w'.tape=w.tape) (h3:w'.output=w.output) (h4:w.heap.size≤w'.heap.size) (hk:∀ b',b' < w.heap.size→(∀ C,p≠some (b',C))→w'.heap[b']?=w.heap[b']?)
  {u:PV} {v:Value} (hv:∀ L':Loc,qbz w' I lp (some L') u v) :
  ∃ I' L',SR lp I' L' (apply st dst {v:=u,upd:=some (nm,qhx),kill:=some nm}) (Qlf tmv dst v) suf w'∧Fr cx w0 I0 F0 O0 Hd R e ds I' F L' w':=by
 have hI:∀ b',I b'→w'.heap[b']?=w.heap[b']?:=fun b' hb'=>hk b' (hf.sep.iB b' hb') fun C e=>(hf.lB nm b' C (by rw[hL,e])).2.2.1 hb'
 have hu:=hs.regrow (w':=w') (k:=0) (kt:=0) (xs:=[]) (p':=none) hL hI
  (fun m b' C' hm hn=>hk b' (hf.lB m b' C' hn).2.1 fun C e=>hm (hf.inj m nm b' C' C hn (by rw[hL,e]))) ⟨0,0,rfl⟩
 refine⟨I,(fun m=>if m=nm then some none else L m),?_,?_⟩
 ·cases dst with
  | none=>exact hu
  | some d=>exact hu.put d (hv _)
 ·refine hf.own h1 h2 h3 h4 (fun b' hb' hn=>hk b' hb' fun C e=>hn nm C (by rw[hL,e])) (fun _ h=>h) (fun _ h=>.inl h) ?_ ?_
  ·intro m b' C' hn
   by_cases hm:m=nm
   ·simp[hm] at hn
   ·simp only[hm,if_false] at hn
    exact⟨by have:=(hf.lB m b' C' hn).2.1;omega,(hf.lB m b' C' hn).2.2.1,.inr ⟨m,C',hn⟩⟩
  ·intro m m' b' C1 C2 hn hn'
   by_cases hm:m=nm
   ·simp[hm] at hn
   ·by_cases hm':m'=nm
    ·simp[hm'] at hn'
    ·simp only[hm,hm',if_false] at hn hn'
     exact hf.inj m m' b' C1 C2 hn hn'
end sp
theorem Qk8 {w:World} {I:Nat→Prop} {lp:Nat→Option Nat} {L:Option Loc} {a:PV} {us:List Value} (h:qbv w I lp L [a] us):∃ u,us=[u]∧qbz w I lp L a u:=by
 obtain⟨u,r,h1,rfl,h2⟩:∃ u r,qbz w I lp L a u∧us=u :: r∧qbv w I lp L [] r:=by
  cases h;exact⟨_,_,by assumption,rfl,by assumption⟩
 cases h2
 exact⟨u,rfl,h1⟩
theorem qwj {w:World} {I:Nat→Prop} {lp:Nat→Option Nat} {L:Option Loc} {a b:PV} {us:List Value} (h:qbv w I lp L [a,b] us):∃ u v,us=[u,v]∧qbz w I lp L a u∧qbz w I lp L b v:=by
 obtain⟨u,r,h1,rfl,h2⟩:∃ u r,qbz w I lp L a u∧us=u :: r∧qbv w I lp L [b] r:=by
  cases h;exact⟨_,_,by assumption,rfl,by assumption⟩
 obtain⟨v,rfl,h3⟩:=Qk8 h2
 exact⟨u,v,rfl,h1,h3⟩
theorem qnz {W:World} {b o:Nat} {c:Array Value} {n:Value} {E':TypeId} {fr:Nat×Nat} (h:W.heap[b]?=some (.cells c E' fr)):(W.setCell ⟨b,o,none⟩ n).heap[b]?=some (.cells (c.setIfInBounds o n) E' fr):=by
 simp[World.setCell,Array.getElem?_modify,h]
theorem qny (W:World) (a:Addr) (n:Value):(W.setCell a n).heap.size=W.heap.size:=by simp[World.setCell]
theorem cell_of_heap {w w':World} {b:Nat} (h:w'.heap[b]?=w.heap[b]?) (o:Nat):w'.cell? ⟨b,o,none⟩=w.cell? ⟨b,o,none⟩:=by
 simp only[World.cell?,h]
theorem arr_one {c:Array Value} (h:c.size=1):∃ n,c=#[n]:=by
 refine⟨c[0],?_⟩
 apply Array.ext
 ·simp[h]
 ·intro i h1 h2
  have:i=0:=by omega
  subst this;rfl
end Go.Ab


namespace Go.Ab
open Go
def ErrVars (gs:List Nat) (T:Nat) (I:Nat→Prop) (w:World):Prop :=
 ∃ ad:Nat→Addr,(∀ g∈gs,I g∧I (ad g).block∧(∃ E f,w.heap[g]?=some (.cells #[.iface T (.pointer (some (ad g)))] E f))∧∃ c t,w.heap[(ad g).block]?=some (.cells c t (0,0)))∧∀ g∈gs,∀ g'∈gs,g≠g'→ad g≠ad g'
structure WVars (gs:List Nat) (T:Nat) (et:List (Nat×Value)) (tabs:List (Nat×Array Value)) (ns:List Nat) (I:Nat→Prop) (w:World):Prop where
 err:ErrVars gs T I w
 et0:∀ p∈et,I p.1∧w.cell? ⟨p.1,0,none⟩=some p.2
 tab:∀ p∈tabs,I p.1∧∃ E f,w.heap[p.1]?=some (.cells p.2 E f)
 num:∀ g∈ns,I g∧∃ m,w.cell? ⟨g,0,none⟩=some (.int .i64 m)
def globsE (gs:List Nat) (T:Nat):qnu:=fun g=>if gs.contains g then some [.glob g T] else none
noncomputable def cxOf (P:Program) (mixed:P.follows .mixedOrders=true) (gs:List Nat) (T:Nat) (et:List (Nat×Value)) (tabs:List (Nat×Array Value)) (ns:List Nat):Cx where
 P:=P
 mixed:=mixed
 G:=globsE gs T
 Wd I w:=WVars gs T et tabs ns I w
 stab I I' w w' h h1 h2 _:=by
  obtain⟨⟨ad,e1,e2⟩,e0,ht,hn⟩:=h
  refine⟨⟨ad,fun g hg=>?_,e2⟩,fun p hp=>⟨h1 _ (e0 p hp).1,by rw[cell_of_heap (h2 _ (e0 p hp).1)];exact (e0 p hp).2⟩,fun p hp=>?_,fun g hg=>?_⟩
  ·obtain⟨a1,a2,a3,a4⟩:=e1 g hg
   exact⟨h1 _ a1,h1 _ a2,by rw[h2 _ a1];exact a3,by rw[h2 _ a2];exact a4⟩
  ·obtain⟨a1,a2⟩:=ht p hp
   exact⟨h1 _ a1,by rw[h2 _ a1];exact a2⟩
  ·obtain⟨a1,m,a2⟩:=hn g hg
   exact⟨h1 _ a1,m,by rw[cell_of_heap (h2 _ a1)];exact a2⟩
 gl I w g cs h hg lp L:=by
  unfold globsE at hg
  split at hg
  ·rename_i hgg
   cases hg
   obtain⟨ad,e1,_⟩:=h.err
   obtain⟨a1,a2,⟨E,f,a3⟩,a4⟩:=e1 g (by simpa using hgg)
   exact qbz.ptr (off:=0) (o:=0) [.glob g T] g _ _ _ a1 a3 (by simp) (by simp) (by simp[One];rfl) (by simp;exact .cons _ _ _ _ (.glob g T _ _ _ _ a1 a3 rfl) .nil)
  ·cases hg
def SpAt (cx:Cx) (g:FuncId) (st:St) (vs:List PV) (out:Out):Prop:=qf1 cx.P g ∧
  ∀ (E:Type) (w0:World) (I0 F0:Nat→Prop) (O0:Own) (Hd:Nat→Option Obj) (R:qly E) (e:E) (ds:List Deferred) (I F:Nat→Prop) (lp:Nat→Option Nat) (L:Loc) (tmv suf us:List Value) (w:World) (dst:Option Nat),
   SR lp I L st tmv suf w→Fr cx w0 I0 F0 O0 Hd R e ds I F L w→qbv w I lp (some L) vs us→(∀ d,dst=some d→st.objs[d]?=some []) →
   CallsIn Fence.wide 0 cx.P g us.toArray w fun
    | .returned v,w'=>∃ I' L',SR lp I' L' (apply st dst {out with v:=out.v.ren (qjp (dst.getD 0))}) (Qlf tmv dst v) suf w'∧Fr cx w0 I0 F0 O0 Hd R e ds I' F L' w'
    | _,_=>False
def qwg (f:(Nm→Option Ob)→List PV→Option Out):Prop:=∀ σ σ' vs,(∀ nm∈qcl σ qbm (qbl vs),σ nm=σ' nm)→f σ vs=f σ' vs
theorem qsr {w:World} {I:Nat→Prop} {lp:Nat→Option Nat} {L:Option Loc} {g:Nat} {t:TypeId} {v:Value} (h:qbz w I lp L (.glob g t) v):∃ x c E fr,v=.iface t x∧w.heap[g]?=some (.cells c E fr)∧c[0]?=some (.iface t x):=by
 cases h with
 | glob g t x c E fr hI hb hv=>exact⟨x,c,E,fr,rfl,hb,hv⟩
theorem qsk {w w':World} (h:Go.RowKit.Below w.heap.size w w'):Qkr w w':=⟨h.os,h.tape,h.output,h.size,h.block⟩
def Qbe (ps:List (Nat×Nat)) (σ:Nm→Option Ob):List PV→Option Out
 | [.nilI,.iface p (.ref _ o)]=>if (ps.lookup p).isSome=true∧o=0 then some {v:=.bool false} else none
 | [.iface t x,.iface p (.ref nm o)]=>match σ nm with
  | some (.cells ty cs)=>if ps.lookup p=some t∧o=0∧cs.length=1∧qbi x 1=true then some {v:=.bool true,upd:=some (nm,.cells ty x.cells)} else none
  | _=>none
 | _=>none
structure AsOK (P:Program) (g:FuncId) (ge:Nat) (et:Value) (ps:List (Nat×Nat)):Prop where
 enters:qf1 P g
 none:∀ (v:Value) (w:World),Calls P g #[.nilIface,v] w fun e w'=>e=.returned (.bool false)∧w'=w
 hit:∀ p t,ps.lookup p=some t→∀ (v n:Value),v.cells=#[n]→n.oneCell'=true→∀ (a:Addr) (old:Value) (w:World),w.cell? ⟨ge,0,Option.none⟩=some et→w.cell? a=some old→w.frozen? a=false →
  Calls P g #[.iface t v,.iface p (.pointer (some a))] w fun e w'=>e=.returned (.bool true)∧∃ o1 o2 o3 o4,w'=((((w.alloc o1).alloc o2).alloc o3).alloc o4).setCell a n
section at_
variable {P:Program} {mx:P.follows .mixedOrders=true} {gs:List Nat} {T:Nat} {et:List (Nat×Value)} {tabs:List (Nat×Array Value)} {ns:List Nat}
theorem as_at {g:FuncId} {ps:List (Nat×Nat)} {ge:Nat} {ev:Value} (hge:(ge,ev)∈et) (hA:AsOK P g ge ev ps) {st:St} {vs:List PV} {out:Out} (h:Qbe ps (qbo st.objs) vs=some out):SpAt (cxOf P mx gs T et tabs ns) g st vs out:=by
 refine⟨hA.enters,?_⟩
 unfold Qbe at h
 split at h
 ·split at h
  ·rename_i hp
   obtain⟨hp,rfl⟩:=hp
   cases h
   intro E w0 I0 F0 O0 Hd R e ds I F lp L tmv suf us w dst hs hf hu hd
   obtain⟨u,v,rfl,h1,h2⟩:=qwj hu
   rw[qkn h1]
   refine callsIn_wide.2 ((hA.none v w).mono ?_)
   rintro ev w' ⟨rfl,rfl⟩
   exact qlz hs hf (qg6 _) (.bool false)
  ·cases h
 ·split at h
  ·rename_i t x p nm o _ ty cs hlk
   split at h
   ·rename_i hp
    obtain⟨hpp,rfl,hc1,hx1⟩:=hp
    cases h
    intro E w0 I0 F0 O0 Hd R e ds I F lp L tmv suf us w dst hs hf hu hd
    obtain⟨u,v,rfl,h1,h2⟩:=qwj hu
    obtain⟨u',rfl,hx⟩:=qmn h1
    obtain⟨v',rfl,hr⟩:=qmn h2
    obtain⟨b,C,hL,rfl⟩:=qg9 hr
    obtain⟨q,hq,hob⟩:=hs.ob nm _ hlk
    rw[hL] at hq;cases hq
    obtain⟨c,E',hb,hC,hone,hcs⟩:=hob
    unfold qbi at hx1
    simp only[Bool.and_eq_true,beq_iff_eq] at hx1
    obtain⟨hu1,hu2⟩:=hx.cells hx1.1
    have len1:u'.cells.size=1:=by
     have:=hu2.length
     simpa[hx1.2] using this.symm
    have lenc:c.size=1:=by
     have:=hcs.length
     simpa[hc1] using this.symm
    obtain⟨n,hn⟩:∃ n,u'.cells=#[n]:=arr_one len1
    obtain⟨old,rfl⟩:∃ n,c=#[n]:=arr_one lenc
    have hn1:n.oneCell'=true:=hu1 n (by simp[hn])
    have hbl:b < w.heap.size:=(hf.lB nm b C hL).2.1
    refine callsIn_wide.2 ((hA.hit p t hpp u' n hn hn1 ⟨b,0,none⟩ old w (hf.wd.et0 _ hge).2 (by simp[World.cell?,hb]) (by simp[World.frozen?,hb])).mono ?_)
    rintro ev w' ⟨rfl,o1,o2,o3,o4,hw'⟩
    have hother:∀ k,k < w.heap.size→k≠b→w'.heap[k]?=w.heap[k]?:=fun k hk hkb=>by
     subst hw'
     rw[Go.RowKit.Below.heap_setCell _ _ _ _ hkb,qb3 _ _ (by simp;omega),qb3 _ _ (by simp;omega),qb3 _ _ (by simp;omega),qb3 _ _ hk]
    have hself:w'.heap[b]?=some (.cells #[n] E' (0,0)):=by
     subst hw'
     suffices key:((((w.alloc o1).alloc o2).alloc o3).alloc o4).heap[b]?=some (.cells #[old] E' (0,0)) by
      have:=qnz (o:=0) (n:=n) key
      simpa using this
     rw[qb3 _ _ (by simp;omega),qb3 _ _ (by simp;omega),qb3 _ _ (by simp;omega),qb3 _ _ hbl]
     exact hb
    have hI:∀ k,I k→w'.heap[k]?=w.heap[k]?:=fun k hk=>hother k (hf.sep.iB k hk) fun e=>(hf.lB nm b C hL).2.2.1 (e ▸ hk)
    refine Qkx hs hf hL (by subst hw';rfl) (by subst hw';rfl) (by subst hw';rfl) (by subst hw';rw[qny];simp;omega) hother ?_ (.bool true)
    exact⟨#[n],E',hself,hC,⟨fun v hv=>by simp at hv;subst hv;exact hn1,hone.2⟩,qbv.mono (fun _ h=>h) hI (fun _ _ h=>h) (by rw[hn] at hu2;exact hu2)⟩
   ·cases h
  ·cases h
 ·cases h
theorem as_here (ps:List (Nat×Nat)):qwg (Qbe ps):=by
 intro σ σ' vs h
 unfold Qbe
 split
 ·rfl
 ·rename_i t x p nm o
  rw[h nm (qdh _ _ nm (by simp[qbl,PV.names]))]
 ·rfl
def spIsG (gs:List Nat) (T:Nat) (S:List Nat):List PV→Option Out
 | [.nilI,.glob g t]=>if g∈gs∧t=T then some {v:=.bool false} else none
 | [.glob g t,.glob g' t']=>if g∈gs∧g'∈gs∧t=T∧t'=T then some {v:=.bool (g==g')} else none
 | [.iface s x,.glob g t]=>if g∈gs∧t=T∧s∈S∧okV x=true then some {v:=.bool false} else none
 | _=>none
structure IsOK (P:Program) (g:FuncId) (T:Nat) (S:List Nat):Prop where
 enters:qf1 P g
 none:∀ (a:Addr) (w:World),Calls P g #[.nilIface,.iface T (.pointer (some a))] w fun e w'=>e=.returned (.bool false)∧w'=w
 same:∀ (a:Addr) (w:World),Calls P g #[.iface T (.pointer (some a)),.iface T (.pointer (some a))] w fun e w'=>e=.returned (.bool true)∧w'=w
 other:∀ (a b:Addr) (ca cb:Array Value) (ta tb:TypeId) (w:World),a≠b→w.heap[a.block]?=some (.cells ca ta (0,0))→w.heap[b.block]?=some (.cells cb tb (0,0)) →
  Calls P g #[.iface T (.pointer (some a)),.iface T (.pointer (some b))] w fun e w'=>e=.returned (.bool false)∧w'=w
 type:∀ s∈S,∀ (v:Value) (b:Addr) (w:World),Calls P g #[.iface s v,.iface T (.pointer (some b))] w fun e w'=>e=.returned (.bool false)∧w'=w
theorem is_at {g:FuncId} {S:List Nat} (hA:IsOK P g T S) {st:St} {vs:List PV} {out:Out} (h:spIsG gs T S vs=some out):SpAt (cxOf P mx gs T et tabs ns) g st vs out:=by
 refine⟨hA.enters,?_⟩
 unfold spIsG at h
 split at h
 ·split at h
  ·rename_i hp
   obtain⟨hgg,rfl⟩:=hp
   cases h
   intro E w0 I0 F0 O0 Hd R e ds I F lp L tmv suf us w dst hs hf hu hd
   obtain⟨u,v,rfl,h1,h2⟩:=qwj hu
   rw[qkn h1]
   obtain⟨ad,e1,e2⟩:=hf.wd.err
   obtain⟨x,c,E',fr,rfl,q1,q2⟩:=qsr h2
   obtain⟨_,_,⟨_,_,a3⟩,_⟩:=e1 _ hgg
   rw[a3] at q1;cases q1;cases q2
   refine callsIn_wide.2 ((hA.none _ w).mono ?_)
   rintro ev w' ⟨rfl,rfl⟩
   exact qlz hs hf (qg6 _) (.bool false)
  ·cases h
 ·rename_i g1 t1 g2 t2
  split at h
  ·rename_i hp
   obtain⟨hg1,hg2,rfl,rfl⟩:=hp
   cases h
   intro E w0 I0 F0 O0 Hd R e ds I F lp L tmv suf us w dst hs hf hu hd
   obtain⟨u,v,rfl,h1,h2⟩:=qwj hu
   obtain⟨ad,e1,e2⟩:=hf.wd.err
   obtain⟨x,c,E',fr,rfl,q1,q2⟩:=qsr h1
   obtain⟨y,c',E'',fr',rfl,q1',q2'⟩:=qsr h2
   obtain⟨_,_,⟨_,_,a3⟩,ca,ta,a4⟩:=e1 _ hg1
   obtain⟨_,_,⟨_,_,b3⟩,cb,tb,b4⟩:=e1 _ hg2
   rw[a3] at q1;cases q1;cases q2
   rw[b3] at q1';cases q1';cases q2'
   by_cases hgg:g1=g2
   ·subst hgg
    refine callsIn_wide.2 ((hA.same _ w).mono ?_)
    rintro ev w' ⟨rfl,rfl⟩
    rw[beq_self_eq_true]
    exact qlz hs hf (qg6 _) (.bool true)
   ·refine callsIn_wide.2 ((hA.other _ _ ca cb ta tb w (e2 _ hg1 _ hg2 hgg) a4 b4).mono ?_)
    rintro ev w' ⟨rfl,rfl⟩
    rw[beq_eq_false_iff_ne.2 hgg]
    exact qlz hs hf (qg6 _) (.bool false)
  ·cases h
 ·rename_i ss x g1 t1
  split at h
  ·rename_i hp
   obtain⟨hgg,rfl,hS,hx⟩:=hp
   cases h
   intro E w0 I0 F0 O0 Hd R e ds I F lp L tmv suf us w dst hs hf hu hd
   obtain⟨u,v,rfl,h1,h2⟩:=qwj hu
   obtain⟨u',rfl,hx'⟩:=qmn h1
   obtain⟨ad,e1,e2⟩:=hf.wd.err
   obtain⟨x,c,E',fr,rfl,q1,q2⟩:=qsr h2
   obtain⟨_,_,⟨_,_,a3⟩,_⟩:=e1 _ hgg
   rw[a3] at q1;cases q1;cases q2
   refine callsIn_wide.2 ((hA.type _ hS u' _ w).mono ?_)
   rintro ev w' ⟨rfl,rfl⟩
   exact qlz hs hf (qg6 _) (.bool false)
  ·cases h
 ·cases h
end at_
section any
variable {cx:Cx} {g:FuncId} {st:St} {vs:List PV} {out:Out}
def countB (c:UInt8):List UInt8→Nat
 | []=>0
 | x :: xs=>(if x=c then 1 else 0)+countB c xs
def qxm (T:Nat) (σ:Nm→Option Ob):List PV→Option Out
 | [.ref n 0]=>match σ n with
  | some (.cells t [.nilP,x])=>if t=T then some {v:=.tup [],upd:=some (n,.cells T [.ref n 0,x])} else none
  | some (.cells t [.ref n' 0,_])=>if t=T∧n'=n then some {v:=.tup []} else none
  | _=>none
 | _=>none
def spStr (T U:Nat) (σ:Nm→Option Ob):List PV→Option Out
 | [.ref n 0]=>match σ n with
  | some (.cells t [_,.nilS])=>if t=T then some {v:=.str []} else none
  | some (.cells t [_,.arr n' 1 0 k])=>match σ n' with
   | some (.arr 1 u xs)=>match qjg (xs.take k) with
    | some s=>if t=T∧u=U∧n'≠n∧0 < k∧k≤xs.length∧k≤qhp then some {v:=.str s,upd:=some (n',qhx),kill:=some n'} else none
    | none=>none
   | _=>none
  | _=>none
 | _=>none
theorem check_here (T:Nat):qwg (qxm T):=by
 intro σ σ' vs h
 unfold qxm
 split
 ·rename_i n
  rw[h n (qdh _ _ n (by simp[qbl,PV.names]))]
 ·rfl
theorem str_here (T U:Nat):qwg (spStr T U):=by
 intro σ σ' vs h
 unfold spStr
 split
 ·rename_i n
  rw[←h n (qdh _ _ n (by simp[qbl,PV.names]))]
  have h2:∀ t a n' k,σ n=some (.cells t [a,.arr n' 1 0 k])→σ n'=σ' n':=by
   intro t a n' k he
   refine h n' ?_
   show n'∈qcl σ 3 [n]
   unfold qcl
   refine List.mem_append_right _ (qdh _ _ n' ?_)
   simp[he,Ob.names,qbl,PV.names]
  generalize hx:σ n=o at *
  split
  ·rfl
  ·rename_i t a n' k
   rw[h2 t a n' k rfl]
  ·rfl
 ·rfl
theorem Qb7 {w:World} {I:Nat→Prop} {lp:Nat→Option Nat} {L:Option Loc}:∀ (xs:List PV) (vs:List Value) (s:List UInt8),qbv w I lp L xs vs→qjg xs=some s→∀ (j:Nat) (x:UInt8),s[j]?=some x→vs[j]?=some (.int .u8 (x.toNat:Int))
 | [],_,s,_,h,j,x,hj=>by cases h;simp at hj
 | p :: xs,_,s,h,hb,j,x,hj=>by
  cases h with
  | cons _ v _ vs hv hs =>
   simp only[qjg] at hb
   split at hb
   ·rename_i b bs h1 h2
    cases hb
    have hp:v=.int .u8 (b.toNat:Int):=by
     unfold Qkh at h1
     split at h1
     ·rename_i n
      split at h1
      ·rename_i hn
       cases h1
       rw[qft hv]
       congr 1
       simp
       omega
      ·cases h1
     ·cases h1
    cases j with
    | zero=>simp at hj;subst hj;simp[hp]
    | succ j=>simp at hj ⊢;exact Qb7 xs vs bs hs h2 j x hj
   ·cases hb
theorem qz2:∀ (xs:List PV) (s:List UInt8),qjg xs=some s→s.length=xs.length
 | [],s,h=>by cases h;rfl
 | p :: xs,s,h=>by
  simp only[qjg] at h
  split at h
  ·rename_i b bs h1 h2
   cases h
   simp[qz2 xs bs h2]
  ·cases h
theorem Qdd:∀ (xs:List PV) (s:List UInt8),qjg xs=some s→cellsL xs=xs
 | [],_,_=>rfl
 | p :: xs,s,h=>by
  simp only[qjg] at h
  split at h
  ·rename_i b bs h1 h2
   have hp:p.cells=[p]:=by
    unfold Qkh at h1
    split at h1
    ·rfl
    ·cases h1
   simp[cellsL,hp,Qdd xs bs h2]
  ·cases h
theorem Qf6 {c:Array Value} {a b:Value} (h:c.toList=[a,b]):c=#[a,b]:=by
 apply Array.toList_inj.1
 simpa using h
theorem Qjj {W:World} {a:Addr} {n k:Nat} (h:k≠a.block):(W.freeze a n).heap[k]?=W.heap[k]?:=by
 unfold World.freeze
 split
 ·rfl
 ·simp[Array.getElem?_modify,Ne.symm h]
theorem repL4 {w:World} {I:Nat→Prop} {lp:Nat→Option Nat} {L:Option Loc} {a b c d:PV} {us:List Value} (h:qbv w I lp L [a,b,c,d] us):∃ u v x y,us=[u,v,x,y]∧qbz w I lp L a u∧qbz w I lp L b v∧qbz w I lp L c x∧qbz w I lp L d y:=by
 obtain⟨u,r,h1,rfl,h2⟩:∃ u r,qbz w I lp L a u∧us=u :: r∧qbv w I lp L [b,c,d] r:=by
  cases h;exact⟨_,_,by assumption,rfl,by assumption⟩
 obtain⟨v,r,h3,rfl,h4⟩:∃ u q,qbz w I lp L b u∧r=u :: q∧qbv w I lp L [c,d] q:=by
  cases h2;exact⟨_,_,by assumption,rfl,by assumption⟩
 obtain⟨x,y,rfl,h5,h6⟩:=qwj h4
 exact⟨u,v,x,y,rfl,h1,h3,h5,h6⟩
structure BldOK (P:Program) (gc gs:FuncId) (T U:Nat):Prop where
 entersC:qf1 P gc
 entersS:qf1 P gs
 nzT:T≠0
 nzU:U≠0
 used:∀ (b:Nat) (w:World),w.cell? ⟨b,0,none⟩=some (.pointer (some ⟨b,0,none⟩))→Calls P gc #[.pointer (some ⟨b,0,none⟩)] w fun e w'=>e=.returned (.tuple #[])∧w'=w
 fresh:∀ (b:Nat) (w:World),w.cell? ⟨b,0,none⟩=some (.pointer none)→w.shape? b=some (T,2)→w.frozen? ⟨b,0,none⟩=false →
  Calls P gc #[.pointer (some ⟨b,0,none⟩)] w fun e w'=>e=.returned (.tuple #[])∧w'=w.setCell ⟨b,0,none⟩ (.pointer (some ⟨b,0,none⟩))
 strNil:∀ (b:Nat) (p:Value) (w:World),w.heap[b]?=some (.cells #[p,.slice none 0 0] T (0,0))→Calls P gs #[.pointer (some ⟨b,0,none⟩)] w fun e w'=>e=.returned (.string ⟨#[]⟩)∧w'=w.drew
 strSome:∀ (b g cap:Nat) (p:Value) (cur:Array Value) (l:List UInt8) (w:World),w.heap[b]?=some (.cells #[p,.slice (some ⟨g,0,none⟩) l.length cap] T (0,0))→w.heap[g]?=some (.cells cur U (0,0))→l≠[]→l.length≤cap→l.length≤cur.size →
  l.length≤9223372036854775807→(∀ (j:Nat) (x:UInt8),l[j]?=some x→cur[j]?=some (Value.int .u8 (x.toNat:Int))) →
  Calls P gs #[.pointer (some ⟨b,0,none⟩)] w fun e w'=>e=.returned (.string ⟨l.toArray⟩)∧w'=w.drew.freeze ⟨g,0,none⟩ l.length
theorem check_at {gs:FuncId} {T U:Nat} (hB:BldOK cx.P g gs T U) (h:qxm T (qbo st.objs) vs=some out):SpAt cx g st vs out:=by
 refine⟨hB.entersC,?_⟩
 unfold qxm at h
 split at h
 ·rename_i n
  split at h
  ·rename_i t x hlk
   split at h
   case isFalse=>cases h
   rename_i ht
   subst ht
   cases h
   intro E w0 I0 F0 O0 Hd R e ds I F lp L tmv suf us w dst hs hf hu hd
   obtain⟨u,rfl,hr⟩:=Qk8 hu
   obtain⟨b,C,hL,rfl⟩:=qg9 hr
   obtain⟨q,hq,hob⟩:=hs.ob n _ hlk
   rw[hL] at hq;cases hq
   obtain⟨c,E',hb,hC,hone,hcs⟩:=hob
   obtain⟨v0,v1,hc,r0,r1⟩:=qwj hcs
   have hc:=Qf6 hc
   subst hc
   obtain rfl:E'=t:=hone.2.resolve_left hB.nzT
   rw[qnf r0] at hb
   refine callsIn_wide.2 ((hB.fresh b w (by simp[World.cell?,hb]) (by simp[World.shape?,hb]) (by simp[World.frozen?,hb])).mono ?_)
   rintro ev w' ⟨rfl,rfl⟩
   have hself:=qnz (o:=0) (n:=.pointer (some ⟨b,0,none⟩)) hb
   have hI:∀ k,I k→(w.setCell ⟨b,0,none⟩ (.pointer (some ⟨b,0,none⟩))).heap[k]?=w.heap[k]?:=fun k hk=>Go.RowKit.Below.heap_setCell _ _ _ _ fun (e:k=b)=>(hf.lB n b C hL).2.2.1 (e ▸ hk)
   refine Qkx (w':=w.setCell ⟨b,0,none⟩ (.pointer (some ⟨b,0,none⟩))) hs hf hL rfl rfl rfl (by rw[qny];exact Nat.le_refl _) (fun k _ hk=>Go.RowKit.Below.heap_setCell _ _ _ _ hk) ?_ (.tup [] #[] .nil)
   refine⟨_,E',hself,by simpa using hC,⟨?_,.inr rfl⟩,?_⟩
   ·intro v hv
    simp at hv
    rcases hv with rfl | rfl
    ·rfl
    ·exact hone.1 _ (by simp)
   ·simp
    exact .cons _ _ _ _ (.ref n 0 b C hL) (.cons _ _ _ _ (qbz.mono (fun _ h=>h) hI (fun _ _ h=>h) r1) .nil)
  ·rename_i t n' x hlk
   split at h
   ·rename_i hn
    obtain⟨rfl,rfl⟩:=hn
    cases h
    intro E w0 I0 F0 O0 Hd R e ds I F lp L tmv suf us w dst hs hf hu hd
    obtain⟨u,rfl,hr⟩:=Qk8 hu
    obtain⟨b,C,hL,rfl⟩:=qg9 hr
    obtain⟨q,hq,hob⟩:=hs.ob _ _ hlk
    rw[hL] at hq;cases hq
    obtain⟨c,E',hb,hC,hone,hcs⟩:=hob
    obtain⟨v0,v1,hc,r0,r1⟩:=qwj hcs
    have hc:=Qf6 hc
    subst hc
    obtain⟨b',C',hL',rfl⟩:=qg9 r0
    rw[hL] at hL';cases hL'
    refine callsIn_wide.2 ((hB.used b w (by simp[World.cell?,hb])).mono ?_)
    rintro ev w' ⟨rfl,rfl⟩
    exact qlz hs hf (qg6 _) (.tup [] #[] .nil)
   ·cases h
  ·cases h
 ·cases h
theorem str_at {gc:FuncId} {T U:Nat} (hB:BldOK cx.P gc g T U) (h:spStr T U (qbo st.objs) vs=some out):SpAt cx g st vs out:=by
 refine⟨hB.entersS,?_⟩
 unfold spStr at h
 split at h
 ·rename_i n
  split at h
  ·rename_i t x hlk
   split at h
   case isFalse=>cases h
   rename_i ht
   subst ht
   cases h
   intro E w0 I0 F0 O0 Hd R e ds I F lp L tmv suf us w dst hs hf hu hd
   obtain⟨u,rfl,hr⟩:=Qk8 hu
   obtain⟨b,C,hL,rfl⟩:=qg9 hr
   obtain⟨q,hq,hob⟩:=hs.ob _ _ hlk
   rw[hL] at hq;cases hq
   obtain⟨c,E',hb,hC,hone,hcs⟩:=hob
   obtain⟨v0,v1,hc,r0,r1⟩:=qwj hcs
   have hc:=Qf6 hc
   subst hc
   obtain rfl:E'=t:=hone.2.resolve_left hB.nzT
   rw[qgp r1] at hb
   refine callsIn_wide.2 ((hB.strNil b v0 w hb).mono ?_)
   rintro ev w' ⟨rfl,rfl⟩
   exact qlz (w':=w.drew) hs hf ⟨rfl,rfl,rfl,Nat.le_refl _,fun _ _=>rfl⟩ (.str [])
  ·rename_i t x n' k hlk
   split at h
   ·rename_i u' xs hlk'
    split at h
    ·rename_i s hs'
     split at h
     ·rename_i hc0
      obtain⟨rfl,rfl,hnn,hk0,hkl,hkm⟩:=hc0
      cases h
      intro E w0 I0 F0 O0 Hd R e ds I F lp L tmv suf us w dst hs hf hu hd
      obtain⟨u,rfl,hr⟩:=Qk8 hu
      obtain⟨b,C,hL,rfl⟩:=qg9 hr
      obtain⟨q,hq,hob⟩:=hs.ob _ _ hlk
      rw[hL] at hq;cases hq
      obtain⟨c,E',hb,hC,hone,hcs⟩:=hob
      obtain⟨v0,v1,hc,r0,r1⟩:=qwj hcs
      have hc:=Qf6 hc
      subst hc
      obtain rfl:E'=t:=hone.2.resolve_left hB.nzT
      obtain⟨q',hq',hob'⟩:=hs.ob _ _ hlk'
      rcases qpg r1 with ⟨g,C',cap,hL',rfl,hC',hn⟩ | ⟨_,_,_,h0⟩
      ·rw[hL'] at hq';cases hq'
       obtain⟨cur,E2,hg,hCg,hle,hkx,hone2,hrep⟩:=hob'
       obtain rfl:E2=u':=hle.2.resolve_left hB.nzU
       have hlen:=qz2 _ _ hs'
       rw[List.length_take,Nat.min_eq_left hkl] at hlen
       have hrk:qbv w I lp none (xs.take k) (cur.toList.take k):=by
        have h1:=hrep.take k
        rw[show k=k*1 by omega,←qgn hkx,Qdd _ _ hs',List.take_take,Nat.min_eq_left (by omega)] at h1
        simpa using h1
       have hbytes:=Qb7 _ _ _ hrk hs'
       have hcur:k≤cur.size:=by have:=hle.1;omega
       subst hlen
       refine callsIn_wide.2 ((hB.strSome b g cap v0 cur s w (by simpa using hb) hg (by intro e;subst e;simp at hk0) hn hcur ?_ ?_).mono ?_)
       ·unfold qhp at hkm;omega
       ·intro j x hx
        have hj:j < s.length:=(List.getElem?_eq_some_iff.1 hx).1
        have h1:=hbytes j x hx
        rw[List.getElem?_take_of_lt hj] at h1
        simpa using h1
       ·rintro ev w' ⟨rfl,rfl⟩
        have hfz:∀ (W:World) (a:Addr) (n:Nat),(W.freeze a n).os=W.os∧(W.freeze a n).tape=W.tape∧(W.freeze a n).output=W.output∧(W.freeze a n).heap.size=W.heap.size:=fun W a n=>by
         unfold World.freeze
         split<;>simp
        obtain⟨f1,f2,f3,f4⟩:=hfz w.drew ⟨g,0,none⟩ s.length
        refine sp_gone (w':=w.drew.freeze ⟨g,0,none⟩ s.length) hs hf hL' f1 f2 f3 (Nat.le_of_eq f4.symm) (fun k' hk' hne=>?_) (fun L'=>.str s)
        rw[Qjj (fun e=>hne C' (by rw[e]))]
        rfl
      ·omega
     ·cases h
    ·cases h
   ·cases h
  ·cases h
 ·cases h
end any
def digs:Nat→Nat→List UInt8
 | 0,_=>[]
 | k+1,u=>if u < 10 then [UInt8.ofNat (48+u)] else digs k (u / 10)++[UInt8.ofNat (48+u%10)]
def itoaF (n:Int):List UInt8:=if n < 0 then 45 :: digs 20 n.natAbs else digs 20 n.toNat
theorem Qmn:∀ (k u:Nat),u < 10 ^ k→0 < k→digs k u=Lib.decDigits u
 | 0,_,_,h=>absurd h (Nat.lt_irrefl _)
 | k+1,u,h,_=>by
  unfold digs
  rw[Lib.decDigits]
  by_cases hu:u < 10
  ·rw[if_pos hu,dif_pos hu]
  ·rw[if_neg hu,dif_neg hu]
   have h1:0 < k:=by
    rcases Nat.eq_zero_or_pos k with rfl | hk
    ·exact absurd (by simpa using h) hu
    ·exact hk
   have h2:u / 10 < 10 ^ k:=by
    refine Nat.div_lt_of_lt_mul ?_
    rw[Nat.pow_succ,Nat.mul_comm] at h
    exact h
   rw[Qmn k (u / 10) h2 h1]
theorem itoa_eq (n:Int) (h0 : -9223372036854775808≤n) (h1:n≤9223372036854775807):itoaF n=Lib.itoa n:=by
 unfold itoaF Lib.itoa
 have hp:(18446744073709551616:Nat)≤10 ^ 20:=by decide
 rw[Qmn 20 n.natAbs (by omega) (by decide),Qmn 20 n.toNat (by omega) (by decide)]
def spFmt:List PV→Option Out
 | [.int .i64 n,.int .i64 10]=>if -9223372036854775808≤n∧n≤9223372036854775807 then some {v:=.str (itoaF n)} else none
 | _=>none
def spRepl:List PV→Option Out
 | [.str s,.str old,.str new,.int .i64 n]=>if s.length≤65536∧new.length≤65536∧1≤old.length then some {v:=.str (Lib.replace s old new n)} else none
 | _=>none
section at2
variable {P:Program} {mx:P.follows .mixedOrders=true} {gs:List Nat} {T:Nat} {et:List (Nat×Value)} {tabs:List (Nat×Array Value)} {ns:List Nat} {g:FuncId} {st:St} {vs:List PV} {out:Out}
theorem fmt_at (he:qf1 P g) {gt:Nat} (ht:(gt,(Lib.pow10Tab.map fun z=>Value.int .u64 z).toArray)∈tabs) (hn:P.globalNamed "internal/strconv.uint64pow10"=some gt)
  (hc:∀ (n:Int), -9223372036854775808≤n→n≤9223372036854775807→∀ w:World,Lib.TabIs P w "internal/strconv.uint64pow10" .u64 Lib.pow10Tab→Calls P g #[.int .i64 n,.int .i64 10] w fun e w'=>e=.returned (.string ⟨(Lib.itoa n).toArray⟩)∧∃ k os,w'=Sort.grow (w.drewN k) os)
  (h:spFmt vs=some out):SpAt (cxOf P mx gs T et tabs ns) g st vs out:=by
 refine⟨he,?_⟩
 unfold spFmt at h
 split at h
 ·rename_i n
  split at h
  ·rename_i hr
   cases h
   intro E w0 I0 F0 O0 Hd R e ds I F lp L tmv suf us w dst hs hf hu hd
   obtain⟨u,v,rfl,h1,h2⟩:=qwj hu
   rw[qft h1,qft h2]
   obtain⟨_,E',fr,hp⟩:=hf.wd.tab _ ht
   have ht:Lib.TabIs P w "internal/strconv.uint64pow10" .u64 Lib.pow10Tab:=by
    unfold Lib.TabIs World.var?
    rw[hn]
    simp only[Option.bind_some,hp]
   refine callsIn_wide.2 ((hc n hr.1 hr.2 w ht).mono ?_)
   rintro ev w' ⟨rfl,k,os,rfl⟩
   rw[itoa_eq n hr.1 hr.2]
   exact qlz hs hf (qsk (Lib.below_grow _ w (Nat.le_refl _) k os)) (.str _)
  ·cases h
 ·cases h
theorem repl_at (he:qf1 P g) {gm:Nat} (hg:gm∈ns)
  (hc:∀ (s old new:ByteArray) (n m:Int) (w:World),s.size < 4294967281→w.cell? ⟨gm,0,none⟩=some (.int .i64 m)→1≤old.size→s.size+Lib.countB s old*new.size≤140737488355328 →
   Calls P g #[.string s,.string old,.string new,.int .i64 n] w fun e w'=>e=.returned (.string ⟨(Lib.replace s.data.toList old.data.toList new.data.toList n).toArray⟩)∧Go.RowKit.Below w.heap.size w w')
  (h:spRepl vs=some out):SpAt (cxOf P mx gs T et tabs ns) g st vs out:=by
 refine⟨he,?_⟩
 unfold spRepl at h
 split at h
 ·rename_i s old new n
  split at h
  ·rename_i hr
   obtain⟨l1,l2,l3⟩:=hr
   cases h
   intro E w0 I0 F0 O0 Hd R e ds I F lp L tmv suf us w dst hs hf hu hd
   obtain⟨u1,u2,u3,u4,rfl,h1,h2,h3,h4⟩:=repL4 hu
   rw[qgm h1,qgm h2,qgm h3,qft h4]
   obtain⟨_,m,hm⟩:=hf.wd.num _ hg
   have hcl:=Lib.count_le s old
   refine callsIn_wide.2 ((hc ⟨s.toArray⟩ ⟨old.toArray⟩ ⟨new.toArray⟩ n m w (by show s.toArray.size < _;simp;omega) hm (by show 1≤old.toArray.size;simp;omega) (by
    show s.toArray.size+Lib.count s.toArray.toList old.toArray.toList*new.toArray.size≤_
    simp only[List.size_toArray]
    have:Lib.count s old*new.length≤65537*65536:=Nat.mul_le_mul (by omega) l2
    omega)).mono ?_)
   rintro ev w' ⟨rfl,hw⟩
   exact qlz hs hf (qsk hw) (.str _)
  ·cases h
 ·cases h
end at2
theorem cfg_loc {sp:FuncId→(Nm→Option Ob)→List PV→Option Out} (h:∀ g,qwg (sp g)) (g:FuncId) (σ:Nm→Option Ob) (vs:List PV) (hv:qb1 vs=true):sp g σ vs=sp g (fun _=>none) vs:=by
 refine h g σ _ vs fun nm hm=>?_
 rw[(qb6 hv).1] at hm
 have:qcl σ qbm []=[]:=by simp[qcl,qbm]
 rw[this] at hm
 cases hm
theorem Qp8 {ps:List (Nat×Nat)} {p t:Nat} (hp:ps.lookup p=some t) {σ:Nm→Option Ob} {nm:Nm} {ty:Nat} {cs:List PV} (h1:σ nm=some (.cells ty cs)) (h2:cs.length=1) :
  Qbe ps σ [.nilI,.iface p (.ref nm 0)]=some {v:=.bool false}∧∀ x,qbi x 1=true→Qbe ps σ [.iface t x,.iface p (.ref nm 0)]=some {v:=.bool true,upd:=some (nm,.cells ty x.cells)}:=by
 refine⟨by simp[Qbe,hp],fun x hx=>?_⟩
 unfold Qbe
 simp only[h1,hp,h2,hx,and_self,if_true]
end Go.Ab


namespace Go.Ab
open Go
def qxj (k:IntKind) (σ:Nm→Option Ob):List PV→Option Out
 | [.ref n o]=>match σ n with
  | some (.cells _ cs)=>match cs[o]? with
   | some (.int k' y)=>if k'=k then some {v:=.int k y} else none
   | _=>none
  | _=>none
 | _=>none
def qqy (k:IntKind) (σ:Nm→Option Ob):List PV→Option Out
 | [.ref n o,.int k1 y]=>match σ n with
  | some (.cells ty cs)=>match cs[o]? with
   | some (.int k' _)=>if k'=k∧k1=k then some {v:=.tup [],upd:=some (n,.cells ty (cs.set o (.int k y)))} else none
   | _=>none
  | _=>none
 | _=>none
def qvp (k:IntKind) (x y:Int) (σ:Nm→Option Ob):List PV→Option Out
 | [.ref n o]=>match σ n with
  | some (.cells ty cs)=>match cs[o]? with
   | some (.int k' z)=>if k'=k∧z=x then some {v:=.tup [],upd:=some (n,.cells ty (cs.set o (.int k y)))} else none
   | _=>none
  | _=>none
 | _=>none
theorem load_here (k:IntKind):qwg (qxj k):=by
 intro σ σ' vs h
 unfold qxj
 split
 ·rename_i n o
  rw[h n (qdh _ _ n (by simp[qbl,PV.names]))]
 ·rfl
theorem store_here (k:IntKind):qwg (qqy k):=by
 intro σ σ' vs h
 unfold qqy
 split
 ·rename_i n o k1 y
  rw[h n (qdh _ _ n (by simp[qbl,PV.names]))]
 ·rfl
theorem Qgl (k:IntKind) (x y:Int):qwg (qvp k x y):=by
 intro σ σ' vs h
 unfold qvp
 split
 ·rename_i n o
  rw[h n (qdh _ _ n (by simp[qbl,PV.names]))]
 ·rfl
section
variable {cx:Cx} {E:Type} {w0:World} {I0 F0:Nat→Prop} {O0:Own} {Hd:Nat→Option Obj} {R:qly E} {e:E} {ds:List Deferred} {I F:Nat→Prop} {lp:Nat→Option Nat} {L:Loc} {tmv suf:List Value} {st:St} {w:World} {dst:Option Nat}
theorem Qf4 (hs:SR lp I L st tmv suf w) {nm:Nm} {ty:Nat} {cs:List PV} {o:Nat} {k:IntKind} {y0:Int} {u:Value} (hlk:qbo st.objs nm=some (.cells ty cs)) (hr:qbz w I lp (some L) (.ref nm o) u) (h0:cs[o]?=some (.int k y0)) :
  ∃ b C,L nm=some (some (b,C))∧u=.pointer (some ⟨b,o,none⟩)∧w.cell? ⟨b,o,none⟩=some (.int k y0)∧w.frozen? ⟨b,o,none⟩=false:=by
 obtain⟨b,C,hL,rfl⟩:=qg9 hr
 obtain⟨q,hq,hob⟩:=hs.ob nm _ hlk
 rw[hL] at hq;cases hq
 obtain⟨c,E',hb,hC,hone,hcs⟩:=hob
 obtain⟨v,hv,hrv⟩:=hcs.get h0
 rw[qft hrv] at hv
 refine⟨b,C,hL,rfl,?_,by simp[World.frozen?,hb]⟩
 rw[Array.getElem?_toList] at hv
 simp[World.cell?,hb,hv]
theorem Qm8 (hs:SR lp I L st tmv suf w) (hf:Fr cx w0 I0 F0 O0 Hd R e ds I F L w) {nm:Nm} {ty:Nat} {cs:List PV} {o:Nat} {k:IntKind} {b C:Nat} (hlk:qbo st.objs nm=some (.cells ty cs)) (hL:L nm=some (some (b,C))) (y:Int) :
  ∃ I' L',SR lp I' L' (apply st dst {v:=.tup [],upd:=some (nm,.cells ty (cs.set o (.int k y)))}) (Qlf tmv dst (.tuple #[])) suf (w.setCell ⟨b,o,none⟩ (.int k y))∧Fr cx w0 I0 F0 O0 Hd R e ds I' F L' (w.setCell ⟨b,o,none⟩ (.int k y)):=by
 obtain⟨q,hq,hob⟩:=hs.ob nm _ hlk
 rw[hL] at hq;cases hq
 obtain⟨c,E',hb,hC,hone,hcs⟩:=hob
 have hself:=qnz (o:=o) (n:=.int k y) hb
 have hI:∀ j,I j→(w.setCell ⟨b,o,none⟩ (.int k y)).heap[j]?=w.heap[j]?:=fun j hj=>Go.RowKit.Below.heap_setCell _ _ _ _ fun (e:j=b)=>(hf.lB nm b C hL).2.2.1 (e ▸ hj)
 refine Qkx (w':=w.setCell ⟨b,o,none⟩ (.int k y)) hs hf hL rfl rfl rfl (by rw[qny];exact Nat.le_refl _) (fun j _ hj=>Go.RowKit.Below.heap_setCell _ _ _ _ hj) ?_ (.tup [] #[] .nil)
 refine⟨_,E',hself,by simpa using hC,⟨?_,hone.2⟩,?_⟩
 ·intro v hv
  rw[Array.toList_setIfInBounds] at hv
  rcases List.mem_or_eq_of_mem_set hv with hv | rfl
  ·exact hone.1 v hv
  ·rfl
 ·rw[Array.toList_setIfInBounds]
  exact qbv.mono (fun _ h=>h) hI (fun _ _ h=>h) (hcs.set o (.int k y))
end
section at_
variable {cx:Cx} {g:FuncId} {st:St} {vs:List PV} {out:Out} {k:IntKind}
theorem load_ret (hg:∀ (a:Addr) (y:Int) (w:World),w.cell? a=some (.int k y)→(callFunc g #[.pointer (some a)]).run cx.P w=.ok (.value (.int k y)) w) (h:qxj k (qbo st.objs) vs=some out):SpRet cx g st vs out:=by
 unfold qxj at h
 split at h
 case h_2=>cases h
 split at h
 case h_2=>cases h
 rename_i ty cs hlk
 split at h
 case h_2=>cases h
 rename_i k' y h0
 split at h
 case isFalse=>cases h
 rename_i hk
 subst hk
 cases h
 intro E w0 I0 F0 O0 Hd R e ds I F lp L tmv suf us w dst hs hf hu hd
 obtain⟨u,rfl,hr⟩:=Qk8 hu
 obtain⟨b,C,hL,rfl,h1,h2⟩:=Qf4 hs hlk hr h0
 exact⟨_,w,hg _ _ w h1,qlz hs hf (qg6 w) (.int _ _)⟩
theorem store_ret (hg:∀ (a:Addr) (y0 y:Int) (w:World),w.cell? a=some (.int k y0)→w.frozen? a=false→(callFunc g #[.pointer (some a),.int k y]).run cx.P w=.ok (.value (.tuple #[])) (w.setCell a (.int k y))) (h:qqy k (qbo st.objs) vs=some out):SpRet cx g st vs out:=by
 unfold qqy at h
 split at h
 case h_2=>cases h
 split at h
 case h_2=>cases h
 rename_i ty cs hlk
 split at h
 case h_2=>cases h
 rename_i k' y0 h0
 split at h
 case isFalse=>cases h
 rename_i hk
 obtain⟨rfl,rfl⟩:=hk
 cases h
 intro E w0 I0 F0 O0 Hd R e ds I F lp L tmv suf us w dst hs hf hu hd
 obtain⟨u,v,rfl,hr,hv⟩:=qwj hu
 obtain⟨b,C,hL,rfl,h1,h2⟩:=Qf4 hs hlk hr h0
 rw[qft hv]
 exact⟨_,_,hg _ _ _ w h1 h2,Qm8 hs hf hlk hL _⟩
theorem swap_at {x y:Int} (he:qf1 cx.P g) (hg:∀ (a:Addr) (w:World),w.cell? a=some (.int k x)→w.frozen? a=false→Calls cx.P g #[.pointer (some a)] w fun e w'=>e=.returned (.tuple #[])∧w'=w.setCell a (.int k y)) (h:qvp k x y (qbo st.objs) vs=some out):SpAt cx g st vs out:=by
 refine⟨he,?_⟩
 unfold qvp at h
 split at h
 case h_2=>cases h
 split at h
 case h_2=>cases h
 rename_i ty cs hlk
 split at h
 case h_2=>cases h
 rename_i k' z h0
 split at h
 case isFalse=>cases h
 rename_i hk
 obtain⟨rfl,rfl⟩:=hk
 cases h
 intro E w0 I0 F0 O0 Hd R e ds I F lp L tmv suf us w dst hs hf hu hd
 obtain⟨u,rfl,hr⟩:=Qk8 hu
 obtain⟨b,C,hL,rfl,h1,h2⟩:=Qf4 hs hlk hr h0
 refine callsIn_wide.2 ((hg _ w h1 h2).mono ?_)
 rintro ev w' ⟨rfl,rfl⟩
 exact Qm8 hs hf hlk hL _
end at_
def kLoad (k:IntKind) (σ:Nm→Option KOb):List KV→Option (Bool×qb9)
 | [.ref n o]=>match σ n with
  | some (.cells _ cs)=>match cs[o]? with
   | some (.cv v)=>some (qsq k v,{v:=.cv v})
   | _=>none
  | _=>none
 | _=>none
def kStore (k:IntKind) (σ:Nm→Option KOb):List KV→Option (Bool×qb9)
 | [.ref n o,.cv u]=>match σ n with
  | some (.cells ty cs)=>match cs[o]? with
   | some (.cv v)=>some (qnt (qsq k v) (qsq k u),{v:=.tup [],upd:=some (n,.cells ty (cs.set o (.cv u)))})
   | _=>none
  | _=>none
 | _=>none
def kSwap (k:IntKind) (x y:Int) (σ:Nm→Option KOb):List KV→Option (Bool×qb9)
 | [.ref n o]=>match σ n with
  | some (.cells ty cs)=>match cs[o]? with
   | some (.cv v)=>some (Qja k x v,{v:=.tup [],upd:=some (n,.cells ty (cs.set o (.cv (.int k y))))})
   | _=>none
  | _=>none
 | _=>none
theorem qrd {k:IntKind} {v:PV} (h:qsq k v=true):∃ y,v=.int k y:=by
 unfold qsq at h
 split at h
 ·rename_i k' y;exact⟨y,by rw[of_decide_eq_true h]⟩
 ·cases h
theorem Ql3 {k:IntKind} {x:Int} {v:PV} (h:Qja k x v=true):v=.int k x:=by
 unfold Qja at h
 split at h
 ·simp only[Bool.and_eq_true,decide_eq_true_eq] at h;rw[h.1,h.2]
 ·cases h
theorem pvL_set (cs:List KV) (o:Nat) (x:KV):pvL (cs.set o x)=(pvL cs).set o x.pv:=by
 rw[qfr,qfr,List.map_set]
section k_
variable {σ:Nm→Option KOb} {xs:List KV} {out:qb9} {k:IntKind}
theorem Qld {cs:List KV} {o:Nat} {x:KV} (h:cs[o]?=some x):(pvL cs)[o]?=some x.pv:=by
 rw[qfr,List.getElem?_map,h];rfl
theorem kLoad_ok (h:kLoad k σ xs=some (true,out)):out.Ok∧qxj k (fun nm=>(σ nm).map KOb.ob) (pvL xs)=some out.out∧∀ f,out.out.v.ren f=out.out.v:=by
 unfold kLoad at h
 split at h
 case h_2=>cases h
 split at h
 case h_2=>cases h
 rename_i n o _ ty cs hn
 split at h
 case h_2=>cases h
 rename_i v h0
 simp only[Option.some.injEq,Prod.mk.injEq] at h
 obtain⟨hv,rfl⟩:=h
 obtain⟨y,rfl⟩:=qrd hv
 refine⟨qb9.plain (v:=.cv (.int _ y)) rfl,?_,fun _=>rfl⟩
 simp only[pvL,KV.pv,qxj,hn,Option.map_some,KOb.ob,Qld h0,if_true]
 rfl
theorem upd_ok {cs:List KV} {n:Nm} {ty o:Nat} {u:PV} (hu:okV u=true) (h:qf7 cs):({v:=.tup [],upd:=some (n,.cells ty (cs.set o (.cv u)))}:qb9).Ok :=
 ⟨trivial,by simp,fun nm ob he=>by
  cases he
  show qf7 _
  refine qcs.2 fun x hx=>?_
  rcases List.mem_or_eq_of_mem_set hx with hx | rfl
  ·exact qcs.1 h x hx
  ·exact hu,by simp⟩
theorem kStore_ok (hσ:∀ nm o,σ nm=some o→o.ok) (h:kStore k σ xs=some (true,out)):out.Ok∧qqy k (fun nm=>(σ nm).map KOb.ob) (pvL xs)=some out.out∧∀ f,out.out.v.ren f=out.out.v:=by
 unfold kStore at h
 split at h
 case h_2=>cases h
 split at h
 case h_2=>cases h
 rename_i n o u _ ty cs hn
 split at h
 case h_2=>cases h
 rename_i v h0
 simp only[Option.some.injEq,Prod.mk.injEq] at h
 obtain⟨hv,rfl⟩:=h
 unfold qnt at hv
 simp only[Bool.and_eq_true] at hv
 obtain⟨y0,rfl⟩:=qrd hv.1
 obtain⟨y,rfl⟩:=qrd hv.2
 refine⟨upd_ok rfl (hσ _ _ hn),?_,fun _=>rfl⟩
 simp only[pvL,KV.pv,qqy,hn,Option.map_some,KOb.ob,Qld h0,and_self,if_true,qb9.out,pvL_set,Option.map_none,List.map_nil]
theorem Qn9 {x y:Int} (hσ:∀ nm o,σ nm=some o→o.ok) (h:kSwap k x y σ xs=some (true,out)):out.Ok∧qvp k x y (fun nm=>(σ nm).map KOb.ob) (pvL xs)=some out.out∧∀ f,out.out.v.ren f=out.out.v:=by
 unfold kSwap at h
 split at h
 case h_2=>cases h
 split at h
 case h_2=>cases h
 rename_i n o _ ty cs hn
 split at h
 case h_2=>cases h
 rename_i v h0
 simp only[Option.some.injEq,Prod.mk.injEq] at h
 obtain⟨hv,rfl⟩:=h
 obtain rfl:=Ql3 hv
 refine⟨upd_ok rfl (hσ _ _ hn),?_,fun _=>rfl⟩
 simp only[pvL,KV.pv,qvp,hn,Option.map_some,KOb.ob,Qld h0,and_self,if_true,qb9.out,pvL_set,Option.map_none,List.map_nil]
end k_
end Go.Ab


namespace Go.Ab
open Go
section kb_
variable {σ:Nm→Option KOb} {xs:List KV} {out:qb9} {T U:Nat}
end kb_
end Go.Ab


namespace Go.Ab
open Go
def Qpj:qnu:=globsE [1,2] 265
def Qjf:Hint:=[]
noncomputable def mkF (io shut leans:Bool) (gone:List Nat) (nt:Nat) (f:FuncId):RFn:={nt,code:=((Qmq Go.Proofs.Tryz.prog Qpj (deadH Qjf Go.Proofs.Tryz.prog f) f).getD default).code,res:=((Qmq Go.Proofs.Tryz.prog Qpj (deadH Qjf Go.Proofs.Tryz.prog f) f).getD default).res,io,shut,leans,gone}
theorem qbe {io shut leans:Bool} {gone:List Nat} {nt:Nat} {f:FuncId} (h:(Qmq Go.Proofs.Tryz.prog Qpj (deadH Qjf Go.Proofs.Tryz.prog f) f).map (·.nt)=some nt):Qmq Go.Proofs.Tryz.prog Qpj (deadH Qjf Go.Proofs.Tryz.prog f) f=some {mkF io shut leans gone nt f with io:=false,shut:=false,leans:=false,gone:=[]}:=by
 obtain⟨fn,h1,rfl⟩:=Option.map_eq_some_iff.1 h
 unfold mkF
 rw[h1]
 have h2:=h1
 unfold Qmq at h2
 split at h2
 ·split at h2
  ·split at h2
   ·cases h2
   ·cases h2;rfl
  ·cases h2
 ·cases h2
noncomputable def fn191:RFn:=mkF true true false [] 8 191
noncomputable def fn203:RFn:=mkF true true false [] 6 203
noncomputable def fn204:RFn:=mkF true true false [] 6 204
noncomputable def fn205:RFn:=mkF true true false [] 10 205
noncomputable def fn219:RFn:=mkF false true false [] 4 219
noncomputable def fn177:RFn:=mkF true true false [] 28 177
noncomputable def fn192:RFn:=mkF true true false [] 21 192
noncomputable def fn176:RFn:=mkF true true false [] 12 176
noncomputable def fn148:RFn:=mkF true true false [] 17 148
noncomputable def fn49:RFn:=mkF true true false [] 12 49
noncomputable def fn84:RFn:=mkF true true false [] 57 84
noncomputable def fn89:RFn:=mkF true true false [] 17 89
noncomputable def fn85:RFn:=mkF true true false [] 14 85
noncomputable def fn88:RFn:=mkF true true false [] 14 88
noncomputable def fn86:RFn:=mkF true true false [] 34 86
noncomputable def fn48:RFn:=mkF true true false [] 21 48
noncomputable def fn19:RFn:=mkF false true false [] 13 19
noncomputable def fn21:RFn:=mkF false true false [] 13 21
noncomputable def fn23:RFn:=mkF false true false [] 13 23
noncomputable def fn7:RFn:=mkF false true false [] 83 7
noncomputable def fn8:RFn:=mkF false true false [] 105 8
noncomputable def fn14:RFn:=mkF false true false [] 8 14
noncomputable def fn13:RFn:=mkF false true false [] 18 13
noncomputable def fn16:RFn:=mkF false true false [] 22 16
noncomputable def fn26:RFn:=mkF false true false [] 24 26
noncomputable def fn27:RFn:=mkF false true false [] 24 27
noncomputable def fn25:RFn:=mkF false true true [] 5 25
noncomputable def fn35:RFn:=mkF false true false [] 7 35
noncomputable def fn36:RFn:=mkF false true false [] 56 36
noncomputable def fn41:RFn:=mkF false true false [] 7 41
noncomputable def fn42:RFn:=mkF false true false [] 101 42
noncomputable def fn52:RFn:=mkF false true false [] 26 52
noncomputable def fn53:RFn:=mkF false true false [] 6 53
noncomputable def fn54:RFn:=mkF false true false [] 17 54
noncomputable def fn55:RFn:=mkF false true false [] 9 55
noncomputable def fn56:RFn:=mkF false true false [] 5 56
noncomputable def fn57:RFn:=mkF false true false [] 4 57
noncomputable def fn58:RFn:=mkF false true true [] 88 58
noncomputable def fn59:RFn:=mkF false true false [] 9 59
noncomputable def fn62:RFn:=mkF false true false [] 17 62
noncomputable def fn63:RFn:=mkF false true false [] 9 63
noncomputable def fn64:RFn:=mkF false true false [] 11 64
noncomputable def fn65:RFn:=mkF false true false [] 31 65
noncomputable def fn76:RFn:=mkF false true false [] 38 76
noncomputable def fn77:RFn:=mkF false true false [] 6 77
noncomputable def fn78:RFn:=mkF false true false [] 36 78
noncomputable def fn87:RFn:=mkF false true false [] 4 87
noncomputable def fn91:RFn:=mkF false true false [] 19 91
noncomputable def fn92:RFn:=mkF false true false [] 13 92
noncomputable def fn93:RFn:=mkF false true false [] 20 93
noncomputable def fn94:RFn:=mkF false true false [] 11 94
noncomputable def fn149:RFn:=mkF false true false [] 4 149
noncomputable def fn150:RFn:=mkF false true false [] 13 150
noncomputable def fn151:RFn:=mkF false true false [] 27 151
noncomputable def fn179:RFn:=mkF false true false [] 19 179
noncomputable def fn141:RFn:=mkF false true false [] 21 141
noncomputable def fn142:RFn:=mkF false true false [] 16 142
noncomputable def fn12:RFn:=mkF false true false [] 15 12
noncomputable def fn100:RFn:=mkF false true false [] 5 100
noncomputable def fn101:RFn:=mkF false true false [] 10 101
noncomputable def fn102:RFn:=mkF false true false [] 36 102
noncomputable def fn103:RFn:=mkF false true false [] 11 103
noncomputable def fn104:RFn:=mkF false true false [] 4 104
noncomputable def fn105:RFn:=mkF false true false [] 10 105
noncomputable def fn106:RFn:=mkF false true false [] 56 106
noncomputable def fn107:RFn:=mkF false true false [] 18 107
noncomputable def fn108:RFn:=mkF false true true [] 21 108
noncomputable def fn109:RFn:=mkF false true false [] 13 109
noncomputable def fn110:RFn:=mkF false true false [] 16 110
noncomputable def fn132:RFn:=mkF false true false [] 36 132
noncomputable def fn133:RFn:=mkF false true false [] 51 133
noncomputable def fn134:RFn:=mkF false true false [] 43 134
noncomputable def fn135:RFn:=mkF false true false [] 11 135
noncomputable def fn136:RFn:=mkF false true false [] 11 136
noncomputable def fn137:RFn:=mkF false true false [] 10 137
noncomputable def fn138:RFn:=mkF false true false [] 66 138
noncomputable def fn139:RFn:=mkF false true false [] 10 139
noncomputable def fn140:RFn:=mkF false true false [] 41 140
noncomputable def fn170:RFn:=mkF false true false [] 51 170
noncomputable def fn171:RFn:=mkF false true false [] 10 171
noncomputable def fn34:RFn:=mkF false true false [] 29 34
noncomputable def fn37:RFn:=mkF false true false [] 33 37
noncomputable def fn43:RFn:=mkF false true false [] 38 43
noncomputable def fn60:RFn:=mkF false true false [] 34 60
noncomputable def fn61:RFn:=mkF false true false [] 10 61
noncomputable def fn66:RFn:=mkF false true false [] 10 66
noncomputable def fn67:RFn:=mkF false true false [] 6 67
noncomputable def fn68:RFn:=mkF false true false [] 9 68
noncomputable def fn75:RFn:=mkF false true false [] 29 75
noncomputable def fn96:RFn:=mkF true false false [] 19 96
noncomputable def fn97:RFn:=mkF false true false [] 11 97
noncomputable def fn98:RFn:=mkF false true false [] 6 98
noncomputable def fn111:RFn:=mkF false true false [] 13 111
noncomputable def fn112:RFn:=mkF false true false [] 59 112
noncomputable def fn113:RFn:=mkF false true false [] 44 113
noncomputable def fn114:RFn:=mkF false true false [] 56 114
noncomputable def fn115:RFn:=mkF false true false [] 8 115
noncomputable def fn116:RFn:=mkF false true false [] 9 116
noncomputable def fn117:RFn:=mkF false false false [] 13 117
noncomputable def fn118:RFn:=mkF false true false [] 73 118
noncomputable def fn119:RFn:=mkF false true false [] 11 119
noncomputable def fn120:RFn:=mkF false true false [] 53 120
noncomputable def fn121:RFn:=mkF false true false [] 17 121
noncomputable def fn122:RFn:=mkF false true false [] 72 122
noncomputable def fn123:RFn:=mkF false true false [] 47 123
noncomputable def fn124:RFn:=mkF false true false [] 8 124
noncomputable def fn125:RFn:=mkF false true false [] 6 125
noncomputable def fn126:RFn:=mkF false true false [] 11 126
noncomputable def fn127:RFn:=mkF false true false [] 9 127
noncomputable def fn128:RFn:=mkF false true false [] 6 128
noncomputable def fn160:RFn:=mkF false true false [] 5 160
noncomputable def fn161:RFn:=mkF false true false [] 32 161
noncomputable def fn162:RFn:=mkF false true false [] 20 162
noncomputable def fn163:RFn:=mkF false true false [] 19 163
noncomputable def fn164:RFn:=mkF false true false [] 11 164
noncomputable def fn165:RFn:=mkF false false false [] 36 165
noncomputable def fn166:RFn:=mkF true false false [] 28 166
noncomputable def fn167:RFn:=mkF false true false [] 4 167
noncomputable def fn168:RFn:=mkF false true false [] 19 168
noncomputable def fn178:RFn:=mkF false true false [] 15 178
noncomputable def fn185:RFn:=mkF false false false [] 25 185
noncomputable def fn195:RFn:=mkF false false false [] 30 195
noncomputable def fn190:RFn:=mkF false false false [] 27 190
noncomputable def fn9:RFn:=mkF false true false [] 68 9
noncomputable def fn10:RFn:=mkF false true false [] 55 10
noncomputable def fn11:RFn:=mkF false true false [] 62 11
noncomputable def fn18:RFn:=mkF false true false [] 24 18
noncomputable def fn29:RFn:=mkF false true false [] 11 29
noncomputable def fn31:RFn:=mkF false true false [] 22 31
noncomputable def fn33:RFn:=mkF false true false [] 27 33
noncomputable def qkj:FuncId→Option RFn
 | 191=>some fn191
 | 203=>some fn203
 | 204=>some fn204
 | 205=>some fn205
 | 219=>some fn219
 | 177=>some fn177
 | 192=>some fn192
 | 176=>some fn176
 | 148=>some fn148
 | 49=>some fn49
 | 84=>some fn84
 | 89=>some fn89
 | 85=>some fn85
 | 88=>some fn88
 | 86=>some fn86
 | 48=>some fn48
 | 19=>some fn19
 | 21=>some fn21
 | 23=>some fn23
 | 7=>some fn7
 | 8=>some fn8
 | 14=>some fn14
 | 13=>some fn13
 | 16=>some fn16
 | 26=>some fn26
 | 27=>some fn27
 | 25=>some fn25
 | 35=>some fn35
 | 36=>some fn36
 | 41=>some fn41
 | 42=>some fn42
 | 52=>some fn52
 | 53=>some fn53
 | 54=>some fn54
 | 55=>some fn55
 | 56=>some fn56
 | 57=>some fn57
 | 58=>some fn58
 | 59=>some fn59
 | 62=>some fn62
 | 63=>some fn63
 | 64=>some fn64
 | 65=>some fn65
 | 76=>some fn76
 | 77=>some fn77
 | 78=>some fn78
 | 87=>some fn87
 | 91=>some fn91
 | 92=>some fn92
 | 93=>some fn93
 | 94=>some fn94
 | 149=>some fn149
 | 150=>some fn150
 | 151=>some fn151
 | 179=>some fn179
 | 141=>some fn141
 | 142=>some fn142
 | 12=>some fn12
 | 100=>some fn100
 | 101=>some fn101
 | 102=>some fn102
 | 103=>some fn103
 | 104=>some fn104
 | 105=>some fn105
 | 106=>some fn106
 | 107=>some fn107
 | 108=>some fn108
 | 109=>some fn109
 | 110=>some fn110
 | 132=>some fn132
 | 133=>some fn133
 | 134=>some fn134
 | 135=>some fn135
 | 136=>some fn136
 | 137=>some fn137
 | 138=>some fn138
 | 139=>some fn139
 | 140=>some fn140
 | 170=>some fn170
 | 171=>some fn171
 | 34=>some fn34
 | 37=>some fn37
 | 43=>some fn43
 | 60=>some fn60
 | 61=>some fn61
 | 66=>some fn66
 | 67=>some fn67
 | 68=>some fn68
 | 75=>some fn75
 | 96=>some fn96
 | 97=>some fn97
 | 98=>some fn98
 | 111=>some fn111
 | 112=>some fn112
 | 113=>some fn113
 | 114=>some fn114
 | 115=>some fn115
 | 116=>some fn116
 | 117=>some fn117
 | 118=>some fn118
 | 119=>some fn119
 | 120=>some fn120
 | 121=>some fn121
 | 122=>some fn122
 | 123=>some fn123
 | 124=>some fn124
 | 125=>some fn125
 | 126=>some fn126
 | 127=>some fn127
 | 128=>some fn128
 | 160=>some fn160
 | 161=>some fn161
 | 162=>some fn162
 | 163=>some fn163
 | 164=>some fn164
 | 165=>some fn165
 | 166=>some fn166
 | 167=>some fn167
 | 168=>some fn168
 | 178=>some fn178
 | 185=>some fn185
 | 195=>some fn195
 | 190=>some fn190
 | 9=>some fn9
 | 10=>some fn10
 | 11=>some fn11
 | 18=>some fn18
 | 29=>some fn29
 | 31=>some fn31
 | 33=>some fn33
 | _=>none
end Go.Ab


set_option maxRecDepth 100000
namespace Go.Ab
open Go
def rsh0:FuncId→RSh×Bool
 | 25=>(.cl,false)
 | 58=>(.cl,false)
 | 108=>(.cl,false)
 | 117=>(.own 1,true)
 | 165=>(.own 1,true)
 | 190=>(.own 1,true)
 | _=>(.cl,true)
def Qgw:qkh:={args:=[.cv (.bool false),.fn 1000084 [.ref (0,0) 0]],ins:=[.cells 0 [.cv (.bool false),.cv (.bool false),.cv (.bool false),.cv (.bool false),.cv (.bool false),.cv (.bool false),.cv (.bool false),.cv (.bool false)]],res:=.tup [.cv (.bool false),.cv (.bool false)],outs:=[.cells 0 [.cv (.bool false),.cv (.bool false),.cv (.bool false),.cv (.bool false),.cv (.bool false),.cv (.bool false),.cv (.bool false),.cv (.bool false)]],news:=[],gone:=[]}
def Qgv:qkh:={args:=[.cv (.bool false),.fn 85 [.ref (0,0) 0]],ins:=[.cells 104 [.ref (0,1) 0],.cells 0 [.cv (.bool false),.cv (.bool false),.cv (.bool false),.cv (.bool false),.cv (.bool false),.cv (.bool false),.cv (.bool false),.cv (.bool false)]],res:=.tup [.cv (.bool false),.cv (.bool false)],outs:=[.cells 104 [.ref (0,1) 0],.cells 0 [.cv (.bool false),.cv (.bool false),.cv (.bool false),.cv (.bool false),.cv (.bool false),.cv (.bool false),.cv (.bool false),.cv (.bool false)]],news:=[],gone:=[]}
def Qgu:qkh:={args:=[.cv (.bool false),.fn 88 [.ref (0,0) 0]],ins:=[.cells 104 [.ref (0,1) 0],.cells 0 [.cv (.bool false),.cv (.bool false),.cv (.bool false),.cv (.bool false),.cv (.bool false),.cv (.bool false),.cv (.bool false),.cv (.bool false)]],res:=.tup [.cv (.bool false),.cv (.bool false)],outs:=[.cells 104 [.ref (0,1) 0],.cells 0 [.cv (.bool false),.cv (.bool false),.cv (.bool false),.cv (.bool false),.cv (.bool false),.cv (.bool false),.cv (.bool false),.cv (.bool false)]],news:=[],gone:=[]}
def Qk1:List KV→List KOb→qkh
 | [_,.fn 1000084 _],_=>Qgw
 | [_,.fn 85 _],_=>Qgv
 | _,_=>Qgu
def sh49:qkh:={args:=[.cv (.bool false)],ins:=[],res:=.agg [.fn 1000084 [.ref (1,1) 0],.fn 85 [.ref (1,0) 0],.fn 88 [.ref (1,0) 0]],outs:=[],news:=[.cells 104 [.ref (1,1) 0],.cells 0 [.cv (.bool false),.cv (.bool false),.cv (.bool false),.cv (.bool false),.cv (.bool false),.cv (.bool false),.cv (.bool false),.cv (.bool false)]],gone:=[]}
def shs49:List KV→List KOb→qkh
 | _,_=>sh49
def sh84:qkh:={args:=[.ref (0,0) 0,.cv (.bool false)],ins:=[.cells 0 [.cv (.bool false),.cv (.bool false),.cv (.bool false),.cv (.bool false),.cv (.bool false),.cv (.bool false),.cv (.bool false),.cv (.bool false)]],res:=.tup [.cv (.bool false),.cv (.bool false)],outs:=[.cells 0 [.cv (.bool false),.cv (.bool false),.cv (.bool false),.cv (.bool false),.cv (.bool false),.cv (.bool false),.cv (.bool false),.cv (.bool false)]],news:=[],gone:=[]}
def shs84:List KV→List KOb→qkh
 | _,_=>sh84
def sh85:qkh:={args:=[.cv (.bool false),.ref (0,0) 0],ins:=[.cells 104 [.ref (0,1) 0],.cells 0 [.cv (.bool false),.cv (.bool false),.cv (.bool false),.cv (.bool false),.cv (.bool false),.cv (.bool false),.cv (.bool false),.cv (.bool false)]],res:=.tup [.cv (.bool false),.cv (.bool false)],outs:=[.cells 104 [.ref (0,1) 0],.cells 0 [.cv (.bool false),.cv (.bool false),.cv (.bool false),.cv (.bool false),.cv (.bool false),.cv (.bool false),.cv (.bool false),.cv (.bool false)]],news:=[],gone:=[]}
def shs85:List KV→List KOb→qkh
 | _,_=>sh85
def Qgt:qkh:={args:=[.cv (.bool false),.cv (.bool false),.fn 1000084 [.ref (0,0) 0]],ins:=[.cells 0 [.cv (.bool false),.cv (.bool false),.cv (.bool false),.cv (.bool false),.cv (.bool false),.cv (.bool false),.cv (.bool false),.cv (.bool false)]],res:=.tup [.cv (.bool false),.cv (.bool false)],outs:=[.cells 0 [.cv (.bool false),.cv (.bool false),.cv (.bool false),.cv (.bool false),.cv (.bool false),.cv (.bool false),.cv (.bool false),.cv (.bool false)]],news:=[],gone:=[]}
def Qgs:qkh:={args:=[.cv (.bool false),.cv (.bool false),.fn 1000089 [.ref (0,0) 0]],ins:=[.cells 0 [.cv (.bool false),.cv (.bool false),.cv (.bool false),.cv (.bool false),.cv (.bool false),.cv (.bool false),.cv (.bool false),.cv (.bool false)]],res:=.tup [.cv (.bool false),.cv (.bool false)],outs:=[.cells 0 [.cv (.bool false),.cv (.bool false),.cv (.bool false),.cv (.bool false),.cv (.bool false),.cv (.bool false),.cv (.bool false),.cv (.bool false)]],news:=[],gone:=[]}
def shs86:List KV→List KOb→qkh
 | [_,_,.fn 1000084 _],_=>Qgt
 | _,_=>Qgs
def sh88:qkh:={args:=[.cv (.bool false),.ref (0,0) 0],ins:=[.cells 104 [.ref (0,1) 0],.cells 0 [.cv (.bool false),.cv (.bool false),.cv (.bool false),.cv (.bool false),.cv (.bool false),.cv (.bool false),.cv (.bool false),.cv (.bool false)]],res:=.tup [.cv (.bool false),.cv (.bool false)],outs:=[.cells 104 [.ref (0,1) 0],.cells 0 [.cv (.bool false),.cv (.bool false),.cv (.bool false),.cv (.bool false),.cv (.bool false),.cv (.bool false),.cv (.bool false),.cv (.bool false)]],news:=[],gone:=[]}
def shs88:List KV→List KOb→qkh
 | _,_=>sh88
def sh89:qkh:={args:=[.ref (0,0) 0,.cv (.bool false)],ins:=[.cells 0 [.cv (.bool false),.cv (.bool false),.cv (.bool false),.cv (.bool false),.cv (.bool false),.cv (.bool false),.cv (.bool false),.cv (.bool false)]],res:=.tup [.cv (.bool false),.cv (.bool false)],outs:=[.cells 0 [.cv (.bool false),.cv (.bool false),.cv (.bool false),.cv (.bool false),.cv (.bool false),.cv (.bool false),.cv (.bool false),.cv (.bool false)]],news:=[],gone:=[]}
def shs89:List KV→List KOb→qkh
 | _,_=>sh89
def sh96:qkh:={args:=[],ins:=[],res:=.un,outs:=[],news:=[],gone:=[]}
def shs96:List KV→List KOb→qkh
 | _,_=>sh96
def sh148:qkh:={args:=[.ref (0,0) 0],ins:=[.cells 0 [.cv (.bool false),.cv (.bool false),.cv (.bool false),.cv (.bool false),.cv (.bool false),.cv (.bool false),.cv (.bool false),.cv (.bool false)]],res:=.tup [.cv (.bool false),.cv (.bool false)],outs:=[.cells 0 [.cv (.bool false),.cv (.bool false),.cv (.bool false),.cv (.bool false),.cv (.bool false),.cv (.bool false),.cv (.bool false),.cv (.bool false)]],news:=[],gone:=[]}
def shs148:List KV→List KOb→qkh
 | _,_=>sh148
def sh166:qkh:={args:=[],ins:=[],res:=.un,outs:=[],news:=[],gone:=[]}
def shs166:List KV→List KOb→qkh
 | _,_=>sh166
def sh176:qkh:={args:=[.ref (0,1) 0,.fn 177 [.ref (0,0) 0]],ins:=[.cells 0 [.ref (0,1) 0],.cells 0 [.cv (.bool false),.cv (.bool false),.cv (.bool false),.cv (.bool false),.cv (.bool false),.cv (.bool false),.cv (.bool false),.cv (.bool false)]],res:=.tup [],outs:=[.cells 0 [.ref (0,1) 0],.cells 0 [.cv (.bool false),.cv (.bool false),.cv (.bool false),.cv (.bool false),.cv (.bool false),.cv (.bool false),.cv (.bool false),.cv (.bool false)]],news:=[],gone:=[]}
def shs176:List KV→List KOb→qkh
 | _,_=>sh176
def sh177:qkh:={args:=[.ref (0,0) 0],ins:=[.cells 0 [.ref (0,1) 0],.cells 0 [.cv (.bool false),.cv (.bool false),.cv (.bool false),.cv (.bool false),.cv (.bool false),.cv (.bool false),.cv (.bool false),.cv (.bool false)]],res:=.tup [],outs:=[.cells 0 [.ref (0,1) 0],.cells 0 [.cv (.bool false),.cv (.bool false),.cv (.bool false),.cv (.bool false),.cv (.bool false),.cv (.bool false),.cv (.bool false),.cv (.bool false)]],news:=[],gone:=[]}
def shs177:List KV→List KOb→qkh
 | _,_=>sh177
def sh191:qkh:={args:=[.ref (0,0) 0],ins:=[.cells 0 [.cv (.bool false),.cv (.bool false),.cv (.bool false),.cv (.bool false),.cv (.bool false),.cv (.bool false),.cv (.bool false),.cv (.bool false)]],res:=.cv (.bool false),outs:=[.cells 0 [.cv (.bool false),.cv (.bool false),.cv (.bool false),.cv (.bool false),.cv (.bool false),.cv (.bool false),.cv (.bool false),.cv (.bool false)]],news:=[],gone:=[]}
def shs191:List KV→List KOb→qkh
 | _,_=>sh191
def sh192:qkh:={args:=[.ref (0,1) 0,.fn 177 [.ref (0,0) 0]],ins:=[.cells 0 [.ref (0,1) 0],.cells 0 [.cv (.bool false),.cv (.bool false),.cv (.bool false),.cv (.bool false),.cv (.bool false),.cv (.bool false),.cv (.bool false),.cv (.bool false)]],res:=.tup [],outs:=[.cells 0 [.ref (0,1) 0],.cells 0 [.cv (.bool false),.cv (.bool false),.cv (.bool false),.cv (.bool false),.cv (.bool false),.cv (.bool false),.cv (.bool false),.cv (.bool false)]],news:=[],gone:=[]}
def shs192:List KV→List KOb→qkh
 | _,_=>sh192
def sh203:qkh:={args:=[.ref (0,0) 1],ins:=[.cells 0 [.cv (.bool false),.cv (.bool false),.cv (.bool false),.cv (.bool false),.cv (.bool false),.cv (.bool false),.cv (.bool false),.cv (.bool false)]],res:=.tup [],outs:=[.cells 0 [.cv (.bool false),.cv (.bool false),.cv (.bool false),.cv (.bool false),.cv (.bool false),.cv (.bool false),.cv (.bool false),.cv (.bool false)]],news:=[],gone:=[]}
def shs203:List KV→List KOb→qkh
 | _,_=>sh203
def sh204:qkh:={args:=[.ref (0,0) 1],ins:=[.cells 0 [.cv (.bool false),.cv (.bool false),.cv (.bool false),.cv (.bool false),.cv (.bool false),.cv (.bool false),.cv (.bool false),.cv (.bool false)]],res:=.tup [],outs:=[.cells 0 [.cv (.bool false),.cv (.bool false),.cv (.bool false),.cv (.bool false),.cv (.bool false),.cv (.bool false),.cv (.bool false),.cv (.bool false)]],news:=[],gone:=[]}
def shs204:List KV→List KOb→qkh
 | _,_=>sh204
def sh205:qkh:={args:=[.ref (0,0) 0,.cv (.bool false)],ins:=[.cells 0 [.cv (.bool false),.cv (.bool false),.cv (.bool false),.cv (.bool false),.cv (.bool false),.cv (.bool false),.cv (.bool false),.cv (.bool false)]],res:=.tup [],outs:=[.cells 0 [.cv (.bool false),.cv (.bool false),.cv (.bool false),.cv (.bool false),.cv (.bool false),.cv (.bool false),.cv (.bool false),.cv (.bool false)]],news:=[],gone:=[]}
def shs205:List KV→List KOb→qkh
 | _,_=>sh205
def iof0:FuncId→Option (List KV→List KOb→qkh)
 | 48=>some Qk1
 | 49=>some shs49
 | 84=>some shs84
 | 85=>some shs85
 | 86=>some shs86
 | 88=>some shs88
 | 89=>some shs89
 | 96=>some shs96
 | 148=>some shs148
 | 166=>some shs166
 | 176=>some shs176
 | 177=>some shs177
 | 191=>some shs191
 | 192=>some shs192
 | 203=>some shs203
 | 204=>some shs204
 | 205=>some shs205
 | _=>none
def qdo (b:KB) (dsh:Nat→RSh):qz8:={b,rsh:=rsh0,spF:=fun f=>f==95||f==159||f==157||f==158||f==156||f==99||f==202||f==218||f==216||f==217,asT:=fun f p=>if f=95∧p=126 then some (124,1) else if f=95∧p=146 then some (145,1) else if f=95∧p=154 then some (153,1) else if f=95∧p=182 then some (143,1) else none,dsh,ioF:=iof0,spK:=fun f=>if f=202 then some (kLoad .u32) else if f=218 then some (kStore .u32) else if f=216 then some (kSwap .i32 0 1) else if f=217 then some (kSwap .i32 1 0) else none,flatF:=fun f=>f==204||f==205}
theorem run191 (B:KB) (x0:PV) (x1:PV) (x2:PV) (x3:PV) (x4:PV) (x5:PV) (x6:PV) (x7:PV) :
  qfz (qdo B (fun _=>.cl)) fn191 sh191 [x0,x1,x2,x3,x4,x5,x6,x7] =
  qbn (qsq .u32 x0) (qba (qbb (.bin .neq .num true (.c x0) (.c (.int .u32 0)))) (fun z1=>some [z1,x0,x1,x2,x3,x4,x5,x6,x7])):=by kernel_rfl
theorem run203 (B:KB) (x0:PV) (x1:PV) (x2:PV) (x3:PV) (x4:PV) (x5:PV) (x6:PV) (x7:PV) :
  qfz (qdo B (fun _=>.cl)) fn203 sh203 [x0,x1,x2,x3,x4,x5,x6,x7] =
  qbn (Qja .i32 0 x1) (some [x0,.int .i32 1,x2,x3,x4,x5,x6,x7]):=by kernel_rfl
theorem run204 (B:KB) (x0:PV) (x1:PV) (x2:PV) (x3:PV) (x4:PV) (x5:PV) (x6:PV) (x7:PV) :
  qfz (qdo B (fun _=>.cl)) fn204 sh204 [x0,x1,x2,x3,x4,x5,x6,x7] =
  qbn (Qja .i32 1 x1) (some [x0,.int .i32 0,x2,x3,x4,x5,x6,x7]):=by kernel_rfl
theorem run205 (B:KB) (x0:PV) (x1:PV) (x2:PV) (x3:PV) (x4:PV) (x5:PV) (x6:PV) (x7:PV) (x8:PV) :
  qfz (qdo B (fun _=>.cl)) fn205 sh205 [x0,x1,x2,x3,x4,x5,x6,x7,x8] =
  qba (qbj B .cl (.fn 219 []) [x0]) (fun z1=>qbn (qnt (qsq .u32 x1) (qsq .u32 z1)) (some [z1,x2,x3,x4,x5,x6,x7,x8])):=by kernel_rfl
theorem run219 (B:KB) {E:Type} (h:qbf E) (dep:Nat) (e:E) (x0:PV) :
  qfy (qdo B (fun _=>.cl)) fn219 (.cl) h dep [.cv x0] e =
  qca x0 (some (.int .u32 1,e)) (some (.int .u32 0,e)):=by kernel_rfl
theorem run177 (B:KB) (x0:PV) (x1:PV) (x2:PV) (x3:PV) (x4:PV) (x5:PV) (x6:PV) (x7:PV) :
  qfz (qdo B (fun _=>.cl)) fn177 sh177 [x0,x1,x2,x3,x4,x5,x6,x7] =
  qba (qbj B .cl (.fn 178 []) [x3]) (fun z1=>qba (qbb (.extract 0 (.c z1))) (fun z2=>qba (qbb (.extract 1 (.c z1))) (fun z3=>qbn (qdf 1 [z2]) (qba (qbb (.un
  .not (.c z3))) (fun z4=>qca z4 (qba (qbb (.build [.int .i64 0] [(0,(1,.c (.int .i64 102)))])) (fun z5=>qbn (qbi (.iface 124 z5) 1) (some [x0,x1,x2,x3,.bool
  false,.bool false,.nilS,qbd (.iface 124 z5) 0]))) none))))):=by kernel_rfl
theorem run192 (B:KB) (x0:PV) (x1:PV) (x2:PV) (x3:PV) (x4:PV) (x5:PV) (x6:PV) (x7:PV) :
  qfz (qdo B (fun _=>.cl)) fn192 sh192 [x0,x1,x2,x3,x4,x5,x6,x7] =
  qba (ioO B sh203 203 [x0,x1,x2,x3,x4,x5,x6,x7]) (fun z1=>qba (ioO B sh191 191 [nth z1 0,nth z1 1,nth z1 2,nth z1 3,nth z1 4,nth z1 5,nth z1 6,
  nth z1 7]) (fun z2=>qba (qbb (.un .not (.c (nth z2 0)))) (fun z3=>qca z3 (qba (ioO B sh177 177 [nth z2 1,nth z2 2,
  nth z2 3,nth z2 4,nth z2 5,nth z2 6,nth z2 7,nth z2 8]) (fun z4=>qba (ioO B sh205 205 [.bool true,nth z4 0,nth z4 1,nth z4 2,nth z4 3,nth z4 4,
  nth z4 5,nth z4 6,nth z4 7]) (fun z5=>qba (ioO B sh204 204 [nth z5 0,nth z5 1,nth z5 2,nth z5 3,nth z5 4,nth z5 5,nth z5 6,nth z5 7]) (fun z6=>some [nth
  z6 0,nth z6 1,nth z6 2,nth z6 3,nth z6 4,nth z6 5,nth z6 6,nth z6 7])))) (qba (ioO B sh204 204 [nth z2 1,nth z2 2,nth z2 3,nth z2 4,nth z2 5,nth z2 6,nth
  z2 7,nth z2 8]) (fun z7=>some [nth z7 0,nth z7 1,nth z7 2,nth z7 3,nth z7 4,nth z7 5,nth z7 6,nth z7 7]))))):=by kernel_rfl
theorem run176 (B:KB) (x0:PV) (x1:PV) (x2:PV) (x3:PV) (x4:PV) (x5:PV) (x6:PV) (x7:PV) :
  qfz (qdo B (fun _=>.cl)) fn176 sh176 [x0,x1,x2,x3,x4,x5,x6,x7] =
  qba (ioO B sh191 191 [x0,x1,x2,x3,x4,x5,x6,x7]) (fun z1=>qba (qbb (.un .not (.c (nth z1 0)))) (fun z2=>qca z2 (qba (ioO B sh192 192 [nth z1 1,nth z1 2,nth z1 3,nth z1 4,nth z1 5,nth z1 6,nth z1 7,nth z1 8]) (fun z3=>some [nth z3 0,nth z3
  1,nth z3 2,nth z3 3,nth z3 4,nth z3 5,nth z3 6,nth z3 7])) (some [nth z1 1,nth z1 2,nth z1 3,nth z1 4,nth z1 5,nth z1 6,nth z1 7,nth z1 8]))):=by kernel_rfl
theorem run148 (B:KB) (x0:PV) (x1:PV) (x2:PV) (x3:PV) (x4:PV) (x5:PV) (x6:PV) (x7:PV) :
  qfz (qdo B (fun _=>.cl)) fn148 sh148 [x0,x1,x2,x3,x4,x5,x6,x7] =
  qba (ioO B sh176 176 [x0,x1,x2,x3,x4,x5,x6,x7]) (fun z1=>some [.agg [nth z1 4,nth z1 5,
  nth z1 6],nth z1 7,nth z1 0,nth z1 1,nth z1 2,nth z1 3,nth z1 4,nth z1 5,nth z1 6,nth z1 7]):=by kernel_rfl
theorem run49 (B:KB) (x0:PV) :
  qfz (qdo B (fun _=>.cl)) fn49 sh49 [x0] =
  qbn (qbi x0 1) (some [.int .u32 0,.int .i32 0,.int .u32 0,qbd x0 0,.bool false,.bool false,.nilS,.nilI]):=by kernel_rfl
theorem run84 (B:KB) (x0:PV) (x1:PV) (x2:PV) (x3:PV) (x4:PV) (x5:PV) (x6:PV) (x7:PV) (x8:PV) :
  qfz (qdo B (fun _=>.cl)) fn84 sh84 [x0,x1,x2,x3,x4,x5,x6,x7,x8] =
  qbn (qh3 x0) (qba (qb0 x0 2 1 false) (fun z1=>qba (qbb (.len .slice (.c z1))) (fun z2=>qba (qbb (.bin .eql .num true (.c z2) (.c (.int .i64 0)))) (fun z3=>qca
  z3 (qba (ioO B sh148 148 [x1,x2,x3,x4,x5,x6,x7,x8]) (fun z4=>qbn (qbi (nth z4 0) 3) (qbn (qbi (nth z4 1) 1) (some
  [.agg [qbd (nth z4 0) 0,qbd (nth z4 0) 1,qbd (nth z4 0) 2],qbd (nth z4 1) 0,nth z4 2,nth z4 3,nth z4 4,nth z4 5,nth z4 6,nth z4 7,nth z4 8,nth z4 9])))) (qba
  (qb0 x0 0 3 true) (fun z5=>qba (qbb (.build [.bool false,.bool false,.nilS] [(0,(3,.c z5))])) (fun z6=>qba (qbj B .cl (.fn 57 []) [z6]) (fun z7=>qba (qbj B
  .cl (.fn 56 []) [z7]) (fun z8=>qba (qbb (.len .slice (.c z8))) (fun z9=>qba (qbb (.bin .sub .num true (.c z9) (.c (.int .i64 1)))) (fun z10=>qba (qbb (.idxAddr 3
  (.c z8) (.c z10))) (fun z11=>qba (qbb (.load 3 true (.c z11))) (fun z12=>qbn (qbi z12 3) (qba (qbb (.len .slice (.c z8))) (fun z13=>qba (qbb (.bin .sub .num
  true (.c z13) (.c (.int .i64 1)))) (fun z14=>qba (qbb (.slice 3 (.c z8) none (some (.c z14)) none)) (fun z15=>qba (qbj B .cl (.fn 149 []) [z15]) (fun z16=>qba
  (qf0 B (qd6 0 (fun z17=>fun z18=>fun z19=>none) (fun z20=>fun z21=>fun z22=>qbn (qgx z21 2) (qbn (qbi (nth z21 1) 3) (qba (qbj B .cl (.fn 16 [])
  [nth z20 4,.agg [qbd (nth z21 1) 0,qbd (nth z21 1) 1,qbd (nth z21 1) 2],.agg [nth z20 13,nth z20 14,nth z20 15]]) (fun z23=>qba (qbb (.extract 0 (.c z23))) (fun
  z24=>qba (qbb (.extract 1 (.c z23))) (fun z25=>qba (qbj B .cl (.fn 150 []) [z24,z25]) (fun z26=>qba (qbb (.extract 0 (.c z26))) (fun z27=>qba (qbb
  (.extract 1 (.c z26))) (fun z28=>qbn (qbi z27 3) (qba (qbb (.bin .neq .iface true (.c z28) (.c .nilI))) (fun z29=>qca z29 (qbn (qbi z28 1) (some (false,([nth
  z20 0,nth z20 1,nth z20 2,nth z20 3,nth z20 4,nth z20 5,nth z20 6,nth z20 7,nth z20 8,.bool false,.bool false,.nilS,qbd z28 0,nth z20 13,nth z20 14,nth z20 15],
  (some .ret,z22))))) (some (true,([nth z20 0,nth z20 1,nth z20 2,nth z20 3,nth z20 4,nth z20 5,nth z20 6,nth z20 7,nth z20 8,nth z20 9,nth z20 10,nth z20 11,nth z20
  12,qbd z27 0,qbd z27 1,qbd z27 2],(none,z22)))))))))))))))) 0 z16 ([z16,x1,x2,x3,x4,x5,x6,x7,x8,.bool false,.bool false,.nilS,.nilI,qbd z12 0,qbd z12
  1,qbd z12 2],(none,()))) (fun z30=>qqj (qht z30.2.1) (qbn (qbi .nilI 1) (some [.agg [nth z30.1 13,nth z30.1 14,nth z30.1 15],qbd .nilI 0,nth z30.1 1,nth
  z30.1 2,nth z30.1 3,nth z30.1 4,nth z30.1 5,nth z30.1 6,nth z30.1 7,nth z30.1 8])) (qqj (qmm z30.2.1) (some [.agg [nth z30.1 9,nth z30.1 10,nth z30.1 11],nth z30.1 12,
  nth z30.1 1,nth z30.1 2,nth z30.1 3,nth z30.1 4,nth z30.1 5,nth z30.1 6,nth z30.1 7,nth z30.1 8]) none)))))))))))))))))))):=by kernel_rfl
theorem run89 (B:KB) (x0:PV) (x1:PV) (x2:PV) (x3:PV) (x4:PV) (x5:PV) (x6:PV) (x7:PV) (x8:PV) :
  qfz (qdo B (fun _=>.cl)) fn89 sh89 [x0,x1,x2,x3,x4,x5,x6,x7,x8] =
  qbn (qh3 x0) (qba (qb0 x0 0 3 true) (fun z1=>qba (qbj B .cl (.fn 13 []) [x4,z1]) (fun z2=>qba (qbb (.extract 0 (.c z2))) (fun z3=>qba (qbb (.extract 1 (.c
  z2))) (fun z4=>qba (qbj B .cl (.fn 150 []) [z3,z4]) (fun z5=>qba (qbb (.extract 0 (.c z5))) (fun z6=>qba (qbb (.extract 1 (.c z5))) (fun z7=>qbn (qbi z6
  3) (some [.agg [qbd z6 0,qbd z6 1,qbd z6 2],z7,x1,x2,x3,x4,x5,x6,x7,x8]))))))))):=by kernel_rfl
theorem run85 (B:KB) (x0:PV) (x1:PV) (x2:PV) (x3:PV) (x4:PV) (x5:PV) (x6:PV) (x7:PV) (x8:PV) :
  qfz (qdo B (fun _=>.cl)) fn85 sh85 [x0,x1,x2,x3,x4,x5,x6,x7,x8] =
  qbn (qh3 x0) (qba (qb0 x0 0 3 true) (fun z1=>qba (qb0 x0 0 3 true) (fun z2=>qba (qbb (.build [.bool false,.bool false,.nilS] [(0,(3,.c z2))])) (fun z3=>qba
  (qbj B .cl (.fn 87 []) [z3]) (fun z4=>qba (ioO B Qgt 86 [z1,z4,x1,x2,x3,x4,x5,
  x6,x7,x8]) (fun z5=>qbn (qbi (nth z5 0) 3) (some [.agg [qbd (nth z5 0) 0,qbd (nth z5 0) 1,qbd (nth z5 0) 2],nth z5 1,nth z5 2,nth z5 3,nth z5 4,nth z5 5,nth
  z5 6,nth z5 7,nth z5 8,nth z5 9]))))))):=by kernel_rfl
theorem run88 (B:KB) (x0:PV) (x1:PV) (x2:PV) (x3:PV) (x4:PV) (x5:PV) (x6:PV) (x7:PV) (x8:PV) :
  qfz (qdo B (fun _=>.cl)) fn88 sh88 [x0,x1,x2,x3,x4,x5,x6,x7,x8] =
  qbn (qh3 x0) (qba (qb0 x0 0 3 true) (fun z1=>qba (qb0 x0 0 3 true) (fun z2=>qba (qbb (.build [.bool false,.bool false,.nilS] [(0,(3,.c z2))])) (fun z3=>qba
  (qbj B .cl (.fn 57 []) [z3]) (fun z4=>qba (ioO B Qgs 86 [z1,z4,x1,x2,x3,x4,x5,
  x6,x7,x8]) (fun z5=>qbn (qbi (nth z5 0) 3) (some [.agg [qbd (nth z5 0) 0,qbd (nth z5 0) 1,qbd (nth z5 0) 2],nth z5 1,nth z5 2,nth z5 3,nth z5 4,nth z5 5,nth
  z5 6,nth z5 7,nth z5 8,nth z5 9]))))))):=by kernel_rfl
theorem run86_0 (B:KB) (x0:PV) (x1:PV) (x2:PV) (x3:PV) (x4:PV) (x5:PV) (x6:PV) (x7:PV) (x8:PV) (x9:PV) :
  qfz (qdo B (fun _=>.cl)) fn86 Qgt [x0,x1,x2,x3,x4,x5,x6,x7,x8,x9] =
  qbn (qh3 x0) (qba (qf0 B (qd6 0 (fun z1=>fun z2=>fun z3=>none) (fun z4=>fun z5=>fun z6=>qbn (qgx z5 1) (qbn (qbi (nth z5 0) 3) (qba (ioO B sh84 84 [.agg [qbd (nth z5 0) 0,qbd (nth z5 0) 1,qbd (nth z5 0) 2],nth z4 1,nth z4 2,nth z4 3,nth z4 4,nth z4
  5,nth z4 6,nth z4 7,nth z4 8]) (fun z7=>qbn (qbi (nth z7 0) 3) (qba (qbb (.bin .neq .iface true (.c (nth z7 1)) (.c .nilI))) (fun z8=>qca z8 (qbn (qbi (nth z7
  1) 1) (some (false,([nth z4 0,nth z7 2,nth z7 3,nth z7 4,nth z7 5,nth z7 6,nth z7 7,nth z7 8,nth z7 9,nth z4 9,.bool false,.bool false,.nilS,qbd (nth z7 1) 0,nI
  (qb7 (nth z4 14)),.sl 3 (qbs (nth z4 15)) false],(some .ret,z6))))) (qbn (qdf 3 [.agg [qbd (nth z7 0) 0,qbd (nth z7 0) 1,qbd (nth z7 0) 2]]) (qbn (leN (qd5 0
  (qbw [.agg [qbd (nth z7 0) 0,qbd (nth z7 0) 1,qbd (nth z7 0) 2]])) (qbw [.agg [qbd (nth z7 0) 0,qbd (nth z7 0) 1,qbd (nth z7 0) 2]])) (qbn (qnt (leN (qb7 (nth
  z4 14)) (qbw (qbs (nth z4 15)))) (leN (qd5 (qb7 (nth z4 14)) (qbw (qb2 (qbw [.agg [qbd (nth z7 0) 0,qbd (nth z7 0) 1,qbd (nth z7 0) 2]]) (qcx 0 [.agg [qbd
  (nth z7 0) 0,qbd (nth z7 0) 1,qbd (nth z7 0) 2]])))) 2147483648)) (some (true,([nth z4 0,nth z7 2,nth z7 3,nth z7 4,nth z7 5,nth z7 6,nth z7 7,nth z7 8,nth z7 9,nth
  z4 9,nth z4 10,nth z4 11,nth z4 12,nth z4 13,nI (qd5 (qb7 (nth z4 14)) (qbw (qb2 (qbw [.agg [qbd (nth z7 0) 0,qbd (nth z7 0) 1,qbd (nth z7 0) 2]]) (qcx 0 [.agg
  [qbd (nth z7 0) 0,qbd (nth z7 0) 1,qbd (nth z7 0) 2]])))),.sl 3 (qqr (qb2 (qb7 (nth z4 14)) (qbs (nth z4 15))) (qb2 (qbw [.agg [qbd (nth z7 0) 0,qbd (nth z7
  0) 1,qbd (nth z7 0) 2]]) (qcx 0 [.agg [qbd (nth z7 0) 0,qbd (nth z7 0) 1,qbd (nth z7 0) 2]]))) false],(none,z6)))))))))))))) 0 x1 ([x1,x2,x3,x4,x5,x6,x7,x8,
  x9,x0,.bool false,.bool false,.nilS,.nilI,nI 0,.sl 3 [] false],(none,()))) (fun z9=>qqj (qht z9.2.1) (qba (qb0 (nth z9.1 9) 0 3 true) (fun z10=>qba (qbb
  (.build [.bool false,.bool false,.nilS] [(0,(3,.c z10))])) (fun z11=>qba (qgw B .cl false 58 [z11,slO 3 3 (qbs (nth z9.1 15)) 0 (qb7 (nth z9.1 14))]) (fun z12 =>
  qba (qbb (.extract 0 (.c z12))) (fun z13=>qba (qbb (.extract 1 (.c z12))) (fun z14=>qbn (qbi z13 3) (qbn (qbi z14 1) (some [.agg [qbd z13 0,qbd z13 1,
  qbd z13 2],qbd z14 0,nth z9.1 1,nth z9.1 2,nth z9.1 3,nth z9.1 4,nth z9.1 5,nth z9.1 6,nth z9.1 7,nth z9.1 8])))))))) (qqj (qmm z9.2.1) (some [.agg [nth z9.1 10,
  nth z9.1 11,nth z9.1 12],nth z9.1 13,nth z9.1 1,nth z9.1 2,nth z9.1 3,nth z9.1 4,nth z9.1 5,nth z9.1 6,nth z9.1 7,nth z9.1 8]) none))):=by kernel_rfl
theorem run86_1 (B:KB) (x0:PV) (x1:PV) (x2:PV) (x3:PV) (x4:PV) (x5:PV) (x6:PV) (x7:PV) (x8:PV) (x9:PV) :
  qfz (qdo B (fun _=>.cl)) fn86 Qgs [x0,x1,x2,x3,x4,x5,x6,x7,x8,x9] =
  qbn (qh3 x0) (qba (qf0 B (qd6 0 (fun z1=>fun z2=>fun z3=>none) (fun z4=>fun z5=>fun z6=>qbn (qgx z5 1) (qbn (qbi (nth z5 0) 3) (qba (ioO B sh89 89 [.agg [qbd (nth z5 0) 0,qbd (nth z5 0) 1,qbd (nth z5 0) 2],nth z4 1,nth z4 2,nth z4 3,nth z4 4,nth z4
  5,nth z4 6,nth z4 7,nth z4 8]) (fun z7=>qbn (qbi (nth z7 0) 3) (qba (qbb (.bin .neq .iface true (.c (nth z7 1)) (.c .nilI))) (fun z8=>qca z8 (qbn (qbi (nth z7
  1) 1) (some (false,([nth z4 0,nth z7 2,nth z7 3,nth z7 4,nth z7 5,nth z7 6,nth z7 7,nth z7 8,nth z7 9,nth z4 9,.bool false,.bool false,.nilS,qbd (nth z7 1) 0,nI
  (qb7 (nth z4 14)),.sl 3 (qbs (nth z4 15)) false],(some .ret,z6))))) (qbn (qdf 3 [.agg [qbd (nth z7 0) 0,qbd (nth z7 0) 1,qbd (nth z7 0) 2]]) (qbn (leN (qd5 0
  (qbw [.agg [qbd (nth z7 0) 0,qbd (nth z7 0) 1,qbd (nth z7 0) 2]])) (qbw [.agg [qbd (nth z7 0) 0,qbd (nth z7 0) 1,qbd (nth z7 0) 2]])) (qbn (qnt (leN (qb7 (nth
  z4 14)) (qbw (qbs (nth z4 15)))) (leN (qd5 (qb7 (nth z4 14)) (qbw (qb2 (qbw [.agg [qbd (nth z7 0) 0,qbd (nth z7 0) 1,qbd (nth z7 0) 2]]) (qcx 0 [.agg [qbd
  (nth z7 0) 0,qbd (nth z7 0) 1,qbd (nth z7 0) 2]])))) 2147483648)) (some (true,([nth z4 0,nth z7 2,nth z7 3,nth z7 4,nth z7 5,nth z7 6,nth z7 7,nth z7 8,nth z7 9,nth
  z4 9,nth z4 10,nth z4 11,nth z4 12,nth z4 13,nI (qd5 (qb7 (nth z4 14)) (qbw (qb2 (qbw [.agg [qbd (nth z7 0) 0,qbd (nth z7 0) 1,qbd (nth z7 0) 2]]) (qcx 0 [.agg
  [qbd (nth z7 0) 0,qbd (nth z7 0) 1,qbd (nth z7 0) 2]])))),.sl 3 (qqr (qb2 (qb7 (nth z4 14)) (qbs (nth z4 15))) (qb2 (qbw [.agg [qbd (nth z7 0) 0,qbd (nth z7
  0) 1,qbd (nth z7 0) 2]]) (qcx 0 [.agg [qbd (nth z7 0) 0,qbd (nth z7 0) 1,qbd (nth z7 0) 2]]))) false],(none,z6)))))))))))))) 0 x1 ([x1,x2,x3,x4,x5,x6,x7,x8,
  x9,x0,.bool false,.bool false,.nilS,.nilI,nI 0,.sl 3 [] false],(none,()))) (fun z9=>qqj (qht z9.2.1) (qba (qb0 (nth z9.1 9) 0 3 true) (fun z10=>qba (qbb
  (.build [.bool false,.bool false,.nilS] [(0,(3,.c z10))])) (fun z11=>qba (qgw B .cl false 58 [z11,slO 3 3 (qbs (nth z9.1 15)) 0 (qb7 (nth z9.1 14))]) (fun z12 =>
  qba (qbb (.extract 0 (.c z12))) (fun z13=>qba (qbb (.extract 1 (.c z12))) (fun z14=>qbn (qbi z13 3) (qbn (qbi z14 1) (some [.agg [qbd z13 0,qbd z13 1,
  qbd z13 2],qbd z14 0,nth z9.1 1,nth z9.1 2,nth z9.1 3,nth z9.1 4,nth z9.1 5,nth z9.1 6,nth z9.1 7,nth z9.1 8])))))))) (qqj (qmm z9.2.1) (some [.agg [nth z9.1 10,
  nth z9.1 11,nth z9.1 12],nth z9.1 13,nth z9.1 1,nth z9.1 2,nth z9.1 3,nth z9.1 4,nth z9.1 5,nth z9.1 6,nth z9.1 7,nth z9.1 8]) none))):=by kernel_rfl
theorem run48_0 (B:KB) (x0:PV) (x1:PV) (x2:PV) (x3:PV) (x4:PV) (x5:PV) (x6:PV) (x7:PV) (x8:PV) :
  qfz (qdo B (fun _=>.cl)) fn48 Qgw [x0,x1,x2,x3,x4,x5,x6,x7,x8] =
  qbn (qh3 x0) (qba (qb0 x0 0 3 true) (fun z1=>qba (qbj B .cl (.fn 27 []) [z1]) (fun z2=>qba (qbb (.un .not (.c z2))) (fun z3=>qca z3 (some [.agg [.bool false,
  .bool false,.nilS],.int .i64 114,x1,x2,x3,x4,x5,x6,x7,x8]) (qba (qb0 x0 0 3 true) (fun z4=>qba (ioO B sh84
  84 [z4,x1,x2,x3,x4,x5,x6,x7,x8]) (fun z5=>qbn (qbi (nth z5 0) 3) (qba (qbj B .cl (.fn 59 []) [nth z5 1]) (fun z6=>some [.agg [qbd (nth z5 0) 0,qbd (nth z5
  0) 1,qbd (nth z5 0) 2],z6,nth z5 2,nth z5 3,nth z5 4,nth z5 5,nth z5 6,nth z5 7,nth z5 8,nth z5 9]))))))))):=by kernel_rfl
theorem run48_1 (B:KB) (x0:PV) (x1:PV) (x2:PV) (x3:PV) (x4:PV) (x5:PV) (x6:PV) (x7:PV) (x8:PV) :
  qfz (qdo B (fun _=>.cl)) fn48 Qgv [x0,x1,x2,x3,x4,x5,x6,x7,x8] =
  qbn (qh3 x0) (qba (qb0 x0 0 3 true) (fun z1=>qba (qbj B .cl (.fn 27 []) [z1]) (fun z2=>qba (qbb (.un .not (.c z2))) (fun z3=>qca z3 (some [.agg [.bool false,
  .bool false,.nilS],.int .i64 114,x1,x2,x3,x4,x5,x6,x7,x8]) (qba (qb0 x0 0 3 true) (fun z4=>qba (ioO B sh85 85 [z4,x1,x2,x3,x4,x5,x6,x7,x8]) (fun z5=>qbn (qbi (nth z5 0) 3) (qba (qbj B .cl (.fn 59 []) [nth z5 1])
  (fun z6=>some [.agg [qbd (nth z5 0) 0,qbd (nth z5 0) 1,qbd (nth z5 0) 2],z6,nth z5 2,nth z5 3,nth z5 4,nth z5 5,nth z5 6,nth z5 7,nth z5 8,nth z5 9]))))))))):=by kernel_rfl
theorem run48_2 (B:KB) (x0:PV) (x1:PV) (x2:PV) (x3:PV) (x4:PV) (x5:PV) (x6:PV) (x7:PV) (x8:PV) :
  qfz (qdo B (fun _=>.cl)) fn48 Qgu [x0,x1,x2,x3,x4,x5,x6,x7,x8] =
  qbn (qh3 x0) (qba (qb0 x0 0 3 true) (fun z1=>qba (qbj B .cl (.fn 27 []) [z1]) (fun z2=>qba (qbb (.un .not (.c z2))) (fun z3=>qca z3 (some [.agg [.bool false,
  .bool false,.nilS],.int .i64 114,x1,x2,x3,x4,x5,x6,x7,x8]) (qba (qb0 x0 0 3 true) (fun z4=>qba (ioO B sh88 88 [z4,x1,x2,x3,x4,x5,x6,x7,x8]) (fun z5=>qbn (qbi (nth z5 0) 3) (qba (qbj B .cl (.fn 59 []) [nth z5 1])
  (fun z6=>some [.agg [qbd (nth z5 0) 0,qbd (nth z5 0) 1,qbd (nth z5 0) 2],z6,nth z5 2,nth z5 3,nth z5 4,nth z5 5,nth z5 6,nth z5 7,nth z5 8,nth z5 9]))))))))):=by kernel_rfl
theorem run19 (B:KB) {E:Type} (h:qbf E) (dep:Nat) (e:E) (x0:PV) (x1:PV) :
  qfy (qdo B (fun _=>.cl)) fn19 (.cl) h dep [.cv x0,.cv x1] e =
  qbn (qh3 x1) (qba (qb0 x1 0 3 true) (fun z1=>qba (ioO B sh49 49 [x0]) (fun z2=>qba (ioO B Qgw 48 [z1,nth z2 0,nth z2 1,nth z2 2,nth z2 3,
  nth z2 4,nth z2 5,nth z2 6,nth z2 7]) (fun z3=>qbn (qbi (nth z3 0) 3) (some (.tup [.agg [qbd (nth z3 0) 0,qbd (nth z3 0) 1,qbd (nth z3 0) 2],nth z3 1],e)))))):=by kernel_rfl
theorem run21 (B:KB) {E:Type} (h:qbf E) (dep:Nat) (e:E) (x0:PV) (x1:PV) :
  qfy (qdo B (fun _=>.cl)) fn21 (.cl) h dep [.cv x0,.cv x1] e =
  qbn (qh3 x1) (qba (qb0 x1 0 3 true) (fun z1=>qba (ioO B sh49 49 [x0]) (fun z2=>qba (ioO B Qgv
  48 [z1,nth z2 0,nth z2 1,nth z2 2,nth z2 3,nth z2 4,nth z2 5,nth z2 6,nth z2 7]) (fun z3=>qbn (qbi (nth z3 0) 3) (some (.tup [.agg [qbd (nth z3 0) 0,qbd (nth z3
  0) 1,qbd (nth z3 0) 2],nth z3 1],e)))))):=by kernel_rfl
theorem run23 (B:KB) {E:Type} (h:qbf E) (dep:Nat) (e:E) (x0:PV) (x1:PV) :
  qfy (qdo B (fun _=>.cl)) fn23 (.cl) h dep [.cv x0,.cv x1] e =
  qbn (qh3 x1) (qba (qb0 x1 0 3 true) (fun z1=>qba (ioO B sh49 49 [x0]) (fun z2=>qba (ioO B Qgu
  48 [z1,nth z2 0,nth z2 1,nth z2 2,nth z2 3,nth z2 4,nth z2 5,nth z2 6,nth z2 7]) (fun z3=>qbn (qbi (nth z3 0) 3) (some (.tup [.agg [qbd (nth z3 0) 0,qbd (nth z3
  0) 1,qbd (nth z3 0) 2],nth z3 1],e)))))):=by kernel_rfl
theorem run7 (B:KB) {E:Type} (h:qbf E) (dep:Nat) (e:E) (x0:PV) :
  qfy (qdo B (fun _=>.cl)) fn7 (.cl) h dep [.cv x0] e =
  qbn (qh3 x0) (qba (qbj B .cl (.fn 11 []) []) (fun z1=>qba (qb0 x0 2 1 false) (fun z2=>qba (qb0 x0 2 1 false) (fun z3=>qba (qbb (.len .slice (.c z3))) (fun z4
  => qba (qbb (.minmax false [.c z4,.c (.int .i64 40)])) (fun z5=>qba (qbb (.slice 1 (.c z2) none (some (.c z5)) none)) (fun z6=>qbn (okSto z6 x0 2 1) (qba (qb0
  (Qbz z6 x0 2) 0 3 true) (fun z7=>qba (qbj B .cl (.fn 19 []) [.str [226,140,136],z7]) (fun z8=>qba (qbb (.extract 0 (.c z8))) (fun z9=>qba (qbb (.extract 1 (.c
  z8))) (fun z10=>qbn (qbi z9 3) (qba (qbb (.bin .neq .num true (.c z10) (.c (.int .i64 0)))) (fun z11=>qca z11 (qca z1 (qba (qb0 (Qbz z6 x0 2) 0 3 true) (fun z12
  => qba (qbj B .cl (.fn 27 []) [z12]) (fun z13=>qba (qbb (.un .not (.c z13))) (fun z14=>qca z14 (some (.bool true,e)) (qba (qb0 (Qbz z6 x0 2) 2 1 false) (fun z15
  => qba (qbb (.len .slice (.c z15))) (fun z16=>qba (qbb (.bin .eql .num true (.c z16) (.c (.int .i64 0)))) (fun z17=>qca z17 (some (.bool true,e)) (qba (qb0 (Qbz
  z6 x0 2) 1 1 false) (fun z18=>some (z18,e))))))))))) (some (.bool false,e))) (qba (qbb (.len .slice (.c (qbd z9 2)))) (fun z19=>qba (qbb (.bin .neq .num true (.c
  z19) (.c (.int .i64 1)))) (fun z20=>qca z20 (some (.bool false,e)) (qbn (qci [z1,.bool false,.int .i64 0]) (qgc (fun z21=>qba (qb0 (nth z21.1 3) 2 1 false) (fun
  z22=>qba (qbb (.len .slice (.c z22))) (fun z23=>qba (qbb (.bin .lss .num false (.c (nth z21.1 2)) (.c z23))) (fun z24=>qca z24 (qca (nth z21.1 1) (qba (qb0 (nth
  z21.1 3) 2 1 false) (fun z25=>qba (qbb (.idxAddr 1 (.c z25) (.c (nth z21.1 2)))) (fun z26=>qba (qbb (.load 1 false (.c z26))) (fun z27=>qba (qbb (.idxAddr 1 (.c
  (nth z21.1 6)) (.c (.int .i64 0)))) (fun z28=>qba (qbb (.load 1 false (.c z28))) (fun z29=>qba (qbb (.bin .gtr .num false (.c z27) (.c z29))) (fun z30=>qca z30
  (qba (some (.bool false,z21.2)) (fun z31=>some (.inr z31))) (qba (qbb (.bin .add .num true (.c (nth z21.1 2)) (.c (.int .i64 1)))) (fun z32=>some (.inl ([nth z21.1 0,
  .bool true,z32,nth z21.1 3,nth z21.1 4,nth z21.1 5,nth z21.1 6],z21.2))))))))))) (qba (qb0 (nth z21.1 3) 2 1 false) (fun z33=>qba (qbb (.idxAddr 1 (.c z33) (.c (nth
  z21.1 2)))) (fun z34=>qba (qbb (.load 1 false (.c z34))) (fun z35=>qba (qbb (.idxAddr 1 (.c (nth z21.1 6)) (.c (.int .i64 0)))) (fun z36=>qba (qbb (.load 1 false
  (.c z36))) (fun z37=>qba (qbb (.bin .eql .num false (.c z35) (.c z37))) (fun z38=>qba (qb0 (nth z21.1 3) 2 1 false) (fun z39=>qba (qbb (.idxAddr 1 (.c z39) (.c
  (nth z21.1 2)))) (fun z40=>qba (qbb (.load 1 false (.c z40))) (fun z41=>qba (qbb (.idxAddr 1 (.c (nth z21.1 6)) (.c (.int .i64 0)))) (fun z42=>qba (qbb (.load 1
  false (.c z42))) (fun z43=>qba (qbb (.bin .gtr .num false (.c z41) (.c z43))) (fun z44=>qca z44 (qba (some (.bool false,z21.2)) (fun z45=>some (.inr z45))) (qba
  (qbb (.bin .add .num true (.c (nth z21.1 2)) (.c (.int .i64 1)))) (fun z46=>some (.inl ([nth z21.1 0,z38,z46,nth z21.1 3,nth z21.1 4,nth z21.1 5,nth z21.1 6],
  z21.2)))))))))))))))))) (qba (qba (qca (nth z21.1 0) (qca (nth z21.1 1) (qba (qbb (.un .not (.c (nth z21.1 4)))) (fun z47=>some z47)) (some (.bool false))) (some (.bool
  false))) (fun z48=>some (z48,z21.2))) (fun z49=>some (.inr z49))))))) ([z1,.bool false,.int .i64 0,Qbz z6 x0 2,qbd z9 0,qbd z9 1,qbd z9 2],e)))))))))))))))))))):=by kernel_rfl
theorem run8 (B:KB) {E:Type} (h:qbf E) (dep:Nat) (e:E) (x0:PV) :
  qfy (qdo B (fun _=>.cl)) fn8 (.cl) h dep [.cv x0] e =
  qbn (qh3 x0) (qba (qbj B .cl (.fn 11 []) []) (fun z1=>qba (qb0 x0 2 1 false) (fun z2=>qba (qb0 x0 2 1 false) (fun z3=>qba (qbb (.len .slice (.c z3))) (fun z4
  => qba (qbb (.minmax false [.c z4,.c (.int .i64 40)])) (fun z5=>qba (qbb (.slice 1 (.c z2) none (some (.c z5)) none)) (fun z6=>qbn (okSto z6 x0 2 1) (qba (qb0
  (Qbz z6 x0 2) 0 3 true) (fun z7=>qba (qbj B .cl (.fn 23 []) [.str [43],z7]) (fun z8=>qba (qbb (.extract 0 (.c z8))) (fun z9=>qba (qbb (.extract 1 (.c z8))) (fun
  z10=>qbn (qbi z9 3) (qba (qb0 (Qbz z6 x0 2) 0 3 true) (fun z11=>qba (qbj B .cl (.fn 21 []) [.str [226,140,138],z11]) (fun z12=>qba (qbb (.extract 0 (.c
  z12))) (fun z13=>qba (qbb (.extract 1 (.c z12))) (fun z14=>qbn (qbi z13 3) (qba (qb0 (Qbz z6 x0 2) 0 3 true) (fun z15=>qba (qbj B .cl (.fn 19 []) [.str [226,
  140,138],z15]) (fun z16=>qba (qbb (.extract 0 (.c z16))) (fun z17=>qba (qbb (.extract 1 (.c z16))) (fun z18=>qbn (qbi z17 3) (qba (qb0 (Qbz z6 x0 2) 0 3
  true) (fun z19=>qba (qbj B .cl (.fn 27 []) [z19]) (fun z20=>qba (qbb (.un .not (.c z20))) (fun z21=>qca z21 (some (z1,e)) (qba (qb0 (Qbz z6 x0 2) 1 1 false)
  (fun z22=>qca z22 (some (z1,e)) (qba (qb0 (Qbz z6 x0 2) 2 1 false) (fun z23=>qba (qbb (.len .slice (.c z23))) (fun z24=>qba (qbb (.bin .eql .num true (.c z24)
  (.c (.int .i64 0)))) (fun z25=>qca z25 (some (z1,e)) (qba (qba (qbb (.bin .neq .num true (.c z10) (.c (.int .i64 0)))) (fun z26=>qca z26 (some (.bool true)) (qba
  (qbb (.bin .neq .num true (.c z14) (.c (.int .i64 0)))) (fun z27=>qca z27 (some (.bool true)) (qba (qbb (.bin .neq .num true (.c z18) (.c (.int .i64 0)))) (fun z28=>qca
  z28 (some (.bool true)) (qba (qbb (.len .slice (.c (qbd z13 2)))) (fun z29=>qba (qb0 (Qbz z6 x0 2) 2 1 false) (fun z30=>qba (qbb (.len .slice (.c z30))) (fun z31
  => qba (qbb (.bin .neq .num false (.c z29) (.c z31))) (fun z32=>qca z32 (some (.bool true)) (qba (qbb (.len .slice (.c (qbd z17 2)))) (fun z33=>qba (qbb (.bin
  .neq .num true (.c z33) (.c (.int .i64 1)))) (fun z34=>some z34)))))))))))))) (fun z35=>qca z35 (some (.bool false,e)) (qca z1 (qba (qb0 (Qbz z6 x0 2) 0 3 true) (fun z36
  => qba (qbj B .cl (.fn 26 []) [.agg [qbd z9 0,qbd z9 1,qbd z9 2],z36]) (fun z37=>qca z37 (qba (qbb (.idxAddr 1 (.c (qbd z13 2)) (.c (.int .i64 0)))) (fun z38
  => qba (qbb (.load 1 false (.c z38))) (fun z39=>qba (qb0 (Qbz z6 x0 2) 2 1 false) (fun z40=>qba (qbb (.idxAddr 1 (.c z40) (.c (.int .i64 0)))) (fun z41=>qba
  (qbb (.load 1 false (.c z41))) (fun z42=>qba (qbb (.bin .eql .num false (.c z39) (.c z42))) (fun z43=>qca z43 (qba (qbb (.len .slice (.c (qbd z13 2)))) (fun z44 =>
  qba (qbb (.bin .sub .num true (.c z44) (.c (.int .i64 1)))) (fun z45=>qba (qbb (.idxAddr 1 (.c (qbd z13 2)) (.c z45))) (fun z46=>qba (qbb (.load 1 false (.c
  z46))) (fun z47=>qba (qbb (.idxAddr 1 (.c (qbd z17 2)) (.c (.int .i64 0)))) (fun z48=>qba (qbb (.load 1 false (.c z48))) (fun z49=>qba (qbb (.bin .eql .num
  false (.c z47) (.c z49))) (fun z50=>some (z50,e))))))))) (some (.bool false,e))))))))) (some (.bool false,e))))) (some (.bool false,e))))))))))))))))))))))))))))))))))))):=by kernel_rfl
theorem run13 (B:KB) {E:Type} (h:qbf E) (dep:Nat) (e:E) (x0:PV) (x1:PV) :
  qfy (qdo B (fun _=>.cl)) fn13 (.cl) h dep [.cv x0,.cv x1] e =
  qbn (qh3 x1) (qba (qbj B .cl (.fn 35 []) [x0]) (fun z1=>qca z1 (qba (qb0 x1 0 3 true) (fun z2=>qba (qbj B .cl (.fn 36 []) [x0,z2]) (fun z3=>qba (qbb
  (.extract 0 (.c z3))) (fun z4=>qba (qbb (.extract 1 (.c z3))) (fun z5=>qbn (qbi z4 3) (some (.tup [.agg [qbd z4 0,qbd z4 1,qbd z4 2],z5],e))))))) (qba
  (qb0 x1 0 3 true) (fun z6=>qba (qbj B .cl (.fn 37 []) [x0,z6]) (fun z7=>qba (qbb (.extract 0 (.c z7))) (fun z8=>qba (qbb (.extract 1 (.c z7))) (fun z9=>qbn
  (qbi z8 3) (some (.tup [.agg [qbd z8 0,qbd z8 1,qbd z8 2],z9],e))))))))):=by kernel_rfl
theorem run16 (B:KB) {E:Type} (h:qbf E) (dep:Nat) (e:E) (x0:PV) (x1:PV) (x2:PV) :
  qfy (qdo B (fun _=>.cl)) fn16 (.cl) h dep [.cv x0,.cv x1,.cv x2] e =
  qbn (qh3 x1) (qbn (qh3 x2) (qba (qbj B .cl (.fn 41 []) [x0]) (fun z1=>qca z1 (qba (qb0 x1 0 3 true) (fun z2=>qba (qb0 x2 0 3 true) (fun z3=>qba (qbj B .cl
  (.fn 42 []) [x0,z2,z3]) (fun z4=>qba (qbb (.extract 0 (.c z4))) (fun z5=>qba (qbb (.extract 1 (.c z4))) (fun z6=>qbn (qbi z5 3) (some (.tup [.agg [qbd z5 0,
  qbd z5 1,qbd z5 2],z6],e)))))))) (qba (qb0 x1 0 3 true) (fun z7=>qba (qb0 x2 0 3 true) (fun z8=>qba (qbj B .cl (.fn 43 []) [x0,z7,z8]) (fun z9=>qba
  (qbb (.extract 0 (.c z9))) (fun z10=>qba (qbb (.extract 1 (.c z9))) (fun z11=>qbn (qbi z10 3) (some (.tup [.agg [qbd z10 0,qbd z10 1,qbd z10 2],z11],
  e))))))))))):=by kernel_rfl
theorem run26 (B:KB) {E:Type} (h:qbf E) (dep:Nat) (e:E) (x0:PV) (x1:PV) :
  qfy (qdo B (fun _=>.cl)) fn26 (.cl) h dep [.cv x0,.cv x1] e =
  qbn (qh3 x0) (qbn (qh3 x1) (qba (qb0 x0 0 1 false) (fun z1=>qba (qb0 x1 0 1 false) (fun z2=>qba (qbb (.bin .eql .bool false (.c z1) (.c z2))) (fun z3=>qca z3
  (qba (qb0 x0 1 1 false) (fun z4=>qba (qb0 x1 1 1 false) (fun z5=>qba (qbb (.bin .eql .bool false (.c z4) (.c z5))) (fun z6=>qca z6 (qba (qb0 x0 2 1 false) (fun
  z7=>qba (qb0 x1 2 1 false) (fun z8=>qba (qbj B .cl (.fn 52 []) [z7,z8]) (fun z9=>some (z9,e))))) (some (.bool false,e)))))) (some (.bool false,e))))))):=by kernel_rfl
theorem run27 (B:KB) {E:Type} (h:qbf E) (dep:Nat) (e:E) (x0:PV) :
  qfy (qdo B (fun _=>.cl)) fn27 (.cl) h dep [.cv x0] e =
  qbn (qh3 x0) (qba (qb0 x0 1 1 false) (fun z1=>qca z1 (qba (qb0 x0 2 1 false) (fun z2=>qba (qbj B .cl (.fn 55 []) [z2,.fn 53 []]) (fun z3=>qca z3 (some (.bool
  false,e)) (qba (qb0 x0 0 1 false) (fun z4=>qca z4 (qba (qb0 x0 2 1 false) (fun z5=>qba (qbb (.len .slice (.c z5))) (fun z6=>qba (qbb (.bin .leq .num true (.c
  z6) (.c (.int .i64 200)))) (fun z7=>some (z7,e))))) (qba (qb0 x0 2 1 false) (fun z8=>qba (qbb (.len .slice (.c z8))) (fun z9=>qba (qbb (.bin .eql .num true (.c
  z9) (.c (.int .i64 1)))) (fun z10=>some (z10,e)))))))))) (qba (qb0 x0 0 1 false) (fun z11=>qca z11 (qba (qb0 x0 2 1 false) (fun z12=>qba (qbb (.len .slice (.c
  z12))) (fun z13=>qba (qbb (.bin .leq .num true (.c z13) (.c (.int .i64 200)))) (fun z14=>some (z14,e))))) (qba (qb0 x0 2 1 false) (fun z15=>qba (qbb (.len .slice
  (.c z15))) (fun z16=>qba (qbb (.bin .eql .num true (.c z16) (.c (.int .i64 1)))) (fun z17=>some (z17,e))))))))):=by kernel_rfl
theorem run35 (B:KB) {E:Type} (h:qbf E) (dep:Nat) (e:E) (x0:PV) :
  qfy (qdo B (fun _=>.cl)) fn35 (.cl) h dep [.cv x0] e =
  qba (qbj B .cl (.fn 61 []) []) (fun z1=>qba (qbb (.lookup .str .nilF false (.c z1) (.c x0))) (fun z2=>qba (qbb (.bin .neq .func true (.c z2) (.c .nilF))) (fun z3 =>
  some (z3,e)))):=by kernel_rfl
theorem run36 (B:KB) {E:Type} (h:qbf E) (dep:Nat) (e:E) (x0:PV) (x1:PV) :
  qfy (qdo B (fun _=>.cl)) fn36 (.cl) h dep [.cv x0,.cv x1] e =
  qbn (qh3 x1) (qba (qb0 x1 0 3 true) (fun z1=>qbn (qdf 3 [z1]) (qba (qgw B .cl true 62 [slO 3 3 [z1] 0 (qbw [z1])]) (fun z2=>qba (qbb (.bin .neq .iface true (.c
  z2) (.c .nilI))) (fun z3=>qca z3 (qba (qbj B .cl (.fn 63 []) [z2]) (fun z4=>some (.tup [.agg [.bool false,.bool false,.nilS],z4],e))) (qba (qbj B .cl (.fn 35 [])
  [x0]) (fun z5=>qba (qbb (.un .not (.c z5))) (fun z6=>qca z6 (some (.tup [.agg [.bool false,.bool false,.nilS],.int .i64 102],e)) (qba (qb0 x1 0 3 true) (fun z7 =>
  qba (qbj B .cl (.fn 64 []) [z7]) (fun z8=>qca z8 (some (.tup [.agg [.bool false,.bool false,.nilS],.int .i64 102],e)) (qba (qb0 x1 0 1 false) (fun z9=>qba (qbb
  (.build [.bool false,.bool false,.nilS] [(0,(1,.c z9))])) (fun z10=>qbn (qbi z10 3) (qba (qb0 x1 2 1 false) (fun z11=>qba (qbb (.len .slice (.c z11))) (fun z12
  => Qhj (qbd z10 2) (qbn (qci [x0,z11,z12,.int .i64 0]) (qgc (fun z13=>qba (qbb (.bin .lss .num false (.c (nth z13.1 3)) (.c (nth z13.1 2)))) (fun z14=>qca z14
  (qba (qbb (.idxAddr 1 (.c (nth z13.1 1)) (.c (nth z13.1 3)))) (fun z15=>qba (qbb (.load 1 false (.c z15))) (fun z16=>qba (qbj B .cl (.fn 65 []) [nth z13.1 0,z16])
  (fun z17=>qba (qbb (.extract 0 (.c z17))) (fun z18=>qba (qbb (.extract 1 (.c z17))) (fun z19=>qba (qbb (.bin .neq .num true (.c z19) (.c (.int .i64 0)))) (fun z20
  => qca z20 (qba (some (.tup [.agg [.bool false,.bool false,.nilS],z19],z13.2)) (fun z21=>some (.inr z21))) (qbn (qdf 1 [z18]) (qbn (leN (qd5 0 (qbw [z18])) (qbw
  [z18])) (qbn (qnt (leN (qb7 (nth z13.1 9)) (qbw (qbs (nth z13.1 10)))) (leN (qd5 (qb7 (nth z13.1 9)) (qbw (qb2 (qbw [z18]) (qcx 0 [z18])))) 2147483648)) (qba
  (qbb (.bin .add .num true (.c (nth z13.1 3)) (.c (.int .i64 1)))) (fun z22=>some (.inl ([nth z13.1 0,nth z13.1 1,nth z13.1 2,z22,nth z13.1 4,nth z13.1 5,nth z13.1 6,nth
  z13.1 7,nth z13.1 8,nI (qd5 (qb7 (nth z13.1 9)) (qbw (qb2 (qbw [z18]) (qcx 0 [z18])))),.sl 1 (qqr (qb2 (qb7 (nth z13.1 9)) (qbs (nth z13.1 10))) (qb2 (qbw
  [z18]) (qcx 0 [z18]))) false],z13.2)))))))))))))) (qba (qbn (okU (.tup [.agg [nth z13.1 7,nth z13.1 8,slO 1 1 (qbs (nth z13.1 10)) 0 (qb7 (nth z13.1 9))],.int .i64
  0])) (some (.tup [.agg [nth z13.1 7,nth z13.1 8,slO 1 1 (qbs (nth z13.1 10)) 0 (qb7 (nth z13.1 9))],.int .i64 0],z13.2))) (fun z23=>some (.inr z23))))) ([x0,z11,z12,
  .int .i64 0,.bool false,.bool false,.nilS,qbd z10 0,qbd z10 1,nI 0,.sl 1 [] false],e)))))))))))))))))))):=by kernel_rfl
theorem run41 (B:KB) {E:Type} (h:qbf E) (dep:Nat) (e:E) (x0:PV) :
  qfy (qdo B (fun _=>.cl)) fn41 (.cl) h dep [.cv x0] e =
  qba (qbj B .cl (.fn 75 []) []) (fun z1=>qba (qbb (.lookup .str .nilF false (.c z1) (.c x0))) (fun z2=>qba (qbb (.bin .neq .func true (.c z2) (.c .nilF))) (fun z3 =>
  some (z3,e)))):=by kernel_rfl
theorem run42 (B:KB) {E:Type} (h:qbf E) (dep:Nat) (e:E) (x0:PV) (x1:PV) (x2:PV) :
  qfy (qdo B (fun _=>.cl)) fn42 (.cl) h dep [.cv x0,.cv x1,.cv x2] e =
  qbn (qh3 x0) (qbn (qh3 x1) (qbn (qh3 x2) (qba (qb0 x1 0 3 true) (fun z1=>qba (qb0 x2 0 3 true) (fun z2=>qba (qbb (.build [.bool false,.bool false,.nilS,.bool
  false,.bool false,.nilS] [(0,(3,.c z1)),(3,(3,.c z2))])) (fun z3=>qbn (qbi z3 6) (qba (qb0 x1 0 3 true) (fun z4=>qba (qb0 x2 0 3 true) (fun z5=>qbn (qdf
  3 [z4,z5]) (qba (qgw B .cl true 62 [slO 3 3 [z4,z5] 0 (qbw [z4,z5])]) (fun z6=>qba (qbb (.bin .neq .iface true (.c z6) (.c .nilI))) (fun z7=>qca z7 (qba (qbj B
  .cl (.fn 63 []) [z6]) (fun z8=>qbn (qbi z8 1) (some (.tup [.agg [.bool false,.bool false,.nilS],qbd z8 0],e)))) (qba (qb0 x0 0 1 false) (fun z9=>qba (qbj B
  .cl (.fn 41 []) [z9]) (fun z10=>qba (qbb (.un .not (.c z10))) (fun z11=>qca z11 (qbn (qbi (.int .i64 102) 1) (some (.tup [.agg [.bool false,.bool false,.nilS],
  qbd (.int .i64 102) 0],e))) (qba (qbj B .cl (.fn 76 []) [.agg [qbd z3 0,qbd z3 1,qbd z3 2,qbd z3 3,qbd z3 4,qbd z3 5]]) (fun z12=>qba (qbb (.extract 0
  (.c z12))) (fun z13=>qba (qbb (.extract 1 (.c z12))) (fun z14=>qba (qb0 x0 0 1 false) (fun z15=>qba (qbb (.bin .eql .str true (.c z15) (.c (.str [61])))) (fun z16
  => qca z16 (qba (qbb (.bin .neq .iface true (.c z14) (.c .nilI))) (fun z17=>qca z17 (qba (qbj B .cl (.fn 63 []) [z14]) (fun z18=>qbn (qbi z18 1) (some (.tup
  [.agg [.bool false,.bool false,.nilS],qbd z18 0],e)))) (qba (qb0 x1 0 1 false) (fun z19=>qca z19 (qba (qbb (.build [.bool false,.bool false,.nilS] [(0,(1,.c
  (.bool true)))])) (fun z20=>qbn (qbi z20 3) (qba (qbj B .cl (.fn 77 []) [.agg [qbd z3 0,qbd z3 1,qbd z3 2,qbd z3 3,qbd z3 4,qbd z3 5],z13]) (fun z21 =>
  Qhj (qbd z20 2) (qba (qf0 B (qd6 dep h (fun z22=>fun z23=>fun z24=>qbn (qgx z23 2) (qba (qca (nth z22 8) (qba (qb0 (nth z22 2) 1 1 false) (fun z25 =>
  qba (qb0 (nth z22 3) 1 1 false) (fun z26=>qba (qbb (.bin .neq .bool false (.c z25) (.c z26))) (fun z27=>some z27)))) (some (.bool false))) (fun z28=>qca z28 (qba
  (qb0 (nth z22 1) 0 1 false) (fun z29=>qba (qbj B .cl (.fn 78 []) [z29,.int .i64 0,.int .i64 1]) (fun z30=>qba (qbb (.extract 0 (.c z30))) (fun z31=>qba (qbb
  (.extract 1 (.c z30))) (fun z32=>qba (qbb (.bin .neq .num true (.c z32) (.c (.int .i64 0)))) (fun z33=>qca z33 (qbn (qbi z32 1) (some (false,([nth z22 0,nth z22 1,
  nth z22 2,nth z22 3,.bool false,.bool false,.nilS,qbd z32 0,nth z22 8,nth z22 9,nth z22 10,nI (qb7 (nth z22 11)),.sl 1 (qbs (nth z22 12)) false],(some .ret,
  z24))))) (qbn (qdf 1 [z31]) (qbn (leN (qd5 0 (qbw [z31])) (qbw [z31])) (qbn (qnt (leN (qb7 (nth z22 11)) (qbw (qbs (nth z22 12)))) (leN (qd5 (qb7 (nth z22 11))
  (qbw (qb2 (qbw [z31]) (qcx 0 [z31])))) 2147483648)) (some (true,([nth z22 0,nth z22 1,nth z22 2,nth z22 3,nth z22 4,nth z22 5,nth z22 6,nth z22 7,nth z22 8,nth z22
  9,nth z22 10,nI (qd5 (qb7 (nth z22 11)) (qbw (qb2 (qbw [z31]) (qcx 0 [z31])))),.sl 1 (qqr (qb2 (qb7 (nth z22 11)) (qbs (nth z22 12))) (qb2 (qbw [z31]) (qcx 0
  [z31]))) false],(none,z24))))))))))))) (qba (qb0 (nth z22 1) 0 1 false) (fun z34=>qba (qbj B .cl (.fn 78 []) [z34,nth z23 0,nth z23 1]) (fun z35=>qba (qbb
  (.extract 0 (.c z35))) (fun z36=>qba (qbb (.extract 1 (.c z35))) (fun z37=>qba (qbb (.bin .neq .num true (.c z37) (.c (.int .i64 0)))) (fun z38=>qca z38 (qbn
  (qbi z37 1) (some (false,([nth z22 0,nth z22 1,nth z22 2,nth z22 3,.bool false,.bool false,.nilS,qbd z37 0,nth z22 8,nth z22 9,nth z22 10,nI (qb7 (nth z22 11)),
  .sl 1 (qbs (nth z22 12)) false],(some .ret,z24))))) (qbn (qdf 1 [z36]) (qbn (leN (qd5 0 (qbw [z36])) (qbw [z36])) (qbn (qnt (leN (qb7 (nth z22 11)) (qbw (qbs
  (nth z22 12)))) (leN (qd5 (qb7 (nth z22 11)) (qbw (qb2 (qbw [z36]) (qcx 0 [z36])))) 2147483648)) (some (true,([nth z22 0,nth z22 1,nth z22 2,nth z22 3,nth z22 4,nth
  z22 5,nth z22 6,nth z22 7,nth z22 8,nth z22 9,nth z22 10,nI (qd5 (qb7 (nth z22 11)) (qbw (qb2 (qbw [z36]) (qcx 0 [z36])))),.sl 1 (qqr (qb2 (qb7 (nth z22 11))
  (qbs (nth z22 12))) (qb2 (qbw [z36]) (qcx 0 [z36]))) false],(none,z24))))))))))))))))) dep z21 ([z21,x0,x1,x2,.bool false,.bool false,.nilS,.int .i64 0,.bool
  true,qbd z20 0,qbd z20 1,nI 0,.sl 1 [] false],(none,e))) (fun z39=>qqj (qht z39.2.1) (qbn (qbi (.int .i64 0) 1) (qbn (okU (.tup [.agg [nth z39.1 9,nth z39.1
  10,slO 1 1 (qbs (nth z39.1 12)) 0 (qb7 (nth z39.1 11))],qbd (.int .i64 0) 0])) (some (.tup [.agg [nth z39.1 9,nth z39.1 10,slO 1 1 (qbs (nth z39.1 12)) 0 (qb7 (nth
  z39.1 11))],qbd (.int .i64 0) 0],z39.2.2)))) (qqj (qmm z39.2.1) (some (.tup [.agg [nth z39.1 4,nth z39.1 5,nth z39.1 6],nth z39.1 7],z39.2.2)) none))))))) (qba (qb0
  x2 0 1 false) (fun z40=>qba (qbb (.build [.bool false,.bool false,.nilS] [(0,(1,.c z40))])) (fun z41=>qbn (qbi z41 3) (qba (qbj B .cl (.fn 77 []) [.agg [qbd
  z3 0,qbd z3 1,qbd z3 2,qbd z3 3,qbd z3 4,qbd z3 5],z13]) (fun z42=>Qhj (qbd z41 2) (qba (qf0 B (qd6 dep h (fun z43=>fun z44=>fun z45=>qbn
  (qgx z44 2) (qba (qca (nth z43 8) (qba (qb0 (nth z43 2) 1 1 false) (fun z46=>qba (qb0 (nth z43 3) 1 1 false) (fun z47=>qba (qbb (.bin .neq .bool false (.c z46)
  (.c z47))) (fun z48=>some z48)))) (some (.bool false))) (fun z49=>qca z49 (qba (qb0 (nth z43 1) 0 1 false) (fun z50=>qba (qbj B .cl (.fn 78 []) [z50,.int .i64 0,
  .int .i64 1]) (fun z51=>qba (qbb (.extract 0 (.c z51))) (fun z52=>qba (qbb (.extract 1 (.c z51))) (fun z53=>qba (qbb (.bin .neq .num true (.c z53) (.c (.int .i64
  0)))) (fun z54=>qca z54 (qbn (qbi z53 1) (some (false,([nth z43 0,nth z43 1,nth z43 2,nth z43 3,.bool false,.bool false,.nilS,qbd z53 0,nth z43 8,nth z43 9,nth
  z43 10,nI (qb7 (nth z43 11)),.sl 1 (qbs (nth z43 12)) false],(some .ret,z45))))) (qbn (qdf 1 [z52]) (qbn (leN (qd5 0 (qbw [z52])) (qbw [z52])) (qbn (qnt (leN (qb7
  (nth z43 11)) (qbw (qbs (nth z43 12)))) (leN (qd5 (qb7 (nth z43 11)) (qbw (qb2 (qbw [z52]) (qcx 0 [z52])))) 2147483648)) (some (true,([nth z43 0,nth z43 1,nth z43 2,
  nth z43 3,nth z43 4,nth z43 5,nth z43 6,nth z43 7,nth z43 8,nth z43 9,nth z43 10,nI (qd5 (qb7 (nth z43 11)) (qbw (qb2 (qbw [z52]) (qcx 0 [z52])))),.sl 1 (qqr
  (qb2 (qb7 (nth z43 11)) (qbs (nth z43 12))) (qb2 (qbw [z52]) (qcx 0 [z52]))) false],(none,z45))))))))))))) (qba (qb0 (nth z43 1) 0 1 false) (fun z55=>qba (qbj
  B .cl (.fn 78 []) [z55,nth z44 0,nth z44 1]) (fun z56=>qba (qbb (.extract 0 (.c z56))) (fun z57=>qba (qbb (.extract 1 (.c z56))) (fun z58=>qba (qbb (.bin .neq
  .num true (.c z58) (.c (.int .i64 0)))) (fun z59=>qca z59 (qbn (qbi z58 1) (some (false,([nth z43 0,nth z43 1,nth z43 2,nth z43 3,.bool false,.bool false,.nilS,
  qbd z58 0,nth z43 8,nth z43 9,nth z43 10,nI (qb7 (nth z43 11)),.sl 1 (qbs (nth z43 12)) false],(some .ret,z45))))) (qbn (qdf 1 [z57]) (qbn (leN (qd5 0 (qbw
  [z57])) (qbw [z57])) (qbn (qnt (leN (qb7 (nth z43 11)) (qbw (qbs (nth z43 12)))) (leN (qd5 (qb7 (nth z43 11)) (qbw (qb2 (qbw [z57]) (qcx 0 [z57])))) 2147483648))
  (some (true,([nth z43 0,nth z43 1,nth z43 2,nth z43 3,nth z43 4,nth z43 5,nth z43 6,nth z43 7,nth z43 8,nth z43 9,nth z43 10,nI (qd5 (qb7 (nth z43 11)) (qbw (qb2
  (qbw [z57]) (qcx 0 [z57])))),.sl 1 (qqr (qb2 (qb7 (nth z43 11)) (qbs (nth z43 12))) (qb2 (qbw [z57]) (qcx 0 [z57]))) false],(none,z45))))))))))))))))) dep z42
  ([z42,x0,x1,x2,.bool false,.bool false,.nilS,.int .i64 0,.bool true,qbd z41 0,qbd z41 1,nI 0,.sl 1 [] false],(none,e))) (fun z60=>qqj (qht z60.2.1) (qbn
  (qbi (.int .i64 0) 1) (qbn (okU (.tup [.agg [nth z60.1 9,nth z60.1 10,slO 1 1 (qbs (nth z60.1 12)) 0 (qb7 (nth z60.1 11))],qbd (.int .i64 0) 0])) (some (.tup [.agg
  [nth z60.1 9,nth z60.1 10,slO 1 1 (qbs (nth z60.1 12)) 0 (qb7 (nth z60.1 11))],qbd (.int .i64 0) 0],z60.2.2)))) (qqj (qmm z60.2.1) (some (.tup [.agg [nth z60.1 4,nth
  z60.1 5,nth z60.1 6],nth z60.1 7],z60.2.2)) none)))))))))))) (qba (qb0 x0 0 1 false) (fun z61=>qba (qbb (.bin .eql .str true (.c z61) (.c (.str [226,137,160])))) (fun
  z62=>qbn (qbi z62 1) (qba (qbb (.bin .neq .iface true (.c z14) (.c .nilI))) (fun z63=>qca z63 (qba (qbj B .cl (.fn 63 []) [z14]) (fun z64=>qbn (qbi z64 1)
  (some (.tup [.agg [.bool false,.bool false,.nilS],qbd z64 0],e)))) (qba (qbb (.un .not (.c (qbd z62 0)))) (fun z65=>qca z65 (qba (qb0 x1 0 3 true) (fun z66 =>
  qba (qbj B .cl (.fn 64 []) [z66]) (fun z67=>qca z67 (qbn (qbi (.int .i64 102) 1) (some (.tup [.agg [.bool false,.bool false,.nilS],qbd (.int .i64 102) 0],e)))
  (qba (qb0 x2 0 3 true) (fun z68=>qba (qbj B .cl (.fn 64 []) [z68]) (fun z69=>qca z69 (qbn (qbi (.int .i64 102) 1) (some (.tup [.agg [.bool false,.bool false,
  .nilS],qbd (.int .i64 102) 0],e))) (qba (qb0 x1 0 1 false) (fun z70=>qca z70 (qba (qbb (.build [.bool false,.bool false,.nilS] [(0,(1,.c (.bool true)))])) (fun
  z71=>qbn (qbi z71 3) (qba (qbj B .cl (.fn 77 []) [.agg [qbd z3 0,qbd z3 1,qbd z3 2,qbd z3 3,qbd z3 4,qbd z3 5],z13]) (fun z72=>Qhj (qbd z71 2)
  (qba (qf0 B (qd6 dep h (fun z73=>fun z74=>fun z75=>qbn (qgx z74 2) (qba (qca (nth z73 8) (qba (qb0 (nth z73 2) 1 1 false) (fun z76=>qba (qb0 (nth z73
  3) 1 1 false) (fun z77=>qba (qbb (.bin .neq .bool false (.c z76) (.c z77))) (fun z78=>some z78)))) (some (.bool false))) (fun z79=>qca z79 (qba (qb0 (nth z73 1) 0 1
  false) (fun z80=>qba (qbj B .cl (.fn 78 []) [z80,.int .i64 0,.int .i64 1]) (fun z81=>qba (qbb (.extract 0 (.c z81))) (fun z82=>qba (qbb (.extract 1 (.c z81)))
  (fun z83=>qba (qbb (.bin .neq .num true (.c z83) (.c (.int .i64 0)))) (fun z84=>qca z84 (qbn (qbi z83 1) (some (false,([nth z73 0,nth z73 1,nth z73 2,nth z73 3,
  .bool false,.bool false,.nilS,qbd z83 0,nth z73 8,nth z73 9,nth z73 10,nI (qb7 (nth z73 11)),.sl 1 (qbs (nth z73 12)) false],(some .ret,z75))))) (qbn (qdf 1
  [z82]) (qbn (leN (qd5 0 (qbw [z82])) (qbw [z82])) (qbn (qnt (leN (qb7 (nth z73 11)) (qbw (qbs (nth z73 12)))) (leN (qd5 (qb7 (nth z73 11)) (qbw (qb2 (qbw [z82])
  (qcx 0 [z82])))) 2147483648)) (some (true,([nth z73 0,nth z73 1,nth z73 2,nth z73 3,nth z73 4,nth z73 5,nth z73 6,nth z73 7,nth z73 8,nth z73 9,nth z73 10,nI (qd5
  (qb7 (nth z73 11)) (qbw (qb2 (qbw [z82]) (qcx 0 [z82])))),.sl 1 (qqr (qb2 (qb7 (nth z73 11)) (qbs (nth z73 12))) (qb2 (qbw [z82]) (qcx 0 [z82]))) false],(none,
  z75))))))))))))) (qba (qb0 (nth z73 1) 0 1 false) (fun z85=>qba (qbj B .cl (.fn 78 []) [z85,nth z74 0,nth z74 1]) (fun z86=>qba (qbb (.extract 0 (.c z86))) (fun
  z87=>qba (qbb (.extract 1 (.c z86))) (fun z88=>qba (qbb (.bin .neq .num true (.c z88) (.c (.int .i64 0)))) (fun z89=>qca z89 (qbn (qbi z88 1) (some (false,
  ([nth z73 0,nth z73 1,nth z73 2,nth z73 3,.bool false,.bool false,.nilS,qbd z88 0,nth z73 8,nth z73 9,nth z73 10,nI (qb7 (nth z73 11)),.sl 1 (qbs (nth z73 12))
  false],(some .ret,z75))))) (qbn (qdf 1 [z87]) (qbn (leN (qd5 0 (qbw [z87])) (qbw [z87])) (qbn (qnt (leN (qb7 (nth z73 11)) (qbw (qbs (nth z73 12)))) (leN (qd5
  (qb7 (nth z73 11)) (qbw (qb2 (qbw [z87]) (qcx 0 [z87])))) 2147483648)) (some (true,([nth z73 0,nth z73 1,nth z73 2,nth z73 3,nth z73 4,nth z73 5,nth z73 6,nth z73 7,
  nth z73 8,nth z73 9,nth z73 10,nI (qd5 (qb7 (nth z73 11)) (qbw (qb2 (qbw [z87]) (qcx 0 [z87])))),.sl 1 (qqr (qb2 (qb7 (nth z73 11)) (qbs (nth z73 12))) (qb2
  (qbw [z87]) (qcx 0 [z87]))) false],(none,z75))))))))))))))))) dep z72 ([z72,x0,x1,x2,.bool false,.bool false,.nilS,.int .i64 0,qbd z62 0,qbd z71 0,qbd z71 1,
  nI 0,.sl 1 [] false],(none,e))) (fun z90=>qqj (qht z90.2.1) (qbn (qbi (.int .i64 0) 1) (qbn (okU (.tup [.agg [nth z90.1 9,nth z90.1 10,slO 1 1 (qbs (nth z90.1
  12)) 0 (qb7 (nth z90.1 11))],qbd (.int .i64 0) 0])) (some (.tup [.agg [nth z90.1 9,nth z90.1 10,slO 1 1 (qbs (nth z90.1 12)) 0 (qb7 (nth z90.1 11))],qbd (.int .i64 0)
  0],z90.2.2)))) (qqj (qmm z90.2.1) (some (.tup [.agg [nth z90.1 4,nth z90.1 5,nth z90.1 6],nth z90.1 7],z90.2.2)) none))))))) (qba (qb0 x2 0 1 false) (fun z91=>qba
  (qbb (.build [.bool false,.bool false,.nilS] [(0,(1,.c z91))])) (fun z92=>qbn (qbi z92 3) (qba (qbj B .cl (.fn 77 []) [.agg [qbd z3 0,qbd z3 1,qbd z3 2,
  qbd z3 3,qbd z3 4,qbd z3 5],z13]) (fun z93=>Qhj (qbd z92 2) (qba (qf0 B (qd6 dep h (fun z94=>fun z95=>fun z96=>qbn (qgx z95 2) (qba (qca (nth
  z94 8) (qba (qb0 (nth z94 2) 1 1 false) (fun z97=>qba (qb0 (nth z94 3) 1 1 false) (fun z98=>qba (qbb (.bin .neq .bool false (.c z97) (.c z98))) (fun z99=>some
  z99)))) (some (.bool false))) (fun z100=>qca z100 (qba (qb0 (nth z94 1) 0 1 false) (fun z101=>qba (qbj B .cl (.fn 78 []) [z101,.int .i64 0,.int .i64 1]) (fun z102 =>
  qba (qbb (.extract 0 (.c z102))) (fun z103=>qba (qbb (.extract 1 (.c z102))) (fun z104=>qba (qbb (.bin .neq .num true (.c z104) (.c (.int .i64 0)))) (fun z105 =>
  qca z105 (qbn (qbi z104 1) (some (false,([nth z94 0,nth z94 1,nth z94 2,nth z94 3,.bool false,.bool false,.nilS,qbd z104 0,nth z94 8,nth z94 9,nth z94 10,nI
  (qb7 (nth z94 11)),.sl 1 (qbs (nth z94 12)) false],(some .ret,z96))))) (qbn (qdf 1 [z103]) (qbn (leN (qd5 0 (qbw [z103])) (qbw [z103])) (qbn (qnt (leN (qb7 (nth
  z94 11)) (qbw (qbs (nth z94 12)))) (leN (qd5 (qb7 (nth z94 11)) (qbw (qb2 (qbw [z103]) (qcx 0 [z103])))) 2147483648)) (some (true,([nth z94 0,nth z94 1,nth z94 2,
  nth z94 3,nth z94 4,nth z94 5,nth z94 6,nth z94 7,nth z94 8,nth z94 9,nth z94 10,nI (qd5 (qb7 (nth z94 11)) (qbw (qb2 (qbw [z103]) (qcx 0 [z103])))),.sl 1 (qqr
  (qb2 (qb7 (nth z94 11)) (qbs (nth z94 12))) (qb2 (qbw [z103]) (qcx 0 [z103]))) false],(none,z96))))))))))))) (qba (qb0 (nth z94 1) 0 1 false) (fun z106=>qba
  (qbj B .cl (.fn 78 []) [z106,nth z95 0,nth z95 1]) (fun z107=>qba (qbb (.extract 0 (.c z107))) (fun z108=>qba (qbb (.extract 1 (.c z107))) (fun z109=>qba (qbb
  (.bin .neq .num true (.c z109) (.c (.int .i64 0)))) (fun z110=>qca z110 (qbn (qbi z109 1) (some (false,([nth z94 0,nth z94 1,nth z94 2,nth z94 3,.bool false,.bool
  false,.nilS,qbd z109 0,nth z94 8,nth z94 9,nth z94 10,nI (qb7 (nth z94 11)),.sl 1 (qbs (nth z94 12)) false],(some .ret,z96))))) (qbn (qdf 1 [z108]) (qbn (leN
  (qd5 0 (qbw [z108])) (qbw [z108])) (qbn (qnt (leN (qb7 (nth z94 11)) (qbw (qbs (nth z94 12)))) (leN (qd5 (qb7 (nth z94 11)) (qbw (qb2 (qbw [z108]) (qcx 0
  [z108])))) 2147483648)) (some (true,([nth z94 0,nth z94 1,nth z94 2,nth z94 3,nth z94 4,nth z94 5,nth z94 6,nth z94 7,nth z94 8,nth z94 9,nth z94 10,nI (qd5 (qb7 (nth
  z94 11)) (qbw (qb2 (qbw [z108]) (qcx 0 [z108])))),.sl 1 (qqr (qb2 (qb7 (nth z94 11)) (qbs (nth z94 12))) (qb2 (qbw [z108]) (qcx 0 [z108]))) false],(none,
  z96))))))))))))))))) dep z93 ([z93,x0,x1,x2,.bool false,.bool false,.nilS,.int .i64 0,qbd z62 0,qbd z92 0,qbd z92 1,nI 0,.sl 1 [] false],(none,e))) (fun z111 =>
  qqj (qht z111.2.1) (qbn (qbi (.int .i64 0) 1) (qbn (okU (.tup [.agg [nth z111.1 9,nth z111.1 10,slO 1 1 (qbs (nth z111.1 12)) 0 (qb7 (nth z111.1 11))],qbd (.int
  .i64 0) 0])) (some (.tup [.agg [nth z111.1 9,nth z111.1 10,slO 1 1 (qbs (nth z111.1 12)) 0 (qb7 (nth z111.1 11))],qbd (.int .i64 0) 0],z111.2.2)))) (qqj (qmm
  z111.2.1) (some (.tup [.agg [nth z111.1 4,nth z111.1 5,nth z111.1 6],nth z111.1 7],z111.2.2)) none)))))))))))))))) (qba (qb0 x1 0 1 false) (fun z112=>qca z112 (qba
  (qbb (.build [.bool false,.bool false,.nilS] [(0,(1,.c (.bool true)))])) (fun z113=>qbn (qbi z113 3) (qba (qbj B .cl (.fn 77 []) [.agg [qbd z3 0,qbd z3 1,
  qbd z3 2,qbd z3 3,qbd z3 4,qbd z3 5],z13]) (fun z114=>Qhj (qbd z113 2) (qba (qf0 B (qd6 dep h (fun z115=>fun z116=>fun z117=>qbn (qgx z116 2)
  (qba (qca (nth z115 8) (qba (qb0 (nth z115 2) 1 1 false) (fun z118=>qba (qb0 (nth z115 3) 1 1 false) (fun z119=>qba (qbb (.bin .neq .bool false (.c z118) (.c
  z119))) (fun z120=>some z120)))) (some (.bool false))) (fun z121=>qca z121 (qba (qb0 (nth z115 1) 0 1 false) (fun z122=>qba (qbj B .cl (.fn 78 []) [z122,.int .i64 0,
  .int .i64 1]) (fun z123=>qba (qbb (.extract 0 (.c z123))) (fun z124=>qba (qbb (.extract 1 (.c z123))) (fun z125=>qba (qbb (.bin .neq .num true (.c z125) (.c (.int
  .i64 0)))) (fun z126=>qca z126 (qbn (qbi z125 1) (some (false,([nth z115 0,nth z115 1,nth z115 2,nth z115 3,.bool false,.bool false,.nilS,qbd z125 0,nth z115 8,
  nth z115 9,nth z115 10,nI (qb7 (nth z115 11)),.sl 1 (qbs (nth z115 12)) false],(some .ret,z117))))) (qbn (qdf 1 [z124]) (qbn (leN (qd5 0 (qbw [z124])) (qbw [z124]))
  (qbn (qnt (leN (qb7 (nth z115 11)) (qbw (qbs (nth z115 12)))) (leN (qd5 (qb7 (nth z115 11)) (qbw (qb2 (qbw [z124]) (qcx 0 [z124])))) 2147483648)) (some (true,([nth
  z115 0,nth z115 1,nth z115 2,nth z115 3,nth z115 4,nth z115 5,nth z115 6,nth z115 7,nth z115 8,nth z115 9,nth z115 10,nI (qd5 (qb7 (nth z115 11)) (qbw (qb2 (qbw
  [z124]) (qcx 0 [z124])))),.sl 1 (qqr (qb2 (qb7 (nth z115 11)) (qbs (nth z115 12))) (qb2 (qbw [z124]) (qcx 0 [z124]))) false],(none,z117))))))))))))) (qba (qb0
  (nth z115 1) 0 1 false) (fun z127=>qba (qbj B .cl (.fn 78 []) [z127,nth z116 0,nth z116 1]) (fun z128=>qba (qbb (.extract 0 (.c z128))) (fun z129=>qba (qbb
  (.extract 1 (.c z128))) (fun z130=>qba (qbb (.bin .neq .num true (.c z130) (.c (.int .i64 0)))) (fun z131=>qca z131 (qbn (qbi z130 1) (some (false,([nth z115 0,nth
  z115 1,nth z115 2,nth z115 3,.bool false,.bool false,.nilS,qbd z130 0,nth z115 8,nth z115 9,nth z115 10,nI (qb7 (nth z115 11)),.sl 1 (qbs (nth z115 12)) false],
  (some .ret,z117))))) (qbn (qdf 1 [z129]) (qbn (leN (qd5 0 (qbw [z129])) (qbw [z129])) (qbn (qnt (leN (qb7 (nth z115 11)) (qbw (qbs (nth z115 12)))) (leN (qd5 (qb7
  (nth z115 11)) (qbw (qb2 (qbw [z129]) (qcx 0 [z129])))) 2147483648)) (some (true,([nth z115 0,nth z115 1,nth z115 2,nth z115 3,nth z115 4,nth z115 5,nth z115 6,nth
  z115 7,nth z115 8,nth z115 9,nth z115 10,nI (qd5 (qb7 (nth z115 11)) (qbw (qb2 (qbw [z129]) (qcx 0 [z129])))),.sl 1 (qqr (qb2 (qb7 (nth z115 11)) (qbs (nth z115
  12))) (qb2 (qbw [z129]) (qcx 0 [z129]))) false],(none,z117))))))))))))))))) dep z114 ([z114,x0,x1,x2,.bool false,.bool false,.nilS,.int .i64 0,qbd z62 0,qbd
  z113 0,qbd z113 1,nI 0,.sl 1 [] false],(none,e))) (fun z132=>qqj (qht z132.2.1) (qbn (qbi (.int .i64 0) 1) (qbn (okU (.tup [.agg [nth z132.1 9,nth z132.1 10,
  slO 1 1 (qbs (nth z132.1 12)) 0 (qb7 (nth z132.1 11))],qbd (.int .i64 0) 0])) (some (.tup [.agg [nth z132.1 9,nth z132.1 10,slO 1 1 (qbs (nth z132.1 12)) 0 (qb7 (nth
  z132.1 11))],qbd (.int .i64 0) 0],z132.2.2)))) (qqj (qmm z132.2.1) (some (.tup [.agg [nth z132.1 4,nth z132.1 5,nth z132.1 6],nth z132.1 7],z132.2.2)) none)))))))
  (qba (qb0 x2 0 1 false) (fun z133=>qba (qbb (.build [.bool false,.bool false,.nilS] [(0,(1,.c z133))])) (fun z134=>qbn (qbi z134 3) (qba (qbj B .cl (.fn 77
  []) [.agg [qbd z3 0,qbd z3 1,qbd z3 2,qbd z3 3,qbd z3 4,qbd z3 5],z13]) (fun z135=>Qhj (qbd z134 2) (qba (qf0 B (qd6 dep h (fun z136=>fun z137 =>
  fun z138=>qbn (qgx z137 2) (qba (qca (nth z136 8) (qba (qb0 (nth z136 2) 1 1 false) (fun z139=>qba (qb0 (nth z136 3) 1 1 false) (fun z140=>qba (qbb (.bin
  .neq .bool false (.c z139) (.c z140))) (fun z141=>some z141)))) (some (.bool false))) (fun z142=>qca z142 (qba (qb0 (nth z136 1) 0 1 false) (fun z143=>qba (qbj B .cl
  (.fn 78 []) [z143,.int .i64 0,.int .i64 1]) (fun z144=>qba (qbb (.extract 0 (.c z144))) (fun z145=>qba (qbb (.extract 1 (.c z144))) (fun z146=>qba (qbb (.bin
  .neq .num true (.c z146) (.c (.int .i64 0)))) (fun z147=>qca z147 (qbn (qbi z146 1) (some (false,([nth z136 0,nth z136 1,nth z136 2,nth z136 3,.bool false,.bool
  false,.nilS,qbd z146 0,nth z136 8,nth z136 9,nth z136 10,nI (qb7 (nth z136 11)),.sl 1 (qbs (nth z136 12)) false],(some .ret,z138))))) (qbn (qdf 1 [z145]) (qbn
  (leN (qd5 0 (qbw [z145])) (qbw [z145])) (qbn (qnt (leN (qb7 (nth z136 11)) (qbw (qbs (nth z136 12)))) (leN (qd5 (qb7 (nth z136 11)) (qbw (qb2 (qbw [z145]) (qcx 0
  [z145])))) 2147483648)) (some (true,([nth z136 0,nth z136 1,nth z136 2,nth z136 3,nth z136 4,nth z136 5,nth z136 6,nth z136 7,nth z136 8,nth z136 9,nth z136 10,nI (qd5
  (qb7 (nth z136 11)) (qbw (qb2 (qbw [z145]) (qcx 0 [z145])))),.sl 1 (qqr (qb2 (qb7 (nth z136 11)) (qbs (nth z136 12))) (qb2 (qbw [z145]) (qcx 0 [z145]))) false],
  (none,z138))))))))))))) (qba (qb0 (nth z136 1) 0 1 false) (fun z148=>qba (qbj B .cl (.fn 78 []) [z148,nth z137 0,nth z137 1]) (fun z149=>qba (qbb (.extract 0 (.c
  z149))) (fun z150=>qba (qbb (.extract 1 (.c z149))) (fun z151=>qba (qbb (.bin .neq .num true (.c z151) (.c (.int .i64 0)))) (fun z152=>qca z152 (qbn (qbi z151
  1) (some (false,([nth z136 0,nth z136 1,nth z136 2,nth z136 3,.bool false,.bool false,.nilS,qbd z151 0,nth z136 8,nth z136 9,nth z136 10,nI (qb7 (nth z136 11)),.sl
  1 (qbs (nth z136 12)) false],(some .ret,z138))))) (qbn (qdf 1 [z150]) (qbn (leN (qd5 0 (qbw [z150])) (qbw [z150])) (qbn (qnt (leN (qb7 (nth z136 11)) (qbw (qbs
  (nth z136 12)))) (leN (qd5 (qb7 (nth z136 11)) (qbw (qb2 (qbw [z150]) (qcx 0 [z150])))) 2147483648)) (some (true,([nth z136 0,nth z136 1,nth z136 2,nth z136 3,nth z136
  4,nth z136 5,nth z136 6,nth z136 7,nth z136 8,nth z136 9,nth z136 10,nI (qd5 (qb7 (nth z136 11)) (qbw (qb2 (qbw [z150]) (qcx 0 [z150])))),.sl 1 (qqr (qb2 (qb7
  (nth z136 11)) (qbs (nth z136 12))) (qb2 (qbw [z150]) (qcx 0 [z150]))) false],(none,z138))))))))))))))))) dep z135 ([z135,x0,x1,x2,.bool false,.bool false,.nilS,
  .int .i64 0,qbd z62 0,qbd z134 0,qbd z134 1,nI 0,.sl 1 [] false],(none,e))) (fun z153=>qqj (qht z153.2.1) (qbn (qbi (.int .i64 0) 1) (qbn (okU (.tup [.agg
  [nth z153.1 9,nth z153.1 10,slO 1 1 (qbs (nth z153.1 12)) 0 (qb7 (nth z153.1 11))],qbd (.int .i64 0) 0])) (some (.tup [.agg [nth z153.1 9,nth z153.1 10,slO 1 1 (qbs
  (nth z153.1 12)) 0 (qb7 (nth z153.1 11))],qbd (.int .i64 0) 0],z153.2.2)))) (qqj (qmm z153.2.1) (some (.tup [.agg [nth z153.1 4,nth z153.1 5,nth z153.1 6],nth z153.1
  7],z153.2.2)) none))))))))))))))))))))))))))))))))))))))):=by kernel_rfl
theorem run52 (B:KB) {E:Type} (h:qbf E) (dep:Nat) (e:E) (x0:PV) (x1:PV) :
  qfy (qdo B (fun _=>.cl)) fn52 (.cl) h dep [.cv x0,.cv x1] e =
  qba (qbb (.len .slice (.c x0))) (fun z1=>qba (qbb (.len .slice (.c x1))) (fun z2=>qba (qbb (.bin .neq .num false (.c z1) (.c z2))) (fun z3=>qca z3 (some (.bool
  false,e)) (qba (qbb (.len .slice (.c x0))) (fun z4=>qbn (qci [x0,x1,z4,.int .i64 0]) (qgc (fun z5=>qba (qbb (.bin .lss .num false (.c (nth z5.1 3)) (.c (nth
  z5.1 2)))) (fun z6=>qca z6 (qba (qbb (.idxAddr 1 (.c (nth z5.1 0)) (.c (nth z5.1 3)))) (fun z7=>qba (qbb (.load 1 false (.c z7))) (fun z8=>qba (qbb (.idxAddr 1
  (.c (nth z5.1 1)) (.c (nth z5.1 3)))) (fun z9=>qba (qbb (.load 1 false (.c z9))) (fun z10=>qba (qbb (.bin .neq .num false (.c z8) (.c z10))) (fun z11=>qca z11 (qba
  (some (.bool false,z5.2)) (fun z12=>some (.inr z12))) (qba (qbb (.bin .add .num true (.c (nth z5.1 3)) (.c (.int .i64 1)))) (fun z13=>some (.inl ([nth z5.1 0,nth z5.1 1,
  nth z5.1 2,z13],z5.2)))))))))) (qba (some (.bool true,z5.2)) (fun z14=>some (.inr z14))))) ([x0,x1,z4,.int .i64 0],e))))))):=by kernel_rfl
theorem run53 (B:KB) {E:Type} (h:qbf E) (dep:Nat) (e:E) (x0:PV) :
  qfy (qdo B (fun _=>.cl)) fn53 (.cl) h dep [.cv x0] e =
  qba (qbj B .cl (.fn 54 []) [x0]) (fun z1=>qba (qbb (.un .not (.c z1))) (fun z2=>some (z2,e))):=by kernel_rfl
theorem run54 (B:KB) {E:Type} (h:qbf E) (dep:Nat) (e:E) (x0:PV) :
  qfy (qdo B (fun _=>.cl)) fn54 (.cl) h dep [.cv x0] e =
  qba (qba (qbb (.bin .geq .num true (.c x0) (.c (.int .i64 0)))) (fun z1=>qca z1 (qba (qbb (.bin .leq .num true (.c x0) (.c (.int .i64 1114111)))) (fun z2=>qca z2
  (qba (qbb (.bin .lss .num true (.c x0) (.c (.int .i64 55296)))) (fun z3=>qca z3 (some (.bool true)) (qba (qbb (.bin .gtr .num true (.c x0) (.c (.int .i64 57343)))) (fun
  z4=>some z4)))) (some (.bool false)))) (some (.bool false)))) (fun z5=>some (z5,e)):=by kernel_rfl
theorem run55 (B:KB) {E:Type} (h:qbf E) (dep:Nat) (e:E) (x0:PV) (x1:PV) :
  qfy (qdo B (fun _=>.cl)) fn55 (.cl) h dep [.cv x0,.cv x1] e =
  qba (qbj B .cl (.fn 91 []) [x0,x1]) (fun z1=>qba (qbb (.bin .geq .num true (.c z1) (.c (.int .i64 0)))) (fun z2=>some (z2,e))):=by kernel_rfl
theorem run56 (B:KB) {E:Type} (h:qbf E) (dep:Nat) (e:E) (x0:PV) :
  qfy (qdo B (fun _=>.cl)) fn56 (.cl) h dep [.cv x0] e =
  qba (qbj B .cl (.fn 92 []) [.nilS,x0]) (fun z1=>some (z1,e)):=by kernel_rfl
theorem run57 (B:KB) {E:Type} (h:qbf E) (dep:Nat) (e:E) (x0:PV) :
  qfy (qdo B (fun _=>.cl)) fn57 (.cl) h dep [.cv x0] e =
  qbn (qh3 x0) (qbn (okU (.fn 93 [Qlh (qfu x0) 0])) (some (.fn 93 [Qlh (qfu x0) 0],e))):=by kernel_rfl
theorem run58 (B:KB) {E:Type} (h:qbf E) (dep:Nat) (e:E) (x0:PV) (x1:PV) :
  qfy (qdo B (fun _=>.cl)) fn58 (.cl) h dep [.cv x0,.cv x1] e =
  qbn (qh3 x0) (qba (qb0 x0 0 1 false) (fun z1=>qba (qb0 x0 1 1 false) (fun z2=>qba (qbb (.build [.bool false,.bool false,.nilS] [(0,(1,.c z1)),(1,(1,.c
  z2))])) (fun z3=>qbn (qbi z3 3) (qba (qbb (.len .slice (.c x1))) (fun z4=>Qhj (qbd z3 2) (qbn (qci [x1,.bool false,.bool false,x1,z4,.int .i64 0]) (qgc
  (fun z5=>qba (qbb (.bin .lss .num false (.c (nth z5.1 5)) (.c (nth z5.1 4)))) (fun z6=>qca z6 (qba (qbb (.idxAddr 3 (.c (nth z5.1 3)) (.c (nth z5.1 5)))) (fun z7 =>
  qba (qbb (.load 3 true (.c z7))) (fun z8=>qbn (qbi z8 3) (qba (qbj B .cl (.fn 27 []) [.agg [qbd z8 0,qbd z8 1,qbd z8 2]]) (fun z9=>qba (qbb (.un .not
  (.c z9))) (fun z10=>qca z10 (qba (qbb (.build [.int .i64 0] [(0,(1,.c (.int .i64 114)))])) (fun z11=>qba (some (.tup [.agg [.bool false,.bool false,.nilS],.iface
  124 z11],z5.2)) (fun z12=>some (.inr z12)))) (qca (nth z5.1 1) (qca (nth z5.1 2) (qba (qbb (.idxAddr 3 (.c (nth z5.1 0)) (.c (.int .i64 0)))) (fun z13=>qba (qbb
  (.fieldAddr 1 (.c z13))) (fun z14=>qba (qbb (.load 1 false (.c z14))) (fun z15=>qbn (qbi z15 1) (qba (qwa 1 (qbd z8 2)) (fun z16=>qbn (qnt (leN (qb7 (nth
  z5.1 12)) (qbw (qbs (nth z5.1 13)))) (leN (qd5 (qb7 (nth z5.1 12)) (qbw z16)) 2147483648)) (qba (qbb (.bin .add .num true (.c (nth z5.1 5)) (.c (.int .i64 1)))) (fun z17
  => some (.inl ([nth z5.1 0,.bool true,.bool true,nth z5.1 3,nth z5.1 4,z17,nth z5.1 6,nth z5.1 7,nth z5.1 8,nth z5.1 9,nth z5.1 10,qbd z15 0,nI (qd5 (qb7 (nth z5.1
  12)) (qbw z16)),.sl 1 (qqr (qb2 (qb7 (nth z5.1 12)) (qbs (nth z5.1 13))) z16) false],z5.2)))))))))) (qba (qbb (.idxAddr 3 (.c (nth z5.1 0)) (.c (.int .i64 0)))) (fun
  z18=>qba (qbb (.fieldAddr 1 (.c z18))) (fun z19=>qba (qbb (.load 1 false (.c z19))) (fun z20=>qba (qbb (.bin .neq .bool false (.c (qbd z8 1)) (.c z20))) (fun
  z21=>qba (qbb (.idxAddr 3 (.c (nth z5.1 0)) (.c (.int .i64 0)))) (fun z22=>qba (qbb (.fieldAddr 1 (.c z22))) (fun z23=>qba (qbb (.load 1 false (.c z23))) (fun z24
  => qbn (qbi z24 1) (qba (qwa 1 (qbd z8 2)) (fun z25=>qbn (qnt (leN (qb7 (nth z5.1 12)) (qbw (qbs (nth z5.1 13)))) (leN (qd5 (qb7 (nth z5.1 12)) (qbw z25))
  2147483648)) (qba (qbb (.bin .add .num true (.c (nth z5.1 5)) (.c (.int .i64 1)))) (fun z26=>some (.inl ([nth z5.1 0,.bool true,z21,nth z5.1 3,nth z5.1 4,z26,nth z5.1
  6,nth z5.1 7,nth z5.1 8,nth z5.1 9,nth z5.1 10,qbd z24 0,nI (qd5 (qb7 (nth z5.1 12)) (qbw z25)),.sl 1 (qqr (qb2 (qb7 (nth z5.1 12)) (qbs (nth z5.1 13))) z25)
  false],z5.2))))))))))))))) (qca (nth z5.1 2) (qba (qbb (.idxAddr 3 (.c (nth z5.1 0)) (.c (.int .i64 0)))) (fun z27=>qba (qbb (.fieldAddr 1 (.c z27))) (fun z28=>qba
  (qbb (.load 1 false (.c z28))) (fun z29=>qbn (qbi z29 1) (qba (qwa 1 (qbd z8 2)) (fun z30=>qbn (qnt (leN (qb7 (nth z5.1 12)) (qbw (qbs (nth z5.1 13))))
  (leN (qd5 (qb7 (nth z5.1 12)) (qbw z30)) 2147483648)) (qba (qbb (.bin .add .num true (.c (nth z5.1 5)) (.c (.int .i64 1)))) (fun z31=>some (.inl ([nth z5.1 0,qbd z8 0,
  .bool true,nth z5.1 3,nth z5.1 4,z31,nth z5.1 6,nth z5.1 7,nth z5.1 8,nth z5.1 9,nth z5.1 10,qbd z29 0,nI (qd5 (qb7 (nth z5.1 12)) (qbw z30)),.sl 1 (qqr (qb2
  (qb7 (nth z5.1 12)) (qbs (nth z5.1 13))) z30) false],z5.2)))))))))) (qba (qbb (.idxAddr 3 (.c (nth z5.1 0)) (.c (.int .i64 0)))) (fun z32=>qba (qbb (.fieldAddr 1 (.c
  z32))) (fun z33=>qba (qbb (.load 1 false (.c z33))) (fun z34=>qba (qbb (.bin .neq .bool false (.c (qbd z8 1)) (.c z34))) (fun z35=>qba (qbb (.idxAddr 3 (.c (nth
  z5.1 0)) (.c (.int .i64 0)))) (fun z36=>qba (qbb (.fieldAddr 1 (.c z36))) (fun z37=>qba (qbb (.load 1 false (.c z37))) (fun z38=>qbn (qbi z38 1) (qba (qwa 1
  (qbd z8 2)) (fun z39=>qbn (qnt (leN (qb7 (nth z5.1 12)) (qbw (qbs (nth z5.1 13)))) (leN (qd5 (qb7 (nth z5.1 12)) (qbw z39)) 2147483648)) (qba (qbb (.bin .add .num
  true (.c (nth z5.1 5)) (.c (.int .i64 1)))) (fun z40=>some (.inl ([nth z5.1 0,qbd z8 0,z35,nth z5.1 3,nth z5.1 4,z40,nth z5.1 6,nth z5.1 7,nth z5.1 8,nth z5.1 9,nth
  z5.1 10,qbd z38 0,nI (qd5 (qb7 (nth z5.1 12)) (qbw z39)),.sl 1 (qqr (qb2 (qb7 (nth z5.1 12)) (qbs (nth z5.1 13))) z39) false],z5.2)))))))))))))))))))))) (qba
  (qca (nth z5.1 1) (qba (qbb (.build [.int .i64 0] [(0,(1,.c (.int .i64 111)))])) (fun z41=>some (.tup [.agg [.bool false,.bool false,.nilS],.iface 124 z41],z5.2)))
  (qca (nth z5.1 2) (qba (qbb (.build [.int .i64 0] [(0,(1,.c (.int .i64 102)))])) (fun z42=>some (.tup [.agg [.bool false,.bool false,.nilS],.iface 124 z42],z5.2)))
  (qba (qba (qb0 (nth z5.1 6) 0 1 false) (fun z43=>qba (qbb (.un .not (.c z43))) (fun z44=>qca z44 (qba (qbb (.len .slice (.c (nth z5.1 0)))) (fun z45=>qba
  (qbb (.bin .neq .num true (.c z45) (.c (.int .i64 1)))) (fun z46=>some z46))) (some (.bool false))))) (fun z47=>qca z47 (qba (qbb (.build [.int .i64 0] [(0,(1,.c (.int
  .i64 111)))])) (fun z48=>some (.tup [.agg [.bool false,.bool false,.nilS],.iface 124 z48],z5.2))) (qba (qbb (.len .slice (.c (nth z5.1 0)))) (fun z49=>qba (qbb
  (.bin .gtr .num true (.c z49) (.c (.int .i64 200)))) (fun z50=>qca z50 (qba (qbb (.build [.int .i64 0] [(0,(1,.c (.int .i64 113)))])) (fun z51=>some (.tup [.agg [.bool
  false,.bool false,.nilS],.iface 124 z51],z5.2))) (qbn (okU (.tup [.agg [nth z5.1 10,nth z5.1 11,slO 1 1 (qbs (nth z5.1 13)) 0 (qb7 (nth z5.1 12))],.nilI])) (some (.tup
  [.agg [nth z5.1 10,nth z5.1 11,slO 1 1 (qbs (nth z5.1 13)) 0 (qb7 (nth z5.1 12))],.nilI],z5.2)))))))))) (fun z52=>some (.inr z52))))) ([x1,.bool false,.bool false,x1,
  z4,.int .i64 0,x0,.bool false,.bool false,.nilS,qbd z3 0,qbd z3 1,nI 0,.sl 1 [] false],e))))))))):=by kernel_rfl
theorem run59 (B:KB) {E:Type} (h:qbf E) (dep:Nat) (e:E) (x0:PV) :
  qfy (qdo B (fun _=>.cl)) fn59 (.cl) h dep [.cv x0] e =
  qbn (eqN 1 1) (asP 124 x0 (fun z1=>qbn (qbi z1 1) (qba (qb0 z1 0 1 false) (fun z2=>some (z2,e)))) (some (.int .i64 0,e))):=by kernel_rfl
theorem run62 (B:KB) {E:Type} (h:qbf E) (dep:Nat) (e:E) (x0:PV) :
  qfy (qdo B (fun _=>.cl)) fn62 (.cl) h dep [.cv x0] e =
  qba (qbb (.len .slice (.c x0))) (fun z1=>qbn (qci [x0,z1,.int .i64 0]) (qgc (fun z2=>qba (qbb (.bin .lss .num false (.c (nth z2.1 2)) (.c (nth z2.1 1)))) (fun
  z3=>qca z3 (qba (qbb (.idxAddr 3 (.c (nth z2.1 0)) (.c (nth z2.1 2)))) (fun z4=>qba (qbb (.load 3 true (.c z4))) (fun z5=>qbn (qbi z5 3) (qba (qbj B .cl
  (.fn 27 []) [.agg [qbd z5 0,qbd z5 1,qbd z5 2]]) (fun z6=>qba (qbb (.un .not (.c z6))) (fun z7=>qca z7 (qba (qbb (.build [.int .i64 0] [(0,(1,.c (.int .i64
  114)))])) (fun z8=>qba (some (.iface 145 z8,z2.2)) (fun z9=>some (.inr z9)))) (qba (qbb (.bin .add .num true (.c (nth z2.1 2)) (.c (.int .i64 1)))) (fun z10=>some
  (.inl ([nth z2.1 0,nth z2.1 1,z10],z2.2)))))))))) (qba (some (.nilI,z2.2)) (fun z11=>some (.inr z11))))) ([x0,z1,.int .i64 0],e))):=by kernel_rfl
theorem run63 (B:KB) {E:Type} (h:qbf E) (dep:Nat) (e:E) (x0:PV) :
  qfy (qdo B (fun _=>.cl)) fn63 (.cl) h dep [.cv x0] e =
  qbn (eqN 1 1) (asP 145 x0 (fun z1=>qbn (qbi z1 1) (qba (qb0 z1 0 1 false) (fun z2=>some (z2,e)))) (some (.int .i64 0,e))):=by kernel_rfl
theorem run64 (B:KB) {E:Type} (h:qbf E) (dep:Nat) (e:E) (x0:PV) :
  qfy (qdo B (fun _=>.cl)) fn64 (.cl) h dep [.cv x0] e =
  qbn (qh3 x0) (qba (qba (qb0 x0 1 1 false) (fun z1=>qca z1 (qba (qb0 x0 2 1 false) (fun z2=>qba (qbb (.len .slice (.c z2))) (fun z3=>qba (qbb (.bin .gtr
  .num true (.c z3) (.c (.int .i64 0)))) (fun z4=>some z4)))) (some (.bool false)))) (fun z5=>some (z5,e))):=by kernel_rfl
theorem run65 (B:KB) {E:Type} (h:qbf E) (dep:Nat) (e:E) (x0:PV) (x1:PV) :
  qfy (qdo B (fun _=>.cl)) fn65 (.cl) h dep [.cv x0,.cv x1] e =
  qba (qbj B .cl (.fn 61 []) []) (fun z1=>qba (qbb (.lookup .str .nilF true (.c z1) (.c x0))) (fun z2=>qba (qbb (.extract 0 (.c z2))) (fun z3=>qba (qbb
  (.extract 1 (.c z2))) (fun z4=>qba (qbb (.un .not (.c z4))) (fun z5=>qca z5 (qba (qbb (.build [.str []] [(0,(1,.c x0))])) (fun z6=>qba (qbj B .cl (.fn 110 [])
  [.iface 143 z6]) (fun z7=>some (.tup [.int .i64 0,z7],e)))) (qba (qbj B .cl z3 [x1]) (fun z8=>qba (qbb (.extract 0 (.c z8))) (fun z9=>qba (qbb (.extract 1 (.c
  z8))) (fun z10=>qba (qbj B .cl (.fn 110 []) [z10]) (fun z11=>some (.tup [z9,z11],e))))))))))):=by kernel_rfl
theorem run76 (B:KB) {E:Type} (h:qbf E) (dep:Nat) (e:E) (x0:PV) :
  qfy (qdo B (fun _=>.cl)) fn76 (.cl) h dep [.cv x0] e =
  qbn (qh3 x0) (qba (qba (qb0 x0 0 1 false) (fun z1=>qca z1 (qba (qb0 x0 3 1 false) (fun z2=>qca z2 (qba (qb0 x0 2 1 false) (fun z3=>qba (qbb (.len .slice
  (.c z3))) (fun z4=>qba (qb0 x0 5 1 false) (fun z5=>qba (qbb (.len .slice (.c z5))) (fun z6=>qba (qbb (.bin .neq .num false (.c z4) (.c z6))) (fun z7=>some
  z7)))))) (some (.bool false)))) (some (.bool false)))) (fun z8=>qca z8 (qba (qbb (.build [.int .i64 0] [(0,(1,.c (.int .i64 110)))])) (fun z9=>some (.tup [.int .i64 0,
  .iface 145 z9],e))) (qba (qb0 x0 0 1 false) (fun z10=>qca z10 (qba (qb0 x0 2 1 false) (fun z11=>qba (qbb (.len .slice (.c z11))) (fun z12=>some (.tup [z12,
  .nilI],e)))) (qba (qb0 x0 5 1 false) (fun z13=>qba (qbb (.len .slice (.c z13))) (fun z14=>some (.tup [z14,.nilI],e)))))))):=by kernel_rfl
theorem run77 (B:KB) {E:Type} (h:qbf E) (dep:Nat) (e:E) (x0:PV) (x1:PV) :
  qfy (qdo B (fun _=>.cl)) fn77 (.cl) h dep [.cv x0,.cv x1] e =
  qbn (qh3 x0) (qbn (qh3 x1) (qbn (okU (.fn 141 [Qlh (qfu x1) 0,Qlh (qfu x0) 0])) (some (.fn 141 [Qlh (qfu x1) 0,Qlh (qfu x0) 0],e)))):=by kernel_rfl
theorem run78 (B:KB) {E:Type} (h:qbf E) (dep:Nat) (e:E) (x0:PV) (x1:PV) (x2:PV) :
  qfy (qdo B (fun _=>.cl)) fn78 (.cl) h dep [.cv x0,.cv x1,.cv x2] e =
  qba (qbj B .cl (.fn 75 []) []) (fun z1=>qba (qbb (.lookup .str .nilF true (.c z1) (.c x0))) (fun z2=>qba (qbb (.extract 0 (.c z2))) (fun z3=>qba (qbb
  (.extract 1 (.c z2))) (fun z4=>qba (qbb (.un .not (.c z4))) (fun z5=>qca z5 (qba (qbb (.build [.str []] [(0,(1,.c x0))])) (fun z6=>qba (qbj B .cl (.fn 110 [])
  [.iface 143 z6]) (fun z7=>some (.tup [.int .i64 0,z7],e)))) (qba (qbb (.build [.int .i64 0,.int .i64 0] [(0,(1,.c x1)),(1,(1,.c x2))])) (fun z8=>qba (qbb
  (.build [.int .i64 0,.int .i64 0] [(0,(2,.c z8))])) (fun z9=>qba (qbj B .cl z3 [z9]) (fun z10=>qba (qbb (.extract 0 (.c z10))) (fun z11=>qba (qbb (.extract 1
  (.c z10))) (fun z12=>qba (qbj B .cl (.fn 110 []) [z12]) (fun z13=>some (.tup [z11,z13],e))))))))))))):=by kernel_rfl
theorem run87 (B:KB) {E:Type} (h:qbf E) (dep:Nat) (e:E) (x0:PV) :
  qfy (qdo B (fun _=>.cl)) fn87 (.cl) h dep [.cv x0] e =
  qbn (qh3 x0) (qbn (okU (.fn 151 [Qlh (qfu x0) 0])) (some (.fn 151 [Qlh (qfu x0) 0],e))):=by kernel_rfl
theorem run91 (B:KB) {E:Type} (h:qbf E) (dep:Nat) (e:E) (x0:PV) (x1:PV) :
  qfy (qdo B (fun _=>.cl)) fn91 (.cl) h dep [.cv x0,.cv x1] e =
  qba (qbb (.len .slice (.c x0))) (fun z1=>qbn (qci [x0,x1,z1,.int .i64 0]) (qgc (fun z2=>qba (qbb (.bin .lss .num false (.c (nth z2.1 3)) (.c (nth z2.1 2))))
  (fun z3=>qca z3 (qba (qbb (.idxAddr 1 (.c (nth z2.1 0)) (.c (nth z2.1 3)))) (fun z4=>qba (qbb (.load 1 false (.c z4))) (fun z5=>qba (qbj B .cl (nth z2.1 1) [z5])
  (fun z6=>qca z6 (qba (some (nth z2.1 3,z2.2)) (fun z7=>some (.inr z7))) (qba (qbb (.bin .add .num true (.c (nth z2.1 3)) (.c (.int .i64 1)))) (fun z8=>some (.inl
  ([nth z2.1 0,nth z2.1 1,nth z2.1 2,z8],z2.2)))))))) (qba (some (.int .i64 (-1),z2.2)) (fun z9=>some (.inr z9))))) ([x0,x1,z1,.int .i64 0],e))):=by kernel_rfl
theorem run92 (B:KB) {E:Type} (h:qbf E) (dep:Nat) (e:E) (x0:PV) :
  qfy (qdo B (fun _=>.cl)) fn92 (.cl) h dep [.nils,.cv x0] e =
  qba (qf0 B (qd6 dep h (fun z1=>fun z2=>fun z3=>qbn (qgx z2 1) (qbn (qbi (nth z2 0) 3) (qbn (qdf 3 [.agg [qbd (nth z2 0) 0,qbd (nth z2 0) 1,qbd
  (nth z2 0) 2]]) (qbn (leN (qd5 0 (qbw [.agg [qbd (nth z2 0) 0,qbd (nth z2 0) 1,qbd (nth z2 0) 2]])) (qbw [.agg [qbd (nth z2 0) 0,qbd (nth z2 0) 1,qbd (nth z2 0)
  2]])) (qbn (qnt (leN (qb7 (nth z1 2)) (qbw (qbs (nth z1 3)))) (leN (qd5 (qb7 (nth z1 2)) (qbw (qb2 (qbw [.agg [qbd (nth z2 0) 0,qbd (nth z2 0) 1,qbd (nth z2 0)
  2]]) (qcx 0 [.agg [qbd (nth z2 0) 0,qbd (nth z2 0) 1,qbd (nth z2 0) 2]])))) 2147483648)) (some (true,([nth z1 0,nth z1 1,nI (qd5 (qb7 (nth z1 2)) (qbw (qb2 (qbw
  [.agg [qbd (nth z2 0) 0,qbd (nth z2 0) 1,qbd (nth z2 0) 2]]) (qcx 0 [.agg [qbd (nth z2 0) 0,qbd (nth z2 0) 1,qbd (nth z2 0) 2]])))),.sl 3 (qqr (qb2 (qb7 (nth
  z1 2)) (qbs (nth z1 3))) (qb2 (qbw [.agg [qbd (nth z2 0) 0,qbd (nth z2 0) 1,qbd (nth z2 0) 2]]) (qcx 0 [.agg [qbd (nth z2 0) 0,qbd (nth z2 0) 1,qbd (nth z2
  0) 2]]))) false],(none,z3)))))))))) dep x0 ([.nilS,x0,nI 0,.sl 3 [] false],(none,e))) (fun z4=>qqj (qht z4.2.1) (qbn (okU (slO 3 3 (qbs (nth z4.1 3)) 0 (qb7 (nth
  z4.1 2)))) (some (slO 3 3 (qbs (nth z4.1 3)) 0 (qb7 (nth z4.1 2)),z4.2.2))) (qqj (qmm z4.2.1) (some (nth z4.1 0,z4.2.2)) none)):=by kernel_rfl
theorem run93 (B:KB) {E:Type} (h:qbf E) (dep:Nat) (e:E) (x0:Nat) (x1:PV) :
  qfy (qdo B (fun _=>.cl)) fn93 (.cl) h dep [.yld x0,.cv x1] e =
  qba (qbb (.fieldAddr 0 (.c x1))) (fun z1=>qba (qbb (.fieldAddr 2 (.c z1))) (fun z2=>qba (qbb (.load 1 false (.c z2))) (fun z3=>qba (qbb (.len .slice (.c z3)))
  (fun z4=>qbn (qci [nI x0,x1,z3,z4,.int .i64 0]) (qgc (fun z5=>qba (qbb (.bin .lss .num false (.c (nth z5.1 4)) (.c (nth z5.1 3)))) (fun z6=>qca z6 (qba
  (qbb (.idxAddr 1 (.c (nth z5.1 2)) (.c (nth z5.1 4)))) (fun z7=>qba (qbb (.load 1 false (.c z7))) (fun z8=>qba (qbb (.load 3 true (.c (nth z5.1 1)))) (fun z9=>qba
  (qbj B .cl (.fn 94 []) [z9,z8]) (fun z10=>qba (h (qb7 (nth z5.1 0)) [z10] z5.2) (fun z11=>qba (qbb (.un .not (.c (.bool z11.1)))) (fun z12=>qca z12 (qba (some
  (.tup [],z11.2)) (fun z13=>some (.inr z13))) (qba (qbb (.bin .add .num true (.c (nth z5.1 4)) (.c (.int .i64 1)))) (fun z14=>some (.inl ([nI (qb7 (nth z5.1 0)),nth z5.1
  1,nth z5.1 2,nth z5.1 3,z14],z11.2))))))))))) (qba (some (.tup [],z5.2)) (fun z15=>some (.inr z15))))) ([nI x0,x1,z3,z4,.int .i64 0],e)))))):=by kernel_rfl
theorem run94 (B:KB) {E:Type} (h:qbf E) (dep:Nat) (e:E) (x0:PV) (x1:PV) :
  qfy (qdo B (fun _=>.cl)) fn94 (.cl) h dep [.cv x0,.cv x1] e =
  qbn (qh3 x0) (qba (qb0 x0 1 1 false) (fun z1=>qbn (qdf 1 [x1]) (qbn (qbi z1 1) (qbn (okU (.agg [.bool false,qbd z1 0,slO 1 1 [x1] 0 (qbw [x1])])) (some (.agg
  [.bool false,qbd z1 0,slO 1 1 [x1] 0 (qbw [x1])],e)))))):=by kernel_rfl
theorem run149 (B:KB) {E:Type} (h:qbf E) (dep:Nat) (e:E) (x0:PV) :
  qfy (qdo B (fun _=>.cl)) fn149 (.cl) h dep [.cv x0] e =
  qbn (qh3 x0) (qbn (okU (.fn 179 [Qlh (qfu x0) 0])) (some (.fn 179 [Qlh (qfu x0) 0],e))):=by kernel_rfl
theorem run150 (B:KB) {E:Type} (h:qbf E) (dep:Nat) (e:E) (x0:PV) (x1:PV) :
  qfy (qdo B (fun _=>.cl)) fn150 (.cl) h dep [.cv x0,.cv x1] e =
  qbn (qh3 x0) (qba (qbb (.bin .neq .num true (.c x1) (.c (.int .i64 0)))) (fun z1=>qca z1 (qba (qbb (.build [.int .i64 0] [(0,(1,.c x1))])) (fun z2=>some (.tup
  [.agg [.bool false,.bool false,.nilS],.iface 124 z2],e))) (qba (qb0 x0 0 3 true) (fun z3=>qbn (qbi z3 3) (some (.tup [.agg [qbd z3 0,qbd z3 1,qbd z3 2],
  .nilI],e)))))):=by kernel_rfl
theorem run151 (B:KB) {E:Type} (h:qbf E) (dep:Nat) (e:E) (x0:Nat) (x1:PV) :
  qfy (qdo B (fun _=>.cl)) fn151 (.cl) h dep [.yld x0,.cv x1] e =
  qba (qbb (.fieldAddr 0 (.c x1))) (fun z1=>qba (qbb (.fieldAddr 2 (.c z1))) (fun z2=>qba (qbb (.load 1 false (.c z2))) (fun z3=>qba (qbb (.len .slice (.c z3)))
  (fun z4=>qbn (qci [nI x0,x1,z4,.int .i64 0]) (qgc (fun z5=>qba (qbb (.bin .lss .num false (.c (nth z5.1 3)) (.c (nth z5.1 2)))) (fun z6=>qca z6 (qba (qbb
  (.fieldAddr 0 (.c (nth z5.1 1)))) (fun z7=>qba (qbb (.fieldAddr 1 (.c z7))) (fun z8=>qba (qbb (.load 1 false (.c z8))) (fun z9=>qba (qbb (.fieldAddr 0 (.c (nth
  z5.1 1)))) (fun z10=>qba (qbb (.fieldAddr 2 (.c z10))) (fun z11=>qba (qbb (.load 1 false (.c z11))) (fun z12=>qba (qbb (.bin .add .num true (.c (nth z5.1 3)) (.c
  (.int .i64 1)))) (fun z13=>qba (qbb (.bin .add .num true (.c (nth z5.1 3)) (.c (.int .i64 1)))) (fun z14=>qba (qbb (.slice 1 (.c z12) none (some (.c z13)) (some (.c
  z14)))) (fun z15=>qba (qbb (.build [.bool false,.bool false,.nilS] [(0,(1,.c (.bool true))),(1,(1,.c z9)),(2,(1,.c z15))])) (fun z16=>qba (h (qb7 (nth z5.1 0))
  [z16] z5.2) (fun z17=>qba (qbb (.un .not (.c (.bool z17.1)))) (fun z18=>qca z18 (qba (some (.tup [],z17.2)) (fun z19=>some (.inr z19))) (qba (qbb (.bin .add .num
  true (.c (nth z5.1 3)) (.c (.int .i64 1)))) (fun z20=>some (.inl ([nI (qb7 (nth z5.1 0)),nth z5.1 1,nth z5.1 2,z20],z17.2))))))))))))))))) (qba (some (.tup [],z5.2)) (fun
  z21=>some (.inr z21))))) ([nI x0,x1,z4,.int .i64 0],e)))))):=by kernel_rfl
theorem run179 (B:KB) {E:Type} (h:qbf E) (dep:Nat) (e:E) (x0:Nat) (x1:PV) :
  qfy (qdo B (fun _=>.cl)) fn179 (.cl) h dep [.yld x0,.cv x1] e =
  qba (qbb (.load 1 false (.c x1))) (fun z1=>qba (qbb (.len .slice (.c z1))) (fun z2=>qba (qbb (.bin .sub .num true (.c z2) (.c (.int .i64 1)))) (fun z3=>qbn
  (qci [nI x0,x1,z3]) (qgc (fun z4=>qba (qbb (.bin .geq .num true (.c (nth z4.1 2)) (.c (.int .i64 0)))) (fun z5=>qca z5 (qba (qbb (.load 1 false (.c (nth z4.1
  1)))) (fun z6=>qba (qbb (.idxAddr 3 (.c z6) (.c (nth z4.1 2)))) (fun z7=>qba (qbb (.load 3 true (.c z7))) (fun z8=>qba (h (qb7 (nth z4.1 0)) [nth z4.1 2,z8] z4.2)
  (fun z9=>qba (qbb (.un .not (.c (.bool z9.1)))) (fun z10=>qca z10 (qba (some (.tup [],z9.2)) (fun z11=>some (.inr z11))) (qba (qbb (.bin .sub .num true (.c (nth
  z4.1 2)) (.c (.int .i64 1)))) (fun z12=>some (.inl ([nI (qb7 (nth z4.1 0)),nth z4.1 1,z12],z9.2)))))))))) (qba (some (.tup [],z4.2)) (fun z13=>some (.inr z13))))) ([nI
  x0,x1,z3],e))))):=by kernel_rfl
theorem run141 (B:KB) {E:Type} (h:qbf E) (dep:Nat) (e:E) (x0:Nat) (x1:PV) (x2:PV) :
  qfy (qdo B (fun _=>.cl)) fn141 (.cl) h dep [.yld x0,.cv x1,.cv x2] e =
  qba (qbb (.load 1 false (.c x1))) (fun z1=>qbn (qci [nI x0,x2,z1,.int .i64 0]) (qgc (fun z2=>qba (qbb (.bin .lss .num false (.c (nth z2.1 3)) (.c (nth z2.1
  2)))) (fun z3=>qca z3 (qba (qbb (.fieldAddr 0 (.c (nth z2.1 1)))) (fun z4=>qba (qbb (.load 3 true (.c z4))) (fun z5=>qba (qbj B .cl (.fn 142 []) [z5,nth z2.1
  3]) (fun z6=>qba (qbb (.fieldAddr 3 (.c (nth z2.1 1)))) (fun z7=>qba (qbb (.load 3 true (.c z7))) (fun z8=>qba (qbj B .cl (.fn 142 []) [z8,nth z2.1 3]) (fun z9
  => qba (h (qb7 (nth z2.1 0)) [z6,z9] z2.2) (fun z10=>qba (qbb (.un .not (.c (.bool z10.1)))) (fun z11=>qca z11 (qba (some (.tup [],z10.2)) (fun z12=>some (.inr
  z12))) (qba (qbb (.bin .add .num true (.c (nth z2.1 3)) (.c (.int .i64 1)))) (fun z13=>some (.inl ([nI (qb7 (nth z2.1 0)),nth z2.1 1,nth z2.1 2,z13],z10.2)))))))))))))
  (qba (some (.tup [],z2.2)) (fun z14=>some (.inr z14))))) ([nI x0,x2,z1,.int .i64 0],e))):=by kernel_rfl
theorem run142 (B:KB) {E:Type} (h:qbf E) (dep:Nat) (e:E) (x0:PV) (x1:PV) :
  qfy (qdo B (fun _=>.cl)) fn142 (.cl) h dep [.cv x0,.cv x1] e =
  qbn (qh3 x0) (qba (qb0 x0 0 1 false) (fun z1=>qca z1 (qba (qb0 x0 2 1 false) (fun z2=>qba (qbb (.idxAddr 1 (.c z2) (.c x1))) (fun z3=>qba (qbb (.load 1 false
  (.c z3))) (fun z4=>some (z4,e))))) (qba (qb0 x0 2 1 false) (fun z5=>qba (qbb (.idxAddr 1 (.c z5) (.c (.int .i64 0)))) (fun z6=>qba (qbb (.load 1 false (.c z6)))
  (fun z7=>some (z7,e))))))):=by kernel_rfl
theorem run100 (B:KB) {E:Type} (h:qbf E) (dep:Nat) (e:E) (x0:PV) :
  qfy (qdo B (fun _=>.cl)) fn100 (.cl) h dep [.cv x0] e =
  some (.tup [x0,.nilI],e):=by kernel_rfl
theorem run101 (B:KB) {E:Type} (h:qbf E) (dep:Nat) (e:E) (x0:PV) :
  qfy (qdo B (fun _=>.cl)) fn101 (.cl) h dep [.cv x0] e =
  qba (qbb (.build [.int .i64 0,.int .i64 0] [(0,(1,.c (.int .i64 0))),(1,(1,.c x0))])) (fun z1=>qba (qbb (.build [.int .i64 0,.int .i64 0] [(0,(2,.c z1))])) (fun
  z2=>qba (qbj B .cl (.fn 102 []) [z2]) (fun z3=>qba (qbb (.extract 0 (.c z3))) (fun z4=>qba (qbb (.extract 1 (.c z3))) (fun z5=>some (.tup [z4,z5],e)))))):=by kernel_rfl
theorem run102 (B:KB) {E:Type} (h:qbf E) (dep:Nat) (e:E) (x0:PV) :
  qfy (qdo B (fun _=>.cl)) fn102 (.cl) h dep [.cv x0] e =
  qbn (qh3 x0) (qba (qb0 x0 0 1 false) (fun z1=>qba (qb0 x0 1 1 false) (fun z2=>qba (qbb (.bin .sub .num false (.c z1) (.c z2))) (fun z3=>qba (qbb (.load 1
  false (.c (.ptr [.glob 1 265] 0)))) (fun z4=>qba (qb0 x0 0 1 false) (fun z5=>qba (qbb (.bin .lss .num true (.c z5) (.c (.int .i64 0)))) (fun z6=>qba (qb0 x0 1 1
  false) (fun z7=>qba (qbb (.bin .lss .num true (.c z7) (.c (.int .i64 0)))) (fun z8=>qba (qbb (.bin .eql .bool false (.c z6) (.c z8))) (fun z9=>qca z9 (qbn (qdf 1
  [.bool true]) (qba (qgw B .cl false 108 [z3,z4,slO 1 1 [.bool true] 0 (qbw [.bool true])]) (fun z10=>qba (qbb (.extract 0 (.c z10))) (fun z11=>qba (qbb (.extract
  1 (.c z10))) (fun z12=>some (.tup [z11,z12],e)))))) (qba (qbb (.bin .lss .num true (.c z3) (.c (.int .i64 0)))) (fun z13=>qba (qb0 x0 0 1 false) (fun z14=>qba
  (qbb (.bin .lss .num true (.c z14) (.c (.int .i64 0)))) (fun z15=>qba (qbb (.bin .eql .bool false (.c z13) (.c z15))) (fun z16=>qbn (qdf 1 [z16]) (qba (qgw B .cl
  false 108 [z3,z4,slO 1 1 [z16] 0 (qbw [z16])]) (fun z17=>qba (qbb (.extract 0 (.c z17))) (fun z18=>qba (qbb (.extract 1 (.c z17))) (fun z19=>some (.tup [z18,z19],
  e)))))))))))))))))))):=by kernel_rfl
theorem run103 (B:KB) {E:Type} (h:qbf E) (dep:Nat) (e:E) (x0:PV) :
  qfy (qdo B (fun _=>.cl)) fn103 (.cl) h dep [.cv x0] e =
  qba (qbb (.bin .gtr .num true (.c x0) (.c (.int .i64 0)))) (fun z1=>qba (qbj B .cl (.fn 104 []) [z1]) (fun z2=>qba (qbb (.bin .lss .num true (.c x0) (.c (.int .i64
  0)))) (fun z3=>qba (qbj B .cl (.fn 104 []) [z3]) (fun z4=>qba (qbb (.bin .sub .num false (.c z2) (.c z4))) (fun z5=>some (.tup [z5,.nilI],e)))))):=by kernel_rfl
theorem run104 (B:KB) {E:Type} (h:qbf E) (dep:Nat) (e:E) (x0:PV) :
  qfy (qdo B (fun _=>.cl)) fn104 (.cl) h dep [.cv x0] e =
  qca x0 (some (.int .i64 1,e)) (some (.int .i64 0,e)):=by kernel_rfl
theorem run105 (B:KB) {E:Type} (h:qbf E) (dep:Nat) (e:E) (x0:PV) :
  qfy (qdo B (fun _=>.cl)) fn105 (.cl) h dep [.cv x0] e =
  qba (qbb (.build [.int .i64 0,.int .i64 0] [(0,(1,.c (.int .i64 1))),(1,(1,.c x0))])) (fun z1=>qba (qbb (.build [.int .i64 0,.int .i64 0] [(0,(2,.c z1))])) (fun
  z2=>qba (qbj B .cl (.fn 106 []) [z2]) (fun z3=>qba (qbb (.extract 0 (.c z3))) (fun z4=>qba (qbb (.extract 1 (.c z3))) (fun z5=>some (.tup [z4,z5],e)))))):=by kernel_rfl
theorem run106 (B:KB) {E:Type} (h:qbf E) (dep:Nat) (e:E) (x0:PV) :
  qfy (qdo B (fun _=>.cl)) fn106 (.cl) h dep [.cv x0] e =
  qbn (qh3 x0) (qba (qb0 x0 1 1 false) (fun z1=>qba (qbb (.bin .eql .num true (.c z1) (.c (.int .i64 0)))) (fun z2=>qca z2 (qba (qbb (.load 1 false (.c (.ptr [.glob
  2 265] 0)))) (fun z3=>qba (qb0 x0 0 1 false) (fun z4=>qba (qbb (.bin .eql .num true (.c z4) (.c (.int .i64 0)))) (fun z5=>qbn (qdf 1 [z5]) (qba (qgw B .cl false
  108 [.int .i64 1,z3,slO 1 1 [z5] 0 (qbw [z5])]) (fun z6=>qba (qbb (.extract 0 (.c z6))) (fun z7=>qba (qbb (.extract 1 (.c z6))) (fun z8=>some (.tup [z7,z8],
  e))))))))) (qba (qb0 x0 1 1 false) (fun z9=>qba (qbb (.bin .eql .num true (.c z9) (.c (.int .i64 (-1))))) (fun z10=>qca z10 (qba (qb0 x0 0 1 false) (fun z11=>qba
  (qbb (.un .neg (.c z11))) (fun z12=>qba (qbb (.load 1 false (.c (.ptr [.glob 1 265] 0)))) (fun z13=>qba (qb0 x0 0 1 false) (fun z14=>qba (qbb (.bin .neq .num
  true (.c z14) (.c (.int .i64 (-9223372036854775808))))) (fun z15=>qbn (qdf 1 [z15]) (qba (qgw B .cl false 108 [z12,z13,slO 1 1 [z15] 0 (qbw [z15])]) (fun z16=>qba
  (qbb (.extract 0 (.c z16))) (fun z17=>qba (qbb (.extract 1 (.c z16))) (fun z18=>some (.tup [z17,z18],e))))))))))) (qba (qb0 x0 0 1 false) (fun z19=>qba (qb0 x0
  1 1 false) (fun z20=>qba (qbb (.bin .quo .num false (.c z19) (.c z20))) (fun z21=>qba (qbb (.load 1 false (.c (.ptr [.glob 2 265] 0)))) (fun z22=>qba (qb0 x0 0 1
  false) (fun z23=>qba (qb0 x0 1 1 false) (fun z24=>qba (qbb (.bin .rem .num false (.c z23) (.c z24))) (fun z25=>qba (qbb (.bin .eql .num true (.c z25) (.c (.int
  .i64 0)))) (fun z26=>qbn (qdf 1 [z26]) (qba (qgw B .cl false 108 [z21,z22,slO 1 1 [z26] 0 (qbw [z26])]) (fun z27=>qba (qbb (.extract 0 (.c z27))) (fun z28 =>
  qba (qbb (.extract 1 (.c z27))) (fun z29=>some (.tup [z28,z29],e)))))))))))))))))))):=by kernel_rfl
theorem run107 (B:KB) {E:Type} (h:qbf E) (dep:Nat) (e:E) (x0:PV) :
  qfy (qdo B (fun _=>.cl)) fn107 (.cl) h dep [.cv x0] e =
  qba (qbb (.bin .sub .num true (.c (.int .i64 1)) (.c x0))) (fun z1=>qba (qbb (.build [.str []] [(0,(1,.c (.str [126])))])) (fun z2=>qba (qbb (.bin .eql .num true
  (.c x0) (.c (.int .i64 0)))) (fun z3=>qca z3 (qbn (qdf 1 [.bool true]) (qba (qgw B .cl false 108 [z1,.iface 143 z2,slO 1 1 [.bool true] 0 (qbw [.bool true])]) (fun z4
  => qba (qbb (.extract 0 (.c z4))) (fun z5=>qba (qbb (.extract 1 (.c z4))) (fun z6=>some (.tup [z5,z6],e)))))) (qba (qbb (.bin .eql .num true (.c x0) (.c (.int
  .i64 1)))) (fun z7=>qbn (qdf 1 [z7]) (qba (qgw B .cl false 108 [z1,.iface 143 z2,slO 1 1 [z7] 0 (qbw [z7])]) (fun z8=>qba (qbb (.extract 0 (.c z8))) (fun z9 =>
  qba (qbb (.extract 1 (.c z8))) (fun z10=>some (.tup [z9,z10],e)))))))))):=by kernel_rfl
theorem run108 (B:KB) {E:Type} (h:qbf E) (dep:Nat) (e:E) (x0:PV) (x1:PV) (x2:PV) :
  qfy (qdo B (fun _=>.cl)) fn108 (.cl) h dep [.cv x0,.cv x1,.cv x2] e =
  qba (qbb (.len .slice (.c x2))) (fun z1=>qbn (qci [x0,x1,x2,z1,.int .i64 0]) (qgc (fun z2=>qba (qbb (.bin .lss .num false (.c (nth z2.1 4)) (.c (nth z2.1
  3)))) (fun z3=>qca z3 (qba (qbb (.idxAddr 1 (.c (nth z2.1 2)) (.c (nth z2.1 4)))) (fun z4=>qba (qbb (.load 1 false (.c z4))) (fun z5=>qba (qbb (.un .not (.c
  z5))) (fun z6=>qca z6 (qba (some (.tup [.int .i64 0,nth z2.1 1],z2.2)) (fun z7=>some (.inr z7))) (qba (qbb (.bin .add .num true (.c (nth z2.1 4)) (.c (.int .i64 1))))
  (fun z8=>some (.inl ([nth z2.1 0,nth z2.1 1,nth z2.1 2,nth z2.1 3,z8],z2.2)))))))) (qba (some (.tup [nth z2.1 0,.nilI],z2.2)) (fun z9=>some (.inr z9))))) ([x0,x1,x2,
  z1,.int .i64 0],e))):=by kernel_rfl
theorem run109 (B:KB) {E:Type} (h:qbf E) (dep:Nat) (e:E) (x0:PV) (x1:PV) :
  qfy (qdo B (fun _=>.cl)) fn109 (.cl) h dep [.cv x0,.cv x1] e =
  qba (qbb (.bin .lss .num true (.c x0) (.c (.int .i64 0)))) (fun z1=>qca z1 (qba (qbb (.load 1 false (.c x1))) (fun z2=>qba (qbj B .cl z2 [x0]) (fun z3=>qba
  (qbb (.extract 0 (.c z3))) (fun z4=>qba (qbb (.extract 1 (.c z3))) (fun z5=>some (.tup [z4,z5],e)))))) (some (.tup [x0,.nilI],e))):=by kernel_rfl
theorem run110 (B:KB) {E:Type} (h:qbf E) (dep:Nat) (e:E) (x0:PV) :
  qfy (qdo B (fun _=>.cl)) fn110 (.cl) h dep [.cv x0] e =
  qba (qbb (.load 1 false (.c (.ptr [.glob 1 265] 0)))) (fun z1=>qba (qbj B .cl (.fn 159 []) [x0,z1]) (fun z2=>qca z2 (some (.int .i64 100,e)) (qba (qbb (.load 1
  false (.c (.ptr [.glob 2 265] 0)))) (fun z3=>qba (qbj B .cl (.fn 159 []) [x0,z3]) (fun z4=>qca z4 (some (.int .i64 101,e)) (qbn (eqN 1 1) (asP 143 x0 (fun z5=>qbn
  (qbi z5 1) (some (.int .i64 102,e))) (some (.int .i64 0,e))))))))):=by kernel_rfl
theorem run132 (B:KB) {E:Type} (h:qbf E) (dep:Nat) (e:E) (x0:PV) :
  qfy (qdo B (fun _=>.cl)) fn132 (.cl) h dep [.cv x0] e =
  qbn (qh3 x0) (qba (qb0 x0 0 1 false) (fun z1=>qba (qb0 x0 1 1 false) (fun z2=>qba (qbb (.bin .add .num false (.c z1) (.c z2))) (fun z3=>qba (qbb (.load 1
  false (.c (.ptr [.glob 1 265] 0)))) (fun z4=>qba (qb0 x0 0 1 false) (fun z5=>qba (qbb (.bin .lss .num true (.c z5) (.c (.int .i64 0)))) (fun z6=>qba (qb0 x0 1 1
  false) (fun z7=>qba (qbb (.bin .lss .num true (.c z7) (.c (.int .i64 0)))) (fun z8=>qba (qbb (.bin .neq .bool false (.c z6) (.c z8))) (fun z9=>qca z9 (qbn (qdf 1
  [.bool true]) (qba (qgw B .cl false 108 [z3,z4,slO 1 1 [.bool true] 0 (qbw [.bool true])]) (fun z10=>qba (qbb (.extract 0 (.c z10))) (fun z11=>qba (qbb (.extract
  1 (.c z10))) (fun z12=>some (.tup [z11,z12],e)))))) (qba (qbb (.bin .lss .num true (.c z3) (.c (.int .i64 0)))) (fun z13=>qba (qb0 x0 0 1 false) (fun z14=>qba
  (qbb (.bin .lss .num true (.c z14) (.c (.int .i64 0)))) (fun z15=>qba (qbb (.bin .eql .bool false (.c z13) (.c z15))) (fun z16=>qbn (qdf 1 [z16]) (qba (qgw B .cl
  false 108 [z3,z4,slO 1 1 [z16] 0 (qbw [z16])]) (fun z17=>qba (qbb (.extract 0 (.c z17))) (fun z18=>qba (qbb (.extract 1 (.c z17))) (fun z19=>some (.tup [z18,z19],
  e)))))))))))))))))))):=by kernel_rfl
theorem run133 (B:KB) {E:Type} (h:qbf E) (dep:Nat) (e:E) (x0:PV) :
  qfy (qdo B (fun _=>.cl)) fn133 (.cl) h dep [.cv x0] e =
  qbn (qh3 x0) (qba (qb0 x0 0 1 false) (fun z1=>qba (qbj B .cl (.fn 171 []) [z1]) (fun z2=>qba (qb0 x0 1 1 false) (fun z3=>qba (qbj B .cl (.fn 171 []) [z3])
  (fun z4=>qba (qbj B .cl (.fn 170 []) [z2,z4]) (fun z5=>qba (qbb (.extract 0 (.c z5))) (fun z6=>qba (qbb (.extract 1 (.c z5))) (fun z7=>qba (qb0 x0 0 1
  false) (fun z8=>qba (qbb (.bin .lss .num true (.c z8) (.c (.int .i64 0)))) (fun z9=>qba (qb0 x0 1 1 false) (fun z10=>qba (qbb (.bin .lss .num true (.c z10) (.c
  (.int .i64 0)))) (fun z11=>qba (qbb (.bin .neq .bool false (.c z9) (.c z11))) (fun z12=>qba (qbb (.conv .i64 (.c z7))) (fun z13=>qca z12 (qba (qbb (.un .neg (.c
  z13))) (fun z14=>qba (qbb (.load 1 false (.c (.ptr [.glob 1 265] 0)))) (fun z15=>qba (qbb (.bin .eql .num true (.c z6) (.c (.int .u64 0)))) (fun z16=>qba (qbb
  (.bin .leq .num true (.c z7) (.c (.int .u64 9223372036854775807)))) (fun z17=>qca z17 (qbn (qdf 1 [z16,.bool true]) (qba (qgw B .cl false 108 [z14,z15,slO 1 1 [z16,
  .bool true] 0 (qbw [z16,.bool true])]) (fun z18=>qba (qbb (.extract 0 (.c z18))) (fun z19=>qba (qbb (.extract 1 (.c z18))) (fun z20=>some (.tup [z19,z20],e))))))
  (qca z12 (qba (qbb (.bin .eql .num true (.c z7) (.c (.int .u64 9223372036854775808)))) (fun z21=>qbn (qdf 1 [z16,z21]) (qba (qgw B .cl false 108 [z14,z15,slO 1 1
  [z16,z21] 0 (qbw [z16,z21])]) (fun z22=>qba (qbb (.extract 0 (.c z22))) (fun z23=>qba (qbb (.extract 1 (.c z22))) (fun z24=>some (.tup [z23,z24],e))))))) (qbn
  (qdf 1 [z16,.bool false]) (qba (qgw B .cl false 108 [z14,z15,slO 1 1 [z16,.bool false] 0 (qbw [z16,.bool false])]) (fun z25=>qba (qbb (.extract 0 (.c z25))) (fun
  z26=>qba (qbb (.extract 1 (.c z25))) (fun z27=>some (.tup [z26,z27],e)))))))))))) (qba (qbb (.load 1 false (.c (.ptr [.glob 1 265] 0)))) (fun z28=>qba (qbb
  (.bin .eql .num true (.c z6) (.c (.int .u64 0)))) (fun z29=>qba (qbb (.bin .leq .num true (.c z7) (.c (.int .u64 9223372036854775807)))) (fun z30=>qca z30 (qbn (qdf 1
  [z29,.bool true]) (qba (qgw B .cl false 108 [z13,z28,slO 1 1 [z29,.bool true] 0 (qbw [z29,.bool true])]) (fun z31=>qba (qbb (.extract 0 (.c z31))) (fun z32=>qba
  (qbb (.extract 1 (.c z31))) (fun z33=>some (.tup [z32,z33],e)))))) (qca z12 (qba (qbb (.bin .eql .num true (.c z7) (.c (.int .u64 9223372036854775808)))) (fun z34 =>
  qbn (qdf 1 [z29,z34]) (qba (qgw B .cl false 108 [z13,z28,slO 1 1 [z29,z34] 0 (qbw [z29,z34])]) (fun z35=>qba (qbb (.extract 0 (.c z35))) (fun z36=>qba (qbb
  (.extract 1 (.c z35))) (fun z37=>some (.tup [z36,z37],e))))))) (qbn (qdf 1 [z29,.bool false]) (qba (qgw B .cl false 108 [z13,z28,slO 1 1 [z29,.bool false] 0 (qbw
  [z29,.bool false])]) (fun z38=>qba (qbb (.extract 0 (.c z38))) (fun z39=>qba (qbb (.extract 1 (.c z38))) (fun z40=>some (.tup [z39,z40],e))))))))))))))))))))))))):=by kernel_rfl
theorem run134 (B:KB) {E:Type} (h:qbf E) (dep:Nat) (e:E) (x0:PV) :
  qfy (qdo B (fun _=>.cl)) fn134 (.cl) h dep [.cv x0] e =
  qbn (qh3 x0) (qba (qb0 x0 0 1 false) (fun z1=>qba (qbb (.bin .eql .num true (.c z1) (.c (.int .i64 0)))) (fun z2=>qca z2 (qba (qb0 x0 1 1 false) (fun z3=>some
  (.tup [z3,.nilI],e))) (qba (qb0 x0 0 1 false) (fun z4=>qba (qbb (.bin .eql .num true (.c z4) (.c (.int .i64 (-1))))) (fun z5=>qca z5 (some (.tup [.int .i64 0,.nilI],
  e)) (qba (qb0 x0 1 1 false) (fun z6=>qba (qb0 x0 0 1 false) (fun z7=>qba (qbb (.bin .rem .num false (.c z6) (.c z7))) (fun z8=>qbn (qci [z8,.int .i64 0])
  (qgc (fun z9=>qba (qbb (.bin .lss .num true (.c (nth z9.1 1)) (.c (.int .i64 1)))) (fun z10=>qca z10 (qba (qba (qbb (.bin .eql .num true (.c (nth z9.1 0)) (.c
  (.int .i64 0)))) (fun z11=>qca z11 (some (.bool true)) (qba (qbb (.bin .lss .num true (.c (nth z9.1 0)) (.c (.int .i64 0)))) (fun z12=>qba (qb0 (nth z9.1 2) 0 1 false)
  (fun z13=>qba (qbb (.bin .lss .num true (.c z13) (.c (.int .i64 0)))) (fun z14=>qba (qbb (.bin .eql .bool false (.c z12) (.c z14))) (fun z15=>some z15))))))) (fun z16
  => qca z16 (qba (some (.tup [nth z9.1 0,.nilI],z9.2)) (fun z17=>some (.inr z17))) (qba (qb0 (nth z9.1 2) 0 1 false) (fun z18=>qba (qbb (.bin .add .num false (.c
  (nth z9.1 0)) (.c z18))) (fun z19=>qba (qbb (.bin .add .num true (.c (nth z9.1 1)) (.c (.int .i64 1)))) (fun z20=>some (.inl ([z19,z20,nth z9.1 2],z9.2)))))))) (qba
  (some (.tup [nth z9.1 0,.nilI],z9.2)) (fun z21=>some (.inr z21))))) ([z8,.int .i64 0,x0],e)))))))))))):=by kernel_rfl
theorem run135 (B:KB) {E:Type} (h:qbf E) (dep:Nat) (e:E) (x0:PV) :
  qfy (qdo B (fun _=>.cl)) fn135 (.cl) h dep [.cv x0] e =
  qbn (qh3 x0) (qba (qb0 x0 0 1 false) (fun z1=>qba (qb0 x0 1 1 false) (fun z2=>qba (qbb (.minmax true [.c z1,.c z2])) (fun z3=>some (.tup [z3,.nilI],e))))):=by kernel_rfl
theorem run136 (B:KB) {E:Type} (h:qbf E) (dep:Nat) (e:E) (x0:PV) :
  qfy (qdo B (fun _=>.cl)) fn136 (.cl) h dep [.cv x0] e =
  qbn (qh3 x0) (qba (qb0 x0 0 1 false) (fun z1=>qba (qb0 x0 1 1 false) (fun z2=>qba (qbb (.minmax false [.c z1,.c z2])) (fun z3=>some (.tup [z3,.nilI],e))))):=by kernel_rfl
theorem run137 (B:KB) {E:Type} (h:qbf E) (dep:Nat) (e:E) (x0:PV) (x1:PV) :
  qfy (qdo B (fun _=>.cl)) fn137 (.cl) h dep [.cv x0,.cv x1] e =
  qbn (qh3 x0) (qba (qb0 x0 0 2 true) (fun z1=>qba (qbb (.load 1 false (.c x1))) (fun z2=>qba (qbj B .cl (.fn 138 []) [z1,z2]) (fun z3=>qba (qbb (.extract 0
  (.c z3))) (fun z4=>qba (qbb (.extract 1 (.c z3))) (fun z5=>some (.tup [z4,z5],e))))))):=by kernel_rfl
theorem Qb5 (B:KB) {E:Type} (h:qbf E) (dep:Nat) (e:E) (x0:PV) (x1:PV) :
  qfy (qdo B (fun _=>.cl)) fn138 (.cl) h dep [.cv x0,.cv x1] e =
  qbn (qh3 x0) (qba (qbb (.bin .eql .str true (.c x1) (.c (.str [226,137,160])))) (fun z1=>qca z1 (qba (qb0 x0 0 1 false) (fun z2=>qba (qb0 x0 1 1 false) (fun z3
  => qba (qbb (.bin .neq .num false (.c z2) (.c z3))) (fun z4=>qba (qbj B .cl (.fn 104 []) [z4]) (fun z5=>some (.tup [z5,.nilI],e)))))) (qba (qbb (.bin .eql .str
  true (.c x1) (.c (.str [226,137,164])))) (fun z6=>qca z6 (qba (qb0 x0 0 1 false) (fun z7=>qba (qb0 x0 1 1 false) (fun z8=>qba (qbb (.bin .eql .num false (.c z7)
  (.c z8))) (fun z9=>qba (qbj B .cl (.fn 104 []) [z9]) (fun z10=>qba (qb0 x0 0 1 false) (fun z11=>qba (qb0 x0 1 1 false) (fun z12=>qba (qbb (.bin .lss .num
  false (.c z11) (.c z12))) (fun z13=>qba (qbj B .cl (.fn 104 []) [z13]) (fun z14=>qba (qbb (.bin .or .num false (.c z10) (.c z14))) (fun z15=>some (.tup [z15,.nilI],
  e))))))))))) (qba (qbb (.bin .eql .str true (.c x1) (.c (.str [60])))) (fun z16=>qca z16 (qba (qb0 x0 0 1 false) (fun z17=>qba (qb0 x0 1 1 false) (fun z18=>qba
  (qbb (.bin .lss .num false (.c z17) (.c z18))) (fun z19=>qba (qbj B .cl (.fn 104 []) [z19]) (fun z20=>qba (qbb (.bin .or .num false (.c (.int .i64 0)) (.c z20))) (fun
  z21=>some (.tup [z21,.nilI],e))))))) (qba (qbb (.bin .eql .str true (.c x1) (.c (.str [61])))) (fun z22=>qca z22 (qca z22 (qba (qb0 x0 0 1 false) (fun z23=>qba
  (qb0 x0 1 1 false) (fun z24=>qba (qbb (.bin .eql .num false (.c z23) (.c z24))) (fun z25=>qba (qbj B .cl (.fn 104 []) [z25]) (fun z26=>qba (qbb (.bin .eql .str
  true (.c x1) (.c (.str [61])))) (fun z27=>qca z27 (some (.tup [z26,.nilI],e)) (qba (qb0 x0 0 1 false) (fun z28=>qba (qb0 x0 1 1 false) (fun z29=>qba (qbb (.bin
  .gtr .num false (.c z28) (.c z29))) (fun z30=>qba (qbj B .cl (.fn 104 []) [z30]) (fun z31=>qba (qbb (.bin .or .num false (.c z26) (.c z31))) (fun z32=>some (.tup
  [z32,.nilI],e))))))))))))) (qba (qbb (.bin .eql .str true (.c x1) (.c (.str [62])))) (fun z33=>qca z33 (qba (qb0 x0 0 1 false) (fun z34=>qba (qb0 x0 1 1 false)
  (fun z35=>qba (qbb (.bin .gtr .num false (.c z34) (.c z35))) (fun z36=>qba (qbj B .cl (.fn 104 []) [z36]) (fun z37=>qba (qbb (.bin .or .num false (.c (.int .i64
  0)) (.c z37))) (fun z38=>some (.tup [z38,.nilI],e))))))) (some (.tup [.int .i64 0,.nilI],e))))) (qba (qbb (.bin .eql .str true (.c x1) (.c (.str [226,137,165])))) (fun
  z39=>qca z39 (qba (qb0 x0 0 1 false) (fun z40=>qba (qb0 x0 1 1 false) (fun z41=>qba (qbb (.bin .eql .num false (.c z40) (.c z41))) (fun z42=>qba (qbj B .cl
  (.fn 104 []) [z42]) (fun z43=>qba (qbb (.bin .eql .str true (.c x1) (.c (.str [61])))) (fun z44=>qca z44 (some (.tup [z43,.nilI],e)) (qba (qb0 x0 0 1 false) (fun z45
  => qba (qb0 x0 1 1 false) (fun z46=>qba (qbb (.bin .gtr .num false (.c z45) (.c z46))) (fun z47=>qba (qbj B .cl (.fn 104 []) [z47]) (fun z48=>qba (qbb (.bin
  .or .num false (.c z43) (.c z48))) (fun z49=>some (.tup [z49,.nilI],e))))))))))))) (qba (qbb (.bin .eql .str true (.c x1) (.c (.str [62])))) (fun z50=>qca z50 (qba
  (qb0 x0 0 1 false) (fun z51=>qba (qb0 x0 1 1 false) (fun z52=>qba (qbb (.bin .gtr .num false (.c z51) (.c z52))) (fun z53=>qba (qbj B .cl (.fn 104 []) [z53]) (fun
  z54=>qba (qbb (.bin .or .num false (.c (.int .i64 0)) (.c z54))) (fun z55=>some (.tup [z55,.nilI],e))))))) (some (.tup [.int .i64 0,.nilI],e)))))))))))))):=by kernel_rfl
theorem run139 (B:KB) {E:Type} (h:qbf E) (dep:Nat) (e:E) (x0:PV) (x1:PV) :
  qfy (qdo B (fun _=>.cl)) fn139 (.cl) h dep [.cv x0,.cv x1] e =
  qbn (qh3 x0) (qba (qb0 x0 0 2 true) (fun z1=>qba (qbb (.load 1 false (.c x1))) (fun z2=>qba (qbj B .cl (.fn 140 []) [z1,z2]) (fun z3=>qba (qbb (.extract 0
  (.c z3))) (fun z4=>qba (qbb (.extract 1 (.c z3))) (fun z5=>some (.tup [z4,z5],e))))))):=by kernel_rfl
theorem run140 (B:KB) {E:Type} (h:qbf E) (dep:Nat) (e:E) (x0:PV) (x1:PV) :
  qfy (qdo B (fun _=>.cl)) fn140 (.cl) h dep [.cv x0,.cv x1] e =
  qbn (qh3 x0) (qba (qb0 x0 0 1 false) (fun z1=>qba (qb0 x0 1 1 false) (fun z2=>qba (qbb (.bin .and .num false (.c z1) (.c z2))) (fun z3=>qba (qbb (.bin .eql
  .str true (.c x1) (.c (.str [226,136,168])))) (fun z4=>qca z4 (qba (qb0 x0 0 1 false) (fun z5=>qba (qb0 x0 1 1 false) (fun z6=>qba (qbb (.bin .or .num false (.c
  z5) (.c z6))) (fun z7=>qba (qbb (.build [.str []] [(0,(1,.c x1))])) (fun z8=>qba (qb0 x0 0 1 false) (fun z9=>qba (qbb (.bin .shr .num true (.c z9) (.c (.int .u64
  1)))) (fun z10=>qba (qbb (.bin .eql .num true (.c z10) (.c (.int .i64 0)))) (fun z11=>qba (qb0 x0 1 1 false) (fun z12=>qba (qbb (.bin .shr .num true (.c z12) (.c
  (.int .u64 1)))) (fun z13=>qba (qbb (.bin .eql .num true (.c z13) (.c (.int .i64 0)))) (fun z14=>qbn (qdf 1 [z11,z14]) (qba (qgw B .cl false 108 [z7,.iface 143 z8,
  slO 1 1 [z11,z14] 0 (qbw [z11,z14])]) (fun z15=>qba (qbb (.extract 0 (.c z15))) (fun z16=>qba (qbb (.extract 1 (.c z15))) (fun z17=>some (.tup [z16,z17],
  e)))))))))))))))) (qba (qbb (.build [.str []] [(0,(1,.c x1))])) (fun z18=>qba (qb0 x0 0 1 false) (fun z19=>qba (qbb (.bin .shr .num true (.c z19) (.c (.int .u64
  1)))) (fun z20=>qba (qbb (.bin .eql .num true (.c z20) (.c (.int .i64 0)))) (fun z21=>qba (qb0 x0 1 1 false) (fun z22=>qba (qbb (.bin .shr .num true (.c z22) (.c
  (.int .u64 1)))) (fun z23=>qba (qbb (.bin .eql .num true (.c z23) (.c (.int .i64 0)))) (fun z24=>qbn (qdf 1 [z21,z24]) (qba (qgw B .cl false 108 [z3,.iface 143
  z18,slO 1 1 [z21,z24] 0 (qbw [z21,z24])]) (fun z25=>qba (qbb (.extract 0 (.c z25))) (fun z26=>qba (qbb (.extract 1 (.c z25))) (fun z27=>some (.tup [z26,z27],
  e)))))))))))))))))):=by kernel_rfl
theorem run170 (B:KB) {E:Type} (h:qbf E) (dep:Nat) (e:E) (x0:PV) (x1:PV) :
  qfy (qdo B (fun _=>.cl)) fn170 (.cl) h dep [.cv x0,.cv x1] e =
  qba (qbb (.bin .and .num true (.c x0) (.c (.int .u64 4294967295)))) (fun z1=>qba (qbb (.bin .shr .num true (.c x0) (.c (.int .u64 32)))) (fun z2=>qba (qbb (.bin
  .and .num true (.c x1) (.c (.int .u64 4294967295)))) (fun z3=>qba (qbb (.bin .shr .num true (.c x1) (.c (.int .u64 32)))) (fun z4=>qba (qbb (.bin .mul .num false (.c
  z1) (.c z3))) (fun z5=>qba (qbb (.bin .mul .num false (.c z2) (.c z3))) (fun z6=>qba (qbb (.bin .shr .num true (.c z5) (.c (.int .u64 32)))) (fun z7=>qba (qbb
  (.bin .add .num false (.c z6) (.c z7))) (fun z8=>qba (qbb (.bin .and .num true (.c z8) (.c (.int .u64 4294967295)))) (fun z9=>qba (qbb (.bin .shr .num true (.c z8) (.c
  (.int .u64 32)))) (fun z10=>qba (qbb (.bin .mul .num false (.c z1) (.c z4))) (fun z11=>qba (qbb (.bin .add .num false (.c z9) (.c z11))) (fun z12=>qba (qbb (.bin
  .mul .num false (.c z2) (.c z4))) (fun z13=>qba (qbb (.bin .add .num false (.c z13) (.c z10))) (fun z14=>qba (qbb (.bin .shr .num true (.c z12) (.c (.int .u64 32))))
  (fun z15=>qba (qbb (.bin .add .num false (.c z14) (.c z15))) (fun z16=>qba (qbb (.bin .mul .num false (.c x0) (.c x1))) (fun z17=>some (.tup [z16,z17],
  e)))))))))))))))))):=by kernel_rfl
theorem run171 (B:KB) {E:Type} (h:qbf E) (dep:Nat) (e:E) (x0:PV) :
  qfy (qdo B (fun _=>.cl)) fn171 (.cl) h dep [.cv x0] e =
  qba (qbb (.bin .lss .num true (.c x0) (.c (.int .i64 0)))) (fun z1=>qca z1 (qba (qbb (.conv .u64 (.c x0))) (fun z2=>qba (qbb (.un .neg (.c z2))) (fun z3=>some
  (z3,e)))) (qba (qbb (.conv .u64 (.c x0))) (fun z4=>some (z4,e)))):=by kernel_rfl
end Go.Ab


namespace Go.Ab.Derive2
open Go Go.Ab
def ps0:List (Nat×Nat):=[(126,124),(146,145),(154,153),(182,143)]
def sp0 (g:FuncId) (σ:Nm→Option Ob) (vs:List PV):Option Out :=
 if g=95 then Qbe ps0 σ vs
 else if g=159 then spIsG [1,2] 265 [143] vs
 else if g=157 then spRepl vs
 else if g=158 then spFmt vs
 else if g=156 then qxm 130 σ vs
 else if g=99 then spStr 130 5 σ vs
 else if g=202 then qxj .u32 σ vs
 else if g=218 then qqy .u32 σ vs
 else if g=216 then qvp .i32 0 1 σ vs
 else if g=217 then qvp .i32 1 0 σ vs
 else none
noncomputable def B0:KB:={sp:=sp0,L:=limCall sp0 qkj,I:=limIo sp0 qkj,isIo:=qju qkj,leans:=qhs qkj}
end Go.Ab.Derive2


namespace Go.Ab.Derive2
open Go Go.Ab
def Qm1 (g:FuncId):Prop:=g≠95∧g≠159∧g≠157∧g≠158∧g≠156∧g≠99∧g≠202∧g≠218∧g≠216∧g≠217
instance (g:FuncId):Decidable (Qm1 g):=by unfold Qm1;infer_instance
theorem qxi {g:FuncId} (h:Qm1 g) (σ:Nm→Option Ob) (vs:List PV):sp0 g σ vs=none:=by
 unfold sp0
 rw[if_neg h.1,if_neg h.2.1,if_neg h.2.2.1,if_neg h.2.2.2.1,if_neg h.2.2.2.2.1,if_neg h.2.2.2.2.2.1,if_neg h.2.2.2.2.2.2.1,if_neg h.2.2.2.2.2.2.2.1,if_neg h.2.2.2.2.2.2.2.2.1,if_neg h.2.2.2.2.2.2.2.2.2]
theorem sp_here (g:FuncId):qwg (sp0 g):=by
 intro σ σ' vs h
 unfold sp0
 split
 ·exact as_here ps0 σ σ' vs h
 split
 ·rfl
 split
 ·rfl
 split
 ·rfl
 split
 ·exact check_here 130 σ σ' vs h
 split
 ·exact str_here 130 5 σ σ' vs h
 split
 ·exact load_here .u32 σ σ' vs h
 split
 ·exact store_here .u32 σ σ' vs h
 split
 ·exact Qgl .i32 0 1 σ σ' vs h
 split
 ·exact Qgl .i32 1 0 σ σ' vs h
 rfl
theorem Ql4:∀ g,(iof0 g).isSome=qju qkj g:=by
 intro g
 unfold iof0 qju
 split
 ·rfl
 ·rfl
 ·rfl
 ·rfl
 ·rfl
 ·rfl
 ·rfl
 ·rfl
 ·rfl
 ·rfl
 ·rfl
 ·rfl
 ·rfl
 ·rfl
 ·rfl
 ·rfl
 ·rfl
 ·rename_i h0 h1 h2 h3 h4 h5 h6 h7 h8 h9 h10 h11 h12 h13 h14 h15 h16
  split
  ·rename_i fn ht
   unfold qkj at ht
   split at ht
   all_goals first | (exact (h0 rfl).elim) | (exact (h1 rfl).elim) | (exact (h2 rfl).elim) | (exact (h3 rfl).elim) | (exact (h4 rfl).elim) | (exact (h5 rfl).elim) | (exact (h6 rfl).elim) | (exact (h7 rfl).elim) | (exact (h8 rfl).elim) | (exact (h9 rfl).elim) | (exact (h10 rfl).elim) | (exact (h11 rfl).elim) | (exact (h12 rfl).elim) | (exact (h13 rfl).elim) | (exact (h14 rfl).elim) | (exact (h15 rfl).elim) | (exact (h16 rfl).elim) | (cases ht;done) | (cases ht;rfl)
  ·rfl
theorem qd0 (d:Nat→RSh):qll (qdo B0 d) qkj where
 L:=rfl
 I:=rfl
 isIo:=rfl
 leans:=rfl
 flat g h:=by simp only[qdo,Bool.or_eq_true,beq_iff_eq] at h;rcases h with rfl | rfl<;>kernel_rfl
 ioF g:=Ql4 g
 ioP g P h:=by
  simp only[qdo,iof0] at h
  split at h
  ·cases h;exact⟨fn48,rfl,by decide,fun xs os=>by show (Qk1 xs os).args.length≤_∧(Qk1 xs os).ins.length≤_;unfold Qk1;split<;>exact⟨Nat.le_of_ble_eq_true rfl,Nat.le_of_ble_eq_true rfl⟩⟩
  ·cases h;exact⟨fn49,rfl,by decide,fun xs os=>⟨Nat.le_of_ble_eq_true rfl,Nat.le_of_ble_eq_true rfl⟩⟩
  ·cases h;exact⟨fn84,rfl,by decide,fun xs os=>⟨Nat.le_of_ble_eq_true rfl,Nat.le_of_ble_eq_true rfl⟩⟩
  ·cases h;exact⟨fn85,rfl,by decide,fun xs os=>⟨Nat.le_of_ble_eq_true rfl,Nat.le_of_ble_eq_true rfl⟩⟩
  ·cases h;exact⟨fn86,rfl,by decide,fun xs os=>by show (shs86 xs os).args.length≤_∧(shs86 xs os).ins.length≤_;unfold shs86;split<;>exact⟨Nat.le_of_ble_eq_true rfl,Nat.le_of_ble_eq_true rfl⟩⟩
  ·cases h;exact⟨fn88,rfl,by decide,fun xs os=>⟨Nat.le_of_ble_eq_true rfl,Nat.le_of_ble_eq_true rfl⟩⟩
  ·cases h;exact⟨fn89,rfl,by decide,fun xs os=>⟨Nat.le_of_ble_eq_true rfl,Nat.le_of_ble_eq_true rfl⟩⟩
  ·cases h;exact⟨fn96,rfl,by decide,fun xs os=>⟨Nat.le_of_ble_eq_true rfl,Nat.le_of_ble_eq_true rfl⟩⟩
  ·cases h;exact⟨fn148,rfl,by decide,fun xs os=>⟨Nat.le_of_ble_eq_true rfl,Nat.le_of_ble_eq_true rfl⟩⟩
  ·cases h;exact⟨fn166,rfl,by decide,fun xs os=>⟨Nat.le_of_ble_eq_true rfl,Nat.le_of_ble_eq_true rfl⟩⟩
  ·cases h;exact⟨fn176,rfl,by decide,fun xs os=>⟨Nat.le_of_ble_eq_true rfl,Nat.le_of_ble_eq_true rfl⟩⟩
  ·cases h;exact⟨fn177,rfl,by decide,fun xs os=>⟨Nat.le_of_ble_eq_true rfl,Nat.le_of_ble_eq_true rfl⟩⟩
  ·cases h;exact⟨fn191,rfl,by decide,fun xs os=>⟨Nat.le_of_ble_eq_true rfl,Nat.le_of_ble_eq_true rfl⟩⟩
  ·cases h;exact⟨fn192,rfl,by decide,fun xs os=>⟨Nat.le_of_ble_eq_true rfl,Nat.le_of_ble_eq_true rfl⟩⟩
  ·cases h;exact⟨fn203,rfl,by decide,fun xs os=>⟨Nat.le_of_ble_eq_true rfl,Nat.le_of_ble_eq_true rfl⟩⟩
  ·cases h;exact⟨fn204,rfl,by decide,fun xs os=>⟨Nat.le_of_ble_eq_true rfl,Nat.le_of_ble_eq_true rfl⟩⟩
  ·cases h;exact⟨fn205,rfl,by decide,fun xs os=>⟨Nat.le_of_ble_eq_true rfl,Nat.le_of_ble_eq_true rfl⟩⟩
  ·cases h
 spF g h σ vs:=by
  simp only[qdo,Bool.or_eq_false_iff,beq_eq_false_iff_ne] at h
  obtain⟨⟨⟨⟨⟨⟨⟨⟨⟨h0,h1⟩,h2⟩,h3⟩,h4⟩,h5⟩,h6⟩,h7⟩,h8⟩,h9⟩:=h
  exact qxi ⟨h0,h1,h2,h3,h4,h5,h6,h7,h8,h9⟩ σ vs
 loc g σ vs hv:=cfg_loc sp_here g σ vs hv
 spK g s h σ xs out hx hσ hs:=by
  simp only[qdo] at h
  split at h
  ·rename_i hg;subst hg;cases h;exact kLoad_ok hs
  split at h
  ·rename_i hg;subst hg;cases h;exact kStore_ok hσ hs
  split at h
  ·rename_i hg;subst hg;cases h;exact Qn9 hσ hs
  split at h
  ·rename_i hg;subst hg;cases h;exact Qn9 hσ hs
  cases h
 asOk g p t n h σ nm ty cs h1 h2:=by
  have e:∀ σ vs,sp0 95 σ vs=Qbe ps0 σ vs:=fun _ _=>rfl
  simp only[qdo] at h
  split at h
  ·rename_i hc
   obtain⟨rfl,rfl⟩:=hc
   cases h
   exact Qp8 (ps:=ps0) (p:=126) (t:=124) rfl h1 h2
  split at h
  ·rename_i hc
   obtain⟨rfl,rfl⟩:=hc
   cases h
   exact Qp8 (ps:=ps0) (p:=146) (t:=145) rfl h1 h2
  split at h
  ·rename_i hc
   obtain⟨rfl,rfl⟩:=hc
   cases h
   exact Qp8 (ps:=ps0) (p:=154) (t:=153) rfl h1 h2
  split at h
  ·rename_i hc
   obtain⟨rfl,rfl⟩:=hc
   cases h
   exact Qp8 (ps:=ps0) (p:=182) (t:=143) rfl h1 h2
  cases h
theorem call {d:Nat→RSh} {g:FuncId} {fn:RFn} {sh:RSh} {args:List PV} {u:PV} (ht:qkj g=some fn) (hg:Qm1 g) (ha:qb1 args=true) (hl:Nat.ble args.length fn.nt=true)
  (hr:qfy (qdo B0 d) fn sh qbc 0 (args.map KV.cv) ()=some (u,())) (hio:fn.io=false:=by rfl) (hb:Nat.blt g qf9=true:=by rfl):qbj B0 sh (.fn g []) args=some u:=by
 refine qz1 (qd0 d) ht (cap:=[]) (by simpa using ha) (by simpa using Nat.le_of_ble_eq_true hl) (qxi hg (fun _=>none) _) ?_ hio hb
 simpa using hr
theorem callK {d:Nat→RSh} {g:FuncId} {fn:RFn} {sh:RSh} {args:List PV} {xs:List KV} {u:PV} (ht:qkj g=some fn) (hg:Qm1 g) (hx:qf7 xs) (hun:∀ x∈xs,qpe x=false) (hpv:pvL xs=args) (hl:Nat.ble xs.length fn.nt=true)
  (hr:qfy (qdo B0 d) fn sh qbc 0 xs ()=some (u,())) (hio:fn.io=false:=by rfl) (hb:Nat.blt g qf9=true:=by rfl):qbj B0 sh (.fn g []) args=some u :=
 Qkf (qd0 d) ht hx hun hpv (Nat.le_of_ble_eq_true hl) (qxi hg (fun _=>none) _) hr hio hb
theorem qps {g:FuncId} {n:Nat} {args:List PV} {u:PV} (hg:Qm1 g) (h:qcw sp0 qkj n Unit qbc 0 g args ()=some (u,[],())) (hu:okV u=true) (hio:qju qkj g=false) (hb:Nat.blt g qf9=true:=by rfl):qbj B0 .cl (.fn g []) args=some u:=by
 have hid:qfk g=g:=by simp[qfk,hb]
 have hfa:qce g args []=args:=by simp[qce,hb]
 obtain⟨e2,_,h2⟩:=qvd n Unit Unit (fun _ _=>True) qbc (fun _=>qbc) (fun _ _ _ _ _ _ _ h=>by cases h) 0 g args () () trivial _ _ _ h
 have hL:B0.L Unit qbc 0 g args ()=some (u,[],()):=qyh h2
 have hI:B0.isIo g=false:=hio
 have hs:B0.sp g (fun _=>none) args=none:=qxi hg _ _
 unfold qbj
 simp[hid,hfa,spO,hs,hI,hL,qmx,qh1,hu,qbn]
end Go.Ab.Derive2


namespace Go.Ab.Derive2
open Go Go.Ab
theorem w64 {n:Int} (h1 : -9223372036854775808≤n) (h2:n≤9223372036854775807):IntKind.i64.wrap n=n:=IntWalk.i64_in _ ⟨h1,h2⟩
def I (n:Int):PV:=.int .i64 n
def qd3 (l:List Int):List PV:=l.map I
theorem qfo (l:List Int):(qd3 l).length=l.length:=by simp[qd3]
theorem ints_get {l:List Int} {i:Nat} (h:i < l.length):(qd3 l)[i]?=some (I l[i]):=by simp[qd3,h]
theorem qyz (l:List Int) (k:Nat):(qd3 l).take k=qd3 (l.take k):=by simp[qd3,List.map_take]
theorem ints_app (l m:List Int):qd3 l++qd3 m=qd3 (l++m):=by simp[qd3]
theorem qsb (l:List Int):qb1 (qd3 l)=true:=by
 induction l with
 | nil=>rfl
 | cons a l ih=>simpa[qd3,qb1,okV,I] using ih
inductive IsL:PV→List Int→Prop
 | nil:IsL .nilS []
 | sl (l:List Int) (f:Bool):IsL (.sl 1 (qd3 l) f) l
theorem IsL.ok {v:PV} {l:List Int} (h:IsL v l):okV v=true:=by
 cases h with
 | nil=>rfl
 | sl f=>simp[okV,qsb]
theorem IsL.cells {v:PV} {l:List Int} (h:IsL v l):v.cells=[v]:=by cases h<;>rfl
theorem IsL.val {v:PV} {l:List Int} (h:IsL v l):v.isVal=true:=by cases h<;>rfl
theorem IsL.cell {v:PV} {l:List Int} (h:IsL v l):v.isCell=true:=by cases h<;>rfl
theorem IsL.und {v:PV} {l:List Int} (h:IsL v l):qg7 v=false:=by cases h<;>rfl
theorem IsL.len {v:PV} {l:List Int} (h:IsL v l):qbb (.len .slice (.c v))=some (I l.length):=by
 cases h with
 | nil=>rfl
 | sl f=>rw[qk2,qfo];rfl
theorem IsL.idx {v:PV} {l:List Int} (h:IsL v l) {i:Nat} (hi:i < l.length):qbb (.idxAddr 1 (.c v) (.c (I i)))=some (.ptr [I l[i]] 0):=by
 cases h with
 | nil=>simp at hi
 | sl f=>exact Qg4 (by omega) (ints_get hi)
theorem IsL.elems {v:PV} {l:List Int} (h:IsL v l):qwa 1 v=some (qd3 l):=by
 cases h with
 | nil=>rfl
 | sl f=>simp[qwa,Go.Ab.elems,chk]
theorem IsL.hi {v:PV} {l:List Int} (h:IsL v l) {k:Nat} (hk:k≤l.length):∃ u,qbb (.slice 1 (.c v) none (some (.c (I k))) none)=some u∧IsL u (l.take k):=by
 cases h with
 | nil =>
  have:k=0:=by simpa using hk
  subst this
  exact⟨.nilS,by simp[qbb,exec,RX.ev,evO,qlg,qns,chk,I,qh6],.nil⟩
 | sl _ f =>
  have hk':k≤(qd3 l).length:=by rw[qfo];exact hk
  refine⟨.sl 1 (qd3 (l.take k)) (f&&k==(qd3 l).length),?_,.sl _ _⟩
  simp[qbb,exec,RX.ev,evO,qlg,qns,chk,I,hk',qyz,qh6]
@[simp] theorem Qcn (n:Int):qbb (.load 1 false (.c (.ptr [I n] 0)))=some (I n):=rfl
@[simp] theorem qg1 {c:TC} {b:Bool} (a n:Int):qbb (.bin .lss c b (.c (I a)) (.c (I n)))=some (.bool (decide (a < n))):=pure_lss a n
@[simp] theorem qpv {c:TC} {b:Bool} (a n:Int):qbb (.bin .eql c b (.c (I a)) (.c (I n)))=some (.bool (a==n)):=Qnp a n
@[simp] theorem qwr {c:TC} {b:Bool} (a n:Int):qbb (.bin .neq c b (.c (I a)) (.c (I n)))=some (.bool (a != n)):=Qnn a n
@[simp] theorem Qbp {c:TC} {b:Bool} (a n:Int):qbb (.bin .add c b (.c (I a)) (.c (I n)))=some (I (IntKind.i64.wrap (a+n))):=qr8 a n
@[simp] theorem Qks {c:TC} {b:Bool} (a n:Int):qbb (.bin .sub c b (.c (I a)) (.c (I n)))=some (I (IntKind.i64.wrap (a - n))):=pure_sub a n
@[simp] theorem I_geq {c:TC} {b:Bool} (a n:Int):qbb (.bin .geq c b (.c (I a)) (.c (I n)))=some (.bool (decide (n≤a))):=pure_geq a n
@[simp] theorem I_leq {c:TC} {b:Bool} (a n:Int):qbb (.bin .leq c b (.c (I a)) (.c (I n)))=some (.bool (decide (a≤n))):=Qno a n
@[simp] theorem Qm3 {c:TC} {b:Bool} (a n:Int):qbb (.bin .gtr c b (.c (I a)) (.c (I n)))=some (.bool (decide (n < a))):=pure_gtr a n
theorem qgq (n:Int):PV.int .i64 n=I n:=rfl
@[simp] theorem okV_I (n:Int):okV (I n)=true:=rfl
@[simp] theorem cells_I (n:Int):(I n).cells=[I n]:=rfl
@[simp] theorem isUndef_I (n:Int):qg7 (I n)=false:=rfl
@[simp] theorem isVal_I (n:Int):(I n).isVal=true:=rfl
@[simp] theorem isCell_I (n:Int):(I n).isCell=true:=rfl
@[simp] theorem qse (n:Int):qb7 (I n)=n.toNat:=rfl
theorem Qbc {i:Nat} (h:i < 9223372036854775807):IntKind.i64.wrap ((i:Int)+1)=((i+1:Nat):Int):=by rw[w64 (by omega) (by omega)];omega
structure Arr where
 li:Bool
 ru:Bool
 n:List Int
inductive IsA:PV→Arr→Prop
 | mk (li ru:Bool) (x:PV) (l:List Int) (h:IsL x l):IsA (.agg [.bool li,.bool ru,x]) ⟨li,ru,l⟩
theorem IsA.ok {v:PV} {a:Arr} (h:IsA v a):okV v=true:=by
 obtain⟨li,ru,x,l,h⟩:=h
 simp[okV,qb1,h.ok]
theorem IsA.get {v:PV} {a:Arr} (h:IsA v a):∃ x,v=.agg [.bool a.li,.bool a.ru,x]∧IsL x a.n:=by
 obtain⟨li,ru,x,l,h⟩:=h
 exact⟨x,rfl,h⟩
def qf2:Arr:=⟨false,false,[]⟩
theorem qc2:IsA (.agg [.bool false,.bool false,.nilS]) qf2:=.mk _ _ _ _ .nil
@[simp] theorem qhm (cs:List PV):qh3 (.agg cs)=(PV.agg cs).isVal:=rfl
theorem Qbu {a b c:PV} (ha:a.isCell=true) (hb:b.isCell=true) (hc:c.isCell=true):(PV.agg [a,b,c]).isVal=true:=by simp[PV.isVal,ha,hb,hc]
theorem qn1 (a b c:PV):sel [a,b,c] 0 1 false=some a:=rfl
theorem qn0 (a b c:PV):sel [a,b,c] 1 1 false=some b:=rfl
theorem qmb (a b c:PV):sel [a,b,c] 2 1 false=some c:=rfl
theorem qvs (a b c:PV):sel [a,b,c] 0 3 true=some (.agg [a,b,c]):=rfl
theorem qwx {a b c:PV} (h:(PV.agg [a,b,c]).isVal=true):qbi (.agg [a,b,c]) 3=true:=by simp[qbi,h]
@[simp] theorem qlw (a b c:PV):qbd (.agg [a,b,c]) 0=a:=rfl
@[simp] theorem qlv (a b c:PV):qbd (.agg [a,b,c]) 1=b:=rfl
@[simp] theorem qjl (a b c:PV):qbd (.agg [a,b,c]) 2=c:=rfl
theorem min_run {n:Nat} (k:Nat) (c:Int) (hc:c=k):qbb (.minmax false [.c (I n),.c (.int .i64 c)])=some (I (min n k:Nat)):=by
 subst hc
 simp only[qbb,exec,List.map_cons,List.map_nil,RX.ev,qv5,I]
 by_cases h:n≤k
 ·have:¬ (k:Int) < (n:Int):=by omega
  simp[this,Nat.min_eq_left h,chk]
 ·have:(k:Int) < (n:Int):=by omega
  simp[this,Nat.min_eq_right (by omega:k≤n),chk]
def rune (n:Int):Bool:=decide (0≤n)&&(decide (n≤1114111)&&(decide (n < 55296)||decide (57343 < n)))
theorem rune_run (n:Int):qbj B0 .cl (.fn 54 []) [I n]=some (.bool (rune n)):=by
 refine call (d:=fun _=>.cl) rfl (by decide) rfl rfl ?_
 rw[List.map_cons,List.map_nil,run54]
 simp only[qgq,I_geq,I_leq,qg1,Qm3,qbg,qbh]
 unfold rune
 by_cases h1:0≤n<;>by_cases h2:n≤1114111<;>by_cases h3:n < 55296<;>simp[h1,h2,h3]
theorem other_run (n:Int):qbj B0 .cl (.fn 53 []) [I n]=some (.bool (!rune n)):=by
 refine call (d:=fun _=>.cl) rfl (by decide) rfl rfl ?_
 rw[List.map_cons,List.map_nil,run53,rune_run]
 simp
def idxP (p:Int→Bool) (i:Nat):List Int→Int
 | [] => -1
 | x :: l=>if p x then (i:Int) else idxP p (i+1) l
theorem idxP_any (p:Int→Bool):∀ (l:List Int) (i:Nat),decide (0≤idxP p i l)=l.any p:=by
 intro l
 induction l with
 | nil=>intro i;rfl
 | cons x l ih =>
  intro i
  simp only[idxP,List.any_cons]
  by_cases hx:p x=true
  ·simp[hx]
  ·have:=ih (i+1)
   simp only[hx,Bool.false_eq_true,if_false,this]
   simp[hx]
theorem qpo {α:Type} {l:List α} {i:Nat} (h:i < l.length):l.drop i=l[i] :: l.drop (i+1):=by rw[List.drop_eq_getElem_cons h]
theorem index_run {v f:PV} {l:List Int} {p:Int→Bool} (hv:IsL v l) (hl:l.length≤1000000) (hf:okV f=true) (hu:qg7 f=false) (hp:∀ n∈l,qbj B0 .cl f [I n]=some (.bool (p n))) :
  qbj B0 .cl (.fn 91 []) [v,f]=some (I (idxP p 0 l)):=by
 refine call (d:=fun _=>.cl) rfl (by decide) (by simp[qb1,hv.ok,hf]) rfl ?_
 rw[List.map_cons,List.map_cons,List.map_nil,run91,hv.len]
 simp only[qbg]
 have h0:qci [v,f,I l.length,.int .i64 0]=true:=by simp[qci,hv.und,hu,qgq]
 rw[h0,qbk]
 have key:∀ m i,i+m=l.length→qgc (fun z2=>qba (qbb (.bin .lss .num false (.c (nth z2.1 3)) (.c (nth z2.1 2)))) (fun z3=>qca z3 (qba (qbb (.idxAddr 1 (.c (nth z2.1 0)) (.c (nth z2.1 3)))) (fun z4=>qba (qbb (.load 1 false (.c z4))) (fun z5=>qba (qbj B0 .cl (nth z2.1 1) [z5]) (fun z6=>qca z6 (qba (some (nth z2.1 3,z2.2)) (fun z7=>some (.inr z7))) (qba (qbb (.bin .add .num true (.c (nth z2.1 3)) (.c (.int .i64 1)))) (fun z8=>some (.inl ([nth z2.1 0,nth z2.1 1,nth z2.1 2,z8],z2.2)))))))) (qba (some (.int .i64 (-1),z2.2)) (fun z9=>some (.inr z9))))) (([v,f,I l.length,I i],()):List PV×Unit)=some (I (idxP p i (l.drop i)),()):=by
  intro m
  induction m with
  | zero =>
   intro i hi
   refine qcr ?_
   have:i=l.length:=by omega
   subst this
   simp[idxP];rfl
  | succ m ih =>
   intro i hi
   have hlt:i < l.length:=by omega
   rw[qpo hlt]
   by_cases hpx:p l[i]=true
   ·refine qcr ?_
    simp only[qfb,qfa,qfj,qgk,qg1,qbg,qbh]
    rw[if_pos (by simpa using hlt),hv.idx hlt]
    simp[hp _ (List.getElem_mem hlt),hpx,idxP]
   ·rw[qf8 (s':=([v,f,I l.length,I ((i+1:Nat):Int)],()))]
    ·rw[ih (i+1) (by omega)]
     simp[idxP,hpx]
    ·simp only[qfb,qfa,qfj,qgk,qg1,qbg,qbh]
     rw[if_pos (by simpa using hlt),hv.idx hlt]
     simp[hp _ (List.getElem_mem hlt),hpx,qgq,Qbc (by omega:i < 9223372036854775807)]
 have:=key l.length 0 (by omega)
 simpa[qgq] using this
theorem any_run {v f:PV} {l:List Int} {p:Int→Bool} (hv:IsL v l) (hl:l.length≤1000000) (hf:okV f=true) (hu:qg7 f=false) (hp:∀ n∈l,qbj B0 .cl f [I n]=some (.bool (p n))) :
  qbj B0 .cl (.fn 55 []) [v,f]=some (.bool (l.any p)):=by
 refine call (d:=fun _=>.cl) rfl (by decide) (by simp[qb1,hv.ok,hf]) rfl ?_
 rw[List.map_cons,List.map_cons,List.map_nil,run55,index_run hv hl hf hu hp]
 simp only[qbg,qgq,I_geq,idxP_any]
def Arr.right (a:Arr):Bool:=!(a.ru&&a.n.any fun n=>!rune n)&&(if a.li then decide (a.n.length≤200) else decide (a.n.length=1))
theorem qkz {v:PV} {a:Arr} (h:IsA v a) (hl:a.n.length≤1000000):qbj B0 .cl (.fn 27 []) [v]=some (.bool a.right):=by
 obtain⟨x,rfl,hx⟩:=h.get
 refine call (d:=fun _=>.cl) rfl (by decide) (by simp[qb1,h.ok]) rfl ?_
 rw[List.map_cons,List.map_nil,run27,qhm,Qbu rfl rfl hx.cell,qbk]
 have ha:=any_run (f:=.fn 53 []) (p:=fun n=>!rune n) hx hl rfl rfl fun n _=>other_run n
 simp only[qh7,qco,qn1,qn0,qmb,qbg,hx.len,ha,qbh,qgq,I_leq,qpv]
 unfold Arr.right
 have e1:decide ((a.n.length:Int)≤200)=decide (a.n.length≤200):=by
  by_cases h:a.n.length≤200
  ·simp[h];omega
  ·have:¬ (a.n.length:Int)≤200:=by omega
   simp[h,this]
 have e2:((a.n.length:Int)==1)=decide (a.n.length=1):=by
  by_cases h:a.n.length=1
  ·simp[h]
  ·have:¬ (a.n.length:Int)=1:=by omega
   simp[h,this]
 rw[e1,e2]
 cases a.ru<;>cases a.li<;>cases a.n.any (fun n=>!rune n)<;>simp
def eqL:List Int→List Int→Bool
 | [],[]=>true
 | x :: xs,y :: ys=>x==y&&eqL xs ys
 | _,_=>false
theorem eqL_iff:∀ (a b:List Int),eqL a b=true↔a=b:=by
 intro a
 induction a with
 | nil=>intro b;cases b<;>simp[eqL]
 | cons x a ih=>intro b;cases b<;>simp[eqL,ih]
theorem equal_run {v u:PV} {l m:List Int} (hv:IsL v l) (hu:IsL u m) (hl:l.length≤1000000) (hm:m.length≤1000000):qbj B0 .cl (.fn 52 []) [v,u]=some (.bool (eqL l m)):=by
 refine call (d:=fun _=>.cl) rfl (by decide) (by simp[qb1,hv.ok,hu.ok]) rfl ?_
 rw[List.map_cons,List.map_cons,List.map_nil,run52,hv.len,hu.len]
 simp only[qbg,qwr,qbh]
 by_cases hlm:l.length=m.length
 ·have h1:(((l.length:Int) != (m.length:Int))=true)↔False:=by simp[hlm]
  simp only[h1,if_false]
  have h0:qci [v,u,I l.length,.int .i64 0]=true:=by simp[qci,hv.und,hu.und,qgq]
  rw[h0,qbk]
  have key:∀ k i,i+k=l.length→qgc (fun z5=>qba (qbb (.bin .lss .num false (.c (nth z5.1 3)) (.c (nth z5.1 2)))) (fun z6=>qca z6 (qba (qbb (.idxAddr 1 (.c (nth z5.1 0)) (.c (nth z5.1 3)))) (fun z7=>qba (qbb (.load 1 false (.c z7))) (fun z8=>qba (qbb (.idxAddr 1 (.c (nth z5.1 1)) (.c (nth z5.1 3)))) (fun z9=>qba (qbb (.load 1 false (.c z9))) (fun z10=>qba (qbb (.bin .neq .num false (.c z8) (.c z10))) (fun z11=>qca z11 (qba (some (PV.bool false,z5.2)) (fun z12=>some (.inr z12))) (qba (qbb (.bin .add .num true (.c (nth z5.1 3)) (.c (.int .i64 1)))) (fun z13=>some (.inl ([nth z5.1 0,nth z5.1 1,nth z5.1 2,z13],z5.2)))))))))) (qba (some (PV.bool true,z5.2)) (fun z14=>some (.inr z14))))) (([v,u,I l.length,I i],()):List PV×Unit)=some (.bool (eqL (l.drop i) (m.drop i)),()):=by
   intro k
   induction k with
   | zero =>
    intro i hi
    refine qcr ?_
    have h2:l.drop i=[]:=List.drop_eq_nil_of_le (by omega)
    have h3:m.drop i=[]:=List.drop_eq_nil_of_le (by omega)
    have:¬ (i < l.length):=by omega
    simp[h2,h3,eqL,this]
   | succ k ih =>
    intro i hi
    have hlt:i < l.length:=by omega
    have hlt':i < m.length:=by omega
    rw[qpo hlt,qpo hlt']
    by_cases hx:l[i]=m[i]
    ·rw[qf8 (s':=([v,u,I l.length,I ((i+1:Nat):Int)],()))]
     ·rw[ih (i+1) (by omega)]
      simp[eqL,hx]
     ·simp only[qfb,qfa,qfj,qgk,qg1,qbg,qbh]
      rw[if_pos (by simpa using hlt),hv.idx hlt,hu.idx hlt']
      simp[hx,qgq,Qbc (by omega:i < 9223372036854775807)]
    ·refine qcr ?_
     simp only[qfb,qfa,qfj,qgk,qg1,qbg,qbh]
     rw[if_pos (by simpa using hlt),hv.idx hlt,hu.idx hlt']
     simp[hx,eqL]
  have:=key l.length 0 (by omega)
  simpa[qgq] using this
 ·have:¬ (l.length:Int)=(m.length:Int):=by omega
  have h2:eqL l m=false:=by
   cases he:eqL l m with
   | false=>rfl
   | true=>exact absurd (congrArg List.length ((eqL_iff l m).1 he)) hlm
  simp[this,h2]
def Arr.same (a b:Arr):Bool:=a.li==b.li&&(a.ru==b.ru&&eqL a.n b.n)
theorem same_run {v u:PV} {a b:Arr} (hv:IsA v a) (hu:IsA u b) (ha:a.n.length≤1000000) (hb:b.n.length≤1000000):qbj B0 .cl (.fn 26 []) [v,u]=some (.bool (a.same b)):=by
 obtain⟨x,rfl,hx⟩:=hv.get
 obtain⟨y,rfl,hy⟩:=hu.get
 refine call (d:=fun _=>.cl) rfl (by decide) (by simp[qb1,hv.ok,hu.ok]) rfl ?_
 rw[List.map_cons,List.map_cons,List.map_nil,run26,qhm,qhm,Qbu rfl rfl hx.cell,Qbu rfl rfl hy.cell,qbk,qbk]
 simp only[qh7,qco,qn1,qn0,qmb,qbg,qr7,qbh,equal_run hx hy ha hb]
 unfold Arr.same
 cases (a.li==b.li)<;>cases (a.ru==b.ru)<;>simp
end Go.Ab.Derive2


namespace Go.Ab.Derive2
open Go Go.Ab
theorem lendN {g:FuncId} {fn:RFn} {fr:Bool} {args:List PV} {u:PV} {d:Nat→RSh} (ht:qkj g=some fn) (ha:qb1 args=true) (hl:Nat.ble args.length fn.nt=true)
  (hr:qfy (qdo B0 d) fn .cl qbc 0 (args.map KV.cv) ()=some (u,())) (hfr:(u.free&&!qhs qkj g)=fr):qgw B0 .cl fr g args=some u :=
 qyi (qd0 d) ht ha (Nat.le_of_ble_eq_true hl) hr hfr
inductive NE where
 | ok | over | div
 | dom (g:List UInt8)
def NE.pv:NE→PV
 | .ok=>.nilI
 | .over=>.glob 1 265
 | .div=>.glob 2 265
 | .dom g=>.iface 143 (.agg [.str g])
def NE.no:NE→Int
 | .ok=>0
 | .over=>100
 | .div=>101
 | .dom _=>102
theorem NE.okV (e:NE):okV e.pv=true:=by cases e<;>rfl
theorem NE.und (e:NE):qg7 e.pv=false:=by cases e<;>rfl
theorem is_over (e:NE):qbj B0 .cl (.fn 159 []) [e.pv,.glob 1 265]=some (.bool (match e with | .over=>true | _=>false)):=by
 refine Qdf (qd0 fun _=>.cl) ?_ rfl
 cases e<;>rfl
theorem is_div (e:NE):qbj B0 .cl (.fn 159 []) [e.pv,.glob 2 265]=some (.bool (match e with | .div=>true | _=>false)):=by
 refine Qdf (qd0 fun _=>.cl) ?_ rfl
 cases e<;>rfl
theorem qsc (e:NE):qbj B0 .cl (.fn 110 []) [e.pv]=some (I e.no):=by
 refine call (d:=fun _=>.cl) rfl (by decide) (by simp[qb1,NE.okV]) rfl ?_
 rw[List.map_cons,List.map_nil,run110]
 simp only[show qbb (.load 1 false (.c (.ptr [.glob 1 265] 0)))=some (.glob 1 265) from rfl,show qbb (.load 1 false (.c (.ptr [.glob 2 265] 0)))=some (.glob 2 265) from rfl,qbg,is_over,is_div,qbh]
 cases e<;>rfl
def qna (r:Int×NE):PV:=.tup [I r.1,r.2.pv]
def chk1 (b:Bool) (n:Int) (e:NE):Int×NE:=if b then (n,.ok) else (0,e)
theorem qkb (r:Int×NE):qbb (.extract 0 (.c (qna r)))=some (I r.1):=rfl
theorem qka (r:Int×NE):qbb (.extract 1 (.c (qna r)))=some r.2.pv:=rfl
theorem must1 (n:Int) (e:NE) (b:Bool):qgw B0 .cl false 108 [I n,e.pv,.sl 1 [.bool b] false]=some (qna (chk1 b n e)):=by
 refine lendN (d:=fun _=>.cl) rfl (by simp[qb1,NE.okV,okV]) rfl ?_ (by rw[show qhs qkj 108=true from rfl,Bool.not_true,Bool.and_false])
 rw[List.map_cons,List.map_cons,List.map_cons,List.map_nil,run108,qk2]
 simp only[qbg]
 rw[show qci [I n,e.pv,.sl 1 [.bool b] false,.int .i64 (([PV.bool b].length:Nat):Int),.int .i64 0]=true by simp only[qci,List.all_cons,NE.und];rfl,qbk]
 cases b with
 | false=>exact qcr rfl
 | true =>
  rw[qf8 (s':=([I n,e.pv,.sl 1 [.bool true] false,I 1,I 1],()))]
  ·exact qcr rfl
  ·rfl
theorem must2 (n:Int) (e:NE) (b c:Bool):qgw B0 .cl false 108 [I n,e.pv,.sl 1 [.bool b,.bool c] false]=some (qna (chk1 (b&&c) n e)):=by
 refine lendN (d:=fun _=>.cl) rfl (by simp[qb1,NE.okV,okV]) rfl ?_ (by rw[show qhs qkj 108=true from rfl,Bool.not_true,Bool.and_false])
 rw[List.map_cons,List.map_cons,List.map_cons,List.map_nil,run108,qk2]
 simp only[qbg]
 rw[show qci [I n,e.pv,.sl 1 [.bool b,.bool c] false,.int .i64 (([PV.bool b,.bool c].length:Nat):Int),.int .i64 0]=true by simp only[qci,List.all_cons,NE.und];rfl,qbk]
 cases b with
 | false=>exact qcr rfl
 | true =>
  rw[qf8 (s':=([I n,e.pv,.sl 1 [.bool true,.bool c] false,I 2,I 1],()))]
  ·cases c with
   | false=>exact qcr rfl
   | true =>
    rw[qf8 (s':=([I n,e.pv,.sl 1 [.bool true,.bool true] false,I 2,I 2],()))]
    ·exact qcr rfl
    ·rfl
  ·rfl
def two (x y:Int):PV:=.agg [I x,I y]
def i64 (n:Int):Int:=IntKind.i64.wrap n
theorem qgu (x y:Int):qh3 (two x y)=true:=rfl
theorem qqh (x y:Int):qb0 (two x y) 0 1 false=some (I x):=rfl
theorem qrt (x y:Int):qb0 (two x y) 1 1 false=some (I y):=rfl
theorem two_a (x y:Int):qb0 (two x y) 0 2 true=some (two x y):=rfl
theorem qn9:qbb (.load 1 false (.c (.ptr [.glob 1 265] 0)))=some NE.over.pv:=rfl
theorem load_div:qbb (.load 1 false (.c (.ptr [.glob 2 265] 0)))=some NE.div.pv:=rfl
theorem qtp (b:Bool):qdf 1 [.bool b]=true:=rfl
theorem Qd3 (b c:Bool):qdf 1 [.bool b,.bool c]=true:=rfl
theorem slO_b (b:Bool):slO 1 1 [.bool b] 0 (qbw [.bool b])=.sl 1 [.bool b] false:=rfl
theorem slO_bb (b c:Bool):slO 1 1 [.bool b,.bool c] 0 (qbw [.bool b,.bool c])=.sl 1 [.bool b,.bool c] false:=rfl
def nAdd (x y:Int):Int×NE :=
 let s:=i64 (x+y)
 chk1 (!(decide (x < 0)==decide (y < 0))||(decide (s < 0)==decide (x < 0))) s .over
def nTake (x y:Int):Int×NE :=
 let s:=i64 (x - y)
 chk1 ((decide (x < 0)==decide (y < 0))||(decide (s < 0)==decide (x < 0))) s .over
theorem add_run (x y:Int):qbj B0 .cl (.fn 132 []) [two x y]=some (qna (nAdd x y)):=by
 refine call (d:=fun _=>.cl) rfl (by decide) rfl rfl ?_
 rw[List.map_cons,List.map_nil,run132,qgu,qbk]
 simp only[qqh,qrt,qbg,Qbp,qgq,qg1,qr5,qr7,qbh,qn9,qtp,qbk,slO_b,must1,qkb,qka]
 unfold nAdd i64
 cases decide (x < 0)<;>cases decide (y < 0)<;>rfl
theorem Qnb (x y:Int):qbj B0 .cl (.fn 102 []) [two x y]=some (qna (nTake x y)):=by
 refine call (d:=fun _=>.cl) rfl (by decide) rfl rfl ?_
 rw[List.map_cons,List.map_nil,run102,qgu,qbk]
 simp only[qqh,qrt,qbg,Qks,qgq,qg1,qr5,qr7,qbh,qn9,qtp,qbk,slO_b,must1,qkb,qka]
 unfold nTake i64
 cases decide (x < 0)<;>cases decide (y < 0)<;>rfl
def qyd (x y:Int):Int×NE :=
 if y=0 then chk1 (x==0) 1 .div
 else if y = -1 then chk1 (x != -9223372036854775808) (i64 (0 - x)) .over
 else chk1 (x.tmod y==0) (i64 (x.tdiv y)) .div
theorem I_neg (x:Int):qbb (.un .neg (.c (I x)))=some (I (i64 (0 - x))):=rfl
theorem Qdb (x y:Int):qbj B0 .cl (.fn 106 []) [two x y]=some (qna (qyd x y)):=by
 refine call (d:=fun _=>.cl) rfl (by decide) rfl rfl ?_
 rw[List.map_cons,List.map_nil,run106,qgu,qbk]
 simp only[qqh,qrt,qbg,qgq,qpv,qwr,qbh,qn9,load_div,qtp,qbk,slO_b,must1,qkb,qka]
 unfold qyd
 by_cases h0:y=0
 ·subst h0
  simp only[beq_self_eq_true,if_true]
  rfl
 ·have e0:((y==0)=true)↔False:=by simp[h0]
  simp only[e0,if_false,h0]
  by_cases h1:y = -1
  ·subst h1
   simp only[beq_self_eq_true,if_true,I_neg,qbg,qtp,qbk,slO_b,must1,qkb,qka]
   rfl
  ·have e1:((y == -1)=true)↔False:=by simp[h1]
   simp only[e1,if_false,h1]
   rw[I,I,pure_quo _ _ h0,Qnm _ _ h0]
   simp only[qbg,qgq,qpv,qtp,qbk,slO_b,must1,qkb,qka]
   rfl
def Qd7 (x y:Int):Int :=
 if x=0 then y else if x = -1 then 0
 else if (y.tmod x==0)||(decide (y.tmod x < 0)==decide (x < 0)) then y.tmod x else i64 (y.tmod x+x)
theorem Qk6 (x y:Int):qbj B0 .cl (.fn 134 []) [two x y]=some (qna (Qd7 x y,.ok)):=by
 refine call (d:=fun _=>.cl) rfl (by decide) rfl rfl ?_
 rw[List.map_cons,List.map_nil,run134,qgu,qbk]
 simp only[qqh,qrt,qbg,qgq,qpv,qbh]
 unfold Qd7
 by_cases h0:x=0
 ·subst h0
  simp only[beq_self_eq_true,if_true]
  rfl
 ·have e0:((x==0)=true)↔False:=by simp[h0]
  simp only[e0,if_false,h0]
  by_cases h1:x = -1
  ·subst h1
   simp only[beq_self_eq_true,if_true]
   rfl
  ·have e1:((x == -1)=true)↔False:=by simp[h1]
   simp only[e1,if_false,h1]
   rw[show qbb (.bin .rem .num false (.c (I y)) (.c (I x)))=some (I (y.tmod x)) from Qnm _ _ h0]
   simp only[qbg]
   rw[show qci [I (y.tmod x),I 0]=true from rfl,qbk]
   generalize y.tmod x=r
   by_cases hc:((r==0)||(decide (r < 0)==decide (x < 0)))=true
   ·rw[if_pos hc]
    refine qcr ?_
    simp only[qfb,qfa,qfj,qgq,qg1,qpv,qbg,qbh,qqh,qr7]
    cases hr:(r==0) with
    | true=>rfl
    | false =>
     simp only[hr,Bool.false_or] at hc
     simp only[hc,Bool.false_eq_true,if_false,qbg,qbh,if_true]
     rfl
   ·rw[if_neg hc]
    rw[qf8 (s':=([I (i64 (r+x)),I 1,two x y],()))]
    ·exact qcr rfl
    ·simp only[qfb,qfa,qfj,qgq,qg1,qpv,qbg,qbh,qqh,qr7]
     simp only[Bool.or_eq_true,not_or,Bool.not_eq_true] at hc
     simp only[hc.1,hc.2,Bool.false_eq_true,if_false,qbg,qbh,Qbp]
     rfl
def u64 (n:Int):PV:=.int .u64 n
def qwm (x:Int):Int:=if x < 0 then IntKind.u64.wrap (0 - IntKind.u64.wrap x) else IntKind.u64.wrap x
theorem Qne (x:Int):qbj B0 .cl (.fn 171 []) [I x]=some (u64 (qwm x)):=by
 refine call (d:=fun _=>.cl) rfl (by decide) rfl rfl ?_
 rw[List.map_cons,List.map_nil,run171]
 simp only[qgq,qg1,qbg,qbh,show qbb (.conv .u64 (.c (I x)))=some (.int .u64 (IntKind.u64.wrap x)) from rfl,pure_neg]
 unfold qwm
 by_cases h:x < 0<;>simp[h]<;>rfl
theorem qki (n:Nat) (h:n < 18446744073709551616):IntKind.u64.wrap (n:Int)=n:=by rw[IntKind.wrap_u64];omega
theorem Qhl (x:Int):∃ n:Nat,qwm x=n∧n < 18446744073709551616:=by
 unfold qwm
 refine⟨(if x < 0 then IntKind.u64.wrap (0 - IntKind.u64.wrap x) else IntKind.u64.wrap x).toNat,?_,?_⟩<;>(simp only[IntKind.wrap_u64];split<;>omega)
theorem and32 (n:Nat) (h:n < 18446744073709551616):qbb (.bin .and .num true (.c (.int .u64 (n:Int))) (.c (.int .u64 4294967295)))=some (.int .u64 ((n%4294967296:Nat):Int)):=by
 have e:(BitVec.ofInt 64 (n:Int) &&& BitVec.ofInt 64 4294967295).toNat=n%4294967296:=by
  rw[BitVec.toNat_and]
  have h1:(BitVec.ofInt 64 (n:Int)).toNat=n:=by rw[BitVec.toNat_ofInt];omega
  have h2:(BitVec.ofInt 64 (4294967295:Int)).toNat=2 ^ 32 - 1:=by rw[BitVec.toNat_ofInt];rfl
  rw[h1,h2,Nat.and_two_pow_sub_one_eq_mod]
 rw[show qbb (.bin .and .num true (.c (.int .u64 (n:Int))) (.c (.int .u64 4294967295)))=some (.int .u64 (IntKind.u64.wrap (((BitVec.ofInt 64 (n:Int) &&& BitVec.ofInt 64 4294967295).toNat:Nat):Int))) from rfl,e,qki _ (by omega)]
theorem shr32 (n:Nat):qbb (.bin .shr .num true (.c (.int .u64 (n:Int))) (.c (.int .u64 32)))=some (.int .u64 ((n / 4294967296:Nat):Int)):=by
 have e:(n:Int).fdiv (2 ^ (min (32:Int).toNat 64))=((n / 4294967296:Nat):Int):=by
  rw[show (2:Int) ^ (min (32:Int).toNat 64)=4294967296 from rfl,Int.fdiv_eq_ediv_of_nonneg _ (by decide)]
  omega
 rw[show qbb (.bin .shr .num true (.c (.int .u64 (n:Int))) (.c (.int .u64 32)))=some (.int .u64 ((n:Int).fdiv (2 ^ (min (32:Int).toNat 64)))) from rfl,e]
theorem mul64_run (a b:Nat) (ha:a < 18446744073709551616) (hb:b < 18446744073709551616) :
  qbj B0 .cl (.fn 170 []) [u64 a,u64 b]=some (.tup [u64 ((a*b / 18446744073709551616:Nat):Int),u64 ((a*b%18446744073709551616:Nat):Int)]):=by
 refine call (d:=fun _=>.cl) rfl (by decide) rfl rfl ?_
 rw[List.map_cons,List.map_cons,List.map_nil,run170]
 obtain⟨h1,h2,h3,h4⟩:=Lib.mul64_hi a b ha hb
 have c1:∀ (m n:Nat),((m:Int)*(n:Int))=((m*n:Nat):Int):=fun m n=>by simp
 have c2:∀ (m n:Nat),((m:Int)+(n:Int))=((m+n:Nat):Int):=fun m n=>by simp
 have ka:=Lib.half_mul_le (a:=a / 4294967296) (b:=b / 4294967296) (by omega) (by omega)
 have kb:=Lib.half_mul_le (a:=a / 4294967296) (b:=b%4294967296) (by omega) (by omega)
 have kc:=Lib.half_mul_le (a:=a%4294967296) (b:=b / 4294967296) (by omega) (by omega)
 simp only[u64,and32 _ ha,and32 _ hb,shr32,qbg,qwu,qr8,c1,c2]
 rw[qki _ h1,qki (a / 4294967296*(b%4294967296)) (by omega)]
 simp only[shr32,qbg,qwu,qr8,c1,c2]
 rw[qki _ h2]
 simp only[and32 _ h2,shr32,qbg,qwu,qr8,c1,c2]
 rw[qki (a%4294967296*(b / 4294967296)) (by omega)]
 simp only[c2]
 rw[qki _ h3,qki (a / 4294967296*(b / 4294967296)) (by omega)]
 simp only[shr32,qbg,qwu,qr8,c1,c2]
 have h5:a*b / 18446744073709551616 < 18446744073709551616:=by
  refine Nat.div_lt_of_lt_mul ?_
  exact Nat.mul_lt_mul'' ha hb
 rw[qki (a / 4294967296*(b / 4294967296)+(a / 4294967296*(b%4294967296)+a%4294967296*(b%4294967296) / 4294967296) / 4294967296) (by omega)]
 simp only[c2]
 have e:IntKind.u64.wrap ((a*b:Nat):Int)=((a*b%18446744073709551616:Nat):Int):=by rw[IntKind.wrap_u64];omega
 rw[h4,qki _ h5,e]
def nTim (hi lo:Nat) (x y:Int):Int×NE :=
 let below:=!(decide (x < 0)==decide (y < 0))
 let v:=i64 (lo:Int)
 chk1 (decide (hi=0)&&(decide (lo≤9223372036854775807)||below&&decide (lo=9223372036854775808))) (if below then i64 (0 - v) else v) .over
def nTimes (x y:Int):Int×NE:=nTim ((qwm x).toNat*(qwm y).toNat / 18446744073709551616) ((qwm x).toNat*(qwm y).toNat%18446744073709551616) x y
theorem times_aux (hi lo:Nat) (x y:Int) (hs1:qbj B0 .cl (.fn 171 []) [I x]=some (u64 (qwm x))) (hs2:qbj B0 .cl (.fn 171 []) [I y]=some (u64 (qwm y)))
  (hm:qbj B0 .cl (.fn 170 []) [u64 (qwm x),u64 (qwm y)]=some (.tup [u64 hi,u64 lo])):qbj B0 .cl (.fn 133 []) [two x y]=some (qna (nTim hi lo x y)):=by
 refine call (d:=fun _=>.cl) rfl (by decide) rfl rfl ?_
 rw[List.map_cons,List.map_nil,run133,qgu,qbk]
 simp only[u64] at hs1 hs2 hm
 simp only[qqh,qrt,qbg,hs1,hs2,hm,qdq,List.getElem?_cons_zero,List.getElem?_cons_succ,qgq,qg1,qr5,u64,pure_conv,qbh,Qnp,Qno]
 unfold nTim
 have e1:((hi:Int)==0)=decide (hi=0):=by by_cases h:hi=0<;>simp[h]
 have e2:decide ((lo:Int)≤9223372036854775807)=decide (lo≤9223372036854775807):=by by_cases h:lo≤9223372036854775807<;>simp[h]<;>omega
 have e3:((lo:Int)==9223372036854775808)=decide (lo=9223372036854775808):=by by_cases h:lo=9223372036854775808<;>simp[h];omega
 rw[e1,e2,e3]
 generalize decide (hi=0)=p1
 generalize decide (lo≤9223372036854775807)=p2
 generalize decide (lo=9223372036854775808)=p3
 cases hb':!(decide (x < 0)==decide (y < 0)) with
 | false =>
  simp only[Bool.false_eq_true,if_false,qn9,qbg,qgq,Bool.false_and,Bool.or_false]
  cases p2<;>simp only[Bool.false_eq_true,if_false,if_true,Qd3,qbk,slO_bb,qbg,must2,qkb,qka]<;>rfl
 | true =>
  simp only[if_true,I_neg,qn9,qbg,qgq,Bool.true_and]
  cases p2<;>simp only[Bool.false_eq_true,if_false,if_true,I_neg,Qd3,qbk,slO_bb,qbg,must2,qkb,qka,Bool.false_or,Bool.true_or]<;>rfl
theorem times_run (x y:Int):qbj B0 .cl (.fn 133 []) [two x y]=some (qna (nTimes x y)):=by
 obtain⟨a,ha,hal⟩:=Qhl x
 obtain⟨b,hb,hbl⟩:=Qhl y
 have hm:=mul64_run a b hal hbl
 refine times_aux _ _ x y (Qne x) (Qne y) ?_
 rw[ha,hb,hm]
 rfl
end Go.Ab.Derive2


namespace Go.Ab.Derive2
open Go Go.Ab
theorem callC {d:Nat→RSh} {g:FuncId} {fn:RFn} {sh:RSh} {args cap:List PV} {u:PV} (ht:qkj g=some fn) (hg:Qm1 g) (ha:qb1 (args++cap)=true) (hl:Nat.ble (args++cap).length fn.nt=true)
  (hr:qfy (qdo B0 d) fn sh qbc 0 ((args++cap).map KV.cv) ()=some (u,())) (hio:fn.io=false:=by rfl) (hb:Nat.blt g qf9=true:=by rfl):qbj B0 sh (.fn g cap) args=some u :=
 qz1 (qd0 d) ht ha (Nat.le_of_ble_eq_true hl) (qxi hg (fun _=>none) _) hr hio hb
def Ql8:List UInt8:=[43]
def gSub:List UInt8:=[45]
def gMul:List UInt8:=[195,151]
def gDiv:List UInt8:=[195,183]
def gRes:List UInt8:=[124]
def Qfo:List UInt8:=[226,140,136]
def Qbb:List UInt8:=[226,140,138]
def gEq:List UInt8:=[61]
def gNe:List UInt8:=[226,137,160]
def gLt:List UInt8:=[60]
def gGt:List UInt8:=[62]
def gLe:List UInt8:=[226,137,164]
def gGe:List UInt8:=[226,137,165]
def gAnd:List UInt8:=[226,136,167]
def gOr:List UInt8:=[226,136,168]
def gNot:List UInt8:=[126]
def Qmy (b:Bool):Int:=if b then 1 else 0
theorem qrr (b:Bool):qbj B0 .cl (.fn 104 []) [.bool b]=some (I (Qmy b)):=by
 refine call (d:=fun _=>.cl) rfl (by decide) rfl rfl ?_
 rw[List.map_cons,List.map_nil,run104]
 cases b<;>rfl
theorem or_bits (a b:Bool):qbb (.bin .or .num false (.c (I (Qmy a))) (.c (I (Qmy b))))=some (I (Qmy (a||b))):=by cases a<;>cases b<;>rfl
theorem or_zero (b:Bool):qbb (.bin .or .num false (.c (I 0)) (.c (I (Qmy b))))=some (I (Qmy b)):=by cases b<;>rfl
theorem eqs_t (a:List UInt8):qbb (.bin .eql .str true (.c (.str a)) (.c (.str a)))=some (.bool true):=by rw[qwv];simp
theorem qrm {a b:List UInt8} (h:Nat.beq a.length b.length=false∨(a==b)=false):qbb (.bin .eql .str true (.c (.str a)) (.c (.str b)))=some (.bool false):=by
 rw[qwv]
 rcases h with h | h
 ·have:¬ a=b:=fun e=>by subst e;simp at h
  simp[this]
 ·rw[h]
def nCmp (g:List UInt8) (x y:Int):Bool :=
 if g=gEq then x==y else if g=gNe then x != y else if g=gLt then decide (x < y) else if g=gGt then decide (y < x)
 else if g=gLe then (x==y||decide (x < y)) else (x==y||decide (y < x))
theorem cmp_eq (x y:Int):qbj B0 .cl (.fn 138 []) [two x y,.str gEq]=some (qna (Qmy (nCmp gEq x y),.ok)):=by
 refine call (d:=fun _=>.cl) rfl (by decide) rfl rfl ?_
 rw[List.map_cons,List.map_cons,List.map_nil,Qb5,qgu,qbk,gEq]
 simp only[eqs_t,qrm (a:=[61]) (b:=[226,137,160]) (.inr rfl),qrm (a:=[61]) (b:=[226,137,164]) (.inr rfl),qrm (a:=[61]) (b:=[60]) (.inr rfl),qbg,qjs,qh9,qqh,qrt,qpv,qrr]
 rfl
theorem cmp_ne (x y:Int):qbj B0 .cl (.fn 138 []) [two x y,.str gNe]=some (qna (Qmy (nCmp gNe x y),.ok)):=by
 refine call (d:=fun _=>.cl) rfl (by decide) rfl rfl ?_
 rw[List.map_cons,List.map_cons,List.map_nil,Qb5,qgu,qbk,gNe]
 simp only[eqs_t,qbg,qjs,qqh,qrt,qwr,qrr]
 rfl
theorem cmp_lt (x y:Int):qbj B0 .cl (.fn 138 []) [two x y,.str gLt]=some (qna (Qmy (nCmp gLt x y),.ok)):=by
 refine call (d:=fun _=>.cl) rfl (by decide) rfl rfl ?_
 rw[List.map_cons,List.map_cons,List.map_nil,Qb5,qgu,qbk,gLt]
 simp only[eqs_t,qrm (a:=[60]) (b:=[226,137,160]) (.inr rfl),qrm (a:=[60]) (b:=[226,137,164]) (.inr rfl),qbg,qjs,qh9,qqh,qrt,qg1,qrr,qgq,or_zero]
 rfl
theorem cmp_le (x y:Int):qbj B0 .cl (.fn 138 []) [two x y,.str gLe]=some (qna (Qmy (nCmp gLe x y),.ok)):=by
 refine call (d:=fun _=>.cl) rfl (by decide) rfl rfl ?_
 rw[List.map_cons,List.map_cons,List.map_nil,Qb5,qgu,qbk,gLe]
 simp only[eqs_t,qrm (a:=[226,137,164]) (b:=[226,137,160]) (.inr rfl),qbg,qjs,qh9,qqh,qrt,qg1,qpv,qrr,or_bits]
 rfl
theorem cmp_gt (x y:Int):qbj B0 .cl (.fn 138 []) [two x y,.str gGt]=some (qna (Qmy (nCmp gGt x y),.ok)):=by
 refine call (d:=fun _=>.cl) rfl (by decide) rfl rfl ?_
 rw[List.map_cons,List.map_cons,List.map_nil,Qb5,qgu,qbk,gGt]
 simp only[eqs_t,qrm (a:=[62]) (b:=[226,137,160]) (.inr rfl),qrm (a:=[62]) (b:=[226,137,164]) (.inr rfl),qrm (a:=[62]) (b:=[60]) (.inr rfl),qrm (a:=[62]) (b:=[61]) (.inr rfl),qrm (a:=[62]) (b:=[226,137,165]) (.inr rfl),qbg,qjs,qh9,qqh,qrt,Qm3,qrr,qgq,or_zero]
 rfl
theorem cmp_ge (x y:Int):qbj B0 .cl (.fn 138 []) [two x y,.str gGe]=some (qna (Qmy (nCmp gGe x y),.ok)):=by
 refine call (d:=fun _=>.cl) rfl (by decide) rfl rfl ?_
 rw[List.map_cons,List.map_cons,List.map_nil,Qb5,qgu,qbk,gGe]
 simp only[eqs_t,qrm (a:=[226,137,165]) (b:=[226,137,160]) (.inr rfl),qrm (a:=[226,137,165]) (b:=[226,137,164]) (.inr rfl),qrm (a:=[226,137,165]) (b:=[60]) (.inr rfl),qrm (a:=[226,137,165]) (b:=[61]) (.inr rfl),qbg,qjs,qh9,qqh,qrt,Qm3,qpv,qrr,or_bits]
 rfl
theorem qqg {g:List UInt8} {x y:Int} {r:Int×NE} (h:qbj B0 .cl (.fn 138 []) [two x y,.str g]=some (qna r)):qbj B0 .cl (.fn 137 [.ptr [.str g] 0]) [two x y]=some (qna r):=by
 refine callC (d:=fun _=>.cl) rfl (by decide) rfl rfl ?_
 simp only[List.cons_append,List.nil_append,List.map_cons,List.map_nil]
 rw[run137,qgu,qbk]
 simp only[two_a,qbg,qr6,qtk,h,qkb,qka]
 rfl
def andI (x y:Int):Int:=IntKind.i64.wrap (BitVec.ofInt 64 x &&& BitVec.ofInt 64 y).toNat
def orI (x y:Int):Int:=IntKind.i64.wrap (BitVec.ofInt 64 x ||| BitVec.ofInt 64 y).toNat
theorem and_run (x y:Int):qbb (.bin .and .num false (.c (I x)) (.c (I y)))=some (I (andI x y)):=rfl
theorem or_run (x y:Int):qbb (.bin .or .num false (.c (I x)) (.c (I y)))=some (I (orI x y)):=rfl
theorem shr1 (x:Int):qbb (.bin .shr .num true (.c (I x)) (.c (.int .u64 1)))=some (I (x.fdiv 2)):=rfl
theorem Qf5 (g:List UInt8):qbb (.build [.str []] [(0,(1,.c (.str g)))])=some (.agg [.str g]):=rfl
def Qnw (g:List UInt8) (x y:Int):Int×NE:=chk1 ((x.fdiv 2==0)&&(y.fdiv 2==0)) (if g=gOr then orI x y else andI x y) (.dom g)
theorem logic_run (g:List UInt8) (x y:Int):qbj B0 .cl (.fn 140 []) [two x y,.str g]=some (qna (Qnw g x y)):=by
 refine call (d:=fun _=>.cl) rfl (by decide) rfl rfl ?_
 rw[List.map_cons,List.map_cons,List.map_nil,run140,qgu,qbk]
 simp only[qqh,qrt,qbg,and_run,or_run,shr1,qgq,qpv,qwv,qbh,Qf5,Qd3,qbk,slO_bb,show PV.iface 143 (.agg [.str g])=(NE.dom g).pv from rfl,must2,qkb,qka]
 unfold Qnw
 by_cases h:g=gOr
 ·subst h;rfl
 ·have:(g==[226,136,168])=false:=by simpa[gOr] using h
  simp only[this,h,Bool.false_eq_true,if_false]
  rfl
theorem Qdc (g:List UInt8) (x y:Int):qbj B0 .cl (.fn 139 [.ptr [.str g] 0]) [two x y]=some (qna (Qnw g x y)):=by
 refine callC (d:=fun _=>.cl) rfl (by decide) rfl rfl ?_
 simp only[List.cons_append,List.nil_append,List.map_cons,List.map_nil]
 rw[run139,qgu,qbk]
 simp only[two_a,qbg,qr6,qtk,logic_run,qkb,qka]
 rfl
theorem max_run (x y:Int):qbj B0 .cl (.fn 135 []) [two x y]=some (qna (max x y,.ok)):=by
 refine call (d:=fun _=>.cl) rfl (by decide) rfl rfl ?_
 rw[List.map_cons,List.map_nil,run135,qgu,qbk]
 simp only[qqh,qrt,qbg,qbb,exec,List.map_cons,List.map_nil,RX.ev,qv5,I]
 by_cases h:y>x
 ·simp[h,Int.max_eq_right (by omega:x≤y)];rfl
 ·simp[h,Int.max_eq_left (by omega:y≤x)];rfl
theorem min_run' (x y:Int):qbj B0 .cl (.fn 136 []) [two x y]=some (qna (min x y,.ok)):=by
 refine call (d:=fun _=>.cl) rfl (by decide) rfl rfl ?_
 rw[List.map_cons,List.map_nil,run136,qgu,qbk]
 simp only[qqh,qrt,qbg,qbb,exec,List.map_cons,List.map_nil,RX.ev,qv5,I]
 by_cases h:y < x
 ·simp[h,Int.min_eq_right (by omega:y≤x)];rfl
 ·simp[h,Int.min_eq_left (by omega:x≤y)];rfl
def qwo:PV:=.imap [.str Ql8,.fn 132 [],.str gSub,.fn 102 [],.str gMul,.fn 133 [],.str gDiv,.fn 106 [],.str gRes,.fn 134 [],
 .str Qfo,.fn 135 [],.str Qbb,.fn 136 [],
 .str gEq,.fn 137 [.ptr [.str gEq] 0],.str gNe,.fn 137 [.ptr [.str gNe] 0],.str gLt,.fn 137 [.ptr [.str gLt] 0],.str gGt,.fn 137 [.ptr [.str gGt] 0],.str gLe,.fn 137 [.ptr [.str gLe] 0],.str gGe,.fn 137 [.ptr [.str gGe] 0],
 .str gAnd,.fn 139 [.ptr [.str gAnd] 0],.str gOr,.fn 139 [.ptr [.str gOr] 0]]
theorem Qj3:qbj B0 .cl (.fn 75 []) []=some qwo:=qps (n:=60) (by decide) (by kernel_rfl) rfl rfl
theorem qdx {g x:List UInt8} {v:PV} {es:List PV} (h:¬ g=x):ql5 (.str g) (.str x :: v :: es)=ql5 (.str g) es:=by
 have:(g==x)=false:=by simp[h]
 simp[ql5,Qh3,this]
theorem qc8 {g:List UInt8} {v:PV} {es:List PV}:ql5 (.str g) (.str g :: v :: es)=some (some v):=by simp[ql5,Qh3]
def qqq (g:List UInt8):Bool:=[Ql8,gSub,gMul,gDiv,gRes,Qfo,Qbb,gEq,gNe,gLt,gGt,gLe,gGe,gAnd,gOr].contains g
def nDy (g:List UInt8) (x y:Int):Int×NE :=
 if g=Ql8 then nAdd x y else if g=gSub then nTake x y else if g=gMul then nTimes x y else if g=gDiv then qyd x y else if g=gRes then (Qd7 x y,.ok)
 else if g=Qfo then (max x y,.ok) else if g=Qbb then (min x y,.ok)
 else if g=gEq∨g=gNe∨g=gLt∨g=gGt∨g=gLe∨g=gGe then (Qmy (nCmp g x y),.ok)
 else if g=gAnd∨g=gOr then Qnw g x y else (0,.dom g)
theorem dy_find (g:List UInt8):(∃ f,ql5 (.str g) (match qwo with | .imap es=>es | _=>[])=some (some f)∧qqq g=true∧(∀ x y,qbj B0 .cl f [two x y]=some (qna (nDy g x y)))∧okV f=true∧∃ k c,f=.fn k c)
  ∨ (ql5 (.str g) (match qwo with | .imap es=>es | _=>[])=some none∧qqq g=false∧∀ x y,nDy g x y=(0,.dom g)):=by
 unfold qwo
 dsimp only
 by_cases h1:g=Ql8
 ·subst h1;exact .inl ⟨_,qc8,rfl,fun x y=>add_run x y,rfl,_,_,rfl⟩
 rw[qdx h1]
 by_cases h2:g=gSub
 ·subst h2;exact .inl ⟨_,qc8,rfl,fun x y=>Qnb x y,rfl,_,_,rfl⟩
 rw[qdx h2]
 by_cases h3:g=gMul
 ·subst h3;exact .inl ⟨_,qc8,rfl,fun x y=>times_run x y,rfl,_,_,rfl⟩
 rw[qdx h3]
 by_cases h4:g=gDiv
 ·subst h4;exact .inl ⟨_,qc8,rfl,fun x y=>Qdb x y,rfl,_,_,rfl⟩
 rw[qdx h4]
 by_cases h5:g=gRes
 ·subst h5;exact .inl ⟨_,qc8,rfl,fun x y=>Qk6 x y,rfl,_,_,rfl⟩
 rw[qdx h5]
 by_cases h6:g=Qfo
 ·subst h6;exact .inl ⟨_,qc8,rfl,fun x y=>max_run x y,rfl,_,_,rfl⟩
 rw[qdx h6]
 by_cases h7:g=Qbb
 ·subst h7;exact .inl ⟨_,qc8,rfl,fun x y=>min_run' x y,rfl,_,_,rfl⟩
 rw[qdx h7]
 by_cases h8:g=gEq
 ·subst h8;exact .inl ⟨_,qc8,rfl,fun x y=>qqg (cmp_eq x y),rfl,_,_,rfl⟩
 rw[qdx h8]
 by_cases h9:g=gNe
 ·subst h9;exact .inl ⟨_,qc8,rfl,fun x y=>qqg (cmp_ne x y),rfl,_,_,rfl⟩
 rw[qdx h9]
 by_cases h10:g=gLt
 ·subst h10;exact .inl ⟨_,qc8,rfl,fun x y=>qqg (cmp_lt x y),rfl,_,_,rfl⟩
 rw[qdx h10]
 by_cases h11:g=gGt
 ·subst h11;exact .inl ⟨_,qc8,rfl,fun x y=>qqg (cmp_gt x y),rfl,_,_,rfl⟩
 rw[qdx h11]
 by_cases h12:g=gLe
 ·subst h12;exact .inl ⟨_,qc8,rfl,fun x y=>qqg (cmp_le x y),rfl,_,_,rfl⟩
 rw[qdx h12]
 by_cases h13:g=gGe
 ·subst h13;exact .inl ⟨_,qc8,rfl,fun x y=>qqg (cmp_ge x y),rfl,_,_,rfl⟩
 rw[qdx h13]
 by_cases h14:g=gAnd
 ·subst h14;exact .inl ⟨_,qc8,rfl,fun x y=>Qdc gAnd x y,rfl,_,_,rfl⟩
 rw[qdx h14]
 by_cases h15:g=gOr
 ·subst h15;exact .inl ⟨_,qc8,rfl,fun x y=>Qdc gOr x y,rfl,_,_,rfl⟩
 rw[qdx h15]
 refine .inr ⟨rfl,?_,fun x y=>?_⟩
 ·simp[qqq,h1,h2,h3,h4,h5,h6,h7,h8,h9,h10,h11,h12,h13,h14,h15]
 ·simp[nDy,h1,h2,h3,h4,h5,h6,h7,h8,h9,h10,h11,h12,h13,h14,h15]
theorem Qpb (g:List UInt8):qbj B0 .cl (.fn 41 []) [.str g]=some (.bool (qqq g)):=by
 refine call (d:=fun _=>.cl) rfl (by decide) rfl rfl ?_
 rw[List.map_cons,List.map_nil,run41,Qj3]
 simp only[qbg]
 rcases dy_find g with ⟨f,h1,h2,_,_,k,c,rfl⟩ | ⟨h1,h2,_⟩
 ·rw[h2,show qbb (.lookup .str .nilF false (.c qwo) (.c (.str g)))=some (.fn k c) by unfold qwo at h1 ⊢;simp only[qbb,exec,RX.ev];rw[h1];rfl]
  rfl
 ·rw[h2,show qbb (.lookup .str .nilF false (.c qwo) (.c (.str g)))=some .nilF by unfold qwo at h1 ⊢;simp only[qbb,exec,RX.ev];rw[h1];rfl]
  rfl
theorem dy_run (g:List UInt8) (x y:Int):qbj B0 .cl (.fn 78 []) [.str g,I x,I y]=some (.tup [I (nDy g x y).1,I (nDy g x y).2.no]):=by
 refine call (d:=fun _=>.cl) rfl (by decide) rfl rfl ?_
 rw[List.map_cons,List.map_cons,List.map_cons,List.map_nil,run78,Qj3]
 simp only[qbg]
 rcases dy_find g with ⟨f,h1,h2,h3,_,k,c,rfl⟩ | ⟨h1,h2,h3⟩
 ·rw[show qbb (.lookup .str .nilF true (.c qwo) (.c (.str g)))=some (.tup [.fn k c,.bool true]) by unfold qwo at h1 ⊢;simp only[qbb,exec,RX.ev];rw[h1];rfl]
  simp only[qbg,qdq,List.getElem?_cons_zero,List.getElem?_cons_succ,qc1,Bool.not_true,qh9]
  rw[show qbb (.build [.int .i64 0,.int .i64 0] [(0,(1,.c (I x))),(1,(1,.c (I y)))])=some (two x y) from rfl]
  simp only[qbg]
  rw[show qbb (.build [.int .i64 0,.int .i64 0] [(0,(2,.c (two x y)))])=some (two x y) from rfl]
  simp only[qbg,h3,qkb,qka,qsc]
 ·rw[show qbb (.lookup .str .nilF true (.c qwo) (.c (.str g)))=some (.tup [.nilF,.bool false]) by unfold qwo at h1 ⊢;simp only[qbb,exec,RX.ev];rw[h1];rfl]
  simp only[qbg,qdq,List.getElem?_cons_zero,List.getElem?_cons_succ,qc1,Bool.not_false,qjs,Qf5,show PV.iface 143 (.agg [.str g])=(NE.dom g).pv from rfl,qsc,h3]
  rfl
def nNeg (y:Int):Int×NE:=nTake 0 y
def nSign (y:Int):Int:=i64 (Qmy (decide (0 < y)) - Qmy (decide (y < 0)))
def nNot (y:Int):Int×NE:=chk1 ((y==0)||(y==1)) (i64 (1 - y)) (.dom gNot)
theorem Qdv (y:Int):qbj B0 .cl (.fn 100 []) [I y]=some (qna (y,.ok)):=by
 refine call (d:=fun _=>.cl) rfl (by decide) rfl rfl ?_
 rw[List.map_cons,List.map_nil,run100]
 rfl
theorem neg_run (y:Int):qbj B0 .cl (.fn 101 []) [I y]=some (qna (nNeg y)):=by
 refine call (d:=fun _=>.cl) rfl (by decide) rfl rfl ?_
 rw[List.map_cons,List.map_nil,run101]
 rw[show qbb (.build [.int .i64 0,.int .i64 0] [(0,(1,.c (.int .i64 0))),(1,(1,.c (I y)))])=some (two 0 y) from rfl]
 simp only[qbg]
 rw[show qbb (.build [.int .i64 0,.int .i64 0] [(0,(2,.c (two 0 y)))])=some (two 0 y) from rfl]
 simp only[qbg,Qnb,qkb,qka]
 rfl
theorem sign_run (y:Int):qbj B0 .cl (.fn 103 []) [I y]=some (qna (nSign y,.ok)):=by
 refine call (d:=fun _=>.cl) rfl (by decide) rfl rfl ?_
 rw[List.map_cons,List.map_nil,run103]
 simp only[qgq,Qm3,qg1,qbg,qrr,Qks]
 rfl
theorem recip_run (y:Int):qbj B0 .cl (.fn 105 []) [I y]=some (qna (qyd 1 y)):=by
 refine call (d:=fun _=>.cl) rfl (by decide) rfl rfl ?_
 rw[List.map_cons,List.map_nil,run105]
 rw[show qbb (.build [.int .i64 0,.int .i64 0] [(0,(1,.c (.int .i64 1))),(1,(1,.c (I y)))])=some (two 1 y) from rfl]
 simp only[qbg]
 rw[show qbb (.build [.int .i64 0,.int .i64 0] [(0,(2,.c (two 1 y)))])=some (two 1 y) from rfl]
 simp only[qbg,Qdb,qkb,qka]
 rfl
theorem not_run (y:Int):qbj B0 .cl (.fn 107 []) [I y]=some (qna (nNot y)):=by
 refine call (d:=fun _=>.cl) rfl (by decide) rfl rfl ?_
 rw[List.map_cons,List.map_nil,run107]
 simp only[qgq,Qks,qpv,qbg,Qf5,qbh,qtp,qbk,slO_b,show PV.iface 143 (.agg [.str [126]])=(NE.dom gNot).pv from rfl,must1,qkb,qka]
 unfold nNot
 cases y==0<;>rfl
def nAbs (y:Int):Int×NE:=if y < 0 then nNeg y else (y,.ok)
theorem abs_run (y:Int):qbj B0 .cl (.fn 109 [.ptr [.fn 101 []] 0]) [I y]=some (qna (nAbs y)):=by
 refine callC (d:=fun _=>.cl) rfl (by decide) rfl rfl ?_
 simp only[List.cons_append,List.nil_append,List.map_cons,List.map_nil]
 rw[run109]
 simp only[qgq,qg1,qbg,qbh,qr6,qtk,neg_run,qkb,qka]
 unfold nAbs
 by_cases h:y < 0<;>simp[h]<;>rfl
def qno:PV:=.imap [.str Ql8,.fn 100 [],.str Qfo,.fn 100 [],.str Qbb,.fn 100 [],.str gSub,.fn 101 [],.str gMul,.fn 103 [],.str gDiv,.fn 105 [],.str gNot,.fn 107 [],
 .str gRes,.fn 109 [.ptr [.fn 101 []] 0]]
theorem Qcj:qbj B0 .cl (.fn 61 []) []=some qno:=qps (n:=60) (by decide) (by kernel_rfl) rfl rfl
def ql3 (g:List UInt8):Bool:=[Ql8,Qfo,Qbb,gSub,gMul,gDiv,gNot,gRes].contains g
def Qba (g:List UInt8) (y:Int):Int×NE :=
 if g=Ql8 then (y,.ok) else if g=Qfo then (y,.ok) else if g=Qbb then (y,.ok) else if g=gSub then nNeg y else if g=gMul then (nSign y,.ok) else if g=gDiv then qyd 1 y else if g=gNot then nNot y
 else if g=gRes then nAbs y else (0,.dom g)
theorem Qnx (g:List UInt8):(∃ f,ql5 (.str g) (match qno with | .imap es=>es | _=>[])=some (some f)∧ql3 g=true∧(∀ y,qbj B0 .cl f [I y]=some (qna (Qba g y)))∧okV f=true∧∃ k c,f=.fn k c)
  ∨ (ql5 (.str g) (match qno with | .imap es=>es | _=>[])=some none∧ql3 g=false∧∀ y,Qba g y=(0,.dom g)):=by
 unfold qno
 dsimp only
 by_cases h1:g=Ql8
 ·subst h1;exact .inl ⟨_,qc8,rfl,fun y=>Qdv y,rfl,_,_,rfl⟩
 rw[qdx h1]
 by_cases h2:g=Qfo
 ·subst h2;exact .inl ⟨_,qc8,rfl,fun y=>Qdv y,rfl,_,_,rfl⟩
 rw[qdx h2]
 by_cases h3:g=Qbb
 ·subst h3;exact .inl ⟨_,qc8,rfl,fun y=>Qdv y,rfl,_,_,rfl⟩
 rw[qdx h3]
 by_cases h4:g=gSub
 ·subst h4;exact .inl ⟨_,qc8,rfl,fun y=>neg_run y,rfl,_,_,rfl⟩
 rw[qdx h4]
 by_cases h5:g=gMul
 ·subst h5;exact .inl ⟨_,qc8,rfl,fun y=>sign_run y,rfl,_,_,rfl⟩
 rw[qdx h5]
 by_cases h6:g=gDiv
 ·subst h6;exact .inl ⟨_,qc8,rfl,fun y=>recip_run y,rfl,_,_,rfl⟩
 rw[qdx h6]
 by_cases h7:g=gNot
 ·subst h7;exact .inl ⟨_,qc8,rfl,fun y=>not_run y,rfl,_,_,rfl⟩
 rw[qdx h7]
 by_cases h8:g=gRes
 ·subst h8;exact .inl ⟨_,qc8,rfl,fun y=>abs_run y,rfl,_,_,rfl⟩
 rw[qdx h8]
 refine .inr ⟨rfl,?_,fun y=>?_⟩
 ·simp[ql3,h1,h2,h3,h4,h5,h6,h7,h8]
 ·simp[Qba,h1,h2,h3,h4,h5,h6,h7,h8]
theorem Qh9 (g:List UInt8):qbj B0 .cl (.fn 35 []) [.str g]=some (.bool (ql3 g)):=by
 refine call (d:=fun _=>.cl) rfl (by decide) rfl rfl ?_
 rw[List.map_cons,List.map_nil,run35,Qcj]
 simp only[qbg]
 rcases Qnx g with ⟨f,h1,h2,_,_,k,c,rfl⟩ | ⟨h1,h2,_⟩
 ·rw[h2,show qbb (.lookup .str .nilF false (.c qno) (.c (.str g)))=some (.fn k c) by unfold qno at h1 ⊢;simp only[qbb,exec,RX.ev];rw[h1];rfl]
  rfl
 ·rw[h2,show qbb (.lookup .str .nilF false (.c qno) (.c (.str g)))=some .nilF by unfold qno at h1 ⊢;simp only[qbb,exec,RX.ev];rw[h1];rfl]
  rfl
theorem mon_run (g:List UInt8) (y:Int):qbj B0 .cl (.fn 65 []) [.str g,I y]=some (.tup [I (Qba g y).1,I (Qba g y).2.no]):=by
 refine call (d:=fun _=>.cl) rfl (by decide) rfl rfl ?_
 rw[List.map_cons,List.map_cons,List.map_nil,run65,Qcj]
 simp only[qbg]
 rcases Qnx g with ⟨f,h1,h2,h3,_,k,c,rfl⟩ | ⟨h1,h2,h3⟩
 ·rw[show qbb (.lookup .str .nilF true (.c qno) (.c (.str g)))=some (.tup [.fn k c,.bool true]) by unfold qno at h1 ⊢;simp only[qbb,exec,RX.ev];rw[h1];rfl]
  simp only[qbg,qdq,List.getElem?_cons_zero,List.getElem?_cons_succ,qc1,Bool.not_true,qh9,h3,qkb,qka,qsc]
 ·rw[show qbb (.lookup .str .nilF true (.c qno) (.c (.str g)))=some (.tup [.nilF,.bool false]) by unfold qno at h1 ⊢;simp only[qbb,exec,RX.ev];rw[h1];rfl]
  simp only[qbg,qdq,List.getElem?_cons_zero,List.getElem?_cons_succ,qc1,Bool.not_false,qjs,Qf5,show PV.iface 143 (.agg [.str g])=(NE.dom g).pv from rfl,qsc,h3]
  rfl
end Go.Ab.Derive2


namespace Go.Ab
theorem loop_inv {σ ρ α:Type} {step:σ→Option (Sum σ ρ)} (st:Nat→α→σ) (n:Nat) (P:Nat→α→Prop) (Q:ρ→Prop)
  (hs:∀ i a,i < n→P i a→(∃ a',step (st i a)=some (.inl (st (i+1) a'))∧P (i+1) a')∨∃ r,step (st i a)=some (.inr r)∧Q r)
  (he:∀ a,P n a→∃ r,step (st n a)=some (.inr r)∧Q r) {a0:α} (h0:P 0 a0):∃ r,qgc step (st 0 a0)=some r∧Q r:=by
 have key:∀ m i a,i+m=n→P i a→∃ r,qgc step (st i a)=some r∧Q r:=by
  intro m
  induction m with
  | zero =>
   intro i a hi hp
   obtain rfl:i=n:=by omega
   obtain⟨r,h1,h2⟩:=he a hp
   exact⟨r,qcr h1,h2⟩
  | succ m ih =>
   intro i a hi hp
   rcases hs i a (by omega) hp with ⟨a',h1,h2⟩ | ⟨r,h1,h2⟩
   ·rw[qf8 h1];exact ih _ _ (by omega) h2
   ·exact⟨r,qcr h1,h2⟩
 exact key n 0 a0 (by omega) h0
theorem Qge {E α:Type} {h:qbf E} {d:Nat} (st:Nat→α→E) (l:List (List PV)) (P:Nat→α→Prop) (Q:E→Prop)
  (hs:∀ i a (hi:i < l.length),P i a→(∃ a',h d l[i] (st i a)=some (true,st (i+1) a')∧P (i+1) a')∨∃ e',h d l[i] (st i a)=some (false,e')∧Q e')
  (he:∀ a,P l.length a→Q (st l.length a)) {a0:α} (h0:P 0 a0):∃ e',qc6 h d l (st 0 a0)=some e'∧Q e':=by
 have key:∀ m i a,i+m=l.length→P i a→∃ e',qc6 h d (l.drop i) (st i a)=some e'∧Q e':=by
  intro m
  induction m with
  | zero =>
   intro i a hi hp
   obtain rfl:i=l.length:=by omega
   rw[List.drop_eq_nil_of_le (Nat.le_refl _)]
   exact⟨_,rfl,he a hp⟩
  | succ m ih =>
   intro i a hi hp
   have hlt:i < l.length:=by omega
   rw[List.drop_eq_getElem_cons hlt]
   rcases hs i a hlt hp with ⟨a',h1,h2⟩ | ⟨e',h1,h2⟩
   ·simp only[qc6,h1];exact ih _ _ (by omega) h2
   ·simp only[qc6,h1];exact⟨_,rfl,h2⟩
 exact key l.length 0 a0 (by omega) h0
theorem yield_run {E:Type} {h:qbf E} {d:Nat} (st:Nat→E) (l:List (List PV)) (hs:∀ i (hi:i < l.length),h d l[i] (st i)=some (true,st (i+1))):qc6 h d l (st 0)=some (st l.length):=by
 obtain⟨e,h1,h2⟩:=Qge (α:=Unit) (h:=h) (d:=d) (fun i _=>st i) l (fun _ _=>True) (fun e=>e=st l.length) (fun i _ hi _=>.inl ⟨(),hs i hi,trivial⟩) (fun _ _=>rfl) (a0:=()) trivial
 rw[h1,h2]
theorem range_then {E β:Type} {B:KB} {h:qbf E} {dep:Nat} {f:PV} {e:E} {K:E→Option β} {r:β} (e':E) (h1:qf0 B h dep f e=some e') (h2:K e'=some r):qba (qf0 B h dep f e) K=some r:=by
 rw[h1];exact h2
theorem qtv {E ρ:Type} {step:List PV×E→Option (Sum (List PV×E) ρ)} {h:qbf E} {d:Nat} (st:Nat→List PV) (l:List (List PV)) (fin:E→ρ)
  (hs:∀ i (hi:i < l.length) e e',h d l[i] e=some (true,e')→step (st i,e)=some (.inl (st (i+1),e')))
  (hf:∀ i (hi:i < l.length) e e',h d l[i] e=some (false,e')→step (st i,e)=some (.inr (fin e')))
  (he:∀ e,step (st l.length,e)=some (.inr (fin e))) {e e':E} (hy:qc6 h d l e=some e'):qgc step (st 0,e)=some (fin e'):=by
 have key:∀ m i e,i+m=l.length→qc6 h d (l.drop i) e=some e'→qgc step (st i,e)=some (fin e'):=by
  intro m
  induction m with
  | zero =>
   intro i e hi hq
   obtain rfl:i=l.length:=by omega
   rw[List.drop_eq_nil_of_le (Nat.le_refl _)] at hq
   rw[←Option.some.inj hq]
   exact qcr (he e)
  | succ m ih =>
   intro i e hi hq
   have hlt:i < l.length:=by omega
   rw[List.drop_eq_getElem_cons hlt] at hq
   simp only[qc6] at hq
   split at hq
   ·rename_i e1 hh
    rw[qf8 (hs i hlt e e1 hh)]
    exact ih _ _ (by omega) hq
   ·rename_i e1 hh
    rw[←Option.some.inj hq]
    exact qcr (hf i hlt e e1 hh)
   ·cases hq
 exact key l.length 0 e (by omega) hy
@[simp] theorem Qbj (a0 a1 a2 a3 a4 a5 a6 a7 a8 x:PV) (l:List PV):nth (a0 :: a1 :: a2 :: a3 :: a4 :: a5 :: a6 :: a7 :: a8 :: x :: l) 9=x:=rfl
@[simp] theorem qyb (a0 a1 a2 a3 a4 a5 a6 a7 a8 a9 x:PV) (l:List PV):nth (a0 :: a1 :: a2 :: a3 :: a4 :: a5 :: a6 :: a7 :: a8 :: a9 :: x :: l) 10=x:=rfl
@[simp] theorem qya (a0 a1 a2 a3 a4 a5 a6 a7 a8 a9 a10 x:PV) (l:List PV):nth (a0 :: a1 :: a2 :: a3 :: a4 :: a5 :: a6 :: a7 :: a8 :: a9 :: a10 :: x :: l) 11=x:=rfl
@[simp] theorem qx9 (a0 a1 a2 a3 a4 a5 a6 a7 a8 a9 a10 a11 x:PV) (l:List PV):nth (a0 :: a1 :: a2 :: a3 :: a4 :: a5 :: a6 :: a7 :: a8 :: a9 :: a10 :: a11 :: x :: l) 12=x:=rfl
@[simp] theorem qx8 (a0 a1 a2 a3 a4 a5 a6 a7 a8 a9 a10 a11 a12 x:PV) (l:List PV):nth (a0 :: a1 :: a2 :: a3 :: a4 :: a5 :: a6 :: a7 :: a8 :: a9 :: a10 :: a11 :: a12 :: x :: l) 13=x:=rfl
end Go.Ab


namespace Go.Ab.Derive2
open Go Go.Ab
inductive Qbr:List PV→List Arr→Prop
 | nil:Qbr [] []
 | cons {v:PV} {a:Arr} {vs:List PV} {l:List Arr}:IsA v a→Qbr vs l→Qbr (v :: vs) (a :: l)
theorem Qbr.ok {vs:List PV} {l:List Arr} (h:Qbr vs l):qb1 vs=true:=by
 induction h with
 | nil=>rfl
 | cons h _ ih=>simp[qb1,h.ok,ih]
theorem Qbr.len {vs:List PV} {l:List Arr} (h:Qbr vs l):vs.length=l.length:=by
 induction h with
 | nil=>rfl
 | cons h _ ih=>simp[ih]
theorem Qbr.get {vs:List PV} {l:List Arr} (h:Qbr vs l):∀ i (hi:i < l.length),∃ v,vs[i]?=some v∧IsA v l[i]:=by
 induction h with
 | nil=>intro i hi;simp at hi
 | cons h _ ih =>
  intro i hi
  cases i with
  | zero=>exact⟨_,rfl,h⟩
  | succ i=>exact ih i (by simpa using hi)
theorem lidx3 {xs:List PV} {j:Nat} {f:Bool} {a b c:PV} (h:xs[j]?=some (.agg [a,b,c])):qbb (.idxAddr 3 (.c (.sl 3 xs f)) (.c (I j)))=some (.ptr [a,b,c] 0):=by
 rw[I,Qg4 (by omega) h];rfl
theorem load3 (a b c:PV):qbb (.load 3 true (.c (.ptr [a,b,c] 0)))=some (.agg [a,b,c]):=rfl
theorem fa3_0 (a b c:PV):qbb (.fieldAddr 0 (.c (.ptr [a,b,c] 0)))=some (.ptr [a,b,c] 0):=rfl
theorem fa3_1 (a b c:PV):qbb (.fieldAddr 1 (.c (.ptr [a,b,c] 0)))=some (.ptr [a,b,c] 1):=rfl
theorem fa3_2 (a b c:PV):qbb (.fieldAddr 2 (.c (.ptr [a,b,c] 0)))=some (.ptr [a,b,c] 2):=rfl
theorem ld3_1 (a b c:PV):qbb (.load 1 false (.c (.ptr [a,b,c] 1)))=some b:=rfl
theorem ld3_2 (a b c:PV):qbb (.load 1 false (.c (.ptr [a,b,c] 2)))=some c:=rfl
theorem okC_b (b:Bool):qbi (.bool b) 1=true:=rfl
theorem cellP_b (b:Bool):qbd (.bool b) 0=.bool b:=rfl
theorem bV {α β:Type} (a:α) (f:α→Option β):qba (some a) f=f a:=Eq.trans rfl rfl
theorem cT {β:Type} (a:Option β):qbn true a=a:=Eq.trans rfl rfl
theorem iD (n:Int):PV.int .i64 n=I n:=Eq.trans rfl rfl
theorem Qhf {a:Arr} {x:PV} (h:IsL x a.n):qbi (.agg [.bool a.li,.bool a.ru,x]) 3=true:=qwx (Qbu rfl rfl h.cell)
theorem qvk {a:Arr} {x:PV} (h:IsL x a.n):qh3 (.agg [.bool a.li,.bool a.ru,x])=true:=Qbu rfl rfl h.cell
inductive IsB:PV→List Arr→Prop
 | nil:IsB .nilS []
 | sl {vs:List PV} {l:List Arr} (f:Bool) (h:Qbr vs l):IsB (.sl 3 vs f) l
theorem IsB.ok {v:PV} {l:List Arr} (h:IsB v l):okV v=true:=by
 cases h with
 | nil=>rfl
 | sl f h=>simp[okV,h.ok]
theorem IsB.und {v:PV} {l:List Arr} (h:IsB v l):qg7 v=false:=by cases h<;>rfl
theorem IsB.len {v:PV} {l:List Arr} (h:IsB v l):qbb (.len .slice (.c v))=some (I l.length):=by
 cases h with
 | nil=>rfl
 | sl f h=>rw[qk2,h.len];rfl
theorem IsB.idx {v:PV} {l:List Arr} (h:IsB v l) {i:Nat} (hi:i < l.length):∃ x,qbb (.idxAddr 3 (.c v) (.c (I i)))=some (.ptr [.bool l[i].li,.bool l[i].ru,x] 0)∧IsL x l[i].n:=by
 cases h with
 | nil=>simp at hi
 | sl f h =>
  obtain⟨u,h1,h2⟩:=h.get i hi
  obtain⟨x,rfl,hx⟩:=h2.get
  exact⟨x,lidx3 h1,hx⟩
theorem Qbr.snoc {vs:List PV} {l:List Arr} (h:Qbr vs l) {v:PV} {a:Arr} (ha:IsA v a):Qbr (vs++[v]) (l++[a]):=by
 induction h with
 | nil=>exact .cons ha .nil
 | cons h1 _ ih=>exact .cons h1 ih
def qgs (ru:Bool) (n:Int):Arr:=⟨false,ru,[n]⟩
def qyv (ru:Bool) (n:Int):PV:=.agg [.bool false,.bool ru,.sl 1 [I n] false]
theorem itm_is (ru:Bool) (n:Int):IsA (qyv ru n) (qgs ru n):=.mk _ _ _ _ (.sl [n] false)
theorem Qfj (ru:Bool):∀ l:List Int,Qbr (l.map (qyv ru)) (l.map (qgs ru))
 | []=>.nil
 | n :: l=>.cons (itm_is ru n) (Qfj ru l)
end Go.Ab.Derive2

