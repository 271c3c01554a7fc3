/-
  Part 5 of a proof: a machine of our own for the given program, its laws, and what it says of the program. Nothing here is a claim by itself.
-/
import Derived.Test.YtgoedlagdbgcbaaGreatDoorK04
import Derived.Test.YtgoedlagdbgcbaaGreatDoorK03
import Derived.RowKit
import Derived.Lib.AppendIntMem
import Derived.Lib.CountLaws
import Derived.Lib.Replace
import Derived.Lib.ItoaNum
import Derived.Conc.MuLone
import Derived.Test.YtgoedlagdbgcbaaGreatDoorProg
import Derived.Test.YtgoedlagdbgcbaaGreatDoorK01
import Derived.KernelRfl
import Derived.IntWalk
import Derived.ChangeArms
import Derived.ChangeSlices
import Derived.ChangeMaps5
import Derived.JoinedOf
set_option linter.all false

namespace Go.Ab
mutual
theorem qs4:∀ (p x:KV),qji p x=true→x.ok→qrr p x.pv=some (qd0 p x)
 | .un,x,h,_=>by cases x<;>simp[qji] at h;rfl
 | .sk,x,h,_=>by cases x<;>simp[qji] at h;rfl
 | .yld d,x,h,_=>by cases x<;>simp[qji] at h;rfl
 | .ref nm o,x,h,_=>by cases x<;>simp[qji] at h;obtain⟨rfl,rfl⟩:=h;simp[qrr,KV.pv,qd0,qbw]
 | .aref _ _ _ _,x,h,_=>by simp[qji] at h
 | .mp nm,x,h,_=>by cases x<;>simp[qji] at h;subst h;simp[qrr,KV.pv,qd0,qbw]
 | .it nm,x,h,_=>by cases x<;>simp[qji] at h;subst h;simp[qrr,KV.pv,qd0,qbw]
 | .wit nm,x,h,_=>by cases x<;>simp[qji] at h;subst h;simp[qrr,KV.pv,qd0,qbw]
 | .arr nm k o n,x,h,_=>by
  cases x with
  | arr nm' k' o' n' =>
   simp only[qji] at h
   simp only[KV.pv,qrr,qd0]
   rw[h];rfl
  | _=>simp[qji] at h
 | .lit b,x,h,hx=>qtz hx (by simpa[qji] using h)
 | .nils,x,h,hx=>qtz hx (by simpa[qji] using h)
 | .cv v,x,h,hx=>qtz hx (by simpa[qji] using h)
 | .fn f cap,x,h,hx=>by
  cases x with
  | fn f' cap' =>
   simp only[qji,Bool.and_eq_true,beq_iff_eq] at h
   obtain⟨rfl,h⟩:=h
   simp only[KV.pv,qrr,if_true,qd0]
   exact qku cap cap' h hx
  | _=>simp[qji] at h
 | .tup xs,x,h,hx=>by
  cases x with
  | tup ys =>
   simp only[qji] at h
   simp only[KV.pv,qrr,qd0]
   exact qku xs ys h hx
  | _=>simp[qji] at h
 | .agg cs,x,h,hx=>by
  simp only[qji] at h
  simp only[qrr,qd0]
  by_cases hc:(clL cs).isSome=true
  ·rw[if_pos hc] at h
   rw[if_pos hc,if_pos hc]
   exact qtz hx h
  ·rw[if_neg hc] at h
   rw[if_neg hc,if_neg hc]
   cases x with
   | agg cs'=>exact qku cs cs' h hx
   | _=>simp at h
 | .iface t y,x,h,hx=>by
  simp only[qji] at h
  simp only[qrr,qd0]
  by_cases hc:y.cl.isSome=true
  ·rw[if_pos hc] at h
   rw[if_pos hc,if_pos hc]
   exact qtz hx h
  ·rw[if_neg hc] at h
   rw[if_neg hc,if_neg hc]
   cases x with
   | iface t' y' =>
    simp only[Bool.and_eq_true,beq_iff_eq] at h
    obtain⟨rfl,h⟩:=h
    simp only[KV.pv,if_true]
    exact qs4 y y' h hx
   | _=>simp at h
theorem qku:∀ (ps xs:List KV),Qcw ps xs=true→qg2 xs→Qbs ps (pvL xs)=some (qjo ps xs)
 | [],xs,h,_=>by cases xs<;>simp[Qcw] at h;rfl
 | p :: ps,xs,h,hx=>by
  cases xs with
  | nil=>simp[Qcw] at h
  | cons x xs =>
   simp only[Qcw,Bool.and_eq_true] at h
   simp only[pvL,Qbs,qjo]
   rw[qs4 p x h.1 hx.1,qku ps xs h.2 hx.2]
theorem qtz {x:KV} (hx:x.ok) (h:x.cl.isSome=true):qbw (okV x.pv) (some [x.pv])=some [x.cl.getD .undef]:=by
 obtain⟨v,hv⟩:=Option.isSome_iff_exists.1 h
 have h1:=KV.cl_ok hx hv
 rw[KV.cl_pv hv,hv]
 simp[qbw,h1]
end
theorem Qhj (p x:KOb) (h:qk7 p x=true) (hx:x.ok):qkt p x.ob=some (qqn p x):=by
 cases p with
 | cells ty cs =>
  cases x with
  | cells ty' cs' =>
   simp only[qk7,Bool.and_eq_true,beq_iff_eq] at h
   obtain⟨rfl,h⟩:=h
   simp only[qkt,KOb.ob,if_true]
   exact qku cs cs' h hx
  | _=>simp[qk7] at h
 | whole ty w =>
  cases x with
  | whole ty' v =>
   simp only[qk7,beq_iff_eq] at h
   subst h
   have hx':okV v=true:=hx
   have h2:qb8 (qg0 v)=true:=qcx hx'
   simp[qkt,KOb.ob,qqn,qbw,h2]
  | _=>simp[qk7] at h
 | arr k kt ws =>
  cases x with
  | arr k' kt xs =>
   simp only[qk7,Bool.and_eq_true,beq_iff_eq] at h
   obtain⟨rfl,rfl⟩:=h
   have hx':qb8 xs=true:=hx
   simp[qkt,KOb.ob,qqn,qhu,qbw,hx']
  | _=>simp[qk7] at h
 | map ws =>
  cases x with
  | map es =>
   have hx':qb8 es=true:=hx
   simp[qkt,KOb.ob,qqn,qhu,qbw,hx']
  | _=>simp[qk7] at h
 | siter s0 p0 =>
  cases x with
  | siter s pos=>rfl
  | _=>simp[qk7] at h
theorem qnb:∀ (ps xs:List KOb),qjp ps xs=true→(∀ o∈xs,o.ok)→qpt ps (xs.map KOb.ob)=some (qnq ps xs)
 | [],[],_,_=>rfl
 | [],_ :: _,h,_=>by simp[qjp] at h
 | _ :: _,[],h,_=>by simp[qjp] at h
 | p :: ps,x :: xs,h,hx=>by
  simp only[qjp,Bool.and_eq_true] at h
  simp only[List.map_cons,qpt,qnq]
  rw[Qhj p x h.1 (hx x List.mem_cons_self),qnb ps xs h.2 fun o ho=>hx o (List.mem_cons_of_mem _ ho)]
theorem kwit_pv {x:KV} (h:x.ok):qr9 x.pv=Qd1 x:=by
 cases x with
 | arr nm k o n =>
  simp only[KV.pv,Qd1,qr9]
  by_cases hc:k=1∧o=0∧n=0
  ·obtain⟨rfl,rfl,rfl⟩:=hc;rfl
  ·rw[if_neg hc]
   split
   ·rename_i heq
    cases heq
    exact absurd ⟨rfl,rfl,rfl⟩ hc
   ·rfl
 | cv v =>
  have hv:okV v=true:=h
  simp only[KV.pv,Qd1]
  unfold qr9
  split
  ·simp[okV] at hv
  ·rfl
 | _=>rfl
section
variable {ks:KSt}
theorem kioEnd_ok (hk:ks.Ok) {P:qlp} {v:KV} (hv:v.ok) {rs:List PV} (h:Qky P ks v=some rs):∃ out,qwj none 1 0 (qjs P.ins.length) ks.st v.pv=some out∧ioFit P out=some rs:=by
 unfold Qky at h
 split at h
 case h_2=>cases h
 rename_i sp hkeep
 simp only at h
 have hsp:qml ks.nt sp:=hk.kp sp (by rw[hkeep];exact List.mem_singleton.2 rfl)
 have hst:ks.st.keep=qd2 ks.nt sp:=by
  show ks.keep.flatMap (qd2 ks.nt)=_
  rw[hkeep];simp
 have hw:∀ j,qr9 (ks.st.keep.getD j .undef)=Qd1 (qcn sp j):=fun j=>by
  rw[hst,qj7 hsp,kwit_pv (hsp.get_ok j)]
 have hA:qh3 (qjs P.ins.length) ks.st.keep=qmz P.ins.length sp:=by
  unfold qh3 qmz
  exact List.map_congr_left fun p _=>by rw[hw]
 have hG:qxm (qjs P.ins.length) ks.st.keep=Qg8 P.ins.length sp:=by
  unfold qxm Qg8
  congr 1
  exact List.filter_congr fun p _=>by rw[hw]
 have hlk:=qd8 hk
 have hnm:∀ m:Nm,((qbq ks.st.objs m).map Ob.names).getD []=((qdg ks.objs m).map KOb.names).getD []:=by
  intro m
  rw[qk3 hk]
  cases hl:qdg ks.objs m with
  | none=>rfl
  | some o =>
   simp only[Option.map_some,Option.getD_some]
   exact KOb.ob_names (qds hk.ob hl)
 have hN:Qbd (qbq ks.st.objs) (qmz P.ins.length sp) v.pv=Qg7 (qdg ks.objs) (qmz P.ins.length sp) v:=by
  unfold Qbd Qg7
  rw[KV.pv_names hv]
  have e1:((qmz P.ins.length sp).flatMap fun p=>((qbq ks.st.objs p.1).map Ob.names).getD [])=(qmz P.ins.length sp).flatMap fun p=>((qdg ks.objs p.1).map KOb.names).getD []:=by
   congr 1;funext p;exact hnm p.1
  rw[e1,hlk,←qg8 (qcs hk)]
 generalize qmz P.ins.length sp=A at h hA hN
 generalize hNd:Qg7 (qdg ks.objs) A v=N at h hN
 generalize hB:(A++N.zipIdx.map fun p=>(p.1,(1,0+p.2)))=B at h
 split at h
 case isFalse=>cases h
 rename_i hcd
 obtain⟨hnd,hgone,hfit⟩:=hcd
 cases h
 simp only[Bool.and_eq_true] at hfit
 obtain⟨hf1,hf2,hf3⟩:=hfit
 have hoff:(fun m=>if (B.map (·.1)).contains m then none else some none:Nm→Option (Option Ob))=qr4 fun m=>!(B.map (·.1)).contains m:=by
  funext m
  show (if (B.map (·.1)).contains m=true then none else some none)=if (!(B.map (·.1)).contains m)=true then some none else none
  cases (B.map (·.1)).contains m<;>rfl
 have hob:∀ nm,ioOb (qbq ks.st.objs) B nm=(Qn5 (qdg ks.objs) B nm).ob∧(Qn5 (qdg ks.objs) B nm).ok:=by
  intro nm
  unfold ioOb Qn5
  have hok:((qdg ks.objs nm).getD qrz).ok:=by
   cases hl:qdg ks.objs nm with
   | none=>exact rfl
   | some o=>exact qds hk.ob hl
  have hobs:((qbq ks.st.objs nm).getD qjj)=((qdg ks.objs nm).getD qrz).ob:=by
   rw[qk3 hk]
   cases qdg ks.objs nm<;>rfl
  rw[hoff,hobs,←KOb.off_ob _ hok,←KOb.ren_ob _ (KOb.off_ok _ hok)]
  exact⟨rfl,KOb.ren_ok _ (KOb.off_ok _ hok)⟩
 refine⟨{v:=(v.pv.sub fun m=>if (B.map (·.1)).contains m then none else some none).ren fun m=>(B.lookup m).getD m,new:=N.map (ioOb (qbq ks.st.objs) B),ups:=A.map fun p=>(p.2,ioOb (qbq ks.st.objs) B p.1),gone:=Qg8 P.ins.length sp,io:=true},?_,?_⟩
 ·unfold qwj
  simp only
  rw[hA,hN,hB,hG]
  simp[chk,hnd]
 ·unfold ioFit
  simp only
  rw[if_pos hgone]
  have e1:(v.pv.sub fun m=>if (B.map (·.1)).contains m then none else some none).ren (fun m=>(B.lookup m).getD m)=((v.off fun m=>!(B.map (·.1)).contains m).ren fun m=>(B.lookup m).getD m).pv:=by
   rw[hoff,←KV.off_pv _ hv,←KV.ren_pv _ (KV.off_ok _ hv)]
  have e2:(A.map fun p=>(p.2,ioOb (qbq ks.st.objs) B p.1)).map (·.2)=(A.map fun p=>Qn5 (qdg ks.objs) B p.1).map KOb.ob:=by
   rw[List.map_map,List.map_map]
   exact List.map_congr_left fun p _=>(hob p.1).1
  have e3:N.map (ioOb (qbq ks.st.objs) B)=(N.map (Qn5 (qdg ks.objs) B)).map KOb.ob:=by
   rw[List.map_map]
   exact List.map_congr_left fun m _=>(hob m).1
  rw[e1,e2,e3,qs4 _ _ hf1 (KV.ren_ok _ (KV.off_ok _ hv)),qnb _ _ hf2 (fun o ho=>by
   obtain⟨p,_,rfl⟩:=List.mem_map.1 ho;exact (hob p.1).2),qnb _ _ hf3 (fun o ho=>by
   obtain⟨m,_,rfl⟩:=List.mem_map.1 ho;exact (hob m).2)]
end
mutual
theorem Qsa {vs:List PV} (hv:qb8 vs=true):∀ (p:KV) (i:Nat),(fill p vs i).1.ok
 | .un,i | .sk,i | .yld _,i | .ref _ _,i | .aref _ _ _ _,i | .mp _,i | .it _,i | .wit _,i | .arr _ _ _ _,i=>trivial
 | .lit _,i | .nils,i | .cv _,i=>Qds hv i
 | .fn f cap,i=>qn4 hv cap i
 | .tup xs,i=>qn4 hv xs i
 | .agg cs,i=>by
  simp only[fill]
  split
  ·exact Qds hv i
  ·exact qn4 hv cs i
 | .iface t y,i=>by
  simp only[fill]
  split
  ·exact Qds hv i
  ·exact Qsa hv y i
theorem qn4 {vs:List PV} (hv:qb8 vs=true):∀ (ps:List KV) (i:Nat),qg2 (qj6 ps vs i).1
 | [],i=>trivial
 | p :: ps,i=>⟨Qsa hv p i,qn4 hv ps _⟩
theorem Qds {vs:List PV} (hv:qb8 vs=true) (i:Nat):okV (nth vs i)=true:=by
 unfold nth
 rw[List.getD_eq_getElem?_getD]
 cases h:vs[i]? with
 | none=>rfl
 | some x=>exact qkh hv h
end
theorem fillOb_any {vs:List PV} (hv:qb8 vs=true) (p:KOb) (i:Nat):(qfc p vs i).1.ok:=by
 cases p with
 | cells ty cs=>exact qn4 hv cs i
 | whole ty w=>exact Qds hv i
 | arr k kt xs =>
  have:=Qds hv i
  show qb8 (qbc (nth vs i))=true
  unfold qbc
  split
  ·rename_i heq;rw[heq] at this;simpa[okV] using this
  ·rfl
 | map es =>
  have:=Qds hv i
  show qb8 (qc6 (nth vs i))=true
  unfold qc6
  split
  ·rename_i heq;rw[heq] at this;simpa[okV] using this
  ·rfl
 | siter s p=>trivial
theorem Qb0 {vs:List PV} (hv:qb8 vs=true):∀ (ps:List KOb) (i:Nat),(∀ o∈(qdw ps vs i).1,o.ok)∧(qdw ps vs i).1.length=ps.length
 | [],i=>⟨fun o ho=>(by cases ho),rfl⟩
 | p :: ps,i=>by
  obtain⟨h1,h2⟩:=Qb0 hv ps (qfc p vs i).2
  refine⟨fun o ho=>?_,by simp[qdw,h2]⟩
  simp only[qdw,List.mem_cons] at ho
  rcases ho with rfl | ho
  ·exact fillOb_any hv p i
  ·exact h1 o ho
theorem Qsb {vs:List PV}:∀ (ps:List KV) (i:Nat),(∀ p∈ps,qsw p=false)→(∀ x∈(qj6 ps vs i).1,qsw x=false)∧(qj6 ps vs i).1.length=ps.length
 | [],i,_=>⟨fun o ho=>(by cases ho),rfl⟩
 | p :: ps,i,hp=>by
  obtain⟨h1,h2⟩:=Qsb (vs:=vs) ps (fill p vs i).2 fun q hq=>hp q (List.mem_cons_of_mem _ hq)
  refine⟨fun x hx=>?_,by simp[qj6,h2]⟩
  simp only[qj6,List.mem_cons] at hx
  rcases hx with rfl | hx
  ·exact un_fill (hp p List.mem_cons_self)
  ·exact h1 x hx
theorem qfv {cfg:Qcm} {tab:FuncId→Option RFn} (hc:qpe cfg tab) {g:FuncId} {fn:RFn} (ht:tab g=some fn) {P:qlp} {Pf:List KV→List KOb→qlp} (hPf:cfg.ioF g=some Pf) {xs:List KV} {obs:List KOb} (hP:Pf xs obs=P) (hun:P.args.all (fun p=>!qsw p)=true) {vs rs:List PV} (hv:qb8 vs=true)
  (hr:ql0 cfg fn P vs=some rs):ioO cfg.b P g vs=some rs:=by
 obtain⟨fn',ht',hnt,hll⟩:=hc.ioP g Pf hPf
 have hla:=(hll xs obs).1
 have hli:=(hll xs obs).2
 rw[hP] at hla hli
 rw[ht] at ht';cases ht'
 unfold ql0 at hr
 simp only at hr
 rw[qdm] at hr
 obtain⟨u1,u2⟩:=Qsb (vs:=vs) P.args 0 fun p hp=>by simpa using List.all_eq_true.1 hun p hp
 have a1:=qn4 hv P.args 0
 obtain⟨b1,b2⟩:=Qb0 hv P.ins (qj6 P.args vs 0).2
 generalize has:(qj6 P.args vs 0).1=aas at hr u1 u2 a1
 generalize hos:(qdw P.ins vs (qj6 P.args vs 0).2).1=os at hr b1 b2
 obtain⟨i1,i2⟩:=Qpa (nt:=fn.nt) a1 u1 (by omega)
 have hwsp:qml fn.nt (((List.range P.ins.length).filter fun j=>!fn.gone.contains j).map fun j=>(j,KV.wit (0,j))):=by
  refine⟨?_,?_,?_,?_⟩
  ·rw[List.map_map]
   have:((fun p:Nat×KV=>p.1)∘fun j=>(j,KV.wit (0,j)))=id:=rfl
   rw[this,List.map_id]
   exact List.pairwise_lt_range.filter _
  ·intro p hp
   obtain⟨j,hj,rfl⟩:=List.mem_map.1 hp
   have:=List.mem_range.1 (List.mem_filter.1 hj).1
   simp only;omega
  ·intro p hp
   obtain⟨j,hj,rfl⟩:=List.mem_map.1 hp
   trivial
  ·intro p hp
   obtain⟨j,hj,rfl⟩:=List.mem_map.1 hp
   rfl
 have hso:qlo fn.nt [(0,os)]:=⟨by simp,by simp[hnt],fun p hp o ho=>by simp only[List.mem_singleton] at hp;subst hp;exact b1 o ho⟩
 have hks:({nt:=fn.nt,tmps:=aas.zipIdx.map fun p=>(p.2,p.1),objs:=[(0,os)],keep:=[((List.range P.ins.length).filter fun j=>!fn.gone.contains j).map fun j=>(j,KV.wit (0,j))]}:KSt).Ok :=
  ⟨i1.tm,hso,fun sp hsp=>by simp only[List.mem_singleton] at hsp;subst hsp;exact hwsp⟩
 have hst:({nt:=fn.nt,tmps:=aas.zipIdx.map fun p=>(p.2,p.1),objs:=[(0,os)],keep:=[((List.range P.ins.length).filter fun j=>!fn.gone.contains j).map fun j=>(j,KV.wit (0,j))]}:KSt).st=ioSt fn.gone fn.nt (os.map KOb.ob) (pvL aas):=by
  have e1:qd2 fn.nt (aas.zipIdx.map fun p=>(p.2,p.1))=pvL aas++List.replicate (fn.nt - (pvL aas).length) .undef:=congrArg St.tmps i2
  unfold KSt.st ioSt
  simp only
  rw[e1]
  congr 1
  ·refine qj9 (by simp) fun i hi=>?_
   by_cases h0:i=0
   ·subst h0
    rw[List.getElem?_set_self (by simpa using hnt)]
    rfl
   ·rw[List.getElem?_set_ne (Ne.symm h0),List.getElem?_replicate,if_pos hi]
    have:qc1 [(0,os)] i=[]:=by
     simp only[qc1]
     cases hb:Nat.beq i 0 with
     | true=>exact absurd (qc0 hb) h0
     | false=>rfl
    rw[this];rfl
  ·simp only[List.flatMap_cons,List.flatMap_nil,List.append_nil]
   refine qmc (by simp[wits]) fun i hi=>?_
   unfold wits
   rw[List.getElem?_map,List.getElem?_range hi]
   simp only[Option.map_some,List.length_map]
   by_cases hij:i < os.length∧fn.gone.contains i=false
   ·rw[if_pos hij]
    have hm:(i,KV.wit (0,i))∈((List.range P.ins.length).filter fun j=>!fn.gone.contains j).map fun j=>(j,KV.wit (0,j)):=List.mem_map.2 ⟨i,List.mem_filter.2 ⟨List.mem_range.2 (by have:=hij.1;omega),by simp only[hij.2,Bool.not_false]⟩,rfl⟩
    rw[show qcn (((List.range P.ins.length).filter fun j=>!fn.gone.contains j).map fun j=>(j,KV.wit (0,j))) i=KV.wit (0,i) from hwsp.get_mem hm]
    rfl
   ·rw[if_neg hij]
    rw[show qcn (((List.range P.ins.length).filter fun j=>!fn.gone.contains j).map fun j=>(j,KV.wit (0,j))) i=.un from qyz fun p hp=>by
     obtain⟨j,hj,rfl⟩:=List.mem_map.1 hp
     obtain⟨h1,h2⟩:=List.mem_filter.1 hj
     have:=List.mem_range.1 h1
     simp only
     intro e
     subst e
     exact hij ⟨by omega,by simpa using h2⟩]
    rfl
 have fin:∀ {k1:KSt},k1.Ok→(qxf k1 fn.res fun vs=>Qky P k1 (qxh vs))=some rs→(∀ v,qpn k1.st fn.res=some v→Evl fun n=>qwh (qk6 cfg.b.sp tab n) n fn (os.map KOb.ob) (pvL aas)=some (k1.st,qso v))→ioO cfg.b P g vs=some rs:=by
  intro k1 hk1 hr hx
  obtain⟨ws,hr,hws,h1⟩:=Qkv hk1 fn.res hr
  obtain⟨o1,o2⟩:=Qkx hws
  obtain⟨out,g1,g2⟩:=kioEnd_ok hk1 o1 hr
  have hI:cfg.b.I g (os.map KOb.ob) (pvL aas)=some (k1.st,(qxh ws).pv):=by
   rw[hc.I]
   unfold limIo
   rw[ht,o2]
   exact Qdz (hx _ h1)
  unfold ioO
  rw[hos,has,hI]
  simp only[g1,g2]
 split at hr
 ·rename_i hD
  obtain⟨x,k1,e1,hr,hk1,hev⟩:=Qhp hc fn.code (h:=qbe) (hn:=fun _=>qbe) noH 0 hks hr
  rw[hst] at hev
  cases x with
  | exit id=>cases hr
  | _ =>
   refine fin hk1 hr fun v h1=>hev.mono fun n hn'=>?_
   unfold qwh
   rw[if_pos hD,hn']
   simp only[h1]
 ·rename_i hD
  obtain⟨x,k1,l,hr,hk1,hev⟩:=evalDK_ok hc fn.code hks hr
  rw[hst] at hev
  cases x with
  | exit id=>cases hr
  | _ =>
   obtain⟨k2,hr,hk2,hdf⟩:=dfrsK_ok hc l hk1 hr
   refine fin hk2 hr fun v h1=>hev.mono2 hdf fun n hn' hd'=>?_
   unfold qwh
   rw[if_neg hD,hn']
   simp only[hd',h1]
end Go.Ab


namespace Go.Ab
section sp
variable {cx:Cx} {E:Type} {w0:World} {I0 F0:Nat→Prop} {O0:Own} {Hd:Nat→Option Obj} {R:qm7 E} {e:E} {ds:List Deferred} {I F:Nat→Prop} {lp:Nat→Option Nat} {L:Loc} {tmv suf:List Value} {st:St} {w w':World} {dst:Option Nat}
theorem qp7 (hs:SR lp I L st tmv suf w) (hf:Fr cx w0 I0 F0 O0 Hd R e ds I F L w) (h:Qmv w w') {u:PV} {v:Value} (hv:qb7 w' I lp (some L) u v) :
  ∃ I' L',SR lp I' L' (apply st dst {v:=u}) (Qqq tmv dst v) suf w'∧Fr cx w0 I0 F0 O0 Hd R e ds I' F L' w':=by
 have hx:Ext I F w I F w':=⟨h.os,h.tape,h.output,h.size,fun b hb _=>h.same b hb,fun _ h=>h,fun _ h=>.inl h,fun _ h=>.inl h⟩
 have hi:IF I F w':=⟨fun b hb=>Nat.lt_of_lt_of_le (hf.sep.iB b hb) h.size,fun b hb=>⟨Nat.lt_of_lt_of_le (hf.sep.fB b hb).1 h.size,(hf.sep.fB b hb).2⟩⟩
 have hw:cx.Wd I w':=cx.stab I I w w' hf.wd (fun _ h=>h) (fun b hb=>h.same b (hf.sep.iB b hb)) h.size
 have hr:R.rel e I F w':=R.stab e I I F w w' hf.re (fun _ h=>h) (fun b hb=>h.same b (hb.elim (hf.sep.iB b) fun h=>(hf.sep.fB b h).1)) h.size
 refine⟨I,L,?_,hf.called hx hi hw hr⟩
 have h2:=hs.called hf hx
 cases dst with
 | none=>exact h2
 | some d=>exact h2.put d hv
theorem qj3 (w:World):Qmv w w:=⟨rfl,rfl,rfl,Nat.le_refl _,fun _ _=>rfl⟩
theorem sp_turn (hs:SR lp I L st tmv suf w) (hf:Fr cx w0 I0 F0 O0 Hd R e ds I F L w) {nm:Nm} {b C:Nat} (hL:L nm=some (some (b,C)))
  (h1:w'.os=w.os) (h2:w'.tape=w.tape) (h3:w'.output=w.output) (h4:w.heap.size≤w'.heap.size) (hk:∀ k,k < w.heap.size→k≠b→w'.heap[k]?=w.heap[k]?)
  {ob:Ob} (hob:ObRep w' I lp L b C ob) {u:PV} {v:Value} (hv:qb7 w' I lp (some L) u v) :
  ∃ I' L',SR lp I' L' (apply st dst {v:=u,upd:=some (nm,ob)}) (Qqq tmv dst v) suf w'∧Fr cx w0 I0 F0 O0 Hd R e ds I' F L' w':=by
 have hI:∀ k,I k→w'.heap[k]?=w.heap[k]?:=fun k hi=>hk k (hf.sep.iB k hi) fun e=>(hf.lB nm b C hL).2.2.1 (e ▸ hi)
 have hfr:Fr cx w0 I0 F0 O0 Hd R e ds I F L w':=hf.own h1 h2 h3 h4
  (fun k hb hno=>hk k hb fun e=>hno nm C (e ▸ hL)) (fun _ h=>h) (fun _ h=>.inl h)
  (fun nm' b' C' h=>⟨Nat.lt_of_lt_of_le (hf.lB nm' b' C' h).2.1 h4,(hf.lB nm' b' C' h).2.2.1,.inr ⟨nm',C',h⟩⟩) hf.inj
 have hsr:SR lp I L {st with objs:=qdc st.objs nm ob} tmv suf w':=hs.upd hL hI
  (fun m b' C' hm h=>hk b' (hf.lB m b' C' h).2.1 fun e=>hm (hf.inj m nm b' C' C h (e ▸ hL))) hob
 refine⟨I,L,?_,hfr⟩
 cases dst with
 | none=>exact hsr
 | some d=>exact hsr.put d hv
theorem sp_gone (hs:SR lp I L st tmv suf w) (hf:Fr cx w0 I0 F0 O0 Hd R e ds I F L w) {nm:Nm} {p:Option (Nat×Nat)} (hL:L nm=some p)
  (h1:w'.os=w.os) (h2:w'.tape=w.tape) (h3:w'.output=w.output) (h4:w.heap.size≤w'.heap.size) (hk:∀ b',b' < w.heap.size→(∀ C,p≠some (b',C))→w'.heap[b']?=w.heap[b']?)
  {u:PV} {v:Value} (hv:∀ L':Loc,qb7 w' I lp (some L') u v) :
  ∃ I' L',SR lp I' L' (apply st dst {v:=u,upd:=some (nm,qjj),kill:=some nm}) (Qqq tmv dst v) suf w'∧Fr cx w0 I0 F0 O0 Hd R e ds I' F L' w':=by
 have hI:∀ b',I b'→w'.heap[b']?=w.heap[b']?:=fun b' hb'=>hk b' (hf.sep.iB b' hb') fun C e=>(hf.lB nm b' C (by rw[hL,e])).2.2.1 hb'
 have hu:=hs.regrow (w':=w') (k:=0) (kt:=0) (xs:=[]) (p':=none) hL hI
  (fun m b' C' hm hn=>hk b' (hf.lB m b' C' hn).2.1 fun C e=>hm (hf.inj m nm b' C' C hn (by rw[hL,e]))) ⟨0,0,rfl⟩
 refine⟨I,(fun m=>if m=nm then some none else L m),?_,?_⟩
 ·cases dst with
  | none=>exact hu
  | some d=>exact hu.put d (hv _)
 ·refine hf.own h1 h2 h3 h4 (fun b' hb' hn=>hk b' hb' fun C e=>hn nm C (by rw[hL,e])) (fun _ h=>h) (fun _ h=>.inl h) ?_ ?_
  ·intro m b' C' hn
   by_cases hm:m=nm
   ·simp[hm] at hn
   ·simp only[hm,if_false] at hn
    exact⟨by have:=(hf.lB m b' C' hn).2.1;omega,(hf.lB m b' C' hn).2.2.1,.inr ⟨m,C',hn⟩⟩
  ·intro m m' b' C1 C2 hn hn'
   by_cases hm:m=nm
   ·simp[hm] at hn
   ·by_cases hm':m'=nm
    ·simp[hm'] at hn'
    ·simp only[hm,hm',if_false] at hn hn'
     exact hf.inj m m' b' C1 C2 hn hn'
end sp
theorem repL1 {w:World} {I:Nat→Prop} {lp:Nat→Option Nat} {L:Option Loc} {a:PV} {us:List Value} (h:qb0 w I lp L [a] us):∃ u,us=[u]∧qb7 w I lp L a u:=by
 obtain⟨u,r,h1,rfl,h2⟩:∃ u r,qb7 w I lp L a u∧us=u :: r∧qb0 w I lp L [] r:=by
  cases h;exact⟨_,_,by assumption,rfl,by assumption⟩
 cases h2
 exact⟨u,rfl,h1⟩
theorem Qj0 {w:World} {I:Nat→Prop} {lp:Nat→Option Nat} {L:Option Loc} {a b:PV} {us:List Value} (h:qb0 w I lp L [a,b] us):∃ u v,us=[u,v]∧qb7 w I lp L a u∧qb7 w I lp L b v:=by
 obtain⟨u,r,h1,rfl,h2⟩:∃ u r,qb7 w I lp L a u∧us=u :: r∧qb0 w I lp L [b] r:=by
  cases h;exact⟨_,_,by assumption,rfl,by assumption⟩
 obtain⟨v,rfl,h3⟩:=repL1 h2
 exact⟨u,v,rfl,h1,h3⟩
theorem Qjt {W:World} {b o:Nat} {c:Array Value} {n:Value} {E':TypeId} {fr:Nat×Nat} (h:W.heap[b]?=some (.cells c E' fr)):(W.setCell ⟨b,o,none⟩ n).heap[b]?=some (.cells (c.setIfInBounds o n) E' fr):=by
 simp[World.setCell,Array.getElem?_modify,h]
theorem Qjp (W:World) (a:Addr) (n:Value):(W.setCell a n).heap.size=W.heap.size:=by simp[World.setCell]
theorem cell_of_heap {w w':World} {b:Nat} (h:w'.heap[b]?=w.heap[b]?) (o:Nat):w'.cell? ⟨b,o,none⟩=w.cell? ⟨b,o,none⟩:=by
 simp only[World.cell?,h]
end Go.Ab


namespace Go.Ab
open Go
def ErrVars (gs:List Nat) (T:Nat) (I:Nat→Prop) (w:World):Prop :=
 ∃ ad:Nat→Addr,(∀ g∈gs,I g∧I (ad g).block∧(∃ E f,w.heap[g]?=some (.cells #[.iface T (.pointer (some (ad g)))] E f))∧∃ c t,w.heap[(ad g).block]?=some (.cells c t (0,0)))∧∀ g∈gs,∀ g'∈gs,g≠g'→ad g≠ad g'
structure WVars (gs:List Nat) (T:Nat) (et:List (Nat×Value)) (tabs:List (Nat×Array Value)) (ns:List Nat) (I:Nat→Prop) (w:World):Prop where
 err:ErrVars gs T I w
 et0:∀ p∈et,I p.1∧w.cell? ⟨p.1,0,none⟩=some p.2
 tab:∀ p∈tabs,I p.1∧∃ E f,w.heap[p.1]?=some (.cells p.2 E f)
 num:∀ g∈ns,I g∧∃ m,w.cell? ⟨g,0,none⟩=some (.int .i64 m)
def globsE (gs:List Nat) (T:Nat):qp5:=fun g=>if gs.contains g then some [.glob g T] else none
noncomputable def cxOf (P:Program) (mixed:P.follows .mixedOrders=true) (gs:List Nat) (T:Nat) (et:List (Nat×Value)) (tabs:List (Nat×Array Value)) (ns:List Nat):Cx where
 P:=P
 mixed:=mixed
 G:=globsE gs T
 Wd I w:=WVars gs T et tabs ns I w
 stab I I' w w' h h1 h2 _:=by
  obtain⟨⟨ad,e1,e2⟩,e0,ht,hn⟩:=h
  refine⟨⟨ad,fun g hg=>?_,e2⟩,fun p hp=>⟨h1 _ (e0 p hp).1,by rw[cell_of_heap (h2 _ (e0 p hp).1)];exact (e0 p hp).2⟩,fun p hp=>?_,fun g hg=>?_⟩
  ·obtain⟨a1,a2,a3,a4⟩:=e1 g hg
   exact⟨h1 _ a1,h1 _ a2,by rw[h2 _ a1];exact a3,by rw[h2 _ a2];exact a4⟩
  ·obtain⟨a1,a2⟩:=ht p hp
   exact⟨h1 _ a1,by rw[h2 _ a1];exact a2⟩
  ·obtain⟨a1,m,a2⟩:=hn g hg
   exact⟨h1 _ a1,m,by rw[cell_of_heap (h2 _ a1)];exact a2⟩
 gl I w g cs h hg lp L:=by
  unfold globsE at hg
  split at hg
  ·rename_i hgg
   cases hg
   obtain⟨ad,e1,_⟩:=h.err
   obtain⟨a1,a2,⟨E,f,a3⟩,a4⟩:=e1 g (by simpa using hgg)
   exact qb7.ptr (off:=0) (o:=0) [.glob g T] g _ _ _ a1 a3 (by simp) (by simp) (by simp[One];rfl) (by simp;exact .cons _ _ _ _ (.glob g T _ _ _ _ a1 a3 rfl) .nil)
  ·cases hg
def SpAt (cx:Cx) (g:FuncId) (st:St) (vs:List PV) (out:Out):Prop:=qhj cx.P g ∧
  ∀ (E:Type) (w0:World) (I0 F0:Nat→Prop) (O0:Own) (Hd:Nat→Option Obj) (R:qm7 E) (e:E) (ds:List Deferred) (I F:Nat→Prop) (lp:Nat→Option Nat) (L:Loc) (tmv suf us:List Value) (w:World) (dst:Option Nat),
   SR lp I L st tmv suf w→Fr cx w0 I0 F0 O0 Hd R e ds I F L w→qb0 w I lp (some L) vs us→(∀ d,dst=some d→st.objs[d]?=some []) →
   CallsIn Fence.wide 0 cx.P g us.toArray w fun
    | .returned v,w'=>∃ I' L',SR lp I' L' (apply st dst {out with v:=out.v.ren (qkn (dst.getD 0))}) (Qqq tmv dst v) suf w'∧Fr cx w0 I0 F0 O0 Hd R e ds I' F L' w'
    | _,_=>False
def Qvd (f:(Nm→Option Ob)→List PV→Option Out):Prop:=∀ σ σ' vs,(∀ nm∈qcv σ qbp (qbn vs),σ nm=σ' nm)→f σ vs=f σ' vs
theorem qt5 {w:World} {I:Nat→Prop} {lp:Nat→Option Nat} {L:Option Loc} {g:Nat} {t:TypeId} {v:Value} (h:qb7 w I lp L (.glob g t) v):∃ x c E fr,v=.iface t x∧w.heap[g]?=some (.cells c E fr)∧c[0]?=some (.iface t x):=by
 cases h with
 | glob g t x c E fr hI hb hv=>exact⟨x,c,E,fr,rfl,hb,hv⟩
theorem Qg1 {w w':World} (h:Go.RowKit.Below w.heap.size w w'):Qmv w w':=⟨h.os,h.tape,h.output,h.size,h.block⟩
structure AsOK (P:Program) (g:FuncId) (ge:Nat) (et:Value) (ps:List (Nat×Nat)):Prop where
 enters:qhj P g
 none:∀ (v:Value) (w:World),Calls P g #[.nilIface,v] w fun e w'=>e=.returned (.bool false)∧w'=w
 hit:∀ p t,ps.lookup p=some t→∀ (v n:Value),v.cells=#[n]→n.oneCell'=true→∀ (a:Addr) (old:Value) (w:World),w.cell? ⟨ge,0,Option.none⟩=some et→w.cell? a=some old→w.frozen? a=false →
  Calls P g #[.iface t v,.iface p (.pointer (some a))] w fun e w'=>e=.returned (.bool true)∧∃ o1 o2 o3 o4,w'=((((w.alloc o1).alloc o2).alloc o3).alloc o4).setCell a n
section at_
variable {P:Program} {mx:P.follows .mixedOrders=true} {gs:List Nat} {T:Nat} {et:List (Nat×Value)} {tabs:List (Nat×Array Value)} {ns:List Nat}
def spIsG (gs:List Nat) (T:Nat) (S:List Nat):List PV→Option Out
 | [.nilI,.glob g t]=>if g∈gs∧t=T then some {v:=.bool false} else none
 | [.glob g t,.glob g' t']=>if g∈gs∧g'∈gs∧t=T∧t'=T then some {v:=.bool (g==g')} else none
 | [.iface s x,.glob g t]=>if g∈gs∧t=T∧s∈S∧okV x=true then some {v:=.bool false} else none
 | _=>none
structure IsOK (P:Program) (g:FuncId) (T:Nat) (S:List Nat):Prop where
 enters:qhj P g
 none:∀ (a:Addr) (w:World),Calls P g #[.nilIface,.iface T (.pointer (some a))] w fun e w'=>e=.returned (.bool false)∧w'=w
 same:∀ (a:Addr) (w:World),Calls P g #[.iface T (.pointer (some a)),.iface T (.pointer (some a))] w fun e w'=>e=.returned (.bool true)∧w'=w
 other:∀ (a b:Addr) (ca cb:Array Value) (ta tb:TypeId) (w:World),a≠b→w.heap[a.block]?=some (.cells ca ta (0,0))→w.heap[b.block]?=some (.cells cb tb (0,0)) →
  Calls P g #[.iface T (.pointer (some a)),.iface T (.pointer (some b))] w fun e w'=>e=.returned (.bool false)∧w'=w
 type:∀ s∈S,∀ (v:Value) (b:Addr) (w:World),Calls P g #[.iface s v,.iface T (.pointer (some b))] w fun e w'=>e=.returned (.bool false)∧w'=w
theorem is_at {g:FuncId} {S:List Nat} (hA:IsOK P g T S) {st:St} {vs:List PV} {out:Out} (h:spIsG gs T S vs=some out):SpAt (cxOf P mx gs T et tabs ns) g st vs out:=by
 refine⟨hA.enters,?_⟩
 unfold spIsG at h
 split at h
 ·split at h
  ·rename_i hp
   obtain⟨hgg,rfl⟩:=hp
   cases h
   intro E w0 I0 F0 O0 Hd R e ds I F lp L tmv suf us w dst hs hf hu hd
   obtain⟨u,v,rfl,h1,h2⟩:=Qj0 hu
   rw[qm1 h1]
   obtain⟨ad,e1,e2⟩:=hf.wd.err
   obtain⟨x,c,E',fr,rfl,q1,q2⟩:=qt5 h2
   obtain⟨_,_,⟨_,_,a3⟩,_⟩:=e1 _ hgg
   rw[a3] at q1;cases q1;cases q2
   refine callsIn_wide.2 ((hA.none _ w).mono ?_)
   rintro ev w' ⟨rfl,rfl⟩
   exact qp7 hs hf (qj3 _) (.bool false)
  ·cases h
 ·rename_i g1 t1 g2 t2
  split at h
  ·rename_i hp
   obtain⟨hg1,hg2,rfl,rfl⟩:=hp
   cases h
   intro E w0 I0 F0 O0 Hd R e ds I F lp L tmv suf us w dst hs hf hu hd
   obtain⟨u,v,rfl,h1,h2⟩:=Qj0 hu
   obtain⟨ad,e1,e2⟩:=hf.wd.err
   obtain⟨x,c,E',fr,rfl,q1,q2⟩:=qt5 h1
   obtain⟨y,c',E'',fr',rfl,q1',q2'⟩:=qt5 h2
   obtain⟨_,_,⟨_,_,a3⟩,ca,ta,a4⟩:=e1 _ hg1
   obtain⟨_,_,⟨_,_,b3⟩,cb,tb,b4⟩:=e1 _ hg2
   rw[a3] at q1;cases q1;cases q2
   rw[b3] at q1';cases q1';cases q2'
   by_cases hgg:g1=g2
   ·subst hgg
    refine callsIn_wide.2 ((hA.same _ w).mono ?_)
    rintro ev w' ⟨rfl,rfl⟩
    rw[beq_self_eq_true]
    exact qp7 hs hf (qj3 _) (.bool true)
   ·refine callsIn_wide.2 ((hA.other _ _ ca cb ta tb w (e2 _ hg1 _ hg2 hgg) a4 b4).mono ?_)
    rintro ev w' ⟨rfl,rfl⟩
    rw[beq_eq_false_iff_ne.2 hgg]
    exact qp7 hs hf (qj3 _) (.bool false)
  ·cases h
 ·rename_i ss x g1 t1
  split at h
  ·rename_i hp
   obtain⟨hgg,rfl,hS,hx⟩:=hp
   cases h
   intro E w0 I0 F0 O0 Hd R e ds I F lp L tmv suf us w dst hs hf hu hd
   obtain⟨u,v,rfl,h1,h2⟩:=Qj0 hu
   obtain⟨u',rfl,hx'⟩:=qt4 h1
   obtain⟨ad,e1,e2⟩:=hf.wd.err
   obtain⟨x,c,E',fr,rfl,q1,q2⟩:=qt5 h2
   obtain⟨_,_,⟨_,_,a3⟩,_⟩:=e1 _ hgg
   rw[a3] at q1;cases q1;cases q2
   refine callsIn_wide.2 ((hA.type _ hS u' _ w).mono ?_)
   rintro ev w' ⟨rfl,rfl⟩
   exact qp7 hs hf (qj3 _) (.bool false)
  ·cases h
 ·cases h
end at_
section any
variable {cx:Cx} {g:FuncId} {st:St} {vs:List PV} {out:Out}
def spIdx:List PV→Option Out
 | [.str s,.int .u8 c]=>if 0≤c∧c < 256 then some {v:=.int .i64 (Lib.indexByte s (UInt8.ofNat c.toNat))} else none
 | _=>none
theorem idx_at (he:qhj cx.P g) (hc:∀ (s:ByteArray) (c:Int) (w:World),Calls cx.P g #[.string s,.int .u8 c] w fun e w'=>e=.returned (.int .i64 (Lib.indexByte s.data.toList c.toNat.toUInt8))∧w'=w)
  (h:spIdx vs=some out):SpAt cx g st vs out:=by
 refine⟨he,?_⟩
 unfold spIdx at h
 split at h
 ·split at h
  ·cases h
   intro E w0 I0 F0 O0 Hd R e ds I F lp L tmv suf us w dst hs hf hu hd
   obtain⟨u,v,rfl,h1,h2⟩:=Qj0 hu
   rw[qh4 h1,qha h2]
   refine callsIn_wide.2 ((hc _ _ w).mono ?_)
   rintro ev w' ⟨rfl,rfl⟩
   exact qp7 hs hf (qj3 _) (.int _ _)
  ·cases h
 ·cases h
def qp9 (T:Nat) (σ:Nm→Option Ob):List PV→Option Out
 | [.ref n 0]=>match σ n with
  | some (.cells t [.nilP,x])=>if t=T then some {v:=.tup [],upd:=some (n,.cells T [.ref n 0,x])} else none
  | some (.cells t [.ref n' 0,_])=>if t=T∧n'=n then some {v:=.tup []} else none
  | _=>none
 | _=>none
def Qf9 (T U:Nat) (σ:Nm→Option Ob):List PV→Option Out
 | [.ref n 0]=>match σ n with
  | some (.cells t [_,.nilS])=>if t=T then some {v:=.str []} else none
  | some (.cells t [_,.arr n' 1 0 k])=>match σ n' with
   | some (.arr 1 u xs)=>match qhd (xs.take k) with
    | some s=>if t=T∧u=U∧n'≠n∧0 < k∧k≤xs.length∧k≤qdp then some {v:=.str s,upd:=some (n',qjj),kill:=some n'} else none
    | none=>none
   | _=>none
  | _=>none
 | _=>none
theorem check_here (T:Nat):Qvd (qp9 T):=by
 intro σ σ' vs h
 unfold qp9
 split
 ·rename_i n
  rw[h n (qf8 _ _ n (by simp[qbn,PV.names]))]
 ·rfl
theorem str_here (T U:Nat):Qvd (Qf9 T U):=by
 intro σ σ' vs h
 unfold Qf9
 split
 ·rename_i n
  rw[←h n (qf8 _ _ n (by simp[qbn,PV.names]))]
  have h2:∀ t a n' k,σ n=some (.cells t [a,.arr n' 1 0 k])→σ n'=σ' n':=by
   intro t a n' k he
   refine h n' ?_
   show n'∈qcv σ 3 [n]
   unfold qcv
   refine List.mem_append_right _ (qf8 _ _ n' ?_)
   simp[he,Ob.names,qbn,PV.names]
  generalize hx:σ n=o at *
  split
  ·rfl
  ·rename_i t a n' k
   rw[h2 t a n' k rfl]
  ·rfl
 ·rfl
theorem Qdi {w:World} {I:Nat→Prop} {lp:Nat→Option Nat} {L:Option Loc}:∀ (xs:List PV) (vs:List Value) (s:List UInt8),qb0 w I lp L xs vs→qhd xs=some s→∀ (j:Nat) (x:UInt8),s[j]?=some x→vs[j]?=some (.int .u8 (x.toNat:Int))
 | [],_,s,_,h,j,x,hj=>by cases h;simp at hj
 | p :: xs,_,s,h,hb,j,x,hj=>by
  cases h with
  | cons _ v _ vs hv hs =>
   simp only[qhd] at hb
   split at hb
   ·rename_i b bs h1 h2
    cases hb
    have hp:v=.int .u8 (b.toNat:Int):=by
     unfold Qcg at h1
     split at h1
     ·rename_i n
      split at h1
      ·rename_i hn
       cases h1
       rw[qha hv]
       congr 1
       simp
       omega
      ·cases h1
     ·cases h1
    cases j with
    | zero=>simp at hj;subst hj;simp[hp]
    | succ j=>simp at hj ⊢;exact Qdi xs vs bs hs h2 j x hj
   ·cases hb
theorem Qcf:∀ (xs:List PV) (s:List UInt8),qhd xs=some s→s.length=xs.length
 | [],s,h=>by cases h;rfl
 | p :: xs,s,h=>by
  simp only[qhd] at h
  split at h
  ·rename_i b bs h1 h2
   cases h
   simp[Qcf xs bs h2]
  ·cases h
theorem Qfs:∀ (xs:List PV) (s:List UInt8),qhd xs=some s→cellsL xs=xs
 | [],_,_=>rfl
 | p :: xs,s,h=>by
  simp only[qhd] at h
  split at h
  ·rename_i b bs h1 h2
   have hp:p.cells=[p]:=by
    unfold Qcg at h1
    split at h1
    ·rfl
    ·cases h1
   simp[cellsL,hp,Qfs xs bs h2]
  ·cases h
theorem Qh7 {c:Array Value} {a b:Value} (h:c.toList=[a,b]):c=#[a,b]:=by
 apply Array.toList_inj.1
 simpa using h
theorem Qlk {W:World} {a:Addr} {n k:Nat} (h:k≠a.block):(W.freeze a n).heap[k]?=W.heap[k]?:=by
 unfold World.freeze
 split
 ·rfl
 ·simp[Array.getElem?_modify,Ne.symm h]
structure BldOK (P:Program) (gc gs:FuncId) (T U:Nat):Prop where
 entersC:qhj P gc
 entersS:qhj P gs
 nzT:T≠0
 nzU:U≠0
 used:∀ (b:Nat) (w:World),w.cell? ⟨b,0,none⟩=some (.pointer (some ⟨b,0,none⟩))→Calls P gc #[.pointer (some ⟨b,0,none⟩)] w fun e w'=>e=.returned (.tuple #[])∧w'=w
 fresh:∀ (b:Nat) (w:World),w.cell? ⟨b,0,none⟩=some (.pointer none)→w.shape? b=some (T,2)→w.frozen? ⟨b,0,none⟩=false →
  Calls P gc #[.pointer (some ⟨b,0,none⟩)] w fun e w'=>e=.returned (.tuple #[])∧w'=w.setCell ⟨b,0,none⟩ (.pointer (some ⟨b,0,none⟩))
 strNil:∀ (b:Nat) (p:Value) (w:World),w.heap[b]?=some (.cells #[p,.slice none 0 0] T (0,0))→Calls P gs #[.pointer (some ⟨b,0,none⟩)] w fun e w'=>e=.returned (.string ⟨#[]⟩)∧w'=w.drew
 strSome:∀ (b g cap:Nat) (p:Value) (cur:Array Value) (l:List UInt8) (w:World),w.heap[b]?=some (.cells #[p,.slice (some ⟨g,0,none⟩) l.length cap] T (0,0))→w.heap[g]?=some (.cells cur U (0,0))→l≠[]→l.length≤cap→l.length≤cur.size →
  l.length≤9223372036854775807→(∀ (j:Nat) (x:UInt8),l[j]?=some x→cur[j]?=some (Value.int .u8 (x.toNat:Int))) →
  Calls P gs #[.pointer (some ⟨b,0,none⟩)] w fun e w'=>e=.returned (.string ⟨l.toArray⟩)∧w'=w.drew.freeze ⟨g,0,none⟩ l.length
theorem check_at {gs:FuncId} {T U:Nat} (hB:BldOK cx.P g gs T U) (h:qp9 T (qbq st.objs) vs=some out):SpAt cx g st vs out:=by
 refine⟨hB.entersC,?_⟩
 unfold qp9 at h
 split at h
 ·rename_i n
  split at h
  ·rename_i t x hlk
   split at h
   case isFalse=>cases h
   rename_i ht
   subst ht
   cases h
   intro E w0 I0 F0 O0 Hd R e ds I F lp L tmv suf us w dst hs hf hu hd
   obtain⟨u,rfl,hr⟩:=repL1 hu
   obtain⟨b,C,hL,rfl⟩:=qj4 hr
   obtain⟨q,hq,hob⟩:=hs.ob n _ hlk
   rw[hL] at hq;cases hq
   obtain⟨c,E',hb,hC,hone,hcs⟩:=hob
   obtain⟨v0,v1,hc,r0,r1⟩:=Qj0 hcs
   have hc:=Qh7 hc
   subst hc
   obtain rfl:E'=t:=hone.2.resolve_left hB.nzT
   rw[qps r0] at hb
   refine callsIn_wide.2 ((hB.fresh b w (by simp[World.cell?,hb]) (by simp[World.shape?,hb]) (by simp[World.frozen?,hb])).mono ?_)
   rintro ev w' ⟨rfl,rfl⟩
   have hself:=Qjt (o:=0) (n:=.pointer (some ⟨b,0,none⟩)) hb
   have hI:∀ k,I k→(w.setCell ⟨b,0,none⟩ (.pointer (some ⟨b,0,none⟩))).heap[k]?=w.heap[k]?:=fun k hk=>Go.RowKit.Below.heap_setCell _ _ _ _ fun (e:k=b)=>(hf.lB n b C hL).2.2.1 (e ▸ hk)
   refine sp_turn (w':=w.setCell ⟨b,0,none⟩ (.pointer (some ⟨b,0,none⟩))) hs hf hL rfl rfl rfl (by rw[Qjp];exact Nat.le_refl _) (fun k _ hk=>Go.RowKit.Below.heap_setCell _ _ _ _ hk) ?_ (.tup [] #[] .nil)
   refine⟨_,E',hself,by simpa using hC,⟨?_,.inr rfl⟩,?_⟩
   ·intro v hv
    simp at hv
    rcases hv with rfl | rfl
    ·rfl
    ·exact hone.1 _ (by simp)
   ·simp
    exact .cons _ _ _ _ (.ref n 0 b C hL) (.cons _ _ _ _ (qb7.mono (fun _ h=>h) hI (fun _ _ h=>h) r1) .nil)
  ·rename_i t n' x hlk
   split at h
   ·rename_i hn
    obtain⟨rfl,rfl⟩:=hn
    cases h
    intro E w0 I0 F0 O0 Hd R e ds I F lp L tmv suf us w dst hs hf hu hd
    obtain⟨u,rfl,hr⟩:=repL1 hu
    obtain⟨b,C,hL,rfl⟩:=qj4 hr
    obtain⟨q,hq,hob⟩:=hs.ob _ _ hlk
    rw[hL] at hq;cases hq
    obtain⟨c,E',hb,hC,hone,hcs⟩:=hob
    obtain⟨v0,v1,hc,r0,r1⟩:=Qj0 hcs
    have hc:=Qh7 hc
    subst hc
    obtain⟨b',C',hL',rfl⟩:=qj4 r0
    rw[hL] at hL';cases hL'
    refine callsIn_wide.2 ((hB.used b w (by simp[World.cell?,hb])).mono ?_)
    rintro ev w' ⟨rfl,rfl⟩
    exact qp7 hs hf (qj3 _) (.tup [] #[] .nil)
   ·cases h
  ·cases h
 ·cases h
theorem str_at {gc:FuncId} {T U:Nat} (hB:BldOK cx.P gc g T U) (h:Qf9 T U (qbq st.objs) vs=some out):SpAt cx g st vs out:=by
 refine⟨hB.entersS,?_⟩
 unfold Qf9 at h
 split at h
 ·rename_i n
  split at h
  ·rename_i t x hlk
   split at h
   case isFalse=>cases h
   rename_i ht
   subst ht
   cases h
   intro E w0 I0 F0 O0 Hd R e ds I F lp L tmv suf us w dst hs hf hu hd
   obtain⟨u,rfl,hr⟩:=repL1 hu
   obtain⟨b,C,hL,rfl⟩:=qj4 hr
   obtain⟨q,hq,hob⟩:=hs.ob _ _ hlk
   rw[hL] at hq;cases hq
   obtain⟨c,E',hb,hC,hone,hcs⟩:=hob
   obtain⟨v0,v1,hc,r0,r1⟩:=Qj0 hcs
   have hc:=Qh7 hc
   subst hc
   obtain rfl:E'=t:=hone.2.resolve_left hB.nzT
   rw[qhf r1] at hb
   refine callsIn_wide.2 ((hB.strNil b v0 w hb).mono ?_)
   rintro ev w' ⟨rfl,rfl⟩
   exact qp7 (w':=w.drew) hs hf ⟨rfl,rfl,rfl,Nat.le_refl _,fun _ _=>rfl⟩ (.str [])
  ·rename_i t x n' k hlk
   split at h
   ·rename_i u' xs hlk'
    split at h
    ·rename_i s hs'
     split at h
     ·rename_i hc0
      obtain⟨rfl,rfl,hnn,hk0,hkl,hkm⟩:=hc0
      cases h
      intro E w0 I0 F0 O0 Hd R e ds I F lp L tmv suf us w dst hs hf hu hd
      obtain⟨u,rfl,hr⟩:=repL1 hu
      obtain⟨b,C,hL,rfl⟩:=qj4 hr
      obtain⟨q,hq,hob⟩:=hs.ob _ _ hlk
      rw[hL] at hq;cases hq
      obtain⟨c,E',hb,hC,hone,hcs⟩:=hob
      obtain⟨v0,v1,hc,r0,r1⟩:=Qj0 hcs
      have hc:=Qh7 hc
      subst hc
      obtain rfl:E'=t:=hone.2.resolve_left hB.nzT
      obtain⟨q',hq',hob'⟩:=hs.ob _ _ hlk'
      rcases qqq r1 with ⟨g,C',cap,hL',rfl,hC',hn⟩ | ⟨_,_,_,h0⟩
      ·rw[hL'] at hq';cases hq'
       obtain⟨cur,E2,hg,hCg,hle,hkx,hone2,hrep⟩:=hob'
       obtain rfl:E2=u':=hle.2.resolve_left hB.nzU
       have hlen:=Qcf _ _ hs'
       rw[List.length_take,Nat.min_eq_left hkl] at hlen
       have hrk:qb0 w I lp none (xs.take k) (cur.toList.take k):=by
        have h1:=hrep.take k
        rw[show k=k*1 by omega,←qhc hkx,Qfs _ _ hs',List.take_take,Nat.min_eq_left (by omega)] at h1
        simpa using h1
       have hbytes:=Qdi _ _ _ hrk hs'
       have hcur:k≤cur.size:=by have:=hle.1;omega
       subst hlen
       refine callsIn_wide.2 ((hB.strSome b g cap v0 cur s w (by simpa using hb) hg (by intro e;subst e;simp at hk0) hn hcur ?_ ?_).mono ?_)
       ·unfold qdp at hkm;omega
       ·intro j x hx
        have hj:j < s.length:=(List.getElem?_eq_some_iff.1 hx).1
        have h1:=hbytes j x hx
        rw[List.getElem?_take_of_lt hj] at h1
        simpa using h1
       ·rintro ev w' ⟨rfl,rfl⟩
        have hfz:∀ (W:World) (a:Addr) (n:Nat),(W.freeze a n).os=W.os∧(W.freeze a n).tape=W.tape∧(W.freeze a n).output=W.output∧(W.freeze a n).heap.size=W.heap.size:=fun W a n=>by
         unfold World.freeze
         split<;>simp
        obtain⟨f1,f2,f3,f4⟩:=hfz w.drew ⟨g,0,none⟩ s.length
        refine sp_gone (w':=w.drew.freeze ⟨g,0,none⟩ s.length) hs hf hL' f1 f2 f3 (Nat.le_of_eq f4.symm) (fun k' hk' hne=>?_) (fun L'=>.str s)
        rw[Qlk (fun e=>hne C' (by rw[e]))]
        rfl
      ·omega
     ·cases h
    ·cases h
   ·cases h
  ·cases h
 ·cases h
end any
def digs:Nat→Nat→List UInt8
 | 0,_=>[]
 | k+1,u=>if u < 10 then [UInt8.ofNat (48+u)] else digs k (u / 10)++[UInt8.ofNat (48+u%10)]
def Qcu (n:Int):List UInt8:=if n < 0 then 45 :: digs 20 n.natAbs else digs 20 n.toNat
theorem Qpq:∀ (k u:Nat),u < 10 ^ k→0 < k→digs k u=Lib.decDigits u
 | 0,_,_,h=>absurd h (Nat.lt_irrefl _)
 | k+1,u,h,_=>by
  unfold digs
  rw[Lib.decDigits]
  by_cases hu:u < 10
  ·rw[if_pos hu,dif_pos hu]
  ·rw[if_neg hu,dif_neg hu]
   have h1:0 < k:=by
    rcases Nat.eq_zero_or_pos k with rfl | hk
    ·exact absurd (by simpa using h) hu
    ·exact hk
   have h2:u / 10 < 10 ^ k:=by
    refine Nat.div_lt_of_lt_mul ?_
    rw[Nat.pow_succ,Nat.mul_comm] at h
    exact h
   rw[Qpq k (u / 10) h2 h1]
theorem itoa_eq (n:Int) (h0 : -9223372036854775808≤n) (h1:n≤9223372036854775807):Qcu n=Lib.itoa n:=by
 unfold Qcu Lib.itoa
 have hp:(18446744073709551616:Nat)≤10 ^ 20:=by decide
 rw[Qpq 20 n.natAbs (by omega) (by decide),Qpq 20 n.toNat (by omega) (by decide)]
def Qjm:List PV→Option Out
 | [.int .i64 n]=>if -9223372036854775808≤n∧n≤9223372036854775807 then some {v:=.str (Qcu n)} else none
 | _=>none
section at2
variable {P:Program} {mx:P.follows .mixedOrders=true} {gs:List Nat} {T:Nat} {et:List (Nat×Value)} {tabs:List (Nat×Array Value)} {ns:List Nat} {g:FuncId} {st:St} {vs:List PV} {out:Out}
theorem itoa_at (he:qhj P g) {gt:Nat} (ht:(gt,(Lib.pow10Tab.map fun z=>Value.int .u64 z).toArray)∈tabs) (hn:P.globalNamed "internal/strconv.uint64pow10"=some gt)
  (hc:∀ (n:Int), -9223372036854775808≤n→n≤9223372036854775807→∀ w:World,Lib.TabIs P w "internal/strconv.uint64pow10" .u64 Lib.pow10Tab→Calls P g #[.int .i64 n] w fun e w'=>e=.returned (.string ⟨(Lib.itoa n).toArray⟩)∧∃ k os,w'=Sort.grow (w.drewN k) os)
  (h:Qjm vs=some out):SpAt (cxOf P mx gs T et tabs ns) g st vs out:=by
 refine⟨he,?_⟩
 unfold Qjm at h
 split at h
 ·rename_i n
  split at h
  ·rename_i hr
   cases h
   intro E w0 I0 F0 O0 Hd R e ds I F lp L tmv suf us w dst hs hf hu hd
   obtain⟨u,rfl,h1⟩:=repL1 hu
   rw[qha h1]
   obtain⟨_,E',fr,hp⟩:=hf.wd.tab _ ht
   have ht:Lib.TabIs P w "internal/strconv.uint64pow10" .u64 Lib.pow10Tab:=by
    unfold Lib.TabIs World.var?
    rw[hn]
    simp only[Option.bind_some,hp]
   refine callsIn_wide.2 ((hc n hr.1 hr.2 w ht).mono ?_)
   rintro ev w' ⟨rfl,k,os,rfl⟩
   rw[itoa_eq n hr.1 hr.2]
   exact qp7 hs hf (Qg1 (Lib.below_grow _ w (Nat.le_refl _) k os)) (.str _)
  ·cases h
 ·cases h
end at2
theorem cfg_loc {sp:FuncId→(Nm→Option Ob)→List PV→Option Out} (h:∀ g,Qvd (sp g)) (g:FuncId) (σ:Nm→Option Ob) (vs:List PV) (hv:qb8 vs=true):sp g σ vs=sp g (fun _=>none) vs:=by
 refine h g σ _ vs fun nm hm=>?_
 rw[(qb9 hv).1] at hm
 have:qcv σ qbp []=[]:=by simp[qcv,qbp]
 rw[this] at hm
 cases hm
end Go.Ab


namespace Go.Ab
open Go
section
variable {cx:Cx} {E:Type} {w0:World} {I0 F0:Nat→Prop} {O0:Own} {Hd:Nat→Option Obj} {R:qm7 E} {e:E} {ds:List Deferred} {I F:Nat→Prop} {lp:Nat→Option Nat} {L:Loc} {tmv suf:List Value} {st:St} {w:World} {dst:Option Nat}
end
section at_
variable {cx:Cx} {g:FuncId} {st:St} {vs:List PV} {out:Out} {k:IntKind}
end at_
section k_
variable {σ:Nm→Option KOb} {xs:List KV} {out:qcd} {k:IntKind}
end k_
end Go.Ab


namespace Go.Ab
open Go
def kCheck (T:Nat) (σ:Nm→Option KOb):List KV→Option (Bool×qcd)
 | [.ref n 0]=>match σ n with
  | some (.cells t [.cv v,x])=>if t=T then some (Qbc v,{v:=.tup [],upd:=some (n,.cells T [.ref n 0,x])}) else none
  | some (.cells t [.ref n' 0,_])=>if t=T∧n'=n then some (true,{v:=.tup []}) else none
  | _=>none
 | _=>none
def kStr (T U:Nat) (σ:Nm→Option KOb):List KV→Option (Bool×qcd)
 | [.ref n 0]=>match σ n with
  | some (.cells t [_,.nils])=>if t=T then some (true,{v:=.cv (.str [])}) else none
  | some (.cells t [_,.cv v])=>if t=T then some (isNilSB v,{v:=.cv (.str [])}) else none
  | some (.cells t [_,.arr n' 1 0 k])=>match σ n' with
   | some (.arr 1 u xs)=>if t=T∧u=U∧n'≠n then some (qxb k xs,{v:=.cv (qq2 (qbu k xs)),upd:=some (n',qrz),kill:=some n'}) else none
   | _=>none
  | _=>none
 | _=>none
section kb_
variable {σ:Nm→Option KOb} {xs:List KV} {out:qcd} {T U:Nat}
theorem kCheck_ok (hσ:∀ nm o,σ nm=some o→o.ok) (h:kCheck T σ xs=some (true,out)):out.Ok∧qp9 T (fun nm=>(σ nm).map KOb.ob) (pvL xs)=some out.out∧∀ f,out.out.v.ren f=out.out.v:=by
 unfold kCheck at h
 split at h
 case h_2=>cases h
 rename_i n
 split at h
 ·rename_i t v x hn
  split at h
  case isFalse=>cases h
  rename_i ht
  subst ht
  simp only[Option.some.injEq,Prod.mk.injEq] at h
  obtain⟨hv,rfl⟩:=h
  obtain rfl:v=.nilP:=by unfold Qbc at hv;split at hv<;>first | rfl | cases hv
  have hok:=hσ n _ hn
  refine⟨⟨trivial,by simp,fun nm ob he=>by
   cases he
   exact⟨trivial,hok.2.1,trivial⟩,by simp⟩,?_,fun _=>rfl⟩
  simp[pvL,KV.pv,qp9,hn,KOb.ob,qcd.out]
 ·rename_i t n' _ hn
  split at h
  case isFalse=>cases h
  rename_i ht
  obtain⟨rfl,rfl⟩:=ht
  simp only[Option.some.injEq,Prod.mk.injEq,true_and] at h
  subst h
  refine⟨qcd.plain trivial,?_,fun _=>rfl⟩
  simp[pvL,KV.pv,qp9,hn,KOb.ob,qcd.out]
 ·cases h
theorem bytesP_okV (xs:List PV):okV (qq2 xs)=true:=by
 unfold qq2;split<;>rfl
theorem kStr_ok (h:kStr T U σ xs=some (true,out)):out.Ok∧Qf9 T U (fun nm=>(σ nm).map KOb.ob) (pvL xs)=some out.out∧∀ f,out.out.v.ren f=out.out.v:=by
 unfold kStr at h
 split at h
 case h_2=>cases h
 rename_i n
 split at h
 ·rename_i t _ hn
  split at h
  case isFalse=>cases h
  rename_i ht
  subst ht
  simp only[Option.some.injEq,Prod.mk.injEq,true_and] at h
  subst h
  refine⟨qcd.plain (v:=.cv (.str [])) rfl,?_,fun _=>rfl⟩
  simp[pvL,KV.pv,Qf9,hn,KOb.ob,qcd.out]
 ·rename_i t _ v hn
  split at h
  case isFalse=>cases h
  rename_i ht
  subst ht
  simp only[Option.some.injEq,Prod.mk.injEq] at h
  obtain⟨hv,rfl⟩:=h
  obtain rfl:v=.nilS:=by unfold isNilSB at hv;split at hv<;>first | rfl | cases hv
  refine⟨qcd.plain (v:=.cv (.str [])) rfl,?_,fun _=>rfl⟩
  simp[pvL,KV.pv,Qf9,hn,KOb.ob,qcd.out]
 ·rename_i t _ n' k hn
  split at h
  case h_2=>cases h
  rename_i u xs' hn'
  split at h
  case isFalse=>cases h
  rename_i ht
  obtain⟨rfl,rfl,hne⟩:=ht
  simp only[Option.some.injEq,Prod.mk.injEq] at h
  obtain⟨hv,rfl⟩:=h
  unfold qxb at hv
  simp only[Bool.and_eq_true,decide_eq_true_eq] at hv
  obtain⟨h1,h2,h3,h4⟩:=hv
  obtain⟨s,hs⟩:=Option.isSome_iff_exists.1 h1
  refine⟨⟨bytesP_okV _,by simp,fun nm ob he=>by cases he;exact rfl,by simp⟩,?_,fun f=>?_⟩
  ·simp[pvL,KV.pv,Qf9,hn,hn',KOb.ob,qcd.out,hs,hne,h2,h3,h4,qq2,qrz,qjj,qbu]
  ·simp[qcd.out,KV.pv,qq2,qbu,hs,PV.ren]
 ·cases h
end kb_
end Go.Ab


namespace Go.Ab
open Go
def Qr3:qp5:=globsE [1] 407
def Qlh:Hint:=[(32,1,some [(1000004,1),(4000004,1)],false),(32,6,some [(3000004,1)],false),(32,9,some [],false),(59,1,some [(1000008,3),(2000008,1)],false),(13,3,none,true),(80,3,none,true)]
noncomputable def mkF (io shut leans:Bool) (gone:List Nat) (nt:Nat) (f:FuncId):RFn:={nt,code:=((Qpt Go.Proofs.Tryz.prog Qr3 (deadH Qlh Go.Proofs.Tryz.prog f) f).getD default).code,res:=((Qpt Go.Proofs.Tryz.prog Qr3 (deadH Qlh Go.Proofs.Tryz.prog f) f).getD default).res,io,shut,leans,gone}
theorem qbj {io shut leans:Bool} {gone:List Nat} {nt:Nat} {f:FuncId} (h:(Qpt Go.Proofs.Tryz.prog Qr3 (deadH Qlh Go.Proofs.Tryz.prog f) f).map (·.nt)=some nt):Qpt Go.Proofs.Tryz.prog Qr3 (deadH Qlh Go.Proofs.Tryz.prog f) f=some {mkF io shut leans gone nt f with io:=false,shut:=false,leans:=false,gone:=[]}:=by
 obtain⟨fn,h1,rfl⟩:=Option.map_eq_some_iff.1 h
 unfold mkF
 rw[h1]
 have h2:=h1
 unfold Qpt at h2
 split at h2
 ·split at h2
  ·split at h2
   ·cases h2
   ·cases h2;rfl
  ·cases h2
 ·cases h2
noncomputable def fn9:RFn:=mkF false false true [] 36 9
noncomputable def fn10:RFn:=mkF false true false [] 77 10
noncomputable def fn11:RFn:=mkF false true false [] 30 11
noncomputable def fn12:RFn:=mkF false true false [] 50 12
noncomputable def fn13:RFn:=mkF false true false [] 23 13
noncomputable def fn14:RFn:=mkF false true true [] 15 14
noncomputable def fn15:RFn:=mkF false true true [] 43 15
noncomputable def fn16:RFn:=mkF false true false [] 27 16
noncomputable def fn17:RFn:=mkF false true true [] 11 17
noncomputable def fn18:RFn:=mkF false true false [] 22 18
noncomputable def fn24:RFn:=mkF false true false [] 26 24
noncomputable def fn26:RFn:=mkF false true false [] 50 26
noncomputable def fn27:RFn:=mkF false true false [] 71 27
noncomputable def fn28:RFn:=mkF false true true [] 51 28
noncomputable def fn29:RFn:=mkF false true false [] 13 29
noncomputable def fn30:RFn:=mkF true false false [1] 19 30
noncomputable def fn32:RFn:=mkF false true false [] 42 32
noncomputable def fn33:RFn:=mkF false true false [] 65 33
noncomputable def fn34:RFn:=mkF true false false [] 64 34
noncomputable def fn35:RFn:=mkF false true false [] 24 35
noncomputable def fn36:RFn:=mkF false true false [] 6 36
noncomputable def fn37:RFn:=mkF false true false [] 7 37
noncomputable def fn50:RFn:=mkF false true false [] 8 50
noncomputable def fn51:RFn:=mkF false true false [] 56 51
noncomputable def fn52:RFn:=mkF false true false [] 46 52
noncomputable def fn54:RFn:=mkF true false false [1,3,4] 32 54
noncomputable def fn55:RFn:=mkF false true false [] 35 55
noncomputable def fn56:RFn:=mkF false true false [] 9 56
noncomputable def fn57:RFn:=mkF false true false [] 5 57
noncomputable def fn58:RFn:=mkF true false false [] 22 58
noncomputable def fn59:RFn:=mkF false true true [] 66 59
noncomputable def fn60:RFn:=mkF false true false [] 36 60
noncomputable def fn61:RFn:=mkF false true false [] 9 61
noncomputable def fn80:RFn:=mkF false true false [] 37 80
noncomputable def fn82:RFn:=mkF true false false [1,3,4] 81 82
noncomputable def fn83:RFn:=mkF true false false [2,4,5] 51 83
noncomputable def fn85:RFn:=mkF false true false [] 19 85
noncomputable def fn86:RFn:=mkF true false false [1,2] 38 86
noncomputable def fn87:RFn:=mkF false true false [] 6 87
noncomputable def fn88:RFn:=mkF false true false [] 19 88
noncomputable def fn115:RFn:=mkF false true false [] 8 115
noncomputable def fn116:RFn:=mkF true false false [1] 17 116
noncomputable def fn117:RFn:=mkF true false false [1,3,4] 29 117
noncomputable def fn118:RFn:=mkF false true false [] 21 118
noncomputable def fn119:RFn:=mkF true false false [1,2] 53 119
noncomputable def fn152:RFn:=mkF true false false [1,3,4] 46 152
noncomputable def fn3:RFn:=mkF false true false [] 56 3
noncomputable def fn5:RFn:=mkF false true false [] 50 5
noncomputable def fn6:RFn:=mkF false true false [] 117 6
noncomputable def fn8:RFn:=mkF false true false [] 31 8
noncomputable def fn21:RFn:=mkF false true false [] 39 21
noncomputable def fn25:RFn:=mkF false true false [] 26 25
noncomputable def fn41:RFn:=mkF false true false [] 22 41
noncomputable def fn42:RFn:=mkF false true false [] 38 42
noncomputable def fn43:RFn:=mkF false true false [] 80 43
noncomputable def fn69:RFn:=mkF false true false [] 33 69
noncomputable def fn70:RFn:=mkF false true false [] 23 70
noncomputable def fn71:RFn:=mkF false true false [] 69 71
noncomputable def fn72:RFn:=mkF false true false [] 16 72
noncomputable def fn73:RFn:=mkF false true false [] 23 73
noncomputable def fn74:RFn:=mkF false true false [] 34 74
noncomputable def fn84:RFn:=mkF false true false [] 21 84
noncomputable def fn101:RFn:=mkF false true false [] 97 101
noncomputable def fn102:RFn:=mkF false true false [] 42 102
noncomputable def fn103:RFn:=mkF false true false [] 14 103
noncomputable def fn104:RFn:=mkF false true false [] 9 104
noncomputable def fn105:RFn:=mkF false true false [] 9 105
noncomputable def fn106:RFn:=mkF false true false [] 31 106
noncomputable def fn107:RFn:=mkF false true false [] 10 107
noncomputable def fn108:RFn:=mkF true false false [] 119 108
noncomputable def fn109:RFn:=mkF false true false [] 26 109
noncomputable def fn134:RFn:=mkF false true false [] 52 134
noncomputable def fn135:RFn:=mkF false true false [] 24 135
noncomputable def fn136:RFn:=mkF false true false [] 23 136
noncomputable def fn137:RFn:=mkF false true false [] 30 137
noncomputable def fn138:RFn:=mkF false true false [] 54 138
noncomputable def fn139:RFn:=mkF false true false [] 9 139
noncomputable def fn140:RFn:=mkF false true false [] 27 140
noncomputable def fn141:RFn:=mkF false true false [] 10 141
noncomputable def fn142:RFn:=mkF false true false [] 89 142
noncomputable def fn143:RFn:=mkF false true false [] 81 143
noncomputable def fn144:RFn:=mkF false true false [] 22 144
noncomputable def fn145:RFn:=mkF false true false [] 67 145
noncomputable def fn146:RFn:=mkF true false false [] 61 146
noncomputable def fn147:RFn:=mkF false true false [] 19 147
noncomputable def fn148:RFn:=mkF true false false [] 98 148
noncomputable def fn149:RFn:=mkF false true false [] 25 149
noncomputable def fn169:RFn:=mkF false true false [] 40 169
noncomputable def fn170:RFn:=mkF false true false [] 18 170
noncomputable def fn171:RFn:=mkF false true false [] 17 171
noncomputable def fn172:RFn:=mkF false true false [] 21 172
noncomputable def fn173:RFn:=mkF false true false [] 19 173
noncomputable def fn174:RFn:=mkF false true false [] 26 174
noncomputable def fn175:RFn:=mkF false true false [] 34 175
noncomputable def fn176:RFn:=mkF true false false [] 59 176
noncomputable def fn177:RFn:=mkF false true false [] 71 177
noncomputable def fn178:RFn:=mkF true false false [] 84 178
noncomputable def fn179:RFn:=mkF false true false [] 33 179
noncomputable def fn212:RFn:=mkF true false false [] 59 212
noncomputable def fn213:RFn:=mkF false true false [] 11 213
noncomputable def fn214:RFn:=mkF false true false [] 28 214
noncomputable def qc7:FuncId→Option RFn
 | 9=>some fn9
 | 10=>some fn10
 | 11=>some fn11
 | 12=>some fn12
 | 13=>some fn13
 | 14=>some fn14
 | 15=>some fn15
 | 16=>some fn16
 | 17=>some fn17
 | 18=>some fn18
 | 24=>some fn24
 | 26=>some fn26
 | 27=>some fn27
 | 28=>some fn28
 | 29=>some fn29
 | 30=>some fn30
 | 32=>some fn32
 | 33=>some fn33
 | 34=>some fn34
 | 35=>some fn35
 | 36=>some fn36
 | 37=>some fn37
 | 50=>some fn50
 | 51=>some fn51
 | 52=>some fn52
 | 54=>some fn54
 | 55=>some fn55
 | 56=>some fn56
 | 57=>some fn57
 | 58=>some fn58
 | 59=>some fn59
 | 60=>some fn60
 | 61=>some fn61
 | 80=>some fn80
 | 82=>some fn82
 | 83=>some fn83
 | 85=>some fn85
 | 86=>some fn86
 | 87=>some fn87
 | 88=>some fn88
 | 115=>some fn115
 | 116=>some fn116
 | 117=>some fn117
 | 118=>some fn118
 | 119=>some fn119
 | 152=>some fn152
 | 3=>some fn3
 | 5=>some fn5
 | 6=>some fn6
 | 8=>some fn8
 | 21=>some fn21
 | 25=>some fn25
 | 41=>some fn41
 | 42=>some fn42
 | 43=>some fn43
 | 69=>some fn69
 | 70=>some fn70
 | 71=>some fn71
 | 72=>some fn72
 | 73=>some fn73
 | 74=>some fn74
 | 84=>some fn84
 | 101=>some fn101
 | 102=>some fn102
 | 103=>some fn103
 | 104=>some fn104
 | 105=>some fn105
 | 106=>some fn106
 | 107=>some fn107
 | 108=>some fn108
 | 109=>some fn109
 | 134=>some fn134
 | 135=>some fn135
 | 136=>some fn136
 | 137=>some fn137
 | 138=>some fn138
 | 139=>some fn139
 | 140=>some fn140
 | 141=>some fn141
 | 142=>some fn142
 | 143=>some fn143
 | 144=>some fn144
 | 145=>some fn145
 | 146=>some fn146
 | 147=>some fn147
 | 148=>some fn148
 | 149=>some fn149
 | 169=>some fn169
 | 170=>some fn170
 | 171=>some fn171
 | 172=>some fn172
 | 173=>some fn173
 | 174=>some fn174
 | 175=>some fn175
 | 176=>some fn176
 | 177=>some fn177
 | 178=>some fn178
 | 179=>some fn179
 | 212=>some fn212
 | 213=>some fn213
 | 214=>some fn214
 | _=>none
end Go.Ab


set_option maxRecDepth 100000
namespace Go.Ab
open Go
def rsh0:FuncId→RSh×Bool
 | 9=>(.opt 4,false)
 | 12=>(.cl,true)
 | 14=>(.cl,false)
 | 15=>(.cl,false)
 | 17=>(.cl,false)
 | 28=>(.cl,false)
 | 59=>(.cl,false)
 | 118=>(.cl,true)
 | _=>(.cl,true)
def qqc:qlp:={args:=[.ref (0,0) 0,.cv (.bool false)],ins:=[.cells 64 [.ref (0,0) 0,.arr (0,1) 1 0 0],.arr 1 5 []],res:=.tup [.cv (.bool false),.cv (.bool false)],outs:=[.cells 64 [.ref (0,0) 0,.arr (0,1) 1 0 0],.arr 1 5 []],news:=[],gone:=[1]}
def qnj:qlp:={args:=[.ref (0,0) 0,.cv (.bool false)],ins:=[.cells 64 [.cv (.bool false),.cv (.bool false)]],res:=.tup [.cv (.bool false),.cv (.bool false)],outs:=[.cells 64 [.ref (0,0) 0,.arr (1,0) 1 0 0]],news:=[.arr 1 5 []],gone:=[]}
def Qjq:List KV→List KOb→qlp
 | _ ,[.cells _ [.ref _ _,_],_]=>qqc
 | _,_=>qnj
def Qqh:qlp:={args:=[.ref (0,0) 0,.cv (.bool false)],ins:=[.whole 0 (.bool false)],res:=.cv (.bool false),outs:=[.whole 0 (.bool false)],news:=[],gone:=[]}
def shs34:List KV→List KOb→qlp
 | _,_=>Qqh
def sh54:qlp:={args:=[.ref (0,0) 0,.cv (.bool false),.cv (.bool false)],ins:=[.cells 0 [.arr (0,1) 1 0 0,.mp (0,2),.arr (0,3) 1 0 0,.arr (0,4) 1 0 0],.arr 1 0 [],.map [],.arr 1 0 [],.arr 1 0 []],res:=.tup [],outs:=[.cells 0 [.arr (0,1) 1 0 0,.mp (0,2),.arr (0,3) 1 0 0,.arr (0,4) 1 0 0],.arr 1 0 [],.map [],.arr 1 0 [],.arr 1 0 []],news:=[],gone:=[1,3,4]}
def shs54:List KV→List KOb→qlp
 | _,_=>sh54
def sh58:qlp:={args:=[.ref (0,0) 0],ins:=[.whole 0 (.bool false)],res:=.cv (.bool false),outs:=[.whole 0 (.bool false)],news:=[],gone:=[]}
def shs58:List KV→List KOb→qlp
 | _,_=>sh58
def Qna:qlp:={args:=[.ref (0,0) 0,.cv (.bool false),.cv (.bool false)],ins:=[.cells 0 [.arr (0,1) 1 0 0,.mp (0,2),.arr (0,3) 1 0 0,.arr (0,4) 1 0 0],.arr 1 0 [],.map [],.arr 1 0 [],.arr 1 0 []],res:=.tup [],outs:=[.cells 0 [.arr (0,1) 1 0 0,.mp (0,2),.arr (0,3) 1 0 0,.arr (0,4) 1 0 0],.arr 1 0 [],.map [],.arr 1 0 [],.arr 1 0 []],news:=[],gone:=[1,3,4]}
def shs82:List KV→List KOb→qlp
 | _,_=>Qna
def sh83:qlp:={args:=[.ref (0,0) 0,.cv (.bool false),.arr (0,1) 1 0 0],ins:=[.cells 0 [.arr (0,2) 1 0 0,.mp (0,3),.arr (0,4) 1 0 0,.arr (0,5) 1 0 0],.arr 1 0 [],.arr 1 0 [],.map [],.arr 1 0 [],.arr 1 0 []],res:=.tup [],outs:=[.cells 0 [.arr (0,2) 1 0 0,.mp (0,3),.arr (0,4) 1 0 0,.arr (0,5) 1 0 0],.arr 1 0 [],.arr 1 0 [],.map [],.arr 1 0 [],.arr 1 0 []],news:=[],gone:=[2,4,5]}
def shs83:List KV→List KOb→qlp
 | _,_=>sh83
def sh86:qlp:={args:=[.ref (0,0) 0,.cv (.bool false)],ins:=[.cells 0 [.arr (0,1) 3 0 0,.arr (0,2) 1 0 0,.cv (.bool false)],.arr 3 0 [],.arr 1 0 []],res:=.tup [],outs:=[.cells 0 [.arr (0,1) 3 0 0,.arr (0,2) 1 0 0,.cv (.bool false)],.arr 3 0 [],.arr 1 0 []],news:=[],gone:=[1,2]}
def shs86:List KV→List KOb→qlp
 | _,_=>sh86
def sh108:qlp:={args:=[],ins:=[],res:=.un,outs:=[],news:=[],gone:=[]}
def shs108:List KV→List KOb→qlp
 | _,_=>sh108
def qv3:qlp:={args:=[.ref (0,0) 0,.cv (.bool false)],ins:=[.cells 64 [.ref (0,0) 0,.arr (0,1) 1 0 0],.arr 1 5 []],res:=.cv (.bool false),outs:=[.cells 64 [.ref (0,0) 0,.arr (0,1) 1 0 0],.arr 1 5 []],news:=[],gone:=[1]}
def qv2:qlp:={args:=[.ref (0,0) 0,.cv (.bool false)],ins:=[.cells 64 [.cv (.bool false),.cv (.bool false)]],res:=.cv (.bool false),outs:=[.cells 64 [.ref (0,0) 0,.arr (1,0) 1 0 0]],news:=[.arr 1 5 []],gone:=[]}
def qw8:List KV→List KOb→qlp
 | _ ,[.cells _ [.ref _ _,_],_]=>qv3
 | _,_=>qv2
def sh117:qlp:={args:=[.ref (0,0) 0,.cv (.bool false),.cv (.bool false)],ins:=[.cells 0 [.arr (0,1) 1 0 0,.mp (0,2),.arr (0,3) 1 0 0,.arr (0,4) 1 0 0],.arr 1 0 [],.map [],.arr 1 0 [],.arr 1 0 []],res:=.tup [],outs:=[.cells 0 [.arr (0,1) 1 0 0,.mp (0,2),.arr (0,3) 1 0 0,.arr (0,4) 1 0 0],.arr 1 0 [],.map [],.arr 1 0 [],.arr 1 0 []],news:=[],gone:=[1,3,4]}
def shs117:List KV→List KOb→qlp
 | _,_=>sh117
def Qnb:qlp:={args:=[.ref (0,0) 0,.cv (.bool false),.cv (.bool false)],ins:=[.cells 0 [.arr (0,1) 3 0 0,.arr (0,2) 1 0 0,.cv (.bool false)],.arr 3 0 [],.arr 1 0 []],res:=.tup [],outs:=[.cells 0 [.arr (0,1) 3 0 0,.arr (0,2) 1 0 0,.cv (.bool false)],.arr 3 0 [],.arr 1 0 []],news:=[],gone:=[1,2]}
def shs119:List KV→List KOb→qlp
 | _,_=>Qnb
def sh146:qlp:={args:=[],ins:=[],res:=.un,outs:=[],news:=[],gone:=[]}
def shs146:List KV→List KOb→qlp
 | _,_=>sh146
def sh148:qlp:={args:=[],ins:=[],res:=.un,outs:=[],news:=[],gone:=[]}
def shs148:List KV→List KOb→qlp
 | _,_=>sh148
def sh152:qlp:={args:=[.ref (0,0) 0,.cv (.bool false)],ins:=[.cells 0 [.arr (0,1) 1 0 0,.mp (0,2),.arr (0,3) 1 0 0,.arr (0,4) 1 0 0],.arr 1 0 [],.map [],.arr 1 0 [],.arr 1 0 []],res:=.tup [],outs:=[.cells 0 [.arr (0,1) 1 0 0,.mp (0,2),.arr (0,3) 1 0 0,.arr (0,4) 1 0 0],.arr 1 0 [],.map [],.arr 1 0 [],.arr 1 0 []],news:=[],gone:=[1,3,4]}
def shs152:List KV→List KOb→qlp
 | _,_=>sh152
def sh176:qlp:={args:=[],ins:=[],res:=.un,outs:=[],news:=[],gone:=[]}
def shs176:List KV→List KOb→qlp
 | _,_=>sh176
def sh178:qlp:={args:=[],ins:=[],res:=.un,outs:=[],news:=[],gone:=[]}
def shs178:List KV→List KOb→qlp
 | _,_=>sh178
def sh212:qlp:={args:=[],ins:=[],res:=.un,outs:=[],news:=[],gone:=[]}
def shs212:List KV→List KOb→qlp
 | _,_=>sh212
def iof0:FuncId→Option (List KV→List KOb→qlp)
 | 30=>some Qjq
 | 34=>some shs34
 | 54=>some shs54
 | 58=>some shs58
 | 82=>some shs82
 | 83=>some shs83
 | 86=>some shs86
 | 108=>some shs108
 | 116=>some qw8
 | 117=>some shs117
 | 119=>some shs119
 | 146=>some shs146
 | 148=>some shs148
 | 152=>some shs152
 | 176=>some shs176
 | 178=>some shs178
 | 212=>some shs212
 | _=>none
def qjh (b:KB) (dsh:Nat→RSh):Qcm:={b,rsh:=rsh0,spF:=fun f=>f==89||f==79||f==53||f==31||f==151,asT:=fun f p=>none,dsh,ioF:=iof0,spK:=fun f=>if f=53 then some (kCheck 64) else if f=31 then some (kStr 64 5) else none,flatF:=fun f=>f==152}
theorem run9 (B:KB) {E:Type} (h:qbk E) (dep:Nat) (e:E) (x0:PV) :
  qmk (qjh B (fun _=>.cl)) fn9 (.opt 4) h dep [.cv x0] e =
  qbw (qbo [x0,nI 0,.int .i64 0]) (qcf (fun z1=>qbb (qbb (qbd (.len .slice (.c (nth z1.1 0)))) (fun z2=>qbb (qbd (.bin .lss .num false (.c (nth z1.1 2)) (.c
  z2))) (fun z3=>qdu z3 (qbb (qbd (.bin .lss .num true (.c (nth z1.1 2)) (.c (.int .i64 12)))) (fun z4=>some z4)) (some (.bool false))))) (fun z5=>qdu z5 (qbb (qbd
  (.idxAddr 4 (.c (nth z1.1 0)) (.c (nth z1.1 2)))) (fun z6=>qbb (qbd (.fieldAddr 0 (.c z6))) (fun z7=>qbb (qbd (.load 1 false (.c z7))) (fun z8=>qbb (qbd (.idxAddr
  4 (.c (nth z1.1 0)) (.c (nth z1.1 2)))) (fun z9=>qbb (qbd (.fieldAddr 2 (.c z9))) (fun z10=>qbb (qbd (.load 1 false (.c z10))) (fun z11=>qbb (qb6 B .cl (.fn 26
  []) [z11]) (fun z12=>qbb (qbd (.idxAddr 4 (.c (nth z1.1 0)) (.c (nth z1.1 2)))) (fun z13=>qbb (qbd (.fieldAddr 3 (.c z13))) (fun z14=>qbb (qbd (.load 1 false (.c
  z14))) (fun z15=>qbb (qbd (.build [.int .i64 0,.nilS,.nilS,.int .i64 0] [(0,(1,.c z8)),(2,(1,.c z12)),(3,(1,.c z15))])) (fun z16=>qbw (qdd 4 [z16]) (qbw (leN
  (qcq 0 (qbs [z16])) (qbs [z16])) (qbw (qrx (leN (qbi (nth z1.1 1)) (qbs (qbc (nth z1.1 3)))) (leN (qcq (qbi (nth z1.1 1)) (qbs (qbu (qbs [z16]) (qb4 0 [z16]))))
  2147483648)) (qbb (qbd (.bin .add .num true (.c (nth z1.1 2)) (.c (.int .i64 1)))) (fun z17=>some (.inl ([nth z1.1 0,nI (qcq (qbi (nth z1.1 1)) (qbs (qbu (qbs [z16])
  (qb4 0 [z16])))),z17,.sl 4 (qmh (qbu (qbi (nth z1.1 1)) (qbc (nth z1.1 3))) (qbu (qbs [z16]) (qb4 0 [z16]))) false],z1.2)))))))))))))))))) (qbb (qbw (eqN (qbi
  (nth z1.1 1)) (qbs (qbc (nth z1.1 3)))) (some (.sl 4 (qbc (nth z1.1 3)) false,z1.2))) (fun z18=>some (.inr z18))))) ([x0,nI 0,.int .i64 0,.sl 4 [] false],e)):=by kernel_rfl
theorem run10 (B:KB) {E:Type} (h:qbk E) (dep:Nat) (e:E) (x0:PV) :
  qmk (qjh B (fun _=>.cl)) fn10 (.cl) h dep [.cv x0] e =
  qbb (qbb (qbd (.len .slice (.c x0))) (fun z1=>qbb (qbd (.bin .lss .num true (.c z1) (.c (.int .i64 1)))) (fun z2=>qdu z2 (some (.bool true)) (qbb (qbd (.len
  .slice (.c x0))) (fun z3=>qbb (qbd (.bin .gtr .num true (.c z3) (.c (.int .i64 400)))) (fun z4=>some z4)))))) (fun z5=>qdu z5 (some (.bool false,e)) (qbb (qbd (.len
  .slice (.c x0))) (fun z6=>qbb (mkSO z6 z6) (fun z7=>qbw (qbo [x0,nI z7,.int .i64 0]) (qcf (fun z8=>qbb (qbd (.len .slice (.c (nth z8.1 0)))) (fun z9=>qbb
  (qbd (.bin .lss .num false (.c (nth z8.1 2)) (.c z9))) (fun z10=>qdu z10 (qbb (qbd (.idxAddr 3 (.c (nth z8.1 0)) (.c (nth z8.1 2)))) (fun z11=>qbb (qbd (.load 3 true
  (.c z11))) (fun z12=>qbb (qb6 B .cl (.fn 27 []) [z12]) (fun z13=>qbb (qbd (.un .not (.c z13))) (fun z14=>qdu z14 (qbb (some (.bool false,z8.2)) (fun z15=>some
  (.inr z15))) (qbw (qbo [nth z8.1 0,nI (qbi (nth z8.1 1)),nth z8.1 2,.int .i64 (-1),.int .i64 0]) (qcf (fun z16=>qbb (qbd (.idxAddr 3 (.c (nth z16.1 0)) (.c (nth
  z16.1 2)))) (fun z17=>qbb (qbd (.fieldAddr 2 (.c z17))) (fun z18=>qbb (qbd (.load 1 false (.c z18))) (fun z19=>qbb (qbd (.len .slice (.c z19))) (fun z20=>qbb
  (qbd (.bin .lss .num false (.c (nth z16.1 4)) (.c z20))) (fun z21=>qdu z21 (qbb (qbd (.idxAddr 3 (.c (nth z16.1 0)) (.c (nth z16.1 2)))) (fun z22=>qbb (qbd
  (.fieldAddr 2 (.c z22))) (fun z23=>qbb (qbd (.load 1 false (.c z23))) (fun z24=>qbb (qbd (.idxAddr 1 (.c z24) (.c (nth z16.1 4)))) (fun z25=>qbb (qbd (.load 1
  false (.c z25))) (fun z26=>qbb (qbb (qbd (.bin .leq .num false (.c z26) (.c (nth z16.1 3)))) (fun z27=>qdu z27 (some (.bool true)) (qbb (qbd (.bin .geq .num false
  (.c z26) (.c (nth z16.1 2)))) (fun z28=>some z28)))) (fun z29=>qdu z29 (qbb (qbb (some (.bool false,z16.2)) (fun z30=>some (.inr z30))) (fun z31=>some (.inr z31)))
  (qbb (qr6 z26) (fun z32=>qbw (ltN z32 (qbi (nth z16.1 1))) (qbb (qkz (qbc (nth z16.1 5)) (qcq 0 z32) 0 1 false) (fun z33=>qbb (qbd (.bin .add .num true (.c
  z33) (.c (.int .i64 1)))) (fun z34=>qbb (qr6 z26) (fun z35=>qbw (ltN z35 (qbi (nth z16.1 1))) (qbb (setO 1 (qbc (nth z16.1 5)) (qcq 0 z35) 0 1 z34) (fun z36=>qbb
  (qbd (.bin .add .num true (.c (nth z16.1 4)) (.c (.int .i64 1)))) (fun z37=>some (.inl ([nth z16.1 0,nI (qbi (nth z16.1 1)),nth z16.1 2,z26,z37,.sl 1 z36 false],
  z16.2)))))))))))))))))) (qbb (qbb (qbd (.bin .add .num true (.c (nth z16.1 2)) (.c (.int .i64 1)))) (fun z38=>some (.inl ([nth z16.1 0,nI (qbi (nth z16.1 1)),z38,.sl 1
  (qbc (nth z16.1 5)) false],z16.2)))) (fun z39=>some (.inr z39))))))))) ([nth z8.1 0,nI (qbi (nth z8.1 1)),nth z8.1 2,.int .i64 (-1),.int .i64 0,.sl 1 (qbc (nth z8.1
  3)) false],z8.2)))))))) (qbb (qbw (qbo [nth z8.1 0,nI (qbi (nth z8.1 1)),.int .i64 0]) (qcf (fun z40=>qbb (qbd (.bin .add .num true (.c (nth z40.1 2)) (.c (.int
  .i64 1)))) (fun z41=>qbb (qbd (.len .slice (.c (nth z40.1 0)))) (fun z42=>qbb (qbd (.bin .lss .num false (.c z41) (.c z42))) (fun z43=>qdu z43 (qbb (qr6 (nth
  z40.1 2)) (fun z44=>qbw (ltN z44 (qbi (nth z40.1 1))) (qbb (qkz (qbc (nth z40.1 3)) (qcq 0 z44) 0 1 false) (fun z45=>qbb (qbd (.bin .neq .num true (.c z45) (.c
  (.int .i64 1)))) (fun z46=>qdu z46 (qbb (some (.bool false,z40.2)) (fun z47=>some (.inr z47))) (qbb (qbd (.bin .add .num true (.c (nth z40.1 2)) (.c (.int .i64 1))))
  (fun z48=>some (.inl ([nth z40.1 0,nI (qbi (nth z40.1 1)),z48,.sl 1 (qbc (nth z40.1 3)) false],z40.2))))))))) (qbb (some (.bool true,z40.2)) (fun z49=>some (.inr
  z49))))))) ([nth z8.1 0,nI (qbi (nth z8.1 1)),.int .i64 0,.sl 1 (qbc (nth z8.1 3)) false],z8.2))) (fun z50=>some (.inr z50)))))) ([x0,nI z7,.int .i64 0,.sl 1 (qmn z7
  (.int .i64 0)) false],e)))))):=by kernel_rfl
noncomputable def lp11_0 (B:KB) {E:Type}:List PV×E→Option (Sum (List PV×E) (PV×E)):=(fun y0=>qbb (qbd (.len .slice (.c (nth y0.1 0)))) (fun y1=>qbb (qbd (.bin .lss .num false (.c (nth y0.1 1)) (.c y1))) (fun y2=>qdu y2 (qbb (qbd (.idxAddr 3 (.c (nth y0.1 0)) (.c (nth y0.1 1)))) (fun y3=>qbb (qbd (.fieldAddr 0 (.c y3))) (fun y4=>qbb (qbd (.load 1 false (.c y4))) (fun y5=>qbb (qbd (.bin .neq .num true (.c y5) (.c (.int .i64 5)))) (fun y6=>qdu y6 (qbb (qbd (.bin .add .num true (.c (nth y0.1 1)) (.c (.int .i64 1)))) (fun y7=>some (.inl ([nth y0.1 0,y7],y0.2)))) (qbb (qbd (.idxAddr 3 (.c (nth y0.1 0)) (.c (nth y0.1 1)))) (fun y8=>qbb (qbd (.fieldAddr 2 (.c y8))) (fun y9=>qbb (qbd (.load 1 false (.c y9))) (fun y10=>qbb (qbd (.idxAddr 1 (.c y10) (.c (.int .i64 0)))) (fun y11=>qbb (qbd (.load 1 false (.c y11))) (fun y12=>qbb (qbd (.idxAddr 3 (.c (nth y0.1 0)) (.c y12))) (fun y13=>qbb (qbd (.fieldAddr 0 (.c y13))) (fun y14=>qbb (qbd (.load 1 false (.c y14))) (fun y15=>qbb (qbd (.bin .eql .num true (.c y15) (.c (.int .i64 8)))) (fun y16=>qdu y16 (qbb (some (.bool true,y0.2)) (fun y17=>some (.inr y17))) (qbb (qbd (.bin .add .num true (.c (nth y0.1 1)) (.c (.int .i64 1)))) (fun y18=>some (.inl ([nth y0.1 0,y18],y0.2))))))))))))))))))) (qbb (some (.bool false,y0.2)) (fun y19=>some (.inr y19))))))
theorem run11 (B:KB) {E:Type} (h:qbk E) (dep:Nat) (e:E) (x0:PV):qmk (qjh B (fun _=>.cl)) fn11 (.cl) h dep [.cv x0] e=qbw (qbo [x0,.int .i64 0]) (qcf (lp11_0 B) ([x0,.int .i64 0],e)):=by kernel_rfl
noncomputable def Qrb (B:KB) {E:Type}:List PV×E→Option (Sum (List PV×E) (PV×E)):=(fun y0=>qbb (qbd (.len .slice (.c (nth y0.1 5)))) (fun y1=>qbb (qbd (.bin .lss .num false (.c (nth y0.1 2)) (.c y1))) (fun y2=>qdu y2 (qbb (qbd (.idxAddr 1 (.c (nth y0.1 5)) (.c (nth y0.1 2)))) (fun y3=>qbb (qbd (.load 1 false (.c y3))) (fun y4=>qbb (qb6 B .cl (.fn 12 []) [nth y0.1 0,y4]) (fun y5=>qbw (qdd 1 [y5]) (qbw (leN (qcq 0 (qbs [y5])) (qbs [y5])) (qbw (qrx (leN (qbi (nth y0.1 1)) (qbs (qbc (nth y0.1 6)))) (leN (qcq (qbi (nth y0.1 1)) (qbs (qbu (qbs [y5]) (qb4 0 [y5])))) 2147483648)) (qbb (qbd (.bin .add .num true (.c (nth y0.1 2)) (.c (.int .i64 1)))) (fun y6=>some (.inl ([nth y0.1 0,nI (qcq (qbi (nth y0.1 1)) (qbs (qbu (qbs [y5]) (qb4 0 [y5])))),y6,nth y0.1 3,nth y0.1 4,nth y0.1 5,.sl 1 (qmh (qbu (qbi (nth y0.1 1)) (qbc (nth y0.1 6))) (qbu (qbs [y5]) (qb4 0 [y5]))) false],y0.2)))))))))) (qbb (qbb (qh2 B .cl false 28 [nth y0.1 3,nth y0.1 4,slO 1 1 (qbc (nth y0.1 6)) 0 (qbi (nth y0.1 1))]) (fun y7=>qbb (qbd (.extract 0 (.c y7))) (fun y8=>qbb (qbd (.extract 1 (.c y7))) (fun y9=>some (y8,y0.2))))) (fun y10=>some (.inr y10))))))
theorem run12 (B:KB) {E:Type} (h:qbk E) (dep:Nat) (e:E) (x0:PV) (x1:PV):qmk (qjh B (fun _=>.cl)) fn12 (.cl) h dep [.cv x0,.cv x1] e=qbb (qbd (.idxAddr 3 (.c x0) (.c x1))) (fun z1=>qbb (qbd (.load 3 true (.c z1))) (fun z2=>qbw (qcu z2 3) (qbb (qbd (.bin .eql .num true (.c (qbl z2 0)) (.c (.int .i64 5)))) (fun z3=>qdu z3 (qbb (qbd (.idxAddr 1 (.c (qbl z2 2)) (.c (.int .i64 0)))) (fun z4=>qbb (qbd (.load 1 false (.c z4))) (fun z5=>qbb (qb6 B .cl (.fn 12 []) [x0,z5]) (fun z6=>some (z6,e))))) (qbw (qbo [x0,nI 0,.int .i64 0]) (qcf (Qrb B) ([x0,nI 0,.int .i64 0,qbl z2 0,qbl z2 1,qbl z2 2,.sl 1 [] false],e))))))):=by kernel_rfl
noncomputable def qzx (B:KB) {E:Type}:List PV×E→Option (Sum (List PV×E) (PV×E)):=(fun y0=>qbb (qbd (.bin .lss .num false (.c (nth y0.1 2)) (.c (nth y0.1 1)))) (fun y1=>qdu y1 (qbb (qbd (.idxAddr 1 (.c (nth y0.1 0)) (.c (nth y0.1 2)))) (fun y2=>qbb (qbd (.load 1 false (.c y2))) (fun y3=>qbb (qb6 B .cl (.fn 29 []) [y3]) (fun y4=>qbb (qbd (.bin .eql .str true (.c y4) (.c (.str [])))) (fun y5=>qdu y5 (qbb (qbd (.bin .add .str true (.c (.str [33])) (.c (.str [10])))) (fun y6=>qbb (ioO B qqc 30 [y6,nI (qbi (nth y0.1 3)),.sl 1 (qbc (nth y0.1 4)) false]) (fun y7=>qbb (qbd (.bin .add .num true (.c (nth y0.1 2)) (.c (.int .i64 1)))) (fun y8=>some (.inl ([nth y0.1 0,nth y0.1 1,y8,nI (qbi (nth y7 2)),.sl 1 (qbc (nth y7 3)) false],y0.2)))))) (qbb (qbd (.bin .add .str true (.c y4) (.c (.str [10])))) (fun y9=>qbb (ioO B qqc 30 [y9,nI (qbi (nth y0.1 3)),.sl 1 (qbc (nth y0.1 4)) false]) (fun y10=>qbb (qbd (.bin .add .num true (.c (nth y0.1 2)) (.c (.int .i64 1)))) (fun y11=>some (.inl ([nth y0.1 0,nth y0.1 1,y11,nI (qbi (nth y10 2)),.sl 1 (qbc (nth y10 3)) false],y0.2))))))))))) (qbb (qbw (qxb (qbi (nth y0.1 3)) (qbc (nth y0.1 4))) (some (qq2 (qbu (qbi (nth y0.1 3)) (qbc (nth y0.1 4))),y0.2))) (fun y12=>some (.inr y12)))))
theorem run13 (B:KB) {E:Type} (h:qbk E) (dep:Nat) (e:E) (x0:PV):qmk (qjh B (fun _=>.cl)) fn13 (.cl) h dep [.cv x0] e=qbb (qb6 B .cl (.fn 15 []) [x0]) (fun z1=>qbb (qbd (.len .slice (.c z1))) (fun z2=>qbb (qbd (.bin .lss .num false (.c (.int .i64 0)) (.c z2))) (fun z3=>qdu z3 (qbb (qbd (.idxAddr 1 (.c z1) (.c (.int .i64 0)))) (fun z4=>qbb (qbd (.load 1 false (.c z4))) (fun z5=>qbb (qb6 B .cl (.fn 29 []) [z5]) (fun z6=>qbb (qbd (.bin .eql .str true (.c z6) (.c (.str [])))) (fun z7=>qdu z7 (qbb (qbd (.bin .add .str true (.c (.str [33])) (.c (.str [10])))) (fun z8=>qbb (ioO B qnj 30 [z8,.nilP,.nilS]) (fun z9=>qbb (qbd (.bin .add .num true (.c (.int .i64 0)) (.c (.int .i64 1)))) (fun z10=>qbw (qbo [z1,z2,z10]) (qcf (qzx B) ([z1,z2,z10,nI (qbi (nth z9 2)),.sl 1 (qbc (nth z9 3)) false],e)))))) (qbb (qbd (.bin .add .str true (.c z6) (.c (.str [10])))) (fun z24=>qbb (ioO B qnj 30 [z24,.nilP,.nilS]) (fun z25=>qbb (qbd (.bin .add .num true (.c (.int .i64 0)) (.c (.int .i64 1)))) (fun z26=>qbw (qbo [z1,z2,z26]) (qcf (qzx B) ([z1,z2,z26,nI (qbi (nth z25 2)),.sl 1 (qbc (nth z25 3)) false],e))))))))))) (some (.str [],e))))):=by kernel_rfl
noncomputable def Qra (B:KB) {E:Type}:List PV×E→Option (Sum (List PV×E) (PV×E)):=(fun y0=>qbb (qbd (.bin .lss .num false (.c (nth y0.1 4)) (.c (nth y0.1 3)))) (fun y1=>qdu y1 (qbb (qbd (.idxAddr 1 (.c (nth y0.1 2)) (.c (nth y0.1 4)))) (fun y2=>qbb (qbd (.load 1 false (.c y2))) (fun y3=>qbb (qbd (.idxAddr 4 (.c (nth y0.1 0)) (.c (nth y0.1 4)))) (fun y4=>qbb (qbd (.fieldAddr 2 (.c y4))) (fun y5=>qbb (qbd (.load 1 false (.c y5))) (fun y6=>qbb (qb6 B .cl (.fn 33 []) [y6]) (fun y7=>qdu y7 (qbb (qbd (.idxAddr 4 (.c (nth y0.1 0)) (.c (nth y0.1 4)))) (fun y8=>qbb (qbd (.fieldAddr 2 (.c y8))) (fun y9=>qbb (qbd (.load 1 false (.c y9))) (fun y10=>qbb (qbd (.build [.nilS,.nilS] [(0,(1,.c y10)),(1,(1,.c y3))])) (fun y11=>qbw (valO y11) (qbb (qbd (.idxAddr 4 (.c (nth y0.1 0)) (.c (nth y0.1 4)))) (fun y12=>qbb (qbd (.fieldAddr 2 (.c y12))) (fun y13=>qbb (qbd (.load 1 false (.c y13))) (fun y14=>qbb (qbd (.len .slice (.c y14))) (fun y15=>qbb (qbd (.bin .sub .num true (.c y15) (.c (.int .i64 1)))) (fun y16=>qbb (ioO B Qqh 34 [y16,y11]) (fun y17=>qbw (qdd 1 [nth y17 0]) (qbw (leN (qcq 0 (qbs [nth y17 0])) (qbs [nth y17 0])) (qbw (qrx (leN (qbi (nth y0.1 1)) (qbs (qbc (nth y0.1 5)))) (leN (qcq (qbi (nth y0.1 1)) (qbs (qbu (qbs [nth y17 0]) (qb4 0 [nth y17 0])))) 2147483648)) (qbb (qbd (.bin .add .num true (.c (nth y0.1 4)) (.c (.int .i64 1)))) (fun y18=>some (.inl ([nth y0.1 0,nI (qcq (qbi (nth y0.1 1)) (qbs (qbu (qbs [nth y17 0]) (qb4 0 [nth y17 0])))),nth y0.1 2,nth y0.1 3,y18,.sl 1 (qmh (qbu (qbi (nth y0.1 1)) (qbc (nth y0.1 5))) (qbu (qbs [nth y17 0]) (qb4 0 [nth y17 0]))) false],y0.2)))))))))))))))))) (qbw (qdd 1 [.nilS]) (qbw (leN (qcq 0 (qbs [.nilS])) (qbs [.nilS])) (qbw (qrx (leN (qbi (nth y0.1 1)) (qbs (qbc (nth y0.1 5)))) (leN (qcq (qbi (nth y0.1 1)) (qbs (qbu (qbs [.nilS]) (qb4 0 [.nilS])))) 2147483648)) (qbb (qbd (.bin .add .num true (.c (nth y0.1 4)) (.c (.int .i64 1)))) (fun y19=>some (.inl ([nth y0.1 0,nI (qcq (qbi (nth y0.1 1)) (qbs (qbu (qbs [.nilS]) (qb4 0 [.nilS])))),nth y0.1 2,nth y0.1 3,y19,.sl 1 (qmh (qbu (qbi (nth y0.1 1)) (qbc (nth y0.1 5))) (qbu (qbs [.nilS]) (qb4 0 [.nilS]))) false],y0.2)))))))))))))) (qbb (qbw (okU (slO 1 1 (qbc (nth y0.1 5)) 0 (qbi (nth y0.1 1)))) (some (slO 1 1 (qbc (nth y0.1 5)) 0 (qbi (nth y0.1 1)),y0.2))) (fun y20=>some (.inr y20)))))
theorem run15 (B:KB) {E:Type} (h:qbk E) (dep:Nat) (e:E) (x0:PV):qmk (qjh B (fun _=>.cl)) fn15 (.cl) h dep [.cv x0] e=qbb (qb6 B .cl (.fn 17 []) [x0]) (fun z1=>qbb (qbd (.len .slice (.c z1))) (fun z2=>qbw (qbo [x0,nI 0,z1,z2,.int .i64 0]) (qcf (Qra B) ([x0,nI 0,z1,z2,.int .i64 0,.sl 1 [] false],e)))):=by kernel_rfl
theorem run17 (B:KB) {E:Type} (h:qbk E) (dep:Nat) (e:E) (x0:PV) :
  qmk (qjh B (fun _=>.cl)) fn17 (.cl) h dep [.cv x0] e =
  qbb (qb6 B .cl (.fn 32 []) [x0]) (fun z1=>qbb (qbd (.extract 0 (.c z1))) (fun z2=>qbb (qbd (.extract 1 (.c z1))) (fun z3=>some (z3,e)))):=by kernel_rfl
theorem run26 (B:KB) {E:Type} (h:qbk E) (dep:Nat) (e:E) (x0:PV) :
  qmk (qjh B (fun _=>.cl)) fn26 (.cl) h dep [.cv x0] e =
  qbw (qbo [x0,nI 0,.int .i64 0]) (qcf (fun z1=>qbb (qbb (qbd (.len .slice (.c (nth z1.1 0)))) (fun z2=>qbb (qbd (.bin .lss .num false (.c (nth z1.1 2)) (.c
  z2))) (fun z3=>qdu z3 (qbb (qbd (.bin .lss .num true (.c (nth z1.1 2)) (.c (.int .i64 60)))) (fun z4=>some z4)) (some (.bool false))))) (fun z5=>qdu z5 (qbb (qbd
  (.idxAddr 3 (.c (nth z1.1 0)) (.c (nth z1.1 2)))) (fun z6=>qbb (qbd (.fieldAddr 0 (.c z6))) (fun z7=>qbb (qbd (.load 1 false (.c z7))) (fun z8=>qbb (qbd (.idxAddr
  3 (.c (nth z1.1 0)) (.c (nth z1.1 2)))) (fun z9=>qbb (qbd (.fieldAddr 1 (.c z9))) (fun z10=>qbb (qbd (.load 1 false (.c z10))) (fun z11=>qbb (qb6 B .cl (.fn 50
  []) [z11]) (fun z12=>qbb (qbd (.build [.int .i64 0,.str [],.nilS] [(0,(1,.c z8)),(1,(1,.c z12))])) (fun z13=>qbw (qcu z13 3) (qbb (qbd (.idxAddr 3 (.c (nth
  z1.1 0)) (.c (nth z1.1 2)))) (fun z14=>qbb (qbd (.fieldAddr 2 (.c z14))) (fun z15=>qbb (qbd (.load 1 false (.c z15))) (fun z16=>qbb (qbd (.idxAddr 3 (.c (nth z1.1
  0)) (.c (nth z1.1 2)))) (fun z17=>qbb (qbd (.fieldAddr 2 (.c z17))) (fun z18=>qbb (qbd (.load 1 false (.c z18))) (fun z19=>qbb (qbd (.len .slice (.c z19))) (fun
  z20=>qbb (qbd (.minmax false [.c z20,.c (.int .i64 60)])) (fun z21=>qbb (qbd (.slice 1 (.c z16) none (some (.c z21)) none)) (fun z22=>qbb (qjr 1 z22) (fun z23
  => qbb (appO 1 (qbl z13 2) z23) (fun z24=>qbw (qdd 3 [.agg [qbl z13 0,qbl z13 1,slO 1 1 z24 0 (qbs z24)]]) (qbw (leN (qcq 0 (qbs [.agg [qbl z13 0,qbl z13 1,
  slO 1 1 z24 0 (qbs z24)]])) (qbs [.agg [qbl z13 0,qbl z13 1,slO 1 1 z24 0 (qbs z24)]])) (qbw (qrx (leN (qbi (nth z1.1 1)) (qbs (qbc (nth z1.1 3)))) (leN (qcq (qbi
  (nth z1.1 1)) (qbs (qbu (qbs [.agg [qbl z13 0,qbl z13 1,slO 1 1 z24 0 (qbs z24)]]) (qb4 0 [.agg [qbl z13 0,qbl z13 1,slO 1 1 z24 0 (qbs z24)]])))) 2147483648))
  (qbb (qbd (.bin .add .num true (.c (nth z1.1 2)) (.c (.int .i64 1)))) (fun z25=>some (.inl ([nth z1.1 0,nI (qcq (qbi (nth z1.1 1)) (qbs (qbu (qbs [.agg [qbl z13 0,
  qbl z13 1,slO 1 1 z24 0 (qbs z24)]]) (qb4 0 [.agg [qbl z13 0,qbl z13 1,slO 1 1 z24 0 (qbs z24)]])))),z25,.sl 3 (qmh (qbu (qbi (nth z1.1 1)) (qbc (nth z1.1
  3))) (qbu (qbs [.agg [qbl z13 0,qbl z13 1,slO 1 1 z24 0 (qbs z24)]]) (qb4 0 [.agg [qbl z13 0,qbl z13 1,slO 1 1 z24 0 (qbs z24)]]))) false],
  z1.2))))))))))))))))))))))))))) (qbb (qbw (okU (slO 3 3 (qbc (nth z1.1 3)) 0 (qbi (nth z1.1 1)))) (some (slO 3 3 (qbc (nth z1.1 3)) 0 (qbi (nth z1.1 1)),z1.2))) (fun
  z26=>some (.inr z26))))) ([x0,nI 0,.int .i64 0,.sl 3 [] false],e)):=by kernel_rfl
noncomputable def Qq9 (B:KB) {E:Type}:List PV×E→Option (Sum (List PV×E) (PV×E)):=(fun y0=>qbb (qbd (.len .slice (.c (nth y0.1 0)))) (fun y1=>qbb (qbd (.bin .lss .num false (.c (nth y0.1 2)) (.c y1))) (fun y2=>qdu y2 (qbb (qbd (.idxAddr 1 (.c (nth y0.1 0)) (.c (nth y0.1 2)))) (fun y3=>qbb (qbd (.load 1 false (.c y3))) (fun y4=>qbb (qb6 B .cl (.fn 10 []) [y4]) (fun y5=>qbb (qbd (.un .not (.c y5))) (fun y6=>qdu y6 (qbb (some (.tup [.nilS,.int .i64 70],y0.2)) (fun y7=>some (.inr y7))) (qbb (qbd (.idxAddr 1 (.c (nth y0.1 0)) (.c (nth y0.1 2)))) (fun y8=>qbb (qbd (.load 1 false (.c y8))) (fun y9=>qbb (qb6 B .cl (.fn 51 []) [y9,nI (qbi (nth y0.1 1))]) (fun y10=>qbb (qjr 3 y10) (fun y11=>qbw (qrx (leN (qbi (nth y0.1 1)) (qbs (qbc (nth y0.1 7)))) (leN (qcq (qbi (nth y0.1 1)) (qbs y11)) 2147483648)) (qbb (qbd (.bin .sub .num true (.c (nI (qcq (qbi (nth y0.1 1)) (qbs y11)))) (.c (.int .i64 1)))) (fun y12=>qbw (qdd 1 [y12]) (qbw (leN (qcq 0 (qbs [y12])) (qbs [y12])) (qbw (qrx (leN (qbi (nth y0.1 5)) (qbs (qbc (nth y0.1 6)))) (leN (qcq (qbi (nth y0.1 5)) (qbs (qbu (qbs [y12]) (qb4 0 [y12])))) 2147483648)) (qbb (qbd (.bin .add .num true (.c (nth y0.1 2)) (.c (.int .i64 1)))) (fun y13=>some (.inl ([nth y0.1 0,nI (qcq (qbi (nth y0.1 1)) (qbs y11)),y13,nth y0.1 3,nth y0.1 4,nI (qcq (qbi (nth y0.1 5)) (qbs (qbu (qbs [y12]) (qb4 0 [y12])))),.sl 1 (qmh (qbu (qbi (nth y0.1 5)) (qbc (nth y0.1 6))) (qbu (qbs [y12]) (qb4 0 [y12]))) false,.sl 3 (qmh (qbu (qbi (nth y0.1 1)) (qbc (nth y0.1 7))) y11) false],y0.2)))))))))))))))))) (qbb (qbw (qdd 3 [.agg [nth y0.1 3,nth y0.1 4,slO 1 1 (qbc (nth y0.1 6)) 0 (qbi (nth y0.1 5))]]) (qbw (leN (qcq 0 (qbs [.agg [nth y0.1 3,nth y0.1 4,slO 1 1 (qbc (nth y0.1 6)) 0 (qbi (nth y0.1 5))]])) (qbs [.agg [nth y0.1 3,nth y0.1 4,slO 1 1 (qbc (nth y0.1 6)) 0 (qbi (nth y0.1 5))]])) (qbw (qrx (leN (qbi (nth y0.1 1)) (qbs (qbc (nth y0.1 7)))) (leN (qcq (qbi (nth y0.1 1)) (qbs (qbu (qbs [.agg [nth y0.1 3,nth y0.1 4,slO 1 1 (qbc (nth y0.1 6)) 0 (qbi (nth y0.1 5))]]) (qb4 0 [.agg [nth y0.1 3,nth y0.1 4,slO 1 1 (qbc (nth y0.1 6)) 0 (qbi (nth y0.1 5))]])))) 2147483648)) (qbb (qh2 B .cl true 10 [slO 3 3 (qmh (qbu (qbi (nth y0.1 1)) (qbc (nth y0.1 7))) (qbu (qbs [.agg [nth y0.1 3,nth y0.1 4,slO 1 1 (qbc (nth y0.1 6)) 0 (qbi (nth y0.1 5))]]) (qb4 0 [.agg [nth y0.1 3,nth y0.1 4,slO 1 1 (qbc (nth y0.1 6)) 0 (qbi (nth y0.1 5))]]))) 0 (qcq (qbi (nth y0.1 1)) (qbs (qbu (qbs [.agg [nth y0.1 3,nth y0.1 4,slO 1 1 (qbc (nth y0.1 6)) 0 (qbi (nth y0.1 5))]]) (qb4 0 [.agg [nth y0.1 3,nth y0.1 4,slO 1 1 (qbc (nth y0.1 6)) 0 (qbi (nth y0.1 5))]]))))]) (fun y14=>qbb (qbd (.un .not (.c y14))) (fun y15=>qdu y15 (some (.tup [.nilS,.int .i64 70],y0.2)) (qbw (okU (.tup [slO 3 3 (qmh (qbu (qbi (nth y0.1 1)) (qbc (nth y0.1 7))) (qbu (qbs [.agg [nth y0.1 3,nth y0.1 4,slO 1 1 (qbc (nth y0.1 6)) 0 (qbi (nth y0.1 5))]]) (qb4 0 [.agg [nth y0.1 3,nth y0.1 4,slO 1 1 (qbc (nth y0.1 6)) 0 (qbi (nth y0.1 5))]]))) 0 (qcq (qbi (nth y0.1 1)) (qbs (qbu (qbs [.agg [nth y0.1 3,nth y0.1 4,slO 1 1 (qbc (nth y0.1 6)) 0 (qbi (nth y0.1 5))]]) (qb4 0 [.agg [nth y0.1 3,nth y0.1 4,slO 1 1 (qbc (nth y0.1 6)) 0 (qbi (nth y0.1 5))]])))),.int .i64 0])) (some (.tup [slO 3 3 (qmh (qbu (qbi (nth y0.1 1)) (qbc (nth y0.1 7))) (qbu (qbs [.agg [nth y0.1 3,nth y0.1 4,slO 1 1 (qbc (nth y0.1 6)) 0 (qbi (nth y0.1 5))]]) (qb4 0 [.agg [nth y0.1 3,nth y0.1 4,slO 1 1 (qbc (nth y0.1 6)) 0 (qbi (nth y0.1 5))]]))) 0 (qcq (qbi (nth y0.1 1)) (qbs (qbu (qbs [.agg [nth y0.1 3,nth y0.1 4,slO 1 1 (qbc (nth y0.1 6)) 0 (qbi (nth y0.1 5))]]) (qb4 0 [.agg [nth y0.1 3,nth y0.1 4,slO 1 1 (qbc (nth y0.1 6)) 0 (qbi (nth y0.1 5))]])))),.int .i64 0],y0.2))))))))) (fun y16=>some (.inr y16))))))
theorem run28 (B:KB) {E:Type} (h:qbk E) (dep:Nat) (e:E) (x0:PV) (x1:PV) (x2:PV):qmk (qjh B (fun _=>.cl)) fn28 (.cl) h dep [.cv x0,.cv x1,.cv x2] e=qbb (qbd (.build [.int .i64 0,.str [],.nilS] [(0,(1,.c x0)),(1,(1,.c x1))])) (fun z1=>qbw (qcu z1 3) (nilO (qbl z1 2) (qbw (qbo [x2,nI 0,.int .i64 0]) (qcf (Qq9 B) ([x2,nI 0,.int .i64 0,qbl z1 0,qbl z1 1,nI 0,.sl 1 [] false,.sl 3 [] false],e))))):=by kernel_rfl
theorem run29 (B:KB) {E:Type} (h:qbk E) (dep:Nat) (e:E) (x0:PV) :
  qmk (qjh B (fun _=>.cl)) fn29 (.cl) h dep [.cv x0] e =
  qbb (qb6 B .cl (.fn 33 []) [x0]) (fun z1=>qbb (qbd (.un .not (.c z1))) (fun z2=>qdu z2 (some (.str [],e)) (qbb (qbd (.build [.nilS] [(0,(1,.c x0))])) (fun z3 =>
  qbw (valO z3) (qbb (qbd (.len .slice (.c x0))) (fun z4=>qbb (qbd (.bin .sub .num true (.c z4) (.c (.int .i64 1)))) (fun z5=>qbb (qh2 B .cl true 52 [ptrO (qg0
  z3) 0,z5]) (fun z6=>some (z6,e))))))))):=by kernel_rfl
theorem run30_0 (B:KB) (x0:PV) (x1:PV) (x2:PV) :
  ql0 (qjh B (fun _=>.cl)) fn30 qqc [x0,x1,x2] =
  qbb (qjr 1 x0) (fun z1=>qbw (qrx (leN (qbi x1) (qbs (qbc x2))) (leN (qcq (qbi x1) (qbs z1)) 2147483648)) (qbb (qbd (.len .str (.c x0))) (fun z2=>some [z2,
  .nilI,nI (qcq (qbi x1) (qbs z1)),.sl 1 (qmh (qbu (qbi x1) (qbc x2)) z1) false]))):=by kernel_rfl
theorem run30_1 (B:KB) (x0:PV) (x1:PV) (x2:PV) :
  ql0 (qjh B (fun _=>.cl)) fn30 qnj [x0,x1,x2] =
  qbw (Qbc x1) (qbb (qjr 1 x0) (fun z1=>qbb (appO 1 x2 z1) (fun z2=>qbb (qbd (.len .str (.c x0))) (fun z3=>some [z3,.nilI,nI (qbs z2),.sl 1 z2 false])))):=by kernel_rfl
noncomputable def Qq8 (B:KB) {E:Type}:List PV×E→Option (Sum (List PV×E) (PV×E)):=(fun y0=>qbb (qbd (.bin .lss .num false (.c (nth y0.1 3)) (.c (nth y0.1 2)))) (fun y1=>qdu y1 (qbb (qbd (.idxAddr 4 (.c (nth y0.1 1)) (.c (nth y0.1 3)))) (fun y2=>qbb (qbd (.load 4 true (.c y2))) (fun y3=>qbw (qcu y3 4) (qbb (qb6 B .cl (.fn 33 []) [qbl y3 2]) (fun y4=>qdu y4 (qbb (qbd (.len .slice (.c (qbl y3 2)))) (fun y5=>qbb (qbd (.bin .sub .num true (.c y5) (.c (.int .i64 1)))) (fun y6=>qbb (ioO B sh54 54 [qbl y3 2,y6,nI (qbi (nth y0.1 6)),nI 0,nI (qbi (nth y0.1 8)),.sl 1 (qbc (nth y0.1 9)) false,.imap (qc6 (nth y0.1 5)),.sl 1 [] false,.sl 1 (qbc (nth y0.1 10)) false]) (fun y7=>qbw (qdd 1 [slO 1 1 (qbc (nth y7 5)) 0 (qbi (nth y7 1))]) (qbw (leN (qcq 0 (qbs [slO 1 1 (qbc (nth y7 5)) 0 (qbi (nth y7 1))])) (qbs [slO 1 1 (qbc (nth y7 5)) 0 (qbi (nth y7 1))])) (qbw (qrx (leN (qbi (nth y0.1 0)) (qbs (qbc (nth y0.1 4)))) (leN (qcq (qbi (nth y0.1 0)) (qbs (qbu (qbs [slO 1 1 (qbc (nth y7 5)) 0 (qbi (nth y7 1))]) (qb4 0 [slO 1 1 (qbc (nth y7 5)) 0 (qbi (nth y7 1))])))) 2147483648)) (qbb (qbd (.bin .add .num true (.c (nth y0.1 3)) (.c (.int .i64 1)))) (fun y8=>some (.inl ([nI (qcq (qbi (nth y0.1 0)) (qbs (qbu (qbs [slO 1 1 (qbc (nth y7 5)) 0 (qbi (nth y7 1))]) (qb4 0 [slO 1 1 (qbc (nth y7 5)) 0 (qbi (nth y7 1))])))),nth y0.1 1,nth y0.1 2,y8,.sl 1 (qmh (qbu (qbi (nth y0.1 0)) (qbc (nth y0.1 4))) (qbu (qbs [slO 1 1 (qbc (nth y7 5)) 0 (qbi (nth y7 1))]) (qb4 0 [slO 1 1 (qbc (nth y7 5)) 0 (qbi (nth y7 1))]))) false,.imap (qc6 (nth y7 4)),nI (qbi (nth y7 0)),slO 1 1 (qbc (nth y7 5)) 0 (qbi (nth y7 1)),nI (qbi (nth y7 2)),.sl 1 (qbc (nth y7 3)) false,.sl 1 (qbc (nth y7 6)) false],y0.2)))))))))) (qbw (qdd 1 [slO 1 1 [] 0 0]) (qbw (leN (qcq 0 (qbs [slO 1 1 [] 0 0])) (qbs [slO 1 1 [] 0 0])) (qbw (qrx (leN (qbi (nth y0.1 0)) (qbs (qbc (nth y0.1 4)))) (leN (qcq (qbi (nth y0.1 0)) (qbs (qbu (qbs [slO 1 1 [] 0 0]) (qb4 0 [slO 1 1 [] 0 0])))) 2147483648)) (qbb (qbd (.bin .add .num true (.c (nth y0.1 3)) (.c (.int .i64 1)))) (fun y9=>some (.inl ([nI (qcq (qbi (nth y0.1 0)) (qbs (qbu (qbs [slO 1 1 [] 0 0]) (qb4 0 [slO 1 1 [] 0 0])))),nth y0.1 1,nth y0.1 2,y9,.sl 1 (qmh (qbu (qbi (nth y0.1 0)) (qbc (nth y0.1 4))) (qbu (qbs [slO 1 1 [] 0 0]) (qb4 0 [slO 1 1 [] 0 0]))) false,.imap (qc6 (nth y0.1 5)),nI (qbi (nth y0.1 6)),slO 1 1 [] 0 0,nI (qbi (nth y0.1 8)),.sl 1 (qbc (nth y0.1 9)) false,.sl 1 (qbc (nth y0.1 10)) false],y0.2)))))))))))) (qbb (qbw (okU (.tup [ptrO [slO 1 1 (qbc (nth y0.1 9)) 0 (qbi (nth y0.1 6)),.imap (qc6 (nth y0.1 5)),nth y0.1 7,slO 1 1 (qbc (nth y0.1 10)) 0 (qbi (nth y0.1 8))] 0,slO 1 1 (qbc (nth y0.1 4)) 0 (qbi (nth y0.1 0))])) (some (.tup [ptrO [slO 1 1 (qbc (nth y0.1 9)) 0 (qbi (nth y0.1 6)),.imap (qc6 (nth y0.1 5)),nth y0.1 7,slO 1 1 (qbc (nth y0.1 10)) 0 (qbi (nth y0.1 8))] 0,slO 1 1 (qbc (nth y0.1 4)) 0 (qbi (nth y0.1 0))],y0.2))) (fun y10=>some (.inr y10)))))
theorem run32 (B:KB) {E:Type} (h:qbk E) (dep:Nat) (e:E) (x0:PV):qmk (qjh B (fun _=>.cl)) fn32 (.cl) h dep [.cv x0] e=qbb (qbd (.len .slice (.c x0))) (fun z1=>qbw (qbo [nI 0,x0,z1,.int .i64 0]) (qcf (Qq8 B) ([nI 0,x0,z1,.int .i64 0,.sl 1 [] false,.imap [],nI 0,.nilS,nI 0,.sl 1 [] false,.sl 1 [] false],e))):=by kernel_rfl
theorem run33 (B:KB) {E:Type} (h:qbk E) (dep:Nat) (e:E) (x0:PV) :
  qmk (qjh B (fun _=>.cl)) fn33 (.cl) h dep [.cv x0] e =
  qbb (qbb (qbd (.len .slice (.c x0))) (fun z1=>qbb (qbd (.bin .lss .num true (.c z1) (.c (.int .i64 1)))) (fun z2=>qdu z2 (some (.bool true)) (qbb (qbd (.len
  .slice (.c x0))) (fun z3=>qbb (qbd (.bin .gtr .num true (.c z3) (.c (.int .i64 400)))) (fun z4=>some z4)))))) (fun z5=>qdu z5 (some (.bool false,e)) (qbb (qbd (.len
  .slice (.c x0))) (fun z6=>qbb (mkSO z6 z6) (fun z7=>qbb (qbd (.len .slice (.c x0))) (fun z8=>qbw (qbo [x0,nI z7,x0,z8,.int .i64 0]) (qcf (fun z9=>qbb
  (qbd (.bin .lss .num false (.c (nth z9.1 4)) (.c (nth z9.1 3)))) (fun z10=>qdu z10 (qbb (qbd (.idxAddr 3 (.c (nth z9.1 2)) (.c (nth z9.1 4)))) (fun z11=>qbb (qbd
  (.load 3 true (.c z11))) (fun z12=>qbw (qcu z12 3) (qbb (qbd (.len .slice (.c (qbl z12 2)))) (fun z13=>qbw (qbo [nth z9.1 0,nI (qbi (nth z9.1 1)),nth z9.1 4,
  .int .i64 (-1),nth z9.1 2,nth z9.1 3,nth z9.1 4,qbl z12 2,z13,.int .i64 0]) (qcf (fun z14=>qbb (qbd (.bin .lss .num false (.c (nth z14.1 9)) (.c (nth z14.1 8))))
  (fun z15=>qdu z15 (qbb (qbd (.idxAddr 1 (.c (nth z14.1 7)) (.c (nth z14.1 9)))) (fun z16=>qbb (qbd (.load 1 false (.c z16))) (fun z17=>qbb (qbb (qbd (.bin .leq
  .num false (.c z17) (.c (nth z14.1 3)))) (fun z18=>qdu z18 (some (.bool true)) (qbb (qbd (.bin .geq .num false (.c z17) (.c (nth z14.1 2)))) (fun z19=>some z19)))) (fun
  z20=>qdu z20 (qbb (qbb (some (.bool false,z14.2)) (fun z21=>some (.inr z21))) (fun z22=>some (.inr z22))) (qbb (qr6 z17) (fun z23=>qbw (ltN z23 (qbi (nth z14.1
  1))) (qbb (qkz (qbc (nth z14.1 13)) (qcq 0 z23) 0 1 false) (fun z24=>qbb (qbd (.bin .add .num true (.c z24) (.c (.int .i64 1)))) (fun z25=>qbb (qr6 z17) (fun z26
  => qbw (ltN z26 (qbi (nth z14.1 1))) (qbb (setO 1 (qbc (nth z14.1 13)) (qcq 0 z26) 0 1 z25) (fun z27=>qbb (qbd (.bin .add .num true (.c (nth z14.1 9)) (.c (.int .i64
  1)))) (fun z28=>some (.inl ([nth z14.1 0,nI (qbi (nth z14.1 1)),nth z14.1 2,z17,nth z14.1 4,nth z14.1 5,nth z14.1 6,nth z14.1 7,nth z14.1 8,z28,nth z14.1 10,nth z14.1
  11,nth z14.1 12,.sl 1 z27 false],z14.2))))))))))))))) (qbb (qbb (qb6 B .cl (.fn 55 []) [.agg [nth z14.1 10,nth z14.1 11,nth z14.1 12]]) (fun z29=>qbb (qbd (.un
  .not (.c z29))) (fun z30=>qdu z30 (qbb (some (.bool false,z14.2)) (fun z31=>some (.inr z31))) (qbb (qbd (.bin .add .num true (.c (nth z14.1 6)) (.c (.int .i64 1))))
  (fun z32=>some (.inl ([nth z14.1 0,nI (qbi (nth z14.1 1)),nth z14.1 4,nth z14.1 5,z32,.sl 1 (qbc (nth z14.1 13)) false],z14.2))))))) (fun z33=>some (.inr z33)))))
  ([nth z9.1 0,nI (qbi (nth z9.1 1)),nth z9.1 4,.int .i64 (-1),nth z9.1 2,nth z9.1 3,nth z9.1 4,qbl z12 2,z13,.int .i64 0,qbl z12 0,qbl z12 1,qbl z12 2,.sl 1
  (qbc (nth z9.1 5)) false],z9.2))))))) (qbb (qbb (qbd (.len .slice (.c (nth z9.1 0)))) (fun z34=>qbb (qbd (.bin .sub .num true (.c z34) (.c (.int .i64 1)))) (fun z35
  => qbb (qr6 z35) (fun z36=>qbw (ltN z36 (qbi (nth z9.1 1))) (qbb (qkz (qbc (nth z9.1 5)) (qcq 0 z36) 0 1 false) (fun z37=>qbb (qbd (.bin .add .num true (.c
  z37) (.c (.int .i64 1)))) (fun z38=>qbb (qr6 z35) (fun z39=>qbw (ltN z39 (qbi (nth z9.1 1))) (qbb (setO 1 (qbc (nth z9.1 5)) (qcq 0 z39) 0 1 z38) (fun z40=>qbb
  (qh2 B .cl true 56 [slO 1 1 z40 0 (qbi (nth z9.1 1)),.fn 57 []]) (fun z41=>qbb (qbd (.un .not (.c z41))) (fun z42=>some (z42,z9.2))))))))))))) (fun z43=>some (.inr
  z43))))) ([x0,nI z7,x0,z8,.int .i64 0,.sl 1 (qmn z7 (.int .i64 0)) false],e))))))):=by kernel_rfl
theorem run34 (B:KB) (x0:PV) (x1:PV) :
  ql0 (qjh B (fun _=>.cl)) fn34 Qqh [x0,x1] =
  qbb (Qmy x1 0 1 false) (fun z1=>qbb (qbd (.idxAddr 3 (.c z1) (.c x0))) (fun z2=>qbb (qbd (.load 3 true (.c z2))) (fun z3=>qbw (qcu z3 3) (qbb (qbd (.bin
  .eql .num true (.c (qbl z3 0)) (.c (.int .i64 5)))) (fun z4=>qdu z4 (qbb (qbd (.idxAddr 1 (.c (qbl z3 2)) (.c (.int .i64 0)))) (fun z5=>qbb (qbd (.load 1 false (.c
  z5))) (fun z6=>qbb (ioO B Qqh 34 [z6,x1]) (fun z7=>some [nth
  z7 0,.agg (qg0 (nth z7 1))])))) (qbb (qb6 B .cl (.fn 37 []) [.agg [qbl z3 0,qbl z3 1,qbl z3 2]]) (fun z8=>qdu z8 (qbb (ioO B sh58 58 [x1]) (fun z9=>qbw (qcu (nth z9 0) 1) (qbb (qbd (.len .slice (.c (qbl z3 2)))) (fun z10=>qbb
  (mkSO z10 z10) (fun z11=>qbb (qjr 1 (qbl z3 2)) (fun z12=>qbw (leN (qcq 0 z11) (qbs (qmn z11 (.int .i64 0)))) (qbw (qbo [nI 0,nI z11,nI z11,.int .i64 0])
  (qcf (fun z13=>qbb (qbd (.bin .lss .num false (.c (nth z13.1 3)) (.c (nth z13.1 2)))) (fun z14=>qdu z14 (qbb (qr6 (nth z13.1 3)) (fun z15=>qbw (ltN z15 (qbi (nth
  z13.1 1))) (qbb (qkz (qbc (nth z13.1 9)) (qcq 0 z15) 0 1 false) (fun z16=>qbb (ioO B Qqh 34 [z16,nth z13.1 4]) (fun z17=>qbw (qdd 1 [nth z17 0]) (qbw (leN (qcq 0 (qbs [nth z17 0])) (qbs [nth z17 0])) (qbw (qrx (leN
  (qbi (nth z13.1 0)) (qbs (qbc (nth z13.1 8)))) (leN (qcq (qbi (nth z13.1 0)) (qbs (qbu (qbs [nth z17 0]) (qb4 0 [nth z17 0])))) 2147483648)) (qbb (qbd (.bin .add
  .num true (.c (nth z13.1 3)) (.c (.int .i64 1)))) (fun z18=>some (.inl ([nI (qcq (qbi (nth z13.1 0)) (qbs (qbu (qbs [nth z17 0]) (qb4 0 [nth z17 0])))),nI (qbi (nth
  z13.1 1)),nth z13.1 2,z18,nth z17 1,nth z13.1 5,nth z13.1 6,nth z13.1 7,.sl 1 (qmh (qbu (qbi (nth z13.1 0)) (qbc (nth z13.1 8))) (qbu (qbs [nth z17 0]) (qb4 0
  [nth z17 0]))) false,.sl 1 (qbc (nth z13.1 9)) false],z13.2))))))))))) (qbb (qbb (qh2 B .cl false 59 [nth z13.1 5,nth z13.1 6,slO 1 1 (qbc (nth z13.1 8)) 0 (qbi
  (nth z13.1 0))]) (fun z19=>qbb (qbd (.extract 0 (.c z19))) (fun z20=>qbb (qbd (.extract 1 (.c z19))) (fun z21=>some [z20,.agg (qg0 (nth z13.1 4))])))) (fun z22 =>
  some (.inr z22))))) ([nI 0,nI z11,nI z11,.int .i64 0,nth z9 1,qbl z3 0,qbl (nth z9 0) 0,qbl z3 2,.sl 1 [] false,.sl 1 (qmh (qmh (qbu 0 (qmn z11 (.int .i64 0)))
  (qbu z11 z12)) (qb4 (qcq 0 (qbs (qbu z11 z12))) (qmn z11 (.int .i64 0)))) false],()))))))))) (qbb (qbd (.len .slice (.c (qbl z3 2)))) (fun z23=>qbb (mkSO z23
  z23) (fun z24=>qbb (qjr 1 (qbl z3 2)) (fun z25=>qbw (leN (qcq 0 z24) (qbs (qmn z24 (.int .i64 0)))) (qbw (qbo [nI 0,nI z24,nI z24,.int .i64 0]) (qcf (fun
  z26=>qbb (qbd (.bin .lss .num false (.c (nth z26.1 3)) (.c (nth z26.1 2)))) (fun z27=>qdu z27 (qbb (qr6 (nth z26.1 3)) (fun z28=>qbw (ltN z28 (qbi (nth z26.1 1)))
  (qbb (qkz (qbc (nth z26.1 9)) (qcq 0 z28) 0 1 false) (fun z29=>qbb (ioO B Qqh 34 [z29,nth z26.1 4]) (fun z30=>qbw (qdd 1 [nth z30 0]) (qbw (leN (qcq 0 (qbs [nth z30 0])) (qbs [nth z30 0])) (qbw (qrx (leN (qbi (nth z26.1 0))
  (qbs (qbc (nth z26.1 8)))) (leN (qcq (qbi (nth z26.1 0)) (qbs (qbu (qbs [nth z30 0]) (qb4 0 [nth z30 0])))) 2147483648)) (qbb (qbd (.bin .add .num true (.c (nth
  z26.1 3)) (.c (.int .i64 1)))) (fun z31=>some (.inl ([nI (qcq (qbi (nth z26.1 0)) (qbs (qbu (qbs [nth z30 0]) (qb4 0 [nth z30 0])))),nI (qbi (nth z26.1 1)),nth z26.1
  2,z31,nth z30 1,nth z26.1 5,nth z26.1 6,nth z26.1 7,.sl 1 (qmh (qbu (qbi (nth z26.1 0)) (qbc (nth z26.1 8))) (qbu (qbs [nth z30 0]) (qb4 0 [nth z30 0]))) false,
  .sl 1 (qbc (nth z26.1 9)) false],z26.2))))))))))) (qbb (qbb (qh2 B .cl false 59 [nth z26.1 5,nth z26.1 6,slO 1 1 (qbc (nth z26.1 8)) 0 (qbi (nth z26.1 0))]) (fun
  z32=>qbb (qbd (.extract 0 (.c z32))) (fun z33=>qbb (qbd (.extract 1 (.c z32))) (fun z34=>some [z33,.agg (qg0 (nth z26.1 4))])))) (fun z35=>some (.inr z35)))))
  ([nI 0,nI z24,nI z24,.int .i64 0,x1,qbl z3 0,qbl z3 1,qbl z3 2,.sl 1 [] false,.sl 1 (qmh (qmh (qbu 0 (qmn z24 (.int .i64 0))) (qbu z24 z25)) (qb4 (qcq 0
  (qbs (qbu z24 z25))) (qmn z24 (.int .i64 0)))) false],())))))))))))))):=by kernel_rfl
theorem run37 (B:KB) {E:Type} (h:qbk E) (dep:Nat) (e:E) (x0:PV) :
  qmk (qjh B (fun _=>.cl)) fn37 (.cl) h dep [.cv x0] e =
  qbw (valO x0) (qbw (qdd 1 [.int .i64 3,.int .i64 14,.int .i64 8]) (qbb (Qmy x0 0 1 false) (fun z1=>qbb (qh2 B .cl true 61 [slO 1 1 [.int .i64 3,.int .i64 14,.int
  .i64 8] 0 (qbs [.int .i64 3,.int .i64 14,.int .i64 8]),z1]) (fun z2=>some (z2,e))))):=by kernel_rfl
theorem run50 (B:KB) {E:Type} (h:qbk E) (dep:Nat) (e:E) (x0:PV) :
  qmk (qjh B (fun _=>.cl)) fn50 (.cl) h dep [.cv x0] e =
  qbb (qbd (.len .str (.c x0))) (fun z1=>qbb (qbd (.minmax false [.c z1,.c (.int .i64 50)])) (fun z2=>qbb (qbd (.strSlice (.c x0) none (some (.c z2)))) (fun z3 =>
  some (z3,e)))):=by kernel_rfl
noncomputable def Qq7 (B:KB) {E:Type}:List PV×E→Option (Sum (List PV×E) (Sum (List PV×E) (PV×E))):=(fun y0=>qbb (qbd (.idxAddr 3 (.c (nth y0.1 0)) (.c (nth y0.1 3)))) (fun y1=>qbb (qbd (.fieldAddr 2 (.c y1))) (fun y2=>qbb (qbd (.load 1 false (.c y2))) (fun y3=>qbb (qbd (.len .slice (.c y3))) (fun y4=>qbb (qbd (.bin .lss .num false (.c (nth y0.1 4)) (.c y4))) (fun y5=>qdu y5 (qbb (qbd (.idxAddr 3 (.c (nth y0.1 0)) (.c (nth y0.1 3)))) (fun y6=>qbb (qbd (.fieldAddr 2 (.c y6))) (fun y7=>qbb (qbd (.load 1 false (.c y7))) (fun y8=>qbb (qbd (.idxAddr 1 (.c y8) (.c (nth y0.1 4)))) (fun y9=>qbb (qbd (.load 1 false (.c y9))) (fun y10=>qbb (qbd (.bin .add .num false (.c y10) (.c (nth y0.1 1)))) (fun y11=>qbw (qdd 1 [y11]) (qbw (leN (qcq 0 (qbs [y11])) (qbs [y11])) (qbw (qrx (leN (qbi (nth y0.1 8)) (qbs (qbc (nth y0.1 9)))) (leN (qcq (qbi (nth y0.1 8)) (qbs (qbu (qbs [y11]) (qb4 0 [y11])))) 2147483648)) (qbb (qbd (.bin .add .num true (.c (nth y0.1 4)) (.c (.int .i64 1)))) (fun y12=>some (.inl ([nth y0.1 0,nth y0.1 1,nI (qbi (nth y0.1 2)),nth y0.1 3,y12,.sl 3 (qbc (nth y0.1 5)) false,nth y0.1 6,nth y0.1 7,nI (qcq (qbi (nth y0.1 8)) (qbs (qbu (qbs [y11]) (qb4 0 [y11])))),.sl 1 (qmh (qbu (qbi (nth y0.1 8)) (qbc (nth y0.1 9))) (qbu (qbs [y11]) (qb4 0 [y11]))) false],y0.2))))))))))))) (qbb (qbw (qdd 3 [.agg [nth y0.1 6,nth y0.1 7,slO 1 1 (qbc (nth y0.1 9)) 0 (qbi (nth y0.1 8))]]) (qbw (leN (qcq 0 (qbs [.agg [nth y0.1 6,nth y0.1 7,slO 1 1 (qbc (nth y0.1 9)) 0 (qbi (nth y0.1 8))]])) (qbs [.agg [nth y0.1 6,nth y0.1 7,slO 1 1 (qbc (nth y0.1 9)) 0 (qbi (nth y0.1 8))]])) (qbw (qrx (leN (qbi (nth y0.1 2)) (qbs (qbc (nth y0.1 5)))) (leN (qcq (qbi (nth y0.1 2)) (qbs (qbu (qbs [.agg [nth y0.1 6,nth y0.1 7,slO 1 1 (qbc (nth y0.1 9)) 0 (qbi (nth y0.1 8))]]) (qb4 0 [.agg [nth y0.1 6,nth y0.1 7,slO 1 1 (qbc (nth y0.1 9)) 0 (qbi (nth y0.1 8))]])))) 2147483648)) (qbb (qbd (.bin .add .num true (.c (nth y0.1 3)) (.c (.int .i64 1)))) (fun y13=>some (.inl ([nth y0.1 0,nth y0.1 1,nI (qcq (qbi (nth y0.1 2)) (qbs (qbu (qbs [.agg [nth y0.1 6,nth y0.1 7,slO 1 1 (qbc (nth y0.1 9)) 0 (qbi (nth y0.1 8))]]) (qb4 0 [.agg [nth y0.1 6,nth y0.1 7,slO 1 1 (qbc (nth y0.1 9)) 0 (qbi (nth y0.1 8))]])))),y13,.sl 3 (qmh (qbu (qbi (nth y0.1 2)) (qbc (nth y0.1 5))) (qbu (qbs [.agg [nth y0.1 6,nth y0.1 7,slO 1 1 (qbc (nth y0.1 9)) 0 (qbi (nth y0.1 8))]]) (qb4 0 [.agg [nth y0.1 6,nth y0.1 7,slO 1 1 (qbc (nth y0.1 9)) 0 (qbi (nth y0.1 8))]]))) false],y0.2))))))) (fun y14=>some (.inr y14)))))))))
noncomputable def lp51_1 (B:KB) {E:Type}:List PV×E→Option (Sum (List PV×E) (PV×E)):=(fun y0=>qbb (qbd (.len .slice (.c (nth y0.1 0)))) (fun y1=>qbb (qbd (.bin .lss .num false (.c (nth y0.1 3)) (.c y1))) (fun y2=>qdu y2 (qbb (qbd (.idxAddr 3 (.c (nth y0.1 0)) (.c (nth y0.1 3)))) (fun y3=>qbb (qbd (.fieldAddr 0 (.c y3))) (fun y4=>qbb (qbd (.load 1 false (.c y4))) (fun y5=>qbb (qbd (.idxAddr 3 (.c (nth y0.1 0)) (.c (nth y0.1 3)))) (fun y6=>qbb (qbd (.fieldAddr 1 (.c y6))) (fun y7=>qbb (qbd (.load 1 false (.c y7))) (fun y8=>qbb (qbd (.build [.int .i64 0,.str [],.nilS] [(0,(1,.c y5)),(1,(1,.c y8))])) (fun y9=>qbw (qcu y9 3) (nilO (qbl y9 2) (qbw (qbo [nth y0.1 0,nth y0.1 1,nI (qbi (nth y0.1 2)),nth y0.1 3,.int .i64 0]) (qcf (Qq7 B) ([nth y0.1 0,nth y0.1 1,nI (qbi (nth y0.1 2)),nth y0.1 3,.int .i64 0,.sl 3 (qbc (nth y0.1 4)) false,qbl y9 0,qbl y9 1,nI 0,.sl 1 [] false],y0.2)))))))))))) (qbb (qbw (okU (slO 3 3 (qbc (nth y0.1 4)) 0 (qbi (nth y0.1 2)))) (some (slO 3 3 (qbc (nth y0.1 4)) 0 (qbi (nth y0.1 2)),y0.2))) (fun y10=>some (.inr y10))))))
theorem run51 (B:KB) {E:Type} (h:qbk E) (dep:Nat) (e:E) (x0:PV) (x1:PV):qmk (qjh B (fun _=>.cl)) fn51 (.cl) h dep [.cv x0,.cv x1] e=qbw (qbo [x0,x1,nI 0,.int .i64 0]) (qcf (lp51_1 B) ([x0,x1,nI 0,.int .i64 0,.sl 3 [] false],e)):=by kernel_rfl
noncomputable def Qkl (B:KB) {E:Type}:List PV×E→Option (Sum (List PV×E) (PV×E)):=(fun y0=>qbb (qbd (.bin .lss .num false (.c (nth y0.1 4)) (.c (nth y0.1 3)))) (fun y1=>qdu y1 (qbb (qbd (.idxAddr 1 (.c (nth y0.1 2)) (.c (nth y0.1 4)))) (fun y2=>qbb (qbd (.load 1 false (.c y2))) (fun y3=>qbb (qb6 B .cl (.fn 52 []) [nth y0.1 0,y3]) (fun y4=>qbb (qbd (.bin .add .str true (.c (.str [32])) (.c y4))) (fun y5=>qbb (qbd (.bin .add .str false (.c (nth y0.1 1)) (.c y5))) (fun y6=>qbb (qbd (.bin .add .num true (.c (nth y0.1 4)) (.c (.int .i64 1)))) (fun y7=>some (.inl ([nth y0.1 0,y6,nth y0.1 2,nth y0.1 3,y7,nth y0.1 5,nth y0.1 6,nth y0.1 7],y0.2))))))))) (qbb (qbb (qbd (.len .slice (.c (nth y0.1 7)))) (fun y8=>qbb (qbd (.bin .gtr .num true (.c y8) (.c (.int .i64 0)))) (fun y9=>qdu y9 (qbb (qbd (.bin .add .str true (.c (.str [40])) (.c (nth y0.1 1)))) (fun y10=>qbb (qbd (.bin .add .str true (.c y10) (.c (.str [41])))) (fun y11=>some (y11,y0.2)))) (some (nth y0.1 1,y0.2))))) (fun y12=>some (.inr y12)))))
theorem run52 (B:KB) {E:Type} (h:qbk E) (dep:Nat) (e:E) (x0:PV) (x1:PV):qmk (qjh B (fun _=>.cl)) fn52 (.cl) h dep [.cv x0,.cv x1] e=qbb (qbd (.nilck (.c x0))) (fun z1=>qbb (qbd (.fieldAddr 0 (.c z1))) (fun z2=>qbb (qbd (.load 1 false (.c z2))) (fun z3=>qbb (qbd (.idxAddr 3 (.c z3) (.c x1))) (fun z4=>qbb (qbd (.load 3 true (.c z4))) (fun z5=>qbw (qcu z5 3) (qbb (qb6 B .cl (.fn 79 []) [qbl z5 0]) (fun z6=>qbb (qbd (.bin .add .str true (.c z6) (.c (.str [58])))) (fun z7=>qbb (qb6 B .cl (.fn 80 []) [qbl z5 1]) (fun z8=>qbb (qbd (.bin .add .str false (.c z7) (.c z8))) (fun z9=>qbb (qbd (.len .slice (.c (qbl z5 2)))) (fun z10=>qbw (qbo [x0,z9,qbl z5 2,z10,.int .i64 0]) (qcf (Qkl B) ([x0,z9,qbl z5 2,z10,.int .i64 0,qbl z5 0,qbl z5 1,qbl z5 2],e))))))))))))):=by kernel_rfl
theorem run54 (B:KB) (x0:PV) (x1:PV) (x2:PV) (x3:PV) (x4:PV) (x5:PV) (x6:PV) (x7:PV) (x8:PV) :
  ql0 (qjh B (fun _=>.cl)) fn54 sh54 [x0,x1,x2,x3,x4,x5,x6,x7,x8] =
  qbb (ioO B Qna 82
  [x0,x1,nI (qbi x2),nI (qbi x3),nI (qbi x4),.sl 1 (qbc x5) false,.imap (qc6 x6),.sl 1 (qbc x7) false,.sl 1 (qbc x8) false]) (fun z1=>qbb (qbd (.idxAddr 3
  (.c x0) (.c x1))) (fun z2=>qbb (qbd (.fieldAddr 0 (.c z2))) (fun z3=>qbb (qbd (.load 1 false (.c z3))) (fun z4=>qbb (qbd (.bin .eql .num true (.c z4) (.c (.int
  .i64 8)))) (fun z5=>qdu z5 (qbb (qbd (.idxAddr 3 (.c x0) (.c x1))) (fun z6=>qbb (qbd (.fieldAddr 1 (.c z6))) (fun z7=>qbb (qbd (.load 1 false (.c z7))) (fun z8
  => qbw (qdd 1 [z8]) (qbb (ioO B sh83 83 [nI (qbi x2),nI (qbs [z8]),nI (qbi (nth z1 0)),nI (qbi (nth z1 1)),nI (qbi (nth z1 2)),.sl 1 [z8] false,.sl 1 (qbc
  (nth z1 3)) false,.imap (qc6 (nth z1 4)),.sl 1 (qbc (nth z1 5)) false,.sl 1 (qbc (nth z1 6)) false]) (fun z9=>some [nI (qbi (nth z9 0)),nI (qbi (nth z9 1)),nI
  (qbi (nth z9 2)),.sl 1 (qbc (nth z9 4)) false,.imap (qc6 (nth z9 5)),.sl 1 (qbc (nth z9 6)) false,.sl 1 (qbc (nth z9 7)) false])))))) (some [nI (qbi (nth z1 0)),
  nI (qbi (nth z1 1)),nI (qbi (nth z1 2)),.sl 1 (qbc (nth z1 3)) false,.imap (qc6 (nth z1 4)),.sl 1 (qbc (nth z1 5)) false,.sl 1 (qbc (nth z1 6)) false])))))):=by kernel_rfl
theorem run55 (B:KB) {E:Type} (h:qbk E) (dep:Nat) (e:E) (x0:PV) :
  qmk (qjh B (fun _=>.cl)) fn55 (.cl) h dep [.cv x0] e =
  qbw (valO x0) (qbb (qb6 B .cl (.fn 84 []) []) (fun z1=>qbb (Qmy x0 0 1 false) (fun z2=>qbb (qbd (.lookup .num (.agg [.int .i64 0,.int .i64 0,.bool false]) false
  (.c z1) (.c z2))) (fun z3=>qbw (qcu z3 3) (qbb (qbd (.bin .eql (.plain [0,0,2]) false (.c (.agg [qbl z3 0,qbl z3 1,qbl z3 2])) (.c (.agg [.int .i64 0,.int
  .i64 0,.bool false])))) (fun z4=>qdu z4 (some (.bool false,e)) (qbb (qbb (Qmy x0 2 1 false) (fun z5=>qbb (qbd (.len .slice (.c z5))) (fun z6=>qbb (qbd (.bin
  .geq .num false (.c z6) (.c (qbl z3 0)))) (fun z7=>qdu z7 (qbb (Qmy x0 2 1 false) (fun z8=>qbb (qbd (.len .slice (.c z8))) (fun z9=>qbb (qbd (.bin .leq .num
  false (.c z9) (.c (qbl z3 1)))) (fun z10=>qdu z10 (qbb (Qmy x0 1 1 false) (fun z11=>qbb (qbd (.bin .neq .str true (.c z11) (.c (.str [])))) (fun z12=>qbb (qbd
  (.bin .eql .bool false (.c z12) (.c (qbl z3 2)))) (fun z13=>some z13)))) (some (.bool false)))))) (some (.bool false)))))) (fun z14=>some (z14,e))))))))):=by kernel_rfl
theorem run56 (B:KB) {E:Type} (h:qbk E) (dep:Nat) (e:E) (x0:PV) (x1:PV) :
  qmk (qjh B (fun _=>.cl)) fn56 (.cl) h dep [.cv x0,.cv x1] e =
  qbb (qb6 B .cl (.fn 85 []) [x0,x1]) (fun z1=>qbb (qbd (.bin .geq .num true (.c z1) (.c (.int .i64 0)))) (fun z2=>some (z2,e))):=by kernel_rfl
theorem run57 (B:KB) {E:Type} (h:qbk E) (dep:Nat) (e:E) (x0:PV) :
  qmk (qjh B (fun _=>.cl)) fn57 (.cl) h dep [.cv x0] e =
  qbb (qbd (.bin .neq .num true (.c x0) (.c (.int .i64 1)))) (fun z1=>some (z1,e)):=by kernel_rfl
theorem run58 (B:KB) (x0:PV) :
  ql0 (qjh B (fun _=>.cl)) fn58 sh58 [x0] =
  qbb (Qmy x0 1 1 false) (fun z1=>qbb (qbd (.idxAddr 1 (.c z1) (.c (.int .i64 0)))) (fun z2=>qbb (qbd (.load 1 false (.c z2))) (fun z3=>qbb (Qmy x0 1 1 false)
  (fun z4=>qbb (qbd (.slice 1 (.c z4) (some (.c (.int .i64 1))) none none)) (fun z5=>qbw (okSto z5 x0 1 1) (qbb (qbd (.bin .lss .num true (.c z3) (.c (.int .i64 0))))
  (fun z6=>qdu z6 (some [.str [63],.agg (qg0 (stoP z5 x0 1))]) (qbb (qb6 B .cl (.fn 79 []) [z3]) (fun z7=>some [z7,.agg (qg0 (stoP z5 x0 1))]))))))))):=by kernel_rfl
noncomputable def Qq6 (B:KB) {E:Type}:List PV×E→Option (Sum (List PV×E) (PV×E)):=(fun y0=>qbb (qbd (.bin .lss .num false (.c (nth y0.1 4)) (.c (nth y0.1 3)))) (fun y1=>qdu y1 (qbb (qbd (.idxAddr 1 (.c (nth y0.1 2)) (.c (nth y0.1 4)))) (fun y2=>qbb (qbd (.load 1 false (.c y2))) (fun y3=>qbb (ioO B sh86 86 [y3,nI (qbi (nth y0.1 5)),nI (qbi (nth y0.1 6)),nth y0.1 7,.sl 3 (qbc (nth y0.1 8)) false,.sl 1 (qbc (nth y0.1 9)) false]) (fun y4=>qbb (qbd (.bin .neq .iface true (.c (nth y4 2)) (.c .nilI))) (fun y5=>qdu y5 (qbb (qbb (qb6 B .cl (.fn 87 []) [nth y4 2]) (fun y6=>some (.tup [.nilS,y6],y0.2))) (fun y7=>some (.inr y7))) (qbb (qbd (.bin .add .num true (.c (nth y0.1 4)) (.c (.int .i64 1)))) (fun y8=>some (.inl ([nth y0.1 0,nth y0.1 1,nth y0.1 2,nth y0.1 3,y8,nI (qbi (nth y4 0)),nI (qbi (nth y4 1)),nth y4 2,.sl 3 (qbc (nth y4 3)) false,.sl 1 (qbc (nth y4 4)) false],y0.2))))))))) (qbb (qbw (qcu (nth y0.1 0) 1) (qbw (qcu (nth y0.1 1) 1) (qbw (qdd 3 [.agg [qbl (nth y0.1 0) 0,qbl (nth y0.1 1) 0,slO 1 1 (qbc (nth y0.1 9)) 0 (qbi (nth y0.1 6))]]) (qbw (leN (qcq 0 (qbs [.agg [qbl (nth y0.1 0) 0,qbl (nth y0.1 1) 0,slO 1 1 (qbc (nth y0.1 9)) 0 (qbi (nth y0.1 6))]])) (qbs [.agg [qbl (nth y0.1 0) 0,qbl (nth y0.1 1) 0,slO 1 1 (qbc (nth y0.1 9)) 0 (qbi (nth y0.1 6))]])) (qbw (qrx (leN (qbi (nth y0.1 5)) (qbs (qbc (nth y0.1 8)))) (leN (qcq (qbi (nth y0.1 5)) (qbs (qbu (qbs [.agg [qbl (nth y0.1 0) 0,qbl (nth y0.1 1) 0,slO 1 1 (qbc (nth y0.1 9)) 0 (qbi (nth y0.1 6))]]) (qb4 0 [.agg [qbl (nth y0.1 0) 0,qbl (nth y0.1 1) 0,slO 1 1 (qbc (nth y0.1 9)) 0 (qbi (nth y0.1 6))]])))) 2147483648)) (qbb (qh2 B .cl true 33 [slO 3 3 (qmh (qbu (qbi (nth y0.1 5)) (qbc (nth y0.1 8))) (qbu (qbs [.agg [qbl (nth y0.1 0) 0,qbl (nth y0.1 1) 0,slO 1 1 (qbc (nth y0.1 9)) 0 (qbi (nth y0.1 6))]]) (qb4 0 [.agg [qbl (nth y0.1 0) 0,qbl (nth y0.1 1) 0,slO 1 1 (qbc (nth y0.1 9)) 0 (qbi (nth y0.1 6))]]))) 0 (qcq (qbi (nth y0.1 5)) (qbs (qbu (qbs [.agg [qbl (nth y0.1 0) 0,qbl (nth y0.1 1) 0,slO 1 1 (qbc (nth y0.1 9)) 0 (qbi (nth y0.1 6))]]) (qb4 0 [.agg [qbl (nth y0.1 0) 0,qbl (nth y0.1 1) 0,slO 1 1 (qbc (nth y0.1 9)) 0 (qbi (nth y0.1 6))]]))))]) (fun y9=>qdu y9 (qbw (okU (.tup [slO 3 3 (qmh (qbu (qbi (nth y0.1 5)) (qbc (nth y0.1 8))) (qbu (qbs [.agg [qbl (nth y0.1 0) 0,qbl (nth y0.1 1) 0,slO 1 1 (qbc (nth y0.1 9)) 0 (qbi (nth y0.1 6))]]) (qb4 0 [.agg [qbl (nth y0.1 0) 0,qbl (nth y0.1 1) 0,slO 1 1 (qbc (nth y0.1 9)) 0 (qbi (nth y0.1 6))]]))) 0 (qcq (qbi (nth y0.1 5)) (qbs (qbu (qbs [.agg [qbl (nth y0.1 0) 0,qbl (nth y0.1 1) 0,slO 1 1 (qbc (nth y0.1 9)) 0 (qbi (nth y0.1 6))]]) (qb4 0 [.agg [qbl (nth y0.1 0) 0,qbl (nth y0.1 1) 0,slO 1 1 (qbc (nth y0.1 9)) 0 (qbi (nth y0.1 6))]])))),.int .i64 0])) (some (.tup [slO 3 3 (qmh (qbu (qbi (nth y0.1 5)) (qbc (nth y0.1 8))) (qbu (qbs [.agg [qbl (nth y0.1 0) 0,qbl (nth y0.1 1) 0,slO 1 1 (qbc (nth y0.1 9)) 0 (qbi (nth y0.1 6))]]) (qb4 0 [.agg [qbl (nth y0.1 0) 0,qbl (nth y0.1 1) 0,slO 1 1 (qbc (nth y0.1 9)) 0 (qbi (nth y0.1 6))]]))) 0 (qcq (qbi (nth y0.1 5)) (qbs (qbu (qbs [.agg [qbl (nth y0.1 0) 0,qbl (nth y0.1 1) 0,slO 1 1 (qbc (nth y0.1 9)) 0 (qbi (nth y0.1 6))]]) (qb4 0 [.agg [qbl (nth y0.1 0) 0,qbl (nth y0.1 1) 0,slO 1 1 (qbc (nth y0.1 9)) 0 (qbi (nth y0.1 6))]])))),.int .i64 0],y0.2))) (qbb (qbd (.load 1 false (.c (.ptr [.glob 1 407] 0)))) (fun y10=>qbw (qcu y10 1) (qbb (qb6 B .cl (.fn 87 []) [qbl y10 0]) (fun y11=>some (.tup [.nilS,y11],y0.2)))))))))))) (fun y12=>some (.inr y12)))))
theorem run59 (B:KB) {E:Type} (h:qbk E) (dep:Nat) (e:E) (x0:PV) (x1:PV) (x2:PV):qmk (qjh B (fun _=>.cl)) fn59 (.cl) h dep [.cv x0,.cv x1,.cv x2] e=qbb (qbd (.len .slice (.c x2))) (fun z1=>qbw (qbo [x0,x1,x2,z1,.int .i64 0]) (qcf (Qq6 B) ([x0,x1,x2,z1,.int .i64 0,nI 0,nI 0,.nilI,.sl 3 [] false,.sl 1 [] false],e))):=by kernel_rfl
theorem run61 (B:KB) {E:Type} (h:qbk E) (dep:Nat) (e:E) (x0:PV) (x1:PV) :
  qmk (qjh B (fun _=>.cl)) fn61 (.cl) h dep [.cv x0,.cv x1] e =
  qbb (qb6 B .cl (.fn 88 []) [x0,x1]) (fun z1=>qbb (qbd (.bin .geq .num true (.c z1) (.c (.int .i64 0)))) (fun z2=>some (z2,e))):=by kernel_rfl
noncomputable def qzw (B:KB) {E:Type}:List PV×E→Option (Sum (List PV×E) (PV×E)):=(fun y0=>qbb (qbd (.bin .lss .num false (.c (nth y0.1 2)) (.c (nth y0.1 1)))) (fun y1=>qdu y1 (qbb (qbd (.idxAddr 1 (.c (nth y0.1 0)) (.c (nth y0.1 2)))) (fun y2=>qbb (qbd (.load 1 false (.c y2))) (fun y3=>qbb (qbd (.bin .lss .num true (.c y3) (.c (.int .u8 33)))) (fun y4=>qdu y4 (qbb (qbd (.bin .shr .num true (.c y3) (.c (.int .u64 4)))) (fun y5=>qbb (qbd (.strIdx (.c (.str [48,49,50,51,52,53,54,55,56,57,97,98,99,100,101,102])) (.c y5))) (fun y6=>qbb (qbd (.bin .and .num true (.c y3) (.c (.int .u8 15)))) (fun y7=>qbb (qbd (.strIdx (.c (.str [48,49,50,51,52,53,54,55,56,57,97,98,99,100,101,102])) (.c y7))) (fun y8=>qbw (qdd 1 [.int .u8 37,y6,y8]) (qbw (leN (qcq 0 (qbs [.int .u8 37,y6,y8])) (qbs [.int .u8 37,y6,y8])) (qbb (qbd (.ofBytes (.c (.sl 1 (qbu (qbs [.int .u8 37,y6,y8]) (qb4 0 [.int .u8 37,y6,y8])) false)))) (fun y9=>qbb (ioO B qqc 30 [y9,nI (qbi (nth y0.1 3)),.sl 1 (qbc (nth y0.1 4)) false]) (fun y10=>qbb (qbd (.bin .add .num true (.c (nth y0.1 2)) (.c (.int .i64 1)))) (fun y11=>some (.inl ([nth y0.1 0,nth y0.1 1,y11,nI (qbi (nth y10 2)),.sl 1 (qbc (nth y10 3)) false],y0.2)))))))))))) (qbb (qbd (.bin .gtr .num true (.c y3) (.c (.int .u8 126)))) (fun y12=>qdu y12 (qbb (qbd (.bin .shr .num true (.c y3) (.c (.int .u64 4)))) (fun y13=>qbb (qbd (.strIdx (.c (.str [48,49,50,51,52,53,54,55,56,57,97,98,99,100,101,102])) (.c y13))) (fun y14=>qbb (qbd (.bin .and .num true (.c y3) (.c (.int .u8 15)))) (fun y15=>qbb (qbd (.strIdx (.c (.str [48,49,50,51,52,53,54,55,56,57,97,98,99,100,101,102])) (.c y15))) (fun y16=>qbw (qdd 1 [.int .u8 37,y14,y16]) (qbw (leN (qcq 0 (qbs [.int .u8 37,y14,y16])) (qbs [.int .u8 37,y14,y16])) (qbb (qbd (.ofBytes (.c (.sl 1 (qbu (qbs [.int .u8 37,y14,y16]) (qb4 0 [.int .u8 37,y14,y16])) false)))) (fun y17=>qbb (ioO B qqc 30 [y17,nI (qbi (nth y0.1 3)),.sl 1 (qbc (nth y0.1 4)) false]) (fun y18=>qbb (qbd (.bin .add .num true (.c (nth y0.1 2)) (.c (.int .i64 1)))) (fun y19=>some (.inl ([nth y0.1 0,nth y0.1 1,y19,nI (qbi (nth y18 2)),.sl 1 (qbc (nth y18 3)) false],y0.2)))))))))))) (qbb (qb6 B .cl (.fn 115 []) [.str [37,40,41,58],y3]) (fun y20=>qbb (qbd (.bin .geq .num true (.c y20) (.c (.int .i64 0)))) (fun y21=>qdu y21 (qbb (qbd (.bin .shr .num true (.c y3) (.c (.int .u64 4)))) (fun y22=>qbb (qbd (.strIdx (.c (.str [48,49,50,51,52,53,54,55,56,57,97,98,99,100,101,102])) (.c y22))) (fun y23=>qbb (qbd (.bin .and .num true (.c y3) (.c (.int .u8 15)))) (fun y24=>qbb (qbd (.strIdx (.c (.str [48,49,50,51,52,53,54,55,56,57,97,98,99,100,101,102])) (.c y24))) (fun y25=>qbw (qdd 1 [.int .u8 37,y23,y25]) (qbw (leN (qcq 0 (qbs [.int .u8 37,y23,y25])) (qbs [.int .u8 37,y23,y25])) (qbb (qbd (.ofBytes (.c (.sl 1 (qbu (qbs [.int .u8 37,y23,y25]) (qb4 0 [.int .u8 37,y23,y25])) false)))) (fun y26=>qbb (ioO B qqc 30 [y26,nI (qbi (nth y0.1 3)),.sl 1 (qbc (nth y0.1 4)) false]) (fun y27=>qbb (qbd (.bin .add .num true (.c (nth y0.1 2)) (.c (.int .i64 1)))) (fun y28=>some (.inl ([nth y0.1 0,nth y0.1 1,y28,nI (qbi (nth y27 2)),.sl 1 (qbc (nth y27 3)) false],y0.2)))))))))))) (qbb (ioO B qv3 116 [y3,nI (qbi (nth y0.1 3)),.sl 1 (qbc (nth y0.1 4)) false]) (fun y29=>qbb (qbd (.bin .add .num true (.c (nth y0.1 2)) (.c (.int .i64 1)))) (fun y30=>some (.inl ([nth y0.1 0,nth y0.1 1,y30,nI (qbi (nth y29 1)),.sl 1 (qbc (nth y29 2)) false],y0.2)))))))))))))) (qbb (qbw (qxb (qbi (nth y0.1 3)) (qbc (nth y0.1 4))) (some (qq2 (qbu (qbi (nth y0.1 3)) (qbc (nth y0.1 4))),y0.2))) (fun y31=>some (.inr y31)))))
theorem run80 (B:KB) {E:Type} (h:qbk E) (dep:Nat) (e:E) (x0:PV):qmk (qjh B (fun _=>.cl)) fn80 (.cl) h dep [.cv x0] e=qbb (qbd (.toBytes (.c x0))) (fun z1=>qbb (qbd (.len .slice (.c z1))) (fun z2=>qbb (qbd (.bin .lss .num false (.c (.int .i64 0)) (.c z2))) (fun z3=>qdu z3 (qbb (qbd (.idxAddr 1 (.c z1) (.c (.int .i64 0)))) (fun z4=>qbb (qbd (.load 1 false (.c z4))) (fun z5=>qbb (qbd (.bin .lss .num true (.c z5) (.c (.int .u8 33)))) (fun z6=>qdu z6 (qbb (qbd (.bin .shr .num true (.c z5) (.c (.int .u64 4)))) (fun z7=>qbb (qbd (.strIdx (.c (.str [48,49,50,51,52,53,54,55,56,57,97,98,99,100,101,102])) (.c z7))) (fun z8=>qbb (qbd (.bin .and .num true (.c z5) (.c (.int .u8 15)))) (fun z9=>qbb (qbd (.strIdx (.c (.str [48,49,50,51,52,53,54,55,56,57,97,98,99,100,101,102])) (.c z9))) (fun z10=>qbw (qdd 1 [.int .u8 37,z8,z10]) (qbw (leN (qcq 0 (qbs [.int .u8 37,z8,z10])) (qbs [.int .u8 37,z8,z10])) (qbb (qbd (.ofBytes (.c (.sl 1 (qbu (qbs [.int .u8 37,z8,z10]) (qb4 0 [.int .u8 37,z8,z10])) false)))) (fun z11=>qbb (ioO B qnj 30 [z11,.nilP,.nilS]) (fun z12=>qbb (qbd (.bin .add .num true (.c (.int .i64 0)) (.c (.int .i64 1)))) (fun z13=>qbw (qbo [z1,z2,z13]) (qcf (qzw B) ([z1,z2,z13,nI (qbi (nth z12 2)),.sl 1 (qbc (nth z12 3)) false],e)))))))))))) (qbb (qbd (.bin .gtr .num true (.c z5) (.c (.int .u8 126)))) (fun z46=>qdu z46 (qbb (qbd (.bin .shr .num true (.c z5) (.c (.int .u64 4)))) (fun z47=>qbb (qbd (.strIdx (.c (.str [48,49,50,51,52,53,54,55,56,57,97,98,99,100,101,102])) (.c z47))) (fun z48=>qbb (qbd (.bin .and .num true (.c z5) (.c (.int .u8 15)))) (fun z49=>qbb (qbd (.strIdx (.c (.str [48,49,50,51,52,53,54,55,56,57,97,98,99,100,101,102])) (.c z49))) (fun z50=>qbw (qdd 1 [.int .u8 37,z48,z50]) (qbw (leN (qcq 0 (qbs [.int .u8 37,z48,z50])) (qbs [.int .u8 37,z48,z50])) (qbb (qbd (.ofBytes (.c (.sl 1 (qbu (qbs [.int .u8 37,z48,z50]) (qb4 0 [.int .u8 37,z48,z50])) false)))) (fun z51=>qbb (ioO B qnj 30 [z51,.nilP,.nilS]) (fun z52=>qbb (qbd (.bin .add .num true (.c (.int .i64 0)) (.c (.int .i64 1)))) (fun z53=>qbw (qbo [z1,z2,z53]) (qcf (qzw B) ([z1,z2,z53,nI (qbi (nth z52 2)),.sl 1 (qbc (nth z52 3)) false],e)))))))))))) (qbb (qb6 B .cl (.fn 115 []) [.str [37,40,41,58],z5]) (fun z86=>qbb (qbd (.bin .geq .num true (.c z86) (.c (.int .i64 0)))) (fun z87=>qdu z87 (qbb (qbd (.bin .shr .num true (.c z5) (.c (.int .u64 4)))) (fun z88=>qbb (qbd (.strIdx (.c (.str [48,49,50,51,52,53,54,55,56,57,97,98,99,100,101,102])) (.c z88))) (fun z89=>qbb (qbd (.bin .and .num true (.c z5) (.c (.int .u8 15)))) (fun z90=>qbb (qbd (.strIdx (.c (.str [48,49,50,51,52,53,54,55,56,57,97,98,99,100,101,102])) (.c z90))) (fun z91=>qbw (qdd 1 [.int .u8 37,z89,z91]) (qbw (leN (qcq 0 (qbs [.int .u8 37,z89,z91])) (qbs [.int .u8 37,z89,z91])) (qbb (qbd (.ofBytes (.c (.sl 1 (qbu (qbs [.int .u8 37,z89,z91]) (qb4 0 [.int .u8 37,z89,z91])) false)))) (fun z92=>qbb (ioO B qnj 30 [z92,.nilP,.nilS]) (fun z93=>qbb (qbd (.bin .add .num true (.c (.int .i64 0)) (.c (.int .i64 1)))) (fun z94=>qbw (qbo [z1,z2,z94]) (qcf (qzw B) ([z1,z2,z94,nI (qbi (nth z93 2)),.sl 1 (qbc (nth z93 3)) false],e)))))))))))) (qbb (ioO B qv2 116 [z5,.nilP,.nilS]) (fun z127=>qbb (qbd (.bin .add .num true (.c (.int .i64 0)) (.c (.int .i64 1)))) (fun z128=>qbw (qbo [z1,z2,z128]) (qcf (qzw B) ([z1,z2,z128,nI (qbi (nth z127 1)),.sl 1 (qbc (nth z127 2)) false],e)))))))))))))) (some (.str [],e))))):=by kernel_rfl
theorem run82 (B:KB) (x0:PV) (x1:PV) (x2:PV) (x3:PV) (x4:PV) (x5:PV) (x6:PV) (x7:PV) (x8:PV) :
  ql0 (qjh B (fun _=>.cl)) fn82 Qna [x0,x1,x2,x3,x4,x5,x6,x7,x8] =
  qbb (qbd (.idxAddr 3 (.c x0) (.c x1))) (fun z1=>qbb (qbd (.load 3 true (.c z1))) (fun z2=>qbw (qcu z2 3) (qbb (qbd (.bin .eql .num true (.c (qbl z2 0)) (.c
  (.int .i64 11)))) (fun z3=>qdu z3 (qbb (ioO B sh117 117 [x0,x1,nI (qbi x2),nI (qbi x3),nI (qbi x4),.sl 1 (qbc x5) false,.imap (qc6 x6),.sl 1 (qbc x7) false,.sl 1 (qbc x8) false])
  (fun z4=>some [nI (qbi (nth z4 0)),nI (qbi (nth z4 1)),nI (qbi (nth z4 2)),.sl 1 (qbc (nth z4 3)) false,.imap (qc6 (nth z4 4)),.sl 1 (qbc (nth z4 5)) false,.sl 1
  (qbc (nth z4 6)) false])) (qbb (qbd (.bin .eql .num true (.c (qbl z2 0)) (.c (.int .i64 8)))) (fun z5=>qdu z5 (qbw (qdd 1 [nI (qbi x2)]) (qbw (leN (qcq 0 (qbs
  [nI (qbi x2)])) (qbs [nI (qbi x2)])) (qbw (qrx (leN (qbi x3) (qbs (qbc x7))) (leN (qcq (qbi x3) (qbs (qbu (qbs [nI (qbi x2)]) (qb4 0 [nI (qbi x2)]))))
  2147483648)) (qbw (qdd 1 [qbl z2 1]) (qbw (leN (qcq 0 (qbs [qbl z2 1])) (qbs [qbl z2 1])) (qbw (qrx (leN (qbi x2) (qbs (qbc x5))) (leN (qcq (qbi x2) (qbs
  (qbu (qbs [qbl z2 1]) (qb4 0 [qbl z2 1])))) 2147483648)) (qbb (qbd (.len .slice (.c (qbl z2 2)))) (fun z6=>qbw (qbo [x0,qbl z2 2,z6,.int .i64 0]) (qcf
  (fun z7=>qbb (qbd (.bin .lss .num false (.c (nth z7.1 3)) (.c (nth z7.1 2)))) (fun z8=>qdu z8 (qbb (qbd (.idxAddr 1 (.c (nth z7.1 1)) (.c (nth z7.1 3)))) (fun z9 =>
  qbb (qbd (.load 1 false (.c z9))) (fun z10=>qbb (ioO B Qna 82 [nth z7.1 0,z10,nI (qbi (nth z7.1 4)),nI (qbi (nth z7.1 5)),nI (qbi (nth z7.1 6)),.sl 1 (qbc (nth z7.1 7)) false,.imap
  (qc6 (nth z7.1 8)),.sl 1 (qbc (nth z7.1 9)) false,.sl 1 (qbc (nth z7.1 10)) false]) (fun z11=>qbb (qbd (.bin .add .num true (.c (nth z7.1 3)) (.c (.int .i64 1))))
  (fun z12=>some (.inl ([nth z7.1 0,nth z7.1 1,nth z7.1 2,z12,nI (qbi (nth z11 0)),nI (qbi (nth z11 1)),nI (qbi (nth z11 2)),.sl 1 (qbc (nth z11 3)) false,.imap
  (qc6 (nth z11 4)),.sl 1 (qbc (nth z11 5)) false,.sl 1 (qbc (nth z11 6)) false],z7.2))))))) (qbb (some [nI (qbi (nth z7.1 4)),nI (qbi (nth z7.1 5)),nI (qbi (nth
  z7.1 6)),.sl 1 (qbc (nth z7.1 7)) false,.imap (qc6 (nth z7.1 8)),.sl 1 (qbc (nth z7.1 9)) false,.sl 1 (qbc (nth z7.1 10)) false]) (fun z13=>some (.inr z13)))))
  ([x0,qbl z2 2,z6,.int .i64 0,nI (qcq (qbi x2) (qbs (qbu (qbs [qbl z2 1]) (qb4 0 [qbl z2 1])))),nI (qcq (qbi x3) (qbs (qbu (qbs [nI (qbi x2)]) (qb4 0 [nI
  (qbi x2)])))),nI (qbi x4),.sl 1 (qmh (qbu (qbi x2) (qbc x5)) (qbu (qbs [qbl z2 1]) (qb4 0 [qbl z2 1]))) false,.imap (qc6 x6),.sl 1 (qmh (qbu (qbi x3)
  (qbc x7)) (qbu (qbs [nI (qbi x2)]) (qb4 0 [nI (qbi x2)]))) false,.sl 1 (qbc x8) false],())))))))))) (qbb (qbd (.bin .eql .num true (.c (qbl z2 0)) (.c (.int
  .i64 3)))) (fun z14=>qdu z14 (qdu z14 (qbb (qh2 B .cl true 118 [ptrO [slO 1 1 (qbc x5) 0 (qbi x2),.imap (qc6 x6),slO 1 1 (qbc x7) 0 (qbi x3),slO 1 1 (qbc
  x8) 0 (qbi x4)] 0,qbl z2 1]) (fun z15=>qbw (qdd 1 [z15]) (qbw (leN (qcq 0 (qbs [z15])) (qbs [z15])) (qbw (qrx (leN (qbi x3) (qbs (qbc x7))) (leN (qcq (qbi x3)
  (qbs (qbu (qbs [z15]) (qb4 0 [z15])))) 2147483648)) (qbb (qbd (.len .slice (.c (qbl z2 2)))) (fun z16=>qbw (qbo [x0,qbl z2 2,z16,.int .i64 0]) (qcf (fun
  z17=>qbb (qbd (.bin .lss .num false (.c (nth z17.1 3)) (.c (nth z17.1 2)))) (fun z18=>qdu z18 (qbb (qbd (.idxAddr 1 (.c (nth z17.1 1)) (.c (nth z17.1 3)))) (fun z19 =>
  qbb (qbd (.load 1 false (.c z19))) (fun z20=>qbb (ioO B Qna 82 [nth z17.1 0,z20,nI (qbi (nth z17.1 4)),nI (qbi (nth z17.1 5)),nI (qbi (nth z17.1 6)),.sl 1 (qbc (nth z17.1 7)) false,
  .imap (qc6 (nth z17.1 8)),.sl 1 (qbc (nth z17.1 9)) false,.sl 1 (qbc (nth z17.1 10)) false]) (fun z21=>qbb (qbd (.bin .add .num true (.c (nth z17.1 3)) (.c (.int
  .i64 1)))) (fun z22=>some (.inl ([nth z17.1 0,nth z17.1 1,nth z17.1 2,z22,nI (qbi (nth z21 0)),nI (qbi (nth z21 1)),nI (qbi (nth z21 2)),.sl 1 (qbc (nth z21 3))
  false,.imap (qc6 (nth z21 4)),.sl 1 (qbc (nth z21 5)) false,.sl 1 (qbc (nth z21 6)) false],z17.2))))))) (qbb (some [nI (qbi (nth z17.1 4)),nI (qbi (nth z17.1 5)),
  nI (qbi (nth z17.1 6)),.sl 1 (qbc (nth z17.1 7)) false,.imap (qc6 (nth z17.1 8)),.sl 1 (qbc (nth z17.1 9)) false,.sl 1 (qbc (nth z17.1 10)) false]) (fun z23=>some
  (.inr z23))))) ([x0,qbl z2 2,z16,.int .i64 0,nI (qbi x2),nI (qcq (qbi x3) (qbs (qbu (qbs [z15]) (qb4 0 [z15])))),nI (qbi x4),.sl 1 (qbc x5) false,.imap
  (qc6 x6),.sl 1 (qmh (qbu (qbi x3) (qbc x7)) (qbu (qbs [z15]) (qb4 0 [z15]))) false,.sl 1 (qbc x8) false],())))))))) (qbb (qbd (.len .slice (.c (qbl z2
  2)))) (fun z24=>qbw (qbo [x0,qbl z2 2,z24,.int .i64 0]) (qcf (fun z25=>qbb (qbd (.bin .lss .num false (.c (nth z25.1 3)) (.c (nth z25.1 2)))) (fun z26=>qdu
  z26 (qbb (qbd (.idxAddr 1 (.c (nth z25.1 1)) (.c (nth z25.1 3)))) (fun z27=>qbb (qbd (.load 1 false (.c z27))) (fun z28=>qbb (ioO B Qna 82 [nth z25.1 0,z28,nI (qbi (nth z25.1 4)),
  nI (qbi (nth z25.1 5)),nI (qbi (nth z25.1 6)),.sl 1 (qbc (nth z25.1 7)) false,.imap (qc6 (nth z25.1 8)),.sl 1 (qbc (nth z25.1 9)) false,.sl 1 (qbc (nth z25.1 10))
  false]) (fun z29=>qbb (qbd (.bin .add .num true (.c (nth z25.1 3)) (.c (.int .i64 1)))) (fun z30=>some (.inl ([nth z25.1 0,nth z25.1 1,nth z25.1 2,z30,nI (qbi (nth z29
  0)),nI (qbi (nth z29 1)),nI (qbi (nth z29 2)),.sl 1 (qbc (nth z29 3)) false,.imap (qc6 (nth z29 4)),.sl 1 (qbc (nth z29 5)) false,.sl 1 (qbc (nth z29 6)) false],
  z25.2))))))) (qbb (some [nI (qbi (nth z25.1 4)),nI (qbi (nth z25.1 5)),nI (qbi (nth z25.1 6)),.sl 1 (qbc (nth z25.1 7)) false,.imap (qc6 (nth z25.1 8)),.sl 1 (qbc
  (nth z25.1 9)) false,.sl 1 (qbc (nth z25.1 10)) false]) (fun z31=>some (.inr z31))))) ([x0,qbl z2 2,z24,.int .i64 0,nI (qbi x2),nI (qbi x3),nI (qbi x4),.sl 1
  (qbc x5) false,.imap (qc6 x6),.sl 1 (qbc x7) false,.sl 1 (qbc x8) false],()))))) (qbb (qbd (.bin .eql .num true (.c (qbl z2 0)) (.c (.int .i64 14)))) (fun z32
  => qdu z32 (qbb (qh2 B .cl true 118 [ptrO [slO 1 1 (qbc x5) 0 (qbi x2),.imap (qc6 x6),slO 1 1 (qbc x7) 0 (qbi x3),slO 1 1 (qbc x8) 0 (qbi x4)] 0,qbl z2 1])
  (fun z33=>qbw (qdd 1 [z33]) (qbw (leN (qcq 0 (qbs [z33])) (qbs [z33])) (qbw (qrx (leN (qbi x3) (qbs (qbc x7))) (leN (qcq (qbi x3) (qbs (qbu (qbs [z33]) (qb4
  0 [z33])))) 2147483648)) (qbb (qbd (.len .slice (.c (qbl z2 2)))) (fun z34=>qbw (qbo [x0,qbl z2 2,z34,.int .i64 0]) (qcf (fun z35=>qbb (qbd (.bin .lss
  .num false (.c (nth z35.1 3)) (.c (nth z35.1 2)))) (fun z36=>qdu z36 (qbb (qbd (.idxAddr 1 (.c (nth z35.1 1)) (.c (nth z35.1 3)))) (fun z37=>qbb (qbd (.load 1 false
  (.c z37))) (fun z38=>qbb (ioO B Qna 82 [nth z35.1 0,z38,nI (qbi (nth z35.1 4)),nI (qbi (nth z35.1 5)),nI (qbi (nth z35.1 6)),.sl 1 (qbc (nth z35.1 7)) false,.imap (qc6 (nth z35.1 8)),
  .sl 1 (qbc (nth z35.1 9)) false,.sl 1 (qbc (nth z35.1 10)) false]) (fun z39=>qbb (qbd (.bin .add .num true (.c (nth z35.1 3)) (.c (.int .i64 1)))) (fun z40=>some
  (.inl ([nth z35.1 0,nth z35.1 1,nth z35.1 2,z40,nI (qbi (nth z39 0)),nI (qbi (nth z39 1)),nI (qbi (nth z39 2)),.sl 1 (qbc (nth z39 3)) false,.imap (qc6 (nth z39
  4)),.sl 1 (qbc (nth z39 5)) false,.sl 1 (qbc (nth z39 6)) false],z35.2))))))) (qbb (some [nI (qbi (nth z35.1 4)),nI (qbi (nth z35.1 5)),nI (qbi (nth z35.1 6)),.sl
  1 (qbc (nth z35.1 7)) false,.imap (qc6 (nth z35.1 8)),.sl 1 (qbc (nth z35.1 9)) false,.sl 1 (qbc (nth z35.1 10)) false]) (fun z41=>some (.inr z41))))) ([x0,qbl
  z2 2,z34,.int .i64 0,nI (qbi x2),nI (qcq (qbi x3) (qbs (qbu (qbs [z33]) (qb4 0 [z33])))),nI (qbi x4),.sl 1 (qbc x5) false,.imap (qc6 x6),.sl 1 (qmh (qbu
  (qbi x3) (qbc x7)) (qbu (qbs [z33]) (qb4 0 [z33]))) false,.sl 1 (qbc x8) false],())))))))) (qbb (qbd (.len .slice (.c (qbl z2 2)))) (fun z42=>qbw (qbo
  [x0,qbl z2 2,z42,.int .i64 0]) (qcf (fun z43=>qbb (qbd (.bin .lss .num false (.c (nth z43.1 3)) (.c (nth z43.1 2)))) (fun z44=>qdu z44 (qbb (qbd (.idxAddr 1 (.c
  (nth z43.1 1)) (.c (nth z43.1 3)))) (fun z45=>qbb (qbd (.load 1 false (.c z45))) (fun z46=>qbb (ioO B Qna 82 [nth z43.1 0,z46,nI (qbi (nth z43.1 4)),nI (qbi (nth z43.1 5)),nI (qbi (nth
  z43.1 6)),.sl 1 (qbc (nth z43.1 7)) false,.imap (qc6 (nth z43.1 8)),.sl 1 (qbc (nth z43.1 9)) false,.sl 1 (qbc (nth z43.1 10)) false]) (fun z47=>qbb (qbd (.bin
  .add .num true (.c (nth z43.1 3)) (.c (.int .i64 1)))) (fun z48=>some (.inl ([nth z43.1 0,nth z43.1 1,nth z43.1 2,z48,nI (qbi (nth z47 0)),nI (qbi (nth z47 1)),nI (qbi
  (nth z47 2)),.sl 1 (qbc (nth z47 3)) false,.imap (qc6 (nth z47 4)),.sl 1 (qbc (nth z47 5)) false,.sl 1 (qbc (nth z47 6)) false],z43.2))))))) (qbb (some [nI (qbi
  (nth z43.1 4)),nI (qbi (nth z43.1 5)),nI (qbi (nth z43.1 6)),.sl 1 (qbc (nth z43.1 7)) false,.imap (qc6 (nth z43.1 8)),.sl 1 (qbc (nth z43.1 9)) false,.sl 1 (qbc
  (nth z43.1 10)) false]) (fun z49=>some (.inr z49))))) ([x0,qbl z2 2,z42,.int .i64 0,nI (qbi x2),nI (qbi x3),nI (qbi x4),.sl 1 (qbc x5) false,.imap (qc6 x6),.sl
  1 (qbc x7) false,.sl 1 (qbc x8) false],())))))))))))))):=by kernel_rfl
theorem run83 (B:KB) (x0:PV) (x1:PV) (x2:PV) (x3:PV) (x4:PV) (x5:PV) (x6:PV) (x7:PV) (x8:PV) (x9:PV) :
  ql0 (qjh B (fun _=>.cl)) fn83 sh83 [x0,x1,x2,x3,x4,x5,x6,x7,x8,x9] =
  qbw (qbo [x0,nI (qbi x1),nI (qbi x1),.int .i64 0]) (qcf (fun z1=>qbb (qbd (.bin .lss .num false (.c (nth z1.1 3)) (.c (nth z1.1 2)))) (fun z2=>qdu z2 (qbb
  (qr6 (nth z1.1 3)) (fun z3=>qbw (ltN z3 (qbi (nth z1.1 1))) (qbb (qkz (qbc (nth z1.1 7)) (qcq 0 z3) 0 1 false) (fun z4=>qbb (Qny .str .nilS false (qc6 (nth
  z1.1 9)) z4) (fun z5=>qbb (qbd (.len .slice (.c z5))) (fun z6=>qbb (qbd (.len .slice (.c z5))) (fun z7=>qbb (qbd (.slice 1 (.c z5) none (some (.c z6)) (some (.c
  z7)))) (fun z8=>qbb (qbd (.bin .add .num false (.c (nth z1.1 0)) (.c (nth z1.1 3)))) (fun z9=>qbw (qdd 1 [z9]) (qbw (leN (qcq 0 (qbs [z9])) (qbs [z9])) (qbb (appO
  1 z8 (qbu (qbs [z9]) (qb4 0 [z9]))) (fun z10=>qbb (insO .str (qc6 (nth z1.1 9)) z4 (nth [slO 1 1 z10 0 (qbs z10)] 0)) (fun z11=>qbw (qdd 1 [z4]) (qbw (leN (qcq 0
  (qbs [z4])) (qbs [z4])) (qbw (qrx (leN (qbi (nth z1.1 6)) (qbs (qbc (nth z1.1 11)))) (leN (qcq (qbi (nth z1.1 6)) (qbs (qbu (qbs [z4]) (qb4 0 [z4])))) 2147483648))
  (qbb (qbd (.bin .add .num true (.c (nth z1.1 3)) (.c (.int .i64 1)))) (fun z12=>some (.inl ([nth z1.1 0,nI (qbi (nth z1.1 1)),nth z1.1 2,z12,nI (qbi (nth z1.1 4)),nI
  (qbi (nth z1.1 5)),nI (qcq (qbi (nth z1.1 6)) (qbs (qbu (qbs [z4]) (qb4 0 [z4])))),.sl 1 (qbc (nth z1.1 7)) false,.sl 1 (qbc (nth z1.1 8)) false,.imap z11,.sl 1
  (qbc (nth z1.1 10)) false,.sl 1 (qmh (qbu (qbi (nth z1.1 6)) (qbc (nth z1.1 11))) (qbu (qbs [z4]) (qb4 0 [z4]))) false],z1.2))))))))))))))))))) (qbb (some [nI
  (qbi (nth z1.1 4)),nI (qbi (nth z1.1 5)),nI (qbi (nth z1.1 6)),.sl 1 (qbc (nth z1.1 7)) false,.sl 1 (qbc (nth z1.1 8)) false,.imap (qc6 (nth z1.1 9)),.sl 1 (qbc
  (nth z1.1 10)) false,.sl 1 (qbc (nth z1.1 11)) false]) (fun z13=>some (.inr z13))))) ([x0,nI (qbi x1),nI (qbi x1),.int .i64 0,nI (qbi x2),nI (qbi x3),nI (qbi x4),
  .sl 1 (qbc x5) false,.sl 1 (qbc x6) false,.imap (qc6 x7),.sl 1 (qbc x8) false,.sl 1 (qbc x9) false],())):=by kernel_rfl
theorem run85 (B:KB) {E:Type} (h:qbk E) (dep:Nat) (e:E) (x0:PV) (x1:PV) :
  qmk (qjh B (fun _=>.cl)) fn85 (.cl) h dep [.cv x0,.cv x1] e =
  qbb (qbd (.len .slice (.c x0))) (fun z1=>qbw (qbo [x0,x1,z1,.int .i64 0]) (qcf (fun z2=>qbb (qbd (.bin .lss .num false (.c (nth z2.1 3)) (.c (nth z2.1 2))))
  (fun z3=>qdu z3 (qbb (qbd (.idxAddr 1 (.c (nth z2.1 0)) (.c (nth z2.1 3)))) (fun z4=>qbb (qbd (.load 1 false (.c z4))) (fun z5=>qbb (qb6 B .cl (nth z2.1 1) [z5])
  (fun z6=>qdu z6 (qbb (some (nth z2.1 3,z2.2)) (fun z7=>some (.inr z7))) (qbb (qbd (.bin .add .num true (.c (nth z2.1 3)) (.c (.int .i64 1)))) (fun z8=>some (.inl
  ([nth z2.1 0,nth z2.1 1,nth z2.1 2,z8],z2.2)))))))) (qbb (some (.int .i64 (-1),z2.2)) (fun z9=>some (.inr z9))))) ([x0,x1,z1,.int .i64 0],e))):=by kernel_rfl
theorem run86 (B:KB) (x0:PV) (x1:PV) (x2:PV) (x3:PV) (x4:PV) (x5:PV) :
  ql0 (qjh B (fun _=>.cl)) fn86 sh86 [x0,x1,x2,x3,x4,x5] =
  qbb (qb6 B .cl (.fn 33 []) [x0]) (fun z1=>qbb (qbd (.un .not (.c z1))) (fun z2=>qdu z2 (qbb (qbd (.load 1 false (.c (.ptr [.glob 1 407] 0)))) (fun z3=>qbw
  (qcu z3 1) (qbb (ioO B Qnb 119 [nI (qbi x1),x0,nI (qbi x1),nI (qbi x2),qbl z3
  0,.sl 3 (qbc x4) false,.sl 1 (qbc x5) false]) (fun z4=>qbb (qbd (.bin .sub .num true (.c (nI (qbi (nth z4 0)))) (.c (.int .i64 1)))) (fun z5=>qbw (qdd 1 [z5])
  (qbw (leN (qcq 0 (qbs [z5])) (qbs [z5])) (qbw (qrx (leN (qbi (nth z4 1)) (qbs (qbc (nth z4 4)))) (leN (qcq (qbi (nth z4 1)) (qbs (qbu (qbs [z5]) (qb4 0 [z5]))))
  2147483648)) (some [nI (qbi (nth z4 0)),nI (qcq (qbi (nth z4 1)) (qbs (qbu (qbs [z5]) (qb4 0 [z5])))),nth z4 2,.sl 3 (qbc (nth z4 3)) false,.sl 1 (qmh (qbu (qbi
  (nth z4 1)) (qbc (nth z4 4))) (qbu (qbs [z5]) (qb4 0 [z5]))) false])))))))) (qbb (ioO B Qnb 119 [nI (qbi x1),x0,nI (qbi x1),nI (qbi x2),x3,.sl 3 (qbc x4) false,.sl 1 (qbc x5) false]) (fun z6=>qbb (qbd (.bin .sub .num true (.c (nI (qbi (nth z6
  0)))) (.c (.int .i64 1)))) (fun z7=>qbw (qdd 1 [z7]) (qbw (leN (qcq 0 (qbs [z7])) (qbs [z7])) (qbw (qrx (leN (qbi (nth z6 1)) (qbs (qbc (nth z6 4)))) (leN (qcq
  (qbi (nth z6 1)) (qbs (qbu (qbs [z7]) (qb4 0 [z7])))) 2147483648)) (some [nI (qbi (nth z6 0)),nI (qcq (qbi (nth z6 1)) (qbs (qbu (qbs [z7]) (qb4 0 [z7])))),nth z6
  2,.sl 3 (qbc (nth z6 3)) false,.sl 1 (qmh (qbu (qbi (nth z6 1)) (qbc (nth z6 4))) (qbu (qbs [z7]) (qb4 0 [z7]))) false])))))))):=by kernel_rfl
theorem run88 (B:KB) {E:Type} (h:qbk E) (dep:Nat) (e:E) (x0:PV) (x1:PV) :
  qmk (qjh B (fun _=>.cl)) fn88 (.cl) h dep [.cv x0,.cv x1] e =
  qbb (qbd (.len .slice (.c x0))) (fun z1=>qbw (qbo [x0,x1,z1,.int .i64 0]) (qcf (fun z2=>qbb (qbd (.bin .lss .num false (.c (nth z2.1 3)) (.c (nth z2.1 2))))
  (fun z3=>qdu z3 (qbb (qbd (.idxAddr 1 (.c (nth z2.1 0)) (.c (nth z2.1 3)))) (fun z4=>qbb (qbd (.load 1 false (.c z4))) (fun z5=>qbb (qbd (.bin .eql .num false
  (.c (nth z2.1 1)) (.c z5))) (fun z6=>qdu z6 (qbb (some (nth z2.1 3,z2.2)) (fun z7=>some (.inr z7))) (qbb (qbd (.bin .add .num true (.c (nth z2.1 3)) (.c (.int .i64
  1)))) (fun z8=>some (.inl ([nth z2.1 0,nth z2.1 1,nth z2.1 2,z8],z2.2)))))))) (qbb (some (.int .i64 (-1),z2.2)) (fun z9=>some (.inr z9))))) ([x0,x1,z1,.int .i64 0],
  e))):=by kernel_rfl
theorem run115 (B:KB) {E:Type} (h:qbk E) (dep:Nat) (e:E) (x0:PV) (x1:PV) :
  qmk (qjh B (fun _=>.cl)) fn115 (.cl) h dep [.cv x0,.cv x1] e =
  qbb (qb6 B .cl (.fn 151 []) [x0,x1]) (fun z1=>some (z1,e)):=by kernel_rfl
theorem run116_0 (B:KB) (x0:PV) (x1:PV) (x2:PV) :
  ql0 (qjh B (fun _=>.cl)) fn116 qv3 [x0,x1,x2] =
  qbw (qdd 1 [x0]) (qbw (leN (qcq 0 (qbs [x0])) (qbs [x0])) (qbw (qrx (leN (qbi x1) (qbs (qbc x2))) (leN (qcq (qbi x1) (qbs (qbu (qbs [x0]) (qb4 0 [x0]))))
  2147483648)) (some [.nilI,nI (qcq (qbi x1) (qbs (qbu (qbs [x0]) (qb4 0 [x0])))),.sl 1 (qmh (qbu (qbi x1) (qbc x2)) (qbu (qbs [x0]) (qb4 0 [x0]))) false]))):=by kernel_rfl
theorem run116_1 (B:KB) (x0:PV) (x1:PV) (x2:PV) :
  ql0 (qjh B (fun _=>.cl)) fn116 qv2 [x0,x1,x2] =
  qbw (Qbc x1) (qbw (qdd 1 [x0]) (qbw (leN (qcq 0 (qbs [x0])) (qbs [x0])) (qbb (appO 1 x2 (qbu (qbs [x0]) (qb4 0 [x0]))) (fun z1=>some [.nilI,nI (qbs z1),.sl
  1 z1 false])))):=by kernel_rfl
theorem run117 (B:KB) (x0:PV) (x1:PV) (x2:PV) (x3:PV) (x4:PV) (x5:PV) (x6:PV) (x7:PV) (x8:PV) :
  ql0 (qjh B (fun _=>.cl)) fn117 sh117 [x0,x1,x2,x3,x4,x5,x6,x7,x8] =
  qbb (qbd (.idxAddr 3 (.c x0) (.c x1))) (fun z1=>qbb (qbd (.fieldAddr 2 (.c z1))) (fun z2=>qbb (qbd (.load 1 false (.c z2))) (fun z3=>qbb (qbd (.len .slice (.c
  z3))) (fun z4=>qbw (qbo [x0,z3,z4,.int .i64 0]) (qcf (fun z5=>qbb (qbd (.bin .lss .num false (.c (nth z5.1 3)) (.c (nth z5.1 2)))) (fun z6=>qdu z6 (qbb
  (qbd (.idxAddr 1 (.c (nth z5.1 1)) (.c (nth z5.1 3)))) (fun z7=>qbb (qbd (.load 1 false (.c z7))) (fun z8=>qbb (ioO B sh54 54 [nth z5.1 0,z8,nI (qbi (nth z5.1 4)),nI (qbi (nth z5.1 5)),nI
  (qbi (nth z5.1 6)),.sl 1 (qbc (nth z5.1 7)) false,.imap (qc6 (nth z5.1 8)),.sl 1 (qbc (nth z5.1 9)) false,.sl 1 (qbc (nth z5.1 10)) false]) (fun z9=>qbb (qbd
  (.bin .add .num true (.c (nth z5.1 3)) (.c (.int .i64 1)))) (fun z10=>some (.inl ([nth z5.1 0,nth z5.1 1,nth z5.1 2,z10,nI (qbi (nth z9 0)),nI (qbi (nth z9 1)),nI (qbi
  (nth z9 2)),.sl 1 (qbc (nth z9 3)) false,.imap (qc6 (nth z9 4)),.sl 1 (qbc (nth z9 5)) false,.sl 1 (qbc (nth z9 6)) false,nth z5.1 11],z5.2))))))) (qbb (qbb
  (ioO B sh152 152 [nth z5.1 11,nI (qbi
  (nth z5.1 4)),nI (qbi (nth z5.1 5)),nI (qbi (nth z5.1 6)),.sl 1 (qbc (nth z5.1 7)) false,.imap (qc6 (nth z5.1 8)),.sl 1 (qbc (nth z5.1 9)) false,.sl 1 (qbc (nth
  z5.1 10)) false]) (fun z11=>some [nI (qbi (nth z11 0)),nI (qbi (nth z11 1)),nI (qbi (nth z11 2)),.sl 1 (qbc (nth z11 3)) false,.imap (qc6 (nth z11 4)),.sl 1 (qbc
  (nth z11 5)) false,.sl 1 (qbc (nth z11 6)) false])) (fun z12=>some (.inr z12))))) ([x0,z3,z4,.int .i64 0,nI (qbi x2),nI (qbi x3),nI (qbi x4),.sl 1 (qbc x5)
  false,.imap (qc6 x6),.sl 1 (qbc x7) false,.sl 1 (qbc x8) false,nI (qbi x4)],())))))):=by kernel_rfl
theorem run118 (B:KB) {E:Type} (h:qbk E) (dep:Nat) (e:E) (x0:PV) (x1:PV) :
  qmk (qjh B (fun _=>.cl)) fn118 (.cl) h dep [.cv x0,.cv x1] e =
  qbb (qbd (.nilck (.c x0))) (fun z1=>qbb (qbd (.fieldAddr 1 (.c z1))) (fun z2=>qbb (qbd (.load 1 false (.c z2))) (fun z3=>qbb (qbd (.lookup .str .nilS false
  (.c z3) (.c x1))) (fun z4=>qbb (qbd (.len .slice (.c z4))) (fun z5=>qbb (qbd (.bin .eql .num true (.c z5) (.c (.int .i64 0)))) (fun z6=>qdu z6 (some (.int .i64 (-1),
  e)) (qbb (qbd (.len .slice (.c z4))) (fun z7=>qbb (qbd (.bin .sub .num true (.c z7) (.c (.int .i64 1)))) (fun z8=>qbb (qbd (.idxAddr 1 (.c z4) (.c z8))) (fun z9 =>
  qbb (qbd (.load 1 false (.c z9))) (fun z10=>some (z10,e)))))))))))):=by kernel_rfl
theorem run119 (B:KB) (x0:PV) (x1:PV) (x2:PV) (x3:PV) (x4:PV) (x5:PV) (x6:PV) :
  ql0 (qjh B (fun _=>.cl)) fn119 Qnb [x0,x1,x2,x3,x4,x5,x6] =
  qbb (qbd (.len .slice (.c x1))) (fun z1=>qbw (qbo [x0,x1,z1,.int .i64 0]) (qcf (fun z2=>qbb (qbd (.bin .lss .num false (.c (nth z2.1 3)) (.c (nth z2.1 2))))
  (fun z3=>qdu z3 (qbb (qbd (.idxAddr 3 (.c (nth z2.1 1)) (.c (nth z2.1 3)))) (fun z4=>qbb (qbd (.load 3 true (.c z4))) (fun z5=>qbw (qcu z5 3) (qbb (qbd
  (.len .slice (.c (qbl z5 2)))) (fun z6=>qbb (mkSO z6 z6) (fun z7=>qbb (qjr 1 (qbl z5 2)) (fun z8=>qbw (leN (qcq 0 z7) (qbs (qmn z7 (.int .i64 0)))) (qbw
  (qbo [nth z2.1 0,nI z7,nth z2.1 1,nth z2.1 2,nth z2.1 3,nI z7,.int .i64 0]) (qcf (fun z9=>qbb (qbd (.bin .lss .num false (.c (nth z9.1 6)) (.c (nth z9.1 5))))
  (fun z10=>qdu z10 (qbb (qr6 (nth z9.1 6)) (fun z11=>qbw (ltN z11 (qbi (nth z9.1 1))) (qbb (qkz (qbc (nth z9.1 15)) (qcq 0 z11) 0 1 false) (fun z12=>qbb (qbd
  (.bin .add .num false (.c z12) (.c (nth z9.1 0)))) (fun z13=>qbb (qr6 (nth z9.1 6)) (fun z14=>qbw (ltN z14 (qbi (nth z9.1 1))) (qbb (setO 1 (qbc (nth z9.1 15)) (qcq
  0 z14) 0 1 z13) (fun z15=>qbb (qbd (.bin .add .num true (.c (nth z9.1 6)) (.c (.int .i64 1)))) (fun z16=>some (.inl ([nth z9.1 0,nI (qbi (nth z9.1 1)),nth z9.1 2,nth
  z9.1 3,nth z9.1 4,nth z9.1 5,z16,nI (qbi (nth z9.1 7)),nI (qbi (nth z9.1 8)),nth z9.1 9,.sl 3 (qbc (nth z9.1 10)) false,.sl 1 (qbc (nth z9.1 11)) false,nth z9.1
  12,nth z9.1 13,nth z9.1 14,.sl 1 z15 false],z9.2))))))))))) (qbb (qbw (qcu (nth z9.1 12) 1) (qbw (qcu (nth z9.1 13) 1) (qbw (qdd 3 [.agg [qbl (nth z9.1 12) 0,
  qbl (nth z9.1 13) 0,slO 1 1 (qbc (nth z9.1 15)) 0 (qbi (nth z9.1 1))]]) (qbw (leN (qcq 0 (qbs [.agg [qbl (nth z9.1 12) 0,qbl (nth z9.1 13) 0,slO 1 1 (qbc (nth
  z9.1 15)) 0 (qbi (nth z9.1 1))]])) (qbs [.agg [qbl (nth z9.1 12) 0,qbl (nth z9.1 13) 0,slO 1 1 (qbc (nth z9.1 15)) 0 (qbi (nth z9.1 1))]])) (qbw (qrx (leN (qbi (nth
  z9.1 7)) (qbs (qbc (nth z9.1 10)))) (leN (qcq (qbi (nth z9.1 7)) (qbs (qbu (qbs [.agg [qbl (nth z9.1 12) 0,qbl (nth z9.1 13) 0,slO 1 1 (qbc (nth z9.1 15)) 0
  (qbi (nth z9.1 1))]]) (qb4 0 [.agg [qbl (nth z9.1 12) 0,qbl (nth z9.1 13) 0,slO 1 1 (qbc (nth z9.1 15)) 0 (qbi (nth z9.1 1))]])))) 2147483648)) (qbb (qbd (.bin
  .add .num true (.c (nth z9.1 4)) (.c (.int .i64 1)))) (fun z17=>some (.inl ([nth z9.1 0,nth z9.1 2,nth z9.1 3,z17,nI (qcq (qbi (nth z9.1 7)) (qbs (qbu (qbs [.agg [qbl
  (nth z9.1 12) 0,qbl (nth z9.1 13) 0,slO 1 1 (qbc (nth z9.1 15)) 0 (qbi (nth z9.1 1))]]) (qb4 0 [.agg [qbl (nth z9.1 12) 0,qbl (nth z9.1 13) 0,slO 1 1 (qbc (nth
  z9.1 15)) 0 (qbi (nth z9.1 1))]])))),nI (qbi (nth z9.1 8)),nth z9.1 9,.sl 3 (qmh (qbu (qbi (nth z9.1 7)) (qbc (nth z9.1 10))) (qbu (qbs [.agg [qbl (nth z9.1 12) 0,
  qbl (nth z9.1 13) 0,slO 1 1 (qbc (nth z9.1 15)) 0 (qbi (nth z9.1 1))]]) (qb4 0 [.agg [qbl (nth z9.1 12) 0,qbl (nth z9.1 13) 0,slO 1 1 (qbc (nth z9.1 15)) 0 (qbi
  (nth z9.1 1))]]))) false,.sl 1 (qbc (nth z9.1 11)) false],z9.2))))))))) (fun z18=>some (.inr z18))))) ([nth z2.1 0,nI z7,nth z2.1 1,nth z2.1 2,nth z2.1 3,nI z7,.int
  .i64 0,nI (qbi (nth z2.1 4)),nI (qbi (nth z2.1 5)),nth z2.1 6,.sl 3 (qbc (nth z2.1 7)) false,.sl 1 (qbc (nth z2.1 8)) false,qbl z5 0,qbl z5 1,qbl z5 2,.sl 1
  (qmh (qmh (qbu 0 (qmn z7 (.int .i64 0))) (qbu z7 z8)) (qb4 (qcq 0 (qbs (qbu z7 z8))) (qmn z7 (.int .i64 0)))) false],z2.2)))))))))) (qbb (some [nI (qbi (nth
  z2.1 4)),nI (qbi (nth z2.1 5)),nth z2.1 6,.sl 3 (qbc (nth z2.1 7)) false,.sl 1 (qbc (nth z2.1 8)) false]) (fun z19=>some (.inr z19))))) ([x0,x1,z1,.int .i64 0,nI
  (qbi x2),nI (qbi x3),x4,.sl 3 (qbc x5) false,.sl 1 (qbc x6) false],()))):=by kernel_rfl
theorem run152 (B:KB) (x0:PV) (x1:PV) (x2:PV) (x3:PV) (x4:PV) (x5:PV) (x6:PV) (x7:PV) :
  ql0 (qjh B (fun _=>.cl)) fn152 sh152 [x0,x1,x2,x3,x4,x5,x6,x7] =
  qbb (qlh none (qbi x3) (qbi x3)) (fun z1=>qbb (qlh none (qbi x3) z1) (fun z2=>qbb (qlh (some x0) 0 z2) (fun z3=>iteB (qrx (eqN z2 z3) (ltN 0 z3)) (qbb
  (qbd (.len .slice (.c (.sl 1 [] false)))) (fun z4=>qbw (qbo [x0,.sl 1 [] false,z4,.int .i64 0]) (qcf (fun z5=>qbb (qbd (.bin .lss .num false (.c (nth z5.1 3))
  (.c (nth z5.1 2)))) (fun z6=>qdu z6 (qbb (qbd (.idxAddr 1 (.c (nth z5.1 1)) (.c (nth z5.1 3)))) (fun z7=>qbb (qbd (.load 1 false (.c z7))) (fun z8=>qbb (Qny .str
  .nilS false (qc6 (nth z5.1 8)) z8) (fun z9=>qbb (qbd (.len .slice (.c z9))) (fun z10=>qbb (qbd (.bin .sub .num true (.c z10) (.c (.int .i64 1)))) (fun z11=>qbb
  (qbd (.slice 1 (.c z9) none (some (.c z11)) none)) (fun z12=>qbb (insO .str (qc6 (nth z5.1 8)) z8 z12) (fun z13=>qbb (qbd (.bin .add .num true (.c (nth z5.1 3)) (.c
  (.int .i64 1)))) (fun z14=>some (.inl ([nth z5.1 0,nth z5.1 1,nth z5.1 2,z14,nI (qbi (nth z5.1 4)),nI (qbi (nth z5.1 5)),nI (qbi (nth z5.1 6)),.sl 1 (qbc (nth z5.1
  7)) false,.imap z13,.sl 1 (qbc (nth z5.1 9)) false,.sl 1 (qbc (nth z5.1 10)) false],z5.2))))))))))) (qbb (qbb (qlh none (qbi (nth z5.1 6)) (qbi (nth z5.1 6)))
  (fun z15=>qbb (qlh (some (nth z5.1 0)) (qbi (nth z5.1 6)) z15) (fun z16=>some [nI (qbi (nth z5.1 4)),nI (qbi (nth z5.1 5)),nI z16,.sl 1 (qbc (nth z5.1 7)) false,
  .imap (qc6 (nth z5.1 8)),.sl 1 (qbc (nth z5.1 9)) false,.sl 1 (qbc (nth z5.1 10)) false]))) (fun z17=>some (.inr z17))))) ([x0,.sl 1 [] false,z4,.int .i64 0,nI
  (qbi x1),nI (qbi x2),nI (qbi x3),.sl 1 (qbc x4) false,.imap (qc6 x5),.sl 1 (qbc x6) false,.sl 1 (qbc x7) false],())))) (qbw (qbo [x0,nI (subN z2 z3),nI
  (subN z2 z3),.int .i64 0]) (qcf (fun z18=>qbb (qbd (.bin .lss .num false (.c (nth z18.1 3)) (.c (nth z18.1 2)))) (fun z19=>qdu z19 (qbb (qr6 (nth z18.1 3)) (fun z20
  => qbw (ltN z20 (qbi (nth z18.1 1))) (qbb (qkz (qbc (nth z18.1 10)) (qcq (qcq 0 z3) z20) 0 1 false) (fun z21=>qbb (Qny .str .nilS false (qc6 (nth z18.1 8)) z21)
  (fun z22=>qbb (qbd (.len .slice (.c z22))) (fun z23=>qbb (qbd (.bin .sub .num true (.c z23) (.c (.int .i64 1)))) (fun z24=>qbb (qbd (.slice 1 (.c z22) none (some
  (.c z24)) none)) (fun z25=>qbb (insO .str (qc6 (nth z18.1 8)) z21 z25) (fun z26=>qbb (qbd (.bin .add .num true (.c (nth z18.1 3)) (.c (.int .i64 1)))) (fun z27=>qbw
  (eqOff (qcq 0 z3) (qcq 0 z3)) (some (.inl ([nth z18.1 0,nI (qbi (nth z18.1 1)),nth z18.1 2,z27,nI (qbi (nth z18.1 4)),nI (qbi (nth z18.1 5)),nI (qbi (nth z18.1 6)),.sl
  1 (qbc (nth z18.1 7)) false,.imap z26,.sl 1 (qbc (nth z18.1 9)) false,.sl 1 (qbc (nth z18.1 10)) false],z18.2))))))))))))) (qbb (qbb (qlh none (qbi (nth z18.1
  6)) (qbi (nth z18.1 6))) (fun z28=>qbb (qlh (some (nth z18.1 0)) (qbi (nth z18.1 6)) z28) (fun z29=>some [nI (qbi (nth z18.1 4)),nI (qbi (nth z18.1 5)),nI z29,.sl 1
  (qbc (nth z18.1 7)) false,.imap (qc6 (nth z18.1 8)),.sl 1 (qbc (nth z18.1 9)) false,.sl 1 (qbc (nth z18.1 10)) false]))) (fun z30=>some (.inr z30))))) ([x0,nI
  (subN z2 z3),nI (subN z2 z3),.int .i64 0,nI (qbi x1),nI (qbi x2),nI (qbi x3),.sl 1 (qbc x4) false,.imap (qc6 x5),.sl 1 (qbc x6) false,.sl 1 (qbc x7) false],
  ())))))):=by kernel_rfl
noncomputable def lp3_0 (B:KB) {E:Type}:List PV×E→Option (Sum (List PV×E) (PV×E)):=(fun y0=>qbb (qbd (.bin .lss .num false (.c (nth y0.1 3)) (.c (nI (qbi (nth y0.1 2)))))) (fun y1=>qdu y1 (qbb (qr6 (nth y0.1 3)) (fun y2=>qbw (ltN y2 (qbi (nth y0.1 2))) (qbb (qkz (qbc (nth y0.1 4)) (qcq 0 y2) 2 1 false) (fun y3=>qbb (qb6 B .cl (.fn 10 []) [y3]) (fun y4=>qbb (qbd (.un .not (.c y4))) (fun y5=>qdu y5 (qbb (qbd (.bin .add .num true (.c (nth y0.1 3)) (.c (.int .i64 1)))) (fun y6=>some (.inl ([nth y0.1 0,nth y0.1 1,nI (qbi (nth y0.1 2)),y6,.sl 4 (qbc (nth y0.1 4)) false],y0.2)))) (qbb (qr6 (nth y0.1 3)) (fun y7=>qbw (ltN y7 (qbi (nth y0.1 2))) (qbb (qkz (qbc (nth y0.1 4)) (qcq 0 y7) 2 1 false) (fun y8=>qbb (qb6 B .cl (.fn 11 []) [y8]) (fun y9=>qdu y9 (qbb (some (nth y0.1 1,y0.2)) (fun y10=>some (.inr y10))) (qbb (qr6 (nth y0.1 3)) (fun y11=>qbw (ltN y11 (qbi (nth y0.1 2))) (qbb (qkz (qbc (nth y0.1 4)) (qcq 0 y11) 2 1 false) (fun y12=>qbb (qr6 (nth y0.1 3)) (fun y13=>qbw (ltN y13 (qbi (nth y0.1 2))) (qbb (qkz (qbc (nth y0.1 4)) (qcq 0 y13) 2 1 false) (fun y14=>qbb (qbd (.len .slice (.c y14))) (fun y15=>qbb (qbd (.bin .sub .num true (.c y15) (.c (.int .i64 1)))) (fun y16=>qbb (qb6 B .cl (.fn 12 []) [y12,y16]) (fun y17=>qbb (qr6 (nth y0.1 3)) (fun y18=>qbw (ltN y18 (qbi (nth y0.1 2))) (qbb (setO 4 (qbc (nth y0.1 4)) (qcq 0 y18) 2 1 y17) (fun y19=>qbb (qbd (.bin .add .num true (.c (nth y0.1 3)) (.c (.int .i64 1)))) (fun y20=>some (.inl ([nth y0.1 0,nth y0.1 1,nI (qbi (nth y0.1 2)),y20,.sl 4 y19 false],y0.2))))))))))))))))))))))))))) (qbb (qdu (nth y0.1 1) (qbb (qb6 B .cl (.fn 13 []) [nth y0.1 0]) (fun y21=>qbb (qh2 B .cl true 13 [slO 4 4 (qbc (nth y0.1 4)) 0 (qbi (nth y0.1 2))]) (fun y22=>qbb (qbd (.bin .eql .str false (.c y21) (.c y22))) (fun y23=>some (y23,y0.2))))) (some (.bool false,y0.2))) (fun y24=>some (.inr y24)))))
noncomputable def lp3_1 (B:KB) {E:Type}:List PV×E→Option (Sum (List PV×E) (PV×E)):=(fun y0=>qbb (qbd (.len .slice (.c (nth y0.1 2)))) (fun y1=>qbb (qbd (.bin .lss .num false (.c (nth y0.1 3)) (.c y1))) (fun y2=>qdu y2 (qbb (qbd (.idxAddr 4 (.c (nth y0.1 2)) (.c (nth y0.1 3)))) (fun y3=>qbb (qbd (.fieldAddr 2 (.c y3))) (fun y4=>qbb (qbd (.load 1 false (.c y4))) (fun y5=>qbb (qb6 B .cl (.fn 10 []) [y5]) (fun y6=>qbb (qbd (.un .not (.c y6))) (fun y7=>qdu y7 (qbb (qbd (.bin .add .num true (.c (nth y0.1 3)) (.c (.int .i64 1)))) (fun y8=>some (.inl ([nth y0.1 0,nth y0.1 1,nth y0.1 2,y8],y0.2)))) (qbb (qbd (.idxAddr 4 (.c (nth y0.1 2)) (.c (nth y0.1 3)))) (fun y9=>qbb (qbd (.fieldAddr 2 (.c y9))) (fun y10=>qbb (qbd (.load 1 false (.c y10))) (fun y11=>qbb (qb6 B .cl (.fn 11 []) [y11]) (fun y12=>qdu y12 (qbb (some (nth y0.1 1,y0.2)) (fun y13=>some (.inr y13))) (qbb (qbd (.idxAddr 4 (.c (nth y0.1 2)) (.c (nth y0.1 3)))) (fun y14=>qbb (qbd (.fieldAddr 2 (.c y14))) (fun y15=>qbb (qbd (.load 1 false (.c y15))) (fun y16=>qbb (qbd (.idxAddr 4 (.c (nth y0.1 2)) (.c (nth y0.1 3)))) (fun y17=>qbb (qbd (.fieldAddr 2 (.c y17))) (fun y18=>qbb (qbd (.load 1 false (.c y18))) (fun y19=>qbb (qbd (.len .slice (.c y19))) (fun y20=>qbb (qbd (.bin .sub .num true (.c y20) (.c (.int .i64 1)))) (fun y21=>qbb (qb6 B .cl (.fn 12 []) [y16,y21]) (fun y22=>qbb (qbd (.idxAddr 4 (.c (nth y0.1 2)) (.c (nth y0.1 3)))) (fun y23=>qbb (qbd (.fieldAddr 2 (.c y23))) (fun y24=>none))))))))))))))))))))))) (qbb (qdu (nth y0.1 1) (qbb (qb6 B .cl (.fn 13 []) [nth y0.1 0]) (fun y25=>qbb (qb6 B .cl (.fn 13 []) [nth y0.1 2]) (fun y26=>qbb (qbd (.bin .eql .str false (.c y25) (.c y26))) (fun y27=>some (y27,y0.2))))) (some (.bool false,y0.2))) (fun y28=>some (.inr y28))))))
theorem run3 (B:KB) {E:Type} (h:qbk E) (dep:Nat) (e:E) (x0:PV):qmk (qjh B (fun _=>.cl)) fn3 (.cl) h dep [.cv x0] e=qbb (qb6 B .cl (.fn 8 []) []) (fun z1=>qbb (qb6 B (.opt 4) (.fn 9 []) [x0]) (fun z2=>nilB z2 (qbb (qb6 B (.opt 4) (.fn 9 []) [z2]) (fun z3=>nilB z3 (qbw (qbo [z2,z1,z3,.int .i64 0]) (qcf (lp3_1 B) ([z2,z1,z3,.int .i64 0],e))) (qbw (qbo [z2,z1,nI (qbs (qbc z3)),.int .i64 0]) (qcf (lp3_0 B) ([z2,z1,nI (qbs (qbc z3)),.int .i64 0,.sl 4 (qbc z3) false],e))))) (qbb (qh2 B (.opt 4) false 9 [slO 4 4 (qbc z2) 0 (qbs (qbc z2))]) (fun z58=>nilB z58 (qbw (qbo [slO 4 4 (qbc z2) 0 (qbs (qbc z2)),z1,z58,.int .i64 0]) (qcf (lp3_1 B) ([slO 4 4 (qbc z2) 0 (qbs (qbc z2)),z1,z58,.int .i64 0],e))) (qbw (qbo [slO 4 4 (qbc z2) 0 (qbs (qbc z2)),z1,nI (qbs (qbc z58)),.int .i64 0]) (qcf (lp3_0 B) ([slO 4 4 (qbc z2) 0 (qbs (qbc z2)),z1,nI (qbs (qbc z58)),.int .i64 0,.sl 4 (qbc z58) false],e))))))):=by kernel_rfl
end Go.Ab


namespace Go.Ab.Core
open Go Go.Ab
def sp0 (g:FuncId) (σ:Nm→Option Ob) (vs:List PV):Option Out :=
 if g=89 then spIsG [1] 407 [] vs
 else if g=151 then spIdx vs
 else if g=79 then Qjm vs
 else if g=53 then qp9 64 σ vs
 else if g=31 then Qf9 64 5 σ vs
 else none
noncomputable def B0:KB:={sp:=sp0,L:=limCall sp0 qc7,I:=limIo sp0 qc7,isIo:=qlf qc7,leans:=qpr qc7}
end Go.Ab.Core


namespace Go.Ab.Core
open Go Go.Ab
def NotSp (g:FuncId):Prop:=g≠89∧g≠151∧g≠79∧g≠53∧g≠31
instance (g:FuncId):Decidable (NotSp g):=by unfold NotSp;infer_instance
theorem Qm5 {g:FuncId} (h:NotSp g) (σ:Nm→Option Ob) (vs:List PV):sp0 g σ vs=none:=by
 unfold sp0
 rw[if_neg h.1,if_neg h.2.1,if_neg h.2.2.1,if_neg h.2.2.2.1,if_neg h.2.2.2.2]
theorem sp_here (g:FuncId):Qvd (sp0 g):=by
 intro σ σ' vs h
 unfold sp0
 split
 ·rfl
 split
 ·rfl
 split
 ·rfl
 split
 ·exact check_here 64 σ σ' vs h
 split
 ·exact str_here 64 5 σ σ' vs h
 rfl
theorem Qn9:∀ g,(iof0 g).isSome=qlf qc7 g:=by
 intro g
 unfold iof0 qlf
 split
 ·rfl
 ·rfl
 ·rfl
 ·rfl
 ·rfl
 ·rfl
 ·rfl
 ·rfl
 ·rfl
 ·rfl
 ·rfl
 ·rfl
 ·rfl
 ·rfl
 ·rfl
 ·rfl
 ·rfl
 ·rename_i h0 h1 h2 h3 h4 h5 h6 h7 h8 h9 h10 h11 h12 h13 h14 h15 h16
  split
  ·rename_i fn ht
   unfold qc7 at ht
   split at ht
   all_goals first | (exact (h0 rfl).elim) | (exact (h1 rfl).elim) | (exact (h2 rfl).elim) | (exact (h3 rfl).elim) | (exact (h4 rfl).elim) | (exact (h5 rfl).elim) | (exact (h6 rfl).elim) | (exact (h7 rfl).elim) | (exact (h8 rfl).elim) | (exact (h9 rfl).elim) | (exact (h10 rfl).elim) | (exact (h11 rfl).elim) | (exact (h12 rfl).elim) | (exact (h13 rfl).elim) | (exact (h14 rfl).elim) | (exact (h15 rfl).elim) | (exact (h16 rfl).elim) | (cases ht;done) | (cases ht;rfl)
  ·rfl
theorem qf1 (d:Nat→RSh):qpe (qjh B0 d) qc7 where
 L:=rfl
 I:=rfl
 isIo:=rfl
 leans:=rfl
 flat g h:=by simp only[qjh,Bool.or_eq_true,beq_iff_eq] at h;rcases h with rfl<;>kernel_rfl
 ioF g:=Qn9 g
 ioP g P h:=by
  simp only[qjh,iof0] at h
  split at h
  ·cases h;exact⟨fn30,rfl,by decide,fun xs os=>by show (Qjq xs os).args.length≤_∧(Qjq xs os).ins.length≤_;unfold Qjq;split<;>exact⟨Nat.le_of_ble_eq_true rfl,Nat.le_of_ble_eq_true rfl⟩⟩
  ·cases h;exact⟨fn34,rfl,by decide,fun xs os=>⟨Nat.le_of_ble_eq_true rfl,Nat.le_of_ble_eq_true rfl⟩⟩
  ·cases h;exact⟨fn54,rfl,by decide,fun xs os=>⟨Nat.le_of_ble_eq_true rfl,Nat.le_of_ble_eq_true rfl⟩⟩
  ·cases h;exact⟨fn58,rfl,by decide,fun xs os=>⟨Nat.le_of_ble_eq_true rfl,Nat.le_of_ble_eq_true rfl⟩⟩
  ·cases h;exact⟨fn82,rfl,by decide,fun xs os=>⟨Nat.le_of_ble_eq_true rfl,Nat.le_of_ble_eq_true rfl⟩⟩
  ·cases h;exact⟨fn83,rfl,by decide,fun xs os=>⟨Nat.le_of_ble_eq_true rfl,Nat.le_of_ble_eq_true rfl⟩⟩
  ·cases h;exact⟨fn86,rfl,by decide,fun xs os=>⟨Nat.le_of_ble_eq_true rfl,Nat.le_of_ble_eq_true rfl⟩⟩
  ·cases h;exact⟨fn108,rfl,by decide,fun xs os=>⟨Nat.le_of_ble_eq_true rfl,Nat.le_of_ble_eq_true rfl⟩⟩
  ·cases h;exact⟨fn116,rfl,by decide,fun xs os=>by show (qw8 xs os).args.length≤_∧(qw8 xs os).ins.length≤_;unfold qw8;split<;>exact⟨Nat.le_of_ble_eq_true rfl,Nat.le_of_ble_eq_true rfl⟩⟩
  ·cases h;exact⟨fn117,rfl,by decide,fun xs os=>⟨Nat.le_of_ble_eq_true rfl,Nat.le_of_ble_eq_true rfl⟩⟩
  ·cases h;exact⟨fn119,rfl,by decide,fun xs os=>⟨Nat.le_of_ble_eq_true rfl,Nat.le_of_ble_eq_true rfl⟩⟩
  ·cases h;exact⟨fn146,rfl,by decide,fun xs os=>⟨Nat.le_of_ble_eq_true rfl,Nat.le_of_ble_eq_true rfl⟩⟩
  ·cases h;exact⟨fn148,rfl,by decide,fun xs os=>⟨Nat.le_of_ble_eq_true rfl,Nat.le_of_ble_eq_true rfl⟩⟩
  ·cases h;exact⟨fn152,rfl,by decide,fun xs os=>⟨Nat.le_of_ble_eq_true rfl,Nat.le_of_ble_eq_true rfl⟩⟩
  ·cases h;exact⟨fn176,rfl,by decide,fun xs os=>⟨Nat.le_of_ble_eq_true rfl,Nat.le_of_ble_eq_true rfl⟩⟩
  ·cases h;exact⟨fn178,rfl,by decide,fun xs os=>⟨Nat.le_of_ble_eq_true rfl,Nat.le_of_ble_eq_true rfl⟩⟩
  ·cases h;exact⟨fn212,rfl,by decide,fun xs os=>⟨Nat.le_of_ble_eq_true rfl,Nat.le_of_ble_eq_true rfl⟩⟩
  ·cases h
 spF g h σ vs:=by
  simp only[qjh,Bool.or_eq_false_iff,beq_eq_false_iff_ne] at h
  obtain⟨⟨⟨⟨h0,h1⟩,h2⟩,h3⟩,h4⟩:=h
  exact Qm5 ⟨h0,h4,h1,h2,h3⟩ σ vs
 loc g σ vs hv:=cfg_loc sp_here g σ vs hv
 spK g s h σ xs out hx hσ hs:=by
  simp only[qjh] at h
  split at h
  ·rename_i hg;subst hg;cases h;exact kCheck_ok hσ hs
  split at h
  ·rename_i hg;subst hg;cases h;exact kStr_ok hs
  cases h
 asOk:=nofun
theorem call {d:Nat→RSh} {g:FuncId} {fn:RFn} {sh:RSh} {args:List PV} {u:PV} (ht:qc7 g=some fn) (hg:NotSp g) (ha:qb8 args=true) (hl:Nat.ble args.length fn.nt=true)
  (hr:qmk (qjh B0 d) fn sh qbe 0 (args.map KV.cv) ()=some (u,())) (hio:fn.io=false:=by rfl) (hb:Nat.blt g qho=true:=by rfl):qb6 B0 sh (.fn g []) args=some u:=by
 refine Qpw (qf1 d) ht (cap:=[]) (by simpa using ha) (by simpa using Nat.le_of_ble_eq_true hl) (Qm5 hg (fun _=>none) _) ?_ hio hb
 simpa using hr
theorem Qmk {g:FuncId} {n:Nat} {args:List PV} {u:PV} (hg:NotSp g) (h:qbm sp0 qc7 n Unit qbe 0 g args ()=some (u,[],())) (hu:okV u=true) (hio:qlf qc7 g=false) (hb:Nat.blt g qho=true:=by rfl):qb6 B0 .cl (.fn g []) args=some u:=by
 have hid:qge g=g:=by simp[qge,hb]
 have hfa:qco g args []=args:=by simp[qco,hb]
 obtain⟨e2,_,h2⟩:=qww n Unit Unit (fun _ _=>True) qbe (fun _=>qbe) (fun _ _ _ _ _ _ _ h=>by cases h) 0 g args () () trivial _ _ _ h
 have hL:B0.L Unit qbe 0 g args ()=some (u,[],()):=Qdz h2
 have hI:B0.isIo g=false:=hio
 have hs:B0.sp g (fun _=>none) args=none:=Qm5 hg _ _
 unfold qb6
 simp[hid,hfa,spO,hs,hI,hL,qpa,qjw,hu,qbw]
end Go.Ab.Core


namespace Go.Ab.Core
open Go Go.Ab
theorem w64 {n:Int} (h1 : -9223372036854775808≤n) (h2:n≤9223372036854775807):IntKind.i64.wrap n=n:=IntWalk.i64_in _ ⟨h1,h2⟩
def I (n:Int):PV:=.int .i64 n
def qgk (l:List Int):List PV:=l.map I
def il (l:List Int):PV:=.sl 1 (qgk l) false
structure Nd where
 kind:Int
 text:List UInt8
 kids:List Int
 deriving DecidableEq
def nd (n:Nd):PV:=.agg [I n.kind,.str n.text,il n.kids]
def nds (t:List Nd):List PV:=t.map nd
def tl (t:List Nd):PV:=.sl 3 (nds t) false
def big:Nat:=1000000
structure Nd.Fine (n:Nd):Prop where
 kids:n.kids.length≤big
structure Fine (t:List Nd):Prop where
 len:t.length≤big
 nd:∀ n∈t,n.Fine
theorem qts (l:List Int):qb8 (qgk l)=true:=by
 induction l with
 | nil=>rfl
 | cons a l ih=>simpa[qgk,qb8,okV,I] using ih
theorem Qqx (n:Nd):okV (nd n)=true:=by simp[nd,okV,qb8,I,il,qts]
theorem Qgm (t:List Nd):qb8 (nds t)=true:=by
 induction t with
 | nil=>rfl
 | cons a l ih=>simp only[nds,List.map_cons,qb8,Qqx,Bool.true_and];exact ih
@[simp] theorem Qj9 (t:List Nd):okV (tl t)=true:=by simp[tl,okV,Qgm]
@[simp] theorem okV_il (l:List Int):okV (il l)=true:=by simp[il,okV,qts]
@[simp] theorem okV_I (n:Int):okV (I n)=true:=rfl
theorem qdi (n:Int):PV.int .i64 n=I n:=rfl
@[simp] theorem qgd (n:Nat):nI n=I n:=rfl
@[simp] theorem qb2 (n:Nat):qbi (I (n:Int))=n:=by simp[qbi,I]
@[simp] theorem isUndef_I (n:Int):qhl (I n)=false:=rfl
@[simp] theorem isUndef_tl (t:List Nd):qhl (tl t)=false:=rfl
@[simp] theorem isUndef_il (t:List Int):qhl (il t)=false:=rfl
@[simp] theorem isUndef_str (s:List UInt8):qhl (.str s)=false:=rfl
@[simp] theorem isUndef_bool (s:Bool):qhl (.bool s)=false:=rfl
@[simp] theorem cells_I (n:Int):(I n).cells=[I n]:=rfl
@[simp] theorem cells_il (n:List Int):(il n).cells=[il n]:=rfl
@[simp] theorem cells_tl (n:List Nd):(tl n).cells=[tl n]:=rfl
@[simp] theorem isVal_I (n:Int):(I n).isVal=true:=rfl
@[simp] theorem isCell_I (n:Int):(I n).isCell=true:=rfl
@[simp] theorem isVal_il (n:List Int):(il n).isVal=true:=rfl
@[simp] theorem qcg (l:List Int):qbc (il l)=qgk l:=rfl
@[simp] theorem itemsP_tl (l:List Nd):qbc (tl l)=nds l:=rfl
@[simp] theorem qcr (l:List Int):(qgk l).length=l.length:=by simp[qgk]
@[simp] theorem qrk (l:List Nd):(nds l).length=l.length:=by simp[nds]
@[simp] theorem qmx (n:Int):qbd (.load 1 false (.c (.ptr [I n] 0)))=some (I n):=rfl
@[simp] theorem qdk {c:TC} {b:Bool} (a n:Int):qbd (.bin .lss c b (.c (I a)) (.c (I n)))=some (.bool (decide (a < n))):=Qqr a n
@[simp] theorem Qmw {c:TC} {b:Bool} (a n:Int):qbd (.bin .eql c b (.c (I a)) (.c (I n)))=some (.bool (a==n)):=pure_eql a n
@[simp] theorem I_neq {c:TC} {b:Bool} (a n:Int):qbd (.bin .neq c b (.c (I a)) (.c (I n)))=some (.bool (a != n)):=pure_neq a n
@[simp] theorem qf3 {c:TC} {b:Bool} (a n:Int):qbd (.bin .add c b (.c (I a)) (.c (I n)))=some (I (IntKind.i64.wrap (a+n))):=pure_add a n
@[simp] theorem Qjb {c:TC} {b:Bool} (a n:Int):qbd (.bin .sub c b (.c (I a)) (.c (I n)))=some (I (IntKind.i64.wrap (a - n))):=pure_sub a n
@[simp] theorem Qp6 {c:TC} {b:Bool} (a n:Int):qbd (.bin .geq c b (.c (I a)) (.c (I n)))=some (.bool (decide (n≤a))):=pure_geq a n
@[simp] theorem I_leq {c:TC} {b:Bool} (a n:Int):qbd (.bin .leq c b (.c (I a)) (.c (I n)))=some (.bool (decide (a≤n))):=pure_leq a n
@[simp] theorem I_gtr {c:TC} {b:Bool} (a n:Int):qbd (.bin .gtr c b (.c (I a)) (.c (I n)))=some (.bool (decide (n < a))):=Qqs a n
theorem qg1 {i:Nat} (h:i < 9223372036854775807):IntKind.i64.wrap ((i:Int)+1)=((i+1:Nat):Int):=by rw[w64 (by omega) (by omega)];omega
theorem Qf2 {i:Nat} (h:0 < i) (h2:i < 9223372036854775807):IntKind.i64.wrap ((i:Int) - 1)=((i - 1:Nat):Int):=by rw[w64 (by omega) (by omega)];omega
@[simp] theorem qld (t:List Nd):qbd (.len .slice (.c (tl t)))=some (I (t.length:Nat)):=by unfold tl;rw[qg6,qrk];rfl
@[simp] theorem qhi (t:List Int):qbd (.len .slice (.c (il t)))=some (I (t.length:Nat)):=by unfold il;rw[qg6,qcr];rfl
theorem qks {t:List Nd} {i:Nat} (h:i < t.length):qbd (.idxAddr 3 (.c (tl t)) (.c (I (i:Int))))=some (.ptr [I t[i].kind,.str t[i].text,il t[i].kids] 0) :=
 qhm (by omega) (show (nds t)[i]?=some (nd t[i]) by simp[nds,h])
theorem qr8 {t:List Int} {i:Nat} (h:i < t.length):qbd (.idxAddr 1 (.c (il t)) (.c (I (i:Int))))=some (.ptr [I t[i]] 0) :=
 qhm (by omega) (show (qgk t)[i]?=some (I t[i]) by simp[qgk,h])
@[simp] theorem Qkn (a b c:PV):qbd (.load 3 true (.c (.ptr [a,b,c] 0)))=some (.agg [a,b,c]):=rfl
@[simp] theorem qzz (a b c:PV):qbd (.load 1 false (.c (.ptr [a,b,c] 0)))=some a:=rfl
@[simp] theorem Qn0 (a b c:PV):qbd (.load 1 false (.c (.ptr [a,b,c] 1)))=some b:=rfl
@[simp] theorem qss (a b c:PV):qbd (.load 1 false (.c (.ptr [a,b,c] 2)))=some c:=rfl
@[simp] theorem fa3_0 (a b c:PV):qbd (.fieldAddr 0 (.c (.ptr [a,b,c] 0)))=some (.ptr [a,b,c] 0):=rfl
@[simp] theorem fa3_1 (a b c:PV):qbd (.fieldAddr 1 (.c (.ptr [a,b,c] 0)))=some (.ptr [a,b,c] 1):=rfl
@[simp] theorem Qpj (a b c:PV):qbd (.fieldAddr 2 (.c (.ptr [a,b,c] 0)))=some (.ptr [a,b,c] 2):=rfl
@[simp] theorem qj1 (k:Int) (s:List UInt8) (l:List Int):qcu (.agg [I k,.str s,il l]) 3=true:=rfl
@[simp] theorem qhx (a b c:PV):qbl (.agg [a,b,c]) 0=a:=rfl
@[simp] theorem qhw (a b c:PV):qbl (.agg [a,b,c]) 1=b:=rfl
@[simp] theorem qhv (a b c:PV):qbl (.agg [a,b,c]) 2=c:=rfl
@[simp] theorem sel3_0 (a b c:PV):sel [a,b,c] 0 1 false=some a:=rfl
@[simp] theorem sel3_1 (a b c:PV):sel [a,b,c] 1 1 false=some b:=rfl
@[simp] theorem sel3_2 (a b c:PV):sel [a,b,c] 2 1 false=some c:=rfl
@[simp] theorem qmo (a b c d e f g h i x:PV) (l:List PV):nth (a :: b :: c :: d :: e :: f :: g :: h :: i :: x :: l) 9=x:=rfl
@[simp] theorem qlc (a b c d e f g h i j x:PV) (l:List PV):nth (a :: b :: c :: d :: e :: f :: g :: h :: i :: j :: x :: l) 10=x:=rfl
@[simp] theorem qtt (a b c d e f g h i j k x:PV) (l:List PV):nth (a :: b :: c :: d :: e :: f :: g :: h :: i :: j :: k :: x :: l) 11=x:=rfl
@[simp] theorem Qkd (a b c d e f g h i j k m x:PV) (l:List PV):nth (a :: b :: c :: d :: e :: f :: g :: h :: i :: j :: k :: m :: x :: l) 12=x:=rfl
@[simp] theorem Qkc (a b c d e f g h i j k m n x:PV) (l:List PV):nth (a :: b :: c :: d :: e :: f :: g :: h :: i :: j :: k :: m :: n :: x :: l) 13=x:=rfl
theorem min_run {n:Nat} (k:Nat) (c:Int) (hc:c=k):qbd (.minmax false [.c (I n),.c (.int .i64 c)])=some (I (min n k:Nat)):=by
 subst hc
 simp only[qbd,exec,List.map_cons,List.map_nil,RX.ev,Qfh,I]
 by_cases h:n≤k
 ·have:¬ (k:Int) < (n:Int):=by omega
  simp[this,Nat.min_eq_left h,chk]
 ·have:(k:Int) < (n:Int):=by omega
  simp[this,Nat.min_eq_right (by omega:k≤n),chk]
theorem qn7 {l:List Int} {i:Nat} (h:i < l.length):qkz (qgk l) i 0 1 false=some (I l[i]):=by
 simp[qkz,qgk,h]
theorem qx7 {l:List Int} {i:Nat} (h:i < l.length) (n:Int):setO 1 (qgk l) i 0 1 (I n)=some (qgk (l.set i n)):=by
 simp only[setO,qgk,List.getElem?_map,List.getElem?_eq_getElem h,Option.map_some,I]
 simp[qbw,PV.isCell,List.map_set,I]
end Go.Ab.Core


namespace Go.Ab
theorem loop_inv {σ ρ α:Type} {step:σ→Option (Sum σ ρ)} (st:Nat→α→σ) (n:Nat) (P:Nat→α→Prop) (Q:ρ→Prop)
  (hs:∀ i a,i < n→P i a→(∃ a',step (st i a)=some (.inl (st (i+1) a'))∧P (i+1) a')∨∃ r,step (st i a)=some (.inr r)∧Q r)
  (he:∀ a,P n a→∃ r,step (st n a)=some (.inr r)∧Q r) {a0:α} (h0:P 0 a0):∃ r,qcf step (st 0 a0)=some r∧Q r:=by
 have key:∀ m i a,i+m=n→P i a→∃ r,qcf step (st i a)=some r∧Q r:=by
  intro m
  induction m with
  | zero =>
   intro i a hi hp
   obtain rfl:i=n:=by omega
   obtain⟨r,h1,h2⟩:=he a hp
   exact⟨r,qc3 h1,h2⟩
  | succ m ih =>
   intro i a hi hp
   rcases hs i a (by omega) hp with ⟨a',h1,h2⟩ | ⟨r,h1,h2⟩
   ·rw[qc9 h1];exact ih _ _ (by omega) h2
   ·exact⟨r,qc3 h1,h2⟩
 exact key n 0 a0 (by omega) h0
@[simp] theorem qmo (a0 a1 a2 a3 a4 a5 a6 a7 a8 x:PV) (l:List PV):nth (a0 :: a1 :: a2 :: a3 :: a4 :: a5 :: a6 :: a7 :: a8 :: x :: l) 9=x:=rfl
@[simp] theorem qlc (a0 a1 a2 a3 a4 a5 a6 a7 a8 a9 x:PV) (l:List PV):nth (a0 :: a1 :: a2 :: a3 :: a4 :: a5 :: a6 :: a7 :: a8 :: a9 :: x :: l) 10=x:=rfl
@[simp] theorem qtt (a0 a1 a2 a3 a4 a5 a6 a7 a8 a9 a10 x:PV) (l:List PV):nth (a0 :: a1 :: a2 :: a3 :: a4 :: a5 :: a6 :: a7 :: a8 :: a9 :: a10 :: x :: l) 11=x:=rfl
@[simp] theorem Qkd (a0 a1 a2 a3 a4 a5 a6 a7 a8 a9 a10 a11 x:PV) (l:List PV):nth (a0 :: a1 :: a2 :: a3 :: a4 :: a5 :: a6 :: a7 :: a8 :: a9 :: a10 :: a11 :: x :: l) 12=x:=rfl
@[simp] theorem Qkc (a0 a1 a2 a3 a4 a5 a6 a7 a8 a9 a10 a11 a12 x:PV) (l:List PV):nth (a0 :: a1 :: a2 :: a3 :: a4 :: a5 :: a6 :: a7 :: a8 :: a9 :: a10 :: a11 :: a12 :: x :: l) 13=x:=rfl
end Go.Ab


namespace Go.Ab.Core
open Go Go.Ab
theorem qri {σ ρ α:Type} {step:σ→Option (Sum σ ρ)} (st:Nat→α→σ) (n:Nat) (P:Nat→α→Prop) (res:Nat→α→ρ)
  (hs:∀ i a,i < n→P i a→(∃ a',step (st i a)=some (.inl (st (i+1) a'))∧P (i+1) a'∧res (i+1) a'=res i a)∨step (st i a)=some (.inr (res i a)))
  (he:∀ a,P n a→step (st n a)=some (.inr (res n a))) {a0:α} (h0:P 0 a0):qcf step (st 0 a0)=some (res 0 a0):=by
 obtain⟨r,h1,h2⟩:=loop_inv (step:=step) st n (fun i a=>P i a∧res i a=res 0 a0) (fun r=>r=res 0 a0) (fun i a hi hp=>by
  rcases hs i a hi hp.1 with ⟨a',q1,q2,q3⟩ | q
  ·exact .inl ⟨a',q1,q2,q3.trans hp.2⟩
  ·exact .inr ⟨_,q,hp.2⟩) (fun a hp=>⟨_,he a hp.1,hp.2⟩) ⟨h0,rfl⟩
 rw[h1,h2]
theorem qhq:big < 4000000:=by decide
theorem Qnt {σ ρ α:Type} {step:σ→Option (Sum σ ρ)} (st:Nat→α→σ) (n:Nat) (P:Nat→α→Prop) (res:Nat→α→ρ)
  (hs:∀ i a,i < n→P i a→∃ q,step (st i a)=some q∧((∃ a',q=.inl (st (i+1) a')∧P (i+1) a'∧res (i+1) a'=res i a)∨q=.inr (res i a)))
  (he:∀ a,P n a→step (st n a)=some (.inr (res n a))) {a0:α} (h0:P 0 a0):qcf step (st 0 a0)=some (res 0 a0) :=
 qri st n P res (fun i a hi hp=>by
  obtain⟨q,h1,h2⟩:=hs i a hi hp
  rcases h2 with ⟨a',rfl,h3,h4⟩ | rfl
  ·exact .inl ⟨a',h1,h3,h4⟩
  ·exact .inr h1) he h0
abbrev Fm:=Int×Int×Int×Bool
def Qbj:List Fm:=[(1,0,0,true),(2,0,0,true),(3,0,0,true),(4,0,0,true),(9,0,0,true),(14,0,0,true),(13,0,0,true),(5,1,1,false),(8,1,1,true),(10,1,1,true),(6,2,2,false),(12,2,2,false),(7,3,3,false),(11,1,1048576,false)]
def fmV (p:Fm):PV:=.agg [I p.2.1,I p.2.2.1,.bool p.2.2.2]
def fms:List Fm→List PV
 | []=>[]
 | p :: l=>I p.1 :: fmV p :: fms l
theorem ev_forms:qbm sp0 qc7 60 Unit qbe 0 84 [] ()=some (.imap (fms Qbj),[],()):=by kernel_rfl
theorem Qq0:∀ l,qb8 (fms l)=true
 | []=>rfl
 | p :: l=>by simp[fms,qb8,fmV,okV,Qq0 l]
theorem forms_run:qb6 B0 .cl (.fn 84 []) []=some (.imap (fms Qbj)):=Qmk (by decide) ev_forms (by simp[okV,Qq0]) rfl
theorem Qr8 (k:Int):∀ l,qr0 (I k) (fms l)=some ((l.find? fun p=>p.1==k).map fmV)
 | []=>rfl
 | p :: l=>by
  simp only[fms,qr0,I,Qhb,chk,beq_self_eq_true,if_true]
  rw[show PV.int .i64 k=I k from rfl,Qr8 k l]
  by_cases h:k=p.1
  ·subst h;simp[List.find?]
  ·have h1:(k==p.1)=false:=by simpa using h
   have h2:(p.1==k)=false:=by simpa using fun e:p.1=k=>h e.symm
   simp[List.find?,h1,h2]
theorem look_fms (k:Int):qbd (.lookup .num (.agg [.int .i64 0,.int .i64 0,.bool false]) false (.c (.imap (fms Qbj))) (.c (I k)))=some (((Qbj.find? fun p=>p.1==k).map fmV).getD (.agg [I 0,I 0,.bool false])):=by
 simp only[qbd,exec,RX.ev,Qr8]
 simp[qsx,I,chk]
def qfm (n:Nd):Bool :=
 match Qbj.find? fun p=>p.1==n.kind with
 | some p=>decide (p.2.1≤(n.kids.length:Int))&&decide ((n.kids.length:Int)≤p.2.2.1)&&((n.text != [])==p.2.2.2)
 | none=>false
theorem eq_fm (a b:Int) (c:Bool):qbd (.bin .eql (.plain [0,0,2]) false (.c (.agg [I a,I b,.bool c])) (.c (.agg [.int .i64 0,.int .i64 0,.bool false])))=some (.bool (a==0&&b==0&&c==false)):=by
 simp only[qbd,exec,RX.ev,qnf,Qhq,I,qnd,chk,beq_self_eq_true,if_true]
 cases h1:(a==0)<;>simp
 cases h2:(b==0)<;>simp
 cases c<;>rfl
theorem forms_not:∀ p∈Qbj,(p.2.1==0&&p.2.2.1==0&&p.2.2.2==false)=false:=by decide
theorem form_run (n:Nd):qb6 B0 .cl (.fn 55 []) [nd n]=some (.bool (qfm n)):=by
 refine call (d:=fun _=>.cl) rfl (by decide) (by simp[qb8,Qqx]) rfl ?_
 rw[List.map_cons,List.map_nil,run55,show valO (nd n)=true from rfl,qbg,forms_run,qba]
 simp only[nd,selO_eq,qpd,sel3_0,sel3_1,sel3_2,qba,look_fms]
 unfold qfm
 cases hf:Qbj.find? fun p=>p.1==n.kind with
 | none =>
  simp only[Option.map_none,Option.getD_none,qhx,qhw,qhv,eq_fm,qba]
  rfl
 | some p =>
  simp only[Option.map_some,Option.getD_some,fmV,qhx,qhw,qhv,eq_fm,qba,forms_not p (List.mem_of_find?_eq_some hf)]
  rw[show qcu (.agg [I p.2.1,I p.2.2.1,.bool p.2.2.2]) 3=true from rfl,qbg,qbv]
  simp only[qhi,qba,Qp6,I_leq,qb1,pure_nes,pure_eqb]
  cases h1:decide (p.2.1≤(n.kids.length:Int))<;>cases h2:decide ((n.kids.length:Int)≤p.2.2.1)<;>simp
  cases n.text<;>rfl
def qt1 (i:Int):Int→List Int→Bool
 | _,[]=>true
 | last,k :: ks=>decide (last < k)&&decide (k < i)&&qt1 i k ks
def bump (ups:List Int) (ks:List Int):List Int:=ks.foldl (fun u k=>u.set k.toNat (u.getD k.toNat 0+1)) ups
def qdv (i:Nat) (ups:List Int):List Nd→Option (List Int)
 | []=>some ups
 | n :: ns=>if qt1 i (-1) n.kids&&qfm n then qdv (i+1) (bump ups n.kids) ns else none
def qnr (ups:List Int):List Int:=ups.set (ups.length - 1) (ups.getD (ups.length - 1) 0+1)
def qdj (t:List Nd):Bool :=
 decide (1≤t.length)&&decide (t.length≤400)&&(match qdv 0 (List.replicate t.length 0) t with
  | some ups=>(qnr ups).all (·==1)
  | none=>false)
theorem qvq:∀ (ks:List Int) (ups:List Int),(bump ups ks).length=ups.length
 | [],_=>rfl
 | k :: ks,ups=>by
  show (bump (ups.set _ _) ks).length=_
  rw[qvq ks,List.length_set]
def qx4 (m:Nat) (ups:List Int):Prop:=∀ u∈ups,0≤u∧u≤m
theorem qx4.bump1 {m:Nat} {ups:List Int} (h:qx4 m ups) (k:Nat):qx4 (m+1) (ups.set k (ups.getD k 0+1)):=by
 intro u hu
 rcases List.mem_or_eq_of_mem_set hu with hu | rfl
 ·have:=h u hu;omega
 ·by_cases hk:k < ups.length
  ·have:=h _ (List.getElem_mem hk)
   simp only[List.getD_eq_getElem?_getD,List.getElem?_eq_getElem hk,Option.getD_some]
   omega
  ·simp only[List.getD_eq_getElem?_getD,List.getElem?_eq_none (by omega:ups.length≤k),Option.getD_none]
   omega
theorem qx4.bump:∀ {ks:List Int} {m:Nat} {ups:List Int},qx4 m ups→qx4 (m+ks.length) (bump ups ks)
 | [],_,_,h=>h
 | k :: ks,m,ups,h=>by
  have:=qx4.bump (ks:=ks) (h.bump1 k.toNat)
  intro u hu
  have:=this u hu
  simp only[List.length_cons]
  omega
theorem one_run (n:Int):qb6 B0 .cl (.fn 57 []) [I n]=some (.bool (n != 1)):=by
 refine call (d:=fun _=>.cl) rfl (by decide) rfl rfl ?_
 rw[List.map_cons,List.map_nil,run57]
 simp only[qdi,I_neq,qba]
theorem find_run (l:List Int) (hl:l.length≤big):qb6 B0 .cl (.fn 85 []) [il l,.fn 57 []]=some (I (match l.findIdx? (· != 1) with | some i=>(i:Int) | none => -1)):=by
 refine call (d:=fun _=>.cl) rfl (by decide) (by simp[qb8,okV]) rfl ?_
 rw[List.map_cons,List.map_cons,List.map_nil,run85,qhi,qba]
 rw[show qbo [il l,.fn 57 [],I (l.length:Nat),.int .i64 0]=true from rfl,qbg]
 refine Eq.trans (qri (fun i (_:Unit)=>([il l,.fn 57 [],I l.length,I (i:Int)],())) l.length (fun _ _=>True)
  (fun i _=>(I (match (l.drop i).findIdx? (· != 1) with | some j=>((i+j:Nat):Int) | none => -1),())) (fun i _ hi _=>?_) (fun _ _=>?_) (a0:=()) trivial) (by simp)
 all_goals simp only[qc8,qc4,qc2,qde,qdk,qba,qb1]
 ·have h1:decide ((i:Int) < (l.length:Nat))=true:=by simpa using hi
  rw[h1,if_pos rfl,qr8 hi]
  simp only[qba,qmx,one_run,qb1]
  rw[List.drop_eq_getElem_cons hi,List.findIdx?_cons]
  cases hq:(l[i] != 1) with
  | true=>right;simp
  | false =>
   left
   refine⟨(),?_,trivial,?_⟩
   ·rw[if_neg (by simp)]
    simp only[qdi,qf3,qba]
    rw[qg1 (by have:=qhq;omega)]
   ·simp only[Bool.false_eq_true,if_false]
    cases List.findIdx? (fun x=>x != 1) (l.drop (i+1)) with
    | none=>rfl
    | some j=>simp only[Option.map_some];rw[show i+1+j=i+(j+1) by omega]
 ·have h1:decide (((l.length:Nat):Int) < (l.length:Nat))=false:=by simp
  rw[h1]
  simp
  rfl
theorem all_run (l:List Int) (hl:l.length≤big):qh2 B0 .cl true 56 [il l,.fn 57 []]=some (.bool (!l.all (·==1))):=by
 refine qgj (qf1 fun _=>.cl) (fn:=fn56) rfl (by simp[qb8,okV]) (Nat.le_of_ble_eq_true rfl) ?_ rfl
 rw[List.map_cons,List.map_cons,List.map_nil,run56,find_run l hl,qba]
 simp only[qdi,Qp6,qba,Option.some.injEq,Prod.mk.injEq,PV.bool.injEq,and_true]
 rw[←Bool.not_eq_not,Bool.not_not]
 rw[Bool.eq_iff_iff]
 cases hq:l.findIdx? (· != 1) with
 | none =>
  rw[List.findIdx?_eq_none_iff] at hq
  have:l.all (·==1)=true:=List.all_eq_true.2 fun x hx=>by have:=hq x hx;simpa using this
  simp[this]
 | some i =>
  have:¬ l.all (·==1)=true:=fun h=>by
   rw[List.findIdx?_eq_some_iff_getElem] at hq
   obtain⟨h1,h2,_⟩:=hq
   have:=List.all_eq_true.1 h _ (List.getElem_mem h1)
   simp at this h2
   exact h2 this
  simp[this]
theorem qmu (l:List Int):slO 1 1 (qgk l) 0 l.length=il l:=by
 unfold slO il
 rw[if_pos (by simp)]
 simp[List.take_of_length_le]
theorem Qrk {t:List Nd} {i:Nat} (ht:Fine t) (hi:i < t.length) {step:List PV×Unit→Option (Sum (List PV×Unit) (Sum (List PV×Unit) (PV×Unit)))} {ups:List Int} (hu:ups.length=t.length) {m0:Nat} (hm0:qx4 m0 ups) (R:List Int→Sum (List PV×Unit) (PV×Unit))
  (st:Nat→Int→List Int→List PV×Unit)
  (hs:∀ (j:Nat) (last:Int) (ups:List Int) (hj:j < t[i].kids.length),ups.length=t.length→qx4 (m0+j) ups→step (st j last ups) =
   (if decide (t[i].kids[j]≤last)||decide ((i:Int)≤t[i].kids[j]) then some (.inr (.inr (.bool false,())))
   else if 0≤t[i].kids[j] then some (.inl (st (j+1) t[i].kids[j] (ups.set t[i].kids[j].toNat (ups.getD t[i].kids[j].toNat 0+1)))) else none))
  (he:∀ (last:Int) (ups:List Int),ups.length=t.length→step (st t[i].kids.length last ups)=some (.inr (R ups))) :
  qcf step (st 0 (-1) ups)=some (if qt1 i (-1) t[i].kids then R (bump ups t[i].kids) else .inr (.bool false,())):=by
 refine Eq.trans (qri (fun j (a:Int×List Int)=>st j a.1 a.2) t[i].kids.length (fun j a=>a.2.length=t.length ∧ -1≤a.1∧qx4 (m0+j) a.2)
  (fun j a=>if qt1 i a.1 (t[i].kids.drop j) then R (bump a.2 (t[i].kids.drop j)) else .inr (.bool false,())) (fun j a hj ha=>?_) (fun a ha=>?_) (a0:=(-1,ups)) ⟨hu,by simp,hm0⟩) (by simp)
 ·obtain⟨last,ups⟩:=a
  simp only at ha ⊢
  rw[hs j last ups hj ha.1 ha.2.2,List.drop_eq_getElem_cons hj]
  simp only[qt1,bump,List.foldl_cons]
  cases h1:decide (t[i].kids[j]≤last) with
  | true =>
   have:decide (last < t[i].kids[j])=false:=by simp at h1 ⊢;exact h1
   right;simp[this]
  | false =>
   have g1:decide (last < t[i].kids[j])=true:=by simp at h1 ⊢;exact h1
   cases h2:decide ((i:Int)≤t[i].kids[j]) with
   | true =>
    have:decide (t[i].kids[j] < (i:Int))=false:=by simp at h2 ⊢;exact h2
    right;simp[this]
   | false =>
    have g2:decide (t[i].kids[j] < (i:Int))=true:=by simp at h2 ⊢;exact h2
    left
    have h0:0≤t[i].kids[j]:=by simp at g1;omega
    refine⟨(t[i].kids[j],ups.set t[i].kids[j].toNat (ups.getD t[i].kids[j].toNat 0+1)),by simp[h0],⟨by simp[ha.1],by omega,ha.2.2.bump1 _⟩,by simp[g1,g2]⟩
 ·obtain⟨last,ups⟩:=a
  simp only at ha ⊢
  rw[he last ups ha.1,List.drop_length]
  simp[qt1,bump]
theorem Qq4 {n:Nat} (h:n≤qdp):mkSO (I n) (I n)=some n:=by
 simp[mkSO,I,qj2,qbw,h]
theorem qtv (n:Nat):qr6 (I n)=some n:=by simp[qr6,qj2,I]
theorem qto (n:Nat):qmn n (I 0)=qgk (List.replicate n 0):=by simp[qgk]
theorem Qjy {t:List Nd} (ht:Fine t):qmk (qjh B0 fun _=>.cl) fn33 .cl qbe 0 ([tl t].map KV.cv) ()=some (.bool (qdj t),()):=by
 have hlt:=ht.len
 have hb:=qhq
 rw[List.map_cons,List.map_nil,run33]
 simp only[qld,qba,qdi,qdk,I_gtr,qb1]
 by_cases h1:t.length < 1
 ·have:qdj t=false:=by unfold qdj;simp[show ¬ 1≤t.length by omega]
  simp[show ((t.length:Nat):Int) < 1 by omega,this]
 have h1':¬ ((t.length:Nat):Int) < 1:=by omega
 by_cases h2:400 < t.length
 ·have:qdj t=false:=by unfold qdj;simp[show ¬ t.length≤400 by omega]
  simp[h1',show (400:Int) < ((t.length:Nat):Int) by omega,this]
 have h2':¬ (400:Int) < ((t.length:Nat):Int):=by omega
 simp only[h1',h2',decide_false,Bool.false_eq_true,if_false,qba,qbv]
 rw[Qq4 (by unfold qdp;omega)]
 simp only[qba,qgd]
 rw[show qbo [tl t,I t.length,tl t,I t.length,I 0]=true from rfl,qbg,qto]
 have hrb:qdj t=(match qdv 0 (List.replicate t.length 0) t with | some ups=>(qnr ups).all (·==1) | none=>false):=by
  unfold qdj;simp[show 1≤t.length by omega,show t.length≤400 by omega]
 rw[hrb]
 refine Eq.trans (Qnt (fun i (ups:List Int)=>([tl t,I t.length,tl t,I t.length,I (i:Int),il ups],())) t.length (fun i ups=>ups.length=t.length∧qx4 (i*big) ups)
  (fun i ups=>(PV.bool (match qdv i ups (t.drop i) with | some ups=>(qnr ups).all (·==1) | none=>false),())) (fun i ups hi hu=>?_) (fun ups hu=>?_) (a0:=List.replicate t.length 0) ⟨by simp,fun u hu=>by
   have:=List.eq_of_mem_replicate hu;omega⟩) (by simp)
 ·simp only[qc8,qc4,qc2,qde,qfg,qgr,qdk,qba]
  rw[show decide ((i:Int) < (t.length:Nat))=true by simpa using hi,qb5,qks hi]
  simp only[qba,Qkn,qj1,qbg,qhx,qhw,qhv,qhi,qb2,qgd,qcg]
  rw[show qbo [tl t,I t.length,I i,I (-1),tl t,I t.length,I i,il t[i].kids,I t[i].kids.length,I 0]=true from rfl,qbg]
  rw[List.drop_eq_getElem_cons hi]
  have hnf:=ht.nd t[i] (List.getElem_mem hi)
  refine⟨_,Qrk ht hi hu.1 hu.2 (fun ups=>if qfm t[i] then .inl ([tl t,I t.length,tl t,I t.length,I ((i+1:Nat):Int),il ups],()) else .inr (.bool false,()))
   (fun j last ups=>([tl t,I t.length,I i,I last,tl t,I t.length,I i,il t[i].kids,I t[i].kids.length,I (j:Int),I t[i].kind,.str t[i].text,il t[i].kids,il ups],())) (fun j last ups hj hu' hle=>?_) (fun last ups hu'=>?_),?_⟩
  ·simp only[qc8,qc4,qc2,qde,qfg,qgr,qh1,qjl,ql3,qmo,qlc,qtt,Qkd,Qkc,qdk,qba]
   rw[show decide ((j:Int) < (t[i].kids.length:Nat))=true by simpa using hj,qb5,qr8 hj]
   simp only[qba,qmx,I_leq,Qp6,qb1]
   by_cases g1:t[i].kids[j]≤last
   ·simp[g1]
   by_cases g2:(i:Int)≤t[i].kids[j]
   ·simp[g1,g2]
   simp only[g1,g2,decide_false,Bool.false_eq_true,if_false,qba,qbv,Bool.or_self]
   by_cases g3:0≤t[i].kids[j]
   ·obtain⟨m,hm⟩:=Int.eq_ofNat_of_zero_le g3
    rw[if_pos g3,hm]
    have hmt:m < t.length:=by rw[hm] at g2;omega
    have hmu:m < ups.length:=by omega
    have hub:=hle _ (List.getElem_mem hmu)
    have hjb:=hnf.kids
    have hib:i*big≤1000000*1000000:=Nat.mul_le_mul (by unfold big at hlt;omega) (by decide)
    simp only[qtv,qba,qb2,qqm,qdb,Nat.zero_add,qcg,show decide (m < t.length)=true by simpa using hmt,qbg,qn7 hmu,qf3,qx7 hmu,Int.toNat_natCast]
    rw[qg1 (i:=j) (by omega),w64 (n:=ups[m]+1) (by omega) (by omega)]
    simp[List.getD_eq_getElem?_getD,hmu]
    rfl
   ·rw[if_neg g3]
    have:qr6 (I t[i].kids[j])=none:=by simp[qr6,qj2,I,g3]
    rw[this];rfl
  ·simp only[qc8,qc4,qc2,qde,qfg,qgr,qh1,qjl,ql3,qmo,qlc,qtt,Qkd,Qkc,qdk,qba]
   rw[show decide (((t[i].kids.length:Nat):Int) < (t[i].kids.length:Nat))=false by simp,qbv]
   rw[show qb6 B0 .cl (.fn 55 []) [.agg [I t[i].kind,.str t[i].text,il t[i].kids]]=some (.bool (qfm t[i])) from form_run t[i]]
   simp only[qba,qmv,qb1,qf3,qb2,qgd,qcg]
   rw[qg1 (by omega)]
   cases qfm t[i]<;>rfl
  ·cases hk:qt1 (i:Int) (-1) t[i].kids with
   | false=>right;simp[qdv,hk]
   | true =>
    cases hfm:qfm t[i] with
    | false=>right;simp[qdv,hk,hfm]
    | true =>
     left
     refine⟨bump ups t[i].kids,by simp,⟨by rw[qvq];exact hu.1,fun u hu'=>?_⟩,by simp[qdv,hk,hfm]⟩
     have:=hu.2.bump u hu'
     have hk':=hnf.kids
     rw[Nat.add_mul]
     omega
 ·simp only[qc8,qc4,qc2,qde,qfg,qgr,qdk,qba]
  rw[show decide (((t.length:Nat):Int) < (t.length:Nat))=false by simp,qbv]
  have hlast:t.length - 1 < ups.length:=by omega
  have hub:=hu.2 _ (List.getElem_mem hlast)
  have hib:t.length*big≤1000000*1000000:=Nat.mul_le_mul (by unfold big at hlt;omega) (by decide)
  simp only[qld,qba,Qjb]
  rw[Qf2 (by omega) (by omega)]
  simp only[qtv,qba,qb2,qqm,qdb,Nat.zero_add,qcg,show decide (t.length - 1 < t.length)=true by simp;omega,qbg,qn7 hlast,qf3,qx7 hlast]
  rw[w64 (by omega) (by omega)]
  have hl:slO 1 1 (qgk (ups.set (t.length - 1) (ups[t.length - 1]+1))) 0 t.length=il (ups.set (t.length - 1) (ups[t.length - 1]+1)):=by
   have:=qmu (ups.set (t.length - 1) (ups[t.length - 1]+1))
   rw[List.length_set,hu.1] at this
   exact this
  rw[hl,all_run _ (by rw[List.length_set,hu.1];exact hlt)]
  simp only[qba,qmv,Bool.not_not,List.drop_length,qdv]
  unfold qnr
  rw[hu.1]
  simp[List.getD_eq_getElem?_getD,hlast]
theorem qtm {t:List Nd} (ht:Fine t):qb6 B0 .cl (.fn 33 []) [tl t]=some (.bool (qdj t)) :=
 call (d:=fun _=>.cl) rfl (by decide) (by simp[qb8]) rfl (Qjy ht)
theorem right_lend {t:List Nd} (ht:Fine t):qh2 B0 .cl true 33 [tl t]=some (.bool (qdj t)) :=
 qgj (qf1 fun _=>.cl) (fn:=fn33) rfl (by simp[qb8]) (Nat.le_of_ble_eq_true rfl) (Qjy ht) rfl
end Go.Ab.Core


namespace Go.Ab
open Go Go.ChangeShapes Go.WideShapes Go.RowKit
inductive DTy where
 | bool
 | int (k:IntKind)
 | str
 | slice (e:DTy)
 | struct (fs:List DTy)
mutual
def DTy.cells:DTy→Nat
 | .struct fs=>DTy.cellsL fs
 | .bool | .int _ | .str | .slice _=>1
def DTy.cellsL:List DTy→Nat
 | []=>0
 | d :: ds=>d.cells+DTy.cellsL ds
end
mutual
def isD (P:Program):Nat→DTy→TypeId→Bool
 | 0,_,_=>false
 | n+1,D,t=>match D,P.underlying t with
  | .bool,some .bool=>true
  | .int k,some (.int k')=>k'==k
  | .str,some .string=>true
  | .slice e,some (.slice et)=>isD P n e et&&P.cellsOf et==e.cells&&decide (0 < e.cells)
  | .struct fs,some (.struct fields)=>P.cellsOf t==DTy.cellsL fs&&isFs P n 0 fs fields.toList
  | _,_=>false
def isFs (P:Program):Nat→Nat→List DTy→List Field→Bool
 | 0,_,_,_=>false
 | _+1,_,[],[]=>true
 | n+1,off,D :: ds,f :: fs=>f.offset==off&&P.cellsOf f.type==D.cells&&isD P n D f.type&&isFs P n (off+D.cells) ds fs
 | _+1,_,_,_=>false
end
mutual
def Qmx:DTy→PV→Prop
 | .bool,v=>∃ b,v=.bool b
 | .int k,v=>∃ n,v=.int k n∧(Lit.int k n).wf=true
 | .str,v=>∃ s,v=.str s∧s.length≤maxLen
 | .slice e,v=>v=.nilS∨∃ xs,v=.sl e.cells xs false∧xs.length≤maxLen∧∀ x∈xs,Qmx e x
 | .struct fs,v=>∃ vs,v=.agg (cellsL vs)∧HasVs fs vs
def HasVs:List DTy→List PV→Prop
 | [],vs=>vs=[]
 | D :: fs,vs=>∃ v r,vs=v :: r∧Qmx D v∧HasVs fs r
end
theorem repL1' {w:World} {I:Nat→Prop} {lp:Nat→Option Nat} {L:Option Loc} {a:PV} {us:List Value} (h:qb0 w I lp L [a] us):∃ u,us=[u]∧qb7 w I lp L a u:=by
 obtain⟨u,r,h1,rfl,h2⟩:∃ u r,qb7 w I lp L a u∧us=u :: r∧qb0 w I lp L [] r:=by
  cases h;exact⟨_,_,by assumption,rfl,by assumption⟩
 cases h2
 exact⟨u,rfl,h1⟩
section
variable {H:Type} {enc:TypeId×Value→H} {P:Program} {w:World} {I:Nat→Prop} {lp:Nat→Option Nat} {held:Bool} {sp:Nat→Bool}
def RepD (w:World) (I:Nat→Prop) (lp:Nat→Option Nat) (D:DTy) (cs:List Value):Prop:=∃ v:PV,Qmx D v∧qb0 w I lp none v.cells cs∧One cs∧v.cells.length=D.cells
theorem cells?_get {base:Nat} {a:Addr} {n:Nat} {l:List Value} (h:w.cells? base a n=some l):l.length=n∧∀ i,i < n→w.cell? (a.add i)=l[i]?:=by
 obtain⟨_,h1,h2⟩:=World.cells?_some h
 exact⟨h1,fun i hi=>by rw[h2 i hi]⟩
theorem cell?_row {a:Addr} {v:Value} (h:w.cell? a=some v):∃ c E fr,w.heap[a.block]?=some (.cells c E fr)∧a.spot=none∧c[a.off]?=some v:=by
 unfold World.cell? at h
 split at h
 ·rename_i c E fr hb
  split at h
  ·cases h
  ·rename_i hs
   exact⟨c,E,fr,hb,by simpa using hs,h⟩
 ·cases h
theorem Qvc (a:Addr) (h:a.spot=none) (i:Nat):a.add i=⟨a.block,a.off+i,none⟩:=by
 unfold Addr.add
 split
 ·rename_i hi;subst hi;cases a;simp_all
 ·rfl
theorem list_rep {e:DTy} (hI:∀ b,b < w.heap.size→I b) {a:Addr} {len cap:Nat} (hlc:len≤cap) (hcm:cap≤maxLen) (hpos:0 < e.cells)
  (hel:∀ i,i < len→∃ cs,w.cells? 0 (a.add (i*e.cells)) e.cells=some cs∧RepD w I lp e cs):RepD w I lp (.slice e) [.slice (some a) len cap]:=by
 by_cases h0:len=0
 ·subst h0
  exact⟨.sl e.cells [] false,.inr ⟨[],rfl,Nat.zero_le _,fun x hx=>by cases hx⟩,.cons _ _ _ _ (.slE _ _ _ _ (fun h=>by cases h)) .nil,by simp[One,Value.oneCell'],rfl⟩
 ·obtain⟨cs0,hcs0,_⟩:=hel 0 (by omega)
  obtain⟨hl0,hg0⟩:=cells?_get hcs0
  have hf:=hg0 0 hpos
  rw[Nat.zero_mul] at hf
  have e0:(a.add 0).add 0=a:=by simp[Addr.add]
  rw[e0,List.getElem?_eq_getElem (by omega)] at hf
  obtain⟨c,E,fr,hb,hs,_⟩:=cell?_row hf
  have hblt:a.block < w.heap.size:=(Array.getElem?_eq_some_iff.1 hb).1
  have each:∀ i,i < len→∃ v:PV,Qmx e v∧v.cells.length=e.cells∧(a.off+i*e.cells)+e.cells≤c.size∧One ((c.toList.drop (a.off+i*e.cells)).take e.cells)∧qb0 w I lp none v.cells ((c.toList.drop (a.off+i*e.cells)).take e.cells):=by
   intro i hi
   obtain⟨cs,hcs,v,h1,h2,h3,h4⟩:=hel i hi
   obtain⟨hl,hg⟩:=cells?_get hcs
   have key:∀ j,j < e.cells→c[a.off+i*e.cells+j]?=cs[j]?:=by
    intro j hj
    have:=hg j hj
    rw[Qvc a hs,Qvc _ rfl,qvp hb] at this
    exact this
   have hsz:a.off+i*e.cells+e.cells≤c.size:=by
    have:=key (e.cells - 1) (by omega)
    rw[List.getElem?_eq_getElem (by omega)] at this
    have:=(Array.getElem?_eq_some_iff.1 this).1
    omega
   have e1:(c.toList.drop (a.off+i*e.cells)).take e.cells=cs:=by
    apply List.ext_getElem?
    intro j
    by_cases hj:j < e.cells
    ·rw[List.getElem?_take_of_lt hj,List.getElem?_drop,←key j hj];simp
    ·rw[List.getElem?_eq_none (by simp;omega),List.getElem?_eq_none (by omega)]
   exact⟨v,h1,h4,hsz,by rw[e1];exact h3,by rw[e1];exact h2⟩
  have all:∀ n,n≤len→∃ xs:List PV,xs.length=n∧(∀ x∈xs,Qmx e x)∧(∀ x∈xs,x.cells.length=e.cells)∧a.off+n*e.cells≤c.size∧One ((c.toList.drop a.off).take (n*e.cells))∧qb0 w I lp none (cellsL xs) ((c.toList.drop a.off).take (n*e.cells)):=by
   intro n
   induction n with
   | zero =>
    intro _
    refine⟨[],rfl,by simp,by simp,?_,by simp[One],by simp;exact .nil⟩
    obtain⟨_,_,_,h,_⟩:=each 0 (by omega)
    omega
   | succ n ih =>
    intro hn
    obtain⟨xs,h1,h2,h3,h4,h5,h6⟩:=ih (by omega)
    obtain⟨v,g1,g2,g3,g4,g5⟩:=each n (by omega)
    have e2:(c.toList.drop a.off).take ((n+1)*e.cells)=(c.toList.drop a.off).take (n*e.cells)++(c.toList.drop (a.off+n*e.cells)).take e.cells:=by
     rw[Nat.add_mul,Nat.one_mul,List.take_add,List.drop_drop]
    refine⟨xs++[v],by simp[h1],?_,?_,by rw[Nat.add_mul];omega,?_,?_⟩
    ·intro x hx
     rcases List.mem_append.1 hx with hx | hx
     ·exact h2 x hx
     ·simp at hx;subst hx;exact g1
    ·intro x hx
     rcases List.mem_append.1 hx with hx | hx
     ·exact h3 x hx
     ·simp at hx;subst hx;exact g2
    ·rw[e2];exact h5.append' g4
    ·rw[e2,qgp]
     refine h6.append ?_
     simpa[cellsL] using g5
  obtain⟨xs,h1,h2,h3,h4,h5,h6⟩:=all len (Nat.le_refl _)
  have ea:a=⟨a.block,a.off,none⟩:=by cases a;simp_all
  refine⟨.sl e.cells xs false,.inr ⟨xs,rfl,by omega,h2⟩,?_,by simp[One,Value.oneCell'],rfl⟩
  rw[ea,←h1]
  exact .cons _ _ _ _ (.sl e.cells xs false a.block a.off cap c E fr (hI _ hblt) hb (by rw[h1];exact h4) h3 (by omega) (fun h=>by cases h) (by rw[h1];exact h5) (by rw[h1];exact h6)) .nil
theorem struct_rep {n:Nat} (ih:∀ (m:Nat) (D:DTy) (t:TypeId) (cs:List Value) (x:DataW H×List MemPlace),isD P m D t=true→DataW.trod enc P w 0 (fun _=>true) held n t cs=some x→RepD w I lp D cs) :
  ∀ (m:Nat) (ds:List DTy) (fs:List Field) (off:Nat) (cs:List Value) (xs:List (DataW H×List MemPlace)),isFs P m off ds fs=true→xs.length=fs.length→cs.length=off+DTy.cellsL ds →
  (∀ (i:Nat) (f:Field),fs[i]?=some f→DataW.trod enc P w 0 (fun _=>true) held n f.type ((cs.drop f.offset).take (P.cellsOf f.type))=xs[i]?) →
  ∃ vs:List PV,HasVs ds vs∧qb0 w I lp none (cellsL vs) (cs.drop off)∧One (cs.drop off)∧(cellsL vs).length=DTy.cellsL ds:=by
 intro m
 induction m with
 | zero=>intro ds fs off cs xs h;cases h
 | succ m ihm =>
  intro ds fs off cs xs h hl hc hf
  match ds,fs,h with
  | [],[],_ =>
   refine⟨[],rfl,?_,?_,rfl⟩
   ·rw[List.drop_of_length_le (by simp[DTy.cellsL] at hc;omega)];exact .nil
   ·rw[List.drop_of_length_le (by simp[DTy.cellsL] at hc;omega)];simp[One]
  | D :: ds,f :: fs,h =>
   simp only[isFs,Bool.and_eq_true,beq_iff_eq] at h
   obtain⟨⟨⟨h1,h2⟩,h3⟩,h4⟩:=h
   match xs,hl with
   | x :: xs,hl =>
    have hx:=hf 0 f rfl
    rw[h1,h2] at hx
    obtain⟨v,g1,g2,g3,g4⟩:=ih m D f.type _ x h3 hx
    simp only[DTy.cellsL] at hc
    obtain⟨vs,k1,k2,k3,k4⟩:=ihm ds fs (off+D.cells) cs xs h4 (by simpa using hl) (by omega) (fun i f hi=>by simpa using hf (i+1) f (by simpa using hi))
    have e1:cs.drop off=(cs.drop off).take D.cells++cs.drop (off+D.cells):=by rw[←List.drop_drop,List.take_append_drop]
    refine⟨v :: vs,⟨v,vs,rfl,g1,k1⟩,?_,?_,by simp[cellsL,DTy.cellsL,g4,k4]⟩
    ·rw[e1];exact g2.append k2
    ·rw[e1];exact g3.append' k3
theorem Qni (hI:∀ b,b < w.heap.size→I b):∀ (fuel m:Nat) (D:DTy) (t:TypeId) (cs:List Value) (x:DataW H×List MemPlace),isD P m D t=true→DataW.trod enc P w 0 (fun _=>true) held fuel t cs=some x→RepD w I lp D cs:=by
 intro fuel
 induction fuel with
 | zero=>intro m D t cs x _ h;simp[DataW.trod] at h
 | succ fuel ih =>
  intro m D t cs x hD h
  cases m with
  | zero=>cases hD
  | succ m =>
   cases hu:P.underlying t with
   | none=>cases D<;>simp[isD,hu] at hD
   | some d =>
    cases D with
    | bool =>
     cases d<;>simp[isD,hu] at hD
     obtain⟨b,rfl,_⟩:=DataW.trod_bool hu h
     exact⟨.bool b,⟨b,rfl⟩,.cons _ _ _ _ (.bool b) .nil,by simp[One,Value.oneCell'],rfl⟩
    | int k =>
     cases d<;>simp[isD,hu] at hD
     subst hD
     obtain⟨n,rfl,_,hw⟩:=DataW.trod_int hu h
     exact⟨.int _ n,⟨n,rfl,hw⟩,.cons _ _ _ _ (.int _ n) .nil,by simp[One,Value.oneCell'],rfl⟩
    | str =>
     cases d<;>simp[isD,hu] at hD
     obtain⟨s,rfl,_,hw⟩:=DataW.trod_string hu h
     obtain⟨l,rfl⟩:∃ l:List UInt8,s=⟨l.toArray⟩:=⟨s.data.toList,by cases s;simp⟩
     exact⟨.str l,⟨l,rfl,by simpa[ByteArray.size] using hw⟩,.cons _ _ _ _ (.str l) .nil,by simp[One,Value.oneCell'],rfl⟩
    | slice e =>
     cases d<;>simp[isD,hu] at hD
     rename_i et
     obtain⟨⟨h1,h2⟩,h3⟩:=hD
     rcases DataW.trod_slice hu h with ⟨rfl,_⟩ | ⟨a,len,cap,qk8,rest,n,hn,rfl,_,_,hl,hm,hlen,hel,_⟩
     ·exact⟨.nilS,.inl rfl,.cons _ _ _ _ .nilS .nil,by simp[One,Value.oneCell'],rfl⟩
     ·cases hn
      refine list_rep hI hl hm h3 fun i hi=>?_
      have:=hel i hi
      rw[List.getElem?_eq_getElem (by omega),Option.bind_eq_some_iff,h2] at this
      obtain⟨cs,hcs,hx⟩:=this
      exact⟨cs,hcs,ih m e et cs _ h1 hx⟩
    | struct ds =>
     cases d<;>simp[isD,hu] at hD
     rename_i fields
     obtain⟨h1,h2⟩:=hD
     obtain⟨xs,n,hn,_,hl,hlen,hf⟩:=DataW.trod_struct hu h
     cases hn
     obtain⟨vs,k1,k2,k3,k4⟩:=struct_rep ih m ds fields.toList 0 cs xs h2 (by simpa using hlen) (by rw[hl,h1];omega) (fun i f hi=>hf i f (by simpa using hi))
     rw[List.drop_zero] at k2 k3
     exact⟨.agg (cellsL vs),⟨vs,rfl,k1⟩,k2,k3,by simpa[PV.cells,DTy.cells] using k4⟩
variable {w':World} {sp':Nat→Bool}
theorem cell?_keep (hk:∀ b,b < w.heap.size→w'.heap[b]?=w.heap[b]?) {a:Addr} {v:Value} (h:w.cell? a=some v):a.block < w.heap.size∧w'.cell? a=some v:=by
 obtain⟨c,E,fr,hb,hs,hv⟩:=cell?_row h
 have hlt:a.block < w.heap.size:=(Array.getElem?_eq_some_iff.1 hb).1
 refine⟨hlt,?_⟩
 unfold World.cell?
 rw[hk _ hlt,hb]
 simp[hs,hv]
theorem ql4 {α β:Type} {f g:α→Option β}:∀ (l:List α) {ys:List β},l.mapM f=some ys→(∀ x∈l,∀ y,f x=some y→g x=some y)→l.mapM g=some ys
 | [],ys,h,_=>by simpa using h
 | x :: l,ys,h,hg=>by
  rw[List.mapM_cons] at h ⊢
  simp only[Option.bind_eq_bind,Option.bind_eq_some_iff,Option.pure_def,Option.some.injEq] at h ⊢
  obtain⟨y,h1,ys',h2,rfl⟩:=h
  exact⟨y,hg x (by simp) y h1,ys',ql4 l h2 (fun z hz=>hg z (by simp[hz])),rfl⟩
theorem cells?_keep (hk:∀ b,b < w.heap.size→w'.heap[b]?=w.heap[b]?) {a:Addr} {n:Nat} {l:List Value} (h:w.cells? 0 a n=some l):w'.cells? 0 a n=some l∧(0 < n→a.block < w.heap.size):=by
 refine⟨?_,fun hn=>?_⟩
 ·unfold World.cells? at h ⊢
  rw[if_pos (Nat.zero_le _)] at h ⊢
  exact ql4 _ h fun i _ v hv=>(cell?_keep hk hv).2
 ·obtain⟨h1,h2⟩:=cells?_get h
  have:=h2 0 hn
  rw[List.getElem?_eq_getElem (by omega)] at this
  have:=(cell?_keep hk this).1
  rwa [block_add] at this
theorem Qpi {n:Nat} (ih:∀ (m:Nat) (D:DTy) (t:TypeId) (cs:List Value) (x:DataW H×List MemPlace),isD P m D t=true→DataW.trod enc P w 0 (fun _=>true) held n t cs=some x→DataW.trod enc P w' 0 sp' held n t cs=some x) :
  ∀ (m:Nat) (ds:List DTy) (fs:List Field) (off:Nat),isFs P m off ds fs=true→∀ f∈fs,∀ cs x,DataW.trod enc P w 0 (fun _=>true) held n f.type cs=some x→DataW.trod enc P w' 0 sp' held n f.type cs=some x:=by
 intro m
 induction m with
 | zero=>intro ds fs off h;cases h
 | succ m ihm =>
  intro ds fs off h f hf cs x hx
  match ds,fs,h with
  | [],[],_=>cases hf
  | D :: ds,g :: fs,h =>
   simp only[isFs,Bool.and_eq_true,beq_iff_eq] at h
   rcases List.mem_cons.1 hf with rfl | hf
   ·exact ih m D _ cs x h.1.2 hx
   ·exact ihm ds fs _ h.2 f hf cs x hx
theorem trod_keep (hk:∀ b,b < w.heap.size→w'.heap[b]?=w.heap[b]?) (hsp:∀ b,b < w.heap.size→sp' b=true):∀ (fuel m:Nat) (D:DTy) (t:TypeId) (cs:List Value) (x:DataW H×List MemPlace),isD P m D t=true →
  DataW.trod enc P w 0 (fun _=>true) held fuel t cs=some x→DataW.trod enc P w' 0 sp' held fuel t cs=some x:=by
 intro fuel
 induction fuel with
 | zero=>intro m D t cs x _ h;simp[DataW.trod] at h
 | succ fuel ih =>
  intro m D t cs x hD h
  cases m with
  | zero=>cases hD
  | succ m =>
   cases hu:P.underlying t with
   | none=>cases D<;>simp[isD,hu] at hD
   | some d =>
    cases D with
    | bool =>
     cases d<;>simp[isD,hu] at hD
     obtain⟨b,rfl,rfl⟩:=DataW.trod_bool hu h
     simp[DataW.trod,hu]
    | int k =>
     cases d<;>simp[isD,hu] at hD
     subst hD
     obtain⟨n,rfl,rfl,hw⟩:=DataW.trod_int hu h
     simp[DataW.trod,hu,hw]
    | str =>
     cases d<;>simp[isD,hu] at hD
     obtain⟨s,rfl,rfl,hw⟩:=DataW.trod_string hu h
     simp[DataW.trod,hu,hw]
    | slice e =>
     cases d<;>simp[isD,hu] at hD
     rename_i et
     obtain⟨⟨h1,h2⟩,h3⟩:=hD
     rcases DataW.trod_slice hu h with ⟨rfl,rfl⟩ | ⟨a,len,cap,qk8,rest,n,hn,rfl,_,_,hl,hm,hlen,_,_⟩
     ·simp[DataW.trod,hu]
     ·unfold DataW.trod at h ⊢
      simp only[hu] at h ⊢
      rw[if_pos ⟨Nat.zero_le _,hl,hm⟩] at h ⊢
      have el:∀ i y,(w.cells? 0 (a.add (i*P.cellsOf et)) (P.cellsOf et)).bind (DataW.trod enc P w 0 (fun _=>true) held fuel et)=some y→(w'.cells? 0 (a.add (i*P.cellsOf et)) (P.cellsOf et)).bind (DataW.trod enc P w' 0 sp' held fuel et)=some y∧a.block < w.heap.size:=by
       intro i y hy
       obtain⟨cs,hcs,hx⟩:=Option.bind_eq_some_iff.1 hy
       obtain⟨k1,k2⟩:=cells?_keep hk hcs
       refine⟨Option.bind_eq_some_iff.2 ⟨cs,k1,ih m e et cs y h1 hx⟩,?_⟩
       have:=k2 (by omega)
       rwa [block_add] at this
      obtain⟨es,he,h⟩:=Option.bind_eq_some_iff.1 h
      refine Option.bind_eq_some_iff.2 ⟨es,ql4 _ he fun i _ y hy=>(el i y hy).1,?_⟩
      obtain⟨rs,hr,rfl⟩:=Option.map_eq_some_iff.1 h
      refine Option.map_eq_some_iff.2 ⟨rs,?_,rfl⟩
      simp only[if_true] at hr
      cases hc:cap - len with
      | zero =>
       rw[hc] at hr
       simp at hr
       subst hr
       split<;>simp
      | succ q =>
       have hlt:a.block < w.heap.size:=by
        rw[hc,List.range_succ_eq_map,List.mapM_cons] at hr
        simp only[Option.bind_eq_bind,Option.bind_eq_some_iff] at hr
        obtain⟨y,hy,_⟩:=hr
        exact (el _ y (Option.bind_eq_some_iff.2 hy)).2
       rw[if_pos (hsp _ hlt),←hc]
       exact ql4 _ hr fun i _ y hy=>(el _ y hy).1
    | struct ds =>
     cases d<;>simp[isD,hu] at hD
     rename_i fields
     obtain⟨h1,h2⟩:=hD
     have key:=Qpi ih m ds fields.toList 0 h2
     unfold DataW.trod at h ⊢
     simp only[hu] at h ⊢
     split at h
     ·rename_i hlc
      rw[if_pos hlc]
      obtain⟨xs,hx,rfl⟩:=Option.map_eq_some_iff.1 h
      exact Option.map_eq_some_iff.2 ⟨xs,ql4 _ hx fun f hf y hy=>key f hf _ y hy,rfl⟩
     ·cases h
def isDs (P:Program) (m:Nat):List DTy→List TypeId→Bool
 | [],[]=>true
 | D :: Ds,t :: ts=>isD P m D t&&isDs P m Ds ts
 | _,_=>false
theorem val_rep (hI:∀ b,b < w.heap.size→I b) {m:Nat} {D:DTy} {t:TypeId} {v:Value} {d:DataW H} {ps:List MemPlace} {base:Nat} (hD:isD P m D t=true) (hv:Value.okWide P w .any base t v) (h:DataW.Trod enc P w 0 (fun _=>true) held t v d ps) :
  ∃ u:PV,Qmx D u∧qb7 w I lp none u v:=by
 obtain⟨fuel,h⟩:=h
 obtain⟨u,h1,h2,h3,h4⟩:=Qni (lp:=lp) hI fuel m D t _ _ hD h
 cases m with
 | zero=>cases hD
 | succ m =>
  cases hu:P.underlying t with
  | none=>cases D<;>simp[isD,hu] at hD
  | some dd =>
   have one:(∀ x,v.cells.toList=[x]→v=x)→(∀ x:PV,u.cells=[x]→u=x)→(∃ x,u.cells=[x])→∃ u:PV,Qmx D u∧qb7 w I lp none u v:=by
    intro ho hp ⟨x,hx⟩
    have hux:=hp x hx
    rw[hx] at h2
    obtain⟨y,hy,hr⟩:=repL1' h2
    rw[ho y hy]
    exact⟨u,h1,by rw[hux];exact hr⟩
   have sc:(∀ vs,v≠.agg vs)→∀ x,v.cells.toList=[x]→v=x:=by
    intro hn x hx
    cases v<;>first | (simp[Value.cells] at hx;exact hx) | exact absurd rfl (hn _)
   cases D with
   | struct ds =>
    cases dd<;>simp[isD,hu] at hD
    obtain⟨cs,rfl,_⟩:=okWide_struct hu hv
    obtain⟨vs,rfl,hvs⟩:=h1
    exact⟨_,⟨vs,rfl,hvs⟩,.agg _ _ h3 h2⟩
   | bool =>
    cases dd<;>simp[isD,hu] at hD
    obtain⟨b,rfl⟩:=h1
    exact one (sc fun vs e=>by subst e;simp[Value.okWide,hu,Cell.okWide,Cell.ok] at hv) (fun x hx=>by simpa[PV.cells] using hx) ⟨_,rfl⟩
   | int k =>
    cases dd<;>simp[isD,hu] at hD
    obtain⟨b,rfl,_⟩:=h1
    exact one (sc fun vs e=>by subst e;simp[Value.okWide,hu,Cell.okWide,Cell.ok] at hv) (fun x hx=>by simpa[PV.cells] using hx) ⟨_,rfl⟩
   | str =>
    cases dd<;>simp[isD,hu] at hD
    obtain⟨b,rfl,_⟩:=h1
    exact one (sc fun vs e=>by subst e;simp[Value.okWide,hu,Cell.okWide,Cell.ok] at hv) (fun x hx=>by simpa[PV.cells] using hx) ⟨_,rfl⟩
   | slice e =>
    cases dd<;>simp[isD,hu] at hD
    have hs:=sc fun vs e=>by subst e;simp[Value.okWide,hu,Cell.okWide,Cell.ok] at hv
    rcases h1 with rfl | ⟨xs,rfl,_,_⟩
    ·exact one hs (fun x hx=>by simpa[PV.cells] using hx) ⟨_,rfl⟩
    ·exact one hs (fun x hx=>by simpa[PV.cells] using hx) ⟨_,rfl⟩
theorem Qt9 (hI:∀ b,b < w.heap.size→I b) {m base:Nat}:∀ (Ds:List DTy) (ts:List TypeId) (vs:List Value) (ds:List (DataW H)) (p:List MemPlace),isDs P m Ds ts=true →
  (∀ (j:Nat) t v,ts[j]?=some t→vs[j]?=some v→Value.okWide P w .any base t v)→DataW.TrodAll enc P w 0 (fun _=>true) held ts vs ds p→∃ us:List PV,HasVs Ds us∧qb0 w I lp none us vs
 | [],[],vs,ds,p,_,_,h=>by
  obtain⟨rfl,rfl,rfl⟩:=trodAll_nil h
  exact⟨[],rfl,.nil⟩
 | D :: Ds,t :: ts,vs,ds,p,hD,hv,h=>by
  obtain⟨v,vs,d,ds,p,q,rfl,rfl,rfl,h1,h2⟩:=trodAll_cons h
  simp only[isDs,Bool.and_eq_true] at hD
  obtain⟨u,a,b⟩:=val_rep (lp:=lp) hI hD.1 (hv 0 t v rfl rfl) h1
  obtain⟨us,a',b'⟩:=Qt9 hI Ds ts vs ds q hD.2 (fun j t v ht hj=>hv (j+1) t v (by simpa using ht) (by simpa using hj)) h2
  exact⟨u :: us,⟨u,us,rfl,a,a'⟩,.cons _ _ _ _ b b'⟩
 | [],_ :: _,_,_,_,hD,_,_=>by cases hD
 | _ :: _,[],_,_,_,hD,_,_=>by cases hD
theorem Qmq (hk:∀ b,b < w.heap.size→w'.heap[b]?=w.heap[b]?) (hsp:∀ b,b < w.heap.size→sp' b=true) {m:Nat}:∀ (Ds:List DTy) (ts:List TypeId) (vs:List Value) (ds:List (DataW H)) (p:List MemPlace),isDs P m Ds ts=true →
  DataW.TrodAll enc P w 0 (fun _=>true) held ts vs ds p→DataW.TrodAll enc P w' 0 sp' held ts vs ds p
 | [],[],vs,ds,p,_,h=>by
  obtain⟨rfl,rfl,rfl⟩:=trodAll_nil h
  exact rfl
 | D :: Ds,t :: ts,vs,ds,p,hD,h=>by
  obtain⟨v,vs,d,ds,p,q,rfl,rfl,rfl,⟨fuel,h1⟩,h2⟩:=trodAll_cons h
  simp only[isDs,Bool.and_eq_true] at hD
  exact⟨p,q,⟨fuel,trod_keep hk hsp fuel m D t _ _ hD.1 h1⟩,Qmq hk hsp Ds ts vs ds q hD.2 h2,rfl⟩
 | [],_ :: _,_,_,_,hD,_=>by cases hD
 | _ :: _,[],_,_,_,hD,_=>by cases hD
end
end Go.Ab


namespace Go.Ab.Core
open Go Go.Ab
inductive IsR (k:Nat):PV→List PV→Prop
 | nil:IsR k .nilS []
 | sl (xs:List PV):IsR k (.sl k xs false) xs
section
variable {k:Nat} {v:PV} {xs:List PV}
theorem IsR.cells (h:IsR k v xs):v.cells=[v]:=by cases h<;>rfl
theorem IsR.und (h:IsR k v xs):qhl v=false:=by cases h<;>rfl
theorem IsR.val (h:IsR k v xs):v.isVal=true:=by cases h<;>rfl
theorem IsR.len (h:IsR k v xs):qbd (.len .slice (.c v))=some (I (xs.length:Nat)):=by
 cases h with
 | nil=>rfl
 | sl=>rw[qg6];rfl
theorem IsR.idx (h:IsR k v xs) (hk:0 < k) {i:Nat} (hi:i < xs.length):qbd (.idxAddr k (.c v) (.c (I (i:Int))))=some (.ptr xs[i].cells 0):=by
 cases h with
 | nil=>simp at hi
 | sl=>exact qhm hk (by simp[hi])
theorem IsR.hi (h:IsR k v xs) {n:Nat} (hn:n≤xs.length):∃ u,qbd (.slice k (.c v) none (some (.c (I (n:Int)))) none)=some u∧qjr k u=some (xs.take n):=by
 cases h with
 | nil =>
  have:n=0:=by simpa using hn
  subst this
  exact⟨.nilS,by simp[qbd,exec,RX.ev,evO,qkc,qj2,chk,I,qhy],by simp[qjr,qk8]⟩
 | sl=>exact⟨.sl k (xs.take n) (false&&n==xs.length),by simp[qbd,exec,RX.ev,evO,qkc,qj2,chk,I,hn,qhy],by simp[qjr,qk8,chk]⟩
end
def Nd.few (n:Nd):Nd:=⟨n.kind,n.text.take 50,n.kids.take 60⟩
def fewT (t:List Nd):List Nd:=(t.take 60).map Nd.few
theorem fewT_fine (t:List Nd):Fine (fewT t) where
 len:=by simp[fewT];unfold big;omega
 nd n hn:=by
  obtain⟨m,_,rfl⟩:=List.mem_map.1 hn
  exact⟨by simp[Nd.few];unfold big;omega⟩
def RawN (x:PV) (n:Nd):Prop:=∃ u,x=.agg [I n.kind,.str n.text,u]∧IsR 1 u (qgk n.kids)∧okV u=true
inductive Qp4 {α:Type} (R:PV→α→Prop):List PV→List α→Prop
 | nil:Qp4 R [] []
 | cons {x:PV} {a:α} {xs:List PV} {l:List α} (h:R x a) (hs:Qp4 R xs l):Qp4 R (x :: xs) (a :: l)
theorem Qp4.length {α:Type} {R:PV→α→Prop} {xs:List PV} {l:List α} (h:Qp4 R xs l):xs.length=l.length:=by induction h<;>simp_all
theorem Qp4.get {α:Type} {R:PV→α→Prop} {xs:List PV} {l:List α} (h:Qp4 R xs l):∀ {i:Nat} (hi:i < xs.length) (hj:i < l.length),R xs[i] l[i]:=by
 induction h with
 | nil=>intro i hi;simp at hi
 | cons h _ ih =>
  intro i hi hj
  cases i with
  | zero=>exact h
  | succ i=>exact ih (by simpa using hi) (by simpa using hj)
def RawT (v:PV) (t:List Nd):Prop:=∃ xs,IsR 3 v xs∧Qp4 RawN xs t∧okV v=true
theorem cut_run (s:List UInt8):qb6 B0 .cl (.fn 50 []) [.str s]=some (.str (s.take 50)):=by
 refine call (d:=fun _=>.cl) rfl (by decide) rfl rfl ?_
 rw[List.map_cons,List.map_nil,run50,qze,qba]
 rw[show PV.int .i64 (s.length:Int)=I (s.length:Nat) from rfl,min_run 50 50 rfl,qba]
 rw[show I ((min s.length 50:Nat):Int)=.int .i64 ((min s.length 50:Nat):Int) from rfl,pure_ssl2 (by omega),qba]
 have:s.take (min s.length 50)=s.take 50:=by
  rcases Nat.le_total s.length 50 with h | h
  ·rw[Nat.min_eq_left h,List.take_length,List.take_of_length_le h]
  ·rw[Nat.min_eq_right h]
 rw[this]
theorem build_nd (k:Int) (s:List UInt8):qbd (.build [I 0,.str [],.nilS] [(0,(1,.c (I k))),(1,(1,.c (.str s)))])=some (.agg [I k,.str s,.nilS]):=by
 simp[qbd,exec,qkw,RX.ev,chk,splice,PV.isVal,I,PV.cells]
theorem appO_nil {k:Nat} {ys:List PV} (h:ys.length≤qdp):appO k .nilS ys=some ys:=by simp[appO,qbw,h]
theorem okU_tl (t:List Nd):okU (tl t)=true:=Qj9 t
theorem qly (k:Nat) (xs:List PV):slO k k xs 0 xs.length=.sl k xs false:=by simp[slO]
theorem Qsc {v:PV} {t:List Nd} (h:RawT v t):qb6 B0 .cl (.fn 26 []) [v]=some (tl (fewT t)):=by
 obtain⟨xs,hv,hx,hok⟩:=h
 refine call (d:=fun _=>.cl) rfl (by decide) (by simp[qb8,hok]) rfl ?_
 rw[List.map_cons,List.map_nil,run26]
 rw[show qbo [v,nI 0,.int .i64 0]=true by simp only[qbo,List.all_cons,hv.und];rfl,qbg]
 have hlen:=hx.length
 have hN:min t.length 60≤xs.length:=by omega
 refine qrh (fun i=>([v,I (i:Int),I (i:Int),.sl 3 (nds ((t.take i).map Nd.few)) false],())) (min t.length 60) rfl (fun i hi=>?_) ?_
 ·have hi1:i < xs.length:=by omega
  have hi2:i < t.length:=by omega
  obtain⟨u,hxi,hu,hku⟩:=hx.get hi1 hi2
  simp only[qc8,qc4,qc2,qde,hv.len,qba,qdk,qb1,qdi]
  rw[show decide ((i:Int) < (xs.length:Nat))=true by simpa using hi1,if_pos rfl,show decide ((i:Int) < 60)=true by simp;omega]
  simp only[qba,qb5,hv.idx (k:=3) (by decide) hi1,hxi,qpd,fa3_0,fa3_1,Qpj,qzz,Qn0,qss,cut_run,build_nd,hu.len,qcr]
  rw[show I 60=.int .i64 60 from rfl,min_run 60 60 rfl,qba]
  obtain⟨w,hw1,hw2⟩:=hu.hi (n:=min t[i].kids.length 60) (by simp;omega)
  rw[hw1,qba,hw2,qba]
  rw[show qcu (.agg [I t[i].kind,.str (t[i].text.take 50),.nilS]) 3=true from rfl,qbg,qhv,appO_nil (by simp[qdp];omega),qba]
  have hk:(qgk t[i].kids).take (min t[i].kids.length 60)=qgk (t[i].kids.take 60):=by
   unfold qgk
   rw[←List.map_take]
   rcases Nat.le_total t[i].kids.length 60 with h | h
   ·rw[Nat.min_eq_left h,List.take_length,List.take_of_length_le h]
   ·rw[Nat.min_eq_right h]
  rw[hk]
  have hnd:PV.agg [qbl (.agg [I t[i].kind,.str (t[i].text.take 50),.nilS]) 0,qbl (.agg [I t[i].kind,.str (t[i].text.take 50),.nilS]) 1,slO 1 1 (qgk (t[i].kids.take 60)) 0 (qbs (qgk (t[i].kids.take 60)))]=nd t[i].few:=by
   rw[qhx,qhw,qdq,qly];rfl
  rw[hnd]
  rw[show qdd 3 [nd t[i].few]=true from rfl,qbg]
  have h1:(nds ((t.take i).map Nd.few)).length=i:=by simp;omega
  simp only[qdq,List.length_singleton,qcy,qdn,List.drop_zero,List.take_succ_cons,List.take_zero,qdb,qgy,qb2,qby,h1,Nat.zero_add,Nat.le_refl,decide_true,qbg,qfa,Bool.true_and,qd9]
  rw[show decide (i+1≤2147483648)=true by simp;omega,qbg]
  simp only[qf3,qba,qgd]
  rw[qg1 (by omega)]
  have h2:(t.take (i+1)).map Nd.few=(t.take i).map Nd.few++[t[i].few]:=by
   rw[List.take_succ_eq_append_getElem hi2,List.map_append];rfl
  rw[h2]
  have h3:(nds ((t.take i).map Nd.few)).take i++[nd t[i].few]=nds ((t.take i).map Nd.few++[t[i].few]):=by
   rw[List.take_of_length_le (by omega)];simp[nds]
  rw[h3]
 ·simp only[qc8,qc4,qc2,qde,hv.len,qba,qdk,qb1,qdi]
  have hc:¬ (((min t.length 60:Nat):Int) < (xs.length:Nat)∧((min t.length 60:Nat):Int) < 60):=by omega
  have hfin:okU (slO 3 3 (nds ((t.take (min t.length 60)).map Nd.few)) 0 (qbi (I ((min t.length 60:Nat):Int))))=true∧slO 3 3 (nds ((t.take (min t.length 60)).map Nd.few)) 0 (qbi (I ((min t.length 60:Nat):Int)))=tl (fewT t):=by
   have e:t.take (min t.length 60)=t.take 60:=by
    rcases Nat.le_total t.length 60 with h | h
    ·rw[Nat.min_eq_left h,List.take_length,List.take_of_length_le h]
    ·rw[Nat.min_eq_right h]
   have:qbi (I ((min t.length 60:Nat):Int))=(nds ((t.take (min t.length 60)).map Nd.few)).length:=by rw[qb2];simp
   rw[this,qly,e]
   exact⟨Qj9 (fewT t),rfl⟩
  by_cases g:((min t.length 60:Nat):Int) < (xs.length:Nat)
  ·have g2:¬ ((min t.length 60:Nat):Int) < 60:=fun h=>hc ⟨g,h⟩
   simp only[g,decide_true,if_true,g2,decide_false,qba,qbv,qby,hfin.2,okU_tl,qbg]
  ·simp only[g,decide_false,Bool.false_eq_true,if_false,qba,qbv,qby,hfin.2,okU_tl,qbg]
end Go.Ab.Core


namespace Go.Ab.Core
open Go Go.Ab
abbrev Tx:=List UInt8
def qhg (l:List Tx):List PV:=l.map .str
abbrev Env:=List (Tx×List Int)
def qfh:Env→List PV
 | []=>[]
 | p :: l=>.str p.1 :: il p.2 :: qfh l
def Qf0 (a:Env) (k:Tx):Option (List Int):=(a.find? fun p=>p.1==k).map (·.2)
def qjt (a:Env) (k:Tx):List Int:=(Qf0 a k).getD []
def aset (k:Tx) (v:List Int):Env→Env
 | []=>[(k,v)]
 | p :: l=>if p.1=k then (k,v) :: l else p :: aset k v l
@[simp] theorem qgm (es:List PV):qc6 (.imap es)=es:=rfl
theorem qkp (l:List Tx):qb8 (qhg l)=true:=by
 induction l with
 | nil=>rfl
 | cons a l ih=>simpa[qhg,qb8,okV] using ih
theorem qnn:∀ (l:Env),qb8 (qfh l)=true
 | []=>rfl
 | p :: l=>by simp[qfh,qb8,okV,qnn l]
@[simp] theorem qmt (l:List Tx):(qhg l).length=l.length:=by simp[qhg]
theorem elem_strs {l:List Tx} {i:Nat} (h:i < l.length):qkz (qhg l) i 0 1 false=some (.str l[i]):=by simp[qkz,qhg,h]
theorem Qby (k:Tx):∀ a:Env,qr0 (.str k) (qfh a)=some ((Qf0 a k).map il)
 | []=>rfl
 | p :: l=>by
  simp only[qfh,qr0,Qhb,Qby k l,Qf0,List.find?]
  by_cases h:k=p.1
  ·subst h;simp
  ·have h1:(k==p.1)=false:=by simpa using h
   have h2:(p.1==k)=false:=by simpa using fun e:p.1=k=>h e.symm
   simp[h1,h2]
theorem Qqi (k:Tx) (v:List Int):∀ a:Env,Qnc (.str k) (il v) (qfh a)=some (qfh (aset k v a))
 | []=>rfl
 | p :: l=>by
  simp only[qfh,Qnc,Qhb,aset]
  by_cases h:k=p.1
  ·subst h;simp[qfh]
  ·have h1:(k==p.1)=false:=by simpa using h
   have h2:¬ p.1=k:=fun e=>h e.symm
   simp[h1,h2,Qqi k v l,qfh]
def lvOf (o:Option (List Int)):PV :=
 match o with
 | some l=>il l
 | none=>.nilS
theorem Qkm (a:Env) (k:Tx):Qny .str .nilS false (qfh a) (.str k)=some (lvOf (Qf0 a k)):=by
 simp only[Qny,Qby]
 cases Qf0 a k<;>rfl
theorem Qr0 (a:Env) (k:Tx) (v:List Int):insO .str (qfh a) (.str k) (il v)=some (qfh (aset k v a)):=by
 simp[insO,Qqi,qsx,qbw]
@[simp] theorem len_lv (o:Option (List Int)):qbd (.len .slice (.c (lvOf o)))=some (I ((o.getD []).length:Nat)):=by
 cases o with
 | none=>rfl
 | some l=>exact qhi l
structure S where
 texts:List Tx
 ahead:Env
 means:List Int
 ownX:List Tx
 nown:Nat
def S.pv (s:S):List PV:=[I s.texts.length,I s.means.length,I s.nown,.sl 1 (qhg s.texts) false,.imap (qfh s.ahead),il s.means,.sl 1 (qhg s.ownX) false]
theorem S.pv_ok (s:S):qb8 s.pv=true:=by simp[S.pv,qb8,okV,qkp,qnn]
def qns (a:Env) (k:Tx):Int:=(qjt a k).getLast?.getD (-1)
theorem Qrf (a:Env) (k:Tx) {x y z:PV} (hx:okV x=true) (hy:okV y=true) (hz:okV z=true) (hl:(qjt a k).length≤big):qh2 B0 .cl true 118 [.ptr [x,.imap (qfh a),y,z] 0,.str k]=some (I (qns a k)):=by
 refine qgj (qf1 fun _=>.cl) (fn:=fn118) rfl (by simp[qb8,okV,hx,hy,hz,qnn]) (Nat.le_of_ble_eq_true rfl) ?_ rfl
 rw[List.map_cons,List.map_cons,List.map_nil,run118]
 simp only[pure_nilck,qba,pure_faddr]
 rw[if_pos (by simp),qba]
 rw[show qbd (.load 1 false (.c (.ptr [x,.imap (qfh a),y,z] (0+1))))=some (.imap (qfh a)) from rfl,qba]
 have hlk:qbd (.lookup .str .nilS false (.c (.imap (qfh a))) (.c (.str k)))=some (lvOf (Qf0 a k)):=by
  simp only[qbd,exec,RX.ev,Qby]
  cases Qf0 a k<;>rfl
 rw[hlk]
 simp only[qba,len_lv,qdi,Qmw,qb1]
 have hb:=qhq
 unfold qns
 unfold qjt at hl ⊢
 cases hq:Qf0 a k with
 | none=>rfl
 | some l =>
  rw[hq] at hl
  simp only[Option.getD_some] at hl ⊢
  cases hn:l.length with
  | zero =>
   have:l=[]:=List.length_eq_zero_iff.1 hn
   subst this
   rfl
  | succ n =>
   rw[show (((n+1:Nat):Int)==0)=false by simp;omega]
   simp only[Bool.false_eq_true,if_false,Qjb,qba]
   rw[Qf2 (by omega) (by omega)]
   have hlt:n < l.length:=by omega
   rw[show n+1 - 1=n from rfl,show lvOf (some l)=il l from rfl,qr8 hlt,qba,qmx,qba]
   rw[List.getLast?_eq_getElem?,hn]
   simp[hlt]
def S.bind (n:Int) (name:Tx) (s:S):S :=
 {s with ahead:=aset name (qjt s.ahead name++[n]) s.ahead,ownX:=s.ownX.take s.nown++[name],nown:=s.nown+1}
structure S.Fine (m:Nat) (s:S):Prop where
 texts:s.texts.length≤m
 means:s.means.length≤m
 nown:s.nown≤m
 own:s.nown≤s.ownX.length
 ahead:∀ k,(qjt s.ahead k).length≤m
theorem Qvb (k k':Tx) (v:List Int):∀ a:Env,Qf0 (aset k v a) k'=if k=k' then some v else Qf0 a k'
 | []=>by
  by_cases h:k=k'
  ·simp[aset,Qf0,h]
  ·have:(k==k')=false:=by simpa using h
   simp[aset,Qf0,this,h]
 | p :: l=>by
  simp only[aset]
  by_cases hp:p.1=k
  ·subst hp
   rw[if_pos rfl]
   simp only[Qf0,List.find?]
   by_cases h:p.1=k'
   ·subst h;simp
   ·have:(p.1==k')=false:=by simpa using h
    simp[this,h]
  ·rw[if_neg hp]
   simp only[Qf0,List.find?]
   by_cases h:p.1=k'
   ·have h2:¬ k=k':=fun e=>hp (h.trans e.symm)
    simp[h,h2]
   ·have h1:(p.1==k')=false:=by simpa using h
    have:=Qvb k k' v l
    simp only[Qf0] at this
    simp[h1,this]
theorem qmj (k k':Tx) (v:List Int) (a:Env):qjt (aset k v a) k'=if k=k' then v else qjt a k':=by
 unfold qjt
 rw[Qvb]
 split<;>rfl
theorem full_slice (o:Option (List Int)):∃ u,qbd (.slice 1 (.c (lvOf o)) none (some (.c (I ((o.getD []).length:Nat)))) (some (.c (I ((o.getD []).length:Nat)))))=some u∧∀ n,(o.getD []).length < qdp→appO 1 u [I n]=some (qgk (o.getD []++[n])):=by
 cases o with
 | none=>exact⟨.nilS,by simp[qbd,exec,RX.ev,evO,qkc,qj2,chk,I,qhy,lvOf],fun n _=>by simp[appO,qbw,qgk,qdp]⟩
 | some l =>
  refine⟨.sl 1 (qgk l) true,?_,fun n hl=>?_⟩
  ·simp[qbd,exec,RX.ev,evO,qkc,qj2,chk,I,qhy,lvOf,il,qgk,List.take_of_length_le]
  ·simp only[Option.getD_some] at hl ⊢
   have:l.length+1≤qdp:=hl
   simp[appO,qbw,qgk,this]
theorem bind_run (s:S) (n:Nat) (name:Tx) {m:Nat} (hs:s.Fine m) (hm:m < big) (hn:n≤big) :
  ioO B0 sh83 83 [I n,I (1:Nat),I s.texts.length,I s.means.length,I s.nown,.sl 1 [.str name] false,.sl 1 (qhg s.texts) false,.imap (qfh s.ahead),il s.means,.sl 1 (qhg s.ownX) false] =
   some (match (s.bind n name).pv with | [a,b,c,d,e,f,g]=>[a,b,c,.sl 1 [.str name] false,d,e,f,g] | _=>[]):=by
 have hb:=qhq
 refine qfv (qf1 fun _=>.cl) (fn:=fn83) rfl (Pf:=shs83) rfl (xs:=[]) (obs:=[]) rfl rfl (by simp[qb8,okV,qkp,qnn]) ?_
 rw[show shs83 [] []=sh83 from rfl,run83]
 simp only[qb2,qgd,qby,qcg,qdi]
 rw[show qbo [I n,I (1:Nat),I (1:Nat),I 0]=true from rfl,qbg]
 rw[qc9 (s':=([I n,I (1:Nat),I (1:Nat),I ((0+1:Nat):Int),I s.texts.length,I s.means.length,I ((s.bind n name).nown:Nat),.sl 1 [.str name] false,.sl 1 (qhg s.texts) false,.imap (qfh (s.bind n name).ahead),il s.means,.sl 1 (qhg (s.bind n name).ownX) false],()))]
 ·rw[qc3 (r:=(match (s.bind n name).pv with | [a,b,c,d,e,f,g]=>[a,b,c,.sl 1 [.str name] false,d,e,f,g] | _=>[]))]
  simp only[qc8,qc4,qc2,qde,qfg,qgr,qh1,qjl,ql3,qmo,qlc,qtt,qdk,qba]
  rw[show decide (((0+1:Nat):Int) < ((1:Nat):Int))=false by decide,qbv]
  simp only[qb2,qgd,qby,qcg,qba,S.pv]
  rfl
 ·simp only[qc8,qc4,qc2,qde,qfg,qgr,qh1,qjl,ql3,qmo,qlc,qtt,qba]
  rw[show (I 0)=I ((0:Nat):Int) from rfl,qdk,qba,show decide (((0:Nat):Int) < ((1:Nat):Int))=true by decide,qb5]
  simp only[qtv,qba,qb2,qqm,qby,qdb,Nat.zero_add,show decide (0 < 1)=true from rfl,qbg]
  rw[show qkz [.str name] 0 0 1 false=some (.str name) from rfl,qba]
  simp only[qgm]
  rw[Qkm,qba,len_lv]
  obtain⟨u,hu1,hu2⟩:=full_slice (Qf0 s.ahead name)
  have hal:=hs.ahead name
  unfold qjt at hal
  simp only[qba,hu1,qf3]
  rw[w64 (by omega) (by omega)]
  rw[show ((n:Int)+((0:Nat):Int))=(n:Int) by omega]
  rw[show qdd 1 [I (n:Int)]=true from rfl,qbg]
  simp only[qdq,List.length_singleton,qgy,qcy,qdn,List.drop_zero,List.take_succ_cons,List.take_zero,Nat.le_refl,decide_true,qbg]
  rw[hu2 n (by unfold qdp;omega),qba,qly]
  rw[show PV.sl 1 (qgk ((Qf0 s.ahead name).getD []++[(n:Int)])) false=il ((Qf0 s.ahead name).getD []++[(n:Int)]) from rfl,Qr0,qba]
  rw[show qdd 1 [.str name]=true from rfl,qbg]
  simp only[qmt,qfa]
  have h1:=hs.nown
  have h2:=hs.own
  rw[show (decide (s.nown≤s.ownX.length)&&decide (s.nown+1≤2147483648))=true by simp;omega,qbg]
  rw[qg1 (by omega)]
  simp only[qgd,qcg,S.bind,qjt,qd9]
  have h3:(qhg s.ownX).take s.nown++[.str name]=qhg (s.ownX.take s.nown++[name]):=by simp[qhg,List.map_take]
  rw[h3]
  rfl
def popN (a:Env) (k:Tx):Env:=aset k (qjt a k).dropLast a
def S.leave (n:Nat) (s:S):S:={s with ahead:=((s.ownX.take s.nown).drop n).foldl popN s.ahead,nown:=n}
def Pops:Env→List Tx→Prop
 | _,[]=>True
 | a,k :: ks=>qjt a k≠[]∧Pops (popN a k) ks
theorem lo_slice {l:List Int} (hl:l≠[]):∃ n:Nat,l.length=n+1∧qbd (.slice 1 (.c (il l)) none (some (.c (I (n:Int)))) none)=some (il l.dropLast):=by
 obtain⟨n,hn⟩:∃ n,l.length=n+1:=⟨l.length - 1,by have:=List.length_pos_iff.2 hl;omega⟩
 refine⟨n,hn,?_⟩
 simp[qbd,exec,RX.ev,evO,qkc,qj2,chk,I,qhy,il,qgk,hn,List.dropLast_eq_take,List.map_take]
theorem pop_of {a:Env} {k:Tx} (h:qjt a k≠[]):Qf0 a k=some (qjt a k):=by
 unfold qjt at h ⊢
 cases hq:Qf0 a k with
 | none=>rw[hq] at h;exact absurd rfl h
 | some l=>rfl
theorem bound_none (d top:Nat):qlh none d top=some d:=rfl
theorem bound_I {n d top:Nat} (h:n≤top):qlh (some (I (n:Int))) d top=some n:=by simp[qlh,qkc,qj2,I,chk,h]
theorem leave_run (s:S) (n:Nat) {m:Nat} (hs:s.Fine m) (hm:m < big) (hn:n≤s.nown) (hp:Pops s.ahead ((s.ownX.take s.nown).drop n)):ioO B0 sh152 152 (I n :: s.pv)=some (s.leave n).pv:=by
 have hb:=qhq
 have h1:=hs.nown
 have h2:=hs.own
 refine qfv (qf1 fun _=>.cl) (fn:=fn152) rfl (Pf:=shs152) rfl (xs:=[]) (obs:=[]) rfl rfl (by simp[qb8,S.pv,okV,qkp,qnn]) ?_
 rw[show shs152 [] []=sh152 from rfl,S.pv,run152]
 simp only[qb2,qgd,qby,qcg,qdi,bound_none,qba,qgm]
 rw[bound_I (by omega:n≤s.nown),qba]
 have hfin:∀ a:Env,(qbb (qlh (some (I (n:Int))) s.nown s.nown) fun z=>some [I s.texts.length,I s.means.length,I (z:Nat),.sl 1 (qhg s.texts) false,.imap (qfh a),.sl 1 (qgk s.means) false,.sl 1 (qhg s.ownX) false])=some ({s with ahead:=a,nown:=n}:S).pv:=by
  intro a
  rw[bound_I hn];rfl
 by_cases hz:s.nown=n∧0 < n
 ·have e:((s.ownX.take s.nown).drop n)=[]:=List.drop_eq_nil_of_le (by simp;omega)
  simp only[eqN_eq,qqm,qfa]
  rw[show (decide (s.nown=n)&&decide (0 < n))=true by simp[hz.1.symm,hz.2]<;>omega,Qla,if_pos rfl,qg6,qba]
  rw[show qbo [I n,.sl 1 [] false,.int .i64 ((([]:List PV).length:Nat):Int),I 0]=true from rfl,qbg]
  rw[qc3 (r:=(s.leave n).pv)]
  simp only[qc8,qc4,qc2,qde,qfg,qgr,qh1,qjl,ql3,qmo,qlc,qb2,qby,qgm,qgd]
  rw[show qbd (.bin .lss .num false (.c (I 0)) (.c (.int .i64 ((([]:List PV).length:Nat):Int))))=some (.bool false) from rfl,qba,qbv,hfin,qba]
  unfold S.leave
  rw[e];rfl
 ·simp only[eqN_eq,qqm,qfa,subN_eq]
  rw[show (decide (s.nown=n)&&decide (0 < n))=false by
   rw[Bool.eq_false_iff];intro h;simp at h;exact hz h,Qla,if_neg (by simp)]
  rw[show qbo [I n,I (s.nown - n:Nat),I (s.nown - n:Nat),I 0]=true from rfl,qbg]
  have hlen:((s.ownX.take s.nown).drop n).length=s.nown - n:=by simp;omega
  refine (Qnt (fun i (a:Env)=>([I n,I (s.nown - n:Nat),I (s.nown - n:Nat),I (i:Nat),I s.texts.length,I s.means.length,I s.nown,.sl 1 (qhg s.texts) false,.imap (qfh a),.sl 1 (qgk s.means) false,.sl 1 (qhg s.ownX) false],())) (s.nown - n)
   (fun i a=>Pops a (((s.ownX.take s.nown).drop n).drop i)∧∀ k,(qjt a k).length≤m) (fun i a=>({s with ahead:=(((s.ownX.take s.nown).drop n).drop i).foldl popN a,nown:=n}:S).pv) (fun i a hi hp=>?_) (fun a _=>?_) (a0:=s.ahead) ⟨by simpa using hp,hs.ahead⟩)
  ·have hi':i < ((s.ownX.take s.nown).drop n).length:=by omega
   rw[List.drop_eq_getElem_cons hi'] at hp ⊢
   obtain⟨⟨hp1,hp2⟩,hp3⟩:=hp
   have hget:((s.ownX.take s.nown).drop n)[i]=s.ownX[n+i]'(by omega):=by simp
   simp only[qc8,qc4,qc2,qde,qfg,qgr,qh1,qjl,ql3,qmo,qlc,qb2,qby,qgm,qgd,qdk,qba]
   rw[show decide ((i:Int) < ((s.nown - n:Nat):Int))=true by simp;omega,qb5]
   simp only[qtv,qba,qqm,qdb,Nat.zero_add,hi,decide_true,qbg]
   rw[elem_strs (by omega:n+i < s.ownX.length),qba,←hget,Qkm,qba,pop_of hp1]
   obtain⟨q,hq1,hq2⟩:=lo_slice hp1
   have hq3:=hp3 (((s.ownX.take s.nown).drop n)[i])
   rw[show lvOf (some (qjt a ((s.ownX.take s.nown).drop n)[i]))=il (qjt a ((s.ownX.take s.nown).drop n)[i]) from rfl,qhi,qba,Qjb,qba,hq1,Qf2 (by omega) (by omega)]
   rw[show q+1 - 1=q from rfl,hq2,qba,Qr0,qba,qf3,qba,qg1 (by omega)]
   rw[show eqOff n n=true by simp[eqOff],qbg]
   refine⟨_,rfl,.inl ⟨popN a ((s.ownX.take s.nown).drop n)[i],rfl,⟨hp2,fun k=>?_⟩,rfl⟩⟩
   unfold popN
   rw[qmj]
   split
   ·have h4:((qjt a ((s.ownX.take s.nown).drop n)[i]).dropLast).length≤m:=by rw[List.length_dropLast];omega
    simpa using h4
   ·exact hp3 k
  ·simp only[qc8,qc4,qc2,qde,qfg,qgr,qh1,qjl,ql3,qmo,qlc,qb2,qby,qgm,qgd,qdk,qba]
   rw[show decide (((s.nown - n:Nat):Int) < ((s.nown - n:Nat):Int))=false by simp,qbv,hfin,qba]
   rw[List.drop_eq_nil_of_le (by omega)]
   rfl
end Go.Ab.Core


namespace Go.Ab.Core
open Go Go.Ab
structure St where
 line:Int
 t:List Nd
 e:Int
def sv (s:St):PV:=.agg [I s.line,.nilS,tl s.t,I s.e]
def svs (l:List St):List PV:=l.map sv
def sl4 (l:List St):PV:=.sl 4 (svs l) false
def RawS (x:PV) (s:St):Prop:=∃ u w,x=.agg [I s.line,u,w,I s.e]∧u.isCell=true∧RawT w s.t
theorem RawT.cells {v:PV} {t:List Nd} (h:RawT v t):v.cells=[v]:=by
 obtain⟨xs,h,_⟩:=h
 exact h.cells
def St.few (s:St):St:=⟨s.line,fewT s.t,s.e⟩
def Qcx (l:List St):List St:=(l.take 12).map St.few
theorem okV_sv (s:St):okV (sv s)=true:=by simp[sv,okV,qb8]
theorem okVL_svs (l:List St):qb8 (svs l)=true:=by
 induction l with
 | nil=>rfl
 | cons a l ih=>simp only[svs,List.map_cons,qb8,okV_sv,Bool.true_and];exact ih
@[simp] theorem okV_sl4 (l:List St):okV (sl4 l)=true:=by simp[sl4,okV,okVL_svs]
@[simp] theorem qyv (l:List St):(svs l).length=l.length:=by simp[svs]
@[simp] theorem qrp (l:List St):qbc (sl4 l)=svs l:=rfl
@[simp] theorem isUndef_sl4 (l:List St):qhl (sl4 l)=false:=rfl
@[simp] theorem len_sl4 (l:List St):qbd (.len .slice (.c (sl4 l)))=some (I (l.length:Nat)):=by unfold sl4;rw[qg6,qyv];rfl
@[simp] theorem fa4_0 (a b c d:PV):qbd (.fieldAddr 0 (.c (.ptr [a,b,c,d] 0)))=some (.ptr [a,b,c,d] 0):=rfl
@[simp] theorem fa4_2 (a b c d:PV):qbd (.fieldAddr 2 (.c (.ptr [a,b,c,d] 0)))=some (.ptr [a,b,c,d] 2):=rfl
@[simp] theorem fa4_3 (a b c d:PV):qbd (.fieldAddr 3 (.c (.ptr [a,b,c,d] 0)))=some (.ptr [a,b,c,d] 3):=rfl
@[simp] theorem load4_0 (a b c d:PV):qbd (.load 1 false (.c (.ptr [a,b,c,d] 0)))=some a:=rfl
@[simp] theorem Qnz (a b c d:PV):qbd (.load 1 false (.c (.ptr [a,b,c,d] 2)))=some c:=rfl
@[simp] theorem load4_3 (a b c d:PV):qbd (.load 1 false (.c (.ptr [a,b,c,d] 3)))=some d:=rfl
theorem idx_sl4 {l:List St} {i:Nat} (h:i < l.length):qbd (.idxAddr 4 (.c (sl4 l)) (.c (I (i:Int))))=some (.ptr [I l[i].line,.nilS,tl l[i].t,I l[i].e] 0) :=
 qhm (by omega) (show (svs l)[i]?=some (sv l[i]) by simp[svs,h])
theorem few_run {v:PV} {xs:List PV} {l:List St} (hv:IsR 4 v xs) (hx:Qp4 RawS xs l) (hok:okV v=true):qb6 B0 (.opt 4) (.fn 9 []) [v]=some (sl4 (Qcx l)):=by
 refine call (d:=fun _=>.cl) rfl (by decide) (by simp[qb8,hok]) rfl ?_
 rw[List.map_cons,List.map_nil,run9]
 rw[show qbo [v,nI 0,.int .i64 0]=true by simp only[qbo,List.all_cons,hv.und];rfl,qbg]
 have hlen:=hx.length
 have hN:min l.length 12≤xs.length:=by omega
 refine qrh (fun i=>([v,I (i:Int),I (i:Int),sl4 ((l.take i).map St.few)],())) (min l.length 12) rfl (fun i hi=>?_) ?_
 ·have hi1:i < xs.length:=by omega
  have hi2:i < l.length:=by omega
  obtain⟨u,w,hxi,hu,hw⟩:=hx.get hi1 hi2
  simp only[qc8,qc4,qc2,qde,hv.len,qba,qdk,qb1,qdi]
  rw[show decide ((i:Int) < (xs.length:Nat))=true by simpa using hi1,if_pos rfl,show decide ((i:Int) < 12)=true by simp;omega]
  simp only[qba,qb5,hv.idx (k:=4) (by decide) hi1,hxi,qpd,fa4_0,fa4_2,fa4_3,load4_0,Qnz,load4_3,Qsc hw]
  rw[show qbd (.build [I 0,.nilS,.nilS,I 0] [(0,(1,.c (I l[i].line))),(2,(1,.c (tl (fewT l[i].t)))),(3,(1,.c (I l[i].e)))])=some (sv l[i].few) from rfl,qba]
  rw[show qdd 4 [sv l[i].few]=true from rfl,qbg]
  have h1:(svs ((l.take i).map St.few)).length=i:=by simp;omega
  simp only[qdq,List.length_singleton,qcy,qdn,List.drop_zero,List.take_succ_cons,List.take_zero,qdb,qgy,qb2,qrp,h1,Nat.zero_add,Nat.le_refl,decide_true,qbg,qfa,Bool.true_and,qd9]
  rw[show decide (i+1≤2147483648)=true by simp;omega,qbg]
  simp only[qf3,qba,qgd]
  rw[qg1 (by omega)]
  have h2:(l.take (i+1)).map St.few=(l.take i).map St.few++[l[i].few]:=by
   rw[List.take_succ_eq_append_getElem hi2,List.map_append];rfl
  rw[h2]
  have h3:(svs ((l.take i).map St.few)).take i++[sv l[i].few]=svs ((l.take i).map St.few++[l[i].few]):=by
   rw[List.take_of_length_le (by omega)];simp[svs]
  rw[h3]
  rfl
 ·simp only[qc8,qc4,qc2,qde,hv.len,qba,qdk,qb1,qdi]
  have hc:¬ (((min l.length 12:Nat):Int) < (xs.length:Nat)∧((min l.length 12:Nat):Int) < 12):=by omega
  have e:l.take (min l.length 12)=l.take 12:=by
   rcases Nat.le_total l.length 12 with h | h
   ·rw[Nat.min_eq_left h,List.take_length,List.take_of_length_le h]
   ·rw[Nat.min_eq_right h]
  have hfin:eqN (qbi (I ((min l.length 12:Nat):Int))) (qbs (qbc (sl4 ((l.take (min l.length 12)).map St.few))))=true∧PV.sl 4 (qbc (sl4 ((l.take (min l.length 12)).map St.few))) false=sl4 (Qcx l):=by
   rw[e]
   exact⟨by simp[Nat.min_comm],rfl⟩
  by_cases g:((min l.length 12:Nat):Int) < (xs.length:Nat)
  ·have g2:¬ ((min l.length 12:Nat):Int) < 12:=fun h=>hc ⟨g,h⟩
   simp only[g,decide_true,if_true,g2,decide_false,qba,qbv,hfin.1,hfin.2,qbg]
  ·simp only[g,decide_false,Bool.false_eq_true,if_false,qba,qbv,hfin.1,hfin.2,qbg]
end Go.Ab.Core


namespace Go.Ab.Core
open Go Go.Ab
inductive Tr where
 | mk (kind:Int) (text:Tx) (kids:List Tr)
def Tr.kind:Tr→Int
 | .mk k _ _=>k
def Tr.text:Tr→Tx
 | .mk _ x _=>x
def Tr.kids:Tr→List Tr
 | .mk _ _ ks=>ks
mutual
def Tr.size:Tr→Nat
 | .mk _ _ ks=>qcc ks+1
def qcc:List Tr→Nat
 | []=>0
 | t :: ts=>t.size+qcc ts
end
mutual
def Qjc (t:List Nd):Tr→Nat→Prop
 | .mk k x ks,i=>∃ l,t[i]?=some ⟨k,x,l⟩∧qvs t ks l
def qvs (t:List Nd):List Tr→List Int→Prop
 | [],l=>l=[]
 | a :: ks,l=>∃ (k:Nat) (l':List Int),l=(k:Int) :: l'∧Qjc t a k∧qvs t ks l'
end
mutual
def Tr.Ok:Tr→Prop
 | .mk k x ks=>qfm ⟨k,x,List.replicate ks.length 0⟩=true∧OkL ks
def OkL:List Tr→Prop
 | []=>True
 | t :: ts=>t.Ok∧OkL ts
end
theorem Qlo {k:Int} {x:Tx} {l l':List Int} (h:l.length=l'.length):qfm ⟨k,x,l⟩=qfm ⟨k,x,l'⟩:=by
 unfold qfm
 simp only[h]
def W:List Tr→List Int→Int
 | [],_=>0
 | _,[]=>0
 | a :: ts,u :: us=>(1 - u)*a.size+W ts us
theorem W_set:∀ (ts:List Tr) (us:List Int) (k:Nat) (h:k < ts.length),ts.length≤us.length→W ts (us.set k (us.getD k 0+1))=W ts us - ts[k].size
 | [],_,k,h,_=>by simp at h
 | a :: ts,[],k,_,h=>by simp at h
 | a :: ts,u :: us,0,_,_=>by
  simp only[List.set_cons_zero,List.getD_cons_zero,W,List.getElem_cons_zero]
  have:(1 - (u+1))*(a.size:Int)=(1 - u)*a.size - a.size:=by
   rw[show (1 - (u+1))=(1 - u) - 1 by omega,Int.sub_mul,Int.one_mul]
  omega
 | a :: ts,u :: us,k+1,h,h2=>by
  simp only[List.set_cons_succ,List.getD_cons_succ,W,List.getElem_cons_succ]
  have:=W_set ts us k (by simpa using h) (by simpa using h2)
  omega
theorem W_snoc (b:Tr):∀ (ts:List Tr) (us:List Int),ts.length < us.length→W (ts++[b]) us=W ts us+(1 - us.getD ts.length 0)*b.size
 | [],[],h=>by simp at h
 | [],u :: us,_=>by
  simp[W]
 | a :: ts,[],h=>by simp at h
 | a :: ts,u :: us,h=>by
  have:=W_snoc b ts us (by simpa using h)
  simp only[List.cons_append,W,this,List.length_cons,List.getD_cons_succ]
  omega
def pick (ts:List Tr) (k:Int):Tr:=ts.getD k.toNat (.mk 0 [] [])
theorem W_bump (ts:List Tr):∀ (ks:List Int) (us:List Int),(∀ k∈ks,0≤k∧k < ts.length)→ts.length≤us.length→W ts (bump us ks)=W ts us - qcc (ks.map (pick ts))
 | [],us,_,_=>by simp[bump,qcc]
 | k :: ks,us,h,hl=>by
  have hk:=h k (by simp)
  have hk':k.toNat < ts.length:=by omega
  show W ts (bump (us.set k.toNat (us.getD k.toNat 0+1)) ks)=_
  rw[W_bump ts ks _ (fun j hj=>h j (by simp[hj])) (by simpa using hl),W_set ts us k.toNat hk' hl]
  simp only[List.map_cons,qcc,pick,List.getD_eq_getElem?_getD,List.getElem?_eq_getElem hk',Option.getD_some]
  simp only[Int.natCast_add]
  omega
theorem qym (i:Nat):∀ (ks:List Int) (us:List Int),(∀ k∈ks,0≤k∧k < i)→∀ j,i≤j→(bump us ks).getD j 0=us.getD j 0
 | [],_,_,_,_=>rfl
 | k :: ks,us,h,j,hj=>by
  have hk:=h k (by simp)
  show (bump (us.set k.toNat (us.getD k.toNat 0+1)) ks).getD j 0=_
  rw[qym i ks _ (fun j hj=>h j (by simp[hj])) j hj]
  simp only[List.getD_eq_getElem?_getD]
  rw[List.getElem?_set_ne (by omega)]
theorem Qg9 {i:Int}:∀ {last:Int} {ks:List Int},qt1 i last ks=true → -1≤last→∀ k∈ks,0≤k∧k < i
 | _,[],_,_,k,hk=>by simp at hk
 | last,a :: ks,h,hl,k,hk=>by
  simp only[qt1,Bool.and_eq_true,decide_eq_true_eq] at h
  rcases List.mem_cons.1 hk with rfl | hk
  ·omega
  ·exact Qg9 h.2 (by omega) k hk
theorem Qfb {t:List Nd} {ts:List Tr} (h:∀ j (hj:j < ts.length),Qjc t ts[j] j):∀ ks:List Int,(∀ k∈ks,0≤k∧k < ts.length)→qvs t (ks.map (pick ts)) ks
 | [],_=>rfl
 | k :: ks,hk=>by
  have h1:=hk k (by simp)
  have h2:k.toNat < ts.length:=by omega
  refine⟨k.toNat,ks,by rw[Int.toNat_of_nonneg h1.1],?_,Qfb h ks fun j hj=>hk j (by simp[hj])⟩
  simp only[pick,List.getD_eq_getElem?_getD,List.getElem?_eq_getElem h2,Option.getD_some]
  exact h _ h2
theorem Qq2 {ts:List Tr} (h:∀ j (hj:j < ts.length),ts[j].Ok):∀ ks:List Int,(∀ k∈ks,0≤k∧k < ts.length)→OkL (ks.map (pick ts))
 | [],_=>trivial
 | k :: ks,hk=>by
  have h1:=hk k (by simp)
  have h2:k.toNat < ts.length:=by omega
  refine⟨?_,Qq2 h ks fun j hj=>hk j (by simp[hj])⟩
  simp only[pick,List.getD_eq_getElem?_getD,List.getElem?_eq_getElem h2,Option.getD_some]
  exact h _ h2
theorem Qqc {t:List Nd}:∀ (ns:List Nd) (i:Nat) (us us':List Int) (ts:List Tr),t.drop i=ns→us.length=t.length→ts.length=i→(∀ j (hj:j < ts.length),Qjc t ts[j] j)→(∀ j (hj:j < ts.length),ts[j].Ok)→(∀ j,i≤j→us.getD j 0=0)→W ts us=i→qdv i us ns=some us' →
  ∃ ts':List Tr,ts'.length=t.length∧us'.length=t.length∧(∀ j (hj:j < ts'.length),Qjc t ts'[j] j)∧(∀ j (hj:j < ts'.length),ts'[j].Ok)∧W ts' us'=t.length
 | [],i,us,us',ts,hd,hu,hl,h1,h2,_,hW,hr=>by
  simp only[qdv,Option.some.injEq] at hr
  subst hr
  have:t.length≤i:=List.drop_eq_nil_iff.1 hd
  have hi:i=t.length∨t.length < i:=by omega
  rcases hi with rfl | hi
  ·exact⟨ts,hl,hu,h1,h2,hW⟩
  ·exfalso
   have:=h1 t.length (by omega)
   cases hq:ts[t.length] with
   | mk k x ks =>
    rw[hq] at this
    obtain⟨l,hl,_⟩:=this
    simp at hl
 | n :: ns,i,us,us',ts,hd,hu,hl,h1,h2,h0,hW,hr=>by
  have hi:i < t.length:=by
   rcases Nat.lt_or_ge i t.length with h | h
   ·exact h
   ·rw[List.drop_eq_nil_of_le h] at hd;cases hd
  rw[List.drop_eq_getElem_cons hi] at hd
  injection hd with hn hd
  simp only[qdv] at hr
  by_cases hc:(qt1 i (-1) n.kids&&qfm n)=true
  ·rw[if_pos hc] at hr
   simp only[Bool.and_eq_true] at hc
   have hk:=Qg9 hc.1 (by omega)
   have hk':∀ k∈n.kids,0≤k∧k < ts.length:=by rw[hl];exact hk
   have hb0:(bump us n.kids).getD i 0=0:=by rw[qym i _ _ hk i (Nat.le_refl _)];exact h0 i (Nat.le_refl _)
   refine Qqc ns (i+1) (bump us n.kids) us' (ts++[.mk n.kind n.text (n.kids.map (pick ts))]) hd (by rw[qvq,hu]) (by simp[hl]) ?_ ?_ ?_ ?_ hr
   ·intro j hj
    rcases Nat.lt_or_ge j ts.length with h | h
    ·rw[List.getElem_append_left h];exact h1 j h
    ·have:j=i:=by simp at hj;omega
     subst this
     rw[List.getElem_append_right h]
     simp only[hl,Nat.sub_self,List.getElem_cons_zero]
     exact⟨n.kids,by rw[List.getElem?_eq_getElem hi,hn],Qfb h1 _ hk'⟩
   ·intro j hj
    rcases Nat.lt_or_ge j ts.length with h | h
    ·rw[List.getElem_append_left h];exact h2 j h
    ·have:j=i:=by simp at hj;omega
     subst this
     rw[List.getElem_append_right h]
     simp only[hl,Nat.sub_self,List.getElem_cons_zero]
     refine⟨?_,Qq2 h2 _ hk'⟩
     rw[Qlo (l':=n.kids) (by simp)]
     exact hc.2
   ·intro j hj
    rw[qym i _ _ hk j (by omega)]
    exact h0 j (by omega)
   ·rw[W_snoc _ _ _ (by rw[qvq];omega),hl,hb0,W_bump ts _ _ hk' (by omega),hW]
    simp only[Tr.size]
    omega
  ·rw[if_neg hc] at hr
   cases hr
theorem W_ones:∀ (ts:List Tr) (us:List Int),ts.length=us.length→(∀ u∈us,u=1)→W ts us=0
 | [],_,_,_=>rfl
 | a :: ts,[],h,_=>by simp at h
 | a :: ts,u :: us,h,h1=>by
  have hu:=h1 u (by simp)
  subst hu
  simp only[W,W_ones ts us (by simpa using h) fun u hu=>h1 u (by simp[hu])]
  omega
theorem Qdg {t:List Nd} (h:qdj t=true):∃ a:Tr,Qjc t a (t.length - 1)∧a.Ok∧a.size=t.length∧1≤t.length∧t.length≤400:=by
 unfold qdj at h
 cases hg:qdv 0 (List.replicate t.length 0) t with
 | none=>rw[hg] at h;simp at h
 | some us =>
  rw[hg] at h
  simp only[Bool.and_eq_true,decide_eq_true_eq] at h
  obtain⟨⟨hl1,hl2⟩,h3⟩:=h
  obtain⟨ts,q1,q2,q3,q4,q5⟩:=Qqc t 0 (List.replicate t.length 0) us [] rfl (by simp) rfl (fun j hj=>by simp at hj) (fun j hj=>by simp at hj) (fun j _=>by simp[List.getD_eq_getElem?_getD,List.getElem?_replicate];split<;>rfl) rfl hg
  have hlt:t.length - 1 < ts.length:=by omega
  refine⟨ts[t.length - 1],q3 _ hlt,q4 _ hlt,?_,hl1,hl2⟩
  have hW:=W_set ts us (t.length - 1) hlt (by omega)
  have e:us.set (t.length - 1) (us.getD (t.length - 1) 0+1)=qnr us:=by unfold qnr;rw[q2]
  rw[e,W_ones ts (qnr us) (by unfold qnr;simp;omega) (fun u hu=>by
   have:=List.all_eq_true.1 h3 u hu
   simpa using this),q5] at hW
  omega
end Go.Ab.Core


namespace Go.Ab.Core
open Go Go.Ab
mutual
def qgh:Tr→S→S
 | .mk k x ks,s =>
  if k=11 then (qxz ks s).leave s.nown
  else if k=8 then qtu ks {s with means:=s.means++[(s.texts.length:Int)],texts:=s.texts++[x]}
  else if k=3∨k=14 then qtu ks {s with means:=s.means++[qns s.ahead x]}
  else qtu ks s
def qtu:List Tr→S→S
 | [],s=>s
 | a :: ks,s=>qtu ks (qgh a s)
def qxz:List Tr→S→S
 | [],s=>s
 | a :: ks,s=>qxz ks (if a.kind=8 then (qgh a s).bind s.texts.length a.text else qgh a s)
end
def qtd (a:Tr) (s:S):S:=if a.kind=8 then (qgh a s).bind s.texts.length a.text else qgh a s
structure S.Good (m:Nat) (s:S):Prop where
 fine:s.Fine m
 cnt:∀ k,(s.ownX.take s.nown).count k≤(qjt s.ahead k).length
theorem S.Fine.mono {m m':Nat} {s:S} (h:s.Fine m) (hm:m≤m'):s.Fine m':=⟨Nat.le_trans h.texts hm,Nat.le_trans h.means hm,Nat.le_trans h.nown hm,h.own,fun k=>Nat.le_trans (h.ahead k) hm⟩
theorem S.Good.mono {m m':Nat} {s:S} (h:s.Good m) (hm:m≤m'):s.Good m':=⟨h.fine.mono hm,h.cnt⟩
theorem S.Good.mean {m:Nat} {s:S} (h:s.Good m) (n:Int):({s with means:=s.means++[n]}:S).Good (m+1) where
 fine:=⟨Nat.le_succ_of_le h.fine.texts,by simpa using h.fine.means,Nat.le_succ_of_le h.fine.nown,h.fine.own,fun k=>Nat.le_succ_of_le (h.fine.ahead k)⟩
 cnt:=h.cnt
theorem S.Good.set {m:Nat} {s:S} (h:s.Good m) (n:Int) (x:Tx):({s with means:=s.means++[n],texts:=s.texts++[x]}:S).Good (m+1) where
 fine:=⟨by simpa using h.fine.texts,by simpa using h.fine.means,Nat.le_succ_of_le h.fine.nown,h.fine.own,fun k=>Nat.le_succ_of_le (h.fine.ahead k)⟩
 cnt:=h.cnt
theorem bind_own {s:S} (h:s.nown≤s.ownX.length) (n:Int) (x:Tx):(s.bind n x).ownX.take (s.bind n x).nown=s.ownX.take s.nown++[x]:=by
 unfold S.bind
 exact List.take_of_length_le (by simp;omega)
theorem S.Good.bind {m:Nat} {s:S} (h:s.Good m) (n:Int) (x:Tx):(s.bind n x).Good (m+1) where
 fine:=by
  refine⟨Nat.le_succ_of_le h.fine.texts,Nat.le_succ_of_le h.fine.means,by have:=h.fine.nown;simp only[S.bind];omega,by have:=h.fine.own;simp only[S.bind];simp;omega,fun k=>?_⟩
  simp only[S.bind,qmj]
  have:=h.fine.ahead k
  split
  ·rename_i e;subst e;simp;omega
  ·omega
 cnt k:=by
  rw[bind_own h.fine.own,List.count_append]
  have:=h.cnt k
  simp only[S.bind,qmj]
  by_cases e:x=k
  ·subst e
   simp only[if_true,List.length_append,List.length_singleton,List.count_cons_self,List.count_nil]
   omega
  ·rw[if_neg e,List.count_cons_of_ne (by simpa using e),List.count_nil]
   omega
theorem Qgh:∀ (ks:List Tx) (a:Env) (k:Tx),(qjt (ks.foldl popN a) k).length=(qjt a k).length - ks.count k
 | [],a,k=>by simp
 | x :: ks,a,k=>by
  rw[List.foldl_cons,Qgh ks]
  unfold popN
  rw[qmj]
  by_cases e:x=k
  ·subst e
   rw[if_pos rfl,List.length_dropLast,List.count_cons_self]
   omega
  ·rw[if_neg e,List.count_cons_of_ne (by simpa using e)]
theorem pops_of:∀ (ks:List Tx) (a:Env),(∀ k,ks.count k≤(qjt a k).length)→Pops a ks
 | [],_,_=>trivial
 | x :: ks,a,h=>by
  refine⟨?_,pops_of ks _ fun k=>?_⟩
  ·have:=h x
   rw[List.count_cons_self] at this
   intro e
   rw[e] at this
   simp at this
  ·have:=h k
   unfold popN
   rw[qmj]
   by_cases e:x=k
   ·subst e
    rw[if_pos rfl,List.length_dropLast]
    rw[List.count_cons_self] at this
    omega
   ·rw[if_neg e]
    rw[List.count_cons_of_ne (by simpa using e)] at this
    exact this
theorem own_cut {s:S} (n:Nat) (h:n≤s.nown) (k:Tx):(s.ownX.take s.nown).count k=(s.ownX.take n).count k+((s.ownX.take s.nown).drop n).count k:=by
 have e:s.ownX.take n=(s.ownX.take s.nown).take n:=by rw[List.take_take,Nat.min_eq_left h]
 rw[e,←List.count_append,List.take_append_drop]
theorem S.Good.pops {m:Nat} {s:S} (h:s.Good m) {n:Nat} (hn:n≤s.nown):Pops s.ahead ((s.ownX.take s.nown).drop n) :=
 pops_of _ _ fun k=>by
  have:=h.cnt k
  have:=own_cut n hn k
  omega
theorem S.Good.leave {m:Nat} {s:S} (h:s.Good m) {n:Nat} (hn:n≤s.nown):(s.leave n).Good m where
 fine:=by
  refine⟨h.fine.texts,h.fine.means,Nat.le_trans hn h.fine.nown,Nat.le_trans hn h.fine.own,fun k=>?_⟩
  have:=h.fine.ahead k
  simp only[S.leave,Qgh]
  omega
 cnt k:=by
  have:=h.cnt k
  have:=own_cut n hn k
  simp only[S.leave,Qgh]
  omega
mutual
theorem qrd:∀ (a:Tr) {s:S} {m:Nat},s.Good m→(qgh a s).Good (m+3*a.size - 1)∧(qgh a s).nown=s.nown
 | .mk k x ks,s,m,h=>by
  simp only[qgh,Tr.size]
  split
  ·obtain⟨h1,h2⟩:=qq5 ks h
   exact⟨(h1.leave h2).mono (by omega),rfl⟩
  ·split
   ·obtain⟨h1,h2⟩:=qre ks (h.set s.texts.length x)
    exact⟨h1.mono (by omega),h2⟩
   ·split
    ·obtain⟨h1,h2⟩:=qre ks (h.mean (qns s.ahead x))
     exact⟨h1.mono (by omega),h2⟩
    ·obtain⟨h1,h2⟩:=qre ks h
     exact⟨h1.mono (by omega),h2⟩
theorem qre:∀ (ks:List Tr) {s:S} {m:Nat},s.Good m→(qtu ks s).Good (m+3*qcc ks)∧(qtu ks s).nown=s.nown
 | [],_,_,h=>⟨h,rfl⟩
 | a :: ks,s,m,h=>by
  obtain⟨h1,h2⟩:=qrd a h
  obtain⟨h3,h4⟩:=qre ks h1
  simp only[qtu,qcc]
  exact⟨h3.mono (by omega),h4.trans h2⟩
theorem qq5:∀ (ks:List Tr) {s:S} {m:Nat},s.Good m→(qxz ks s).Good (m+3*qcc ks)∧s.nown≤(qxz ks s).nown
 | [],_,_,h=>⟨h,Nat.le_refl _⟩
 | a :: ks,s,m,h=>by
  obtain⟨h1,h2⟩:=qrd a h
  have hz:1≤a.size:=by cases a;simp only[Tr.size];omega
  simp only[qxz,qcc]
  split
  ·obtain⟨h3,h4⟩:=qq5 ks (h1.bind s.texts.length a.text)
   refine⟨h3.mono (by omega),?_⟩
   have e:((qgh a s).bind s.texts.length a.text).nown=(qgh a s).nown+1:=rfl
   omega
  ·obtain⟨h3,h4⟩:=qq5 ks h1
   exact⟨h3.mono (by omega),by omega⟩
end
theorem qke (a:Tr):1≤a.size:=by cases a;simp only[Tr.size];omega
theorem Qc6 (a:Tr) {s:S} {m:Nat} (h:s.Good m):(qtd a s).Good (m+3*a.size)∧s.nown≤(qtd a s).nown:=by
 have:=qq5 [a] h
 simp only[qcc,Nat.add_zero] at this
 exact this
noncomputable def qwe:List PV×Unit→Option (Sum (List PV×Unit) (List PV)):=(fun z7=>qbb (qbd (.bin .lss .num false (.c (nth z7.1 3)) (.c (nth z7.1 2)))) (fun z8=>qdu z8 (qbb (qbd (.idxAddr 1 (.c (nth z7.1 1)) (.c (nth z7.1 3)))) (fun z9=>qbb (qbd (.load 1 false (.c z9))) (fun z10=>qbb (ioO B0 Qna 82 [nth z7.1 0,z10,nI (qbi (nth z7.1 4)),nI (qbi (nth z7.1 5)),nI (qbi (nth z7.1 6)),.sl 1 (qbc (nth z7.1 7)) false,.imap (qc6 (nth z7.1 8)),.sl 1 (qbc (nth z7.1 9)) false,.sl 1 (qbc (nth z7.1 10)) false]) (fun z11=>qbb (qbd (.bin .add .num true (.c (nth z7.1 3)) (.c (.int .i64 1)))) (fun z12=>some (.inl ([nth z7.1 0,nth z7.1 1,nth z7.1 2,z12,nI (qbi (nth z11 0)),nI (qbi (nth z11 1)),nI (qbi (nth z11 2)),.sl 1 (qbc (nth z11 3)) false,.imap (qc6 (nth z11 4)),.sl 1 (qbc (nth z11 5)) false,.sl 1 (qbc (nth z11 6)) false],z7.2))))))) (qbb (some [nI (qbi (nth z7.1 4)),nI (qbi (nth z7.1 5)),nI (qbi (nth z7.1 6)),.sl 1 (qbc (nth z7.1 7)) false,.imap (qc6 (nth z7.1 8)),.sl 1 (qbc (nth z7.1 9)) false,.sl 1 (qbc (nth z7.1 10)) false]) (fun z13=>some (.inr z13)))))
noncomputable def qpq:List PV×Unit→Option (Sum (List PV×Unit) (List PV)):=(fun z5=>qbb (qbd (.bin .lss .num false (.c (nth z5.1 3)) (.c (nth z5.1 2)))) (fun z6=>qdu z6 (qbb (qbd (.idxAddr 1 (.c (nth z5.1 1)) (.c (nth z5.1 3)))) (fun z7=>qbb (qbd (.load 1 false (.c z7))) (fun z8=>qbb (ioO B0 sh54 54 [nth z5.1 0,z8,nI (qbi (nth z5.1 4)),nI (qbi (nth z5.1 5)),nI (qbi (nth z5.1 6)),.sl 1 (qbc (nth z5.1 7)) false,.imap (qc6 (nth z5.1 8)),.sl 1 (qbc (nth z5.1 9)) false,.sl 1 (qbc (nth z5.1 10)) false]) (fun z9=>qbb (qbd (.bin .add .num true (.c (nth z5.1 3)) (.c (.int .i64 1)))) (fun z10=>some (.inl ([nth z5.1 0,nth z5.1 1,nth z5.1 2,z10,nI (qbi (nth z9 0)),nI (qbi (nth z9 1)),nI (qbi (nth z9 2)),.sl 1 (qbc (nth z9 3)) false,.imap (qc6 (nth z9 4)),.sl 1 (qbc (nth z9 5)) false,.sl 1 (qbc (nth z9 6)) false,nth z5.1 11],z5.2))))))) (qbb (qbb (ioO B0 sh152 152 [nth z5.1 11,nI (qbi (nth z5.1 4)),nI (qbi (nth z5.1 5)),nI (qbi (nth z5.1 6)),.sl 1 (qbc (nth z5.1 7)) false,.imap (qc6 (nth z5.1 8)),.sl 1 (qbc (nth z5.1 9)) false,.sl 1 (qbc (nth z5.1 10)) false]) (fun z11=>some [nI (qbi (nth z11 0)),nI (qbi (nth z11 1)),nI (qbi (nth z11 2)),.sl 1 (qbc (nth z11 3)) false,.imap (qc6 (nth z11 4)),.sl 1 (qbc (nth z11 5)) false,.sl 1 (qbc (nth z11 6)) false])) (fun z12=>some (.inr z12)))))
theorem qgl (l:List Int):PV.sl 1 (qgk l) false=il l:=rfl
theorem S.pv_def (s:S):s.pv=[I s.texts.length,I s.means.length,I s.nown,.sl 1 (qhg s.texts) false,.imap (qfh s.ahead),il s.means,.sl 1 (qhg s.ownX) false]:=rfl
theorem pv_0 (s:S):nI (qbi (nth s.pv 0))=I s.texts.length:=by rw[S.pv_def,qc8,qb2,qgd]
theorem pv_1 (s:S):nI (qbi (nth s.pv 1))=I s.means.length:=by rw[S.pv_def,qc4,qb2,qgd]
theorem pv_2 (s:S):nI (qbi (nth s.pv 2))=I s.nown:=by rw[S.pv_def,qc2,qb2,qgd]
theorem pv_3 (s:S):PV.sl 1 (qbc (nth s.pv 3)) false=.sl 1 (qhg s.texts) false:=rfl
theorem pv_4 (s:S):PV.imap (qc6 (nth s.pv 4))=.imap (qfh s.ahead):=rfl
theorem pv_5 (s:S):PV.sl 1 (qbc (nth s.pv 5)) false=il s.means:=rfl
theorem pv_6 (s:S):PV.sl 1 (qbc (nth s.pv 6)) false=.sl 1 (qhg s.ownX) false:=rfl
theorem kid_step {t:List Nd} {all:List Int} {i:Nat} {a:Tr} {k:Nat} {s:S} (hi:i < all.length) (hk:all[i]=(k:Int)) (hb:all.length≤big) (h:ioO B0 Qna 82 (tl t :: I (k:Int) :: s.pv)=some (qgh a s).pv) :
  qwe ([tl t,il all,I (all.length:Nat),I (i:Nat)]++s.pv,())=some (.inl ([tl t,il all,I (all.length:Nat),I ((i+1:Nat):Int)]++(qgh a s).pv,())):=by
 have hbl:=qhq
 unfold qwe
 rw[S.pv_def s] at h ⊢
 simp only[List.cons_append,List.nil_append,qc8,qc4,qc2,qde,qfg,qgr,qh1,qjl,ql3,qmo,qlc,qb2,qgd,qby,qcg,qgm,qgl,qdi,qdk,qba]
 rw[show decide ((i:Int) < (all.length:Nat))=true by simp;omega,qb5,qr8 hi,hk,qba,qmx,qba,h,qba]
 simp only[qf3,qba]
 rw[qg1 (by omega),←qgd (qbi _),←qgd (qbi _),←qgd (qbi _),pv_0,pv_1,pv_2,pv_3,pv_4,pv_5,pv_6]
 rfl
theorem kid_end {t:List Nd} {all:List Int} {s:S}:qwe ([tl t,il all,I (all.length:Nat),I (all.length:Nat)]++s.pv,())=some (.inr s.pv):=by
 unfold qwe
 rw[S.pv_def s]
 simp only[List.cons_append,List.nil_append,qc8,qc4,qc2,qde,qfg,qgr,qh1,qjl,ql3,qmo,qlc,qb2,qgd,qby,qcg,qgm,qgl,qdi,qdk,qba]
 rw[show decide ((all.length:Int) < (all.length:Nat))=false by simp,qbv]
end Go.Ab.Core

