/-
  Part 5 of a proof: a machine of our own for the given program, its laws, and what it says of the program. Nothing here is a claim by itself.
-/
import Derived.Test.YtgoedlagdbgcbaaGreatDoorK04
import Derived.Test.YtgoedlagdbgcbaaGreatDoorK03
import Derived.RowKit
import Derived.Lib.AppendIntMem
import Derived.Lib.CountLaws
import Derived.Lib.Replace
import Derived.Lib.ItoaNum
import Derived.Conc.MuLone
import Derived.Test.YtgoedlagdbgcbaaGreatDoorProg
import Derived.Test.YtgoedlagdbgcbaaGreatDoorK01
import Derived.KernelRfl
import Derived.IntWalk
import Derived.ChangeArms
import Derived.ChangeSlices
import Derived.ChangeMaps5
import Derived.JoinedOf
set_option linter.all false

namespace Go.Ab
mutual
theorem qsr:∀ (p x:KV),qh6 p x=true→x.ok→qre p x.pv=some (qds p x)
 | .un,x,h,_=>by cases x<;>simp [qh6] at h;rfl
 | .sk,x,h,_=>by cases x<;>simp [qh6] at h;rfl
 | .yld d,x,h,_=>by cases x<;>simp [qh6] at h;rfl
 | .ref nm o,x,h,_=>by cases x<;>simp [qh6] at h;obtain ⟨rfl,rfl⟩:=h;simp [qre,KV.pv,qds,qby]
 | .aref _ _ _ _,x,h,_=>by simp [qh6] at h
 | .mp nm,x,h,_=>by cases x<;>simp [qh6] at h;subst h;simp [qre,KV.pv,qds,qby]
 | .it nm,x,h,_=>by cases x<;>simp [qh6] at h;subst h;simp [qre,KV.pv,qds,qby]
 | .wit nm,x,h,_=>by cases x<;>simp [qh6] at h;subst h;simp [qre,KV.pv,qds,qby]
 | .arr nm k o n,x,h,_=>by
  cases x with
  | arr nm' k' o' n' =>
   simp only [qh6] at h
   simp only [KV.pv,qre,qds]
   rw [h];rfl
  | _=>simp [qh6] at h
 | .lit b,x,h,hx=>qtj hx (by simpa [qh6] using h)
 | .nils,x,h,hx=>qtj hx (by simpa [qh6] using h)
 | .cv v,x,h,hx=>qtj hx (by simpa [qh6] using h)
 | .fn f cap,x,h,hx=>by
  cases x with
  | fn f' cap' =>
   simp only [qh6,Bool.and_eq_true,beq_iff_eq] at h
   obtain ⟨rfl,h⟩:=h
   simp only [KV.pv,qre,if_true,qds]
   exact qkk cap cap' h hx
  | _=>simp [qh6] at h
 | .tup xs,x,h,hx=>by
  cases x with
  | tup ys =>
   simp only [qh6] at h
   simp only [KV.pv,qre,qds]
   exact qkk xs ys h hx
  | _=>simp [qh6] at h
 | .agg cs,x,h,hx=>by
  simp only [qh6] at h
  simp only [qre,qds]
  by_cases hc:(clL cs).isSome=true
  ·rw [if_pos hc] at h
   rw [if_pos hc,if_pos hc]
   exact qtj hx h
  ·rw [if_neg hc] at h
   rw [if_neg hc,if_neg hc]
   cases x with
   | agg cs'=>exact qkk cs cs' h hx
   | _=>simp at h
 | .iface t y,x,h,hx=>by
  simp only [qh6] at h
  simp only [qre,qds]
  by_cases hc:y.cl.isSome=true
  ·rw [if_pos hc] at h
   rw [if_pos hc,if_pos hc]
   exact qtj hx h
  ·rw [if_neg hc] at h
   rw [if_neg hc,if_neg hc]
   cases x with
   | iface t' y' =>
    simp only [Bool.and_eq_true,beq_iff_eq] at h
    obtain ⟨rfl,h⟩:=h
    simp only [KV.pv,if_true]
    exact qsr y y' h hx
   | _=>simp at h
theorem qkk:∀ (ps xs:List KV),Qcf ps xs=true→qgs xs→qz9 ps (pvL xs)=some (qjd ps xs)
 | [],xs,h,_=>by cases xs<;>simp [Qcf] at h;rfl
 | p :: ps,xs,h,hx=>by
  cases xs with
  | nil=>simp [Qcf] at h
  | cons x xs =>
   simp only [Qcf,Bool.and_eq_true] at h
   simp only [pvL,qz9,qjd]
   rw [qsr p x h.1 hx.1,qkk ps xs h.2 hx.2]
theorem qtj {x:KV} (hx:x.ok) (h:x.cl.isSome=true):qby (okV x.pv) (some [x.pv])=some [x.cl.getD .undef]:=by
 obtain ⟨v,hv⟩:=Option.isSome_iff_exists.1 h
 have h1:=KV.cl_ok hx hv
 rw [KV.cl_pv hv,hv]
 simp [qby,h1]
end
theorem Qg0 (p x:KOb) (h:qkx p x=true) (hx:x.ok):qkj p x.ob=some (qqf p x):=by
 cases p with
 | cells ty cs =>
  cases x with
  | cells ty' cs' =>
   simp only [qkx,Bool.and_eq_true,beq_iff_eq] at h
   obtain ⟨rfl,h⟩:=h
   simp only [qkj,KOb.ob,if_true]
   exact qkk cs cs' h hx
  | _=>simp [qkx] at h
 | whole ty w =>
  cases x with
  | whole ty' v =>
   simp only [qkx,beq_iff_eq] at h
   subst h
   have hx':okV v=true:=hx
   have h2:qca (qf7 v)=true:=qcv hx'
   simp [qkj,KOb.ob,qqf,qby,h2]
  | _=>simp [qkx] at h
 | arr k kt ws =>
  cases x with
  | arr k' kt xs =>
   simp only [qkx,Bool.and_eq_true,beq_iff_eq] at h
   obtain ⟨rfl,rfl⟩:=h
   have hx':qca xs=true:=hx
   simp [qkj,KOb.ob,qqf,qhm,qby,hx']
  | _=>simp [qkx] at h
 | map ws =>
  cases x with
  | map es =>
   have hx':qca es=true:=hx
   simp [qkj,KOb.ob,qqf,qhm,qby,hx']
  | _=>simp [qkx] at h
 | siter s0 p0 =>
  cases x with
  | siter s pos=>rfl
  | _=>simp [qkx] at h
theorem qmw:∀ (ps xs:List KOb),qjf ps xs=true→(∀ o∈xs,o.ok)→qpk ps (xs.map KOb.ob)=some (qne ps xs)
 | [],[],_,_=>rfl
 | [],_ :: _,h,_=>by simp [qjf] at h
 | _ :: _,[],h,_=>by simp [qjf] at h
 | p :: ps,x :: xs,h,hx=>by
  simp only [qjf,Bool.and_eq_true] at h
  simp only [List.map_cons,qpk,qne]
  rw [Qg0 p x h.1 (hx x List.mem_cons_self),qmw ps xs h.2 fun o ho=>hx o (List.mem_cons_of_mem _ ho)]
theorem kwit_pv {x:KV} (h:x.ok):qrx x.pv=Qdk x:=by
 cases x with
 | arr nm k o n =>
  simp only [KV.pv,Qdk,qrx]
  by_cases hc:k=1∧o=0∧n=0
  ·obtain ⟨rfl,rfl,rfl⟩:=hc;rfl
  ·rw [if_neg hc]
   split
   ·rename_i heq
    cases heq
    exact absurd ⟨rfl,rfl,rfl⟩ hc
   ·rfl
 | cv v =>
  have hv:okV v=true:=h
  simp only [KV.pv,Qdk]
  unfold qrx
  split
  ·simp [okV] at hv
  ·rfl
 | _=>rfl
section
variable {ks:KSt}
theorem kioEnd_ok (hk:ks.Ok) {P:qlg} {v:KV} (hv:v.ok) {rs:List PV} (h:Qkg P ks v=some rs):∃ out,qv2 none 1 0 (qjh P.ins.length) ks.st v.pv=some out∧ioFit P out=some rs:=by
 unfold Qkg at h
 split at h
 case h_2=>cases h
 rename_i sp hkeep
 simp only at h
 have hsp:ql4 ks.nt sp:=hk.kp sp (by rw [hkeep];exact List.mem_singleton.2 rfl)
 have hst:ks.st.keep=qdu ks.nt sp:=by
  show ks.keep.flatMap (qdu ks.nt)=_
  rw [hkeep];simp
 have hw:∀ j,qrx (ks.st.keep.getD j .undef)=Qdk (qcm sp j):=fun j=>by
  rw [hst,qj0 hsp,kwit_pv (hsp.get_ok j)]
 have hA:qhr (qjh P.ins.length) ks.st.keep=qme P.ins.length sp:=by
  unfold qhr qme
  exact List.map_congr_left fun p _=>by rw [hw]
 have hG:qw2 (qjh P.ins.length) ks.st.keep=Qgn P.ins.length sp:=by
  unfold qw2 Qgn
  congr 1
  exact List.filter_congr fun p _=>by rw [hw]
 have hlk:=qd1 hk
 have hnm:∀ m:Nm,((qbq ks.st.objs m).map Ob.names).getD []=((qc6 ks.objs m).map KOb.names).getD []:=by
  intro m
  rw [qks hk]
  cases hl:qc6 ks.objs m with
  | none=>rfl
  | some o =>
   simp only [Option.map_some,Option.getD_some]
   exact KOb.ob_names (qdi hk.ob hl)
 have hN:qzt (qbq ks.st.objs) (qme P.ins.length sp) v.pv=Qgm (qc6 ks.objs) (qme P.ins.length sp) v:=by
  unfold qzt Qgm
  rw [KV.pv_names hv]
  have e1:((qme P.ins.length sp).flatMap fun p=>((qbq ks.st.objs p.1).map Ob.names).getD [])=(qme P.ins.length sp).flatMap fun p=>((qc6 ks.objs p.1).map KOb.names).getD []:=by
   congr 1;funext p;exact hnm p.1
  rw [e1,hlk,← qgz (qcr hk)]
 generalize qme P.ins.length sp=A at h hA hN
 generalize hNd:Qgm (qc6 ks.objs) A v=N at h hN
 generalize hB:(A++N.zipIdx.map fun p=>(p.1,(1,0+p.2)))=B at h
 split at h
 case isFalse=>cases h
 rename_i hcd
 obtain ⟨hnd,hgone,hfit⟩:=hcd
 cases h
 simp only [Bool.and_eq_true] at hfit
 obtain ⟨hf1,hf2,hf3⟩:=hfit
 have hoff:(fun m=>if (B.map (·.1)).contains m then none else some none:Nm→Option (Option Ob))=qrs fun m=>!(B.map (·.1)).contains m:=by
  funext m
  show (if (B.map (·.1)).contains m=true then none else some none)=if (!(B.map (·.1)).contains m)=true then some none else none
  cases (B.map (·.1)).contains m<;>rfl
 have hob:∀ nm,ioOb (qbq ks.st.objs) B nm=(Qnh (qc6 ks.objs) B nm).ob∧(Qnh (qc6 ks.objs) B nm).ok:=by
  intro nm
  unfold ioOb Qnh
  have hok:((qc6 ks.objs nm).getD qrk).ok:=by
   cases hl:qc6 ks.objs nm with
   | none=>exact rfl
   | some o=>exact qdi hk.ob hl
  have hobs:((qbq ks.st.objs nm).getD qh7)=((qc6 ks.objs nm).getD qrk).ob:=by
   rw [qks hk]
   cases qc6 ks.objs nm<;>rfl
  rw [hoff,hobs,← KOb.off_ob _ hok,← KOb.ren_ob _ (KOb.off_ok _ hok)]
  exact ⟨rfl,KOb.ren_ok _ (KOb.off_ok _ hok)⟩
 refine ⟨{ v:=(v.pv.sub fun m=>if (B.map (·.1)).contains m then none else some none).ren fun m=>(B.lookup m).getD m,new:=N.map (ioOb (qbq ks.st.objs) B),ups:=A.map fun p=>(p.2,ioOb (qbq ks.st.objs) B p.1),gone:=Qgn P.ins.length sp,io:=true },?_,?_⟩
 ·unfold qv2
  simp only
  rw [hA,hN,hB,hG]
  simp [chk,hnd]
 ·unfold ioFit
  simp only
  rw [if_pos hgone]
  have e1:(v.pv.sub fun m=>if (B.map (·.1)).contains m then none else some none).ren (fun m=>(B.lookup m).getD m)=((v.off fun m=>!(B.map (·.1)).contains m).ren fun m=>(B.lookup m).getD m).pv:=by
   rw [hoff,← KV.off_pv _ hv,← KV.ren_pv _ (KV.off_ok _ hv)]
  have e2:(A.map fun p=>(p.2,ioOb (qbq ks.st.objs) B p.1)).map (·.2)=(A.map fun p=>Qnh (qc6 ks.objs) B p.1).map KOb.ob:=by
   rw [List.map_map,List.map_map]
   exact List.map_congr_left fun p _=>(hob p.1).1
  have e3:N.map (ioOb (qbq ks.st.objs) B)=(N.map (Qnh (qc6 ks.objs) B)).map KOb.ob:=by
   rw [List.map_map]
   exact List.map_congr_left fun m _=>(hob m).1
  rw [e1,e2,e3,qsr _ _ hf1 (KV.ren_ok _ (KV.off_ok _ hv)),qmw _ _ hf2 (fun o ho=>by
   obtain ⟨p,_,rfl⟩:=List.mem_map.1 ho;exact (hob p.1).2),qmw _ _ hf3 (fun o ho=>by
   obtain ⟨m,_,rfl⟩:=List.mem_map.1 ho;exact (hob m).2)]
end
mutual
theorem Qrc {vs:List PV} (hv:qca vs=true):∀ (p:KV) (i:Nat),(fill p vs i).1.ok
 | .un,i | .sk,i | .yld _,i | .ref _ _,i | .aref _ _ _ _,i | .mp _,i | .it _,i | .wit _,i | .arr _ _ _ _,i=>trivial
 | .lit _,i | .nils,i | .cv _,i=>Qda hv i
 | .fn f cap,i=>qnr hv cap i
 | .tup xs,i=>qnr hv xs i
 | .agg cs,i=>by
  simp only [fill]
  split
  ·exact Qda hv i
  ·exact qnr hv cs i
 | .iface t y,i=>by
  simp only [fill]
  split
  ·exact Qda hv i
  ·exact Qrc hv y i
theorem qnr {vs:List PV} (hv:qca vs=true):∀ (ps:List KV) (i:Nat),qgs (qjz ps vs i).1
 | [],i=>trivial
 | p :: ps,i=>⟨Qrc hv p i,qnr hv ps _⟩
theorem Qda {vs:List PV} (hv:qca vs=true) (i:Nat):okV (nth vs i)=true:=by
 unfold nth
 rw [List.getD_eq_getElem?_getD]
 cases h:vs[i]? with
 | none=>rfl
 | some x=>exact qj6 hv h
end
theorem fillOb_any {vs:List PV} (hv:qca vs=true) (p:KOb) (i:Nat):(qd6 p vs i).1.ok:=by
 cases p with
 | cells ty cs=>exact qnr hv cs i
 | whole ty w=>exact Qda hv i
 | arr k kt xs =>
  have:=Qda hv i
  show qca (qbd (nth vs i))=true
  unfold qbd
  split
  ·rename_i heq;rw [heq] at this;simpa [okV] using this
  ·rfl
 | map es =>
  have:=Qda hv i
  show qca (qcw (nth vs i))=true
  unfold qcw
  split
  ·rename_i heq;rw [heq] at this;simpa [okV] using this
  ·rfl
 | siter s p=>trivial
theorem Qbh {vs:List PV} (hv:qca vs=true):∀ (ps:List KOb) (i:Nat),(∀ o∈(qdl ps vs i).1,o.ok)∧(qdl ps vs i).1.length=ps.length
 | [],i=>⟨fun o ho=>(by cases ho),rfl⟩
 | p :: ps,i=>by
  obtain ⟨h1,h2⟩:=Qbh hv ps (qd6 p vs i).2
  refine ⟨fun o ho=>?_,by simp [qdl,h2]⟩
  simp only [qdl,List.mem_cons] at ho
  rcases ho with rfl | ho
  ·exact fillOb_any hv p i
  ·exact h1 o ho
theorem Qrd {vs:List PV}:∀ (ps:List KV) (i:Nat),(∀ p∈ps,qsi p=false)→(∀ x∈(qjz ps vs i).1,qsi x=false)∧(qjz ps vs i).1.length=ps.length
 | [],i,_=>⟨fun o ho=>(by cases ho),rfl⟩
 | p :: ps,i,hp=>by
  obtain ⟨h1,h2⟩:=Qrd (vs:=vs) ps (fill p vs i).2 fun q hq=>hp q (List.mem_cons_of_mem _ hq)
  refine ⟨fun x hx=>?_,by simp [qjz,h2]⟩
  simp only [qjz,List.mem_cons] at hx
  rcases hx with rfl | hx
  ·exact un_fill (hp p List.mem_cons_self)
  ·exact h1 x hx
theorem qhi {cfg:Qb4} {tab:FuncId→Option RFn} (hc:qm1 cfg tab) {g:FuncId} {fn:RFn} (ht:tab g=some fn) {P:qlg} {Pf:List KV→List KOb→qlg} (hPf:cfg.ioF g=some Pf) {xs:List KV} {obs:List KOb} (hP:Pf xs obs=P) (hun:P.args.all (fun p=>!qsi p)=true) {vs rs:List PV} (hv:qca vs=true)
  (hr:qp4 cfg fn P vs=some rs):ioO cfg.b P g vs=some rs:=by
 obtain ⟨fn',ht',hnt,hll⟩:=hc.ioP g Pf hPf
 have hla:=(hll xs obs).1
 have hli:=(hll xs obs).2
 rw [hP] at hla hli
 rw [ht] at ht';cases ht'
 unfold qp4 at hr
 simp only at hr
 rw [qc9] at hr
 obtain ⟨u1,u2⟩:=Qrd (vs:=vs) P.args 0 fun p hp=>by simpa using List.all_eq_true.1 hun p hp
 have a1:=qnr hv P.args 0
 obtain ⟨b1,b2⟩:=Qbh hv P.ins (qjz P.args vs 0).2
 generalize has:(qjz P.args vs 0).1=aas at hr u1 u2 a1
 generalize hos:(qdl P.ins vs (qjz P.args vs 0).2).1=os at hr b1 b2
 obtain ⟨i1,i2⟩:=Qnm (nt:=fn.nt) a1 u1 (by omega)
 have hwsp:ql4 fn.nt (((List.range P.ins.length).filter fun j=>!fn.gone.contains j).map fun j=>(j,KV.wit (0,j))):=by
  refine ⟨?_,?_,?_,?_⟩
  ·rw [List.map_map]
   have:((fun p:Nat×KV=>p.1)∘fun j=>(j,KV.wit (0,j)))=id:=rfl
   rw [this,List.map_id]
   exact List.pairwise_lt_range.filter _
  ·intro p hp
   obtain ⟨j,hj,rfl⟩:=List.mem_map.1 hp
   have:=List.mem_range.1 (List.mem_filter.1 hj).1
   simp only;omega
  ·intro p hp
   obtain ⟨j,hj,rfl⟩:=List.mem_map.1 hp
   trivial
  ·intro p hp
   obtain ⟨j,hj,rfl⟩:=List.mem_map.1 hp
   rfl
 have hso:qlf fn.nt [(0,os)]:=⟨by simp,by simp [hnt],fun p hp o ho=>by simp only [List.mem_singleton] at hp;subst hp;exact b1 o ho⟩
 have hks:({ nt:=fn.nt,tmps:=aas.zipIdx.map fun p=>(p.2,p.1),objs:=[(0,os)],keep:=[((List.range P.ins.length).filter fun j=>!fn.gone.contains j).map fun j=>(j,KV.wit (0,j))] }:KSt).Ok :=
  ⟨i1.tm,hso,fun sp hsp=>by simp only [List.mem_singleton] at hsp;subst hsp;exact hwsp⟩
 have hst:({ nt:=fn.nt,tmps:=aas.zipIdx.map fun p=>(p.2,p.1),objs:=[(0,os)],keep:=[((List.range P.ins.length).filter fun j=>!fn.gone.contains j).map fun j=>(j,KV.wit (0,j))] }:KSt).st=ioSt fn.gone fn.nt (os.map KOb.ob) (pvL aas):=by
  have e1:qdu fn.nt (aas.zipIdx.map fun p=>(p.2,p.1))=pvL aas++List.replicate (fn.nt - (pvL aas).length) .undef:=congrArg St.tmps i2
  unfold KSt.st ioSt
  simp only
  rw [e1]
  congr 1
  ·refine qj2 (by simp) fun i hi=>?_
   by_cases h0:i=0
   ·subst h0
    rw [List.getElem?_set_self (by simpa using hnt)]
    rfl
   ·rw [List.getElem?_set_ne (Ne.symm h0),List.getElem?_replicate,if_pos hi]
    have:qcy [(0,os)] i=[]:=by
     simp only [qcy]
     cases hb:Nat.beq i 0 with
     | true=>exact absurd (qcx hb) h0
     | false=>rfl
    rw [this];rfl
  ·simp only [List.flatMap_cons,List.flatMap_nil,List.append_nil]
   refine qlx (by simp [wits]) fun i hi=>?_
   unfold wits
   rw [List.getElem?_map,List.getElem?_range hi]
   simp only [Option.map_some,List.length_map]
   by_cases hij:i < os.length∧fn.gone.contains i=false
   ·rw [if_pos hij]
    have hm:(i,KV.wit (0,i))∈((List.range P.ins.length).filter fun j=>!fn.gone.contains j).map fun j=>(j,KV.wit (0,j)):=List.mem_map.2 ⟨i,List.mem_filter.2 ⟨List.mem_range.2 (by have:=hij.1;omega),by simp only [hij.2,Bool.not_false]⟩,rfl⟩
    rw [show qcm (((List.range P.ins.length).filter fun j=>!fn.gone.contains j).map fun j=>(j,KV.wit (0,j))) i=KV.wit (0,i) from hwsp.get_mem hm]
    rfl
   ·rw [if_neg hij]
    rw [show qcm (((List.range P.ins.length).filter fun j=>!fn.gone.contains j).map fun j=>(j,KV.wit (0,j))) i=.un from qyd fun p hp=>by
     obtain ⟨j,hj,rfl⟩:=List.mem_map.1 hp
     obtain ⟨h1,h2⟩:=List.mem_filter.1 hj
     have:=List.mem_range.1 h1
     simp only
     intro e
     subst e
     exact hij ⟨by omega,by simpa using h2⟩]
    rfl
 have fin:∀ {k1:KSt},k1.Ok→(qwv k1 fn.res fun vs=>Qkg P k1 (qwx vs))=some rs→(∀ v,qpc k1.st fn.res=some v→Evl fun n=>qv0 (qkv cfg.b.sp tab n) n fn (os.map KOb.ob) (pvL aas)=some (k1.st,qsb v))→ioO cfg.b P g vs=some rs:=by
  intro k1 hk1 hr hx
  obtain ⟨ws,hr,hws,h1⟩:=Qkd hk1 fn.res hr
  obtain ⟨o1,o2⟩:=Qkf hws
  obtain ⟨out,g1,g2⟩:=kioEnd_ok hk1 o1 hr
  have hI:cfg.b.I g (os.map KOb.ob) (pvL aas)=some (k1.st,(qwx ws).pv):=by
   rw [hc.I]
   unfold limIo
   rw [ht,o2]
   exact Qdi (hx _ h1)
  unfold ioO
  rw [hos,has,hI]
  simp only [g1,g2]
 split at hr
 ·rename_i hD
  obtain ⟨x,k1,e1,hr,hk1,hev⟩:=Qg6 hc fn.code (h:=qbe) (hn:=fun _=>qbe) noH 0 hks hr
  rw [hst] at hev
  cases x with
  | exit id=>cases hr
  | _ =>
   refine fin hk1 hr fun v h1=>hev.mono fun n hn'=>?_
   unfold qv0
   rw [if_pos hD,hn']
   simp only [h1]
 ·rename_i hD
  obtain ⟨x,k1,l,hr,hk1,hev⟩:=evalDK_ok hc fn.code hks hr
  rw [hst] at hev
  cases x with
  | exit id=>cases hr
  | _ =>
   obtain ⟨k2,hr,hk2,hdf⟩:=dfrsK_ok hc l hk1 hr
   refine fin hk2 hr fun v h1=>hev.mono2 hdf fun n hn' hd'=>?_
   unfold qv0
   rw [if_neg hD,hn']
   simp only [hd',h1]
end Go.Ab


namespace Go.Ab
section sp
variable {cx:Cx} {E:Type} {w0:World} {I0 F0:Nat→Prop} {O0:Own} {Hd:Nat→Option Obj} {R:qmq E} {e:E} {ds:List Deferred} {I F:Nat→Prop} {lp:Nat→Option Nat} {L:Loc} {tmv suf:List Value} {st:St} {w w':World} {dst:Option Nat}
theorem qpy (hs:SR lp I L st tmv suf w) (hf:Fr cx w0 I0 F0 O0 Hd R e ds I F L w) (h:Qma w w') {u:PV} {v:Value} (hv:qb4 w' I lp (some L) u v) :
  ∃ I' L',SR lp I' L' (apply st dst { v:=u }) (Qp4 tmv dst v) suf w'∧Fr cx w0 I0 F0 O0 Hd R e ds I' F L' w':=by
 have hx:Ext I F w I F w':=⟨h.os,h.tape,h.output,h.size,fun b hb _=>h.same b hb,fun _ h=>h,fun _ h=>.inl h,fun _ h=>.inl h⟩
 have hi:IF I F w':=⟨fun b hb=>Nat.lt_of_lt_of_le (hf.sep.iB b hb) h.size,fun b hb=>⟨Nat.lt_of_lt_of_le (hf.sep.fB b hb).1 h.size,(hf.sep.fB b hb).2⟩⟩
 have hw:cx.Wd I w':=cx.stab I I w w' hf.wd (fun _ h=>h) (fun b hb=>h.same b (hf.sep.iB b hb)) h.size
 have hr:R.rel e I F w':=R.stab e I I F w w' hf.re (fun _ h=>h) (fun b hb=>h.same b (hb.elim (hf.sep.iB b) fun h=>(hf.sep.fB b h).1)) h.size
 refine ⟨I,L,?_,hf.called hx hi hw hr⟩
 have h2:=hs.called hf hx
 cases dst with
 | none=>exact h2
 | some d=>exact h2.put d hv
theorem qjw (w:World):Qma w w:=⟨rfl,rfl,rfl,Nat.le_refl _,fun _ _=>rfl⟩
theorem sp_turn (hs:SR lp I L st tmv suf w) (hf:Fr cx w0 I0 F0 O0 Hd R e ds I F L w) {nm:Nm} {b C:Nat} (hL:L nm=some (some (b,C)))
  (h1:w'.os=w.os) (h2:w'.tape=w.tape) (h3:w'.output=w.output) (h4:w.heap.size≤w'.heap.size) (hk:∀ k,k < w.heap.size→k≠b→w'.heap[k]?=w.heap[k]?)
  {ob:Ob} (hob:ObRep w' I lp L b C ob) {u:PV} {v:Value} (hv:qb4 w' I lp (some L) u v) :
  ∃ I' L',SR lp I' L' (apply st dst { v:=u,upd:=some (nm,ob) }) (Qp4 tmv dst v) suf w'∧Fr cx w0 I0 F0 O0 Hd R e ds I' F L' w':=by
 have hI:∀ k,I k→w'.heap[k]?=w.heap[k]?:=fun k hi=>hk k (hf.sep.iB k hi) fun e=>(hf.lB nm b C hL).2.2.1 (e ▸ hi)
 have hfr:Fr cx w0 I0 F0 O0 Hd R e ds I F L w':=hf.own h1 h2 h3 h4
  (fun k hb hno=>hk k hb fun e=>hno nm C (e ▸ hL)) (fun _ h=>h) (fun _ h=>.inl h)
  (fun nm' b' C' h=>⟨Nat.lt_of_lt_of_le (hf.lB nm' b' C' h).2.1 h4,(hf.lB nm' b' C' h).2.2.1,.inr ⟨nm',C',h⟩⟩) hf.inj
 have hsr:SR lp I L { st with objs:=qc4 st.objs nm ob } tmv suf w':=hs.upd hL hI
  (fun m b' C' hm h=>hk b' (hf.lB m b' C' h).2.1 fun e=>hm (hf.inj m nm b' C' C h (e ▸ hL))) hob
 refine ⟨I,L,?_,hfr⟩
 cases dst with
 | none=>exact hsr
 | some d=>exact hsr.put d hv
theorem sp_gone (hs:SR lp I L st tmv suf w) (hf:Fr cx w0 I0 F0 O0 Hd R e ds I F L w) {nm:Nm} {p:Option (Nat×Nat)} (hL:L nm=some p)
  (h1:w'.os=w.os) (h2:w'.tape=w.tape) (h3:w'.output=w.output) (h4:w.heap.size≤w'.heap.size) (hk:∀ b',b' < w.heap.size→(∀ C,p≠some (b',C))→w'.heap[b']?=w.heap[b']?)
  {u:PV} {v:Value} (hv:∀ L':Loc,qb4 w' I lp (some L') u v) :
  ∃ I' L',SR lp I' L' (apply st dst { v:=u,upd:=some (nm,qh7),kill:=some nm }) (Qp4 tmv dst v) suf w'∧Fr cx w0 I0 F0 O0 Hd R e ds I' F L' w':=by
 have hI:∀ b',I b'→w'.heap[b']?=w.heap[b']?:=fun b' hb'=>hk b' (hf.sep.iB b' hb') fun C e=>(hf.lB nm b' C (by rw [hL,e])).2.2.1 hb'
 have hu:=hs.regrow (w':=w') (k:=0) (kt:=0) (xs:=[]) (p':=none) hL hI
  (fun m b' C' hm hn=>hk b' (hf.lB m b' C' hn).2.1 fun C e=>hm (hf.inj m nm b' C' C hn (by rw [hL,e]))) ⟨0,0,rfl⟩
 refine ⟨I,(fun m=>if m=nm then some none else L m),?_,?_⟩
 ·cases dst with
  | none=>exact hu
  | some d=>exact hu.put d (hv _)
 ·refine hf.own h1 h2 h3 h4 (fun b' hb' hn=>hk b' hb' fun C e=>hn nm C (by rw [hL,e])) (fun _ h=>h) (fun _ h=>.inl h) ?_ ?_
  ·intro m b' C' hn
   by_cases hm:m=nm
   ·simp [hm] at hn
   ·simp only [hm,if_false] at hn
    exact ⟨by have:=(hf.lB m b' C' hn).2.1;omega,(hf.lB m b' C' hn).2.2.1,.inr ⟨m,C',hn⟩⟩
  ·intro m m' b' C1 C2 hn hn'
   by_cases hm:m=nm
   ·simp [hm] at hn
   ·by_cases hm':m'=nm
    ·simp [hm'] at hn'
    ·simp only [hm,hm',if_false] at hn hn'
     exact hf.inj m m' b' C1 C2 hn hn'
end sp
theorem repL1 {w:World} {I:Nat→Prop} {lp:Nat→Option Nat} {L:Option Loc} {a:PV} {us:List Value} (h:qb0 w I lp L [a] us):∃ u,us=[u]∧qb4 w I lp L a u:=by
 obtain ⟨u,r,h1,rfl,h2⟩:∃ u r,qb4 w I lp L a u∧us=u :: r∧qb0 w I lp L [] r:=by
  cases h;exact ⟨_,_,by assumption,rfl,by assumption⟩
 cases h2
 exact ⟨u,rfl,h1⟩
theorem Qjg {w:World} {I:Nat→Prop} {lp:Nat→Option Nat} {L:Option Loc} {a b:PV} {us:List Value} (h:qb0 w I lp L [a,b] us):∃ u v,us=[u,v]∧qb4 w I lp L a u∧qb4 w I lp L b v:=by
 obtain ⟨u,r,h1,rfl,h2⟩:∃ u r,qb4 w I lp L a u∧us=u :: r∧qb0 w I lp L [b] r:=by
  cases h;exact ⟨_,_,by assumption,rfl,by assumption⟩
 obtain ⟨v,rfl,h3⟩:=repL1 h2
 exact ⟨u,v,rfl,h1,h3⟩
theorem Qh9 {W:World} {b o:Nat} {c:Array Value} {n:Value} {E':TypeId} {fr:Nat×Nat} (h:W.heap[b]?=some (.cells c E' fr)):(W.setCell ⟨b,o,none⟩ n).heap[b]?=some (.cells (c.setIfInBounds o n) E' fr):=by
 simp [World.setCell,Array.getElem?_modify,h]
theorem Qh6 (W:World) (a:Addr) (n:Value):(W.setCell a n).heap.size=W.heap.size:=by simp [World.setCell]
theorem cell_of_heap {w w':World} {b:Nat} (h:w'.heap[b]?=w.heap[b]?) (o:Nat):w'.cell? ⟨b,o,none⟩=w.cell? ⟨b,o,none⟩:=by
 simp only [World.cell?,h]
end Go.Ab


namespace Go.Ab
open Go
def ErrVars (gs:List Nat) (T:Nat) (I:Nat→Prop) (w:World):Prop :=
 ∃ ad:Nat→Addr,(∀ g∈gs,I g∧I (ad g).block∧(∃ E f,w.heap[g]?=some (.cells #[.iface T (.pointer (some (ad g)))] E f))∧∃ c t,w.heap[(ad g).block]?=some (.cells c t (0,0)))∧∀ g∈gs,∀ g'∈gs,g≠g'→ad g≠ad g'
structure WVars (gs:List Nat) (T:Nat) (et:List (Nat×Value)) (tabs:List (Nat×Array Value)) (ns:List Nat) (I:Nat→Prop) (w:World):Prop where
 err:ErrVars gs T I w
 et0:∀ p∈et,I p.1∧w.cell? ⟨p.1,0,none⟩=some p.2
 tab:∀ p∈tabs,I p.1∧∃ E f,w.heap[p.1]?=some (.cells p.2 E f)
 num:∀ g∈ns,I g∧∃ m,w.cell? ⟨g,0,none⟩=some (.int .i64 m)
def globsE (gs:List Nat) (T:Nat):qpw:=fun g=>if gs.contains g then some [.glob g T] else none
noncomputable def cxOf (P:Program) (mixed:P.follows .mixedOrders=true) (gs:List Nat) (T:Nat) (et:List (Nat×Value)) (tabs:List (Nat×Array Value)) (ns:List Nat):Cx where
 P:=P
 mixed:=mixed
 G:=globsE gs T
 Wd I w:=WVars gs T et tabs ns I w
 stab I I' w w' h h1 h2 _:=by
  obtain ⟨⟨ad,e1,e2⟩,e0,ht,hn⟩:=h
  refine ⟨⟨ad,fun g hg=>?_,e2⟩,fun p hp=>⟨h1 _ (e0 p hp).1,by rw [cell_of_heap (h2 _ (e0 p hp).1)];exact (e0 p hp).2⟩,fun p hp=>?_,fun g hg=>?_⟩
  ·obtain ⟨a1,a2,a3,a4⟩:=e1 g hg
   exact ⟨h1 _ a1,h1 _ a2,by rw [h2 _ a1];exact a3,by rw [h2 _ a2];exact a4⟩
  ·obtain ⟨a1,a2⟩:=ht p hp
   exact ⟨h1 _ a1,by rw [h2 _ a1];exact a2⟩
  ·obtain ⟨a1,m,a2⟩:=hn g hg
   exact ⟨h1 _ a1,m,by rw [cell_of_heap (h2 _ a1)];exact a2⟩
 gl I w g cs h hg lp L:=by
  unfold globsE at hg
  split at hg
  ·rename_i hgg
   cases hg
   obtain ⟨ad,e1,_⟩:=h.err
   obtain ⟨a1,a2,⟨E,f,a3⟩,a4⟩:=e1 g (by simpa using hgg)
   exact qb4.ptr (off:=0) (o:=0) [.glob g T] g _ _ _ a1 a3 (by simp) (by simp) (by simp [One];rfl) (by simp;exact .cons _ _ _ _ (.glob g T _ _ _ _ a1 a3 rfl) .nil)
  ·cases hg
def SpAt (cx:Cx) (g:FuncId) (st:St) (vs:List PV) (out:Out):Prop:=qhc cx.P g ∧
  ∀ (E:Type) (w0:World) (I0 F0:Nat→Prop) (O0:Own) (Hd:Nat→Option Obj) (R:qmq E) (e:E) (ds:List Deferred) (I F:Nat→Prop) (lp:Nat→Option Nat) (L:Loc) (tmv suf us:List Value) (w:World) (dst:Option Nat),
   SR lp I L st tmv suf w→Fr cx w0 I0 F0 O0 Hd R e ds I F L w→qb0 w I lp (some L) vs us→(∀ d,dst=some d→st.objs[d]?=some []) →
   CallsIn Fence.wide 0 cx.P g us.toArray w fun
    | .returned v,w'=>∃ I' L',SR lp I' L' (apply st dst { out with v:=out.v.ren (qkc (dst.getD 0)) }) (Qp4 tmv dst v) suf w'∧Fr cx w0 I0 F0 O0 Hd R e ds I' F L' w'
    | _,_=>False
def Qti (f:(Nm→Option Ob)→List PV→Option Out):Prop:=∀ σ σ' vs,(∀ nm∈qct σ qbp (qbo vs),σ nm=σ' nm)→f σ vs=f σ' vs
theorem qtq {w:World} {I:Nat→Prop} {lp:Nat→Option Nat} {L:Option Loc} {g:Nat} {t:TypeId} {v:Value} (h:qb4 w I lp L (.glob g t) v):∃ x c E fr,v=.iface t x∧w.heap[g]?=some (.cells c E fr)∧c[0]?=some (.iface t x):=by
 cases h with
 | glob g t x c E fr hI hb hv=>exact ⟨x,c,E,fr,rfl,hb,hv⟩
theorem Qgh {w w':World} (h:Go.RowKit.Below w.heap.size w w'):Qma w w':=⟨h.os,h.tape,h.output,h.size,h.block⟩
structure AsOK (P:Program) (g:FuncId) (ge:Nat) (et:Value) (ps:List (Nat×Nat)):Prop where
 enters:qhc P g
 none:∀ (v:Value) (w:World),Calls P g #[.nilIface,v] w fun e w'=>e=.returned (.bool false)∧w'=w
 hit:∀ p t,ps.lookup p=some t→∀ (v n:Value),v.cells=#[n]→n.oneCell'=true→∀ (a:Addr) (old:Value) (w:World),w.cell? ⟨ge,0,Option.none⟩=some et→w.cell? a=some old→w.frozen? a=false →
  Calls P g #[.iface t v,.iface p (.pointer (some a))] w fun e w'=>e=.returned (.bool true)∧∃ o1 o2 o3 o4,w'=((((w.alloc o1).alloc o2).alloc o3).alloc o4).setCell a n
section at_
variable {P:Program} {mx:P.follows .mixedOrders=true} {gs:List Nat} {T:Nat} {et:List (Nat×Value)} {tabs:List (Nat×Array Value)} {ns:List Nat}
def spIsG (gs:List Nat) (T:Nat) (S:List Nat):List PV→Option Out
 | [.nilI,.glob g t]=>if g∈gs∧t=T then some { v:=.bool false } else none
 | [.glob g t,.glob g' t']=>if g∈gs∧g'∈gs∧t=T∧t'=T then some { v:=.bool (g==g') } else none
 | [.iface s x,.glob g t]=>if g∈gs∧t=T∧s∈S∧okV x=true then some { v:=.bool false } else none
 | _=>none
structure IsOK (P:Program) (g:FuncId) (T:Nat) (S:List Nat):Prop where
 enters:qhc P g
 none:∀ (a:Addr) (w:World),Calls P g #[.nilIface,.iface T (.pointer (some a))] w fun e w'=>e=.returned (.bool false)∧w'=w
 same:∀ (a:Addr) (w:World),Calls P g #[.iface T (.pointer (some a)),.iface T (.pointer (some a))] w fun e w'=>e=.returned (.bool true)∧w'=w
 other:∀ (a b:Addr) (ca cb:Array Value) (ta tb:TypeId) (w:World),a≠b→w.heap[a.block]?=some (.cells ca ta (0,0))→w.heap[b.block]?=some (.cells cb tb (0,0)) →
  Calls P g #[.iface T (.pointer (some a)),.iface T (.pointer (some b))] w fun e w'=>e=.returned (.bool false)∧w'=w
 type:∀ s∈S,∀ (v:Value) (b:Addr) (w:World),Calls P g #[.iface s v,.iface T (.pointer (some b))] w fun e w'=>e=.returned (.bool false)∧w'=w
theorem is_at {g:FuncId} {S:List Nat} (hA:IsOK P g T S) {st:St} {vs:List PV} {out:Out} (h:spIsG gs T S vs=some out):SpAt (cxOf P mx gs T et tabs ns) g st vs out:=by
 refine ⟨hA.enters,?_⟩
 unfold spIsG at h
 split at h
 ·split at h
  ·rename_i hp
   obtain ⟨hgg,rfl⟩:=hp
   cases h
   intro E w0 I0 F0 O0 Hd R e ds I F lp L tmv suf us w dst hs hf hu hd
   obtain ⟨u,v,rfl,h1,h2⟩:=Qjg hu
   rw [qmg h1]
   obtain ⟨ad,e1,e2⟩:=hf.wd.err
   obtain ⟨x,c,E',fr,rfl,q1,q2⟩:=qtq h2
   obtain ⟨_,_,⟨_,_,a3⟩,_⟩:=e1 _ hgg
   rw [a3] at q1;cases q1;cases q2
   refine callsIn_wide.2 ((hA.none _ w).mono ?_)
   rintro ev w' ⟨rfl,rfl⟩
   exact qpy hs hf (qjw _) (.bool false)
  ·cases h
 ·rename_i g1 t1 g2 t2
  split at h
  ·rename_i hp
   obtain ⟨hg1,hg2,rfl,rfl⟩:=hp
   cases h
   intro E w0 I0 F0 O0 Hd R e ds I F lp L tmv suf us w dst hs hf hu hd
   obtain ⟨u,v,rfl,h1,h2⟩:=Qjg hu
   obtain ⟨ad,e1,e2⟩:=hf.wd.err
   obtain ⟨x,c,E',fr,rfl,q1,q2⟩:=qtq h1
   obtain ⟨y,c',E'',fr',rfl,q1',q2'⟩:=qtq h2
   obtain ⟨_,_,⟨_,_,a3⟩,ca,ta,a4⟩:=e1 _ hg1
   obtain ⟨_,_,⟨_,_,b3⟩,cb,tb,b4⟩:=e1 _ hg2
   rw [a3] at q1;cases q1;cases q2
   rw [b3] at q1';cases q1';cases q2'
   by_cases hgg:g1=g2
   ·subst hgg
    refine callsIn_wide.2 ((hA.same _ w).mono ?_)
    rintro ev w' ⟨rfl,rfl⟩
    rw [beq_self_eq_true]
    exact qpy hs hf (qjw _) (.bool true)
   ·refine callsIn_wide.2 ((hA.other _ _ ca cb ta tb w (e2 _ hg1 _ hg2 hgg) a4 b4).mono ?_)
    rintro ev w' ⟨rfl,rfl⟩
    rw [beq_eq_false_iff_ne.2 hgg]
    exact qpy hs hf (qjw _) (.bool false)
  ·cases h
 ·rename_i ss x g1 t1
  split at h
  ·rename_i hp
   obtain ⟨hgg,rfl,hS,hx⟩:=hp
   cases h
   intro E w0 I0 F0 O0 Hd R e ds I F lp L tmv suf us w dst hs hf hu hd
   obtain ⟨u,v,rfl,h1,h2⟩:=Qjg hu
   obtain ⟨u',rfl,hx'⟩:=qtp h1
   obtain ⟨ad,e1,e2⟩:=hf.wd.err
   obtain ⟨x,c,E',fr,rfl,q1,q2⟩:=qtq h2
   obtain ⟨_,_,⟨_,_,a3⟩,_⟩:=e1 _ hgg
   rw [a3] at q1;cases q1;cases q2
   refine callsIn_wide.2 ((hA.type _ hS u' _ w).mono ?_)
   rintro ev w' ⟨rfl,rfl⟩
   exact qpy hs hf (qjw _) (.bool false)
  ·cases h
 ·cases h
end at_
section any
variable {cx:Cx} {g:FuncId} {st:St} {vs:List PV} {out:Out}
def spIdx:List PV→Option Out
 | [.str s,.int .u8 c]=>if 0≤c∧c < 256 then some { v:=.int .i64 (Lib.indexByte s (UInt8.ofNat c.toNat)) } else none
 | _=>none
theorem idx_at (he:qhc cx.P g) (hc:∀ (s:ByteArray) (c:Int) (w:World),Calls cx.P g #[.string s,.int .u8 c] w fun e w'=>e=.returned (.int .i64 (Lib.indexByte s.data.toList c.toNat.toUInt8))∧w'=w)
  (h:spIdx vs=some out):SpAt cx g st vs out:=by
 refine ⟨he,?_⟩
 unfold spIdx at h
 split at h
 ·split at h
  ·cases h
   intro E w0 I0 F0 O0 Hd R e ds I F lp L tmv suf us w dst hs hf hu hd
   obtain ⟨u,v,rfl,h1,h2⟩:=Qjg hu
   rw [qhs h1,qg1 h2]
   refine callsIn_wide.2 ((hc _ _ w).mono ?_)
   rintro ev w' ⟨rfl,rfl⟩
   exact qpy hs hf (qjw _) (.int _ _)
  ·cases h
 ·cases h
def qp0 (T:Nat) (σ:Nm→Option Ob):List PV→Option Out
 | [.ref n 0]=>match σ n with
  | some (.cells t [.nilP,x])=>if t=T then some { v:=.tup [],upd:=some (n,.cells T [.ref n 0,x]) } else none
  | some (.cells t [.ref n' 0,_])=>if t=T∧n'=n then some { v:=.tup [] } else none
  | _=>none
 | _=>none
def Qft (T U:Nat) (σ:Nm→Option Ob):List PV→Option Out
 | [.ref n 0]=>match σ n with
  | some (.cells t [_,.nilS])=>if t=T then some { v:=.str [] } else none
  | some (.cells t [_,.arr n' 1 0 k])=>match σ n' with
   | some (.arr 1 u xs)=>match qji (xs.take k) with
    | some s=>if t=T∧u=U∧n'≠n∧0 < k∧k≤xs.length∧k≤qdr then some { v:=.str s,upd:=some (n',qh7),kill:=some n' } else none
    | none=>none
   | _=>none
  | _=>none
 | _=>none
theorem check_here (T:Nat):Qti (qp0 T):=by
 intro σ σ' vs h
 unfold qp0
 split
 ·rename_i n
  rw [h n (qf2 _ _ n (by simp [qbo,PV.names]))]
 ·rfl
theorem str_here (T U:Nat):Qti (Qft T U):=by
 intro σ σ' vs h
 unfold Qft
 split
 ·rename_i n
  rw [← h n (qf2 _ _ n (by simp [qbo,PV.names]))]
  have h2:∀ t a n' k,σ n=some (.cells t [a,.arr n' 1 0 k])→σ n'=σ' n':=by
   intro t a n' k he
   refine h n' ?_
   show n'∈qct σ 3 [n]
   unfold qct
   refine List.mem_append_right _ (qf2 _ _ n' ?_)
   simp [he,Ob.names,qbo,PV.names]
  generalize hx:σ n=o at *
  split
  ·rfl
  ·rename_i t a n' k
   rw [h2 t a n' k rfl]
  ·rfl
 ·rfl
theorem Qc0 {w:World} {I:Nat→Prop} {lp:Nat→Option Nat} {L:Option Loc}:∀ (xs:List PV) (vs:List Value) (s:List UInt8),qb0 w I lp L xs vs→qji xs=some s→∀ (j:Nat) (x:UInt8),s[j]?=some x→vs[j]?=some (.int .u8 (x.toNat:Int))
 | [],_,s,_,h,j,x,hj=>by cases h;simp at hj
 | p :: xs,_,s,h,hb,j,x,hj=>by
  cases h with
  | cons _ v _ vs hv hs =>
   simp only [qji] at hb
   split at hb
   ·rename_i b bs h1 h2
    cases hb
    have hp:v=.int .u8 (b.toNat:Int):=by
     unfold Ql2 at h1
     split at h1
     ·rename_i n
      split at h1
      ·rename_i hn
       cases h1
       rw [qg1 hv]
       congr 1
       simp
       omega
      ·cases h1
     ·cases h1
    cases j with
    | zero=>simp at hj;subst hj;simp [hp]
    | succ j=>simp at hj ⊢;exact Qc0 xs vs bs hs h2 j x hj
   ·cases hb
theorem Qbx:∀ (xs:List PV) (s:List UInt8),qji xs=some s→s.length=xs.length
 | [],s,h=>by cases h;rfl
 | p :: xs,s,h=>by
  simp only [qji] at h
  split at h
  ·rename_i b bs h1 h2
   cases h
   simp [Qbx xs bs h2]
  ·cases h
theorem Qfd:∀ (xs:List PV) (s:List UInt8),qji xs=some s→cellsL xs=xs
 | [],_,_=>rfl
 | p :: xs,s,h=>by
  simp only [qji] at h
  split at h
  ·rename_i b bs h1 h2
   have hp:p.cells=[p]:=by
    unfold Ql2 at h1
    split at h1
    ·rfl
    ·cases h1
   simp [cellsL,hp,Qfd xs bs h2]
  ·cases h
theorem Qhj {c:Array Value} {a b:Value} (h:c.toList=[a,b]):c=#[a,b]:=by
 apply Array.toList_inj.1
 simpa using h
theorem Qkz {W:World} {a:Addr} {n k:Nat} (h:k≠a.block):(W.freeze a n).heap[k]?=W.heap[k]?:=by
 unfold World.freeze
 split
 ·rfl
 ·simp [Array.getElem?_modify,Ne.symm h]
structure BldOK (P:Program) (gc gs:FuncId) (T U:Nat):Prop where
 entersC:qhc P gc
 entersS:qhc P gs
 nzT:T≠0
 nzU:U≠0
 used:∀ (b:Nat) (w:World),w.cell? ⟨b,0,none⟩=some (.pointer (some ⟨b,0,none⟩))→Calls P gc #[.pointer (some ⟨b,0,none⟩)] w fun e w'=>e=.returned (.tuple #[])∧w'=w
 fresh:∀ (b:Nat) (w:World),w.cell? ⟨b,0,none⟩=some (.pointer none)→w.shape? b=some (T,2)→w.frozen? ⟨b,0,none⟩=false →
  Calls P gc #[.pointer (some ⟨b,0,none⟩)] w fun e w'=>e=.returned (.tuple #[])∧w'=w.setCell ⟨b,0,none⟩ (.pointer (some ⟨b,0,none⟩))
 strNil:∀ (b:Nat) (p:Value) (w:World),w.heap[b]?=some (.cells #[p,.slice none 0 0] T (0,0))→Calls P gs #[.pointer (some ⟨b,0,none⟩)] w fun e w'=>e=.returned (.string ⟨#[]⟩)∧w'=w.drew
 strSome:∀ (b g cap:Nat) (p:Value) (cur:Array Value) (l:List UInt8) (w:World),w.heap[b]?=some (.cells #[p,.slice (some ⟨g,0,none⟩) l.length cap] T (0,0))→w.heap[g]?=some (.cells cur U (0,0))→l≠[]→l.length≤cap→l.length≤cur.size →
  l.length≤9223372036854775807→(∀ (j:Nat) (x:UInt8),l[j]?=some x→cur[j]?=some (Value.int .u8 (x.toNat:Int))) →
  Calls P gs #[.pointer (some ⟨b,0,none⟩)] w fun e w'=>e=.returned (.string ⟨l.toArray⟩)∧w'=w.drew.freeze ⟨g,0,none⟩ l.length
theorem check_at {gs:FuncId} {T U:Nat} (hB:BldOK cx.P g gs T U) (h:qp0 T (qbq st.objs) vs=some out):SpAt cx g st vs out:=by
 refine ⟨hB.entersC,?_⟩
 unfold qp0 at h
 split at h
 ·rename_i n
  split at h
  ·rename_i t x hlk
   split at h
   case isFalse=>cases h
   rename_i ht
   subst ht
   cases h
   intro E w0 I0 F0 O0 Hd R e ds I F lp L tmv suf us w dst hs hf hu hd
   obtain ⟨u,rfl,hr⟩:=repL1 hu
   obtain ⟨b,C,hL,rfl⟩:=qjx hr
   obtain ⟨q,hq,hob⟩:=hs.ob n _ hlk
   rw [hL] at hq;cases hq
   obtain ⟨c,E',hb,hC,hone,hcs⟩:=hob
   obtain ⟨v0,v1,hc,r0,r1⟩:=Qjg hcs
   have hc:=Qhj hc
   subst hc
   obtain rfl:E'=t:=hone.2.resolve_left hB.nzT
   rw [qpj r0] at hb
   refine callsIn_wide.2 ((hB.fresh b w (by simp [World.cell?,hb]) (by simp [World.shape?,hb]) (by simp [World.frozen?,hb])).mono ?_)
   rintro ev w' ⟨rfl,rfl⟩
   have hself:=Qh9 (o:=0) (n:=.pointer (some ⟨b,0,none⟩)) hb
   have hI:∀ k,I k→(w.setCell ⟨b,0,none⟩ (.pointer (some ⟨b,0,none⟩))).heap[k]?=w.heap[k]?:=fun k hk=>Go.RowKit.Below.heap_setCell _ _ _ _ fun (e:k=b)=>(hf.lB n b C hL).2.2.1 (e ▸ hk)
   refine sp_turn (w':=w.setCell ⟨b,0,none⟩ (.pointer (some ⟨b,0,none⟩))) hs hf hL rfl rfl rfl (by rw [Qh6];exact Nat.le_refl _) (fun k _ hk=>Go.RowKit.Below.heap_setCell _ _ _ _ hk) ?_ (.tup [] #[] .nil)
   refine ⟨_,E',hself,by simpa using hC,⟨?_,.inr rfl⟩,?_⟩
   ·intro v hv
    simp at hv
    rcases hv with rfl | rfl
    ·rfl
    ·exact hone.1 _ (by simp)
   ·simp
    exact .cons _ _ _ _ (.ref n 0 b C hL) (.cons _ _ _ _ (qb4.mono (fun _ h=>h) hI (fun _ _ h=>h) r1) .nil)
  ·rename_i t n' x hlk
   split at h
   ·rename_i hn
    obtain ⟨rfl,rfl⟩:=hn
    cases h
    intro E w0 I0 F0 O0 Hd R e ds I F lp L tmv suf us w dst hs hf hu hd
    obtain ⟨u,rfl,hr⟩:=repL1 hu
    obtain ⟨b,C,hL,rfl⟩:=qjx hr
    obtain ⟨q,hq,hob⟩:=hs.ob _ _ hlk
    rw [hL] at hq;cases hq
    obtain ⟨c,E',hb,hC,hone,hcs⟩:=hob
    obtain ⟨v0,v1,hc,r0,r1⟩:=Qjg hcs
    have hc:=Qhj hc
    subst hc
    obtain ⟨b',C',hL',rfl⟩:=qjx r0
    rw [hL] at hL';cases hL'
    refine callsIn_wide.2 ((hB.used b w (by simp [World.cell?,hb])).mono ?_)
    rintro ev w' ⟨rfl,rfl⟩
    exact qpy hs hf (qjw _) (.tup [] #[] .nil)
   ·cases h
  ·cases h
 ·cases h
theorem str_at {gc:FuncId} {T U:Nat} (hB:BldOK cx.P gc g T U) (h:Qft T U (qbq st.objs) vs=some out):SpAt cx g st vs out:=by
 refine ⟨hB.entersS,?_⟩
 unfold Qft at h
 split at h
 ·rename_i n
  split at h
  ·rename_i t x hlk
   split at h
   case isFalse=>cases h
   rename_i ht
   subst ht
   cases h
   intro E w0 I0 F0 O0 Hd R e ds I F lp L tmv suf us w dst hs hf hu hd
   obtain ⟨u,rfl,hr⟩:=repL1 hu
   obtain ⟨b,C,hL,rfl⟩:=qjx hr
   obtain ⟨q,hq,hob⟩:=hs.ob _ _ hlk
   rw [hL] at hq;cases hq
   obtain ⟨c,E',hb,hC,hone,hcs⟩:=hob
   obtain ⟨v0,v1,hc,r0,r1⟩:=Qjg hcs
   have hc:=Qhj hc
   subst hc
   obtain rfl:E'=t:=hone.2.resolve_left hB.nzT
   rw [qg8 r1] at hb
   refine callsIn_wide.2 ((hB.strNil b v0 w hb).mono ?_)
   rintro ev w' ⟨rfl,rfl⟩
   exact qpy (w':=w.drew) hs hf ⟨rfl,rfl,rfl,Nat.le_refl _,fun _ _=>rfl⟩ (.str [])
  ·rename_i t x n' k hlk
   split at h
   ·rename_i u' xs hlk'
    split at h
    ·rename_i s hs'
     split at h
     ·rename_i hc0
      obtain ⟨rfl,rfl,hnn,hk0,hkl,hkm⟩:=hc0
      cases h
      intro E w0 I0 F0 O0 Hd R e ds I F lp L tmv suf us w dst hs hf hu hd
      obtain ⟨u,rfl,hr⟩:=repL1 hu
      obtain ⟨b,C,hL,rfl⟩:=qjx hr
      obtain ⟨q,hq,hob⟩:=hs.ob _ _ hlk
      rw [hL] at hq;cases hq
      obtain ⟨c,E',hb,hC,hone,hcs⟩:=hob
      obtain ⟨v0,v1,hc,r0,r1⟩:=Qjg hcs
      have hc:=Qhj hc
      subst hc
      obtain rfl:E'=t:=hone.2.resolve_left hB.nzT
      obtain ⟨q',hq',hob'⟩:=hs.ob _ _ hlk'
      rcases qqj r1 with ⟨g,C',cap,hL',rfl,hC',hn⟩ | ⟨_,_,_,h0⟩
      ·rw [hL'] at hq';cases hq'
       obtain ⟨cur,E2,hg,hCg,hle,hkx,hone2,hrep⟩:=hob'
       obtain rfl:E2=u':=hle.2.resolve_left hB.nzU
       have hlen:=Qbx _ _ hs'
       rw [List.length_take,Nat.min_eq_left hkl] at hlen
       have hrk:qb0 w I lp none (xs.take k) (cur.toList.take k):=by
        have h1:=hrep.take k
        rw [show k=k * 1 by omega,← qg2 hkx,Qfd _ _ hs',List.take_take,Nat.min_eq_left (by omega)] at h1
        simpa using h1
       have hbytes:=Qc0 _ _ _ hrk hs'
       have hcur:k≤cur.size:=by have:=hle.1;omega
       subst hlen
       refine callsIn_wide.2 ((hB.strSome b g cap v0 cur s w (by simpa using hb) hg (by intro e;subst e;simp at hk0) hn hcur ?_ ?_).mono ?_)
       ·unfold qdr at hkm;omega
       ·intro j x hx
        have hj:j < s.length:=(List.getElem?_eq_some_iff.1 hx).1
        have h1:=hbytes j x hx
        rw [List.getElem?_take_of_lt hj] at h1
        simpa using h1
       ·rintro ev w' ⟨rfl,rfl⟩
        have hfz:∀ (W:World) (a:Addr) (n:Nat),(W.freeze a n).os=W.os∧(W.freeze a n).tape=W.tape∧(W.freeze a n).output=W.output∧(W.freeze a n).heap.size=W.heap.size:=fun W a n=>by
         unfold World.freeze
         split<;>simp
        obtain ⟨f1,f2,f3,f4⟩:=hfz w.drew ⟨g,0,none⟩ s.length
        refine sp_gone (w':=w.drew.freeze ⟨g,0,none⟩ s.length) hs hf hL' f1 f2 f3 (Nat.le_of_eq f4.symm) (fun k' hk' hne=>?_) (fun L'=>.str s)
        rw [Qkz (fun e=>hne C' (by rw [e]))]
        rfl
      ·omega
     ·cases h
    ·cases h
   ·cases h
  ·cases h
 ·cases h
end any
def digs:Nat→Nat→List UInt8
 | 0,_=>[]
 | k+1,u=>if u < 10 then [UInt8.ofNat (48+u)] else digs k (u / 10)++[UInt8.ofNat (48+u % 10)]
def itoaF (n:Int):List UInt8:=if n < 0 then 45 :: digs 20 n.natAbs else digs 20 n.toNat
theorem Qn1:∀ (k u:Nat),u < 10 ^ k→0 < k→digs k u=Lib.decDigits u
 | 0,_,_,h=>absurd h (Nat.lt_irrefl _)
 | k+1,u,h,_=>by
  unfold digs
  rw [Lib.decDigits]
  by_cases hu:u < 10
  ·rw [if_pos hu,dif_pos hu]
  ·rw [if_neg hu,dif_neg hu]
   have h1:0 < k:=by
    rcases Nat.eq_zero_or_pos k with rfl | hk
    ·exact absurd (by simpa using h) hu
    ·exact hk
   have h2:u / 10 < 10 ^ k:=by
    refine Nat.div_lt_of_lt_mul ?_
    rw [Nat.pow_succ,Nat.mul_comm] at h
    exact h
   rw [Qn1 k (u / 10) h2 h1]
theorem itoa_eq (n:Int) (h0 : -9223372036854775808≤n) (h1:n≤9223372036854775807):itoaF n=Lib.itoa n:=by
 unfold itoaF Lib.itoa
 have hp:(18446744073709551616:Nat)≤10 ^ 20:=by decide
 rw [Qn1 20 n.natAbs (by omega) (by decide),Qn1 20 n.toNat (by omega) (by decide)]
def Qh3:List PV→Option Out
 | [.int .i64 n]=>if -9223372036854775808≤n∧n≤9223372036854775807 then some { v:=.str (itoaF n) } else none
 | _=>none
section at2
variable {P:Program} {mx:P.follows .mixedOrders=true} {gs:List Nat} {T:Nat} {et:List (Nat×Value)} {tabs:List (Nat×Array Value)} {ns:List Nat} {g:FuncId} {st:St} {vs:List PV} {out:Out}
theorem itoa_at (he:qhc P g) {gt:Nat} (ht:(gt,(Lib.pow10Tab.map fun z=>Value.int .u64 z).toArray)∈tabs) (hn:P.globalNamed "internal/strconv.uint64pow10"=some gt)
  (hc:∀ (n:Int), -9223372036854775808≤n→n≤9223372036854775807→∀ w:World,Lib.TabIs P w "internal/strconv.uint64pow10" .u64 Lib.pow10Tab→Calls P g #[.int .i64 n] w fun e w'=>e=.returned (.string ⟨(Lib.itoa n).toArray⟩)∧∃ k os,w'=Sort.grow (w.drewN k) os)
  (h:Qh3 vs=some out):SpAt (cxOf P mx gs T et tabs ns) g st vs out:=by
 refine ⟨he,?_⟩
 unfold Qh3 at h
 split at h
 ·rename_i n
  split at h
  ·rename_i hr
   cases h
   intro E w0 I0 F0 O0 Hd R e ds I F lp L tmv suf us w dst hs hf hu hd
   obtain ⟨u,rfl,h1⟩:=repL1 hu
   rw [qg1 h1]
   obtain ⟨_,E',fr,hp⟩:=hf.wd.tab _ ht
   have ht:Lib.TabIs P w "internal/strconv.uint64pow10" .u64 Lib.pow10Tab:=by
    unfold Lib.TabIs World.var?
    rw [hn]
    simp only [Option.bind_some,hp]
   refine callsIn_wide.2 ((hc n hr.1 hr.2 w ht).mono ?_)
   rintro ev w' ⟨rfl,k,os,rfl⟩
   rw [itoa_eq n hr.1 hr.2]
   exact qpy hs hf (Qgh (Lib.below_grow _ w (Nat.le_refl _) k os)) (.str _)
  ·cases h
 ·cases h
end at2
theorem cfg_loc {sp:FuncId→(Nm→Option Ob)→List PV→Option Out} (h:∀ g,Qti (sp g)) (g:FuncId) (σ:Nm→Option Ob) (vs:List PV) (hv:qca vs=true):sp g σ vs=sp g (fun _=>none) vs:=by
 refine h g σ _ vs fun nm hm=>?_
 rw [(qb9 hv).1] at hm
 have:qct σ qbp []=[]:=by simp [qct,qbp]
 rw [this] at hm
 cases hm
end Go.Ab


namespace Go.Ab
open Go
section
variable {cx:Cx} {E:Type} {w0:World} {I0 F0:Nat→Prop} {O0:Own} {Hd:Nat→Option Obj} {R:qmq E} {e:E} {ds:List Deferred} {I F:Nat→Prop} {lp:Nat→Option Nat} {L:Loc} {tmv suf:List Value} {st:St} {w:World} {dst:Option Nat}
end
section at_
variable {cx:Cx} {g:FuncId} {st:St} {vs:List PV} {out:Out} {k:IntKind}
end at_
section k_
variable {σ:Nm→Option KOb} {xs:List KV} {out:qcd} {k:IntKind}
end k_
end Go.Ab


namespace Go.Ab
open Go
def kCheck (T:Nat) (σ:Nm→Option KOb):List KV→Option (Bool×qcd)
 | [.ref n 0]=>match σ n with
  | some (.cells t [.cv v,x])=>if t=T then some (isNilPB v,{ v:=.tup [],upd:=some (n,.cells T [.ref n 0,x]) }) else none
  | some (.cells t [.ref n' 0,_])=>if t=T∧n'=n then some (true,{ v:=.tup [] }) else none
  | _=>none
 | _=>none
def kStr (T U:Nat) (σ:Nm→Option KOb):List KV→Option (Bool×qcd)
 | [.ref n 0]=>match σ n with
  | some (.cells t [_,.nils])=>if t=T then some (true,{ v:=.cv (.str []) }) else none
  | some (.cells t [_,.cv v])=>if t=T then some (isNilSB v,{ v:=.cv (.str []) }) else none
  | some (.cells t [_,.arr n' 1 0 k])=>match σ n' with
   | some (.arr 1 u xs)=>if t=T∧u=U∧n'≠n then some (okStrB k xs,{ v:=.cv (Ql0 (qbw k xs)),upd:=some (n',qrk),kill:=some n' }) else none
   | _=>none
  | _=>none
 | _=>none
section kb_
variable {σ:Nm→Option KOb} {xs:List KV} {out:qcd} {T U:Nat}
theorem kCheck_ok (hσ:∀ nm o,σ nm=some o→o.ok) (h:kCheck T σ xs=some (true,out)):out.Ok∧qp0 T (fun nm=>(σ nm).map KOb.ob) (pvL xs)=some out.out∧∀ f,out.out.v.ren f=out.out.v:=by
 unfold kCheck at h
 split at h
 case h_2=>cases h
 rename_i n
 split at h
 ·rename_i t v x hn
  split at h
  case isFalse=>cases h
  rename_i ht
  subst ht
  simp only [Option.some.injEq,Prod.mk.injEq] at h
  obtain ⟨hv,rfl⟩:=h
  obtain rfl:v=.nilP:=by unfold isNilPB at hv;split at hv<;>first | rfl | cases hv
  have hok:=hσ n _ hn
  refine ⟨⟨trivial,by simp,fun nm ob he=>by
   cases he
   exact ⟨trivial,hok.2.1,trivial⟩,by simp⟩,?_,fun _=>rfl⟩
  simp [pvL,KV.pv,qp0,hn,KOb.ob,qcd.out]
 ·rename_i t n' _ hn
  split at h
  case isFalse=>cases h
  rename_i ht
  obtain ⟨rfl,rfl⟩:=ht
  simp only [Option.some.injEq,Prod.mk.injEq,true_and] at h
  subst h
  refine ⟨qcd.plain trivial,?_,fun _=>rfl⟩
  simp [pvL,KV.pv,qp0,hn,KOb.ob,qcd.out]
 ·cases h
theorem bytesP_okV (xs:List PV):okV (Ql0 xs)=true:=by
 unfold Ql0;split<;>rfl
theorem kStr_ok (h:kStr T U σ xs=some (true,out)):out.Ok∧Qft T U (fun nm=>(σ nm).map KOb.ob) (pvL xs)=some out.out∧∀ f,out.out.v.ren f=out.out.v:=by
 unfold kStr at h
 split at h
 case h_2=>cases h
 rename_i n
 split at h
 ·rename_i t _ hn
  split at h
  case isFalse=>cases h
  rename_i ht
  subst ht
  simp only [Option.some.injEq,Prod.mk.injEq,true_and] at h
  subst h
  refine ⟨qcd.plain (v:=.cv (.str [])) rfl,?_,fun _=>rfl⟩
  simp [pvL,KV.pv,Qft,hn,KOb.ob,qcd.out]
 ·rename_i t _ v hn
  split at h
  case isFalse=>cases h
  rename_i ht
  subst ht
  simp only [Option.some.injEq,Prod.mk.injEq] at h
  obtain ⟨hv,rfl⟩:=h
  obtain rfl:v=.nilS:=by unfold isNilSB at hv;split at hv<;>first | rfl | cases hv
  refine ⟨qcd.plain (v:=.cv (.str [])) rfl,?_,fun _=>rfl⟩
  simp [pvL,KV.pv,Qft,hn,KOb.ob,qcd.out]
 ·rename_i t _ n' k hn
  split at h
  case h_2=>cases h
  rename_i u xs' hn'
  split at h
  case isFalse=>cases h
  rename_i ht
  obtain ⟨rfl,rfl,hne⟩:=ht
  simp only [Option.some.injEq,Prod.mk.injEq] at h
  obtain ⟨hv,rfl⟩:=h
  unfold okStrB at hv
  simp only [Bool.and_eq_true,decide_eq_true_eq] at hv
  obtain ⟨h1,h2,h3,h4⟩:=hv
  obtain ⟨s,hs⟩:=Option.isSome_iff_exists.1 h1
  refine ⟨⟨bytesP_okV _,by simp,fun nm ob he=>by cases he;exact rfl,by simp⟩,?_,fun f=>?_⟩
  ·simp [pvL,KV.pv,Qft,hn,hn',KOb.ob,qcd.out,hs,hne,h2,h3,h4,Ql0,qrk,qh7,qbw]
  ·simp [qcd.out,KV.pv,Ql0,qbw,hs,PV.ren]
 ·cases h
end kb_
end Go.Ab


namespace Go.Ab
open Go
def Qq6:qpw:=globsE [1] 407
def Qkw:Hint:=[(32,1,some [(1000004,1),(4000004,1)],false),(32,6,some [(3000004,1)],false),(32,9,some [],false),(59,1,some [(1000008,3),(2000008,1)],false),(13,3,none,true),(80,3,none,true)]
noncomputable def mkF (io shut leans:Bool) (gone:List Nat) (nt:Nat) (f:FuncId):RFn:={ nt,code:=((Qn4 Go.Proofs.Tryz.prog Qq6 (deadH Qkw Go.Proofs.Tryz.prog f) f).getD default).code,res:=((Qn4 Go.Proofs.Tryz.prog Qq6 (deadH Qkw Go.Proofs.Tryz.prog f) f).getD default).res,io,shut,leans,gone }
theorem qbk {io shut leans:Bool} {gone:List Nat} {nt:Nat} {f:FuncId} (h:(Qn4 Go.Proofs.Tryz.prog Qq6 (deadH Qkw Go.Proofs.Tryz.prog f) f).map (·.nt)=some nt):Qn4 Go.Proofs.Tryz.prog Qq6 (deadH Qkw Go.Proofs.Tryz.prog f) f=some { mkF io shut leans gone nt f with io:=false,shut:=false,leans:=false,gone:=[] }:=by
 obtain ⟨fn,h1,rfl⟩:=Option.map_eq_some_iff.1 h
 unfold mkF
 rw [h1]
 have h2:=h1
 unfold Qn4 at h2
 split at h2
 ·split at h2
  ·split at h2
   ·cases h2
   ·cases h2;rfl
  ·cases h2
 ·cases h2
noncomputable def fn9:RFn:=mkF false false false [] 36 9
noncomputable def fn10:RFn:=mkF false true false [] 77 10
noncomputable def fn11:RFn:=mkF false true false [] 30 11
noncomputable def fn12:RFn:=mkF false true false [] 50 12
noncomputable def fn13:RFn:=mkF false true false [] 23 13
noncomputable def fn14:RFn:=mkF false true true [] 15 14
noncomputable def fn15:RFn:=mkF false true true [] 43 15
noncomputable def fn16:RFn:=mkF false true false [] 27 16
noncomputable def fn17:RFn:=mkF false true true [] 11 17
noncomputable def fn18:RFn:=mkF false true false [] 22 18
noncomputable def fn24:RFn:=mkF false true false [] 26 24
noncomputable def fn26:RFn:=mkF false true false [] 50 26
noncomputable def fn27:RFn:=mkF false true false [] 71 27
noncomputable def fn28:RFn:=mkF false true true [] 51 28
noncomputable def fn29:RFn:=mkF false true false [] 13 29
noncomputable def fn30:RFn:=mkF true false false [1] 19 30
noncomputable def fn32:RFn:=mkF false true false [] 42 32
noncomputable def fn33:RFn:=mkF false true false [] 65 33
noncomputable def fn34:RFn:=mkF true false false [] 64 34
noncomputable def fn35:RFn:=mkF false true false [] 24 35
noncomputable def fn36:RFn:=mkF false true false [] 6 36
noncomputable def fn37:RFn:=mkF false true false [] 7 37
noncomputable def fn50:RFn:=mkF false true false [] 8 50
noncomputable def fn51:RFn:=mkF false true false [] 56 51
noncomputable def fn52:RFn:=mkF false true false [] 46 52
noncomputable def fn54:RFn:=mkF true false false [1,3,4] 32 54
noncomputable def fn55:RFn:=mkF false true false [] 35 55
noncomputable def fn56:RFn:=mkF false true false [] 9 56
noncomputable def fn57:RFn:=mkF false true false [] 5 57
noncomputable def fn58:RFn:=mkF true false false [] 22 58
noncomputable def fn59:RFn:=mkF false true true [] 66 59
noncomputable def fn60:RFn:=mkF false true false [] 36 60
noncomputable def fn61:RFn:=mkF false true false [] 9 61
noncomputable def fn80:RFn:=mkF false true false [] 37 80
noncomputable def fn82:RFn:=mkF true false false [1,3,4] 81 82
noncomputable def fn83:RFn:=mkF true false false [2,4,5] 51 83
noncomputable def fn85:RFn:=mkF false true false [] 19 85
noncomputable def fn86:RFn:=mkF true false false [1,2] 38 86
noncomputable def fn87:RFn:=mkF false true false [] 6 87
noncomputable def fn88:RFn:=mkF false true false [] 19 88
noncomputable def fn115:RFn:=mkF false true false [] 8 115
noncomputable def fn116:RFn:=mkF true false false [1] 17 116
noncomputable def fn117:RFn:=mkF true false false [1,3,4] 29 117
noncomputable def fn118:RFn:=mkF false true false [] 21 118
noncomputable def fn119:RFn:=mkF true false false [1,2] 53 119
noncomputable def fn152:RFn:=mkF true false false [1,3,4] 46 152
noncomputable def fn3:RFn:=mkF false true false [] 56 3
noncomputable def fn5:RFn:=mkF false true false [] 50 5
noncomputable def fn6:RFn:=mkF false true false [] 117 6
noncomputable def fn8:RFn:=mkF false true false [] 31 8
noncomputable def fn21:RFn:=mkF false true false [] 39 21
noncomputable def fn25:RFn:=mkF false true false [] 26 25
noncomputable def fn41:RFn:=mkF false true false [] 22 41
noncomputable def fn42:RFn:=mkF false true false [] 38 42
noncomputable def fn43:RFn:=mkF false true false [] 80 43
noncomputable def fn69:RFn:=mkF false true false [] 33 69
noncomputable def fn70:RFn:=mkF false true false [] 23 70
noncomputable def fn71:RFn:=mkF false true false [] 69 71
noncomputable def fn72:RFn:=mkF false true false [] 16 72
noncomputable def fn73:RFn:=mkF false true false [] 23 73
noncomputable def fn74:RFn:=mkF false true false [] 34 74
noncomputable def fn84:RFn:=mkF false true false [] 21 84
noncomputable def fn101:RFn:=mkF false true false [] 97 101
noncomputable def fn102:RFn:=mkF false true false [] 42 102
noncomputable def fn103:RFn:=mkF false true false [] 14 103
noncomputable def fn104:RFn:=mkF false true false [] 9 104
noncomputable def fn105:RFn:=mkF false true false [] 9 105
noncomputable def fn106:RFn:=mkF false true false [] 31 106
noncomputable def fn107:RFn:=mkF false true false [] 10 107
noncomputable def fn108:RFn:=mkF true false false [] 119 108
noncomputable def fn109:RFn:=mkF false true false [] 26 109
noncomputable def fn134:RFn:=mkF false true false [] 52 134
noncomputable def fn135:RFn:=mkF false true false [] 24 135
noncomputable def fn136:RFn:=mkF false true false [] 23 136
noncomputable def fn137:RFn:=mkF false true false [] 30 137
noncomputable def fn138:RFn:=mkF false true false [] 54 138
noncomputable def fn139:RFn:=mkF false true false [] 9 139
noncomputable def fn140:RFn:=mkF false true false [] 27 140
noncomputable def fn141:RFn:=mkF false true false [] 10 141
noncomputable def fn142:RFn:=mkF false true false [] 89 142
noncomputable def fn143:RFn:=mkF false true false [] 81 143
noncomputable def fn144:RFn:=mkF false true false [] 22 144
noncomputable def fn145:RFn:=mkF false true false [] 67 145
noncomputable def fn146:RFn:=mkF true false false [] 61 146
noncomputable def fn147:RFn:=mkF false true false [] 19 147
noncomputable def fn148:RFn:=mkF true false false [] 98 148
noncomputable def fn149:RFn:=mkF false true false [] 25 149
noncomputable def fn169:RFn:=mkF false true false [] 40 169
noncomputable def fn170:RFn:=mkF false true false [] 18 170
noncomputable def fn171:RFn:=mkF false true false [] 17 171
noncomputable def fn172:RFn:=mkF false true false [] 21 172
noncomputable def fn173:RFn:=mkF false true false [] 19 173
noncomputable def fn174:RFn:=mkF false true false [] 26 174
noncomputable def fn175:RFn:=mkF false true false [] 34 175
noncomputable def fn176:RFn:=mkF true false false [] 59 176
noncomputable def fn177:RFn:=mkF false true false [] 71 177
noncomputable def fn178:RFn:=mkF true false false [] 84 178
noncomputable def fn179:RFn:=mkF false true false [] 33 179
noncomputable def fn212:RFn:=mkF true false false [] 59 212
noncomputable def fn213:RFn:=mkF false true false [] 11 213
noncomputable def fn214:RFn:=mkF false true false [] 28 214
noncomputable def qc3:FuncId→Option RFn
 | 9=>some fn9
 | 10=>some fn10
 | 11=>some fn11
 | 12=>some fn12
 | 13=>some fn13
 | 14=>some fn14
 | 15=>some fn15
 | 16=>some fn16
 | 17=>some fn17
 | 18=>some fn18
 | 24=>some fn24
 | 26=>some fn26
 | 27=>some fn27
 | 28=>some fn28
 | 29=>some fn29
 | 30=>some fn30
 | 32=>some fn32
 | 33=>some fn33
 | 34=>some fn34
 | 35=>some fn35
 | 36=>some fn36
 | 37=>some fn37
 | 50=>some fn50
 | 51=>some fn51
 | 52=>some fn52
 | 54=>some fn54
 | 55=>some fn55
 | 56=>some fn56
 | 57=>some fn57
 | 58=>some fn58
 | 59=>some fn59
 | 60=>some fn60
 | 61=>some fn61
 | 80=>some fn80
 | 82=>some fn82
 | 83=>some fn83
 | 85=>some fn85
 | 86=>some fn86
 | 87=>some fn87
 | 88=>some fn88
 | 115=>some fn115
 | 116=>some fn116
 | 117=>some fn117
 | 118=>some fn118
 | 119=>some fn119
 | 152=>some fn152
 | 3=>some fn3
 | 5=>some fn5
 | 6=>some fn6
 | 8=>some fn8
 | 21=>some fn21
 | 25=>some fn25
 | 41=>some fn41
 | 42=>some fn42
 | 43=>some fn43
 | 69=>some fn69
 | 70=>some fn70
 | 71=>some fn71
 | 72=>some fn72
 | 73=>some fn73
 | 74=>some fn74
 | 84=>some fn84
 | 101=>some fn101
 | 102=>some fn102
 | 103=>some fn103
 | 104=>some fn104
 | 105=>some fn105
 | 106=>some fn106
 | 107=>some fn107
 | 108=>some fn108
 | 109=>some fn109
 | 134=>some fn134
 | 135=>some fn135
 | 136=>some fn136
 | 137=>some fn137
 | 138=>some fn138
 | 139=>some fn139
 | 140=>some fn140
 | 141=>some fn141
 | 142=>some fn142
 | 143=>some fn143
 | 144=>some fn144
 | 145=>some fn145
 | 146=>some fn146
 | 147=>some fn147
 | 148=>some fn148
 | 149=>some fn149
 | 169=>some fn169
 | 170=>some fn170
 | 171=>some fn171
 | 172=>some fn172
 | 173=>some fn173
 | 174=>some fn174
 | 175=>some fn175
 | 176=>some fn176
 | 177=>some fn177
 | 178=>some fn178
 | 179=>some fn179
 | 212=>some fn212
 | 213=>some fn213
 | 214=>some fn214
 | _=>none
end Go.Ab


set_option maxRecDepth 100000
namespace Go.Ab
open Go
def rsh0:FuncId→RSh×Bool
 | 9=>(.opt 4,false)
 | 12=>(.cl,true)
 | 14=>(.cl,false)
 | 15=>(.cl,false)
 | 17=>(.cl,false)
 | 28=>(.cl,false)
 | 59=>(.cl,false)
 | 118=>(.cl,true)
 | _=>(.cl,true)
def sh30_0:qlg:={ args:=[.ref (0,0) 0,.cv (.bool false)],ins:=[.cells 64 [.ref (0,0) 0,.arr (0,1) 1 0 0],.arr 1 5 []],res:=.tup [.cv (.bool false),.cv (.bool false)],outs:=[.cells 64 [.ref (0,0) 0,.arr (0,1) 1 0 0],.arr 1 5 []],news:=[],gone:=[1] }
def sh30_1:qlg:={ args:=[.ref (0,0) 0,.cv (.bool false)],ins:=[.cells 64 [.cv (.bool false),.cv (.bool false)]],res:=.tup [.cv (.bool false),.cv (.bool false)],outs:=[.cells 64 [.ref (0,0) 0,.arr (1,0) 1 0 0]],news:=[.arr 1 5 []],gone:=[] }
def shs30:List KV→List KOb→qlg
 | _ ,[.cells _ [.ref _ _,_],_]=>sh30_0
 | _,_=>sh30_1
def sh34:qlg:={ args:=[.ref (0,0) 0,.cv (.bool false)],ins:=[.whole 0 (.bool false)],res:=.cv (.bool false),outs:=[.whole 0 (.bool false)],news:=[],gone:=[] }
def shs34:List KV→List KOb→qlg
 | _,_=>sh34
def sh54:qlg:={ args:=[.ref (0,0) 0,.cv (.bool false),.cv (.bool false)],ins:=[.cells 0 [.arr (0,1) 1 0 0,.mp (0,2),.arr (0,3) 1 0 0,.arr (0,4) 1 0 0],.arr 1 0 [],.map [],.arr 1 0 [],.arr 1 0 []],res:=.tup [],outs:=[.cells 0 [.arr (0,1) 1 0 0,.mp (0,2),.arr (0,3) 1 0 0,.arr (0,4) 1 0 0],.arr 1 0 [],.map [],.arr 1 0 [],.arr 1 0 []],news:=[],gone:=[1,3,4] }
def shs54:List KV→List KOb→qlg
 | _,_=>sh54
def sh58:qlg:={ args:=[.ref (0,0) 0],ins:=[.whole 0 (.bool false)],res:=.cv (.bool false),outs:=[.whole 0 (.bool false)],news:=[],gone:=[] }
def shs58:List KV→List KOb→qlg
 | _,_=>sh58
def sh82:qlg:={ args:=[.ref (0,0) 0,.cv (.bool false),.cv (.bool false)],ins:=[.cells 0 [.arr (0,1) 1 0 0,.mp (0,2),.arr (0,3) 1 0 0,.arr (0,4) 1 0 0],.arr 1 0 [],.map [],.arr 1 0 [],.arr 1 0 []],res:=.tup [],outs:=[.cells 0 [.arr (0,1) 1 0 0,.mp (0,2),.arr (0,3) 1 0 0,.arr (0,4) 1 0 0],.arr 1 0 [],.map [],.arr 1 0 [],.arr 1 0 []],news:=[],gone:=[1,3,4] }
def shs82:List KV→List KOb→qlg
 | _,_=>sh82
def sh83:qlg:={ args:=[.ref (0,0) 0,.cv (.bool false),.arr (0,1) 1 0 0],ins:=[.cells 0 [.arr (0,2) 1 0 0,.mp (0,3),.arr (0,4) 1 0 0,.arr (0,5) 1 0 0],.arr 1 0 [],.arr 1 0 [],.map [],.arr 1 0 [],.arr 1 0 []],res:=.tup [],outs:=[.cells 0 [.arr (0,2) 1 0 0,.mp (0,3),.arr (0,4) 1 0 0,.arr (0,5) 1 0 0],.arr 1 0 [],.arr 1 0 [],.map [],.arr 1 0 [],.arr 1 0 []],news:=[],gone:=[2,4,5] }
def shs83:List KV→List KOb→qlg
 | _,_=>sh83
def sh86:qlg:={ args:=[.ref (0,0) 0,.cv (.bool false)],ins:=[.cells 0 [.arr (0,1) 3 0 0,.arr (0,2) 1 0 0,.cv (.bool false)],.arr 3 0 [],.arr 1 0 []],res:=.tup [],outs:=[.cells 0 [.arr (0,1) 3 0 0,.arr (0,2) 1 0 0,.cv (.bool false)],.arr 3 0 [],.arr 1 0 []],news:=[],gone:=[1,2] }
def shs86:List KV→List KOb→qlg
 | _,_=>sh86
def sh108:qlg:={ args:=[],ins:=[],res:=.un,outs:=[],news:=[],gone:=[] }
def shs108:List KV→List KOb→qlg
 | _,_=>sh108
def sh116_0:qlg:={ args:=[.ref (0,0) 0,.cv (.bool false)],ins:=[.cells 64 [.ref (0,0) 0,.arr (0,1) 1 0 0],.arr 1 5 []],res:=.cv (.bool false),outs:=[.cells 64 [.ref (0,0) 0,.arr (0,1) 1 0 0],.arr 1 5 []],news:=[],gone:=[1] }
def sh116_1:qlg:={ args:=[.ref (0,0) 0,.cv (.bool false)],ins:=[.cells 64 [.cv (.bool false),.cv (.bool false)]],res:=.cv (.bool false),outs:=[.cells 64 [.ref (0,0) 0,.arr (1,0) 1 0 0]],news:=[.arr 1 5 []],gone:=[] }
def Qpu:List KV→List KOb→qlg
 | _ ,[.cells _ [.ref _ _,_],_]=>sh116_0
 | _,_=>sh116_1
def sh117:qlg:={ args:=[.ref (0,0) 0,.cv (.bool false),.cv (.bool false)],ins:=[.cells 0 [.arr (0,1) 1 0 0,.mp (0,2),.arr (0,3) 1 0 0,.arr (0,4) 1 0 0],.arr 1 0 [],.map [],.arr 1 0 [],.arr 1 0 []],res:=.tup [],outs:=[.cells 0 [.arr (0,1) 1 0 0,.mp (0,2),.arr (0,3) 1 0 0,.arr (0,4) 1 0 0],.arr 1 0 [],.map [],.arr 1 0 [],.arr 1 0 []],news:=[],gone:=[1,3,4] }
def shs117:List KV→List KOb→qlg
 | _,_=>sh117
def sh119:qlg:={ args:=[.ref (0,0) 0,.cv (.bool false),.cv (.bool false)],ins:=[.cells 0 [.arr (0,1) 3 0 0,.arr (0,2) 1 0 0,.cv (.bool false)],.arr 3 0 [],.arr 1 0 []],res:=.tup [],outs:=[.cells 0 [.arr (0,1) 3 0 0,.arr (0,2) 1 0 0,.cv (.bool false)],.arr 3 0 [],.arr 1 0 []],news:=[],gone:=[1,2] }
def shs119:List KV→List KOb→qlg
 | _,_=>sh119
def sh146:qlg:={ args:=[],ins:=[],res:=.un,outs:=[],news:=[],gone:=[] }
def shs146:List KV→List KOb→qlg
 | _,_=>sh146
def sh148:qlg:={ args:=[],ins:=[],res:=.un,outs:=[],news:=[],gone:=[] }
def shs148:List KV→List KOb→qlg
 | _,_=>sh148
def sh152:qlg:={ args:=[.ref (0,0) 0,.cv (.bool false)],ins:=[.cells 0 [.arr (0,1) 1 0 0,.mp (0,2),.arr (0,3) 1 0 0,.arr (0,4) 1 0 0],.arr 1 0 [],.map [],.arr 1 0 [],.arr 1 0 []],res:=.tup [],outs:=[.cells 0 [.arr (0,1) 1 0 0,.mp (0,2),.arr (0,3) 1 0 0,.arr (0,4) 1 0 0],.arr 1 0 [],.map [],.arr 1 0 [],.arr 1 0 []],news:=[],gone:=[1,3,4] }
def shs152:List KV→List KOb→qlg
 | _,_=>sh152
def sh176:qlg:={ args:=[],ins:=[],res:=.un,outs:=[],news:=[],gone:=[] }
def shs176:List KV→List KOb→qlg
 | _,_=>sh176
def sh178:qlg:={ args:=[],ins:=[],res:=.un,outs:=[],news:=[],gone:=[] }
def shs178:List KV→List KOb→qlg
 | _,_=>sh178
def sh212:qlg:={ args:=[],ins:=[],res:=.un,outs:=[],news:=[],gone:=[] }
def shs212:List KV→List KOb→qlg
 | _,_=>sh212
def iof0:FuncId→Option (List KV→List KOb→qlg)
 | 30=>some shs30
 | 34=>some shs34
 | 54=>some shs54
 | 58=>some shs58
 | 82=>some shs82
 | 83=>some shs83
 | 86=>some shs86
 | 108=>some shs108
 | 116=>some Qpu
 | 117=>some shs117
 | 119=>some shs119
 | 146=>some shs146
 | 148=>some shs148
 | 152=>some shs152
 | 176=>some shs176
 | 178=>some shs178
 | 212=>some shs212
 | _=>none
def qk6 (b:KB) (dsh:Nat→RSh):Qb4:={ b,rsh:=rsh0,spF:=fun f=>f==89||f==79||f==53||f==31||f==151,asT:=fun f p=>none,dsh,ioF:=iof0,spK:=fun f=>if f=53 then some (kCheck 64) else if f=31 then some (kStr 64 5) else none,flatF:=fun f=>f==152 }
theorem run9 (B:KB) {E:Type} (h:qbl E) (dep:Nat) (e:E) (x0:PV) :
  qm2 (qk6 B (fun _=>.cl)) fn9 (.opt 4) h dep [.cv x0] e =
  qby (qbs [x0,nI 0,.int .i64 0]) (qci (fun z1=>qba (qba (qbc (.len .slice (.c (nth z1.1 0)))) (fun z2=>qba (qbc (.bin .lss .num false (.c (nth z1.1 2)) (.c
  z2))) (fun z3=>qck z3 (qba (qbc (.bin .lss .num true (.c (nth z1.1 2)) (.c (.int .i64 12)))) (fun z4=>some z4)) (some (.bool false))))) (fun z5=>qck z5 (qba (qbc
  (.idxAddr 4 (.c (nth z1.1 0)) (.c (nth z1.1 2)))) (fun z6=>qba (qbc (.fieldAddr 0 (.c z6))) (fun z7=>qba (qbc (.load 1 false (.c z7))) (fun z8=>qba (qbc (.idxAddr
  4 (.c (nth z1.1 0)) (.c (nth z1.1 2)))) (fun z9=>qba (qbc (.fieldAddr 2 (.c z9))) (fun z10=>qba (qbc (.load 1 false (.c z10))) (fun z11=>qba (qb3 B .cl (.fn 26
  []) [z11]) (fun z12=>qba (qbc (.idxAddr 4 (.c (nth z1.1 0)) (.c (nth z1.1 2)))) (fun z13=>qba (qbc (.fieldAddr 3 (.c z13))) (fun z14=>qba (qbc (.load 1 false (.c
  z14))) (fun z15=>qba (qbc (.build [.int .i64 0,.nilS,.nilS,.int .i64 0] [(0,(1,.c z8)),(2,(1,.c z12)),(3,(1,.c z15))])) (fun z16=>qby (qdx 4 [z16]) (qby (leN
  (qc1 0 (qbv [z16])) (qbv [z16])) (qby (qrn (leN (qbj (nth z1.1 1)) (qbv (qbd (nth z1.1 3)))) (leN (qc1 (qbj (nth z1.1 1)) (qbv (qbw (qbv [z16]) (qb5 0 [z16]))))
  2147483648)) (qba (qbc (.bin .add .num true (.c (nth z1.1 2)) (.c (.int .i64 1)))) (fun z17=>some (.inl ([nth z1.1 0,nI (qc1 (qbj (nth z1.1 1)) (qbv (qbw (qbv [z16])
  (qb5 0 [z16])))),z17,.sl 4 (ql3 (qbw (qbj (nth z1.1 1)) (qbd (nth z1.1 3))) (qbw (qbv [z16]) (qb5 0 [z16]))) false],z1.2)))))))))))))))))) (qba (qby (eqN (qbj
  (nth z1.1 1)) (qbv (qbd (nth z1.1 3)))) (some (.sl 4 (qbd (nth z1.1 3)) false,z1.2))) (fun z18=>some (.inr z18))))) ([x0,nI 0,.int .i64 0,.sl 4 [] false],e)):=by kernel_rfl
theorem run10 (B:KB) {E:Type} (h:qbl E) (dep:Nat) (e:E) (x0:PV) :
  qm2 (qk6 B (fun _=>.cl)) fn10 (.cl) h dep [.cv x0] e =
  qba (qba (qbc (.len .slice (.c x0))) (fun z1=>qba (qbc (.bin .lss .num true (.c z1) (.c (.int .i64 1)))) (fun z2=>qck z2 (some (.bool true)) (qba (qbc (.len
  .slice (.c x0))) (fun z3=>qba (qbc (.bin .gtr .num true (.c z3) (.c (.int .i64 400)))) (fun z4=>some z4)))))) (fun z5=>qck z5 (some (.bool false,e)) (qba (qbc (.len
  .slice (.c x0))) (fun z6=>qba (mkSO z6 z6) (fun z7=>qby (qbs [x0,nI z7,.int .i64 0]) (qci (fun z8=>qba (qbc (.len .slice (.c (nth z8.1 0)))) (fun z9=>qba
  (qbc (.bin .lss .num false (.c (nth z8.1 2)) (.c z9))) (fun z10=>qck z10 (qba (qbc (.idxAddr 3 (.c (nth z8.1 0)) (.c (nth z8.1 2)))) (fun z11=>qba (qbc (.load 3 true
  (.c z11))) (fun z12=>qba (qb3 B .cl (.fn 27 []) [z12]) (fun z13=>qba (qbc (.un .not (.c z13))) (fun z14=>qck z14 (qba (some (.bool false,z8.2)) (fun z15=>some
  (.inr z15))) (qby (qbs [nth z8.1 0,nI (qbj (nth z8.1 1)),nth z8.1 2,.int .i64 (-1),.int .i64 0]) (qci (fun z16=>qba (qbc (.idxAddr 3 (.c (nth z16.1 0)) (.c (nth
  z16.1 2)))) (fun z17=>qba (qbc (.fieldAddr 2 (.c z17))) (fun z18=>qba (qbc (.load 1 false (.c z18))) (fun z19=>qba (qbc (.len .slice (.c z19))) (fun z20=>qba
  (qbc (.bin .lss .num false (.c (nth z16.1 4)) (.c z20))) (fun z21=>qck z21 (qba (qbc (.idxAddr 3 (.c (nth z16.1 0)) (.c (nth z16.1 2)))) (fun z22=>qba (qbc
  (.fieldAddr 2 (.c z22))) (fun z23=>qba (qbc (.load 1 false (.c z23))) (fun z24=>qba (qbc (.idxAddr 1 (.c z24) (.c (nth z16.1 4)))) (fun z25=>qba (qbc (.load 1
  false (.c z25))) (fun z26=>qba (qba (qbc (.bin .leq .num false (.c z26) (.c (nth z16.1 3)))) (fun z27=>qck z27 (some (.bool true)) (qba (qbc (.bin .geq .num false
  (.c z26) (.c (nth z16.1 2)))) (fun z28=>some z28)))) (fun z29=>qck z29 (qba (qba (some (.bool false,z16.2)) (fun z30=>some (.inr z30))) (fun z31=>some (.inr z31)))
  (qba (qvp z26) (fun z32=>qby (ltN z32 (qbj (nth z16.1 1))) (qba (qpo (qbd (nth z16.1 5)) (qc1 0 z32) 0 1 false) (fun z33=>qba (qbc (.bin .add .num true (.c
  z33) (.c (.int .i64 1)))) (fun z34=>qba (qvp z26) (fun z35=>qby (ltN z35 (qbj (nth z16.1 1))) (qba (setO 1 (qbd (nth z16.1 5)) (qc1 0 z35) 0 1 z34) (fun z36=>qba
  (qbc (.bin .add .num true (.c (nth z16.1 4)) (.c (.int .i64 1)))) (fun z37=>some (.inl ([nth z16.1 0,nI (qbj (nth z16.1 1)),nth z16.1 2,z26,z37,.sl 1 z36 false],
  z16.2)))))))))))))))))) (qba (qba (qbc (.bin .add .num true (.c (nth z16.1 2)) (.c (.int .i64 1)))) (fun z38=>some (.inl ([nth z16.1 0,nI (qbj (nth z16.1 1)),z38,.sl 1
  (qbd (nth z16.1 5)) false],z16.2)))) (fun z39=>some (.inr z39))))))))) ([nth z8.1 0,nI (qbj (nth z8.1 1)),nth z8.1 2,.int .i64 (-1),.int .i64 0,.sl 1 (qbd (nth z8.1
  3)) false],z8.2)))))))) (qba (qby (qbs [nth z8.1 0,nI (qbj (nth z8.1 1)),.int .i64 0]) (qci (fun z40=>qba (qbc (.bin .add .num true (.c (nth z40.1 2)) (.c (.int
  .i64 1)))) (fun z41=>qba (qbc (.len .slice (.c (nth z40.1 0)))) (fun z42=>qba (qbc (.bin .lss .num false (.c z41) (.c z42))) (fun z43=>qck z43 (qba (qvp (nth
  z40.1 2)) (fun z44=>qby (ltN z44 (qbj (nth z40.1 1))) (qba (qpo (qbd (nth z40.1 3)) (qc1 0 z44) 0 1 false) (fun z45=>qba (qbc (.bin .neq .num true (.c z45) (.c
  (.int .i64 1)))) (fun z46=>qck z46 (qba (some (.bool false,z40.2)) (fun z47=>some (.inr z47))) (qba (qbc (.bin .add .num true (.c (nth z40.1 2)) (.c (.int .i64 1))))
  (fun z48=>some (.inl ([nth z40.1 0,nI (qbj (nth z40.1 1)),z48,.sl 1 (qbd (nth z40.1 3)) false],z40.2))))))))) (qba (some (.bool true,z40.2)) (fun z49=>some (.inr
  z49))))))) ([nth z8.1 0,nI (qbj (nth z8.1 1)),.int .i64 0,.sl 1 (qbd (nth z8.1 3)) false],z8.2))) (fun z50=>some (.inr z50)))))) ([x0,nI z7,.int .i64 0,.sl 1 (ql6 z7
  (.int .i64 0)) false],e)))))):=by kernel_rfl
theorem run14 (B:KB) {E:Type} (h:qbl E) (dep:Nat) (e:E) (x0:PV) :
  qm2 (qk6 B (fun _=>.cl)) fn14 (.cl) h dep [.cv x0] e =
  qba (qb3 B .cl (.fn 32 []) [x0]) (fun z1=>qba (qbc (.extract 0 (.c z1))) (fun z2=>qba (qbc (.extract 1 (.c z1))) (fun z3=>qba (qbc (.nilck (.c z2))) (fun z4
  => qba (qbc (.fieldAddr 0 (.c z4))) (fun z5=>qba (qbc (.fieldAddr 0 (.c z5))) (fun z6=>qba (qbc (.load 1 false (.c z6))) (fun z7=>some (z7,e)))))))):=by kernel_rfl
theorem run15 (B:KB) {E:Type} (h:qbl E) (dep:Nat) (e:E) (x0:PV) :
  qm2 (qk6 B (fun _=>.cl)) fn15 (.cl) h dep [.cv x0] e =
  qba (qb3 B .cl (.fn 17 []) [x0]) (fun z1=>qba (qbc (.len .slice (.c z1))) (fun z2=>qby (qbs [x0,nI 0,z1,z2,.int .i64 0]) (qci (fun z3=>qba (qbc (.bin
  .lss .num false (.c (nth z3.1 4)) (.c (nth z3.1 3)))) (fun z4=>qck z4 (qba (qbc (.idxAddr 1 (.c (nth z3.1 2)) (.c (nth z3.1 4)))) (fun z5=>qba (qbc (.load 1 false (.c
  z5))) (fun z6=>qba (qbc (.idxAddr 4 (.c (nth z3.1 0)) (.c (nth z3.1 4)))) (fun z7=>qba (qbc (.fieldAddr 2 (.c z7))) (fun z8=>qba (qbc (.load 1 false (.c z8)))
  (fun z9=>qba (qb3 B .cl (.fn 33 []) [z9]) (fun z10=>qck z10 (qba (qbc (.idxAddr 4 (.c (nth z3.1 0)) (.c (nth z3.1 4)))) (fun z11=>qba (qbc (.fieldAddr 2 (.c
  z11))) (fun z12=>qba (qbc (.load 1 false (.c z12))) (fun z13=>qba (qbc (.build [.nilS,.nilS] [(0,(1,.c z13)),(1,(1,.c z6))])) (fun z14=>qby (Qmc z14) (qba
  (qbc (.idxAddr 4 (.c (nth z3.1 0)) (.c (nth z3.1 4)))) (fun z15=>qba (qbc (.fieldAddr 2 (.c z15))) (fun z16=>qba (qbc (.load 1 false (.c z16))) (fun z17=>qba
  (qbc (.len .slice (.c z17))) (fun z18=>qba (qbc (.bin .sub .num true (.c z18) (.c (.int .i64 1)))) (fun z19=>qba (ioO B (.mk [.ref (0,0) 0,.cv (.bool false)] [.whole
  0 (.bool false)] (.cv (.bool false)) [.whole 0 (.bool false)] [] []) 34 [z19,z14]) (fun z20=>qby (qdx 1 [nth z20 0]) (qby (leN (qc1 0 (qbv [nth z20 0])) (qbv [nth z20
  0])) (qby (qrn (leN (qbj (nth z3.1 1)) (qbv (qbd (nth z3.1 5)))) (leN (qc1 (qbj (nth z3.1 1)) (qbv (qbw (qbv [nth z20 0]) (qb5 0 [nth z20 0])))) 2147483648)) (qba
  (qbc (.bin .add .num true (.c (nth z3.1 4)) (.c (.int .i64 1)))) (fun z21=>some (.inl ([nth z3.1 0,nI (qc1 (qbj (nth z3.1 1)) (qbv (qbw (qbv [nth z20 0]) (qb5 0 [nth
  z20 0])))),nth z3.1 2,nth z3.1 3,z21,.sl 1 (ql3 (qbw (qbj (nth z3.1 1)) (qbd (nth z3.1 5))) (qbw (qbv [nth z20 0]) (qb5 0 [nth z20 0]))) false],
  z3.2)))))))))))))))))) (qby (qdx 1 [.nilS]) (qby (leN (qc1 0 (qbv [.nilS])) (qbv [.nilS])) (qby (qrn (leN (qbj (nth z3.1 1)) (qbv (qbd (nth z3.1 5)))) (leN (qc1
  (qbj (nth z3.1 1)) (qbv (qbw (qbv [.nilS]) (qb5 0 [.nilS])))) 2147483648)) (qba (qbc (.bin .add .num true (.c (nth z3.1 4)) (.c (.int .i64 1)))) (fun z22=>some (.inl
  ([nth z3.1 0,nI (qc1 (qbj (nth z3.1 1)) (qbv (qbw (qbv [.nilS]) (qb5 0 [.nilS])))),nth z3.1 2,nth z3.1 3,z22,.sl 1 (ql3 (qbw (qbj (nth z3.1 1)) (qbd (nth z3.1
  5))) (qbw (qbv [.nilS]) (qb5 0 [.nilS]))) false],z3.2)))))))))))))) (qba (qby (okU (slO 1 1 (qbd (nth z3.1 5)) 0 (qbj (nth z3.1 1)))) (some (slO 1 1 (qbd (nth z3.1
  5)) 0 (qbj (nth z3.1 1)),z3.2))) (fun z23=>some (.inr z23))))) ([x0,nI 0,z1,z2,.int .i64 0,.sl 1 [] false],e)))):=by kernel_rfl
theorem run16 (B:KB) {E:Type} (h:qbl E) (dep:Nat) (e:E) (x0:PV) (x1:PV) :
  qm2 (qk6 B (fun _=>.cl)) fn16 (.cl) h dep [.cv x0,.cv x1] e =
  qba (qbc (.len .slice (.c x0))) (fun z1=>qba (qbc (.len .slice (.c x1))) (fun z2=>qba (qbc (.bin .neq .num false (.c z1) (.c z2))) (fun z3=>qck z3 (some (.bool
  false,e)) (qby (qbs [x0,x1,.int .i64 0]) (qci (fun z4=>qba (qbc (.len .slice (.c (nth z4.1 0)))) (fun z5=>qba (qbc (.bin .lss .num false (.c (nth z4.1 2)) (.c
  z5))) (fun z6=>qck z6 (qba (qbc (.idxAddr 3 (.c (nth z4.1 0)) (.c (nth z4.1 2)))) (fun z7=>qba (qbc (.load 3 true (.c z7))) (fun z8=>qba (qbc (.idxAddr 3 (.c
  (nth z4.1 1)) (.c (nth z4.1 2)))) (fun z9=>qba (qbc (.load 3 true (.c z9))) (fun z10=>qba (qb3 B .cl (.fn 35 []) [z8,z10]) (fun z11=>qba (qbc (.un .not (.c
  z11))) (fun z12=>qck z12 (qba (some (.bool false,z4.2)) (fun z13=>some (.inr z13))) (qba (qbc (.bin .add .num true (.c (nth z4.1 2)) (.c (.int .i64 1)))) (fun z14 =>
  some (.inl ([nth z4.1 0,nth z4.1 1,z14],z4.2))))))))))) (qba (some (.bool true,z4.2)) (fun z15=>some (.inr z15)))))) ([x0,x1,.int .i64 0],e)))))):=by kernel_rfl
theorem run17 (B:KB) {E:Type} (h:qbl E) (dep:Nat) (e:E) (x0:PV) :
  qm2 (qk6 B (fun _=>.cl)) fn17 (.cl) h dep [.cv x0] e =
  qba (qb3 B .cl (.fn 32 []) [x0]) (fun z1=>qba (qbc (.extract 0 (.c z1))) (fun z2=>qba (qbc (.extract 1 (.c z1))) (fun z3=>some (z3,e)))):=by kernel_rfl
theorem run18 (B:KB) {E:Type} (h:qbl E) (dep:Nat) (e:E) (x0:PV) :
  qm2 (qk6 B (fun _=>.cl)) fn18 (.cl) h dep [.cv x0] e =
  qba (qb3 B .cl (.fn 33 []) [x0]) (fun z1=>qba (qbc (.un .not (.c z1))) (fun z2=>qck z2 (some (.nilS,e)) (qba (qbc (.len .slice (.c x0))) (fun z3=>qba (qbc
  (.bin .sub .num true (.c z3) (.c (.int .i64 1)))) (fun z4=>qba (qb3 B .cl (.fn 36 []) [x0,z4]) (fun z5=>qba (qpt B (qjt dep h (fun z6=>fun z7=>fun z8=>qby
  (qqa z7 1) (qby (qb8 (nth z7 0) 3) (qba (qb3 B .cl (.fn 37 []) [.agg [qbi (nth z7 0) 0,qbi (nth z7 0) 1,qbi (nth z7 0) 2]]) (fun z9=>qck z9 (qby (qdx 1
  [qbi (nth z7 0) 1]) (qby (leN (qc1 0 (qbv [qbi (nth z7 0) 1])) (qbv [qbi (nth z7 0) 1])) (qby (qrn (leN (qbj (nth z6 2)) (qbv (qbd (nth z6 3)))) (leN (qc1 (qbj
  (nth z6 2)) (qbv (qbw (qbv [qbi (nth z7 0) 1]) (qb5 0 [qbi (nth z7 0) 1])))) 2147483648)) (some (true,([nth z6 0,nth z6 1,nI (qc1 (qbj (nth z6 2)) (qbv (qbw (qbv
  [qbi (nth z7 0) 1]) (qb5 0 [qbi (nth z7 0) 1])))),.sl 1 (ql3 (qbw (qbj (nth z6 2)) (qbd (nth z6 3))) (qbw (qbv [qbi (nth z7 0) 1]) (qb5 0 [qbi (nth z7 0)
  1]))) false],(none,z8))))))) (some (true,([nth z6 0,nth z6 1,nI (qbj (nth z6 2)),.sl 1 (qbd (nth z6 3)) false],(none,z8))))))))) dep z5 ([.nilS,z5,nI 0,.sl 1 []
  false],(none,e))) (fun z10=>qzq (qsj z10.2.1) (qby (okU (slO 1 1 (qbd (nth z10.1 3)) 0 (qbj (nth z10.1 2)))) (some (slO 1 1 (qbd (nth z10.1 3)) 0 (qbj (nth z10.1
  2)),z10.2.2))) (qzq (Qdu z10.2.1) (some (nth z10.1 0,z10.2.2)) none)))))))):=by kernel_rfl
theorem run24 (B:KB) {E:Type} (h:qbl E) (dep:Nat) (e:E) (x0:PV) (x1:PV) :
  qm2 (qk6 B (fun _=>.cl)) fn24 (.cl) h dep [.cv x0,.cv x1] e =
  qba (qbc (.len .slice (.c x0))) (fun z1=>qba (qbc (.len .slice (.c x1))) (fun z2=>qba (qbc (.bin .neq .num false (.c z1) (.c z2))) (fun z3=>qck z3 (some (.bool
  false,e)) (qby (qbs [x0,x1,.int .i64 0]) (qci (fun z4=>qba (qbc (.len .slice (.c (nth z4.1 0)))) (fun z5=>qba (qbc (.bin .lss .num false (.c (nth z4.1 2)) (.c
  z5))) (fun z6=>qck z6 (qba (qbc (.idxAddr 1 (.c (nth z4.1 0)) (.c (nth z4.1 2)))) (fun z7=>qba (qbc (.load 1 false (.c z7))) (fun z8=>qba (qbc (.idxAddr 1 (.c
  (nth z4.1 1)) (.c (nth z4.1 2)))) (fun z9=>qba (qbc (.load 1 false (.c z9))) (fun z10=>qba (qbc (.bin .neq .num false (.c z8) (.c z10))) (fun z11=>qck z11 (qba
  (some (.bool false,z4.2)) (fun z12=>some (.inr z12))) (qba (qbc (.bin .add .num true (.c (nth z4.1 2)) (.c (.int .i64 1)))) (fun z13=>some (.inl ([nth z4.1 0,nth z4.1 1,
  z13],z4.2)))))))))) (qba (some (.bool true,z4.2)) (fun z14=>some (.inr z14)))))) ([x0,x1,.int .i64 0],e)))))):=by kernel_rfl
theorem run26 (B:KB) {E:Type} (h:qbl E) (dep:Nat) (e:E) (x0:PV) :
  qm2 (qk6 B (fun _=>.cl)) fn26 (.cl) h dep [.cv x0] e =
  qby (qbs [x0,nI 0,.int .i64 0]) (qci (fun z1=>qba (qba (qbc (.len .slice (.c (nth z1.1 0)))) (fun z2=>qba (qbc (.bin .lss .num false (.c (nth z1.1 2)) (.c
  z2))) (fun z3=>qck z3 (qba (qbc (.bin .lss .num true (.c (nth z1.1 2)) (.c (.int .i64 60)))) (fun z4=>some z4)) (some (.bool false))))) (fun z5=>qck z5 (qba (qbc
  (.idxAddr 3 (.c (nth z1.1 0)) (.c (nth z1.1 2)))) (fun z6=>qba (qbc (.fieldAddr 0 (.c z6))) (fun z7=>qba (qbc (.load 1 false (.c z7))) (fun z8=>qba (qbc (.idxAddr
  3 (.c (nth z1.1 0)) (.c (nth z1.1 2)))) (fun z9=>qba (qbc (.fieldAddr 1 (.c z9))) (fun z10=>qba (qbc (.load 1 false (.c z10))) (fun z11=>qba (qb3 B .cl (.fn 50
  []) [z11]) (fun z12=>qba (qbc (.build [.int .i64 0,.str [],.nilS] [(0,(1,.c z8)),(1,(1,.c z12))])) (fun z13=>qby (qb8 z13 3) (qba (qbc (.idxAddr 3 (.c (nth
  z1.1 0)) (.c (nth z1.1 2)))) (fun z14=>qba (qbc (.fieldAddr 2 (.c z14))) (fun z15=>qba (qbc (.load 1 false (.c z15))) (fun z16=>qba (qbc (.idxAddr 3 (.c (nth z1.1
  0)) (.c (nth z1.1 2)))) (fun z17=>qba (qbc (.fieldAddr 2 (.c z17))) (fun z18=>qba (qbc (.load 1 false (.c z18))) (fun z19=>qba (qbc (.len .slice (.c z19))) (fun
  z20=>qba (qbc (.minmax false [.c z20,.c (.int .i64 60)])) (fun z21=>qba (qbc (.slice 1 (.c z16) none (some (.c z21)) none)) (fun z22=>qba (qnu 1 z22) (fun z23
  => qba (appO 1 (qbi z13 2) z23) (fun z24=>qby (qdx 3 [.agg [qbi z13 0,qbi z13 1,slO 1 1 z24 0 (qbv z24)]]) (qby (leN (qc1 0 (qbv [.agg [qbi z13 0,qbi z13 1,
  slO 1 1 z24 0 (qbv z24)]])) (qbv [.agg [qbi z13 0,qbi z13 1,slO 1 1 z24 0 (qbv z24)]])) (qby (qrn (leN (qbj (nth z1.1 1)) (qbv (qbd (nth z1.1 3)))) (leN (qc1 (qbj
  (nth z1.1 1)) (qbv (qbw (qbv [.agg [qbi z13 0,qbi z13 1,slO 1 1 z24 0 (qbv z24)]]) (qb5 0 [.agg [qbi z13 0,qbi z13 1,slO 1 1 z24 0 (qbv z24)]])))) 2147483648))
  (qba (qbc (.bin .add .num true (.c (nth z1.1 2)) (.c (.int .i64 1)))) (fun z25=>some (.inl ([nth z1.1 0,nI (qc1 (qbj (nth z1.1 1)) (qbv (qbw (qbv [.agg [qbi z13 0,
  qbi z13 1,slO 1 1 z24 0 (qbv z24)]]) (qb5 0 [.agg [qbi z13 0,qbi z13 1,slO 1 1 z24 0 (qbv z24)]])))),z25,.sl 3 (ql3 (qbw (qbj (nth z1.1 1)) (qbd (nth z1.1
  3))) (qbw (qbv [.agg [qbi z13 0,qbi z13 1,slO 1 1 z24 0 (qbv z24)]]) (qb5 0 [.agg [qbi z13 0,qbi z13 1,slO 1 1 z24 0 (qbv z24)]]))) false],
  z1.2))))))))))))))))))))))))))) (qba (qby (okU (slO 3 3 (qbd (nth z1.1 3)) 0 (qbj (nth z1.1 1)))) (some (slO 3 3 (qbd (nth z1.1 3)) 0 (qbj (nth z1.1 1)),z1.2))) (fun
  z26=>some (.inr z26))))) ([x0,nI 0,.int .i64 0,.sl 3 [] false],e)):=by kernel_rfl
theorem run32 (B:KB) {E:Type} (h:qbl E) (dep:Nat) (e:E) (x0:PV) :
  qm2 (qk6 B (fun _=>.cl)) fn32 (.cl) h dep [.cv x0] e =
  qba (qbc (.len .slice (.c x0))) (fun z1=>qby (qbs [nI 0,x0,z1,.int .i64 0]) (qci (fun z2=>qba (qbc (.bin .lss .num false (.c (nth z2.1 3)) (.c (nth z2.1 2))))
  (fun z3=>qck z3 (qba (qbc (.idxAddr 4 (.c (nth z2.1 1)) (.c (nth z2.1 3)))) (fun z4=>qba (qbc (.load 4 true (.c z4))) (fun z5=>qby (qb8 z5 4) (qba (qb3 B
  .cl (.fn 33 []) [qbi z5 2]) (fun z6=>qck z6 (qba (qbc (.len .slice (.c (qbi z5 2)))) (fun z7=>qba (qbc (.bin .sub .num true (.c z7) (.c (.int .i64 1)))) (fun z8 =>
  qba (ioO B (.mk [.ref (0,0) 0,.cv (.bool false),.cv (.bool false)] [.cells 0 [.arr (0,1) 1 0 0,.mp (0,2),.arr (0,3) 1 0 0,.arr (0,4) 1 0 0],.arr 1 0 [],.map [],.arr
  1 0 [],.arr 1 0 []] (.tup []) [.cells 0 [.arr (0,1) 1 0 0,.mp (0,2),.arr (0,3) 1 0 0,.arr (0,4) 1 0 0],.arr 1 0 [],.map [],.arr 1 0 [],.arr 1 0 []] [] [1,3,4]) 54
  [qbi z5 2,z8,nI (qbj (nth z2.1 6)),nI 0,nI (qbj (nth z2.1 8)),.sl 1 (qbd (nth z2.1 9)) false,.imap (qcw (nth z2.1 5)),.sl 1 [] false,.sl 1 (qbd (nth z2.1 10))
  false]) (fun z9=>qby (qdx 1 [slO 1 1 (qbd (nth z9 5)) 0 (qbj (nth z9 1))]) (qby (leN (qc1 0 (qbv [slO 1 1 (qbd (nth z9 5)) 0 (qbj (nth z9 1))])) (qbv [slO 1 1
  (qbd (nth z9 5)) 0 (qbj (nth z9 1))])) (qby (qrn (leN (qbj (nth z2.1 0)) (qbv (qbd (nth z2.1 4)))) (leN (qc1 (qbj (nth z2.1 0)) (qbv (qbw (qbv [slO 1 1 (qbd
  (nth z9 5)) 0 (qbj (nth z9 1))]) (qb5 0 [slO 1 1 (qbd (nth z9 5)) 0 (qbj (nth z9 1))])))) 2147483648)) (qba (qbc (.bin .add .num true (.c (nth z2.1 3)) (.c (.int .i64
  1)))) (fun z10=>some (.inl ([nI (qc1 (qbj (nth z2.1 0)) (qbv (qbw (qbv [slO 1 1 (qbd (nth z9 5)) 0 (qbj (nth z9 1))]) (qb5 0 [slO 1 1 (qbd (nth z9 5)) 0 (qbj (nth
  z9 1))])))),nth z2.1 1,nth z2.1 2,z10,.sl 1 (ql3 (qbw (qbj (nth z2.1 0)) (qbd (nth z2.1 4))) (qbw (qbv [slO 1 1 (qbd (nth z9 5)) 0 (qbj (nth z9 1))]) (qb5 0
  [slO 1 1 (qbd (nth z9 5)) 0 (qbj (nth z9 1))]))) false,.imap (qcw (nth z9 4)),nI (qbj (nth z9 0)),slO 1 1 (qbd (nth z9 5)) 0 (qbj (nth z9 1)),nI (qbj (nth z9 2)),
  .sl 1 (qbd (nth z9 3)) false,.sl 1 (qbd (nth z9 6)) false],z2.2)))))))))) (qby (qdx 1 [slO 1 1 [] 0 0]) (qby (leN (qc1 0 (qbv [slO 1 1 [] 0 0])) (qbv [slO 1 1 [] 0
  0])) (qby (qrn (leN (qbj (nth z2.1 0)) (qbv (qbd (nth z2.1 4)))) (leN (qc1 (qbj (nth z2.1 0)) (qbv (qbw (qbv [slO 1 1 [] 0 0]) (qb5 0 [slO 1 1 [] 0 0]))))
  2147483648)) (qba (qbc (.bin .add .num true (.c (nth z2.1 3)) (.c (.int .i64 1)))) (fun z11=>some (.inl ([nI (qc1 (qbj (nth z2.1 0)) (qbv (qbw (qbv [slO 1 1 [] 0 0])
  (qb5 0 [slO 1 1 [] 0 0])))),nth z2.1 1,nth z2.1 2,z11,.sl 1 (ql3 (qbw (qbj (nth z2.1 0)) (qbd (nth z2.1 4))) (qbw (qbv [slO 1 1 [] 0 0]) (qb5 0 [slO 1 1 [] 0
  0]))) false,.imap (qcw (nth z2.1 5)),nI (qbj (nth z2.1 6)),slO 1 1 [] 0 0,nI (qbj (nth z2.1 8)),.sl 1 (qbd (nth z2.1 9)) false,.sl 1 (qbd (nth z2.1 10)) false],
  z2.2)))))))))))) (qba (qby (okU (.tup [Qhq [slO 1 1 (qbd (nth z2.1 9)) 0 (qbj (nth z2.1 6)),.imap (qcw (nth z2.1 5)),nth z2.1 7,slO 1 1 (qbd (nth z2.1 10)) 0 (qbj
  (nth z2.1 8))] 0,slO 1 1 (qbd (nth z2.1 4)) 0 (qbj (nth z2.1 0))])) (some (.tup [Qhq [slO 1 1 (qbd (nth z2.1 9)) 0 (qbj (nth z2.1 6)),.imap (qcw (nth z2.1 5)),nth
  z2.1 7,slO 1 1 (qbd (nth z2.1 10)) 0 (qbj (nth z2.1 8))] 0,slO 1 1 (qbd (nth z2.1 4)) 0 (qbj (nth z2.1 0))],z2.2))) (fun z12=>some (.inr z12))))) ([nI 0,x0,z1,.int
  .i64 0,.sl 1 [] false,.imap [],nI 0,.nilS,nI 0,.sl 1 [] false,.sl 1 [] false],e))):=by kernel_rfl
theorem run33 (B:KB) {E:Type} (h:qbl E) (dep:Nat) (e:E) (x0:PV) :
  qm2 (qk6 B (fun _=>.cl)) fn33 (.cl) h dep [.cv x0] e =
  qba (qba (qbc (.len .slice (.c x0))) (fun z1=>qba (qbc (.bin .lss .num true (.c z1) (.c (.int .i64 1)))) (fun z2=>qck z2 (some (.bool true)) (qba (qbc (.len
  .slice (.c x0))) (fun z3=>qba (qbc (.bin .gtr .num true (.c z3) (.c (.int .i64 400)))) (fun z4=>some z4)))))) (fun z5=>qck z5 (some (.bool false,e)) (qba (qbc (.len
  .slice (.c x0))) (fun z6=>qba (mkSO z6 z6) (fun z7=>qba (qbc (.len .slice (.c x0))) (fun z8=>qby (qbs [x0,nI z7,x0,z8,.int .i64 0]) (qci (fun z9=>qba
  (qbc (.bin .lss .num false (.c (nth z9.1 4)) (.c (nth z9.1 3)))) (fun z10=>qck z10 (qba (qbc (.idxAddr 3 (.c (nth z9.1 2)) (.c (nth z9.1 4)))) (fun z11=>qba (qbc
  (.load 3 true (.c z11))) (fun z12=>qby (qb8 z12 3) (qba (qbc (.len .slice (.c (qbi z12 2)))) (fun z13=>qby (qbs [nth z9.1 0,nI (qbj (nth z9.1 1)),nth z9.1 4,
  .int .i64 (-1),nth z9.1 2,nth z9.1 3,nth z9.1 4,qbi z12 2,z13,.int .i64 0]) (qci (fun z14=>qba (qbc (.bin .lss .num false (.c (nth z14.1 9)) (.c (nth z14.1 8))))
  (fun z15=>qck z15 (qba (qbc (.idxAddr 1 (.c (nth z14.1 7)) (.c (nth z14.1 9)))) (fun z16=>qba (qbc (.load 1 false (.c z16))) (fun z17=>qba (qba (qbc (.bin .leq
  .num false (.c z17) (.c (nth z14.1 3)))) (fun z18=>qck z18 (some (.bool true)) (qba (qbc (.bin .geq .num false (.c z17) (.c (nth z14.1 2)))) (fun z19=>some z19)))) (fun
  z20=>qck z20 (qba (qba (some (.bool false,z14.2)) (fun z21=>some (.inr z21))) (fun z22=>some (.inr z22))) (qba (qvp z17) (fun z23=>qby (ltN z23 (qbj (nth z14.1
  1))) (qba (qpo (qbd (nth z14.1 13)) (qc1 0 z23) 0 1 false) (fun z24=>qba (qbc (.bin .add .num true (.c z24) (.c (.int .i64 1)))) (fun z25=>qba (qvp z17) (fun z26
  => qby (ltN z26 (qbj (nth z14.1 1))) (qba (setO 1 (qbd (nth z14.1 13)) (qc1 0 z26) 0 1 z25) (fun z27=>qba (qbc (.bin .add .num true (.c (nth z14.1 9)) (.c (.int .i64
  1)))) (fun z28=>some (.inl ([nth z14.1 0,nI (qbj (nth z14.1 1)),nth z14.1 2,z17,nth z14.1 4,nth z14.1 5,nth z14.1 6,nth z14.1 7,nth z14.1 8,z28,nth z14.1 10,nth z14.1
  11,nth z14.1 12,.sl 1 z27 false],z14.2))))))))))))))) (qba (qba (qb3 B .cl (.fn 55 []) [.agg [nth z14.1 10,nth z14.1 11,nth z14.1 12]]) (fun z29=>qba (qbc (.un
  .not (.c z29))) (fun z30=>qck z30 (qba (some (.bool false,z14.2)) (fun z31=>some (.inr z31))) (qba (qbc (.bin .add .num true (.c (nth z14.1 6)) (.c (.int .i64 1))))
  (fun z32=>some (.inl ([nth z14.1 0,nI (qbj (nth z14.1 1)),nth z14.1 4,nth z14.1 5,z32,.sl 1 (qbd (nth z14.1 13)) false],z14.2))))))) (fun z33=>some (.inr z33)))))
  ([nth z9.1 0,nI (qbj (nth z9.1 1)),nth z9.1 4,.int .i64 (-1),nth z9.1 2,nth z9.1 3,nth z9.1 4,qbi z12 2,z13,.int .i64 0,qbi z12 0,qbi z12 1,qbi z12 2,.sl 1
  (qbd (nth z9.1 5)) false],z9.2))))))) (qba (qba (qbc (.len .slice (.c (nth z9.1 0)))) (fun z34=>qba (qbc (.bin .sub .num true (.c z34) (.c (.int .i64 1)))) (fun z35
  => qba (qvp z35) (fun z36=>qby (ltN z36 (qbj (nth z9.1 1))) (qba (qpo (qbd (nth z9.1 5)) (qc1 0 z36) 0 1 false) (fun z37=>qba (qbc (.bin .add .num true (.c
  z37) (.c (.int .i64 1)))) (fun z38=>qba (qvp z35) (fun z39=>qby (ltN z39 (qbj (nth z9.1 1))) (qba (setO 1 (qbd (nth z9.1 5)) (qc1 0 z39) 0 1 z38) (fun z40=>qba
  (qkw B .cl true 56 [slO 1 1 z40 0 (qbj (nth z9.1 1)),.fn 57 []]) (fun z41=>qba (qbc (.un .not (.c z41))) (fun z42=>some (z42,z9.2))))))))))))) (fun z43=>some (.inr
  z43))))) ([x0,nI z7,x0,z8,.int .i64 0,.sl 1 (ql6 z7 (.int .i64 0)) false],e))))))):=by kernel_rfl
theorem run34 (B:KB) (x0:PV) (x1:PV) :
  qp4 (qk6 B (fun _=>.cl)) fn34 sh34 [x0,x1] =
  qba (Qb5 x1 0 1 false) (fun z1=>qba (qbc (.idxAddr 3 (.c z1) (.c x0))) (fun z2=>qba (qbc (.load 3 true (.c z2))) (fun z3=>qby (qb8 z3 3) (qba (qbc (.bin
  .eql .num true (.c (qbi z3 0)) (.c (.int .i64 5)))) (fun z4=>qck z4 (qba (qbc (.idxAddr 1 (.c (qbi z3 2)) (.c (.int .i64 0)))) (fun z5=>qba (qbc (.load 1 false (.c
  z5))) (fun z6=>qba (ioO B (.mk [.ref (0,0) 0,.cv (.bool false)] [.whole 0 (.bool false)] (.cv (.bool false)) [.whole 0 (.bool false)] [] []) 34 [z6,x1]) (fun z7=>some [nth
  z7 0,.agg (qf7 (nth z7 1))])))) (qba (qb3 B .cl (.fn 37 []) [.agg [qbi z3 0,qbi z3 1,qbi z3 2]]) (fun z8=>qck z8 (qba (ioO B (.mk [.ref (0,0) 0] [.whole 0
  (.bool false)] (.cv (.bool false)) [.whole 0 (.bool false)] [] []) 58 [x1]) (fun z9=>qby (qb8 (nth z9 0) 1) (qba (qbc (.len .slice (.c (qbi z3 2)))) (fun z10=>qba
  (mkSO z10 z10) (fun z11=>qba (qnu 1 (qbi z3 2)) (fun z12=>qby (leN (qc1 0 z11) (qbv (ql6 z11 (.int .i64 0)))) (qby (qbs [nI 0,nI z11,nI z11,.int .i64 0])
  (qci (fun z13=>qba (qbc (.bin .lss .num false (.c (nth z13.1 3)) (.c (nth z13.1 2)))) (fun z14=>qck z14 (qba (qvp (nth z13.1 3)) (fun z15=>qby (ltN z15 (qbj (nth
  z13.1 1))) (qba (qpo (qbd (nth z13.1 9)) (qc1 0 z15) 0 1 false) (fun z16=>qba (ioO B (.mk [.ref (0,0) 0,.cv (.bool false)] [.whole 0 (.bool false)] (.cv (.bool
  false)) [.whole 0 (.bool false)] [] []) 34 [z16,nth z13.1 4]) (fun z17=>qby (qdx 1 [nth z17 0]) (qby (leN (qc1 0 (qbv [nth z17 0])) (qbv [nth z17 0])) (qby (qrn (leN
  (qbj (nth z13.1 0)) (qbv (qbd (nth z13.1 8)))) (leN (qc1 (qbj (nth z13.1 0)) (qbv (qbw (qbv [nth z17 0]) (qb5 0 [nth z17 0])))) 2147483648)) (qba (qbc (.bin .add
  .num true (.c (nth z13.1 3)) (.c (.int .i64 1)))) (fun z18=>some (.inl ([nI (qc1 (qbj (nth z13.1 0)) (qbv (qbw (qbv [nth z17 0]) (qb5 0 [nth z17 0])))),nI (qbj (nth
  z13.1 1)),nth z13.1 2,z18,nth z17 1,nth z13.1 5,nth z13.1 6,nth z13.1 7,.sl 1 (ql3 (qbw (qbj (nth z13.1 0)) (qbd (nth z13.1 8))) (qbw (qbv [nth z17 0]) (qb5 0
  [nth z17 0]))) false,.sl 1 (qbd (nth z13.1 9)) false],z13.2))))))))))) (qba (qba (qkw B .cl false 59 [nth z13.1 5,nth z13.1 6,slO 1 1 (qbd (nth z13.1 8)) 0 (qbj
  (nth z13.1 0))]) (fun z19=>qba (qbc (.extract 0 (.c z19))) (fun z20=>qba (qbc (.extract 1 (.c z19))) (fun z21=>some [z20,.agg (qf7 (nth z13.1 4))])))) (fun z22 =>
  some (.inr z22))))) ([nI 0,nI z11,nI z11,.int .i64 0,nth z9 1,qbi z3 0,qbi (nth z9 0) 0,qbi z3 2,.sl 1 [] false,.sl 1 (ql3 (ql3 (qbw 0 (ql6 z11 (.int .i64 0)))
  (qbw z11 z12)) (qb5 (qc1 0 (qbv (qbw z11 z12))) (ql6 z11 (.int .i64 0)))) false],()))))))))) (qba (qbc (.len .slice (.c (qbi z3 2)))) (fun z23=>qba (mkSO z23
  z23) (fun z24=>qba (qnu 1 (qbi z3 2)) (fun z25=>qby (leN (qc1 0 z24) (qbv (ql6 z24 (.int .i64 0)))) (qby (qbs [nI 0,nI z24,nI z24,.int .i64 0]) (qci (fun
  z26=>qba (qbc (.bin .lss .num false (.c (nth z26.1 3)) (.c (nth z26.1 2)))) (fun z27=>qck z27 (qba (qvp (nth z26.1 3)) (fun z28=>qby (ltN z28 (qbj (nth z26.1 1)))
  (qba (qpo (qbd (nth z26.1 9)) (qc1 0 z28) 0 1 false) (fun z29=>qba (ioO B (.mk [.ref (0,0) 0,.cv (.bool false)] [.whole 0 (.bool false)] (.cv (.bool false)) [.whole 0
  (.bool false)] [] []) 34 [z29,nth z26.1 4]) (fun z30=>qby (qdx 1 [nth z30 0]) (qby (leN (qc1 0 (qbv [nth z30 0])) (qbv [nth z30 0])) (qby (qrn (leN (qbj (nth z26.1 0))
  (qbv (qbd (nth z26.1 8)))) (leN (qc1 (qbj (nth z26.1 0)) (qbv (qbw (qbv [nth z30 0]) (qb5 0 [nth z30 0])))) 2147483648)) (qba (qbc (.bin .add .num true (.c (nth
  z26.1 3)) (.c (.int .i64 1)))) (fun z31=>some (.inl ([nI (qc1 (qbj (nth z26.1 0)) (qbv (qbw (qbv [nth z30 0]) (qb5 0 [nth z30 0])))),nI (qbj (nth z26.1 1)),nth z26.1
  2,z31,nth z30 1,nth z26.1 5,nth z26.1 6,nth z26.1 7,.sl 1 (ql3 (qbw (qbj (nth z26.1 0)) (qbd (nth z26.1 8))) (qbw (qbv [nth z30 0]) (qb5 0 [nth z30 0]))) false,
  .sl 1 (qbd (nth z26.1 9)) false],z26.2))))))))))) (qba (qba (qkw B .cl false 59 [nth z26.1 5,nth z26.1 6,slO 1 1 (qbd (nth z26.1 8)) 0 (qbj (nth z26.1 0))]) (fun
  z32=>qba (qbc (.extract 0 (.c z32))) (fun z33=>qba (qbc (.extract 1 (.c z32))) (fun z34=>some [z33,.agg (qf7 (nth z26.1 4))])))) (fun z35=>some (.inr z35)))))
  ([nI 0,nI z24,nI z24,.int .i64 0,x1,qbi z3 0,qbi z3 1,qbi z3 2,.sl 1 [] false,.sl 1 (ql3 (ql3 (qbw 0 (ql6 z24 (.int .i64 0))) (qbw z24 z25)) (qb5 (qc1 0
  (qbv (qbw z24 z25))) (ql6 z24 (.int .i64 0)))) false],())))))))))))))):=by kernel_rfl
theorem run35 (B:KB) {E:Type} (h:qbl E) (dep:Nat) (e:E) (x0:PV) (x1:PV) :
  qm2 (qk6 B (fun _=>.cl)) fn35 (.cl) h dep [.cv x0,.cv x1] e =
  qby (Qmc x0) (qby (Qmc x1) (qba (Qb5 x0 0 1 false) (fun z1=>qba (Qb5 x1 0 1 false) (fun z2=>qba (qbc (.bin .eql .num false (.c z1) (.c z2))) (fun z3=>qck z3
  (qba (Qb5 x0 1 1 false) (fun z4=>qba (Qb5 x1 1 1 false) (fun z5=>qba (qbc (.bin .eql .str false (.c z4) (.c z5))) (fun z6=>qck z6 (qba (Qb5 x0 2 1 false) (fun
  z7=>qba (Qb5 x1 2 1 false) (fun z8=>qba (qb3 B .cl (.fn 24 []) [z7,z8]) (fun z9=>some (z9,e))))) (some (.bool false,e)))))) (some (.bool false,e))))))):=by kernel_rfl
theorem run36 (B:KB) {E:Type} (h:qbl E) (dep:Nat) (e:E) (x0:PV) (x1:PV) :
  qm2 (qk6 B (fun _=>.cl)) fn36 (.cl) h dep [.cv x0,.cv x1] e =
  qby (Qmc x0) (qby (Qmc x1) (qby (okU (.fn 60 [Qhq (qf7 x0) 0,Qhq (qf7 x1) 0])) (some (.fn 60 [Qhq (qf7 x0) 0,Qhq (qf7 x1) 0],e)))):=by kernel_rfl
theorem run37 (B:KB) {E:Type} (h:qbl E) (dep:Nat) (e:E) (x0:PV) :
  qm2 (qk6 B (fun _=>.cl)) fn37 (.cl) h dep [.cv x0] e =
  qby (Qmc x0) (qby (qdx 1 [.int .i64 3,.int .i64 14,.int .i64 8]) (qba (Qb5 x0 0 1 false) (fun z1=>qba (qkw B .cl true 61 [slO 1 1 [.int .i64 3,.int .i64 14,.int
  .i64 8] 0 (qbv [.int .i64 3,.int .i64 14,.int .i64 8]),z1]) (fun z2=>some (z2,e))))):=by kernel_rfl
theorem run50 (B:KB) {E:Type} (h:qbl E) (dep:Nat) (e:E) (x0:PV) :
  qm2 (qk6 B (fun _=>.cl)) fn50 (.cl) h dep [.cv x0] e =
  qba (qbc (.len .str (.c x0))) (fun z1=>qba (qbc (.minmax false [.c z1,.c (.int .i64 50)])) (fun z2=>qba (qbc (.strSlice (.c x0) none (some (.c z2)))) (fun z3 =>
  some (z3,e)))):=by kernel_rfl
theorem run54 (B:KB) (x0:PV) (x1:PV) (x2:PV) (x3:PV) (x4:PV) (x5:PV) (x6:PV) (x7:PV) (x8:PV) :
  qp4 (qk6 B (fun _=>.cl)) fn54 sh54 [x0,x1,x2,x3,x4,x5,x6,x7,x8] =
  qba (ioO B (.mk [.ref (0,0) 0,.cv (.bool false),.cv (.bool false)] [.cells 0 [.arr (0,1) 1 0 0,.mp (0,2),.arr (0,3) 1 0 0,.arr (0,4) 1 0 0],.arr 1 0 [],.map [],.arr
  1 0 [],.arr 1 0 []] (.tup []) [.cells 0 [.arr (0,1) 1 0 0,.mp (0,2),.arr (0,3) 1 0 0,.arr (0,4) 1 0 0],.arr 1 0 [],.map [],.arr 1 0 [],.arr 1 0 []] [] [1,3,4]) 82
  [x0,x1,nI (qbj x2),nI (qbj x3),nI (qbj x4),.sl 1 (qbd x5) false,.imap (qcw x6),.sl 1 (qbd x7) false,.sl 1 (qbd x8) false]) (fun z1=>qba (qbc (.idxAddr 3
  (.c x0) (.c x1))) (fun z2=>qba (qbc (.fieldAddr 0 (.c z2))) (fun z3=>qba (qbc (.load 1 false (.c z3))) (fun z4=>qba (qbc (.bin .eql .num true (.c z4) (.c (.int
  .i64 8)))) (fun z5=>qck z5 (qba (qbc (.idxAddr 3 (.c x0) (.c x1))) (fun z6=>qba (qbc (.fieldAddr 1 (.c z6))) (fun z7=>qba (qbc (.load 1 false (.c z7))) (fun z8
  => qby (qdx 1 [z8]) (qba (ioO B (.mk [.ref (0,0) 0,.cv (.bool false),.arr (0,1) 1 0 0] [.cells 0 [.arr (0,2) 1 0 0,.mp (0,3),.arr (0,4) 1 0 0,.arr (0,5) 1 0 0],
  .arr 1 0 [],.arr 1 0 [],.map [],.arr 1 0 [],.arr 1 0 []] (.tup []) [.cells 0 [.arr (0,2) 1 0 0,.mp (0,3),.arr (0,4) 1 0 0,.arr (0,5) 1 0 0],.arr 1 0 [],.arr 1 0 [],
  .map [],.arr 1 0 [],.arr 1 0 []] [] [2,4,5]) 83 [nI (qbj x2),nI (qbv [z8]),nI (qbj (nth z1 0)),nI (qbj (nth z1 1)),nI (qbj (nth z1 2)),.sl 1 [z8] false,.sl 1 (qbd
  (nth z1 3)) false,.imap (qcw (nth z1 4)),.sl 1 (qbd (nth z1 5)) false,.sl 1 (qbd (nth z1 6)) false]) (fun z9=>some [nI (qbj (nth z9 0)),nI (qbj (nth z9 1)),nI
  (qbj (nth z9 2)),.sl 1 (qbd (nth z9 4)) false,.imap (qcw (nth z9 5)),.sl 1 (qbd (nth z9 6)) false,.sl 1 (qbd (nth z9 7)) false])))))) (some [nI (qbj (nth z1 0)),
  nI (qbj (nth z1 1)),nI (qbj (nth z1 2)),.sl 1 (qbd (nth z1 3)) false,.imap (qcw (nth z1 4)),.sl 1 (qbd (nth z1 5)) false,.sl 1 (qbd (nth z1 6)) false])))))):=by kernel_rfl
theorem run55 (B:KB) {E:Type} (h:qbl E) (dep:Nat) (e:E) (x0:PV) :
  qm2 (qk6 B (fun _=>.cl)) fn55 (.cl) h dep [.cv x0] e =
  qby (Qmc x0) (qba (qb3 B .cl (.fn 84 []) []) (fun z1=>qba (Qb5 x0 0 1 false) (fun z2=>qba (qbc (.lookup .num (.agg [.int .i64 0,.int .i64 0,.bool false]) false
  (.c z1) (.c z2))) (fun z3=>qby (qb8 z3 3) (qba (qbc (.bin .eql (.plain [0,0,2]) false (.c (.agg [qbi z3 0,qbi z3 1,qbi z3 2])) (.c (.agg [.int .i64 0,.int
  .i64 0,.bool false])))) (fun z4=>qck z4 (some (.bool false,e)) (qba (qba (Qb5 x0 2 1 false) (fun z5=>qba (qbc (.len .slice (.c z5))) (fun z6=>qba (qbc (.bin
  .geq .num false (.c z6) (.c (qbi z3 0)))) (fun z7=>qck z7 (qba (Qb5 x0 2 1 false) (fun z8=>qba (qbc (.len .slice (.c z8))) (fun z9=>qba (qbc (.bin .leq .num
  false (.c z9) (.c (qbi z3 1)))) (fun z10=>qck z10 (qba (Qb5 x0 1 1 false) (fun z11=>qba (qbc (.bin .neq .str true (.c z11) (.c (.str [])))) (fun z12=>qba (qbc
  (.bin .eql .bool false (.c z12) (.c (qbi z3 2)))) (fun z13=>some z13)))) (some (.bool false)))))) (some (.bool false)))))) (fun z14=>some (z14,e))))))))):=by kernel_rfl
theorem run56 (B:KB) {E:Type} (h:qbl E) (dep:Nat) (e:E) (x0:PV) (x1:PV) :
  qm2 (qk6 B (fun _=>.cl)) fn56 (.cl) h dep [.cv x0,.cv x1] e =
  qba (qb3 B .cl (.fn 85 []) [x0,x1]) (fun z1=>qba (qbc (.bin .geq .num true (.c z1) (.c (.int .i64 0)))) (fun z2=>some (z2,e))):=by kernel_rfl
theorem run57 (B:KB) {E:Type} (h:qbl E) (dep:Nat) (e:E) (x0:PV) :
  qm2 (qk6 B (fun _=>.cl)) fn57 (.cl) h dep [.cv x0] e =
  qba (qbc (.bin .neq .num true (.c x0) (.c (.int .i64 1)))) (fun z1=>some (z1,e)):=by kernel_rfl
theorem run58 (B:KB) (x0:PV) :
  qp4 (qk6 B (fun _=>.cl)) fn58 sh58 [x0] =
  qba (Qb5 x0 1 1 false) (fun z1=>qba (qbc (.idxAddr 1 (.c z1) (.c (.int .i64 0)))) (fun z2=>qba (qbc (.load 1 false (.c z2))) (fun z3=>qba (Qb5 x0 1 1 false)
  (fun z4=>qba (qbc (.slice 1 (.c z4) (some (.c (.int .i64 1))) none none)) (fun z5=>qby (okSto z5 x0 1 1) (qba (qbc (.bin .lss .num true (.c z3) (.c (.int .i64 0))))
  (fun z6=>qck z6 (some [.str [63],.agg (qf7 (stoP z5 x0 1))]) (qba (qb3 B .cl (.fn 79 []) [z3]) (fun z7=>some [z7,.agg (qf7 (stoP z5 x0 1))]))))))))):=by kernel_rfl
theorem run59 (B:KB) {E:Type} (h:qbl E) (dep:Nat) (e:E) (x0:PV) (x1:PV) (x2:PV) :
  qm2 (qk6 B (fun _=>.cl)) fn59 (.cl) h dep [.cv x0,.cv x1,.cv x2] e =
  qba (qbc (.len .slice (.c x2))) (fun z1=>qby (qbs [x0,x1,x2,z1,.int .i64 0]) (qci (fun z2=>qba (qbc (.bin .lss .num false (.c (nth z2.1 4)) (.c (nth z2.1
  3)))) (fun z3=>qck z3 (qba (qbc (.idxAddr 1 (.c (nth z2.1 2)) (.c (nth z2.1 4)))) (fun z4=>qba (qbc (.load 1 false (.c z4))) (fun z5=>qba (ioO B (.mk [.ref (0,0)
  0,.cv (.bool false)] [.cells 0 [.arr (0,1) 3 0 0,.arr (0,2) 1 0 0,.cv (.bool false)],.arr 3 0 [],.arr 1 0 []] (.tup []) [.cells 0 [.arr (0,1) 3 0 0,.arr (0,2) 1 0 0,.cv
  (.bool false)],.arr 3 0 [],.arr 1 0 []] [] [1,2]) 86 [z5,nI (qbj (nth z2.1 5)),nI (qbj (nth z2.1 6)),nth z2.1 7,.sl 3 (qbd (nth z2.1 8)) false,.sl 1 (qbd (nth z2.1
  9)) false]) (fun z6=>qba (qbc (.bin .neq .iface true (.c (nth z6 2)) (.c .nilI))) (fun z7=>qck z7 (qba (qba (qb3 B .cl (.fn 87 []) [nth z6 2]) (fun z8=>some (.tup
  [.nilS,z8],z2.2))) (fun z9=>some (.inr z9))) (qba (qbc (.bin .add .num true (.c (nth z2.1 4)) (.c (.int .i64 1)))) (fun z10=>some (.inl ([nth z2.1 0,nth z2.1 1,nth z2.1
  2,nth z2.1 3,z10,nI (qbj (nth z6 0)),nI (qbj (nth z6 1)),nth z6 2,.sl 3 (qbd (nth z6 3)) false,.sl 1 (qbd (nth z6 4)) false],z2.2))))))))) (qba (qby (qb8
  (nth z2.1 0) 1) (qby (qb8 (nth z2.1 1) 1) (qby (qdx 3 [.agg [qbi (nth z2.1 0) 0,qbi (nth z2.1 1) 0,slO 1 1 (qbd (nth z2.1 9)) 0 (qbj (nth z2.1 6))]]) (qby (leN
  (qc1 0 (qbv [.agg [qbi (nth z2.1 0) 0,qbi (nth z2.1 1) 0,slO 1 1 (qbd (nth z2.1 9)) 0 (qbj (nth z2.1 6))]])) (qbv [.agg [qbi (nth z2.1 0) 0,qbi (nth z2.1 1) 0,
  slO 1 1 (qbd (nth z2.1 9)) 0 (qbj (nth z2.1 6))]])) (qby (qrn (leN (qbj (nth z2.1 5)) (qbv (qbd (nth z2.1 8)))) (leN (qc1 (qbj (nth z2.1 5)) (qbv (qbw (qbv [.agg
  [qbi (nth z2.1 0) 0,qbi (nth z2.1 1) 0,slO 1 1 (qbd (nth z2.1 9)) 0 (qbj (nth z2.1 6))]]) (qb5 0 [.agg [qbi (nth z2.1 0) 0,qbi (nth z2.1 1) 0,slO 1 1 (qbd (nth
  z2.1 9)) 0 (qbj (nth z2.1 6))]])))) 2147483648)) (qba (qkw B .cl true 33 [slO 3 3 (ql3 (qbw (qbj (nth z2.1 5)) (qbd (nth z2.1 8))) (qbw (qbv [.agg [qbi (nth z2.1
  0) 0,qbi (nth z2.1 1) 0,slO 1 1 (qbd (nth z2.1 9)) 0 (qbj (nth z2.1 6))]]) (qb5 0 [.agg [qbi (nth z2.1 0) 0,qbi (nth z2.1 1) 0,slO 1 1 (qbd (nth z2.1 9)) 0 (qbj
  (nth z2.1 6))]]))) 0 (qc1 (qbj (nth z2.1 5)) (qbv (qbw (qbv [.agg [qbi (nth z2.1 0) 0,qbi (nth z2.1 1) 0,slO 1 1 (qbd (nth z2.1 9)) 0 (qbj (nth z2.1 6))]]) (qb5 0
  [.agg [qbi (nth z2.1 0) 0,qbi (nth z2.1 1) 0,slO 1 1 (qbd (nth z2.1 9)) 0 (qbj (nth z2.1 6))]]))))]) (fun z11=>qck z11 (qby (okU (.tup [slO 3 3 (ql3 (qbw (qbj
  (nth z2.1 5)) (qbd (nth z2.1 8))) (qbw (qbv [.agg [qbi (nth z2.1 0) 0,qbi (nth z2.1 1) 0,slO 1 1 (qbd (nth z2.1 9)) 0 (qbj (nth z2.1 6))]]) (qb5 0 [.agg [qbi
  (nth z2.1 0) 0,qbi (nth z2.1 1) 0,slO 1 1 (qbd (nth z2.1 9)) 0 (qbj (nth z2.1 6))]]))) 0 (qc1 (qbj (nth z2.1 5)) (qbv (qbw (qbv [.agg [qbi (nth z2.1 0) 0,qbi
  (nth z2.1 1) 0,slO 1 1 (qbd (nth z2.1 9)) 0 (qbj (nth z2.1 6))]]) (qb5 0 [.agg [qbi (nth z2.1 0) 0,qbi (nth z2.1 1) 0,slO 1 1 (qbd (nth z2.1 9)) 0 (qbj (nth z2.1
  6))]])))),.int .i64 0])) (some (.tup [slO 3 3 (ql3 (qbw (qbj (nth z2.1 5)) (qbd (nth z2.1 8))) (qbw (qbv [.agg [qbi (nth z2.1 0) 0,qbi (nth z2.1 1) 0,slO 1 1
  (qbd (nth z2.1 9)) 0 (qbj (nth z2.1 6))]]) (qb5 0 [.agg [qbi (nth z2.1 0) 0,qbi (nth z2.1 1) 0,slO 1 1 (qbd (nth z2.1 9)) 0 (qbj (nth z2.1 6))]]))) 0 (qc1 (qbj
  (nth z2.1 5)) (qbv (qbw (qbv [.agg [qbi (nth z2.1 0) 0,qbi (nth z2.1 1) 0,slO 1 1 (qbd (nth z2.1 9)) 0 (qbj (nth z2.1 6))]]) (qb5 0 [.agg [qbi (nth z2.1 0) 0,
  qbi (nth z2.1 1) 0,slO 1 1 (qbd (nth z2.1 9)) 0 (qbj (nth z2.1 6))]])))),.int .i64 0],z2.2))) (qba (qbc (.load 1 false (.c (.ptr [.glob 1 407] 0)))) (fun z12=>qby
  (qb8 z12 1) (qba (qb3 B .cl (.fn 87 []) [qbi z12 0]) (fun z13=>some (.tup [.nilS,z13],z2.2)))))))))))) (fun z14=>some (.inr z14))))) ([x0,x1,x2,z1,.int .i64 0,
  nI 0,nI 0,.nilI,.sl 3 [] false,.sl 1 [] false],e))):=by kernel_rfl
theorem run60 (B:KB) {E:Type} (h:qbl E) (dep:Nat) (e:E) (x0:Nat) (x1:PV) (x2:PV) :
  qm2 (qk6 B (fun _=>.cl)) fn60 (.cl) h dep [.yld x0,.cv x1,.cv x2] e =
  qba (qbc (.load 1 false (.c x1))) (fun z1=>qba (qbc (.load 1 false (.c x2))) (fun z2=>qba (qbc (.idxAddr 3 (.c z1) (.c z2))) (fun z3=>qba (qbc (.load 3 true
  (.c z3))) (fun z4=>qba (h x0 [z4] e) (fun z5=>qby (qb8 (.bool z5.1) 1) (qba (qbc (.load 1 false (.c x1))) (fun z6=>qba (qbc (.load 1 false (.c x2))) (fun z7 =>
  qba (qbc (.idxAddr 3 (.c z6) (.c z7))) (fun z8=>qba (qbc (.fieldAddr 2 (.c z8))) (fun z9=>qba (qbc (.load 1 false (.c z9))) (fun z10=>qba (qbc (.len .slice
  (.c z10))) (fun z11=>qby (qbs [x1,x2,z10,z11,.int .i64 0]) (qci (fun z12=>qba (qbc (.bin .lss .num false (.c (nth z12.1 4)) (.c (nth z12.1 3)))) (fun z13=>qck
  z13 (qba (qbc (.idxAddr 1 (.c (nth z12.1 2)) (.c (nth z12.1 4)))) (fun z14=>qba (qbc (.load 1 false (.c z14))) (fun z15=>qba (qbc (.un .not (.c (nth z12.1 6))))
  (fun z16=>qck z16 (qba (some (.tup [],z12.2)) (fun z17=>some (.inr z17))) (qba (qbc (.load 1 false (.c (nth z12.1 0)))) (fun z18=>qba (qb3 B .cl (.fn 36 []) [z18,
  z15]) (fun z19=>qba (qpt B (qjt dep h (fun z20=>fun z21=>fun z22=>qby (qqa z21 1) (qby (qb8 (nth z21 0) 3) (qba (h (qbj (nth z20 6)) [.agg [qbi (nth
  z21 0) 0,qbi (nth z21 0) 1,qbi (nth z21 0) 2]] z22) (fun z23=>qby (qb8 (.bool z23.1) 1) (qba (qbc (.un .not (.c (qbi (.bool z23.1) 0)))) (fun z24=>qck z24
  (some (false,([nth z20 0,nth z20 1,nth z20 2,nth z20 3,nth z20 4,nth z20 5,nI (qbj (nth z20 6)),qbi (.bool z23.1) 0],(some (.exit 2),z23.2)))) (some (true,([nth z20
  0,nth z20 1,nth z20 2,nth z20 3,nth z20 4,nth z20 5,nI (qbj (nth z20 6)),qbi (.bool z23.1) 0],(none,z23.2))))))))))) dep z19 ([nth z12.1 0,nth z12.1 1,nth z12.1 2,
  nth z12.1 3,nth z12.1 4,z19,nI (qbj (nth z12.1 5)),nth z12.1 6],(none,z12.2))) (fun z25=>qzq (qsj z25.2.1) (qba (qbc (.bin .add .num true (.c (nth z25.1 4)) (.c
  (.int .i64 1)))) (fun z26=>some (.inl ([nth z25.1 0,nth z25.1 1,nth z25.1 2,nth z25.1 3,z26,nI (qbj (nth z25.1 6)),nth z25.1 7],z25.2.2)))) (qzq (Qdu z25.2.1) (qba
  (some (.tup [],z25.2.2)) (fun z27=>some (.inr z27))) (qzq (qzs z25.2.1 2) (qba (qbc (.bin .add .num true (.c (nth z25.1 4)) (.c (.int .i64 1)))) (fun z28=>some (.inl
  ([nth z25.1 0,nth z25.1 1,nth z25.1 2,nth z25.1 3,z28,nI (qbj (nth z25.1 6)),nth z25.1 7],z25.2.2)))) none)))))))))) (qba (some (.tup [],z12.2)) (fun z29=>some (.inr
  z29))))) ([x1,x2,z10,z11,.int .i64 0,nI x0,qbi (.bool z5.1) 0],z5.2)))))))))))))):=by kernel_rfl
theorem run61 (B:KB) {E:Type} (h:qbl E) (dep:Nat) (e:E) (x0:PV) (x1:PV) :
  qm2 (qk6 B (fun _=>.cl)) fn61 (.cl) h dep [.cv x0,.cv x1] e =
  qba (qb3 B .cl (.fn 88 []) [x0,x1]) (fun z1=>qba (qbc (.bin .geq .num true (.c z1) (.c (.int .i64 0)))) (fun z2=>some (z2,e))):=by kernel_rfl
theorem run82 (B:KB) (x0:PV) (x1:PV) (x2:PV) (x3:PV) (x4:PV) (x5:PV) (x6:PV) (x7:PV) (x8:PV) :
  qp4 (qk6 B (fun _=>.cl)) fn82 sh82 [x0,x1,x2,x3,x4,x5,x6,x7,x8] =
  qba (qbc (.idxAddr 3 (.c x0) (.c x1))) (fun z1=>qba (qbc (.load 3 true (.c z1))) (fun z2=>qby (qb8 z2 3) (qba (qbc (.bin .eql .num true (.c (qbi z2 0)) (.c
  (.int .i64 11)))) (fun z3=>qck z3 (qba (ioO B (.mk [.ref (0,0) 0,.cv (.bool false),.cv (.bool false)] [.cells 0 [.arr (0,1) 1 0 0,.mp (0,2),.arr (0,3) 1 0 0,.arr (0,
  4) 1 0 0],.arr 1 0 [],.map [],.arr 1 0 [],.arr 1 0 []] (.tup []) [.cells 0 [.arr (0,1) 1 0 0,.mp (0,2),.arr (0,3) 1 0 0,.arr (0,4) 1 0 0],.arr 1 0 [],.map [],.arr 1 0
  [],.arr 1 0 []] [] [1,3,4]) 117 [x0,x1,nI (qbj x2),nI (qbj x3),nI (qbj x4),.sl 1 (qbd x5) false,.imap (qcw x6),.sl 1 (qbd x7) false,.sl 1 (qbd x8) false])
  (fun z4=>some [nI (qbj (nth z4 0)),nI (qbj (nth z4 1)),nI (qbj (nth z4 2)),.sl 1 (qbd (nth z4 3)) false,.imap (qcw (nth z4 4)),.sl 1 (qbd (nth z4 5)) false,.sl 1
  (qbd (nth z4 6)) false])) (qba (qbc (.bin .eql .num true (.c (qbi z2 0)) (.c (.int .i64 8)))) (fun z5=>qck z5 (qby (qdx 1 [nI (qbj x2)]) (qby (leN (qc1 0 (qbv
  [nI (qbj x2)])) (qbv [nI (qbj x2)])) (qby (qrn (leN (qbj x3) (qbv (qbd x7))) (leN (qc1 (qbj x3) (qbv (qbw (qbv [nI (qbj x2)]) (qb5 0 [nI (qbj x2)]))))
  2147483648)) (qby (qdx 1 [qbi z2 1]) (qby (leN (qc1 0 (qbv [qbi z2 1])) (qbv [qbi z2 1])) (qby (qrn (leN (qbj x2) (qbv (qbd x5))) (leN (qc1 (qbj x2) (qbv
  (qbw (qbv [qbi z2 1]) (qb5 0 [qbi z2 1])))) 2147483648)) (qba (qbc (.len .slice (.c (qbi z2 2)))) (fun z6=>qby (qbs [x0,qbi z2 2,z6,.int .i64 0]) (qci
  (fun z7=>qba (qbc (.bin .lss .num false (.c (nth z7.1 3)) (.c (nth z7.1 2)))) (fun z8=>qck z8 (qba (qbc (.idxAddr 1 (.c (nth z7.1 1)) (.c (nth z7.1 3)))) (fun z9 =>
  qba (qbc (.load 1 false (.c z9))) (fun z10=>qba (ioO B (.mk [.ref (0,0) 0,.cv (.bool false),.cv (.bool false)] [.cells 0 [.arr (0,1) 1 0 0,.mp (0,2),.arr (0,3) 1 0
  0,.arr (0,4) 1 0 0],.arr 1 0 [],.map [],.arr 1 0 [],.arr 1 0 []] (.tup []) [.cells 0 [.arr (0,1) 1 0 0,.mp (0,2),.arr (0,3) 1 0 0,.arr (0,4) 1 0 0],.arr 1 0 [],.map
  [],.arr 1 0 [],.arr 1 0 []] [] [1,3,4]) 82 [nth z7.1 0,z10,nI (qbj (nth z7.1 4)),nI (qbj (nth z7.1 5)),nI (qbj (nth z7.1 6)),.sl 1 (qbd (nth z7.1 7)) false,.imap
  (qcw (nth z7.1 8)),.sl 1 (qbd (nth z7.1 9)) false,.sl 1 (qbd (nth z7.1 10)) false]) (fun z11=>qba (qbc (.bin .add .num true (.c (nth z7.1 3)) (.c (.int .i64 1))))
  (fun z12=>some (.inl ([nth z7.1 0,nth z7.1 1,nth z7.1 2,z12,nI (qbj (nth z11 0)),nI (qbj (nth z11 1)),nI (qbj (nth z11 2)),.sl 1 (qbd (nth z11 3)) false,.imap
  (qcw (nth z11 4)),.sl 1 (qbd (nth z11 5)) false,.sl 1 (qbd (nth z11 6)) false],z7.2))))))) (qba (some [nI (qbj (nth z7.1 4)),nI (qbj (nth z7.1 5)),nI (qbj (nth
  z7.1 6)),.sl 1 (qbd (nth z7.1 7)) false,.imap (qcw (nth z7.1 8)),.sl 1 (qbd (nth z7.1 9)) false,.sl 1 (qbd (nth z7.1 10)) false]) (fun z13=>some (.inr z13)))))
  ([x0,qbi z2 2,z6,.int .i64 0,nI (qc1 (qbj x2) (qbv (qbw (qbv [qbi z2 1]) (qb5 0 [qbi z2 1])))),nI (qc1 (qbj x3) (qbv (qbw (qbv [nI (qbj x2)]) (qb5 0 [nI
  (qbj x2)])))),nI (qbj x4),.sl 1 (ql3 (qbw (qbj x2) (qbd x5)) (qbw (qbv [qbi z2 1]) (qb5 0 [qbi z2 1]))) false,.imap (qcw x6),.sl 1 (ql3 (qbw (qbj x3)
  (qbd x7)) (qbw (qbv [nI (qbj x2)]) (qb5 0 [nI (qbj x2)]))) false,.sl 1 (qbd x8) false],())))))))))) (qba (qbc (.bin .eql .num true (.c (qbi z2 0)) (.c (.int
  .i64 3)))) (fun z14=>qck z14 (qck z14 (qba (qkw B .cl true 118 [Qhq [slO 1 1 (qbd x5) 0 (qbj x2),.imap (qcw x6),slO 1 1 (qbd x7) 0 (qbj x3),slO 1 1 (qbd
  x8) 0 (qbj x4)] 0,qbi z2 1]) (fun z15=>qby (qdx 1 [z15]) (qby (leN (qc1 0 (qbv [z15])) (qbv [z15])) (qby (qrn (leN (qbj x3) (qbv (qbd x7))) (leN (qc1 (qbj x3)
  (qbv (qbw (qbv [z15]) (qb5 0 [z15])))) 2147483648)) (qba (qbc (.len .slice (.c (qbi z2 2)))) (fun z16=>qby (qbs [x0,qbi z2 2,z16,.int .i64 0]) (qci (fun
  z17=>qba (qbc (.bin .lss .num false (.c (nth z17.1 3)) (.c (nth z17.1 2)))) (fun z18=>qck z18 (qba (qbc (.idxAddr 1 (.c (nth z17.1 1)) (.c (nth z17.1 3)))) (fun z19 =>
  qba (qbc (.load 1 false (.c z19))) (fun z20=>qba (ioO B (.mk [.ref (0,0) 0,.cv (.bool false),.cv (.bool false)] [.cells 0 [.arr (0,1) 1 0 0,.mp (0,2),.arr (0,3) 1 0
  0,.arr (0,4) 1 0 0],.arr 1 0 [],.map [],.arr 1 0 [],.arr 1 0 []] (.tup []) [.cells 0 [.arr (0,1) 1 0 0,.mp (0,2),.arr (0,3) 1 0 0,.arr (0,4) 1 0 0],.arr 1 0 [],.map
  [],.arr 1 0 [],.arr 1 0 []] [] [1,3,4]) 82 [nth z17.1 0,z20,nI (qbj (nth z17.1 4)),nI (qbj (nth z17.1 5)),nI (qbj (nth z17.1 6)),.sl 1 (qbd (nth z17.1 7)) false,
  .imap (qcw (nth z17.1 8)),.sl 1 (qbd (nth z17.1 9)) false,.sl 1 (qbd (nth z17.1 10)) false]) (fun z21=>qba (qbc (.bin .add .num true (.c (nth z17.1 3)) (.c (.int
  .i64 1)))) (fun z22=>some (.inl ([nth z17.1 0,nth z17.1 1,nth z17.1 2,z22,nI (qbj (nth z21 0)),nI (qbj (nth z21 1)),nI (qbj (nth z21 2)),.sl 1 (qbd (nth z21 3))
  false,.imap (qcw (nth z21 4)),.sl 1 (qbd (nth z21 5)) false,.sl 1 (qbd (nth z21 6)) false],z17.2))))))) (qba (some [nI (qbj (nth z17.1 4)),nI (qbj (nth z17.1 5)),
  nI (qbj (nth z17.1 6)),.sl 1 (qbd (nth z17.1 7)) false,.imap (qcw (nth z17.1 8)),.sl 1 (qbd (nth z17.1 9)) false,.sl 1 (qbd (nth z17.1 10)) false]) (fun z23=>some
  (.inr z23))))) ([x0,qbi z2 2,z16,.int .i64 0,nI (qbj x2),nI (qc1 (qbj x3) (qbv (qbw (qbv [z15]) (qb5 0 [z15])))),nI (qbj x4),.sl 1 (qbd x5) false,.imap
  (qcw x6),.sl 1 (ql3 (qbw (qbj x3) (qbd x7)) (qbw (qbv [z15]) (qb5 0 [z15]))) false,.sl 1 (qbd x8) false],())))))))) (qba (qbc (.len .slice (.c (qbi z2
  2)))) (fun z24=>qby (qbs [x0,qbi z2 2,z24,.int .i64 0]) (qci (fun z25=>qba (qbc (.bin .lss .num false (.c (nth z25.1 3)) (.c (nth z25.1 2)))) (fun z26=>qck
  z26 (qba (qbc (.idxAddr 1 (.c (nth z25.1 1)) (.c (nth z25.1 3)))) (fun z27=>qba (qbc (.load 1 false (.c z27))) (fun z28=>qba (ioO B (.mk [.ref (0,0) 0,.cv (.bool
  false),.cv (.bool false)] [.cells 0 [.arr (0,1) 1 0 0,.mp (0,2),.arr (0,3) 1 0 0,.arr (0,4) 1 0 0],.arr 1 0 [],.map [],.arr 1 0 [],.arr 1 0 []] (.tup []) [.cells 0
  [.arr (0,1) 1 0 0,.mp (0,2),.arr (0,3) 1 0 0,.arr (0,4) 1 0 0],.arr 1 0 [],.map [],.arr 1 0 [],.arr 1 0 []] [] [1,3,4]) 82 [nth z25.1 0,z28,nI (qbj (nth z25.1 4)),
  nI (qbj (nth z25.1 5)),nI (qbj (nth z25.1 6)),.sl 1 (qbd (nth z25.1 7)) false,.imap (qcw (nth z25.1 8)),.sl 1 (qbd (nth z25.1 9)) false,.sl 1 (qbd (nth z25.1 10))
  false]) (fun z29=>qba (qbc (.bin .add .num true (.c (nth z25.1 3)) (.c (.int .i64 1)))) (fun z30=>some (.inl ([nth z25.1 0,nth z25.1 1,nth z25.1 2,z30,nI (qbj (nth z29
  0)),nI (qbj (nth z29 1)),nI (qbj (nth z29 2)),.sl 1 (qbd (nth z29 3)) false,.imap (qcw (nth z29 4)),.sl 1 (qbd (nth z29 5)) false,.sl 1 (qbd (nth z29 6)) false],
  z25.2))))))) (qba (some [nI (qbj (nth z25.1 4)),nI (qbj (nth z25.1 5)),nI (qbj (nth z25.1 6)),.sl 1 (qbd (nth z25.1 7)) false,.imap (qcw (nth z25.1 8)),.sl 1 (qbd
  (nth z25.1 9)) false,.sl 1 (qbd (nth z25.1 10)) false]) (fun z31=>some (.inr z31))))) ([x0,qbi z2 2,z24,.int .i64 0,nI (qbj x2),nI (qbj x3),nI (qbj x4),.sl 1
  (qbd x5) false,.imap (qcw x6),.sl 1 (qbd x7) false,.sl 1 (qbd x8) false],()))))) (qba (qbc (.bin .eql .num true (.c (qbi z2 0)) (.c (.int .i64 14)))) (fun z32
  => qck z32 (qba (qkw B .cl true 118 [Qhq [slO 1 1 (qbd x5) 0 (qbj x2),.imap (qcw x6),slO 1 1 (qbd x7) 0 (qbj x3),slO 1 1 (qbd x8) 0 (qbj x4)] 0,qbi z2 1])
  (fun z33=>qby (qdx 1 [z33]) (qby (leN (qc1 0 (qbv [z33])) (qbv [z33])) (qby (qrn (leN (qbj x3) (qbv (qbd x7))) (leN (qc1 (qbj x3) (qbv (qbw (qbv [z33]) (qb5
  0 [z33])))) 2147483648)) (qba (qbc (.len .slice (.c (qbi z2 2)))) (fun z34=>qby (qbs [x0,qbi z2 2,z34,.int .i64 0]) (qci (fun z35=>qba (qbc (.bin .lss
  .num false (.c (nth z35.1 3)) (.c (nth z35.1 2)))) (fun z36=>qck z36 (qba (qbc (.idxAddr 1 (.c (nth z35.1 1)) (.c (nth z35.1 3)))) (fun z37=>qba (qbc (.load 1 false
  (.c z37))) (fun z38=>qba (ioO B (.mk [.ref (0,0) 0,.cv (.bool false),.cv (.bool false)] [.cells 0 [.arr (0,1) 1 0 0,.mp (0,2),.arr (0,3) 1 0 0,.arr (0,4) 1 0 0],.arr
  1 0 [],.map [],.arr 1 0 [],.arr 1 0 []] (.tup []) [.cells 0 [.arr (0,1) 1 0 0,.mp (0,2),.arr (0,3) 1 0 0,.arr (0,4) 1 0 0],.arr 1 0 [],.map [],.arr 1 0 [],.arr 1 0
  []] [] [1,3,4]) 82 [nth z35.1 0,z38,nI (qbj (nth z35.1 4)),nI (qbj (nth z35.1 5)),nI (qbj (nth z35.1 6)),.sl 1 (qbd (nth z35.1 7)) false,.imap (qcw (nth z35.1 8)),
  .sl 1 (qbd (nth z35.1 9)) false,.sl 1 (qbd (nth z35.1 10)) false]) (fun z39=>qba (qbc (.bin .add .num true (.c (nth z35.1 3)) (.c (.int .i64 1)))) (fun z40=>some
  (.inl ([nth z35.1 0,nth z35.1 1,nth z35.1 2,z40,nI (qbj (nth z39 0)),nI (qbj (nth z39 1)),nI (qbj (nth z39 2)),.sl 1 (qbd (nth z39 3)) false,.imap (qcw (nth z39
  4)),.sl 1 (qbd (nth z39 5)) false,.sl 1 (qbd (nth z39 6)) false],z35.2))))))) (qba (some [nI (qbj (nth z35.1 4)),nI (qbj (nth z35.1 5)),nI (qbj (nth z35.1 6)),.sl
  1 (qbd (nth z35.1 7)) false,.imap (qcw (nth z35.1 8)),.sl 1 (qbd (nth z35.1 9)) false,.sl 1 (qbd (nth z35.1 10)) false]) (fun z41=>some (.inr z41))))) ([x0,qbi
  z2 2,z34,.int .i64 0,nI (qbj x2),nI (qc1 (qbj x3) (qbv (qbw (qbv [z33]) (qb5 0 [z33])))),nI (qbj x4),.sl 1 (qbd x5) false,.imap (qcw x6),.sl 1 (ql3 (qbw
  (qbj x3) (qbd x7)) (qbw (qbv [z33]) (qb5 0 [z33]))) false,.sl 1 (qbd x8) false],())))))))) (qba (qbc (.len .slice (.c (qbi z2 2)))) (fun z42=>qby (qbs
  [x0,qbi z2 2,z42,.int .i64 0]) (qci (fun z43=>qba (qbc (.bin .lss .num false (.c (nth z43.1 3)) (.c (nth z43.1 2)))) (fun z44=>qck z44 (qba (qbc (.idxAddr 1 (.c
  (nth z43.1 1)) (.c (nth z43.1 3)))) (fun z45=>qba (qbc (.load 1 false (.c z45))) (fun z46=>qba (ioO B (.mk [.ref (0,0) 0,.cv (.bool false),.cv (.bool false)] [.cells 0
  [.arr (0,1) 1 0 0,.mp (0,2),.arr (0,3) 1 0 0,.arr (0,4) 1 0 0],.arr 1 0 [],.map [],.arr 1 0 [],.arr 1 0 []] (.tup []) [.cells 0 [.arr (0,1) 1 0 0,.mp (0,2),.arr (0,
  3) 1 0 0,.arr (0,4) 1 0 0],.arr 1 0 [],.map [],.arr 1 0 [],.arr 1 0 []] [] [1,3,4]) 82 [nth z43.1 0,z46,nI (qbj (nth z43.1 4)),nI (qbj (nth z43.1 5)),nI (qbj (nth
  z43.1 6)),.sl 1 (qbd (nth z43.1 7)) false,.imap (qcw (nth z43.1 8)),.sl 1 (qbd (nth z43.1 9)) false,.sl 1 (qbd (nth z43.1 10)) false]) (fun z47=>qba (qbc (.bin
  .add .num true (.c (nth z43.1 3)) (.c (.int .i64 1)))) (fun z48=>some (.inl ([nth z43.1 0,nth z43.1 1,nth z43.1 2,z48,nI (qbj (nth z47 0)),nI (qbj (nth z47 1)),nI (qbj
  (nth z47 2)),.sl 1 (qbd (nth z47 3)) false,.imap (qcw (nth z47 4)),.sl 1 (qbd (nth z47 5)) false,.sl 1 (qbd (nth z47 6)) false],z43.2))))))) (qba (some [nI (qbj
  (nth z43.1 4)),nI (qbj (nth z43.1 5)),nI (qbj (nth z43.1 6)),.sl 1 (qbd (nth z43.1 7)) false,.imap (qcw (nth z43.1 8)),.sl 1 (qbd (nth z43.1 9)) false,.sl 1 (qbd
  (nth z43.1 10)) false]) (fun z49=>some (.inr z49))))) ([x0,qbi z2 2,z42,.int .i64 0,nI (qbj x2),nI (qbj x3),nI (qbj x4),.sl 1 (qbd x5) false,.imap (qcw x6),.sl
  1 (qbd x7) false,.sl 1 (qbd x8) false],())))))))))))))):=by kernel_rfl
theorem run83 (B:KB) (x0:PV) (x1:PV) (x2:PV) (x3:PV) (x4:PV) (x5:PV) (x6:PV) (x7:PV) (x8:PV) (x9:PV) :
  qp4 (qk6 B (fun _=>.cl)) fn83 sh83 [x0,x1,x2,x3,x4,x5,x6,x7,x8,x9] =
  qby (qbs [x0,nI (qbj x1),nI (qbj x1),.int .i64 0]) (qci (fun z1=>qba (qbc (.bin .lss .num false (.c (nth z1.1 3)) (.c (nth z1.1 2)))) (fun z2=>qck z2 (qba
  (qvp (nth z1.1 3)) (fun z3=>qby (ltN z3 (qbj (nth z1.1 1))) (qba (qpo (qbd (nth z1.1 7)) (qc1 0 z3) 0 1 false) (fun z4=>qba (Qnb .str .nilS false (qcw (nth
  z1.1 9)) z4) (fun z5=>qba (qbc (.len .slice (.c z5))) (fun z6=>qba (qbc (.len .slice (.c z5))) (fun z7=>qba (qbc (.slice 1 (.c z5) none (some (.c z6)) (some (.c
  z7)))) (fun z8=>qba (qbc (.bin .add .num false (.c (nth z1.1 0)) (.c (nth z1.1 3)))) (fun z9=>qby (qdx 1 [z9]) (qby (leN (qc1 0 (qbv [z9])) (qbv [z9])) (qba (appO
  1 z8 (qbw (qbv [z9]) (qb5 0 [z9]))) (fun z10=>qba (insO .str (qcw (nth z1.1 9)) z4 (nth [slO 1 1 z10 0 (qbv z10)] 0)) (fun z11=>qby (qdx 1 [z4]) (qby (leN (qc1 0
  (qbv [z4])) (qbv [z4])) (qby (qrn (leN (qbj (nth z1.1 6)) (qbv (qbd (nth z1.1 11)))) (leN (qc1 (qbj (nth z1.1 6)) (qbv (qbw (qbv [z4]) (qb5 0 [z4])))) 2147483648))
  (qba (qbc (.bin .add .num true (.c (nth z1.1 3)) (.c (.int .i64 1)))) (fun z12=>some (.inl ([nth z1.1 0,nI (qbj (nth z1.1 1)),nth z1.1 2,z12,nI (qbj (nth z1.1 4)),nI
  (qbj (nth z1.1 5)),nI (qc1 (qbj (nth z1.1 6)) (qbv (qbw (qbv [z4]) (qb5 0 [z4])))),.sl 1 (qbd (nth z1.1 7)) false,.sl 1 (qbd (nth z1.1 8)) false,.imap z11,.sl 1
  (qbd (nth z1.1 10)) false,.sl 1 (ql3 (qbw (qbj (nth z1.1 6)) (qbd (nth z1.1 11))) (qbw (qbv [z4]) (qb5 0 [z4]))) false],z1.2))))))))))))))))))) (qba (some [nI
  (qbj (nth z1.1 4)),nI (qbj (nth z1.1 5)),nI (qbj (nth z1.1 6)),.sl 1 (qbd (nth z1.1 7)) false,.sl 1 (qbd (nth z1.1 8)) false,.imap (qcw (nth z1.1 9)),.sl 1 (qbd
  (nth z1.1 10)) false,.sl 1 (qbd (nth z1.1 11)) false]) (fun z13=>some (.inr z13))))) ([x0,nI (qbj x1),nI (qbj x1),.int .i64 0,nI (qbj x2),nI (qbj x3),nI (qbj x4),
  .sl 1 (qbd x5) false,.sl 1 (qbd x6) false,.imap (qcw x7),.sl 1 (qbd x8) false,.sl 1 (qbd x9) false],())):=by kernel_rfl
theorem run85 (B:KB) {E:Type} (h:qbl E) (dep:Nat) (e:E) (x0:PV) (x1:PV) :
  qm2 (qk6 B (fun _=>.cl)) fn85 (.cl) h dep [.cv x0,.cv x1] e =
  qba (qbc (.len .slice (.c x0))) (fun z1=>qby (qbs [x0,x1,z1,.int .i64 0]) (qci (fun z2=>qba (qbc (.bin .lss .num false (.c (nth z2.1 3)) (.c (nth z2.1 2))))
  (fun z3=>qck z3 (qba (qbc (.idxAddr 1 (.c (nth z2.1 0)) (.c (nth z2.1 3)))) (fun z4=>qba (qbc (.load 1 false (.c z4))) (fun z5=>qba (qb3 B .cl (nth z2.1 1) [z5])
  (fun z6=>qck z6 (qba (some (nth z2.1 3,z2.2)) (fun z7=>some (.inr z7))) (qba (qbc (.bin .add .num true (.c (nth z2.1 3)) (.c (.int .i64 1)))) (fun z8=>some (.inl
  ([nth z2.1 0,nth z2.1 1,nth z2.1 2,z8],z2.2)))))))) (qba (some (.int .i64 (-1),z2.2)) (fun z9=>some (.inr z9))))) ([x0,x1,z1,.int .i64 0],e))):=by kernel_rfl
theorem run86 (B:KB) (x0:PV) (x1:PV) (x2:PV) (x3:PV) (x4:PV) (x5:PV) :
  qp4 (qk6 B (fun _=>.cl)) fn86 sh86 [x0,x1,x2,x3,x4,x5] =
  qba (qb3 B .cl (.fn 33 []) [x0]) (fun z1=>qba (qbc (.un .not (.c z1))) (fun z2=>qck z2 (qba (qbc (.load 1 false (.c (.ptr [.glob 1 407] 0)))) (fun z3=>qby
  (qb8 z3 1) (qba (ioO B (.mk [.ref (0,0) 0,.cv (.bool false),.cv (.bool false)] [.cells 0 [.arr (0,1) 3 0 0,.arr (0,2) 1 0 0,.cv (.bool false)],.arr 3 0 [],.arr 1 0
  []] (.tup []) [.cells 0 [.arr (0,1) 3 0 0,.arr (0,2) 1 0 0,.cv (.bool false)],.arr 3 0 [],.arr 1 0 []] [] [1,2]) 119 [nI (qbj x1),x0,nI (qbj x1),nI (qbj x2),qbi z3
  0,.sl 3 (qbd x4) false,.sl 1 (qbd x5) false]) (fun z4=>qba (qbc (.bin .sub .num true (.c (nI (qbj (nth z4 0)))) (.c (.int .i64 1)))) (fun z5=>qby (qdx 1 [z5])
  (qby (leN (qc1 0 (qbv [z5])) (qbv [z5])) (qby (qrn (leN (qbj (nth z4 1)) (qbv (qbd (nth z4 4)))) (leN (qc1 (qbj (nth z4 1)) (qbv (qbw (qbv [z5]) (qb5 0 [z5]))))
  2147483648)) (some [nI (qbj (nth z4 0)),nI (qc1 (qbj (nth z4 1)) (qbv (qbw (qbv [z5]) (qb5 0 [z5])))),nth z4 2,.sl 3 (qbd (nth z4 3)) false,.sl 1 (ql3 (qbw (qbj
  (nth z4 1)) (qbd (nth z4 4))) (qbw (qbv [z5]) (qb5 0 [z5]))) false])))))))) (qba (ioO B (.mk [.ref (0,0) 0,.cv (.bool false),.cv (.bool false)] [.cells 0 [.arr (0,1)
  3 0 0,.arr (0,2) 1 0 0,.cv (.bool false)],.arr 3 0 [],.arr 1 0 []] (.tup []) [.cells 0 [.arr (0,1) 3 0 0,.arr (0,2) 1 0 0,.cv (.bool false)],.arr 3 0 [],.arr 1 0 []] []
  [1,2]) 119 [nI (qbj x1),x0,nI (qbj x1),nI (qbj x2),x3,.sl 3 (qbd x4) false,.sl 1 (qbd x5) false]) (fun z6=>qba (qbc (.bin .sub .num true (.c (nI (qbj (nth z6
  0)))) (.c (.int .i64 1)))) (fun z7=>qby (qdx 1 [z7]) (qby (leN (qc1 0 (qbv [z7])) (qbv [z7])) (qby (qrn (leN (qbj (nth z6 1)) (qbv (qbd (nth z6 4)))) (leN (qc1
  (qbj (nth z6 1)) (qbv (qbw (qbv [z7]) (qb5 0 [z7])))) 2147483648)) (some [nI (qbj (nth z6 0)),nI (qc1 (qbj (nth z6 1)) (qbv (qbw (qbv [z7]) (qb5 0 [z7])))),nth z6
  2,.sl 3 (qbd (nth z6 3)) false,.sl 1 (ql3 (qbw (qbj (nth z6 1)) (qbd (nth z6 4))) (qbw (qbv [z7]) (qb5 0 [z7]))) false])))))))):=by kernel_rfl
theorem run88 (B:KB) {E:Type} (h:qbl E) (dep:Nat) (e:E) (x0:PV) (x1:PV) :
  qm2 (qk6 B (fun _=>.cl)) fn88 (.cl) h dep [.cv x0,.cv x1] e =
  qba (qbc (.len .slice (.c x0))) (fun z1=>qby (qbs [x0,x1,z1,.int .i64 0]) (qci (fun z2=>qba (qbc (.bin .lss .num false (.c (nth z2.1 3)) (.c (nth z2.1 2))))
  (fun z3=>qck z3 (qba (qbc (.idxAddr 1 (.c (nth z2.1 0)) (.c (nth z2.1 3)))) (fun z4=>qba (qbc (.load 1 false (.c z4))) (fun z5=>qba (qbc (.bin .eql .num false
  (.c (nth z2.1 1)) (.c z5))) (fun z6=>qck z6 (qba (some (nth z2.1 3,z2.2)) (fun z7=>some (.inr z7))) (qba (qbc (.bin .add .num true (.c (nth z2.1 3)) (.c (.int .i64
  1)))) (fun z8=>some (.inl ([nth z2.1 0,nth z2.1 1,nth z2.1 2,z8],z2.2)))))))) (qba (some (.int .i64 (-1),z2.2)) (fun z9=>some (.inr z9))))) ([x0,x1,z1,.int .i64 0],
  e))):=by kernel_rfl
theorem run117 (B:KB) (x0:PV) (x1:PV) (x2:PV) (x3:PV) (x4:PV) (x5:PV) (x6:PV) (x7:PV) (x8:PV) :
  qp4 (qk6 B (fun _=>.cl)) fn117 sh117 [x0,x1,x2,x3,x4,x5,x6,x7,x8] =
  qba (qbc (.idxAddr 3 (.c x0) (.c x1))) (fun z1=>qba (qbc (.fieldAddr 2 (.c z1))) (fun z2=>qba (qbc (.load 1 false (.c z2))) (fun z3=>qba (qbc (.len .slice (.c
  z3))) (fun z4=>qby (qbs [x0,z3,z4,.int .i64 0]) (qci (fun z5=>qba (qbc (.bin .lss .num false (.c (nth z5.1 3)) (.c (nth z5.1 2)))) (fun z6=>qck z6 (qba
  (qbc (.idxAddr 1 (.c (nth z5.1 1)) (.c (nth z5.1 3)))) (fun z7=>qba (qbc (.load 1 false (.c z7))) (fun z8=>qba (ioO B (.mk [.ref (0,0) 0,.cv (.bool false),.cv (.bool
  false)] [.cells 0 [.arr (0,1) 1 0 0,.mp (0,2),.arr (0,3) 1 0 0,.arr (0,4) 1 0 0],.arr 1 0 [],.map [],.arr 1 0 [],.arr 1 0 []] (.tup []) [.cells 0 [.arr (0,1) 1 0 0,.mp
  (0,2),.arr (0,3) 1 0 0,.arr (0,4) 1 0 0],.arr 1 0 [],.map [],.arr 1 0 [],.arr 1 0 []] [] [1,3,4]) 54 [nth z5.1 0,z8,nI (qbj (nth z5.1 4)),nI (qbj (nth z5.1 5)),nI
  (qbj (nth z5.1 6)),.sl 1 (qbd (nth z5.1 7)) false,.imap (qcw (nth z5.1 8)),.sl 1 (qbd (nth z5.1 9)) false,.sl 1 (qbd (nth z5.1 10)) false]) (fun z9=>qba (qbc
  (.bin .add .num true (.c (nth z5.1 3)) (.c (.int .i64 1)))) (fun z10=>some (.inl ([nth z5.1 0,nth z5.1 1,nth z5.1 2,z10,nI (qbj (nth z9 0)),nI (qbj (nth z9 1)),nI (qbj
  (nth z9 2)),.sl 1 (qbd (nth z9 3)) false,.imap (qcw (nth z9 4)),.sl 1 (qbd (nth z9 5)) false,.sl 1 (qbd (nth z9 6)) false,nth z5.1 11],z5.2))))))) (qba (qba
  (ioO B (.mk [.ref (0,0) 0,.cv (.bool false)] [.cells 0 [.arr (0,1) 1 0 0,.mp (0,2),.arr (0,3) 1 0 0,.arr (0,4) 1 0 0],.arr 1 0 [],.map [],.arr 1 0 [],.arr 1 0 []]
  (.tup []) [.cells 0 [.arr (0,1) 1 0 0,.mp (0,2),.arr (0,3) 1 0 0,.arr (0,4) 1 0 0],.arr 1 0 [],.map [],.arr 1 0 [],.arr 1 0 []] [] [1,3,4]) 152 [nth z5.1 11,nI (qbj
  (nth z5.1 4)),nI (qbj (nth z5.1 5)),nI (qbj (nth z5.1 6)),.sl 1 (qbd (nth z5.1 7)) false,.imap (qcw (nth z5.1 8)),.sl 1 (qbd (nth z5.1 9)) false,.sl 1 (qbd (nth
  z5.1 10)) false]) (fun z11=>some [nI (qbj (nth z11 0)),nI (qbj (nth z11 1)),nI (qbj (nth z11 2)),.sl 1 (qbd (nth z11 3)) false,.imap (qcw (nth z11 4)),.sl 1 (qbd
  (nth z11 5)) false,.sl 1 (qbd (nth z11 6)) false])) (fun z12=>some (.inr z12))))) ([x0,z3,z4,.int .i64 0,nI (qbj x2),nI (qbj x3),nI (qbj x4),.sl 1 (qbd x5)
  false,.imap (qcw x6),.sl 1 (qbd x7) false,.sl 1 (qbd x8) false,nI (qbj x4)],())))))):=by kernel_rfl
theorem run118 (B:KB) {E:Type} (h:qbl E) (dep:Nat) (e:E) (x0:PV) (x1:PV) :
  qm2 (qk6 B (fun _=>.cl)) fn118 (.cl) h dep [.cv x0,.cv x1] e =
  qba (qbc (.nilck (.c x0))) (fun z1=>qba (qbc (.fieldAddr 1 (.c z1))) (fun z2=>qba (qbc (.load 1 false (.c z2))) (fun z3=>qba (qbc (.lookup .str .nilS false
  (.c z3) (.c x1))) (fun z4=>qba (qbc (.len .slice (.c z4))) (fun z5=>qba (qbc (.bin .eql .num true (.c z5) (.c (.int .i64 0)))) (fun z6=>qck z6 (some (.int .i64 (-1),
  e)) (qba (qbc (.len .slice (.c z4))) (fun z7=>qba (qbc (.bin .sub .num true (.c z7) (.c (.int .i64 1)))) (fun z8=>qba (qbc (.idxAddr 1 (.c z4) (.c z8))) (fun z9 =>
  qba (qbc (.load 1 false (.c z9))) (fun z10=>some (z10,e)))))))))))):=by kernel_rfl
theorem run119 (B:KB) (x0:PV) (x1:PV) (x2:PV) (x3:PV) (x4:PV) (x5:PV) (x6:PV) :
  qp4 (qk6 B (fun _=>.cl)) fn119 sh119 [x0,x1,x2,x3,x4,x5,x6] =
  qba (qbc (.len .slice (.c x1))) (fun z1=>qby (qbs [x0,x1,z1,.int .i64 0]) (qci (fun z2=>qba (qbc (.bin .lss .num false (.c (nth z2.1 3)) (.c (nth z2.1 2))))
  (fun z3=>qck z3 (qba (qbc (.idxAddr 3 (.c (nth z2.1 1)) (.c (nth z2.1 3)))) (fun z4=>qba (qbc (.load 3 true (.c z4))) (fun z5=>qby (qb8 z5 3) (qba (qbc
  (.len .slice (.c (qbi z5 2)))) (fun z6=>qba (mkSO z6 z6) (fun z7=>qba (qnu 1 (qbi z5 2)) (fun z8=>qby (leN (qc1 0 z7) (qbv (ql6 z7 (.int .i64 0)))) (qby
  (qbs [nth z2.1 0,nI z7,nth z2.1 1,nth z2.1 2,nth z2.1 3,nI z7,.int .i64 0]) (qci (fun z9=>qba (qbc (.bin .lss .num false (.c (nth z9.1 6)) (.c (nth z9.1 5))))
  (fun z10=>qck z10 (qba (qvp (nth z9.1 6)) (fun z11=>qby (ltN z11 (qbj (nth z9.1 1))) (qba (qpo (qbd (nth z9.1 15)) (qc1 0 z11) 0 1 false) (fun z12=>qba (qbc
  (.bin .add .num false (.c z12) (.c (nth z9.1 0)))) (fun z13=>qba (qvp (nth z9.1 6)) (fun z14=>qby (ltN z14 (qbj (nth z9.1 1))) (qba (setO 1 (qbd (nth z9.1 15)) (qc1
  0 z14) 0 1 z13) (fun z15=>qba (qbc (.bin .add .num true (.c (nth z9.1 6)) (.c (.int .i64 1)))) (fun z16=>some (.inl ([nth z9.1 0,nI (qbj (nth z9.1 1)),nth z9.1 2,nth
  z9.1 3,nth z9.1 4,nth z9.1 5,z16,nI (qbj (nth z9.1 7)),nI (qbj (nth z9.1 8)),nth z9.1 9,.sl 3 (qbd (nth z9.1 10)) false,.sl 1 (qbd (nth z9.1 11)) false,nth z9.1
  12,nth z9.1 13,nth z9.1 14,.sl 1 z15 false],z9.2))))))))))) (qba (qby (qb8 (nth z9.1 12) 1) (qby (qb8 (nth z9.1 13) 1) (qby (qdx 3 [.agg [qbi (nth z9.1 12) 0,
  qbi (nth z9.1 13) 0,slO 1 1 (qbd (nth z9.1 15)) 0 (qbj (nth z9.1 1))]]) (qby (leN (qc1 0 (qbv [.agg [qbi (nth z9.1 12) 0,qbi (nth z9.1 13) 0,slO 1 1 (qbd (nth
  z9.1 15)) 0 (qbj (nth z9.1 1))]])) (qbv [.agg [qbi (nth z9.1 12) 0,qbi (nth z9.1 13) 0,slO 1 1 (qbd (nth z9.1 15)) 0 (qbj (nth z9.1 1))]])) (qby (qrn (leN (qbj (nth
  z9.1 7)) (qbv (qbd (nth z9.1 10)))) (leN (qc1 (qbj (nth z9.1 7)) (qbv (qbw (qbv [.agg [qbi (nth z9.1 12) 0,qbi (nth z9.1 13) 0,slO 1 1 (qbd (nth z9.1 15)) 0
  (qbj (nth z9.1 1))]]) (qb5 0 [.agg [qbi (nth z9.1 12) 0,qbi (nth z9.1 13) 0,slO 1 1 (qbd (nth z9.1 15)) 0 (qbj (nth z9.1 1))]])))) 2147483648)) (qba (qbc (.bin
  .add .num true (.c (nth z9.1 4)) (.c (.int .i64 1)))) (fun z17=>some (.inl ([nth z9.1 0,nth z9.1 2,nth z9.1 3,z17,nI (qc1 (qbj (nth z9.1 7)) (qbv (qbw (qbv [.agg [qbi
  (nth z9.1 12) 0,qbi (nth z9.1 13) 0,slO 1 1 (qbd (nth z9.1 15)) 0 (qbj (nth z9.1 1))]]) (qb5 0 [.agg [qbi (nth z9.1 12) 0,qbi (nth z9.1 13) 0,slO 1 1 (qbd (nth
  z9.1 15)) 0 (qbj (nth z9.1 1))]])))),nI (qbj (nth z9.1 8)),nth z9.1 9,.sl 3 (ql3 (qbw (qbj (nth z9.1 7)) (qbd (nth z9.1 10))) (qbw (qbv [.agg [qbi (nth z9.1 12) 0,
  qbi (nth z9.1 13) 0,slO 1 1 (qbd (nth z9.1 15)) 0 (qbj (nth z9.1 1))]]) (qb5 0 [.agg [qbi (nth z9.1 12) 0,qbi (nth z9.1 13) 0,slO 1 1 (qbd (nth z9.1 15)) 0 (qbj
  (nth z9.1 1))]]))) false,.sl 1 (qbd (nth z9.1 11)) false],z9.2))))))))) (fun z18=>some (.inr z18))))) ([nth z2.1 0,nI z7,nth z2.1 1,nth z2.1 2,nth z2.1 3,nI z7,.int
  .i64 0,nI (qbj (nth z2.1 4)),nI (qbj (nth z2.1 5)),nth z2.1 6,.sl 3 (qbd (nth z2.1 7)) false,.sl 1 (qbd (nth z2.1 8)) false,qbi z5 0,qbi z5 1,qbi z5 2,.sl 1
  (ql3 (ql3 (qbw 0 (ql6 z7 (.int .i64 0))) (qbw z7 z8)) (qb5 (qc1 0 (qbv (qbw z7 z8))) (ql6 z7 (.int .i64 0)))) false],z2.2)))))))))) (qba (some [nI (qbj (nth
  z2.1 4)),nI (qbj (nth z2.1 5)),nth z2.1 6,.sl 3 (qbd (nth z2.1 7)) false,.sl 1 (qbd (nth z2.1 8)) false]) (fun z19=>some (.inr z19))))) ([x0,x1,z1,.int .i64 0,nI
  (qbj x2),nI (qbj x3),x4,.sl 3 (qbd x5) false,.sl 1 (qbd x6) false],()))):=by kernel_rfl
theorem run152 (B:KB) (x0:PV) (x1:PV) (x2:PV) (x3:PV) (x4:PV) (x5:PV) (x6:PV) (x7:PV) :
  qp4 (qk6 B (fun _=>.cl)) fn152 sh152 [x0,x1,x2,x3,x4,x5,x6,x7] =
  qba (qk7 none (qbj x3) (qbj x3)) (fun z1=>qba (qk7 none (qbj x3) z1) (fun z2=>qba (qk7 (some x0) 0 z2) (fun z3=>qzq (qrn (eqN z2 z3) (ltN 0 z3)) (qba
  (qbc (.len .slice (.c (.sl 1 [] false)))) (fun z4=>qby (qbs [x0,.sl 1 [] false,z4,.int .i64 0]) (qci (fun z5=>qba (qbc (.bin .lss .num false (.c (nth z5.1 3))
  (.c (nth z5.1 2)))) (fun z6=>qck z6 (qba (qbc (.idxAddr 1 (.c (nth z5.1 1)) (.c (nth z5.1 3)))) (fun z7=>qba (qbc (.load 1 false (.c z7))) (fun z8=>qba (Qnb .str
  .nilS false (qcw (nth z5.1 8)) z8) (fun z9=>qba (qbc (.len .slice (.c z9))) (fun z10=>qba (qbc (.bin .sub .num true (.c z10) (.c (.int .i64 1)))) (fun z11=>qba
  (qbc (.slice 1 (.c z9) none (some (.c z11)) none)) (fun z12=>qba (insO .str (qcw (nth z5.1 8)) z8 z12) (fun z13=>qba (qbc (.bin .add .num true (.c (nth z5.1 3)) (.c
  (.int .i64 1)))) (fun z14=>some (.inl ([nth z5.1 0,nth z5.1 1,nth z5.1 2,z14,nI (qbj (nth z5.1 4)),nI (qbj (nth z5.1 5)),nI (qbj (nth z5.1 6)),.sl 1 (qbd (nth z5.1
  7)) false,.imap z13,.sl 1 (qbd (nth z5.1 9)) false,.sl 1 (qbd (nth z5.1 10)) false],z5.2))))))))))) (qba (qba (qk7 none (qbj (nth z5.1 6)) (qbj (nth z5.1 6)))
  (fun z15=>qba (qk7 (some (nth z5.1 0)) (qbj (nth z5.1 6)) z15) (fun z16=>some [nI (qbj (nth z5.1 4)),nI (qbj (nth z5.1 5)),nI z16,.sl 1 (qbd (nth z5.1 7)) false,
  .imap (qcw (nth z5.1 8)),.sl 1 (qbd (nth z5.1 9)) false,.sl 1 (qbd (nth z5.1 10)) false]))) (fun z17=>some (.inr z17))))) ([x0,.sl 1 [] false,z4,.int .i64 0,nI
  (qbj x1),nI (qbj x2),nI (qbj x3),.sl 1 (qbd x4) false,.imap (qcw x5),.sl 1 (qbd x6) false,.sl 1 (qbd x7) false],())))) (qby (qbs [x0,nI (subN z2 z3),nI
  (subN z2 z3),.int .i64 0]) (qci (fun z18=>qba (qbc (.bin .lss .num false (.c (nth z18.1 3)) (.c (nth z18.1 2)))) (fun z19=>qck z19 (qba (qvp (nth z18.1 3)) (fun z20
  => qby (ltN z20 (qbj (nth z18.1 1))) (qba (qpo (qbd (nth z18.1 10)) (qc1 (qc1 0 z3) z20) 0 1 false) (fun z21=>qba (Qnb .str .nilS false (qcw (nth z18.1 8)) z21)
  (fun z22=>qba (qbc (.len .slice (.c z22))) (fun z23=>qba (qbc (.bin .sub .num true (.c z23) (.c (.int .i64 1)))) (fun z24=>qba (qbc (.slice 1 (.c z22) none (some
  (.c z24)) none)) (fun z25=>qba (insO .str (qcw (nth z18.1 8)) z21 z25) (fun z26=>qba (qbc (.bin .add .num true (.c (nth z18.1 3)) (.c (.int .i64 1)))) (fun z27=>qby
  (eqOff (qc1 0 z3) (qc1 0 z3)) (some (.inl ([nth z18.1 0,nI (qbj (nth z18.1 1)),nth z18.1 2,z27,nI (qbj (nth z18.1 4)),nI (qbj (nth z18.1 5)),nI (qbj (nth z18.1 6)),.sl
  1 (qbd (nth z18.1 7)) false,.imap z26,.sl 1 (qbd (nth z18.1 9)) false,.sl 1 (qbd (nth z18.1 10)) false],z18.2))))))))))))) (qba (qba (qk7 none (qbj (nth z18.1
  6)) (qbj (nth z18.1 6))) (fun z28=>qba (qk7 (some (nth z18.1 0)) (qbj (nth z18.1 6)) z28) (fun z29=>some [nI (qbj (nth z18.1 4)),nI (qbj (nth z18.1 5)),nI z29,.sl 1
  (qbd (nth z18.1 7)) false,.imap (qcw (nth z18.1 8)),.sl 1 (qbd (nth z18.1 9)) false,.sl 1 (qbd (nth z18.1 10)) false]))) (fun z30=>some (.inr z30))))) ([x0,nI
  (subN z2 z3),nI (subN z2 z3),.int .i64 0,nI (qbj x1),nI (qbj x2),nI (qbj x3),.sl 1 (qbd x4) false,.imap (qcw x5),.sl 1 (qbd x6) false,.sl 1 (qbd x7) false],
  ())))))):=by kernel_rfl
theorem run5 (B:KB) {E:Type} (h:qbl E) (dep:Nat) (e:E) (x0:PV) (x1:PV) :
  qm2 (qk6 B (fun _=>.cl)) fn5 (.cl) h dep [.cv x0,.cv x1] e =
  qba (qb3 B .cl (.fn 8 []) []) (fun z1=>qba (qb3 B (.opt 4) (.fn 9 []) [x0]) (fun z2=>nilB z2 (qba (qbc (.minmax true [.c x1,.c (.int .i64 0)])) (fun z3=>qba
  (qbc (.len .slice (.c z2))) (fun z4=>qba (qbc (.minmax false [.c z3,.c z4])) (fun z5=>qba (qb3 B .cl (.fn 15 []) [z2]) (fun z6=>qba (qbc (.slice 4 (.c z2) none
  (some (.c z5)) none)) (fun z7=>qba (qb3 B .cl (.fn 15 []) [z7]) (fun z8=>qba (qba (qbc (.len .slice (.c z6))) (fun z9=>qba (qbc (.len .slice (.c z2))) (fun z10
  => qba (qbc (.bin .neq .num false (.c z9) (.c z10))) (fun z11=>qck z11 (some (.bool true)) (qba (qbc (.len .slice (.c z8))) (fun z12=>qba (qbc (.bin .neq .num
  false (.c z12) (.c z5))) (fun z13=>some z13))))))) (fun z14=>qck z14 (some (.bool false,e)) (qby (qbs [z5,z1,z6,z8,.int .i64 0]) (qci (fun z15=>qba (qbc
  (.bin .lss .num false (.c (nth z15.1 4)) (.c (nth z15.1 0)))) (fun z16=>qck z16 (qba (qbc (.idxAddr 1 (.c (nth z15.1 2)) (.c (nth z15.1 4)))) (fun z17=>qba (qbc (.load
  1 false (.c z17))) (fun z18=>qba (qbc (.idxAddr 1 (.c (nth z15.1 3)) (.c (nth z15.1 4)))) (fun z19=>qba (qbc (.load 1 false (.c z19))) (fun z20=>qba (qb3 B .cl
  (.fn 16 []) [z18,z20]) (fun z21=>qba (qbc (.un .not (.c z21))) (fun z22=>qck z22 (qba (some (.bool false,z15.2)) (fun z23=>some (.inr z23))) (qba (qbc (.bin .add
  .num true (.c (nth z15.1 4)) (.c (.int .i64 1)))) (fun z24=>some (.inl ([nth z15.1 0,nth z15.1 1,nth z15.1 2,nth z15.1 3,z24],z15.2))))))))))) (qba (some (nth z15.1 1,
  z15.2)) (fun z25=>some (.inr z25))))) ([z5,z1,z6,z8,.int .i64 0],e))))))))))) (qba (qbc (.minmax true [.c x1,.c (.int .i64 0)])) (fun z26=>qba (qbc (.minmax false
  [.c z26,.c (nI (qbv (qbd z2)))])) (fun z27=>qba (qkw B .cl false 15 [slO 4 4 (qbd z2) 0 (qbv (qbd z2))]) (fun z28=>qba (qbc (.slice 4 (.c (slO 4 4 (qbd
  z2) 0 (qbv (qbd z2)))) none (some (.c z27)) none)) (fun z29=>qba (qb3 B .cl (.fn 15 []) [z29]) (fun z30=>qba (qba (qbc (.len .slice (.c z28))) (fun z31=>qba
  (qbc (.len .slice (.c (slO 4 4 (qbd z2) 0 (qbv (qbd z2)))))) (fun z32=>qba (qbc (.bin .neq .num false (.c z31) (.c z32))) (fun z33=>qck z33 (some (.bool true))
  (qba (qbc (.len .slice (.c z30))) (fun z34=>qba (qbc (.bin .neq .num false (.c z34) (.c z27))) (fun z35=>some z35))))))) (fun z36=>qck z36 (some (.bool false,e))
  (qby (qbs [z27,z1,z28,z30,.int .i64 0]) (qci (fun z37=>qba (qbc (.bin .lss .num false (.c (nth z37.1 4)) (.c (nth z37.1 0)))) (fun z38=>qck z38 (qba (qbc
  (.idxAddr 1 (.c (nth z37.1 2)) (.c (nth z37.1 4)))) (fun z39=>qba (qbc (.load 1 false (.c z39))) (fun z40=>qba (qbc (.idxAddr 1 (.c (nth z37.1 3)) (.c (nth z37.1 4))))
  (fun z41=>qba (qbc (.load 1 false (.c z41))) (fun z42=>qba (qb3 B .cl (.fn 16 []) [z40,z42]) (fun z43=>qba (qbc (.un .not (.c z43))) (fun z44=>qck z44 (qba
  (some (.bool false,z37.2)) (fun z45=>some (.inr z45))) (qba (qbc (.bin .add .num true (.c (nth z37.1 4)) (.c (.int .i64 1)))) (fun z46=>some (.inl ([nth z37.1 0,nth z37.1
  1,nth z37.1 2,nth z37.1 3,z46],z37.2))))))))))) (qba (some (nth z37.1 1,z37.2)) (fun z47=>some (.inr z47))))) ([z27,z1,z28,z30,.int .i64 0],e)))))))))))):=by kernel_rfl
theorem run6 (B:KB) {E:Type} (h:qbl E) (dep:Nat) (e:E) (x0:PV) :
  qm2 (qk6 B (fun _=>.cl)) fn6 (.cl) h dep [.cv x0] e =
  qba (qb3 B .cl (.fn 8 []) []) (fun z1=>qba (qb3 B (.opt 4) (.fn 9 []) [x0]) (fun z2=>nilB z2 (qba (qb3 B .cl (.fn 17 []) [z2]) (fun z3=>qba (qb3 B .cl (.fn 14
  []) [z2]) (fun z4=>qba (qbc (.len .slice (.c z3))) (fun z5=>qba (qbc (.len .slice (.c z2))) (fun z6=>qba (qbc (.bin .neq .num false (.c z5) (.c z6))) (fun z7 =>
  qck z7 (some (.bool false,e)) (qby (qbs [z2,z1,z3,z4,.int .i64 0,.int .i64 0]) (qci (fun z8=>qba (qbc (.len .slice (.c (nth z8.1 0)))) (fun z9=>qba (qbc
  (.bin .lss .num false (.c (nth z8.1 5)) (.c z9))) (fun z10=>qck z10 (qba (qbc (.idxAddr 4 (.c (nth z8.1 0)) (.c (nth z8.1 5)))) (fun z11=>qba (qbc (.fieldAddr 2 (.c
  z11))) (fun z12=>qba (qbc (.load 1 false (.c z12))) (fun z13=>qba (qb3 B .cl (.fn 18 []) [z13]) (fun z14=>qba (qbc (.len .slice (.c z14))) (fun z15=>qba
  (qbc (.idxAddr 1 (.c (nth z8.1 2)) (.c (nth z8.1 5)))) (fun z16=>qba (qbc (.load 1 false (.c z16))) (fun z17=>qba (qbc (.len .slice (.c z17))) (fun z18=>qba
  (qbc (.bin .neq .num false (.c z15) (.c z18))) (fun z19=>qck z19 (qba (some (.bool false,z8.2)) (fun z20=>some (.inr z20))) (qby (qbs [nth z8.1 0,nth z8.1 1,nth
  z8.1 2,nth z8.1 3,nth z8.1 4,nth z8.1 5,z14,.int .i64 0]) (qci (fun z21=>qba (qbc (.len .slice (.c (nth z21.1 6)))) (fun z22=>qba (qbc (.bin .lss .num false (.c
  (nth z21.1 7)) (.c z22))) (fun z23=>qck z23 (qba (qbc (.idxAddr 1 (.c (nth z21.1 2)) (.c (nth z21.1 5)))) (fun z24=>qba (qbc (.load 1 false (.c z24))) (fun z25 =>
  qba (qbc (.idxAddr 1 (.c z25) (.c (nth z21.1 7)))) (fun z26=>qba (qbc (.load 1 false (.c z26))) (fun z27=>qba (qbc (.bin .lss .num true (.c z27) (.c (.int .i64
  (-1))))) (fun z28=>qck z28 (qba (qba (some (.bool false,z21.2)) (fun z29=>some (.inr z29))) (fun z30=>some (.inr z30))) (qba (qbc (.len .slice (.c (nth z21.1 3))))
  (fun z31=>qba (qbc (.bin .geq .num false (.c z27) (.c z31))) (fun z32=>qck z32 (qba (qba (some (.bool false,z21.2)) (fun z33=>some (.inr z33))) (fun z34=>some
  (.inr z34))) (qba (qbc (.bin .geq .num true (.c z27) (.c (.int .i64 0)))) (fun z35=>qck z35 (qba (qbc (.idxAddr 1 (.c (nth z21.1 3)) (.c z27))) (fun z36=>qba (qbc
  (.load 1 false (.c z36))) (fun z37=>qba (qbc (.idxAddr 1 (.c (nth z21.1 6)) (.c (nth z21.1 7)))) (fun z38=>qba (qbc (.load 1 false (.c z38))) (fun z39=>qba (qbc
  (.bin .neq .str false (.c z37) (.c z39))) (fun z40=>qck z40 (qba (qba (some (.bool false,z21.2)) (fun z41=>some (.inr z41))) (fun z42=>some (.inr z42))) (qba (qbc
  (.bin .add .num true (.c (nth z21.1 7)) (.c (.int .i64 1)))) (fun z43=>some (.inl ([nth z21.1 0,nth z21.1 1,nth z21.1 2,nth z21.1 3,nth z21.1 4,nth z21.1 5,nth z21.1 6,
  z43],z21.2)))))))))) (qba (qbc (.bin .add .num true (.c (nth z21.1 7)) (.c (.int .i64 1)))) (fun z44=>some (.inl ([nth z21.1 0,nth z21.1 1,nth z21.1 2,nth z21.1 3,nth
  z21.1 4,nth z21.1 5,nth z21.1 6,z44],z21.2))))))))))))))) (qba (qby (qbs [nth z21.1 0,nth z21.1 1,nth z21.1 2,nth z21.1 3,nth z21.1 4,nth z21.1 5,.int .i64 0])
  (qci (fun z45=>qba (qbc (.idxAddr 4 (.c (nth z45.1 0)) (.c (nth z45.1 5)))) (fun z46=>qba (qbc (.fieldAddr 2 (.c z46))) (fun z47=>qba (qbc (.load 1 false (.c
  z47))) (fun z48=>qba (qbc (.len .slice (.c z48))) (fun z49=>qba (qbc (.bin .lss .num false (.c (nth z45.1 6)) (.c z49))) (fun z50=>qck z50 (qba (qbc (.idxAddr 4
  (.c (nth z45.1 0)) (.c (nth z45.1 5)))) (fun z51=>qba (qbc (.fieldAddr 2 (.c z51))) (fun z52=>qba (qbc (.load 1 false (.c z52))) (fun z53=>qba (qb3 B .cl (.fn 10
  []) [z53]) (fun z54=>qck z54 (qba (qbc (.idxAddr 4 (.c (nth z45.1 0)) (.c (nth z45.1 5)))) (fun z55=>qba (qbc (.fieldAddr 2 (.c z55))) (fun z56=>qba (qbc (.load
  1 false (.c z56))) (fun z57=>qba (qbc (.idxAddr 3 (.c z57) (.c (nth z45.1 6)))) (fun z58=>qba (qbc (.fieldAddr 0 (.c z58))) (fun z59=>qba (qbc (.load 1 false (.c
  z59))) (fun z60=>qba (qbc (.bin .eql .num true (.c z60) (.c (.int .i64 8)))) (fun z61=>qck z61 (qba (qbc (.bin .add .num true (.c (nth z45.1 4)) (.c (.int .i64 1))))
  (fun z62=>qba (qbc (.bin .add .num true (.c (nth z45.1 6)) (.c (.int .i64 1)))) (fun z63=>some (.inl ([nth z45.1 0,nth z45.1 1,nth z45.1 2,nth z45.1 3,z62,nth z45.1 5,
  z63],z45.2))))) (qba (qbc (.bin .add .num true (.c (nth z45.1 6)) (.c (.int .i64 1)))) (fun z64=>some (.inl ([nth z45.1 0,nth z45.1 1,nth z45.1 2,nth z45.1 3,nth z45.1
  4,nth z45.1 5,z64],z45.2)))))))))))) (qba (qbc (.bin .add .num true (.c (nth z45.1 6)) (.c (.int .i64 1)))) (fun z65=>some (.inl ([nth z45.1 0,nth z45.1 1,nth z45.1 2,
  nth z45.1 3,nth z45.1 4,nth z45.1 5,z65],z45.2))))))))) (qba (qba (qbc (.bin .add .num true (.c (nth z45.1 5)) (.c (.int .i64 1)))) (fun z66=>some (.inl ([nth z45.1 0,
  nth z45.1 1,nth z45.1 2,nth z45.1 3,nth z45.1 4,z66],z45.2)))) (fun z67=>some (.inr z67))))))))) ([nth z21.1 0,nth z21.1 1,nth z21.1 2,nth z21.1 3,nth z21.1 4,nth z21.1
  5,.int .i64 0],z21.2))) (fun z68=>some (.inr z68)))))) ([nth z8.1 0,nth z8.1 1,nth z8.1 2,nth z8.1 3,nth z8.1 4,nth z8.1 5,z14,.int .i64 0],z8.2))))))))))))) (qba
  (qba (qck (nth z8.1 1) (qba (qbc (.len .slice (.c (nth z8.1 3)))) (fun z69=>qba (qbc (.bin .eql .num false (.c (nth z8.1 4)) (.c z69))) (fun z70=>some z70))) (some
  (.bool false))) (fun z71=>some (z71,z8.2))) (fun z72=>some (.inr z72)))))) ([z2,z1,z3,z4,.int .i64 0,.int .i64 0],e))))))))) (qba (qkw B .cl false 17 [slO 4 4
  (qbd z2) 0 (qbv (qbd z2))]) (fun z73=>qba (qb3 B .cl (.fn 14 []) [slO 4 4 (qbd z2) 0 (qbv (qbd z2))]) (fun z74=>qba (qbc (.len .slice (.c z73))) (fun z75
  => qba (qbc (.len .slice (.c (slO 4 4 (qbd z2) 0 (qbv (qbd z2)))))) (fun z76=>qba (qbc (.bin .neq .num false (.c z75) (.c z76))) (fun z77=>qck z77 (some (.bool
  false,e)) (qby (qbs [slO 4 4 (qbd z2) 0 (qbv (qbd z2)),z1,z73,z74,.int .i64 0,.int .i64 0]) (qci (fun z78=>qba (qbc (.len .slice (.c (nth z78.1 0)))) (fun
  z79=>qba (qbc (.bin .lss .num false (.c (nth z78.1 5)) (.c z79))) (fun z80=>qck z80 (qba (qbc (.idxAddr 4 (.c (nth z78.1 0)) (.c (nth z78.1 5)))) (fun z81=>qba
  (qbc (.fieldAddr 2 (.c z81))) (fun z82=>qba (qbc (.load 1 false (.c z82))) (fun z83=>qba (qb3 B .cl (.fn 18 []) [z83]) (fun z84=>qba (qbc (.len .slice (.c
  z84))) (fun z85=>qba (qbc (.idxAddr 1 (.c (nth z78.1 2)) (.c (nth z78.1 5)))) (fun z86=>qba (qbc (.load 1 false (.c z86))) (fun z87=>qba (qbc (.len .slice (.c
  z87))) (fun z88=>qba (qbc (.bin .neq .num false (.c z85) (.c z88))) (fun z89=>qck z89 (qba (some (.bool false,z78.2)) (fun z90=>some (.inr z90))) (qby (qbs [nth
  z78.1 0,nth z78.1 1,nth z78.1 2,nth z78.1 3,nth z78.1 4,nth z78.1 5,z84,.int .i64 0]) (qci (fun z91=>qba (qbc (.len .slice (.c (nth z91.1 6)))) (fun z92=>qba
  (qbc (.bin .lss .num false (.c (nth z91.1 7)) (.c z92))) (fun z93=>qck z93 (qba (qbc (.idxAddr 1 (.c (nth z91.1 2)) (.c (nth z91.1 5)))) (fun z94=>qba (qbc (.load 1
  false (.c z94))) (fun z95=>qba (qbc (.idxAddr 1 (.c z95) (.c (nth z91.1 7)))) (fun z96=>qba (qbc (.load 1 false (.c z96))) (fun z97=>qba (qbc (.bin .lss .num true
  (.c z97) (.c (.int .i64 (-1))))) (fun z98=>qck z98 (qba (qba (some (.bool false,z91.2)) (fun z99=>some (.inr z99))) (fun z100=>some (.inr z100))) (qba (qbc (.len
  .slice (.c (nth z91.1 3)))) (fun z101=>qba (qbc (.bin .geq .num false (.c z97) (.c z101))) (fun z102=>qck z102 (qba (qba (some (.bool false,z91.2)) (fun z103=>some
  (.inr z103))) (fun z104=>some (.inr z104))) (qba (qbc (.bin .geq .num true (.c z97) (.c (.int .i64 0)))) (fun z105=>qck z105 (qba (qbc (.idxAddr 1 (.c (nth z91.1 3))
  (.c z97))) (fun z106=>qba (qbc (.load 1 false (.c z106))) (fun z107=>qba (qbc (.idxAddr 1 (.c (nth z91.1 6)) (.c (nth z91.1 7)))) (fun z108=>qba (qbc (.load 1
  false (.c z108))) (fun z109=>qba (qbc (.bin .neq .str false (.c z107) (.c z109))) (fun z110=>qck z110 (qba (qba (some (.bool false,z91.2)) (fun z111=>some (.inr
  z111))) (fun z112=>some (.inr z112))) (qba (qbc (.bin .add .num true (.c (nth z91.1 7)) (.c (.int .i64 1)))) (fun z113=>some (.inl ([nth z91.1 0,nth z91.1 1,nth z91.1 2,
  nth z91.1 3,nth z91.1 4,nth z91.1 5,nth z91.1 6,z113],z91.2)))))))))) (qba (qbc (.bin .add .num true (.c (nth z91.1 7)) (.c (.int .i64 1)))) (fun z114=>some (.inl ([nth
  z91.1 0,nth z91.1 1,nth z91.1 2,nth z91.1 3,nth z91.1 4,nth z91.1 5,nth z91.1 6,z114],z91.2))))))))))))))) (qba (qby (qbs [nth z91.1 0,nth z91.1 1,nth z91.1 2,nth
  z91.1 3,nth z91.1 4,nth z91.1 5,.int .i64 0]) (qci (fun z115=>qba (qbc (.idxAddr 4 (.c (nth z115.1 0)) (.c (nth z115.1 5)))) (fun z116=>qba (qbc (.fieldAddr 2 (.c
  z116))) (fun z117=>qba (qbc (.load 1 false (.c z117))) (fun z118=>qba (qbc (.len .slice (.c z118))) (fun z119=>qba (qbc (.bin .lss .num false (.c (nth z115.1 6))
  (.c z119))) (fun z120=>qck z120 (qba (qbc (.idxAddr 4 (.c (nth z115.1 0)) (.c (nth z115.1 5)))) (fun z121=>qba (qbc (.fieldAddr 2 (.c z121))) (fun z122=>qba (qbc
  (.load 1 false (.c z122))) (fun z123=>qba (qb3 B .cl (.fn 10 []) [z123]) (fun z124=>qck z124 (qba (qbc (.idxAddr 4 (.c (nth z115.1 0)) (.c (nth z115.1 5)))) (fun z125
  => qba (qbc (.fieldAddr 2 (.c z125))) (fun z126=>qba (qbc (.load 1 false (.c z126))) (fun z127=>qba (qbc (.idxAddr 3 (.c z127) (.c (nth z115.1 6)))) (fun z128 =>
  qba (qbc (.fieldAddr 0 (.c z128))) (fun z129=>qba (qbc (.load 1 false (.c z129))) (fun z130=>qba (qbc (.bin .eql .num true (.c z130) (.c (.int .i64 8)))) (fun z131
  => qck z131 (qba (qbc (.bin .add .num true (.c (nth z115.1 4)) (.c (.int .i64 1)))) (fun z132=>qba (qbc (.bin .add .num true (.c (nth z115.1 6)) (.c (.int .i64 1))))
  (fun z133=>some (.inl ([nth z115.1 0,nth z115.1 1,nth z115.1 2,nth z115.1 3,z132,nth z115.1 5,z133],z115.2))))) (qba (qbc (.bin .add .num true (.c (nth z115.1 6)) (.c
  (.int .i64 1)))) (fun z134=>some (.inl ([nth z115.1 0,nth z115.1 1,nth z115.1 2,nth z115.1 3,nth z115.1 4,nth z115.1 5,z134],z115.2)))))))))))) (qba (qbc (.bin .add
  .num true (.c (nth z115.1 6)) (.c (.int .i64 1)))) (fun z135=>some (.inl ([nth z115.1 0,nth z115.1 1,nth z115.1 2,nth z115.1 3,nth z115.1 4,nth z115.1 5,z135],
  z115.2))))))))) (qba (qba (qbc (.bin .add .num true (.c (nth z115.1 5)) (.c (.int .i64 1)))) (fun z136=>some (.inl ([nth z115.1 0,nth z115.1 1,nth z115.1 2,nth z115.1 3,
  nth z115.1 4,z136],z115.2)))) (fun z137=>some (.inr z137))))))))) ([nth z91.1 0,nth z91.1 1,nth z91.1 2,nth z91.1 3,nth z91.1 4,nth z91.1 5,.int .i64 0],z91.2))) (fun
  z138=>some (.inr z138)))))) ([nth z78.1 0,nth z78.1 1,nth z78.1 2,nth z78.1 3,nth z78.1 4,nth z78.1 5,z84,.int .i64 0],z78.2))))))))))))) (qba (qba (qck (nth z78.1
  1) (qba (qbc (.len .slice (.c (nth z78.1 3)))) (fun z139=>qba (qbc (.bin .eql .num false (.c (nth z78.1 4)) (.c z139))) (fun z140=>some z140))) (some (.bool false)))
  (fun z141=>some (z141,z78.2))) (fun z142=>some (.inr z142)))))) ([slO 4 4 (qbd z2) 0 (qbv (qbd z2)),z1,z73,z74,.int .i64 0,.int .i64 0],e))))))))))):=by kernel_rfl
end Go.Ab


namespace Go.Ab.Core
open Go Go.Ab
def sp0 (g:FuncId) (σ:Nm→Option Ob) (vs:List PV):Option Out :=
 if g=89 then spIsG [1] 407 [] vs
 else if g=151 then spIdx vs
 else if g=79 then Qh3 vs
 else if g=53 then qp0 64 σ vs
 else if g=31 then Qft 64 5 σ vs
 else none
noncomputable def B0:KB:={ sp:=sp0,L:=limCall sp0 qc3,I:=limIo sp0 qc3,isIo:=qk4 qc3,leans:=qpi qc3 }
end Go.Ab.Core


namespace Go.Ab.Core
open Go Go.Ab
def NotSp (g:FuncId):Prop:=g≠89∧g≠151∧g≠79∧g≠53∧g≠31
instance (g:FuncId):Decidable (NotSp g):=by unfold NotSp;infer_instance
theorem Qmi {g:FuncId} (h:NotSp g) (σ:Nm→Option Ob) (vs:List PV):sp0 g σ vs=none:=by
 unfold sp0
 rw [if_neg h.1,if_neg h.2.1,if_neg h.2.2.1,if_neg h.2.2.2.1,if_neg h.2.2.2.2]
theorem sp_here (g:FuncId):Qti (sp0 g):=by
 intro σ σ' vs h
 unfold sp0
 split
 ·rfl
 split
 ·rfl
 split
 ·rfl
 split
 ·exact check_here 64 σ σ' vs h
 split
 ·exact str_here 64 5 σ σ' vs h
 rfl
theorem Qnl:∀ g,(iof0 g).isSome=qk4 qc3 g:=by
 intro g
 unfold iof0 qk4
 split
 ·rfl
 ·rfl
 ·rfl
 ·rfl
 ·rfl
 ·rfl
 ·rfl
 ·rfl
 ·rfl
 ·rfl
 ·rfl
 ·rfl
 ·rfl
 ·rfl
 ·rfl
 ·rfl
 ·rfl
 ·rename_i h0 h1 h2 h3 h4 h5 h6 h7 h8 h9 h10 h11 h12 h13 h14 h15 h16
  split
  ·rename_i fn ht
   unfold qc3 at ht
   split at ht
   all_goals first | (exact (h0 rfl).elim) | (exact (h1 rfl).elim) | (exact (h2 rfl).elim) | (exact (h3 rfl).elim) | (exact (h4 rfl).elim) | (exact (h5 rfl).elim) | (exact (h6 rfl).elim) | (exact (h7 rfl).elim) | (exact (h8 rfl).elim) | (exact (h9 rfl).elim) | (exact (h10 rfl).elim) | (exact (h11 rfl).elim) | (exact (h12 rfl).elim) | (exact (h13 rfl).elim) | (exact (h14 rfl).elim) | (exact (h15 rfl).elim) | (exact (h16 rfl).elim) | (cases ht;done) | (cases ht;rfl)
  ·rfl
theorem qhk (d:Nat→RSh):qm1 (qk6 B0 d) qc3 where
 L:=rfl
 I:=rfl
 isIo:=rfl
 leans:=rfl
 flat g h:=by simp only [qk6,Bool.or_eq_true,beq_iff_eq] at h;rcases h with rfl<;>kernel_rfl
 ioF g:=Qnl g
 ioP g P h:=by
  simp only [qk6,iof0] at h
  split at h
  ·cases h;exact ⟨fn30,rfl,by decide,fun xs os=>by show (shs30 xs os).args.length≤_∧(shs30 xs os).ins.length≤_;unfold shs30;split<;>exact ⟨Nat.le_of_ble_eq_true rfl,Nat.le_of_ble_eq_true rfl⟩⟩
  ·cases h;exact ⟨fn34,rfl,by decide,fun xs os=>⟨Nat.le_of_ble_eq_true rfl,Nat.le_of_ble_eq_true rfl⟩⟩
  ·cases h;exact ⟨fn54,rfl,by decide,fun xs os=>⟨Nat.le_of_ble_eq_true rfl,Nat.le_of_ble_eq_true rfl⟩⟩
  ·cases h;exact ⟨fn58,rfl,by decide,fun xs os=>⟨Nat.le_of_ble_eq_true rfl,Nat.le_of_ble_eq_true rfl⟩⟩
  ·cases h;exact ⟨fn82,rfl,by decide,fun xs os=>⟨Nat.le_of_ble_eq_true rfl,Nat.le_of_ble_eq_true rfl⟩⟩
  ·cases h;exact ⟨fn83,rfl,by decide,fun xs os=>⟨Nat.le_of_ble_eq_true rfl,Nat.le_of_ble_eq_true rfl⟩⟩
  ·cases h;exact ⟨fn86,rfl,by decide,fun xs os=>⟨Nat.le_of_ble_eq_true rfl,Nat.le_of_ble_eq_true rfl⟩⟩
  ·cases h;exact ⟨fn108,rfl,by decide,fun xs os=>⟨Nat.le_of_ble_eq_true rfl,Nat.le_of_ble_eq_true rfl⟩⟩
  ·cases h;exact ⟨fn116,rfl,by decide,fun xs os=>by show (Qpu xs os).args.length≤_∧(Qpu xs os).ins.length≤_;unfold Qpu;split<;>exact ⟨Nat.le_of_ble_eq_true rfl,Nat.le_of_ble_eq_true rfl⟩⟩
  ·cases h;exact ⟨fn117,rfl,by decide,fun xs os=>⟨Nat.le_of_ble_eq_true rfl,Nat.le_of_ble_eq_true rfl⟩⟩
  ·cases h;exact ⟨fn119,rfl,by decide,fun xs os=>⟨Nat.le_of_ble_eq_true rfl,Nat.le_of_ble_eq_true rfl⟩⟩
  ·cases h;exact ⟨fn146,rfl,by decide,fun xs os=>⟨Nat.le_of_ble_eq_true rfl,Nat.le_of_ble_eq_true rfl⟩⟩
  ·cases h;exact ⟨fn148,rfl,by decide,fun xs os=>⟨Nat.le_of_ble_eq_true rfl,Nat.le_of_ble_eq_true rfl⟩⟩
  ·cases h;exact ⟨fn152,rfl,by decide,fun xs os=>⟨Nat.le_of_ble_eq_true rfl,Nat.le_of_ble_eq_true rfl⟩⟩
  ·cases h;exact ⟨fn176,rfl,by decide,fun xs os=>⟨Nat.le_of_ble_eq_true rfl,Nat.le_of_ble_eq_true rfl⟩⟩
  ·cases h;exact ⟨fn178,rfl,by decide,fun xs os=>⟨Nat.le_of_ble_eq_true rfl,Nat.le_of_ble_eq_true rfl⟩⟩
  ·cases h;exact ⟨fn212,rfl,by decide,fun xs os=>⟨Nat.le_of_ble_eq_true rfl,Nat.le_of_ble_eq_true rfl⟩⟩
  ·cases h
 spF g h σ vs:=by
  simp only [qk6,Bool.or_eq_false_iff,beq_eq_false_iff_ne] at h
  obtain ⟨⟨⟨⟨h0,h1⟩,h2⟩,h3⟩,h4⟩:=h
  exact Qmi ⟨h0,h4,h1,h2,h3⟩ σ vs
 loc g σ vs hv:=cfg_loc sp_here g σ vs hv
 spK g s h σ xs out hx hσ hs:=by
  simp only [qk6] at h
  split at h
  ·rename_i hg;subst hg;cases h;exact kCheck_ok hσ hs
  split at h
  ·rename_i hg;subst hg;cases h;exact kStr_ok hs
  cases h
 asOk:=nofun
theorem call {d:Nat→RSh} {g:FuncId} {fn:RFn} {sh:RSh} {args:List PV} {u:PV} (ht:qc3 g=some fn) (hg:NotSp g) (ha:qca args=true) (hl:Nat.ble args.length fn.nt=true)
  (hr:qm2 (qk6 B0 d) fn sh qbe 0 (args.map KV.cv) ()=some (u,())) (hio:fn.io=false:=by rfl) (hb:Nat.blt g qhb=true:=by rfl):qb3 B0 sh (.fn g []) args=some u:=by
 refine Qn7 (qhk d) ht (cap:=[]) (by simpa using ha) (by simpa using Nat.le_of_ble_eq_true hl) (Qmi hg (fun _=>none) _) ?_ hio hb
 simpa using hr
theorem Qlz {g:FuncId} {n:Nat} {args:List PV} {u:PV} (hg:NotSp g) (h:qbn sp0 qc3 n Unit qbe 0 g args ()=some (u,[],())) (hu:okV u=true) (hio:qk4 qc3 g=false) (hb:Nat.blt g qhb=true:=by rfl):qb3 B0 .cl (.fn g []) args=some u:=by
 have hid:qf6 g=g:=by simp [qf6,hb]
 have hfa:qcl g args []=args:=by simp [qcl,hb]
 obtain ⟨e2,_,h2⟩:=qwe n Unit Unit (fun _ _=>True) qbe (fun _=>qbe) (fun _ _ _ _ _ _ _ h=>by cases h) 0 g args () () trivial _ _ _ h
 have hL:B0.L Unit qbe 0 g args ()=some (u,[],()):=Qdi h2
 have hI:B0.isIo g=false:=hio
 have hs:B0.sp g (fun _=>none) args=none:=Qmi hg _ _
 unfold qb3
 simp [hid,hfa,spO,hs,hI,hL,qny,qjo,hu,qby]
end Go.Ab.Core


namespace Go.Ab.Core
open Go Go.Ab
theorem w64 {n:Int} (h1 : -9223372036854775808≤n) (h2:n≤9223372036854775807):IntKind.i64.wrap n=n:=IntWalk.i64_in _ ⟨h1,h2⟩
def I (n:Int):PV:=.int .i64 n
def qg6 (l:List Int):List PV:=l.map I
def il (l:List Int):PV:=.sl 1 (qg6 l) false
structure Nd where
 kind:Int
 text:List UInt8
 kids:List Int
 deriving DecidableEq
def nd (n:Nd):PV:=.agg [I n.kind,.str n.text,il n.kids]
def nds (t:List Nd):List PV:=t.map nd
def tl (t:List Nd):PV:=.sl 3 (nds t) false
def big:Nat:=1000000
structure Nd.Fine (n:Nd):Prop where
 kids:n.kids.length≤big
structure Fine (t:List Nd):Prop where
 len:t.length≤big
 nd:∀ n∈t,n.Fine
theorem qtd (l:List Int):qca (qg6 l)=true:=by
 induction l with
 | nil=>rfl
 | cons a l ih=>simpa [qg6,qca,okV,I] using ih
theorem qyt (n:Nd):okV (nd n)=true:=by simp [nd,okV,qca,I,il,qtd]
theorem Qf5 (t:List Nd):qca (nds t)=true:=by
 induction t with
 | nil=>rfl
 | cons a l ih=>simp only [nds,List.map_cons,qca,qyt,Bool.true_and];exact ih
@[simp] theorem Qqa (t:List Nd):okV (tl t)=true:=by simp [tl,okV,Qf5]
@[simp] theorem okV_il (l:List Int):okV (il l)=true:=by simp [il,okV,qtd]
@[simp] theorem okV_I (n:Int):okV (I n)=true:=rfl
theorem qd0 (n:Int):PV.int .i64 n=I n:=rfl
@[simp] theorem qh5 (n:Nat):nI n=I n:=rfl
@[simp] theorem qcj (n:Nat):qbj (I (n:Int))=n:=by simp [qbj,I]
@[simp] theorem isUndef_I (n:Int):qhg (I n)=false:=rfl
@[simp] theorem isUndef_tl (t:List Nd):qhg (tl t)=false:=rfl
@[simp] theorem isUndef_il (t:List Int):qhg (il t)=false:=rfl
@[simp] theorem isUndef_str (s:List UInt8):qhg (.str s)=false:=rfl
@[simp] theorem isUndef_bool (s:Bool):qhg (.bool s)=false:=rfl
@[simp] theorem cells_I (n:Int):(I n).cells=[I n]:=rfl
@[simp] theorem cells_il (n:List Int):(il n).cells=[il n]:=rfl
@[simp] theorem cells_tl (n:List Nd):(tl n).cells=[tl n]:=rfl
@[simp] theorem isVal_I (n:Int):(I n).isVal=true:=rfl
@[simp] theorem isCell_I (n:Int):(I n).isCell=true:=rfl
@[simp] theorem isVal_il (n:List Int):(il n).isVal=true:=rfl
@[simp] theorem qce (l:List Int):qbd (il l)=qg6 l:=rfl
@[simp] theorem itemsP_tl (l:List Nd):qbd (tl l)=nds l:=rfl
@[simp] theorem qcz (l:List Int):(qg6 l).length=l.length:=by simp [qg6]
@[simp] theorem Qgg (l:List Nd):(nds l).length=l.length:=by simp [nds]
@[simp] theorem qnd (n:Int):qbc (.load 1 false (.c (.ptr [I n] 0)))=some (I n):=rfl
@[simp] theorem qdp {c:TC} {b:Bool} (a n:Int):qbc (.bin .lss c b (.c (I a)) (.c (I n)))=some (.bool (decide (a < n))):=pure_lss a n
@[simp] theorem Qhp {c:TC} {b:Bool} (a n:Int):qbc (.bin .eql c b (.c (I a)) (.c (I n)))=some (.bool (a==n)):=pure_eql a n
@[simp] theorem Qho {c:TC} {b:Bool} (a n:Int):qbc (.bin .neq c b (.c (I a)) (.c (I n)))=some (.bool (a != n)):=pure_neq a n
@[simp] theorem qg9 {c:TC} {b:Bool} (a n:Int):qbc (.bin .add c b (.c (I a)) (.c (I n)))=some (I (IntKind.i64.wrap (a+n))):=pure_add a n
@[simp] theorem Qpg {c:TC} {b:Bool} (a n:Int):qbc (.bin .sub c b (.c (I a)) (.c (I n)))=some (I (IntKind.i64.wrap (a - n))):=pure_sub a n
@[simp] theorem I_geq {c:TC} {b:Bool} (a n:Int):qbc (.bin .geq c b (.c (I a)) (.c (I n)))=some (.bool (decide (n≤a))):=pure_geq a n
@[simp] theorem I_leq {c:TC} {b:Bool} (a n:Int):qbc (.bin .leq c b (.c (I a)) (.c (I n)))=some (.bool (decide (a≤n))):=pure_leq a n
@[simp] theorem I_gtr {c:TC} {b:Bool} (a n:Int):qbc (.bin .gtr c b (.c (I a)) (.c (I n)))=some (.bool (decide (n < a))):=pure_gtr a n
theorem qhd {i:Nat} (h:i < 9223372036854775807):IntKind.i64.wrap ((i:Int)+1)=((i+1:Nat):Int):=by rw [w64 (by omega) (by omega)];omega
theorem Qmf {i:Nat} (h:0 < i) (h2:i < 9223372036854775807):IntKind.i64.wrap ((i:Int) - 1)=((i - 1:Nat):Int):=by rw [w64 (by omega) (by omega)];omega
@[simp] theorem qk2 (t:List Nd):qbc (.len .slice (.c (tl t)))=some (I (t.length:Nat)):=by unfold tl;rw [qgk,Qgg];rfl
@[simp] theorem qh1 (t:List Int):qbc (.len .slice (.c (il t)))=some (I (t.length:Nat)):=by unfold il;rw [qgk,qcz];rfl
theorem qmh {t:List Nd} {i:Nat} (h:i < t.length):qbc (.idxAddr 3 (.c (tl t)) (.c (I (i:Int))))=some (.ptr [I t[i].kind,.str t[i].text,il t[i].kids] 0) :=
 qgj (by omega) (show (nds t)[i]?=some (nd t[i]) by simp [nds,h])
theorem qrw {t:List Int} {i:Nat} (h:i < t.length):qbc (.idxAddr 1 (.c (il t)) (.c (I (i:Int))))=some (.ptr [I t[i]] 0) :=
 qgj (by omega) (show (qg6 t)[i]?=some (I t[i]) by simp [qg6,h])
@[simp] theorem Qj6 (a b c:PV):qbc (.load 3 true (.c (.ptr [a,b,c] 0)))=some (.agg [a,b,c]):=rfl
@[simp] theorem Qnc (a b c:PV):qbc (.load 1 false (.c (.ptr [a,b,c] 0)))=some a:=rfl
@[simp] theorem load3_1 (a b c:PV):qbc (.load 1 false (.c (.ptr [a,b,c] 1)))=some b:=rfl
@[simp] theorem qzd (a b c:PV):qbc (.load 1 false (.c (.ptr [a,b,c] 2)))=some c:=rfl
@[simp] theorem fa3_0 (a b c:PV):qbc (.fieldAddr 0 (.c (.ptr [a,b,c] 0)))=some (.ptr [a,b,c] 0):=rfl
@[simp] theorem fa3_1 (a b c:PV):qbc (.fieldAddr 1 (.c (.ptr [a,b,c] 0)))=some (.ptr [a,b,c] 1):=rfl
@[simp] theorem fa3_2 (a b c:PV):qbc (.fieldAddr 2 (.c (.ptr [a,b,c] 0)))=some (.ptr [a,b,c] 2):=rfl
@[simp] theorem qm9 (k:Int) (s:List UInt8) (l:List Int):qb8 (.agg [I k,.str s,il l]) 3=true:=rfl
@[simp] theorem qmo (a b c:PV):qbi (.agg [a,b,c]) 0=a:=rfl
@[simp] theorem qmn (a b c:PV):qbi (.agg [a,b,c]) 1=b:=rfl
@[simp] theorem qmm (a b c:PV):qbi (.agg [a,b,c]) 2=c:=rfl
@[simp] theorem sel3_0 (a b c:PV):sel [a,b,c] 0 1 false=some a:=rfl
@[simp] theorem sel3_1 (a b c:PV):sel [a,b,c] 1 1 false=some b:=rfl
@[simp] theorem sel3_2 (a b c:PV):sel [a,b,c] 2 1 false=some c:=rfl
@[simp] theorem qnb (a b c d e f g h i x:PV) (l:List PV):nth (a :: b :: c :: d :: e :: f :: g :: h :: i :: x :: l) 9=x:=rfl
@[simp] theorem qk1 (a b c d e f g h i j x:PV) (l:List PV):nth (a :: b :: c :: d :: e :: f :: g :: h :: i :: j :: x :: l) 10=x:=rfl
@[simp] theorem qte (a b c d e f g h i j k x:PV) (l:List PV):nth (a :: b :: c :: d :: e :: f :: g :: h :: i :: j :: k :: x :: l) 11=x:=rfl
@[simp] theorem Qjv (a b c d e f g h i j k m x:PV) (l:List PV):nth (a :: b :: c :: d :: e :: f :: g :: h :: i :: j :: k :: m :: x :: l) 12=x:=rfl
@[simp] theorem Qju (a b c d e f g h i j k m n x:PV) (l:List PV):nth (a :: b :: c :: d :: e :: f :: g :: h :: i :: j :: k :: m :: n :: x :: l) 13=x:=rfl
theorem Qm4 {n:Nat} (k:Nat) (c:Int) (hc:c=k):qbc (.minmax false [.c (I n),.c (.int .i64 c)])=some (I (min n k:Nat)):=by
 subst hc
 simp only [qbc,exec,List.map_cons,List.map_nil,RX.ev,qz4,I]
 by_cases h:n≤k
 ·have:¬ (k:Int) < (n:Int):=by omega
  simp [this,Nat.min_eq_left h,chk]
 ·have:(k:Int) < (n:Int):=by omega
  simp [this,Nat.min_eq_right (by omega:k≤n),chk]
theorem qnv {l:List Int} {i:Nat} (h:i < l.length):qpo (qg6 l) i 0 1 false=some (I l[i]):=by
 simp [qpo,qg6,h]
theorem qxn {l:List Int} {i:Nat} (h:i < l.length) (n:Int):setO 1 (qg6 l) i 0 1 (I n)=some (qg6 (l.set i n)):=by
 simp only [setO,qg6,List.getElem?_map,List.getElem?_eq_getElem h,Option.map_some,I]
 simp [qby,PV.isCell,List.map_set,I]
end Go.Ab.Core


namespace Go.Ab
theorem loop_inv {σ ρ α:Type} {step:σ→Option (Sum σ ρ)} (st:Nat→α→σ) (n:Nat) (P:Nat→α→Prop) (Q:ρ→Prop)
  (hs:∀ i a,i < n→P i a→(∃ a',step (st i a)=some (.inl (st (i+1) a'))∧P (i+1) a')∨∃ r,step (st i a)=some (.inr r)∧Q r)
  (he:∀ a,P n a→∃ r,step (st n a)=some (.inr r)∧Q r) {a0:α} (h0:P 0 a0):∃ r,qci step (st 0 a0)=some r∧Q r:=by
 have key:∀ m i a,i+m=n→P i a→∃ r,qci step (st i a)=some r∧Q r:=by
  intro m
  induction m with
  | zero =>
   intro i a hi hp
   obtain rfl:i=n:=by omega
   obtain ⟨r,h1,h2⟩:=he a hp
   exact ⟨r,qde h1,h2⟩
  | succ m ih =>
   intro i a hi hp
   rcases hs i a (by omega) hp with ⟨a',h1,h2⟩ | ⟨r,h1,h2⟩
   ·rw [qdj h1];exact ih _ _ (by omega) h2
   ·exact ⟨r,qde h1,h2⟩
 exact key n 0 a0 (by omega) h0
theorem range_then {E β:Type} {B:KB} {h:qbl E} {dep:Nat} {f:PV} {e:E} {K:E→Option β} {r:β} (e':E) (h1:qpt B h dep f e=some e') (h2:K e'=some r):qba (qpt B h dep f e) K=some r:=by
 rw [h1];exact h2
@[simp] theorem qnb (a0 a1 a2 a3 a4 a5 a6 a7 a8 x:PV) (l:List PV):nth (a0 :: a1 :: a2 :: a3 :: a4 :: a5 :: a6 :: a7 :: a8 :: x :: l) 9=x:=rfl
@[simp] theorem qk1 (a0 a1 a2 a3 a4 a5 a6 a7 a8 a9 x:PV) (l:List PV):nth (a0 :: a1 :: a2 :: a3 :: a4 :: a5 :: a6 :: a7 :: a8 :: a9 :: x :: l) 10=x:=rfl
@[simp] theorem qte (a0 a1 a2 a3 a4 a5 a6 a7 a8 a9 a10 x:PV) (l:List PV):nth (a0 :: a1 :: a2 :: a3 :: a4 :: a5 :: a6 :: a7 :: a8 :: a9 :: a10 :: x :: l) 11=x:=rfl
@[simp] theorem Qjv (a0 a1 a2 a3 a4 a5 a6 a7 a8 a9 a10 a11 x:PV) (l:List PV):nth (a0 :: a1 :: a2 :: a3 :: a4 :: a5 :: a6 :: a7 :: a8 :: a9 :: a10 :: a11 :: x :: l) 12=x:=rfl
@[simp] theorem Qju (a0 a1 a2 a3 a4 a5 a6 a7 a8 a9 a10 a11 a12 x:PV) (l:List PV):nth (a0 :: a1 :: a2 :: a3 :: a4 :: a5 :: a6 :: a7 :: a8 :: a9 :: a10 :: a11 :: a12 :: x :: l) 13=x:=rfl
end Go.Ab


namespace Go.Ab.Core
open Go Go.Ab
theorem qxr {σ ρ α:Type} {step:σ→Option (Sum σ ρ)} (st:Nat→α→σ) (n:Nat) (P:Nat→α→Prop) (res:Nat→α→ρ)
  (hs:∀ i a,i < n→P i a→(∃ a',step (st i a)=some (.inl (st (i+1) a'))∧P (i+1) a'∧res (i+1) a'=res i a)∨step (st i a)=some (.inr (res i a)))
  (he:∀ a,P n a→step (st n a)=some (.inr (res n a))) {a0:α} (h0:P 0 a0):qci step (st 0 a0)=some (res 0 a0):=by
 obtain ⟨r,h1,h2⟩:=loop_inv (step:=step) st n (fun i a=>P i a∧res i a=res 0 a0) (fun r=>r=res 0 a0) (fun i a hi hp=>by
  rcases hs i a hi hp.1 with ⟨a',q1,q2,q3⟩ | q
  ·exact .inl ⟨a',q1,q2,q3.trans hp.2⟩
  ·exact .inr ⟨_,q,hp.2⟩) (fun a hp=>⟨_,he a hp.1,hp.2⟩) ⟨h0,rfl⟩
 rw [h1,h2]
theorem qfu:big < 4000000:=by decide
theorem Qm6 {σ ρ α:Type} {step:σ→Option (Sum σ ρ)} (st:Nat→α→σ) (n:Nat) (P:Nat→α→Prop) (res:Nat→α→ρ)
  (hs:∀ i a,i < n→P i a→∃ q,step (st i a)=some q∧((∃ a',q=.inl (st (i+1) a')∧P (i+1) a'∧res (i+1) a'=res i a)∨q=.inr (res i a)))
  (he:∀ a,P n a→step (st n a)=some (.inr (res n a))) {a0:α} (h0:P 0 a0):qci step (st 0 a0)=some (res 0 a0) :=
 qxr st n P res (fun i a hi hp=>by
  obtain ⟨q,h1,h2⟩:=hs i a hi hp
  rcases h2 with ⟨a',rfl,h3,h4⟩ | rfl
  ·exact .inl ⟨a',h1,h3,h4⟩
  ·exact .inr h1) he h0
abbrev Fm:=Int×Int×Int×Bool
def Qgv:List Fm:=[(1,0,0,true),(2,0,0,true),(3,0,0,true),(4,0,0,true),(9,0,0,true),(14,0,0,true),(13,0,0,true),(5,1,1,false),(8,1,1,true),(10,1,1,true),(6,2,2,false),(12,2,2,false),(7,3,3,false),(11,1,1048576,false)]
def fmV (p:Fm):PV:=.agg [I p.2.1,I p.2.2.1,.bool p.2.2.2]
def fms:List Fm→List PV
 | []=>[]
 | p :: l=>I p.1 :: fmV p :: fms l
theorem ev_forms:qbn sp0 qc3 60 Unit qbe 0 84 [] ()=some (.imap (fms Qgv),[],()):=by kernel_rfl
theorem Qqd:∀ l,qca (fms l)=true
 | []=>rfl
 | p :: l=>by simp [fms,qca,fmV,okV,Qqd l]
theorem forms_run:qb3 B0 .cl (.fn 84 []) []=some (.imap (fms Qgv)):=Qlz (by decide) ev_forms (by simp [okV,Qqd]) rfl
theorem Qra (k:Int):∀ l,qrl (I k) (fms l)=some ((l.find? fun p=>p.1==k).map fmV)
 | []=>rfl
 | p :: l=>by
  simp only [fms,qrl,I,Qgq,chk,beq_self_eq_true,if_true]
  rw [show PV.int .i64 k=I k from rfl,Qra k l]
  by_cases h:k=p.1
  ·subst h;simp [List.find?]
  ·have h1:(k==p.1)=false:=by simpa using h
   have h2:(p.1==k)=false:=by simpa using fun e:p.1=k=>h e.symm
   simp [List.find?,h1,h2]
theorem look_fms (k:Int):qbc (.lookup .num (.agg [.int .i64 0,.int .i64 0,.bool false]) false (.c (.imap (fms Qgv))) (.c (I k)))=some (((Qgv.find? fun p=>p.1==k).map fmV).getD (.agg [I 0,I 0,.bool false])):=by
 simp only [qbc,exec,RX.ev,Qra]
 simp [qsk,I,chk]
def qge (n:Nd):Bool :=
 match Qgv.find? fun p=>p.1==n.kind with
 | some p=>decide (p.2.1≤(n.kids.length:Int))&&decide ((n.kids.length:Int)≤p.2.2.1)&&((n.text != [])==p.2.2.2)
 | none=>false
theorem eq_fm (a b:Int) (c:Bool):qbc (.bin .eql (.plain [0,0,2]) false (.c (.agg [I a,I b,.bool c])) (.c (.agg [.int .i64 0,.int .i64 0,.bool false])))=some (.bool (a==0&&b==0&&c==false)):=by
 simp only [qbc,exec,RX.ev,qn3,Qg7,I,qmy,chk,beq_self_eq_true,if_true]
 cases h1:(a==0)<;>simp
 cases h2:(b==0)<;>simp
 cases c<;>rfl
theorem forms_not:∀ p∈Qgv,(p.2.1==0&&p.2.2.1==0&&p.2.2.2==false)=false:=by decide
theorem form_run (n:Nd):qb3 B0 .cl (.fn 55 []) [nd n]=some (.bool (qge n)):=by
 refine call (d:=fun _=>.cl) rfl (by decide) (by simp [qca,qyt]) rfl ?_
 rw [List.map_cons,List.map_nil,run55,show Qmc (nd n)=true from rfl,qbg,forms_run,qbb]
 simp only [nd,Qmn,qn2,sel3_0,sel3_1,sel3_2,qbb,look_fms]
 unfold qge
 cases hf:Qgv.find? fun p=>p.1==n.kind with
 | none =>
  simp only [Option.map_none,Option.getD_none,qmo,qmn,qmm,eq_fm,qbb]
  rfl
 | some p =>
  simp only [Option.map_some,Option.getD_some,fmV,qmo,qmn,qmm,eq_fm,qbb,forms_not p (List.mem_of_find?_eq_some hf)]
  rw [show qb8 (.agg [I p.2.1,I p.2.2.1,.bool p.2.2.2]) 3=true from rfl,qbg,qbm]
  simp only [qh1,qbb,I_geq,I_leq,qco,pure_nes,pure_eqb]
  cases h1:decide (p.2.1≤(n.kids.length:Int))<;>cases h2:decide ((n.kids.length:Int)≤p.2.2.1)<;>simp
  cases n.text<;>rfl
def qtm (i:Int):Int→List Int→Bool
 | _,[]=>true
 | last,k :: ks=>decide (last < k)&&decide (k < i)&&qtm i k ks
def bump (ups:List Int) (ks:List Int):List Int:=ks.foldl (fun u k=>u.set k.toNat (u.getD k.toNat 0+1)) ups
def qdh (i:Nat) (ups:List Int):List Nd→Option (List Int)
 | []=>some ups
 | n :: ns=>if qtm i (-1) n.kids&&qge n then qdh (i+1) (bump ups n.kids) ns else none
def qkf (ups:List Int):List Int:=ups.set (ups.length - 1) (ups.getD (ups.length - 1) 0+1)
def qc7 (t:List Nd):Bool :=
 decide (1≤t.length)&&decide (t.length≤400)&&(match qdh 0 (List.replicate t.length 0) t with
  | some ups=>(qkf ups).all (·==1)
  | none=>false)
theorem qpr:∀ (ks:List Int) (ups:List Int),(bump ups ks).length=ups.length
 | [],_=>rfl
 | k :: ks,ups=>by
  show (bump (ups.set _ _) ks).length=_
  rw [qpr ks,List.length_set]
def qxj (m:Nat) (ups:List Int):Prop:=∀ u∈ups,0≤u∧u≤m
theorem qxj.bump1 {m:Nat} {ups:List Int} (h:qxj m ups) (k:Nat):qxj (m+1) (ups.set k (ups.getD k 0+1)):=by
 intro u hu
 rcases List.mem_or_eq_of_mem_set hu with hu | rfl
 ·have:=h u hu;omega
 ·by_cases hk:k < ups.length
  ·have:=h _ (List.getElem_mem hk)
   simp only [List.getD_eq_getElem?_getD,List.getElem?_eq_getElem hk,Option.getD_some]
   omega
  ·simp only [List.getD_eq_getElem?_getD,List.getElem?_eq_none (by omega:ups.length≤k),Option.getD_none]
   omega
theorem qxj.bump:∀ {ks:List Int} {m:Nat} {ups:List Int},qxj m ups→qxj (m+ks.length) (bump ups ks)
 | [],_,_,h=>h
 | k :: ks,m,ups,h=>by
  have:=qxj.bump (ks:=ks) (h.bump1 k.toNat)
  intro u hu
  have:=this u hu
  simp only [List.length_cons]
  omega
theorem one_run (n:Int):qb3 B0 .cl (.fn 57 []) [I n]=some (.bool (n != 1)):=by
 refine call (d:=fun _=>.cl) rfl (by decide) rfl rfl ?_
 rw [List.map_cons,List.map_nil,run57]
 simp only [qd0,Qho,qbb]
theorem find_run (l:List Int) (hl:l.length≤big):qb3 B0 .cl (.fn 85 []) [il l,.fn 57 []]=some (I (match l.findIdx? (· != 1) with | some i=>(i:Int) | none => -1)):=by
 refine call (d:=fun _=>.cl) rfl (by decide) (by simp [qca,okV]) rfl ?_
 rw [List.map_cons,List.map_cons,List.map_nil,run85,qh1,qbb]
 rw [show qbs [il l,.fn 57 [],I (l.length:Nat),.int .i64 0]=true from rfl,qbg]
 refine Eq.trans (qxr (fun i (_:Unit)=>([il l,.fn 57 [],I l.length,I (i:Int)],())) l.length (fun _ _=>True)
  (fun i _=>(I (match (l.drop i).findIdx? (· != 1) with | some j=>((i+j:Nat):Int) | none => -1),())) (fun i _ hi _=>?_) (fun _ _=>?_) (a0:=()) trivial) (by simp)
 all_goals simp only [qdd,qdc,qdg,qdq,qdp,qbb,qco]
 ·have h1:decide ((i:Int) < (l.length:Nat))=true:=by simpa using hi
  rw [h1,if_pos rfl,qrw hi]
  simp only [qbb,qnd,one_run,qco]
  rw [List.drop_eq_getElem_cons hi,List.findIdx?_cons]
  cases hq:(l[i] != 1) with
  | true=>right;simp
  | false =>
   left
   refine ⟨(),?_,trivial,?_⟩
   ·rw [if_neg (by simp)]
    simp only [qd0,qg9,qbb]
    rw [qhd (by have:=qfu;omega)]
   ·simp only [Bool.false_eq_true,if_false]
    cases List.findIdx? (fun x=>x != 1) (l.drop (i+1)) with
    | none=>rfl
    | some j=>simp only [Option.map_some];rw [show i+1+j=i+(j+1) by omega]
 ·have h1:decide (((l.length:Nat):Int) < (l.length:Nat))=false:=by simp
  rw [h1]
  simp
  rfl
theorem all_run (l:List Int) (hl:l.length≤big):qkw B0 .cl true 56 [il l,.fn 57 []]=some (.bool (!l.all (·==1))):=by
 refine qhq (qhk fun _=>.cl) (fn:=fn56) rfl (by simp [qca,okV]) (Nat.le_of_ble_eq_true rfl) ?_ rfl
 rw [List.map_cons,List.map_cons,List.map_nil,run56,find_run l hl,qbb]
 simp only [qd0,I_geq,qbb,Option.some.injEq,Prod.mk.injEq,PV.bool.injEq,and_true]
 rw [← Bool.not_eq_not,Bool.not_not]
 rw [Bool.eq_iff_iff]
 cases hq:l.findIdx? (· != 1) with
 | none =>
  rw [List.findIdx?_eq_none_iff] at hq
  have:l.all (·==1)=true:=List.all_eq_true.2 fun x hx=>by have:=hq x hx;simpa using this
  simp [this]
 | some i =>
  have:¬ l.all (·==1)=true:=fun h=>by
   rw [List.findIdx?_eq_some_iff_getElem] at hq
   obtain ⟨h1,h2,_⟩:=hq
   have:=List.all_eq_true.1 h _ (List.getElem_mem h1)
   simp at this h2
   exact h2 this
  simp [this]
theorem qqy (l:List Int):slO 1 1 (qg6 l) 0 l.length=il l:=by
 unfold slO il
 rw [if_pos (by simp)]
 simp [List.take_of_length_le]
theorem Qqr {t:List Nd} {i:Nat} (ht:Fine t) (hi:i < t.length) {step:List PV×Unit→Option (Sum (List PV×Unit) (Sum (List PV×Unit) (PV×Unit)))} {ups:List Int} (hu:ups.length=t.length) {m0:Nat} (hm0:qxj m0 ups) (R:List Int→Sum (List PV×Unit) (PV×Unit))
  (st:Nat→Int→List Int→List PV×Unit)
  (hs:∀ (j:Nat) (last:Int) (ups:List Int) (hj:j < t[i].kids.length),ups.length=t.length→qxj (m0+j) ups→step (st j last ups) =
   (if decide (t[i].kids[j]≤last)||decide ((i:Int)≤t[i].kids[j]) then some (.inr (.inr (.bool false,())))
   else if 0≤t[i].kids[j] then some (.inl (st (j+1) t[i].kids[j] (ups.set t[i].kids[j].toNat (ups.getD t[i].kids[j].toNat 0+1)))) else none))
  (he:∀ (last:Int) (ups:List Int),ups.length=t.length→step (st t[i].kids.length last ups)=some (.inr (R ups))) :
  qci step (st 0 (-1) ups)=some (if qtm i (-1) t[i].kids then R (bump ups t[i].kids) else .inr (.bool false,())):=by
 refine Eq.trans (qxr (fun j (a:Int×List Int)=>st j a.1 a.2) t[i].kids.length (fun j a=>a.2.length=t.length ∧ -1≤a.1∧qxj (m0+j) a.2)
  (fun j a=>if qtm i a.1 (t[i].kids.drop j) then R (bump a.2 (t[i].kids.drop j)) else .inr (.bool false,())) (fun j a hj ha=>?_) (fun a ha=>?_) (a0:=(-1,ups)) ⟨hu,by simp,hm0⟩) (by simp)
 ·obtain ⟨last,ups⟩:=a
  simp only at ha ⊢
  rw [hs j last ups hj ha.1 ha.2.2,List.drop_eq_getElem_cons hj]
  simp only [qtm,bump,List.foldl_cons]
  cases h1:decide (t[i].kids[j]≤last) with
  | true =>
   have:decide (last < t[i].kids[j])=false:=by simp at h1 ⊢;exact h1
   right;simp [this]
  | false =>
   have g1:decide (last < t[i].kids[j])=true:=by simp at h1 ⊢;exact h1
   cases h2:decide ((i:Int)≤t[i].kids[j]) with
   | true =>
    have:decide (t[i].kids[j] < (i:Int))=false:=by simp at h2 ⊢;exact h2
    right;simp [this]
   | false =>
    have g2:decide (t[i].kids[j] < (i:Int))=true:=by simp at h2 ⊢;exact h2
    left
    have h0:0≤t[i].kids[j]:=by simp at g1;omega
    refine ⟨(t[i].kids[j],ups.set t[i].kids[j].toNat (ups.getD t[i].kids[j].toNat 0+1)),by simp [h0],⟨by simp [ha.1],by omega,ha.2.2.bump1 _⟩,by simp [g1,g2]⟩
 ·obtain ⟨last,ups⟩:=a
  simp only at ha ⊢
  rw [he last ups ha.1,List.drop_length]
  simp [qtm,bump]
theorem Qqh {n:Nat} (h:n≤qdr):mkSO (I n) (I n)=some n:=by
 simp [mkSO,I,qjv,qby,h]
theorem qwt (n:Nat):qvp (I n)=some n:=by simp [qvp,qjv,I]
theorem qs9 (n:Nat):ql6 n (I 0)=qg6 (List.replicate n 0):=by simp [qg6]
theorem Qjf {t:List Nd} (ht:Fine t):qm2 (qk6 B0 fun _=>.cl) fn33 .cl qbe 0 ([tl t].map KV.cv) ()=some (.bool (qc7 t),()):=by
 have hlt:=ht.len
 have hb:=qfu
 rw [List.map_cons,List.map_nil,run33]
 simp only [qk2,qbb,qd0,qdp,I_gtr,qco]
 by_cases h1:t.length < 1
 ·have:qc7 t=false:=by unfold qc7;simp [show ¬ 1≤t.length by omega]
  simp [show ((t.length:Nat):Int) < 1 by omega,this]
 have h1':¬ ((t.length:Nat):Int) < 1:=by omega
 by_cases h2:400 < t.length
 ·have:qc7 t=false:=by unfold qc7;simp [show ¬ t.length≤400 by omega]
  simp [h1',show (400:Int) < ((t.length:Nat):Int) by omega,this]
 have h2':¬ (400:Int) < ((t.length:Nat):Int):=by omega
 simp only [h1',h2',decide_false,Bool.false_eq_true,if_false,qbb,qbm]
 rw [Qqh (by unfold qdr;omega)]
 simp only [qbb,qh5]
 rw [show qbs [tl t,I t.length,tl t,I t.length,I 0]=true from rfl,qbg,qs9]
 have hrb:qc7 t=(match qdh 0 (List.replicate t.length 0) t with | some ups=>(qkf ups).all (·==1) | none=>false):=by
  unfold qc7;simp [show 1≤t.length by omega,show t.length≤400 by omega]
 rw [hrb]
 refine Eq.trans (Qm6 (fun i (ups:List Int)=>([tl t,I t.length,tl t,I t.length,I (i:Int),il ups],())) t.length (fun i ups=>ups.length=t.length∧qxj (i * big) ups)
  (fun i ups=>(PV.bool (match qdh i ups (t.drop i) with | some ups=>(qkf ups).all (·==1) | none=>false),())) (fun i ups hi hu=>?_) (fun ups hu=>?_) (a0:=List.replicate t.length 0) ⟨by simp,fun u hu=>by
   have:=List.eq_of_mem_replicate hu;omega⟩) (by simp)
 ·simp only [qdd,qdc,qdg,qdq,qfv,qgl,qdp,qbb]
  rw [show decide ((i:Int) < (t.length:Nat))=true by simpa using hi,qb6,qmh hi]
  simp only [qbb,Qj6,qm9,qbg,qmo,qmn,qmm,qh1,qcj,qh5,qce]
  rw [show qbs [tl t,I t.length,I i,I (-1),tl t,I t.length,I i,il t[i].kids,I t[i].kids.length,I 0]=true from rfl,qbg]
  rw [List.drop_eq_getElem_cons hi]
  have hnf:=ht.nd t[i] (List.getElem_mem hi)
  refine ⟨_,Qqr ht hi hu.1 hu.2 (fun ups=>if qge t[i] then .inl ([tl t,I t.length,tl t,I t.length,I ((i+1:Nat):Int),il ups],()) else .inr (.bool false,()))
   (fun j last ups=>([tl t,I t.length,I i,I last,tl t,I t.length,I i,il t[i].kids,I t[i].kids.length,I (j:Int),I t[i].kind,.str t[i].text,il t[i].kids,il ups],())) (fun j last ups hj hu' hle=>?_) (fun last ups hu'=>?_),?_⟩
  ·simp only [qdd,qdc,qdg,qdq,qfv,qgl,qjb,qju,qms,qnb,qk1,qte,Qjv,Qju,qdp,qbb]
   rw [show decide ((j:Int) < (t[i].kids.length:Nat))=true by simpa using hj,qb6,qrw hj]
   simp only [qbb,qnd,I_leq,I_geq,qco]
   by_cases g1:t[i].kids[j]≤last
   ·simp [g1]
   by_cases g2:(i:Int)≤t[i].kids[j]
   ·simp [g1,g2]
   simp only [g1,g2,decide_false,Bool.false_eq_true,if_false,qbb,qbm,Bool.or_self]
   by_cases g3:0≤t[i].kids[j]
   ·obtain ⟨m,hm⟩:=Int.eq_ofNat_of_zero_le g3
    rw [if_pos g3,hm]
    have hmt:m < t.length:=by rw [hm] at g2;omega
    have hmu:m < ups.length:=by omega
    have hub:=hle _ (List.getElem_mem hmu)
    have hjb:=hnf.kids
    have hib:i * big≤1000000 * 1000000:=Nat.mul_le_mul (by unfold big at hlt;omega) (by decide)
    simp only [qwt,qbb,qcj,qru,qd3,Nat.zero_add,qce,show decide (m < t.length)=true by simpa using hmt,qbg,qnv hmu,qg9,qxn hmu,Int.toNat_natCast]
    rw [qhd (i:=j) (by omega),w64 (n:=ups[m]+1) (by omega) (by omega)]
    simp [List.getD_eq_getElem?_getD,hmu]
    rfl
   ·rw [if_neg g3]
    have:qvp (I t[i].kids[j])=none:=by simp [qvp,qjv,I,g3]
    rw [this];rfl
  ·simp only [qdd,qdc,qdg,qdq,qfv,qgl,qjb,qju,qms,qnb,qk1,qte,Qjv,Qju,qdp,qbb]
   rw [show decide (((t[i].kids.length:Nat):Int) < (t[i].kids.length:Nat))=false by simp,qbm]
   rw [show qb3 B0 .cl (.fn 55 []) [.agg [I t[i].kind,.str t[i].text,il t[i].kids]]=some (.bool (qge t[i])) from form_run t[i]]
   simp only [qbb,qpg,qco,qg9,qcj,qh5,qce]
   rw [qhd (by omega)]
   cases qge t[i]<;>rfl
  ·cases hk:qtm (i:Int) (-1) t[i].kids with
   | false=>right;simp [qdh,hk]
   | true =>
    cases hfm:qge t[i] with
    | false=>right;simp [qdh,hk,hfm]
    | true =>
     left
     refine ⟨bump ups t[i].kids,by simp,⟨by rw [qpr];exact hu.1,fun u hu'=>?_⟩,by simp [qdh,hk,hfm]⟩
     have:=hu.2.bump u hu'
     have hk':=hnf.kids
     rw [Nat.add_mul]
     omega
 ·simp only [qdd,qdc,qdg,qdq,qfv,qgl,qdp,qbb]
  rw [show decide (((t.length:Nat):Int) < (t.length:Nat))=false by simp,qbm]
  have hlast:t.length - 1 < ups.length:=by omega
  have hub:=hu.2 _ (List.getElem_mem hlast)
  have hib:t.length * big≤1000000 * 1000000:=Nat.mul_le_mul (by unfold big at hlt;omega) (by decide)
  simp only [qk2,qbb,Qpg]
  rw [Qmf (by omega) (by omega)]
  simp only [qwt,qbb,qcj,qru,qd3,Nat.zero_add,qce,show decide (t.length - 1 < t.length)=true by simp;omega,qbg,qnv hlast,qg9,qxn hlast]
  rw [w64 (by omega) (by omega)]
  have hl:slO 1 1 (qg6 (ups.set (t.length - 1) (ups[t.length - 1]+1))) 0 t.length=il (ups.set (t.length - 1) (ups[t.length - 1]+1)):=by
   have:=qqy (ups.set (t.length - 1) (ups[t.length - 1]+1))
   rw [List.length_set,hu.1] at this
   exact this
  rw [hl,all_run _ (by rw [List.length_set,hu.1];exact hlt)]
  simp only [qbb,qpg,Bool.not_not,List.drop_length,qdh]
  unfold qkf
  rw [hu.1]
  simp [List.getD_eq_getElem?_getD,hlast]
theorem qs8 {t:List Nd} (ht:Fine t):qb3 B0 .cl (.fn 33 []) [tl t]=some (.bool (qc7 t)) :=
 call (d:=fun _=>.cl) rfl (by decide) (by simp [qca]) rfl (Qjf ht)
theorem right_lend {t:List Nd} (ht:Fine t):qkw B0 .cl true 33 [tl t]=some (.bool (qc7 t)) :=
 qhq (qhk fun _=>.cl) (fn:=fn33) rfl (by simp [qca]) (Nat.le_of_ble_eq_true rfl) (Qjf ht) rfl
end Go.Ab.Core


namespace Go.Ab
open Go Go.ChangeShapes Go.WideShapes Go.RowKit
inductive DTy where
 | bool
 | int (k:IntKind)
 | str
 | slice (e:DTy)
 | struct (fs:List DTy)
mutual
def DTy.cells:DTy→Nat
 | .struct fs=>DTy.cellsL fs
 | .bool | .int _ | .str | .slice _=>1
def DTy.cellsL:List DTy→Nat
 | []=>0
 | d :: ds=>d.cells+DTy.cellsL ds
end
mutual
def isD (P:Program):Nat→DTy→TypeId→Bool
 | 0,_,_=>false
 | n+1,D,t=>match D,P.underlying t with
  | .bool,some .bool=>true
  | .int k,some (.int k')=>k'==k
  | .str,some .string=>true
  | .slice e,some (.slice et)=>isD P n e et&&P.cellsOf et==e.cells&&decide (0 < e.cells)
  | .struct fs,some (.struct fields)=>P.cellsOf t==DTy.cellsL fs&&isFs P n 0 fs fields.toList
  | _,_=>false
def isFs (P:Program):Nat→Nat→List DTy→List Field→Bool
 | 0,_,_,_=>false
 | _+1,_,[],[]=>true
 | n+1,off,D :: ds,f :: fs=>f.offset==off&&P.cellsOf f.type==D.cells&&isD P n D f.type&&isFs P n (off+D.cells) ds fs
 | _+1,_,_,_=>false
end
mutual
def Qmb:DTy→PV→Prop
 | .bool,v=>∃ b,v=.bool b
 | .int k,v=>∃ n,v=.int k n∧(Lit.int k n).wf=true
 | .str,v=>∃ s,v=.str s∧s.length≤maxLen
 | .slice e,v=>v=.nilS∨∃ xs,v=.sl e.cells xs false∧xs.length≤maxLen∧∀ x∈xs,Qmb e x
 | .struct fs,v=>∃ vs,v=.agg (cellsL vs)∧HasVs fs vs
def HasVs:List DTy→List PV→Prop
 | [],vs=>vs=[]
 | D :: fs,vs=>∃ v r,vs=v :: r∧Qmb D v∧HasVs fs r
end
theorem repL1' {w:World} {I:Nat→Prop} {lp:Nat→Option Nat} {L:Option Loc} {a:PV} {us:List Value} (h:qb0 w I lp L [a] us):∃ u,us=[u]∧qb4 w I lp L a u:=by
 obtain ⟨u,r,h1,rfl,h2⟩:∃ u r,qb4 w I lp L a u∧us=u :: r∧qb0 w I lp L [] r:=by
  cases h;exact ⟨_,_,by assumption,rfl,by assumption⟩
 cases h2
 exact ⟨u,rfl,h1⟩
section
variable {H:Type} {enc:TypeId×Value→H} {P:Program} {w:World} {I:Nat→Prop} {lp:Nat→Option Nat} {held:Bool} {sp:Nat→Bool}
def RepD (w:World) (I:Nat→Prop) (lp:Nat→Option Nat) (D:DTy) (cs:List Value):Prop:=∃ v:PV,Qmb D v∧qb0 w I lp none v.cells cs∧One cs∧v.cells.length=D.cells
theorem cells?_get {base:Nat} {a:Addr} {n:Nat} {l:List Value} (h:w.cells? base a n=some l):l.length=n∧∀ i,i < n→w.cell? (a.add i)=l[i]?:=by
 obtain ⟨_,h1,h2⟩:=World.cells?_some h
 exact ⟨h1,fun i hi=>by rw [h2 i hi]⟩
theorem cell?_row {a:Addr} {v:Value} (h:w.cell? a=some v):∃ c E fr,w.heap[a.block]?=some (.cells c E fr)∧a.spot=none∧c[a.off]?=some v:=by
 unfold World.cell? at h
 split at h
 ·rename_i c E fr hb
  split at h
  ·cases h
  ·rename_i hs
   exact ⟨c,E,fr,hb,by simpa using hs,h⟩
 ·cases h
theorem Qth (a:Addr) (h:a.spot=none) (i:Nat):a.add i=⟨a.block,a.off+i,none⟩:=by
 unfold Addr.add
 split
 ·rename_i hi;subst hi;cases a;simp_all
 ·rfl
theorem list_rep {e:DTy} (hI:∀ b,b < w.heap.size→I b) {a:Addr} {len cap:Nat} (hlc:len≤cap) (hcm:cap≤maxLen) (hpos:0 < e.cells)
  (hel:∀ i,i < len→∃ cs,w.cells? 0 (a.add (i * e.cells)) e.cells=some cs∧RepD w I lp e cs):RepD w I lp (.slice e) [.slice (some a) len cap]:=by
 by_cases h0:len=0
 ·subst h0
  exact ⟨.sl e.cells [] false,.inr ⟨[],rfl,Nat.zero_le _,fun x hx=>by cases hx⟩,.cons _ _ _ _ (.slE _ _ _ _ (fun h=>by cases h)) .nil,by simp [One,Value.oneCell'],rfl⟩
 ·obtain ⟨cs0,hcs0,_⟩:=hel 0 (by omega)
  obtain ⟨hl0,hg0⟩:=cells?_get hcs0
  have hf:=hg0 0 hpos
  rw [Nat.zero_mul] at hf
  have e0:(a.add 0).add 0=a:=by simp [Addr.add]
  rw [e0,List.getElem?_eq_getElem (by omega)] at hf
  obtain ⟨c,E,fr,hb,hs,_⟩:=cell?_row hf
  have hblt:a.block < w.heap.size:=(Array.getElem?_eq_some_iff.1 hb).1
  have each:∀ i,i < len→∃ v:PV,Qmb e v∧v.cells.length=e.cells∧(a.off+i * e.cells)+e.cells≤c.size∧One ((c.toList.drop (a.off+i * e.cells)).take e.cells)∧qb0 w I lp none v.cells ((c.toList.drop (a.off+i * e.cells)).take e.cells):=by
   intro i hi
   obtain ⟨cs,hcs,v,h1,h2,h3,h4⟩:=hel i hi
   obtain ⟨hl,hg⟩:=cells?_get hcs
   have key:∀ j,j < e.cells→c[a.off+i * e.cells+j]?=cs[j]?:=by
    intro j hj
    have:=hg j hj
    rw [Qth a hs,Qth _ rfl,qvb hb] at this
    exact this
   have hsz:a.off+i * e.cells+e.cells≤c.size:=by
    have:=key (e.cells - 1) (by omega)
    rw [List.getElem?_eq_getElem (by omega)] at this
    have:=(Array.getElem?_eq_some_iff.1 this).1
    omega
   have e1:(c.toList.drop (a.off+i * e.cells)).take e.cells=cs:=by
    apply List.ext_getElem?
    intro j
    by_cases hj:j < e.cells
    ·rw [List.getElem?_take_of_lt hj,List.getElem?_drop,← key j hj];simp
    ·rw [List.getElem?_eq_none (by simp;omega),List.getElem?_eq_none (by omega)]
   exact ⟨v,h1,h4,hsz,by rw [e1];exact h3,by rw [e1];exact h2⟩
  have all:∀ n,n≤len→∃ xs:List PV,xs.length=n∧(∀ x∈xs,Qmb e x)∧(∀ x∈xs,x.cells.length=e.cells)∧a.off+n * e.cells≤c.size∧One ((c.toList.drop a.off).take (n * e.cells))∧qb0 w I lp none (cellsL xs) ((c.toList.drop a.off).take (n * e.cells)):=by
   intro n
   induction n with
   | zero =>
    intro _
    refine ⟨[],rfl,by simp,by simp,?_,by simp [One],by simp;exact .nil⟩
    obtain ⟨_,_,_,h,_⟩:=each 0 (by omega)
    omega
   | succ n ih =>
    intro hn
    obtain ⟨xs,h1,h2,h3,h4,h5,h6⟩:=ih (by omega)
    obtain ⟨v,g1,g2,g3,g4,g5⟩:=each n (by omega)
    have e2:(c.toList.drop a.off).take ((n+1) * e.cells)=(c.toList.drop a.off).take (n * e.cells)++(c.toList.drop (a.off+n * e.cells)).take e.cells:=by
     rw [Nat.add_mul,Nat.one_mul,List.take_add,List.drop_drop]
    refine ⟨xs++[v],by simp [h1],?_,?_,by rw [Nat.add_mul];omega,?_,?_⟩
    ·intro x hx
     rcases List.mem_append.1 hx with hx | hx
     ·exact h2 x hx
     ·simp at hx;subst hx;exact g1
    ·intro x hx
     rcases List.mem_append.1 hx with hx | hx
     ·exact h3 x hx
     ·simp at hx;subst hx;exact g2
    ·rw [e2];exact h5.append' g4
    ·rw [e2,qgh]
     refine h6.append ?_
     simpa [cellsL] using g5
  obtain ⟨xs,h1,h2,h3,h4,h5,h6⟩:=all len (Nat.le_refl _)
  have ea:a=⟨a.block,a.off,none⟩:=by cases a;simp_all
  refine ⟨.sl e.cells xs false,.inr ⟨xs,rfl,by omega,h2⟩,?_,by simp [One,Value.oneCell'],rfl⟩
  rw [ea,← h1]
  exact .cons _ _ _ _ (.sl e.cells xs false a.block a.off cap c E fr (hI _ hblt) hb (by rw [h1];exact h4) h3 (by omega) (fun h=>by cases h) (by rw [h1];exact h5) (by rw [h1];exact h6)) .nil
theorem struct_rep {n:Nat} (ih:∀ (m:Nat) (D:DTy) (t:TypeId) (cs:List Value) (x:DataW H×List MemPlace),isD P m D t=true→DataW.trod enc P w 0 (fun _=>true) held n t cs=some x→RepD w I lp D cs) :
  ∀ (m:Nat) (ds:List DTy) (fs:List Field) (off:Nat) (cs:List Value) (xs:List (DataW H×List MemPlace)),isFs P m off ds fs=true→xs.length=fs.length→cs.length=off+DTy.cellsL ds →
  (∀ (i:Nat) (f:Field),fs[i]?=some f→DataW.trod enc P w 0 (fun _=>true) held n f.type ((cs.drop f.offset).take (P.cellsOf f.type))=xs[i]?) →
  ∃ vs:List PV,HasVs ds vs∧qb0 w I lp none (cellsL vs) (cs.drop off)∧One (cs.drop off)∧(cellsL vs).length=DTy.cellsL ds:=by
 intro m
 induction m with
 | zero=>intro ds fs off cs xs h;cases h
 | succ m ihm =>
  intro ds fs off cs xs h hl hc hf
  match ds,fs,h with
  | [],[],_ =>
   refine ⟨[],rfl,?_,?_,rfl⟩
   ·rw [List.drop_of_length_le (by simp [DTy.cellsL] at hc;omega)];exact .nil
   ·rw [List.drop_of_length_le (by simp [DTy.cellsL] at hc;omega)];simp [One]
  | D :: ds,f :: fs,h =>
   simp only [isFs,Bool.and_eq_true,beq_iff_eq] at h
   obtain ⟨⟨⟨h1,h2⟩,h3⟩,h4⟩:=h
   match xs,hl with
   | x :: xs,hl =>
    have hx:=hf 0 f rfl
    rw [h1,h2] at hx
    obtain ⟨v,g1,g2,g3,g4⟩:=ih m D f.type _ x h3 hx
    simp only [DTy.cellsL] at hc
    obtain ⟨vs,k1,k2,k3,k4⟩:=ihm ds fs (off+D.cells) cs xs h4 (by simpa using hl) (by omega) (fun i f hi=>by simpa using hf (i+1) f (by simpa using hi))
    have e1:cs.drop off=(cs.drop off).take D.cells++cs.drop (off+D.cells):=by rw [← List.drop_drop,List.take_append_drop]
    refine ⟨v :: vs,⟨v,vs,rfl,g1,k1⟩,?_,?_,by simp [cellsL,DTy.cellsL,g4,k4]⟩
    ·rw [e1];exact g2.append k2
    ·rw [e1];exact g3.append' k3
theorem Qmt (hI:∀ b,b < w.heap.size→I b):∀ (fuel m:Nat) (D:DTy) (t:TypeId) (cs:List Value) (x:DataW H×List MemPlace),isD P m D t=true→DataW.trod enc P w 0 (fun _=>true) held fuel t cs=some x→RepD w I lp D cs:=by
 intro fuel
 induction fuel with
 | zero=>intro m D t cs x _ h;simp [DataW.trod] at h
 | succ fuel ih =>
  intro m D t cs x hD h
  cases m with
  | zero=>cases hD
  | succ m =>
   cases hu:P.underlying t with
   | none=>cases D<;>simp [isD,hu] at hD
   | some d =>
    cases D with
    | bool =>
     cases d<;>simp [isD,hu] at hD
     obtain ⟨b,rfl,_⟩:=DataW.trod_bool hu h
     exact ⟨.bool b,⟨b,rfl⟩,.cons _ _ _ _ (.bool b) .nil,by simp [One,Value.oneCell'],rfl⟩
    | int k =>
     cases d<;>simp [isD,hu] at hD
     subst hD
     obtain ⟨n,rfl,_,hw⟩:=DataW.trod_int hu h
     exact ⟨.int _ n,⟨n,rfl,hw⟩,.cons _ _ _ _ (.int _ n) .nil,by simp [One,Value.oneCell'],rfl⟩
    | str =>
     cases d<;>simp [isD,hu] at hD
     obtain ⟨s,rfl,_,hw⟩:=DataW.trod_string hu h
     obtain ⟨l,rfl⟩:∃ l:List UInt8,s=⟨l.toArray⟩:=⟨s.data.toList,by cases s;simp⟩
     exact ⟨.str l,⟨l,rfl,by simpa [ByteArray.size] using hw⟩,.cons _ _ _ _ (.str l) .nil,by simp [One,Value.oneCell'],rfl⟩
    | slice e =>
     cases d<;>simp [isD,hu] at hD
     rename_i et
     obtain ⟨⟨h1,h2⟩,h3⟩:=hD
     rcases DataW.trod_slice hu h with ⟨rfl,_⟩ | ⟨a,len,cap,ql8,rest,n,hn,rfl,_,_,hl,hm,hlen,hel,_⟩
     ·exact ⟨.nilS,.inl rfl,.cons _ _ _ _ .nilS .nil,by simp [One,Value.oneCell'],rfl⟩
     ·cases hn
      refine list_rep hI hl hm h3 fun i hi=>?_
      have:=hel i hi
      rw [List.getElem?_eq_getElem (by omega),Option.bind_eq_some_iff,h2] at this
      obtain ⟨cs,hcs,hx⟩:=this
      exact ⟨cs,hcs,ih m e et cs _ h1 hx⟩
    | struct ds =>
     cases d<;>simp [isD,hu] at hD
     rename_i fields
     obtain ⟨h1,h2⟩:=hD
     obtain ⟨xs,n,hn,_,hl,hlen,hf⟩:=DataW.trod_struct hu h
     cases hn
     obtain ⟨vs,k1,k2,k3,k4⟩:=struct_rep ih m ds fields.toList 0 cs xs h2 (by simpa using hlen) (by rw [hl,h1];omega) (fun i f hi=>hf i f (by simpa using hi))
     rw [List.drop_zero] at k2 k3
     exact ⟨.agg (cellsL vs),⟨vs,rfl,k1⟩,k2,k3,by simpa [PV.cells,DTy.cells] using k4⟩
variable {w':World} {sp':Nat→Bool}
theorem cell?_keep (hk:∀ b,b < w.heap.size→w'.heap[b]?=w.heap[b]?) {a:Addr} {v:Value} (h:w.cell? a=some v):a.block < w.heap.size∧w'.cell? a=some v:=by
 obtain ⟨c,E,fr,hb,hs,hv⟩:=cell?_row h
 have hlt:a.block < w.heap.size:=(Array.getElem?_eq_some_iff.1 hb).1
 refine ⟨hlt,?_⟩
 unfold World.cell?
 rw [hk _ hlt,hb]
 simp [hs,hv]
theorem qlr {α β:Type} {f g:α→Option β}:∀ (l:List α) {ys:List β},l.mapM f=some ys→(∀ x∈l,∀ y,f x=some y→g x=some y)→l.mapM g=some ys
 | [],ys,h,_=>by simpa using h
 | x :: l,ys,h,hg=>by
  rw [List.mapM_cons] at h ⊢
  simp only [Option.bind_eq_bind,Option.bind_eq_some_iff,Option.pure_def,Option.some.injEq] at h ⊢
  obtain ⟨y,h1,ys',h2,rfl⟩:=h
  exact ⟨y,hg x (by simp) y h1,ys',qlr l h2 (fun z hz=>hg z (by simp [hz])),rfl⟩
theorem cells?_keep (hk:∀ b,b < w.heap.size→w'.heap[b]?=w.heap[b]?) {a:Addr} {n:Nat} {l:List Value} (h:w.cells? 0 a n=some l):w'.cells? 0 a n=some l∧(0 < n→a.block < w.heap.size):=by
 refine ⟨?_,fun hn=>?_⟩
 ·unfold World.cells? at h ⊢
  rw [if_pos (Nat.zero_le _)] at h ⊢
  exact qlr _ h fun i _ v hv=>(cell?_keep hk hv).2
 ·obtain ⟨h1,h2⟩:=cells?_get h
  have:=h2 0 hn
  rw [List.getElem?_eq_getElem (by omega)] at this
  have:=(cell?_keep hk this).1
  rwa [block_add] at this
theorem Qnu {n:Nat} (ih:∀ (m:Nat) (D:DTy) (t:TypeId) (cs:List Value) (x:DataW H×List MemPlace),isD P m D t=true→DataW.trod enc P w 0 (fun _=>true) held n t cs=some x→DataW.trod enc P w' 0 sp' held n t cs=some x) :
  ∀ (m:Nat) (ds:List DTy) (fs:List Field) (off:Nat),isFs P m off ds fs=true→∀ f∈fs,∀ cs x,DataW.trod enc P w 0 (fun _=>true) held n f.type cs=some x→DataW.trod enc P w' 0 sp' held n f.type cs=some x:=by
 intro m
 induction m with
 | zero=>intro ds fs off h;cases h
 | succ m ihm =>
  intro ds fs off h f hf cs x hx
  match ds,fs,h with
  | [],[],_=>cases hf
  | D :: ds,g :: fs,h =>
   simp only [isFs,Bool.and_eq_true,beq_iff_eq] at h
   rcases List.mem_cons.1 hf with rfl | hf
   ·exact ih m D _ cs x h.1.2 hx
   ·exact ihm ds fs _ h.2 f hf cs x hx
theorem trod_keep (hk:∀ b,b < w.heap.size→w'.heap[b]?=w.heap[b]?) (hsp:∀ b,b < w.heap.size→sp' b=true):∀ (fuel m:Nat) (D:DTy) (t:TypeId) (cs:List Value) (x:DataW H×List MemPlace),isD P m D t=true →
  DataW.trod enc P w 0 (fun _=>true) held fuel t cs=some x→DataW.trod enc P w' 0 sp' held fuel t cs=some x:=by
 intro fuel
 induction fuel with
 | zero=>intro m D t cs x _ h;simp [DataW.trod] at h
 | succ fuel ih =>
  intro m D t cs x hD h
  cases m with
  | zero=>cases hD
  | succ m =>
   cases hu:P.underlying t with
   | none=>cases D<;>simp [isD,hu] at hD
   | some d =>
    cases D with
    | bool =>
     cases d<;>simp [isD,hu] at hD
     obtain ⟨b,rfl,rfl⟩:=DataW.trod_bool hu h
     simp [DataW.trod,hu]
    | int k =>
     cases d<;>simp [isD,hu] at hD
     subst hD
     obtain ⟨n,rfl,rfl,hw⟩:=DataW.trod_int hu h
     simp [DataW.trod,hu,hw]
    | str =>
     cases d<;>simp [isD,hu] at hD
     obtain ⟨s,rfl,rfl,hw⟩:=DataW.trod_string hu h
     simp [DataW.trod,hu,hw]
    | slice e =>
     cases d<;>simp [isD,hu] at hD
     rename_i et
     obtain ⟨⟨h1,h2⟩,h3⟩:=hD
     rcases DataW.trod_slice hu h with ⟨rfl,rfl⟩ | ⟨a,len,cap,ql8,rest,n,hn,rfl,_,_,hl,hm,hlen,_,_⟩
     ·simp [DataW.trod,hu]
     ·unfold DataW.trod at h ⊢
      simp only [hu] at h ⊢
      rw [if_pos ⟨Nat.zero_le _,hl,hm⟩] at h ⊢
      have el:∀ i y,(w.cells? 0 (a.add (i * P.cellsOf et)) (P.cellsOf et)).bind (DataW.trod enc P w 0 (fun _=>true) held fuel et)=some y→(w'.cells? 0 (a.add (i * P.cellsOf et)) (P.cellsOf et)).bind (DataW.trod enc P w' 0 sp' held fuel et)=some y∧a.block < w.heap.size:=by
       intro i y hy
       obtain ⟨cs,hcs,hx⟩:=Option.bind_eq_some_iff.1 hy
       obtain ⟨k1,k2⟩:=cells?_keep hk hcs
       refine ⟨Option.bind_eq_some_iff.2 ⟨cs,k1,ih m e et cs y h1 hx⟩,?_⟩
       have:=k2 (by omega)
       rwa [block_add] at this
      obtain ⟨es,he,h⟩:=Option.bind_eq_some_iff.1 h
      refine Option.bind_eq_some_iff.2 ⟨es,qlr _ he fun i _ y hy=>(el i y hy).1,?_⟩
      obtain ⟨rs,hr,rfl⟩:=Option.map_eq_some_iff.1 h
      refine Option.map_eq_some_iff.2 ⟨rs,?_,rfl⟩
      simp only [if_true] at hr
      cases hc:cap - len with
      | zero =>
       rw [hc] at hr
       simp at hr
       subst hr
       split<;>simp
      | succ q =>
       have hlt:a.block < w.heap.size:=by
        rw [hc,List.range_succ_eq_map,List.mapM_cons] at hr
        simp only [Option.bind_eq_bind,Option.bind_eq_some_iff] at hr
        obtain ⟨y,hy,_⟩:=hr
        exact (el _ y (Option.bind_eq_some_iff.2 hy)).2
       rw [if_pos (hsp _ hlt),← hc]
       exact qlr _ hr fun i _ y hy=>(el _ y hy).1
    | struct ds =>
     cases d<;>simp [isD,hu] at hD
     rename_i fields
     obtain ⟨h1,h2⟩:=hD
     have key:=Qnu ih m ds fields.toList 0 h2
     unfold DataW.trod at h ⊢
     simp only [hu] at h ⊢
     split at h
     ·rename_i hlc
      rw [if_pos hlc]
      obtain ⟨xs,hx,rfl⟩:=Option.map_eq_some_iff.1 h
      exact Option.map_eq_some_iff.2 ⟨xs,qlr _ hx fun f hf y hy=>key f hf _ y hy,rfl⟩
     ·cases h
def isDs (P:Program) (m:Nat):List DTy→List TypeId→Bool
 | [],[]=>true
 | D :: Ds,t :: ts=>isD P m D t&&isDs P m Ds ts
 | _,_=>false
theorem val_rep (hI:∀ b,b < w.heap.size→I b) {m:Nat} {D:DTy} {t:TypeId} {v:Value} {d:DataW H} {ps:List MemPlace} {base:Nat} (hD:isD P m D t=true) (hv:Value.okWide P w .any base t v) (h:DataW.Trod enc P w 0 (fun _=>true) held t v d ps) :
  ∃ u:PV,Qmb D u∧qb4 w I lp none u v:=by
 obtain ⟨fuel,h⟩:=h
 obtain ⟨u,h1,h2,h3,h4⟩:=Qmt (lp:=lp) hI fuel m D t _ _ hD h
 cases m with
 | zero=>cases hD
 | succ m =>
  cases hu:P.underlying t with
  | none=>cases D<;>simp [isD,hu] at hD
  | some dd =>
   have one:(∀ x,v.cells.toList=[x]→v=x)→(∀ x:PV,u.cells=[x]→u=x)→(∃ x,u.cells=[x])→∃ u:PV,Qmb D u∧qb4 w I lp none u v:=by
    intro ho hp ⟨x,hx⟩
    have hux:=hp x hx
    rw [hx] at h2
    obtain ⟨y,hy,hr⟩:=repL1' h2
    rw [ho y hy]
    exact ⟨u,h1,by rw [hux];exact hr⟩
   have sc:(∀ vs,v≠.agg vs)→∀ x,v.cells.toList=[x]→v=x:=by
    intro hn x hx
    cases v<;>first | (simp [Value.cells] at hx;exact hx) | exact absurd rfl (hn _)
   cases D with
   | struct ds =>
    cases dd<;>simp [isD,hu] at hD
    obtain ⟨cs,rfl,_⟩:=okWide_struct hu hv
    obtain ⟨vs,rfl,hvs⟩:=h1
    exact ⟨_,⟨vs,rfl,hvs⟩,.agg _ _ h3 h2⟩
   | bool =>
    cases dd<;>simp [isD,hu] at hD
    obtain ⟨b,rfl⟩:=h1
    exact one (sc fun vs e=>by subst e;simp [Value.okWide,hu,Cell.okWide,Cell.ok] at hv) (fun x hx=>by simpa [PV.cells] using hx) ⟨_,rfl⟩
   | int k =>
    cases dd<;>simp [isD,hu] at hD
    obtain ⟨b,rfl,_⟩:=h1
    exact one (sc fun vs e=>by subst e;simp [Value.okWide,hu,Cell.okWide,Cell.ok] at hv) (fun x hx=>by simpa [PV.cells] using hx) ⟨_,rfl⟩
   | str =>
    cases dd<;>simp [isD,hu] at hD
    obtain ⟨b,rfl,_⟩:=h1
    exact one (sc fun vs e=>by subst e;simp [Value.okWide,hu,Cell.okWide,Cell.ok] at hv) (fun x hx=>by simpa [PV.cells] using hx) ⟨_,rfl⟩
   | slice e =>
    cases dd<;>simp [isD,hu] at hD
    have hs:=sc fun vs e=>by subst e;simp [Value.okWide,hu,Cell.okWide,Cell.ok] at hv
    rcases h1 with rfl | ⟨xs,rfl,_,_⟩
    ·exact one hs (fun x hx=>by simpa [PV.cells] using hx) ⟨_,rfl⟩
    ·exact one hs (fun x hx=>by simpa [PV.cells] using hx) ⟨_,rfl⟩
theorem Qhk (hI:∀ b,b < w.heap.size→I b) {m base:Nat}:∀ (Ds:List DTy) (ts:List TypeId) (vs:List Value) (ds:List (DataW H)) (p:List MemPlace),isDs P m Ds ts=true →
  (∀ (j:Nat) t v,ts[j]?=some t→vs[j]?=some v→Value.okWide P w .any base t v)→DataW.TrodAll enc P w 0 (fun _=>true) held ts vs ds p→∃ us:List PV,HasVs Ds us∧qb0 w I lp none us vs
 | [],[],vs,ds,p,_,_,h=>by
  obtain ⟨rfl,rfl,rfl⟩:=trodAll_nil h
  exact ⟨[],rfl,.nil⟩
 | D :: Ds,t :: ts,vs,ds,p,hD,hv,h=>by
  obtain ⟨v,vs,d,ds,p,q,rfl,rfl,rfl,h1,h2⟩:=trodAll_cons h
  simp only [isDs,Bool.and_eq_true] at hD
  obtain ⟨u,a,b⟩:=val_rep (lp:=lp) hI hD.1 (hv 0 t v rfl rfl) h1
  obtain ⟨us,a',b'⟩:=Qhk hI Ds ts vs ds q hD.2 (fun j t v ht hj=>hv (j+1) t v (by simpa using ht) (by simpa using hj)) h2
  exact ⟨u :: us,⟨u,us,rfl,a,a'⟩,.cons _ _ _ _ b b'⟩
 | [],_ :: _,_,_,_,hD,_,_=>by cases hD
 | _ :: _,[],_,_,_,hD,_,_=>by cases hD
theorem Qbz (hk:∀ b,b < w.heap.size→w'.heap[b]?=w.heap[b]?) (hsp:∀ b,b < w.heap.size→sp' b=true) {m:Nat}:∀ (Ds:List DTy) (ts:List TypeId) (vs:List Value) (ds:List (DataW H)) (p:List MemPlace),isDs P m Ds ts=true →
  DataW.TrodAll enc P w 0 (fun _=>true) held ts vs ds p→DataW.TrodAll enc P w' 0 sp' held ts vs ds p
 | [],[],vs,ds,p,_,h=>by
  obtain ⟨rfl,rfl,rfl⟩:=trodAll_nil h
  exact rfl
 | D :: Ds,t :: ts,vs,ds,p,hD,h=>by
  obtain ⟨v,vs,d,ds,p,q,rfl,rfl,rfl,⟨fuel,h1⟩,h2⟩:=trodAll_cons h
  simp only [isDs,Bool.and_eq_true] at hD
  exact ⟨p,q,⟨fuel,trod_keep hk hsp fuel m D t _ _ hD.1 h1⟩,Qbz hk hsp Ds ts vs ds q hD.2 h2,rfl⟩
 | [],_ :: _,_,_,_,hD,_=>by cases hD
 | _ :: _,[],_,_,_,hD,_=>by cases hD
end
end Go.Ab


namespace Go.Ab.Core
open Go Go.Ab
inductive IsR (k:Nat):PV→List PV→Prop
 | nil:IsR k .nilS []
 | sl (xs:List PV):IsR k (.sl k xs false) xs
section
variable {k:Nat} {v:PV} {xs:List PV}
theorem IsR.cells (h:IsR k v xs):v.cells=[v]:=by cases h<;>rfl
theorem IsR.und (h:IsR k v xs):qhg v=false:=by cases h<;>rfl
theorem IsR.val (h:IsR k v xs):v.isVal=true:=by cases h<;>rfl
theorem IsR.len (h:IsR k v xs):qbc (.len .slice (.c v))=some (I (xs.length:Nat)):=by
 cases h with
 | nil=>rfl
 | sl=>rw [qgk];rfl
theorem IsR.idx (h:IsR k v xs) (hk:0 < k) {i:Nat} (hi:i < xs.length):qbc (.idxAddr k (.c v) (.c (I (i:Int))))=some (.ptr xs[i].cells 0):=by
 cases h with
 | nil=>simp at hi
 | sl=>exact qgj hk (by simp [hi])
theorem IsR.hi (h:IsR k v xs) {n:Nat} (hn:n≤xs.length):∃ u,qbc (.slice k (.c v) none (some (.c (I (n:Int)))) none)=some u∧qnu k u=some (xs.take n):=by
 cases h with
 | nil =>
  have:n=0:=by simpa using hn
  subst this
  exact ⟨.nilS,by simp [qbc,exec,RX.ev,evO,qjq,qjv,chk,I,qhf],by simp [qnu,ql8]⟩
 | sl=>exact ⟨.sl k (xs.take n) (false&&n==xs.length),by simp [qbc,exec,RX.ev,evO,qjq,qjv,chk,I,hn,qhf],by simp [qnu,ql8,chk]⟩
end
def Nd.few (n:Nd):Nd:=⟨n.kind,n.text.take 50,n.kids.take 60⟩
def fewT (t:List Nd):List Nd:=(t.take 60).map Nd.few
theorem fewT_fine (t:List Nd):Fine (fewT t) where
 len:=by simp [fewT];unfold big;omega
 nd n hn:=by
  obtain ⟨m,_,rfl⟩:=List.mem_map.1 hn
  exact ⟨by simp [Nd.few];unfold big;omega⟩
def RawN (x:PV) (n:Nd):Prop:=∃ u,x=.agg [I n.kind,.str n.text,u]∧IsR 1 u (qg6 n.kids)∧okV u=true
inductive RawL {α:Type} (R:PV→α→Prop):List PV→List α→Prop
 | nil:RawL R [] []
 | cons {x:PV} {a:α} {xs:List PV} {l:List α} (h:R x a) (hs:RawL R xs l):RawL R (x :: xs) (a :: l)
theorem RawL.length {α:Type} {R:PV→α→Prop} {xs:List PV} {l:List α} (h:RawL R xs l):xs.length=l.length:=by induction h<;>simp_all
theorem RawL.get {α:Type} {R:PV→α→Prop} {xs:List PV} {l:List α} (h:RawL R xs l):∀ {i:Nat} (hi:i < xs.length) (hj:i < l.length),R xs[i] l[i]:=by
 induction h with
 | nil=>intro i hi;simp at hi
 | cons h _ ih =>
  intro i hi hj
  cases i with
  | zero=>exact h
  | succ i=>exact ih (by simpa using hi) (by simpa using hj)
def RawT (v:PV) (t:List Nd):Prop:=∃ xs,IsR 3 v xs∧RawL RawN xs t∧okV v=true
theorem cut_run (s:List UInt8):qb3 B0 .cl (.fn 50 []) [.str s]=some (.str (s.take 50)):=by
 refine call (d:=fun _=>.cl) rfl (by decide) rfl rfl ?_
 rw [List.map_cons,List.map_nil,run50,pure_lens,qbb]
 rw [show PV.int .i64 (s.length:Int)=I (s.length:Nat) from rfl,Qm4 50 50 rfl,qbb]
 rw [show I ((min s.length 50:Nat):Int)=.int .i64 ((min s.length 50:Nat):Int) from rfl,pure_ssl2 (by omega),qbb]
 have:s.take (min s.length 50)=s.take 50:=by
  rcases Nat.le_total s.length 50 with h | h
  ·rw [Nat.min_eq_left h,List.take_length,List.take_of_length_le h]
  ·rw [Nat.min_eq_right h]
 rw [this]
theorem build_nd (k:Int) (s:List UInt8):qbc (.build [I 0,.str [],.nilS] [(0,(1,.c (I k))),(1,(1,.c (.str s)))])=some (.agg [I k,.str s,.nilS]):=by
 simp [qbc,exec,qkm,RX.ev,chk,splice,PV.isVal,I,PV.cells]
theorem appO_nil {k:Nat} {ys:List PV} (h:ys.length≤qdr):appO k .nilS ys=some ys:=by simp [appO,qby,h]
theorem okU_tl (t:List Nd):okU (tl t)=true:=Qqa t
theorem qmr (k:Nat) (xs:List PV):slO k k xs 0 xs.length=.sl k xs false:=by simp [slO]
theorem fewT_run {v:PV} {t:List Nd} (h:RawT v t):qb3 B0 .cl (.fn 26 []) [v]=some (tl (fewT t)):=by
 obtain ⟨xs,hv,hx,hok⟩:=h
 refine call (d:=fun _=>.cl) rfl (by decide) (by simp [qca,hok]) rfl ?_
 rw [List.map_cons,List.map_nil,run26]
 rw [show qbs [v,nI 0,.int .i64 0]=true by simp only [qbs,List.all_cons,hv.und];rfl,qbg]
 have hlen:=hx.length
 have hN:min t.length 60≤xs.length:=by omega
 refine qmc (fun i=>([v,I (i:Int),I (i:Int),.sl 3 (nds ((t.take i).map Nd.few)) false],())) (min t.length 60) rfl (fun i hi=>?_) ?_
 ·have hi1:i < xs.length:=by omega
  have hi2:i < t.length:=by omega
  obtain ⟨u,hxi,hu,hku⟩:=hx.get hi1 hi2
  simp only [qdd,qdc,qdg,qdq,hv.len,qbb,qdp,qco,qd0]
  rw [show decide ((i:Int) < (xs.length:Nat))=true by simpa using hi1,if_pos rfl,show decide ((i:Int) < 60)=true by simp;omega]
  simp only [qbb,qb6,hv.idx (k:=3) (by decide) hi1,hxi,qn2,fa3_0,fa3_1,fa3_2,Qnc,load3_1,qzd,cut_run,build_nd,hu.len,qcz]
  rw [show I 60=.int .i64 60 from rfl,Qm4 60 60 rfl,qbb]
  obtain ⟨w,hw1,hw2⟩:=hu.hi (n:=min t[i].kids.length 60) (by simp;omega)
  rw [hw1,qbb,hw2,qbb]
  rw [show qb8 (.agg [I t[i].kind,.str (t[i].text.take 50),.nilS]) 3=true from rfl,qbg,qmm,appO_nil (by simp [qdr];omega),qbb]
  have hk:(qg6 t[i].kids).take (min t[i].kids.length 60)=qg6 (t[i].kids.take 60):=by
   unfold qg6
   rw [← List.map_take]
   rcases Nat.le_total t[i].kids.length 60 with h | h
   ·rw [Nat.min_eq_left h,List.take_length,List.take_of_length_le h]
   ·rw [Nat.min_eq_right h]
  rw [hk]
  have hnd:PV.agg [qbi (.agg [I t[i].kind,.str (t[i].text.take 50),.nilS]) 0,qbi (.agg [I t[i].kind,.str (t[i].text.take 50),.nilS]) 1,slO 1 1 (qg6 (t[i].kids.take 60)) 0 (qbv (qg6 (t[i].kids.take 60)))]=nd t[i].few:=by
   rw [qmo,qmn,qf4,qmr];rfl
  rw [hnd]
  rw [show qdx 3 [nd t[i].few]=true from rfl,qbg]
  have h1:(nds ((t.take i).map Nd.few)).length=i:=by simp;omega
  simp only [qf4,List.length_singleton,qfk,qfq,List.drop_zero,List.take_succ_cons,List.take_zero,qd3,qke,qcj,qb1,h1,Nat.zero_add,Nat.le_refl,decide_true,qbg,qg5,Bool.true_and,qg3]
  rw [show decide (i+1≤2147483648)=true by simp;omega,qbg]
  simp only [qg9,qbb,qh5]
  rw [qhd (by omega)]
  have h2:(t.take (i+1)).map Nd.few=(t.take i).map Nd.few++[t[i].few]:=by
   rw [List.take_succ_eq_append_getElem hi2,List.map_append];rfl
  rw [h2]
  have h3:(nds ((t.take i).map Nd.few)).take i++[nd t[i].few]=nds ((t.take i).map Nd.few++[t[i].few]):=by
   rw [List.take_of_length_le (by omega)];simp [nds]
  rw [h3]
 ·simp only [qdd,qdc,qdg,qdq,hv.len,qbb,qdp,qco,qd0]
  have hc:¬ (((min t.length 60:Nat):Int) < (xs.length:Nat)∧((min t.length 60:Nat):Int) < 60):=by omega
  have hfin:okU (slO 3 3 (nds ((t.take (min t.length 60)).map Nd.few)) 0 (qbj (I ((min t.length 60:Nat):Int))))=true∧slO 3 3 (nds ((t.take (min t.length 60)).map Nd.few)) 0 (qbj (I ((min t.length 60:Nat):Int)))=tl (fewT t):=by
   have e:t.take (min t.length 60)=t.take 60:=by
    rcases Nat.le_total t.length 60 with h | h
    ·rw [Nat.min_eq_left h,List.take_length,List.take_of_length_le h]
    ·rw [Nat.min_eq_right h]
   have:qbj (I ((min t.length 60:Nat):Int))=(nds ((t.take (min t.length 60)).map Nd.few)).length:=by rw [qcj];simp
   rw [this,qmr,e]
   exact ⟨Qqa (fewT t),rfl⟩
  by_cases g:((min t.length 60:Nat):Int) < (xs.length:Nat)
  ·have g2:¬ ((min t.length 60:Nat):Int) < 60:=fun h=>hc ⟨g,h⟩
   simp only [g,decide_true,if_true,g2,decide_false,qbb,qbm,qb1,hfin.2,okU_tl,qbg]
  ·simp only [g,decide_false,Bool.false_eq_true,if_false,qbb,qbm,qb1,hfin.2,okU_tl,qbg]
end Go.Ab.Core


namespace Go.Ab.Core
open Go Go.Ab
abbrev Tx:=List UInt8
def qfl (l:List Tx):List PV:=l.map .str
abbrev Env:=List (Tx×List Int)
def qfa:Env→List PV
 | []=>[]
 | p :: l=>.str p.1 :: il p.2 :: qfa l
def Qfk (a:Env) (k:Tx):Option (List Int):=(a.find? fun p=>p.1==k).map (·.2)
def qjj (a:Env) (k:Tx):List Int:=(Qfk a k).getD []
def aset (k:Tx) (v:List Int):Env→Env
 | []=>[(k,v)]
 | p :: l=>if p.1=k then (k,v) :: l else p :: aset k v l
@[simp] theorem qgf (es:List PV):qcw (.imap es)=es:=rfl
theorem qh9 (l:List Tx):qca (qfl l)=true:=by
 induction l with
 | nil=>rfl
 | cons a l ih=>simpa [qfl,qca,okV] using ih
theorem qm8:∀ (l:Env),qca (qfa l)=true
 | []=>rfl
 | p :: l=>by simp [qfa,qca,okV,qm8 l]
@[simp] theorem qg7 (l:List Tx):(qfl l).length=l.length:=by simp [qfl]
theorem elem_strs {l:List Tx} {i:Nat} (h:i < l.length):qpo (qfl l) i 0 1 false=some (.str l[i]):=by simp [qpo,qfl,h]
theorem Qbf (k:Tx):∀ a:Env,qrl (.str k) (qfa a)=some ((Qfk a k).map il)
 | []=>rfl
 | p :: l=>by
  simp only [qfa,qrl,Qgq,Qbf k l,Qfk,List.find?]
  by_cases h:k=p.1
  ·subst h;simp
  ·have h1:(k==p.1)=false:=by simpa using h
   have h2:(p.1==k)=false:=by simpa using fun e:p.1=k=>h e.symm
   simp [h1,h2]
theorem Qpw (k:Tx) (v:List Int):∀ a:Env,Qmm (.str k) (il v) (qfa a)=some (qfa (aset k v a))
 | []=>rfl
 | p :: l=>by
  simp only [qfa,Qmm,Qgq,aset]
  by_cases h:k=p.1
  ·subst h;simp [qfa]
  ·have h1:(k==p.1)=false:=by simpa using h
   have h2:¬ p.1=k:=fun e=>h e.symm
   simp [h1,h2,Qpw k v l,qfa]
def lvOf (o:Option (List Int)):PV :=
 match o with
 | some l=>il l
 | none=>.nilS
theorem Qj5 (a:Env) (k:Tx):Qnb .str .nilS false (qfa a) (.str k)=some (lvOf (Qfk a k)):=by
 simp only [Qnb,Qbf]
 cases Qfk a k<;>rfl
theorem Qq4 (a:Env) (k:Tx) (v:List Int):insO .str (qfa a) (.str k) (il v)=some (qfa (aset k v a)):=by
 simp [insO,Qpw,qsk,qby]
@[simp] theorem len_lv (o:Option (List Int)):qbc (.len .slice (.c (lvOf o)))=some (I ((o.getD []).length:Nat)):=by
 cases o with
 | none=>rfl
 | some l=>exact qh1 l
structure S where
 texts:List Tx
 ahead:Env
 means:List Int
 ownX:List Tx
 nown:Nat
def S.pv (s:S):List PV:=[I s.texts.length,I s.means.length,I s.nown,.sl 1 (qfl s.texts) false,.imap (qfa s.ahead),il s.means,.sl 1 (qfl s.ownX) false]
theorem S.pv_ok (s:S):qca s.pv=true:=by simp [S.pv,qca,okV,qh9,qm8]
def qnf (a:Env) (k:Tx):Int:=(qjj a k).getLast?.getD (-1)
theorem Qqm (a:Env) (k:Tx) {x y z:PV} (hx:okV x=true) (hy:okV y=true) (hz:okV z=true) (hl:(qjj a k).length≤big):qkw B0 .cl true 118 [.ptr [x,.imap (qfa a),y,z] 0,.str k]=some (I (qnf a k)):=by
 refine qhq (qhk fun _=>.cl) (fn:=fn118) rfl (by simp [qca,okV,hx,hy,hz,qm8]) (Nat.le_of_ble_eq_true rfl) ?_ rfl
 rw [List.map_cons,List.map_cons,List.map_nil,run118]
 simp only [pure_nilck,qbb,pure_faddr]
 rw [if_pos (by simp),qbb]
 rw [show qbc (.load 1 false (.c (.ptr [x,.imap (qfa a),y,z] (0+1))))=some (.imap (qfa a)) from rfl,qbb]
 have hlk:qbc (.lookup .str .nilS false (.c (.imap (qfa a))) (.c (.str k)))=some (lvOf (Qfk a k)):=by
  simp only [qbc,exec,RX.ev,Qbf]
  cases Qfk a k<;>rfl
 rw [hlk]
 simp only [qbb,len_lv,qd0,Qhp,qco]
 have hb:=qfu
 unfold qnf
 unfold qjj at hl ⊢
 cases hq:Qfk a k with
 | none=>rfl
 | some l =>
  rw [hq] at hl
  simp only [Option.getD_some] at hl ⊢
  cases hn:l.length with
  | zero =>
   have:l=[]:=List.length_eq_zero_iff.1 hn
   subst this
   rfl
  | succ n =>
   rw [show (((n+1:Nat):Int)==0)=false by simp;omega]
   simp only [Bool.false_eq_true,if_false,Qpg,qbb]
   rw [Qmf (by omega) (by omega)]
   have hlt:n < l.length:=by omega
   rw [show n+1 - 1=n from rfl,show lvOf (some l)=il l from rfl,qrw hlt,qbb,qnd,qbb]
   rw [List.getLast?_eq_getElem?,hn]
   simp [hlt]
def S.bind (n:Int) (name:Tx) (s:S):S :=
 {s with ahead:=aset name (qjj s.ahead name++[n]) s.ahead,ownX:=s.ownX.take s.nown++[name],nown:=s.nown+1 }
structure S.Fine (m:Nat) (s:S):Prop where
 texts:s.texts.length≤m
 means:s.means.length≤m
 nown:s.nown≤m
 own:s.nown≤s.ownX.length
 ahead:∀ k,(qjj s.ahead k).length≤m
theorem Qtg (k k':Tx) (v:List Int):∀ a:Env,Qfk (aset k v a) k'=if k=k' then some v else Qfk a k'
 | []=>by
  by_cases h:k=k'
  ·simp [aset,Qfk,h]
  ·have:(k==k')=false:=by simpa using h
   simp [aset,Qfk,this,h]
 | p :: l=>by
  simp only [aset]
  by_cases hp:p.1=k
  ·subst hp
   rw [if_pos rfl]
   simp only [Qfk,List.find?]
   by_cases h:p.1=k'
   ·subst h;simp
   ·have:(p.1==k')=false:=by simpa using h
    simp [this,h]
  ·rw [if_neg hp]
   simp only [Qfk,List.find?]
   by_cases h:p.1=k'
   ·have h2:¬ k=k':=fun e=>hp (h.trans e.symm)
    simp [h,h2]
   ·have h1:(p.1==k')=false:=by simpa using h
    have:=Qtg k k' v l
    simp only [Qfk] at this
    simp [h1,this]
theorem ql2 (k k':Tx) (v:List Int) (a:Env):qjj (aset k v a) k'=if k=k' then v else qjj a k':=by
 unfold qjj
 rw [Qtg]
 split<;>rfl
theorem full_slice (o:Option (List Int)):∃ u,qbc (.slice 1 (.c (lvOf o)) none (some (.c (I ((o.getD []).length:Nat)))) (some (.c (I ((o.getD []).length:Nat)))))=some u∧∀ n,(o.getD []).length < qdr→appO 1 u [I n]=some (qg6 (o.getD []++[n])):=by
 cases o with
 | none=>exact ⟨.nilS,by simp [qbc,exec,RX.ev,evO,qjq,qjv,chk,I,qhf,lvOf],fun n _=>by simp [appO,qby,qg6,qdr]⟩
 | some l =>
  refine ⟨.sl 1 (qg6 l) true,?_,fun n hl=>?_⟩
  ·simp [qbc,exec,RX.ev,evO,qjq,qjv,chk,I,qhf,lvOf,il,qg6,List.take_of_length_le]
  ·simp only [Option.getD_some] at hl ⊢
   have:l.length+1≤qdr:=hl
   simp [appO,qby,qg6,this]
theorem bind_run (s:S) (n:Nat) (name:Tx) {m:Nat} (hs:s.Fine m) (hm:m < big) (hn:n≤big) :
  ioO B0 sh83 83 [I n,I (1:Nat),I s.texts.length,I s.means.length,I s.nown,.sl 1 [.str name] false,.sl 1 (qfl s.texts) false,.imap (qfa s.ahead),il s.means,.sl 1 (qfl s.ownX) false] =
   some (match (s.bind n name).pv with | [a,b,c,d,e,f,g]=>[a,b,c,.sl 1 [.str name] false,d,e,f,g] | _=>[]):=by
 have hb:=qfu
 refine qhi (qhk fun _=>.cl) (fn:=fn83) rfl (Pf:=shs83) rfl (xs:=[]) (obs:=[]) rfl rfl (by simp [qca,okV,qh9,qm8]) ?_
 rw [show shs83 [] []=sh83 from rfl,run83]
 simp only [qcj,qh5,qb1,qce,qd0]
 rw [show qbs [I n,I (1:Nat),I (1:Nat),I 0]=true from rfl,qbg]
 rw [qdj (s':=([I n,I (1:Nat),I (1:Nat),I ((0+1:Nat):Int),I s.texts.length,I s.means.length,I ((s.bind n name).nown:Nat),.sl 1 [.str name] false,.sl 1 (qfl s.texts) false,.imap (qfa (s.bind n name).ahead),il s.means,.sl 1 (qfl (s.bind n name).ownX) false],()))]
 ·rw [qde (r:=(match (s.bind n name).pv with | [a,b,c,d,e,f,g]=>[a,b,c,.sl 1 [.str name] false,d,e,f,g] | _=>[]))]
  simp only [qdd,qdc,qdg,qdq,qfv,qgl,qjb,qju,qms,qnb,qk1,qte,qdp,qbb]
  rw [show decide (((0+1:Nat):Int) < ((1:Nat):Int))=false by decide,qbm]
  simp only [qcj,qh5,qb1,qce,qbb,S.pv]
  rfl
 ·simp only [qdd,qdc,qdg,qdq,qfv,qgl,qjb,qju,qms,qnb,qk1,qte,qbb]
  rw [show (I 0)=I ((0:Nat):Int) from rfl,qdp,qbb,show decide (((0:Nat):Int) < ((1:Nat):Int))=true by decide,qb6]
  simp only [qwt,qbb,qcj,qru,qb1,qd3,Nat.zero_add,show decide (0 < 1)=true from rfl,qbg]
  rw [show qpo [.str name] 0 0 1 false=some (.str name) from rfl,qbb]
  simp only [qgf]
  rw [Qj5,qbb,len_lv]
  obtain ⟨u,hu1,hu2⟩:=full_slice (Qfk s.ahead name)
  have hal:=hs.ahead name
  unfold qjj at hal
  simp only [qbb,hu1,qg9]
  rw [w64 (by omega) (by omega)]
  rw [show ((n:Int)+((0:Nat):Int))=(n:Int) by omega]
  rw [show qdx 1 [I (n:Int)]=true from rfl,qbg]
  simp only [qf4,List.length_singleton,qke,qfk,qfq,List.drop_zero,List.take_succ_cons,List.take_zero,Nat.le_refl,decide_true,qbg]
  rw [hu2 n (by unfold qdr;omega),qbb,qmr]
  rw [show PV.sl 1 (qg6 ((Qfk s.ahead name).getD []++[(n:Int)])) false=il ((Qfk s.ahead name).getD []++[(n:Int)]) from rfl,Qq4,qbb]
  rw [show qdx 1 [.str name]=true from rfl,qbg]
  simp only [qg7,qg5]
  have h1:=hs.nown
  have h2:=hs.own
  rw [show (decide (s.nown≤s.ownX.length)&&decide (s.nown+1≤2147483648))=true by simp;omega,qbg]
  rw [qhd (by omega)]
  simp only [qh5,qce,S.bind,qjj,qg3]
  have h3:(qfl s.ownX).take s.nown++[.str name]=qfl (s.ownX.take s.nown++[name]):=by simp [qfl,List.map_take]
  rw [h3]
  rfl
def popN (a:Env) (k:Tx):Env:=aset k (qjj a k).dropLast a
def S.leave (n:Nat) (s:S):S:={ s with ahead:=((s.ownX.take s.nown).drop n).foldl popN s.ahead,nown:=n }
def Pops:Env→List Tx→Prop
 | _,[]=>True
 | a,k :: ks=>qjj a k≠[]∧Pops (popN a k) ks
theorem lo_slice {l:List Int} (hl:l≠[]):∃ n:Nat,l.length=n+1∧qbc (.slice 1 (.c (il l)) none (some (.c (I (n:Int)))) none)=some (il l.dropLast):=by
 obtain ⟨n,hn⟩:∃ n,l.length=n+1:=⟨l.length - 1,by have:=List.length_pos_iff.2 hl;omega⟩
 refine ⟨n,hn,?_⟩
 simp [qbc,exec,RX.ev,evO,qjq,qjv,chk,I,qhf,il,qg6,hn,List.dropLast_eq_take,List.map_take]
theorem pop_of {a:Env} {k:Tx} (h:qjj a k≠[]):Qfk a k=some (qjj a k):=by
 unfold qjj at h ⊢
 cases hq:Qfk a k with
 | none=>rw [hq] at h;exact absurd rfl h
 | some l=>rfl
theorem bound_none (d top:Nat):qk7 none d top=some d:=rfl
theorem bound_I {n d top:Nat} (h:n≤top):qk7 (some (I (n:Int))) d top=some n:=by simp [qk7,qjq,qjv,I,chk,h]
theorem leave_run (s:S) (n:Nat) {m:Nat} (hs:s.Fine m) (hm:m < big) (hn:n≤s.nown) (hp:Pops s.ahead ((s.ownX.take s.nown).drop n)):ioO B0 sh152 152 (I n :: s.pv)=some (s.leave n).pv:=by
 have hb:=qfu
 have h1:=hs.nown
 have h2:=hs.own
 refine qhi (qhk fun _=>.cl) (fn:=fn152) rfl (Pf:=shs152) rfl (xs:=[]) (obs:=[]) rfl rfl (by simp [qca,S.pv,okV,qh9,qm8]) ?_
 rw [show shs152 [] []=sh152 from rfl,S.pv,run152]
 simp only [qcj,qh5,qb1,qce,qd0,bound_none,qbb,qgf]
 rw [bound_I (by omega:n≤s.nown),qbb]
 have hfin:∀ a:Env,(qba (qk7 (some (I (n:Int))) s.nown s.nown) fun z=>some [I s.texts.length,I s.means.length,I (z:Nat),.sl 1 (qfl s.texts) false,.imap (qfa a),.sl 1 (qg6 s.means) false,.sl 1 (qfl s.ownX) false])=some ({ s with ahead:=a,nown:=n }:S).pv:=by
  intro a
  rw [bound_I hn];rfl
 by_cases hz:s.nown=n∧0 < n
 ·have e:((s.ownX.take s.nown).drop n)=[]:=List.drop_eq_nil_of_le (by simp;omega)
  simp only [eqN_eq,qru,qg5]
  rw [show (decide (s.nown=n)&&decide (0 < n))=true by simp [hz.1.symm,hz.2]<;>omega,Qkq,if_pos rfl,qgk,qbb]
  rw [show qbs [I n,.sl 1 [] false,.int .i64 ((([]:List PV).length:Nat):Int),I 0]=true from rfl,qbg]
  rw [qde (r:=(s.leave n).pv)]
  simp only [qdd,qdc,qdg,qdq,qfv,qgl,qjb,qju,qms,qnb,qk1,qcj,qb1,qgf,qh5]
  rw [show qbc (.bin .lss .num false (.c (I 0)) (.c (.int .i64 ((([]:List PV).length:Nat):Int))))=some (.bool false) from rfl,qbb,qbm,hfin,qbb]
  unfold S.leave
  rw [e];rfl
 ·simp only [eqN_eq,qru,qg5,subN_eq]
  rw [show (decide (s.nown=n)&&decide (0 < n))=false by
   rw [Bool.eq_false_iff];intro h;simp at h;exact hz h,Qkq,if_neg (by simp)]
  rw [show qbs [I n,I (s.nown - n:Nat),I (s.nown - n:Nat),I 0]=true from rfl,qbg]
  have hlen:((s.ownX.take s.nown).drop n).length=s.nown - n:=by simp;omega
  refine (Qm6 (fun i (a:Env)=>([I n,I (s.nown - n:Nat),I (s.nown - n:Nat),I (i:Nat),I s.texts.length,I s.means.length,I s.nown,.sl 1 (qfl s.texts) false,.imap (qfa a),.sl 1 (qg6 s.means) false,.sl 1 (qfl s.ownX) false],())) (s.nown - n)
   (fun i a=>Pops a (((s.ownX.take s.nown).drop n).drop i)∧∀ k,(qjj a k).length≤m) (fun i a=>({ s with ahead:=(((s.ownX.take s.nown).drop n).drop i).foldl popN a,nown:=n }:S).pv) (fun i a hi hp=>?_) (fun a _=>?_) (a0:=s.ahead) ⟨by simpa using hp,hs.ahead⟩)
  ·have hi':i < ((s.ownX.take s.nown).drop n).length:=by omega
   rw [List.drop_eq_getElem_cons hi'] at hp ⊢
   obtain ⟨⟨hp1,hp2⟩,hp3⟩:=hp
   have hget:((s.ownX.take s.nown).drop n)[i]=s.ownX[n+i]'(by omega):=by simp
   simp only [qdd,qdc,qdg,qdq,qfv,qgl,qjb,qju,qms,qnb,qk1,qcj,qb1,qgf,qh5,qdp,qbb]
   rw [show decide ((i:Int) < ((s.nown - n:Nat):Int))=true by simp;omega,qb6]
   simp only [qwt,qbb,qru,qd3,Nat.zero_add,hi,decide_true,qbg]
   rw [elem_strs (by omega:n+i < s.ownX.length),qbb,← hget,Qj5,qbb,pop_of hp1]
   obtain ⟨q,hq1,hq2⟩:=lo_slice hp1
   have hq3:=hp3 (((s.ownX.take s.nown).drop n)[i])
   rw [show lvOf (some (qjj a ((s.ownX.take s.nown).drop n)[i]))=il (qjj a ((s.ownX.take s.nown).drop n)[i]) from rfl,qh1,qbb,Qpg,qbb,hq1,Qmf (by omega) (by omega)]
   rw [show q+1 - 1=q from rfl,hq2,qbb,Qq4,qbb,qg9,qbb,qhd (by omega)]
   rw [show eqOff n n=true by simp [eqOff],qbg]
   refine ⟨_,rfl,.inl ⟨popN a ((s.ownX.take s.nown).drop n)[i],rfl,⟨hp2,fun k=>?_⟩,rfl⟩⟩
   unfold popN
   rw [ql2]
   split
   ·have h4:((qjj a ((s.ownX.take s.nown).drop n)[i]).dropLast).length≤m:=by rw [List.length_dropLast];omega
    simpa using h4
   ·exact hp3 k
  ·simp only [qdd,qdc,qdg,qdq,qfv,qgl,qjb,qju,qms,qnb,qk1,qcj,qb1,qgf,qh5,qdp,qbb]
   rw [show decide (((s.nown - n:Nat):Int) < ((s.nown - n:Nat):Int))=false by simp,qbm,hfin,qbb]
   rw [List.drop_eq_nil_of_le (by omega)]
   rfl
end Go.Ab.Core


namespace Go.Ab.Core
open Go Go.Ab
structure St where
 line:Int
 t:List Nd
 e:Int
def sv (s:St):PV:=.agg [I s.line,.nilS,tl s.t,I s.e]
def svs (l:List St):List PV:=l.map sv
def sl4 (l:List St):PV:=.sl 4 (svs l) false
def RawS (x:PV) (s:St):Prop:=∃ u w,x=.agg [I s.line,u,w,I s.e]∧u.isCell=true∧RawT w s.t
theorem RawT.cells {v:PV} {t:List Nd} (h:RawT v t):v.cells=[v]:=by
 obtain ⟨xs,h,_⟩:=h
 exact h.cells
def St.few (s:St):St:=⟨s.line,fewT s.t,s.e⟩
def fewL (l:List St):List St:=(l.take 12).map St.few
theorem okV_sv (s:St):okV (sv s)=true:=by simp [sv,okV,qca]
theorem okVL_svs (l:List St):qca (svs l)=true:=by
 induction l with
 | nil=>rfl
 | cons a l ih=>simp only [svs,List.map_cons,qca,okV_sv,Bool.true_and];exact ih
@[simp] theorem okV_sl4 (l:List St):okV (sl4 l)=true:=by simp [sl4,okV,okVL_svs]
@[simp] theorem qx9 (l:List St):(svs l).length=l.length:=by simp [svs]
@[simp] theorem qvx (l:List St):qbd (sl4 l)=svs l:=rfl
@[simp] theorem isUndef_sl4 (l:List St):qhg (sl4 l)=false:=rfl
@[simp] theorem qze (l:List St):qbc (.len .slice (.c (sl4 l)))=some (I (l.length:Nat)):=by unfold sl4;rw [qgk,qx9];rfl
@[simp] theorem fa4_0 (a b c d:PV):qbc (.fieldAddr 0 (.c (.ptr [a,b,c,d] 0)))=some (.ptr [a,b,c,d] 0):=rfl
@[simp] theorem fa4_2 (a b c d:PV):qbc (.fieldAddr 2 (.c (.ptr [a,b,c,d] 0)))=some (.ptr [a,b,c,d] 2):=rfl
@[simp] theorem fa4_3 (a b c d:PV):qbc (.fieldAddr 3 (.c (.ptr [a,b,c,d] 0)))=some (.ptr [a,b,c,d] 3):=rfl
@[simp] theorem load4_0 (a b c d:PV):qbc (.load 1 false (.c (.ptr [a,b,c,d] 0)))=some a:=rfl
@[simp] theorem qzc (a b c d:PV):qbc (.load 1 false (.c (.ptr [a,b,c,d] 2)))=some c:=rfl
@[simp] theorem load4_3 (a b c d:PV):qbc (.load 1 false (.c (.ptr [a,b,c,d] 3)))=some d:=rfl
theorem qzw {l:List St} {i:Nat} (h:i < l.length):qbc (.idxAddr 4 (.c (sl4 l)) (.c (I (i:Int))))=some (.ptr [I l[i].line,.nilS,tl l[i].t,I l[i].e] 0) :=
 qgj (by omega) (show (svs l)[i]?=some (sv l[i]) by simp [svs,h])
theorem few_run {v:PV} {xs:List PV} {l:List St} (hv:IsR 4 v xs) (hx:RawL RawS xs l) (hok:okV v=true):qb3 B0 (.opt 4) (.fn 9 []) [v]=some (sl4 (fewL l)):=by
 refine call (d:=fun _=>.cl) rfl (by decide) (by simp [qca,hok]) rfl ?_
 rw [List.map_cons,List.map_nil,run9]
 rw [show qbs [v,nI 0,.int .i64 0]=true by simp only [qbs,List.all_cons,hv.und];rfl,qbg]
 have hlen:=hx.length
 have hN:min l.length 12≤xs.length:=by omega
 refine qmc (fun i=>([v,I (i:Int),I (i:Int),sl4 ((l.take i).map St.few)],())) (min l.length 12) rfl (fun i hi=>?_) ?_
 ·have hi1:i < xs.length:=by omega
  have hi2:i < l.length:=by omega
  obtain ⟨u,w,hxi,hu,hw⟩:=hx.get hi1 hi2
  simp only [qdd,qdc,qdg,qdq,hv.len,qbb,qdp,qco,qd0]
  rw [show decide ((i:Int) < (xs.length:Nat))=true by simpa using hi1,if_pos rfl,show decide ((i:Int) < 12)=true by simp;omega]
  simp only [qbb,qb6,hv.idx (k:=4) (by decide) hi1,hxi,qn2,fa4_0,fa4_2,fa4_3,load4_0,qzc,load4_3,fewT_run hw]
  rw [show qbc (.build [I 0,.nilS,.nilS,I 0] [(0,(1,.c (I l[i].line))),(2,(1,.c (tl (fewT l[i].t)))),(3,(1,.c (I l[i].e)))])=some (sv l[i].few) from rfl,qbb]
  rw [show qdx 4 [sv l[i].few]=true from rfl,qbg]
  have h1:(svs ((l.take i).map St.few)).length=i:=by simp;omega
  simp only [qf4,List.length_singleton,qfk,qfq,List.drop_zero,List.take_succ_cons,List.take_zero,qd3,qke,qcj,qvx,h1,Nat.zero_add,Nat.le_refl,decide_true,qbg,qg5,Bool.true_and,qg3]
  rw [show decide (i+1≤2147483648)=true by simp;omega,qbg]
  simp only [qg9,qbb,qh5]
  rw [qhd (by omega)]
  have h2:(l.take (i+1)).map St.few=(l.take i).map St.few++[l[i].few]:=by
   rw [List.take_succ_eq_append_getElem hi2,List.map_append];rfl
  rw [h2]
  have h3:(svs ((l.take i).map St.few)).take i++[sv l[i].few]=svs ((l.take i).map St.few++[l[i].few]):=by
   rw [List.take_of_length_le (by omega)];simp [svs]
  rw [h3]
  rfl
 ·simp only [qdd,qdc,qdg,qdq,hv.len,qbb,qdp,qco,qd0]
  have hc:¬ (((min l.length 12:Nat):Int) < (xs.length:Nat)∧((min l.length 12:Nat):Int) < 12):=by omega
  have e:l.take (min l.length 12)=l.take 12:=by
   rcases Nat.le_total l.length 12 with h | h
   ·rw [Nat.min_eq_left h,List.take_length,List.take_of_length_le h]
   ·rw [Nat.min_eq_right h]
  have hfin:eqN (qbj (I ((min l.length 12:Nat):Int))) (qbv (qbd (sl4 ((l.take (min l.length 12)).map St.few))))=true∧PV.sl 4 (qbd (sl4 ((l.take (min l.length 12)).map St.few))) false=sl4 (fewL l):=by
   rw [e]
   exact ⟨by simp [Nat.min_comm],rfl⟩
  by_cases g:((min l.length 12:Nat):Int) < (xs.length:Nat)
  ·have g2:¬ ((min l.length 12:Nat):Int) < 12:=fun h=>hc ⟨g,h⟩
   simp only [g,decide_true,if_true,g2,decide_false,qbb,qbm,hfin.1,hfin.2,qbg]
  ·simp only [g,decide_false,Bool.false_eq_true,if_false,qbb,qbm,hfin.1,hfin.2,qbg]
end Go.Ab.Core


namespace Go.Ab.Core
open Go Go.Ab
inductive Tr where
 | mk (kind:Int) (text:Tx) (kids:List Tr)
def Tr.kind:Tr→Int
 | .mk k _ _=>k
def Tr.text:Tr→Tx
 | .mk _ x _=>x
def Tr.kids:Tr→List Tr
 | .mk _ _ ks=>ks
mutual
def Tr.size:Tr→Nat
 | .mk _ _ ks=>qcp ks+1
def qcp:List Tr→Nat
 | []=>0
 | t :: ts=>t.size+qcp ts
end
mutual
def Qme (t:List Nd):Tr→Nat→Prop
 | .mk k x ks,i=>∃ l,t[i]?=some ⟨k,x,l⟩∧Qch t ks l
def Qch (t:List Nd):List Tr→List Int→Prop
 | [],l=>l=[]
 | a :: ks,l=>∃ (k:Nat) (l':List Int),l=(k:Int) :: l'∧Qme t a k∧Qch t ks l'
end
mutual
def Tr.Ok:Tr→Prop
 | .mk k x ks=>qge ⟨k,x,List.replicate ks.length 0⟩=true∧OkL ks
def OkL:List Tr→Prop
 | []=>True
 | t :: ts=>t.Ok∧OkL ts
end
theorem Qk3 {k:Int} {x:Tx} {l l':List Int} (h:l.length=l'.length):qge ⟨k,x,l⟩=qge ⟨k,x,l'⟩:=by
 unfold qge
 simp only [h]
def W:List Tr→List Int→Int
 | [],_=>0
 | _,[]=>0
 | a :: ts,u :: us=>(1 - u) * a.size+W ts us
theorem W_set:∀ (ts:List Tr) (us:List Int) (k:Nat) (h:k < ts.length),ts.length≤us.length→W ts (us.set k (us.getD k 0+1))=W ts us - ts[k].size
 | [],_,k,h,_=>by simp at h
 | a :: ts,[],k,_,h=>by simp at h
 | a :: ts,u :: us,0,_,_=>by
  simp only [List.set_cons_zero,List.getD_cons_zero,W,List.getElem_cons_zero]
  have:(1 - (u+1)) * (a.size:Int)=(1 - u) * a.size - a.size:=by
   rw [show (1 - (u+1))=(1 - u) - 1 by omega,Int.sub_mul,Int.one_mul]
  omega
 | a :: ts,u :: us,k+1,h,h2=>by
  simp only [List.set_cons_succ,List.getD_cons_succ,W,List.getElem_cons_succ]
  have:=W_set ts us k (by simpa using h) (by simpa using h2)
  omega
theorem W_snoc (b:Tr):∀ (ts:List Tr) (us:List Int),ts.length < us.length→W (ts++[b]) us=W ts us+(1 - us.getD ts.length 0) * b.size
 | [],[],h=>by simp at h
 | [],u :: us,_=>by
  simp [W]
 | a :: ts,[],h=>by simp at h
 | a :: ts,u :: us,h=>by
  have:=W_snoc b ts us (by simpa using h)
  simp only [List.cons_append,W,this,List.length_cons,List.getD_cons_succ]
  omega
def pick (ts:List Tr) (k:Int):Tr:=ts.getD k.toNat (.mk 0 [] [])
theorem W_bump (ts:List Tr):∀ (ks:List Int) (us:List Int),(∀ k∈ks,0≤k∧k < ts.length)→ts.length≤us.length→W ts (bump us ks)=W ts us - qcp (ks.map (pick ts))
 | [],us,_,_=>by simp [bump,qcp]
 | k :: ks,us,h,hl=>by
  have hk:=h k (by simp)
  have hk':k.toNat < ts.length:=by omega
  show W ts (bump (us.set k.toNat (us.getD k.toNat 0+1)) ks)=_
  rw [W_bump ts ks _ (fun j hj=>h j (by simp [hj])) (by simpa using hl),W_set ts us k.toNat hk' hl]
  simp only [List.map_cons,qcp,pick,List.getD_eq_getElem?_getD,List.getElem?_eq_getElem hk',Option.getD_some]
  simp only [Int.natCast_add]
  omega
theorem qri (i:Nat):∀ (ks:List Int) (us:List Int),(∀ k∈ks,0≤k∧k < i)→∀ j,i≤j→(bump us ks).getD j 0=us.getD j 0
 | [],_,_,_,_=>rfl
 | k :: ks,us,h,j,hj=>by
  have hk:=h k (by simp)
  show (bump (us.set k.toNat (us.getD k.toNat 0+1)) ks).getD j 0=_
  rw [qri i ks _ (fun j hj=>h j (by simp [hj])) j hj]
  simp only [List.getD_eq_getElem?_getD]
  rw [List.getElem?_set_ne (by omega)]
theorem Qgo {i:Int}:∀ {last:Int} {ks:List Int},qtm i last ks=true → -1≤last→∀ k∈ks,0≤k∧k < i
 | _,[],_,_,k,hk=>by simp at hk
 | last,a :: ks,h,hl,k,hk=>by
  simp only [qtm,Bool.and_eq_true,decide_eq_true_eq] at h
  rcases List.mem_cons.1 hk with rfl | hk
  ·omega
  ·exact Qgo h.2 (by omega) k hk
theorem qvz {t:List Nd} {ts:List Tr} (h:∀ j (hj:j < ts.length),Qme t ts[j] j):∀ ks:List Int,(∀ k∈ks,0≤k∧k < ts.length)→Qch t (ks.map (pick ts)) ks
 | [],_=>rfl
 | k :: ks,hk=>by
  have h1:=hk k (by simp)
  have h2:k.toNat < ts.length:=by omega
  refine ⟨k.toNat,ks,by rw [Int.toNat_of_nonneg h1.1],?_,qvz h ks fun j hj=>hk j (by simp [hj])⟩
  simp only [pick,List.getD_eq_getElem?_getD,List.getElem?_eq_getElem h2,Option.getD_some]
  exact h _ h2
theorem Qqe {ts:List Tr} (h:∀ j (hj:j < ts.length),ts[j].Ok):∀ ks:List Int,(∀ k∈ks,0≤k∧k < ts.length)→OkL (ks.map (pick ts))
 | [],_=>trivial
 | k :: ks,hk=>by
  have h1:=hk k (by simp)
  have h2:k.toNat < ts.length:=by omega
  refine ⟨?_,Qqe h ks fun j hj=>hk j (by simp [hj])⟩
  simp only [pick,List.getD_eq_getElem?_getD,List.getElem?_eq_getElem h2,Option.getD_some]
  exact h _ h2
theorem Qpo {t:List Nd}:∀ (ns:List Nd) (i:Nat) (us us':List Int) (ts:List Tr),t.drop i=ns→us.length=t.length→ts.length=i→(∀ j (hj:j < ts.length),Qme t ts[j] j)→(∀ j (hj:j < ts.length),ts[j].Ok)→(∀ j,i≤j→us.getD j 0=0)→W ts us=i→qdh i us ns=some us' →
  ∃ ts':List Tr,ts'.length=t.length∧us'.length=t.length∧(∀ j (hj:j < ts'.length),Qme t ts'[j] j)∧(∀ j (hj:j < ts'.length),ts'[j].Ok)∧W ts' us'=t.length
 | [],i,us,us',ts,hd,hu,hl,h1,h2,_,hW,hr=>by
  simp only [qdh,Option.some.injEq] at hr
  subst hr
  have:t.length≤i:=List.drop_eq_nil_iff.1 hd
  have hi:i=t.length∨t.length < i:=by omega
  rcases hi with rfl | hi
  ·exact ⟨ts,hl,hu,h1,h2,hW⟩
  ·exfalso
   have:=h1 t.length (by omega)
   cases hq:ts[t.length] with
   | mk k x ks =>
    rw [hq] at this
    obtain ⟨l,hl,_⟩:=this
    simp at hl
 | n :: ns,i,us,us',ts,hd,hu,hl,h1,h2,h0,hW,hr=>by
  have hi:i < t.length:=by
   rcases Nat.lt_or_ge i t.length with h | h
   ·exact h
   ·rw [List.drop_eq_nil_of_le h] at hd;cases hd
  rw [List.drop_eq_getElem_cons hi] at hd
  injection hd with hn hd
  simp only [qdh] at hr
  by_cases hc:(qtm i (-1) n.kids&&qge n)=true
  ·rw [if_pos hc] at hr
   simp only [Bool.and_eq_true] at hc
   have hk:=Qgo hc.1 (by omega)
   have hk':∀ k∈n.kids,0≤k∧k < ts.length:=by rw [hl];exact hk
   have hb0:(bump us n.kids).getD i 0=0:=by rw [qri i _ _ hk i (Nat.le_refl _)];exact h0 i (Nat.le_refl _)
   refine Qpo ns (i+1) (bump us n.kids) us' (ts++[.mk n.kind n.text (n.kids.map (pick ts))]) hd (by rw [qpr,hu]) (by simp [hl]) ?_ ?_ ?_ ?_ hr
   ·intro j hj
    rcases Nat.lt_or_ge j ts.length with h | h
    ·rw [List.getElem_append_left h];exact h1 j h
    ·have:j=i:=by simp at hj;omega
     subst this
     rw [List.getElem_append_right h]
     simp only [hl,Nat.sub_self,List.getElem_cons_zero]
     exact ⟨n.kids,by rw [List.getElem?_eq_getElem hi,hn],qvz h1 _ hk'⟩
   ·intro j hj
    rcases Nat.lt_or_ge j ts.length with h | h
    ·rw [List.getElem_append_left h];exact h2 j h
    ·have:j=i:=by simp at hj;omega
     subst this
     rw [List.getElem_append_right h]
     simp only [hl,Nat.sub_self,List.getElem_cons_zero]
     refine ⟨?_,Qqe h2 _ hk'⟩
     rw [Qk3 (l':=n.kids) (by simp)]
     exact hc.2
   ·intro j hj
    rw [qri i _ _ hk j (by omega)]
    exact h0 j (by omega)
   ·rw [W_snoc _ _ _ (by rw [qpr];omega),hl,hb0,W_bump ts _ _ hk' (by omega),hW]
    simp only [Tr.size]
    omega
  ·rw [if_neg hc] at hr
   cases hr
theorem W_ones:∀ (ts:List Tr) (us:List Int),ts.length=us.length→(∀ u∈us,u=1)→W ts us=0
 | [],_,_,_=>rfl
 | a :: ts,[],h,_=>by simp at h
 | a :: ts,u :: us,h,h1=>by
  have hu:=h1 u (by simp)
  subst hu
  simp only [W,W_ones ts us (by simpa using h) fun u hu=>h1 u (by simp [hu])]
  omega
theorem Qcy {t:List Nd} (h:qc7 t=true):∃ a:Tr,Qme t a (t.length - 1)∧a.Ok∧a.size=t.length∧1≤t.length∧t.length≤400:=by
 unfold qc7 at h
 cases hg:qdh 0 (List.replicate t.length 0) t with
 | none=>rw [hg] at h;simp at h
 | some us =>
  rw [hg] at h
  simp only [Bool.and_eq_true,decide_eq_true_eq] at h
  obtain ⟨⟨hl1,hl2⟩,h3⟩:=h
  obtain ⟨ts,q1,q2,q3,q4,q5⟩:=Qpo t 0 (List.replicate t.length 0) us [] rfl (by simp) rfl (fun j hj=>by simp at hj) (fun j hj=>by simp at hj) (fun j _=>by simp [List.getD_eq_getElem?_getD,List.getElem?_replicate];split<;>rfl) rfl hg
  have hlt:t.length - 1 < ts.length:=by omega
  refine ⟨ts[t.length - 1],q3 _ hlt,q4 _ hlt,?_,hl1,hl2⟩
  have hW:=W_set ts us (t.length - 1) hlt (by omega)
  have e:us.set (t.length - 1) (us.getD (t.length - 1) 0+1)=qkf us:=by unfold qkf;rw [q2]
  rw [e,W_ones ts (qkf us) (by unfold qkf;simp;omega) (fun u hu=>by
   have:=List.all_eq_true.1 h3 u hu
   simpa using this),q5] at hW
  omega
end Go.Ab.Core


namespace Go.Ab.Core
open Go Go.Ab
mutual
def qgy:Tr→S→S
 | .mk k x ks,s =>
  if k=11 then (Qfr ks s).leave s.nown
  else if k=8 then Qcc ks { s with means:=s.means++[(s.texts.length:Int)],texts:=s.texts++[x] }
  else if k=3∨k=14 then Qcc ks { s with means:=s.means++[qnf s.ahead x] }
  else Qcc ks s
def Qcc:List Tr→S→S
 | [],s=>s
 | a :: ks,s=>Qcc ks (qgy a s)
def Qfr:List Tr→S→S
 | [],s=>s
 | a :: ks,s=>Qfr ks (if a.kind=8 then (qgy a s).bind s.texts.length a.text else qgy a s)
end
def qxe (a:Tr) (s:S):S:=if a.kind=8 then (qgy a s).bind s.texts.length a.text else qgy a s
structure S.Good (m:Nat) (s:S):Prop where
 fine:s.Fine m
 cnt:∀ k,(s.ownX.take s.nown).count k≤(qjj s.ahead k).length
theorem S.Fine.mono {m m':Nat} {s:S} (h:s.Fine m) (hm:m≤m'):s.Fine m':=⟨Nat.le_trans h.texts hm,Nat.le_trans h.means hm,Nat.le_trans h.nown hm,h.own,fun k=>Nat.le_trans (h.ahead k) hm⟩
theorem S.Good.mono {m m':Nat} {s:S} (h:s.Good m) (hm:m≤m'):s.Good m':=⟨h.fine.mono hm,h.cnt⟩
theorem S.Good.mean {m:Nat} {s:S} (h:s.Good m) (n:Int):({ s with means:=s.means++[n] }:S).Good (m+1) where
 fine:=⟨Nat.le_succ_of_le h.fine.texts,by simpa using h.fine.means,Nat.le_succ_of_le h.fine.nown,h.fine.own,fun k=>Nat.le_succ_of_le (h.fine.ahead k)⟩
 cnt:=h.cnt
theorem S.Good.set {m:Nat} {s:S} (h:s.Good m) (n:Int) (x:Tx):({ s with means:=s.means++[n],texts:=s.texts++[x] }:S).Good (m+1) where
 fine:=⟨by simpa using h.fine.texts,by simpa using h.fine.means,Nat.le_succ_of_le h.fine.nown,h.fine.own,fun k=>Nat.le_succ_of_le (h.fine.ahead k)⟩
 cnt:=h.cnt
theorem bind_own {s:S} (h:s.nown≤s.ownX.length) (n:Int) (x:Tx):(s.bind n x).ownX.take (s.bind n x).nown=s.ownX.take s.nown++[x]:=by
 unfold S.bind
 exact List.take_of_length_le (by simp;omega)
theorem S.Good.bind {m:Nat} {s:S} (h:s.Good m) (n:Int) (x:Tx):(s.bind n x).Good (m+1) where
 fine:=by
  refine ⟨Nat.le_succ_of_le h.fine.texts,Nat.le_succ_of_le h.fine.means,by have:=h.fine.nown;simp only [S.bind];omega,by have:=h.fine.own;simp only [S.bind];simp;omega,fun k=>?_⟩
  simp only [S.bind,ql2]
  have:=h.fine.ahead k
  split
  ·rename_i e;subst e;simp;omega
  ·omega
 cnt k:=by
  rw [bind_own h.fine.own,List.count_append]
  have:=h.cnt k
  simp only [S.bind,ql2]
  by_cases e:x=k
  ·subst e
   simp only [if_true,List.length_append,List.length_singleton,List.count_cons_self,List.count_nil]
   omega
  ·rw [if_neg e,List.count_cons_of_ne (by simpa using e),List.count_nil]
   omega
theorem Qf0:∀ (ks:List Tx) (a:Env) (k:Tx),(qjj (ks.foldl popN a) k).length=(qjj a k).length - ks.count k
 | [],a,k=>by simp
 | x :: ks,a,k=>by
  rw [List.foldl_cons,Qf0 ks]
  unfold popN
  rw [ql2]
  by_cases e:x=k
  ·subst e
   rw [if_pos rfl,List.length_dropLast,List.count_cons_self]
   omega
  ·rw [if_neg e,List.count_cons_of_ne (by simpa using e)]
theorem pops_of:∀ (ks:List Tx) (a:Env),(∀ k,ks.count k≤(qjj a k).length)→Pops a ks
 | [],_,_=>trivial
 | x :: ks,a,h=>by
  refine ⟨?_,pops_of ks _ fun k=>?_⟩
  ·have:=h x
   rw [List.count_cons_self] at this
   intro e
   rw [e] at this
   simp at this
  ·have:=h k
   unfold popN
   rw [ql2]
   by_cases e:x=k
   ·subst e
    rw [if_pos rfl,List.length_dropLast]
    rw [List.count_cons_self] at this
    omega
   ·rw [if_neg e]
    rw [List.count_cons_of_ne (by simpa using e)] at this
    exact this
theorem own_cut {s:S} (n:Nat) (h:n≤s.nown) (k:Tx):(s.ownX.take s.nown).count k=(s.ownX.take n).count k+((s.ownX.take s.nown).drop n).count k:=by
 have e:s.ownX.take n=(s.ownX.take s.nown).take n:=by rw [List.take_take,Nat.min_eq_left h]
 rw [e,← List.count_append,List.take_append_drop]
theorem S.Good.pops {m:Nat} {s:S} (h:s.Good m) {n:Nat} (hn:n≤s.nown):Pops s.ahead ((s.ownX.take s.nown).drop n) :=
 pops_of _ _ fun k=>by
  have:=h.cnt k
  have:=own_cut n hn k
  omega
theorem S.Good.leave {m:Nat} {s:S} (h:s.Good m) {n:Nat} (hn:n≤s.nown):(s.leave n).Good m where
 fine:=by
  refine ⟨h.fine.texts,h.fine.means,Nat.le_trans hn h.fine.nown,Nat.le_trans hn h.fine.own,fun k=>?_⟩
  have:=h.fine.ahead k
  simp only [S.leave,Qf0]
  omega
 cnt k:=by
  have:=h.cnt k
  have:=own_cut n hn k
  simp only [S.leave,Qf0]
  omega
mutual
theorem qq4:∀ (a:Tr) {s:S} {m:Nat},s.Good m→(qgy a s).Good (m+3 * a.size - 1)∧(qgy a s).nown=s.nown
 | .mk k x ks,s,m,h=>by
  simp only [qgy,Tr.size]
  split
  ·obtain ⟨h1,h2⟩:=qqw ks h
   exact ⟨(h1.leave h2).mono (by omega),rfl⟩
  ·split
   ·obtain ⟨h1,h2⟩:=qq5 ks (h.set s.texts.length x)
    exact ⟨h1.mono (by omega),h2⟩
   ·split
    ·obtain ⟨h1,h2⟩:=qq5 ks (h.mean (qnf s.ahead x))
     exact ⟨h1.mono (by omega),h2⟩
    ·obtain ⟨h1,h2⟩:=qq5 ks h
     exact ⟨h1.mono (by omega),h2⟩
theorem qq5:∀ (ks:List Tr) {s:S} {m:Nat},s.Good m→(Qcc ks s).Good (m+3 * qcp ks)∧(Qcc ks s).nown=s.nown
 | [],_,_,h=>⟨h,rfl⟩
 | a :: ks,s,m,h=>by
  obtain ⟨h1,h2⟩:=qq4 a h
  obtain ⟨h3,h4⟩:=qq5 ks h1
  simp only [Qcc,qcp]
  exact ⟨h3.mono (by omega),h4.trans h2⟩
theorem qqw:∀ (ks:List Tr) {s:S} {m:Nat},s.Good m→(Qfr ks s).Good (m+3 * qcp ks)∧s.nown≤(Qfr ks s).nown
 | [],_,_,h=>⟨h,Nat.le_refl _⟩
 | a :: ks,s,m,h=>by
  obtain ⟨h1,h2⟩:=qq4 a h
  have hz:1≤a.size:=by cases a;simp only [Tr.size];omega
  simp only [Qfr,qcp]
  split
  ·obtain ⟨h3,h4⟩:=qqw ks (h1.bind s.texts.length a.text)
   refine ⟨h3.mono (by omega),?_⟩
   have e:((qgy a s).bind s.texts.length a.text).nown=(qgy a s).nown+1:=rfl
   omega
  ·obtain ⟨h3,h4⟩:=qqw ks h1
   exact ⟨h3.mono (by omega),by omega⟩
end
theorem qk9 (a:Tr):1≤a.size:=by cases a;simp only [Tr.size];omega
theorem Qcp (a:Tr) {s:S} {m:Nat} (h:s.Good m):(qxe a s).Good (m+3 * a.size)∧s.nown≤(qxe a s).nown:=by
 have:=qqw [a] h
 simp only [qcp,Nat.add_zero] at this
 exact this
noncomputable def qvv:List PV×Unit→Option (Sum (List PV×Unit) (List PV)):=(fun z7=>qba (qbc (.bin .lss .num false (.c (nth z7.1 3)) (.c (nth z7.1 2)))) (fun z8=>qck z8 (qba (qbc (.idxAddr 1 (.c (nth z7.1 1)) (.c (nth z7.1 3)))) (fun z9=>qba (qbc (.load 1 false (.c z9))) (fun z10=>qba (ioO B0 sh82 82 [nth z7.1 0,z10,nI (qbj (nth z7.1 4)),nI (qbj (nth z7.1 5)),nI (qbj (nth z7.1 6)),.sl 1 (qbd (nth z7.1 7)) false,.imap (qcw (nth z7.1 8)),.sl 1 (qbd (nth z7.1 9)) false,.sl 1 (qbd (nth z7.1 10)) false]) (fun z11=>qba (qbc (.bin .add .num true (.c (nth z7.1 3)) (.c (.int .i64 1)))) (fun z12=>some (.inl ([nth z7.1 0,nth z7.1 1,nth z7.1 2,z12,nI (qbj (nth z11 0)),nI (qbj (nth z11 1)),nI (qbj (nth z11 2)),.sl 1 (qbd (nth z11 3)) false,.imap (qcw (nth z11 4)),.sl 1 (qbd (nth z11 5)) false,.sl 1 (qbd (nth z11 6)) false],z7.2))))))) (qba (some [nI (qbj (nth z7.1 4)),nI (qbj (nth z7.1 5)),nI (qbj (nth z7.1 6)),.sl 1 (qbd (nth z7.1 7)) false,.imap (qcw (nth z7.1 8)),.sl 1 (qbd (nth z7.1 9)) false,.sl 1 (qbd (nth z7.1 10)) false]) (fun z13=>some (.inr z13)))))
noncomputable def qph:List PV×Unit→Option (Sum (List PV×Unit) (List PV)):=(fun z5=>qba (qbc (.bin .lss .num false (.c (nth z5.1 3)) (.c (nth z5.1 2)))) (fun z6=>qck z6 (qba (qbc (.idxAddr 1 (.c (nth z5.1 1)) (.c (nth z5.1 3)))) (fun z7=>qba (qbc (.load 1 false (.c z7))) (fun z8=>qba (ioO B0 sh54 54 [nth z5.1 0,z8,nI (qbj (nth z5.1 4)),nI (qbj (nth z5.1 5)),nI (qbj (nth z5.1 6)),.sl 1 (qbd (nth z5.1 7)) false,.imap (qcw (nth z5.1 8)),.sl 1 (qbd (nth z5.1 9)) false,.sl 1 (qbd (nth z5.1 10)) false]) (fun z9=>qba (qbc (.bin .add .num true (.c (nth z5.1 3)) (.c (.int .i64 1)))) (fun z10=>some (.inl ([nth z5.1 0,nth z5.1 1,nth z5.1 2,z10,nI (qbj (nth z9 0)),nI (qbj (nth z9 1)),nI (qbj (nth z9 2)),.sl 1 (qbd (nth z9 3)) false,.imap (qcw (nth z9 4)),.sl 1 (qbd (nth z9 5)) false,.sl 1 (qbd (nth z9 6)) false,nth z5.1 11],z5.2))))))) (qba (qba (ioO B0 sh152 152 [nth z5.1 11,nI (qbj (nth z5.1 4)),nI (qbj (nth z5.1 5)),nI (qbj (nth z5.1 6)),.sl 1 (qbd (nth z5.1 7)) false,.imap (qcw (nth z5.1 8)),.sl 1 (qbd (nth z5.1 9)) false,.sl 1 (qbd (nth z5.1 10)) false]) (fun z11=>some [nI (qbj (nth z11 0)),nI (qbj (nth z11 1)),nI (qbj (nth z11 2)),.sl 1 (qbd (nth z11 3)) false,.imap (qcw (nth z11 4)),.sl 1 (qbd (nth z11 5)) false,.sl 1 (qbd (nth z11 6)) false])) (fun z12=>some (.inr z12)))))
theorem qgd (l:List Int):PV.sl 1 (qg6 l) false=il l:=rfl
theorem S.pv_def (s:S):s.pv=[I s.texts.length,I s.means.length,I s.nown,.sl 1 (qfl s.texts) false,.imap (qfa s.ahead),il s.means,.sl 1 (qfl s.ownX) false]:=rfl
theorem pv_0 (s:S):nI (qbj (nth s.pv 0))=I s.texts.length:=by rw [S.pv_def,qdd,qcj,qh5]
theorem pv_1 (s:S):nI (qbj (nth s.pv 1))=I s.means.length:=by rw [S.pv_def,qdc,qcj,qh5]
theorem pv_2 (s:S):nI (qbj (nth s.pv 2))=I s.nown:=by rw [S.pv_def,qdg,qcj,qh5]
theorem pv_3 (s:S):PV.sl 1 (qbd (nth s.pv 3)) false=.sl 1 (qfl s.texts) false:=rfl
theorem pv_4 (s:S):PV.imap (qcw (nth s.pv 4))=.imap (qfa s.ahead):=rfl
theorem pv_5 (s:S):PV.sl 1 (qbd (nth s.pv 5)) false=il s.means:=rfl
theorem pv_6 (s:S):PV.sl 1 (qbd (nth s.pv 6)) false=.sl 1 (qfl s.ownX) false:=rfl
theorem kid_step {t:List Nd} {all:List Int} {i:Nat} {a:Tr} {k:Nat} {s:S} (hi:i < all.length) (hk:all[i]=(k:Int)) (hb:all.length≤big) (h:ioO B0 sh82 82 (tl t :: I (k:Int) :: s.pv)=some (qgy a s).pv) :
  qvv ([tl t,il all,I (all.length:Nat),I (i:Nat)]++s.pv,())=some (.inl ([tl t,il all,I (all.length:Nat),I ((i+1:Nat):Int)]++(qgy a s).pv,())):=by
 have hbl:=qfu
 unfold qvv
 rw [S.pv_def s] at h ⊢
 simp only [List.cons_append,List.nil_append,qdd,qdc,qdg,qdq,qfv,qgl,qjb,qju,qms,qnb,qk1,qcj,qh5,qb1,qce,qgf,qgd,qd0,qdp,qbb]
 rw [show decide ((i:Int) < (all.length:Nat))=true by simp;omega,qb6,qrw hi,hk,qbb,qnd,qbb,h,qbb]
 simp only [qg9,qbb]
 rw [qhd (by omega),← qh5 (qbj _),← qh5 (qbj _),← qh5 (qbj _),pv_0,pv_1,pv_2,pv_3,pv_4,pv_5,pv_6]
 rfl
theorem kid_end {t:List Nd} {all:List Int} {s:S}:qvv ([tl t,il all,I (all.length:Nat),I (all.length:Nat)]++s.pv,())=some (.inr s.pv):=by
 unfold qvv
 rw [S.pv_def s]
 simp only [List.cons_append,List.nil_append,qdd,qdc,qdg,qdq,qfv,qgl,qjb,qju,qms,qnb,qk1,qcj,qh5,qb1,qce,qgf,qgd,qd0,qdp,qbb]
 rw [show decide ((all.length:Int) < (all.length:Nat))=false by simp,qbm]
end Go.Ab.Core

