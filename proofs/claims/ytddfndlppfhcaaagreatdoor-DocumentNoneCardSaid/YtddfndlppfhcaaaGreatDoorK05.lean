/-
  Part 5 of a proof: a machine of our own for the given program, its laws, and what it says of the program. Nothing here is a claim by itself.
-/
import Derived.Test.YtddfndlppfhcaaaGreatDoorK04
import Derived.Test.YtddfndlppfhcaaaGreatDoorK03
import Derived.RowKit
import Derived.Lib.AppendIntMem
import Derived.Lib.CountLaws
import Derived.Lib.Replace
import Derived.Lib.ItoaNum
import Derived.Conc.MuLone
import Derived.Lib.Join
import Derived.Test.YtddfndlppfhcaaaGreatDoorProg
import Derived.Test.YtddfndlppfhcaaaGreatDoorK01
import Derived.KernelRfl
import Derived.IntWalk
import Derived.WalkKit
import Derived.LaidEql
import Derived.Stop.Asserts
import Derived.RowKitTokens
import Derived.Lib.Builder
import Derived.Lib.UnsafeStr
import Derived.Lib.Bytealg
import Derived.Lib.AppendZerosOnto
import Derived.Lib.Walk
import Derived.Lib.SliceRun
import Derived.Laws.Externs
import Derived.Shelf.RegionOpenPlain
import Derived.Shelf.Strconv.Itoa3
import Derived.Shelf.Strings.OnBuilder
import Derived.Lib.Strings
set_option linter.all false

namespace Go.Ab
noncomputable def limCall (sp:FuncId→(Nm→Option Ob)→List PV→Option Out) (tab:FuncId→Option RFn):qva:=fun E h dep g args e=>lim fun n=>qbi sp tab n E h dep g args e
def qhy (sp:FuncId→(Nm→Option Ob)→List PV→Option Out) (tab:FuncId→Option RFn) (n:Nat):qdb:=qgt sp tab n
theorem qks (sp:FuncId→(Nm→Option Ob)→List PV→Option Out) (tab:FuncId→Option RFn) (n:Nat):(qhy sp tab n).sp=sp:=Qc7 sp tab n
theorem qn8 (sp:FuncId→(Nm→Option Ob)→List PV→Option Out) (tab:FuncId→Option RFn) (n:Nat):(qhy sp tab n).isIo=qji tab:=qs2 sp tab n
theorem Qjk (sp:FuncId→(Nm→Option Ob)→List PV→Option Out) (tab:FuncId→Option RFn) (n:Nat):(qhy sp tab n).leans=qpa tab:=qqh sp tab n
theorem machN_flat (sp:FuncId→(Nm→Option Ob)→List PV→Option Out) (tab:FuncId→Option RFn) (n:Nat):(qhy sp tab n).flat=qkx tab:=qs3 sp tab n
theorem qzg (sp:FuncId→(Nm→Option Ob)→List PV→Option Out) (tab:FuncId→Option RFn) (n:Nat):(qhy sp tab n).call=qbi sp tab n:=rfl
noncomputable def limIo (sp:FuncId→(Nm→Option Ob)→List PV→Option Out) (tab:FuncId→Option RFn) (g:FuncId) (ins:List Ob) (vs:List PV):Option (St×PV) :=
 match tab g with
 | some fn=>lim fun n=>qls (qhy sp tab n) n fn ins vs
 | none=>none
structure qmy (cfg:qx7) (tab:FuncId→Option RFn):Prop where
 L:cfg.b.L=limCall cfg.b.sp tab
 I:cfg.b.I=limIo cfg.b.sp tab
 isIo:cfg.b.isIo=qji tab
 leans:cfg.b.leans=qpa tab
 flat:∀ g,cfg.flatF g=true→qkx tab g=true
 ioF:∀ g,(cfg.ioF g).isSome=qji tab g
 ioP:∀ g P,cfg.ioF g=some P→∃ fn,tab g=some fn∧(0 < fn.nt∧(fn.frz=false∨∀ xs os,(P xs os).args=[]))∧∀ xs os,(P xs os).args.length≤fn.nt∧(P xs os).ins.length≤fn.nt
 spF:∀ g,cfg.spF g=false→∀ σ vs,cfg.b.sp g σ vs=none
 loc:∀ g σ vs,qcy vs=true→cfg.b.sp g σ vs=cfg.b.sp g (fun _=>none) vs
 spK:∀ g s,cfg.spK g=some s→∀ σ xs out,qfp xs→(∀ nm o,σ nm=some o→o.ok)→s σ xs=some (true,out)→out.Ok∧cfg.b.sp g (fun nm=>(σ nm).map KOb.ob) (pvL xs)=some out.out∧∀ f,out.out.v.ren f=out.out.v
 asOk:∀ g p t n,cfg.asT g p=some (t,n)→∀ σ nm ty cs,σ nm=some (.cells ty cs)→cs.length=n→cfg.b.sp g σ [.nilI,.iface p (.ref nm 0)]=some {v:=.bool false} ∧
  ∀ x,qmf x n=true→cfg.b.sp g σ [.iface t x,.iface p (.ref nm 0)]=some {v:=.bool true,upd:=some (nm,.cells ty x.cells)}
def HOk {E:Type} (h:qbg E) (hn:Nat→qbg E):Prop:=∀ l args e r,h l args e=some r→Evl fun n=>hn n l args e=some r
mutual
theorem Qg3 (d:Nat) {obs:List Ob}:∀ (sh:RSh) (j:Nat) (v:PV) {u:PV} {j':Nat},sh.fix=true→qhn obs sh j v=some (u,j') →
  (qwa d sh j u).1.pv=v.ren (qhw d)∧(qwa d sh j u).2.1.map KOb.ob=(obs.drop j).take (j' - j)∧(qwa d sh j u).2.2=j'∧(qwa d sh j u).1.ok∧(∀ o∈(qwa d sh j u).2.1,o.ok)∧j≤j'
 | .opt k,j,v,u,j',hf,h=>by cases hf
 | .cl,j,v,u,j',_,h=>by
  simp only[qhn] at h
  obtain⟨h1,h2⟩:=qbj h
  cases h2
  refine⟨?_,by simp[qwa],rfl,h1,by simp[qwa],Nat.le_refl _⟩
  simp only[qwa,KV.pv]
  rw[qmd (qfk h1).1]
 | .own k,j,v,u,j',_,h=>by
  simp only[qhn] at h
  split at h
  ·rename_i nm k' o n k'' kt xs hj
   obtain⟨h1,h2⟩:=qbj h
   cases h2
   simp only[Bool.and_eq_true,beq_iff_eq] at h1
   obtain⟨⟨⟨⟨⟨⟨rfl,rfl⟩,rfl⟩,rfl⟩,rfl⟩,rfl⟩,hok⟩:=h1
   refine⟨by simp[qwa,KV.pv,PV.ren,qhw,qmz,qkv],?_,rfl,trivial,?_,by omega⟩
   ·have hlt:=(List.getElem?_eq_some_iff.1 hj).1
    have hd:obs.drop j=.arr k 0 xs :: obs.drop (j+1):=by
     obtain⟨hi,he⟩:=List.getElem?_eq_some_iff.1 hj
     rw[←he];exact List.drop_eq_getElem_cons hi
    rw[hd,show j+1 - j=1 by omega]
    simp[qwa,KOb.ob,qkv]
   ·intro o ho
    simp only[qwa,List.mem_singleton] at ho
    subst ho;exact hok
  ·cases h
 | .tup l,j,v,u,j',hf,h=>by
  simp only[qhn] at h
  split at h
  ·rename_i vs
   obtain⟨p,hp,he⟩:=Option.map_eq_some_iff.1 h
   cases he
   obtain⟨h1,h2,h3,h4,h5,h6⟩:=qs5 d l j vs (us:=p.1) (j':=p.2) hf hp (.tup p.1) 0 (by intro i _;simp[prjP])
   simp only[qwa]
   exact⟨by simp[KV.pv,PV.ren,h1],h2,h3,h4,h5,h6⟩
  ·cases h
 | .agg l,j,v,u,j',hf,h=>by
  simp only[qhn] at h
  split at h
  ·rename_i vs
   obtain⟨p,hp,he⟩:=Option.map_eq_some_iff.1 h
   cases he
   obtain⟨h1,h2,h3,h4,h5,h6⟩:=qs5 d l j vs (us:=p.1) (j':=p.2) hf hp (.agg p.1) 0 (by intro i _;simp[prjP])
   simp only[qwa]
   exact⟨by simp[KV.pv,PV.ren,h1],h2,h3,h4,h5,h6⟩
  ·cases h
theorem qs5 (d:Nat) {obs:List Ob}:∀ (l:List RSh) (j:Nat) (vs:List PV) {us:List PV} {j':Nat},fixL l=true→qka obs l j vs=some (us,j')→∀ (r:PV) (i:Nat),(∀ m,m < us.length→prjP r (i+m)=us.getD m .undef) →
  pvL (qyg d l j r i).1=qf1 (qhw d) vs∧(qyg d l j r i).2.1.map KOb.ob=(obs.drop j).take (j' - j)∧(qyg d l j r i).2.2=j'∧qfp (qyg d l j r i).1∧(∀ o∈(qyg d l j r i).2.1,o.ok)∧j≤j'
 | [],j,vs,us,j',_,h,r,i,_=>by
  cases vs with
  | nil=>simp only[qka] at h;cases h;simp[qyg,pvL,qf1,qfp]
  | cons v vs=>simp[qka] at h
 | s :: l,j,vs,us,j',hf,h,r,i,hr=>by
  simp only[fixL,Bool.and_eq_true] at hf
  cases vs with
  | nil=>simp[qka] at h
  | cons v vs =>
   simp only[qka] at h
   split at h
   ·rename_i u j1 hu
    obtain⟨p,hp,he⟩:=Option.map_eq_some_iff.1 h
    obtain⟨us',j2⟩:=p
    cases he
    have h0:prjP r i=u:=by have:=hr 0 (by simp);simpa using this
    obtain⟨a1,a2,a3,a4,a5,a6⟩:=Qg3 d s j v hf.1 hu
    obtain⟨b1,b2,b3,b4,b5,b6⟩:=qs5 d l j1 vs hf.2 hp r (i+1) (fun m hm=>by
     have:=hr (m+1) (by simp;omega)
     rw[show i+(m+1)=i+1+m by omega] at this
     simpa using this)
    simp only[qyg,h0,a3]
    refine⟨by simp[pvL,qf1,a1,b1],?_,b3,⟨a4,b4⟩,?_,by omega⟩
    ·rw[List.map_append,a2,b2]
     have e1:obs.drop j1=(obs.drop j).drop (j1 - j):=by rw[List.drop_drop];congr 1;omega
     rw[e1,show j2 - j=(j1 - j)+(j2 - j1) by omega,List.take_add]
    ·intro o ho
     rcases List.mem_append.1 ho with ho | ho
     ·exact a5 o ho
     ·exact b5 o ho
   ·cases h
end
theorem qxx (d:Nat) {obs:List Ob} {sh:RSh} {v u:PV} (hf:sh.fix=true) (h:qmt sh v obs=some u):(qwa d sh 0 u).1.pv=v.ren (qhw d)∧(qwa d sh 0 u).2.1.map KOb.ob=obs∧(qwa d sh 0 u).1.ok∧∀ o∈(qwa d sh 0 u).2.1,o.ok:=by
 unfold qmt at h
 split at h
 ·rename_i r j hr
  obtain⟨h1,h2⟩:=qbj h
  cases h2
  simp only[beq_iff_eq] at h1
  obtain⟨a1,a2,a3,a4,a5,a6⟩:=Qg3 d sh 0 v hf hr
  refine⟨a1,?_,a4,a5⟩
  rw[a2,h1];simp
 ·cases h
mutual
theorem qyu {R:Type} {r:R}:∀ (sh:RSh) (u:PV) {K:RSh→Option R},ql6 sh u K=some r →
  ∃ sh',sh'.fix=true∧K sh'=some r∧∀ obs j v j',qhn obs sh j v=some (u,j')→qhn obs sh' j v=some (u,j')
 | .cl,u,K,h=>⟨.cl,rfl,h,fun _ _ _ _ h=>h⟩
 | .own k,u,K,h=>⟨.own k,rfl,h,fun _ _ _ _ h=>h⟩
 | .opt k,u,K,h=>by
  simp only[ql6] at h
  unfold nilB at h
  split at h
  ·refine⟨.cl,rfl,h,fun obs j v j' hc=>?_⟩
   simp only[qhn] at hc
   split at hc
   ·cases hc;rfl
   ·obtain⟨_,hc⟩:=qbj hc
    cases hc
   ·cases hc
  ·rename_i hu
   refine⟨.own k,rfl,h,fun obs j v j' hc=>?_⟩
   simp only[qhn] at hc
   split at hc
   ·cases hc;exact absurd rfl hu
   ·rename_i hj
    simp only[qhn,hj];exact hc
   ·cases hc
 | .tup l,u,K,h=>by
  simp only[ql6] at h
  obtain⟨l',h1,h2,h3⟩:=qpy l u 0 h
  refine⟨.tup l',h1,h2,fun obs j v j' hc=>?_⟩
  simp only[qhn] at hc ⊢
  split at hc
  ·obtain⟨p,hp,he⟩:=Option.map_eq_some_iff.1 hc
   cases he
   rw[h3 obs j _ p.1 p.2 hp (by intro i _;simp[prjP])]
   rfl
  ·cases hc
 | .agg l,u,K,h=>by
  simp only[ql6] at h
  obtain⟨l',h1,h2,h3⟩:=qpy l u 0 h
  refine⟨.agg l',h1,h2,fun obs j v j' hc=>?_⟩
  simp only[qhn] at hc ⊢
  split at hc
  ·obtain⟨p,hp,he⟩:=Option.map_eq_some_iff.1 hc
   cases he
   rw[h3 obs j _ p.1 p.2 hp (by intro i _;simp[prjP])]
   rfl
  ·cases hc
theorem qpy {R:Type} {r:R}:∀ (l:List RSh) (u:PV) (i:Nat) {K:List RSh→Option R},qqn l u i K=some r →
  ∃ l',fixL l'=true∧K l'=some r∧∀ obs j vs us j',qka obs l j vs=some (us,j')→(∀ m,m < us.length→prjP u (i+m)=us.getD m .undef)→qka obs l' j vs=some (us,j')
 | [],u,i,K,h=>⟨[],rfl,h,fun _ _ _ _ _ h _=>h⟩
 | s :: l,u,i,K,h=>by
  simp only[qqn] at h
  obtain⟨s',h1,h,h3⟩:=qyu s (prjP u i) h
  obtain⟨l',g1,h,g3⟩:=qpy l u (i+1) h
  refine⟨s' :: l',by simp[fixL,h1,g1],h,fun obs j vs us j' hc hu=>?_⟩
  cases vs with
  | nil=>simp[qka] at hc
  | cons v vs =>
   simp only[qka] at hc ⊢
   split at hc
   ·rename_i w j1 hw
    obtain⟨p,hp,he⟩:=Option.map_eq_some_iff.1 hc
    obtain⟨us',j2⟩:=p
    cases he
    have h0:prjP u i=w:=by have:=hu 0 (by simp);simpa using this
    rw[h3 obs j v j1 (by rw[h0];exact hw)]
    simp only
    rw[g3 obs j1 vs us' j2 hp (fun m hm=>by
     have:=hu (m+1) (by simp;omega)
     rw[show i+(m+1)=i+1+m by omega] at this
     simpa using this)]
    simp only[Option.map_some,h0]
   ·cases hc
end
theorem qvx {R:Type} {r:R} {sh:RSh} {u:PV} {K:RSh→Option R} (h:ql6 sh u K=some r) :
  ∃ sh',sh'.fix=true∧K sh'=some r∧∀ v obs,qmt sh v obs=some u→qmt sh' v obs=some u:=by
 obtain⟨sh',h1,h2,h3⟩:=qyu sh u h
 refine⟨sh',h1,h2,fun v obs hc=>?_⟩
 unfold qmt at hc ⊢
 split at hc
 ·rename_i w j hw
  obtain⟨c1,c2⟩:=qbj hc
  cases c2
  rw[h3 obs 0 v j hw]
  simp only[c1,qfl]
 ·cases hc
section
variable {cfg:qx7} {tab:FuncId→Option RFn} {ks:KSt} {E R:Type} {h:qbg E} {hn:Nat→qbg E} {K:qb2→E→Option R} {r:R} {e:E} {d dep:Nat}
theorem spO_ok (hc:qmy cfg tab) {g:FuncId} {vs:List PV} (hvs:qcy vs=true) {x:Option (PV×List Ob)} (h:spO cfg.b.sp g vs=some x) (σ:Nm→Option Ob) :
  match x with | some p=>cfg.b.sp g σ vs=some {v:=p.1,new:=p.2} | none=>cfg.b.sp g σ vs=none:=by
 unfold spO at h
 rw[hc.loc g σ vs hvs]
 split at h
 ·rename_i out ho
  obtain⟨h1,h2⟩:=qbj h
  cases h2
  simp only[Bool.and_eq_true,List.isEmpty_iff,Option.isNone_iff_eq_none,Bool.not_eq_true'] at h1
  obtain⟨⟨⟨⟨⟨⟨b,c⟩,f⟩,a2⟩,a3⟩,a4⟩,a5⟩:=h1
  simp only
  rw[ho]
  obtain⟨v,new,upd,kill,frz,gone,ups,io,slot⟩:=out
  simp only at b c f a2 a3 a4 a5
  subst b;subst c;subst f;subst a2;subst a3;subst a4;subst a5
  rfl
 ·rename_i ho;cases h;exact ho
theorem Qmt {sh sh':RSh} {f:PV} {vs:List PV} {u:PV} (hs:∀ v obs,qmt sh v obs=some u→qmt sh' v obs=some u) (h:qke cfg.b sh f vs=some u):qke cfg.b sh' f vs=some u:=by
 unfold qke at h ⊢
 split at h
 ·split at h
  ·exact hs _ _ h
  ·split at h
   ·cases h
   ·rename_i hio
    rw[if_neg hio]
    split at h
    ·exact hs _ _ h
    ·cases h
  ·cases h
 ·cases h
theorem lendO_sh {sh sh':RSh} {fr:Bool} {g:FuncId} {vs:List PV} {u:PV} (hs:∀ v obs,qmt sh v obs=some u→qmt sh' v obs=some u) (h:lendO cfg.b sh fr g vs=some u):lendO cfg.b sh' fr g vs=some u:=by
 unfold lendO at h ⊢
 split at h
 ·cases h
 ·rename_i hy
  rw[if_neg hy]
  split at h
  ·obtain⟨h1,h2⟩:=qbj h
   simp only[h1,qfl]
   exact hs _ _ h2
  ·cases h
theorem Ql8 {g:FuncId}:Nat.blt (qd2 g) qgo=true:=by
 unfold qd2
 split
 ·assumption
 ·exact Nat.blt_eq.mpr (Nat.mod_lt _ (by decide))
theorem fnId_id {g:FuncId}:qd2 (qd2 g)=qd2 g:=by
 have h:=Ql8 (g:=g)
 generalize qd2 g=x at h
 simp[qd2,h]
theorem fnArgs_id {g:FuncId} {vs:List PV}:qb3 (qd2 g) vs []=vs:=by
 have h:=Ql8 (g:=g)
 simp[qb3,h]
theorem qxd {f:FuncId} {vs cap:List PV} {x:PV} (h:x∈vs∨x∈cap):x∈qb3 f vs cap:=by
 unfold qb3
 split
 ·exact List.mem_append.2 h
 ·rcases h with h | h
  ·exact List.mem_append_right _ (List.mem_append_left _ h)
  ·rw[←List.take_append_drop (fnK f) cap] at h
   rcases List.mem_append.1 h with h | h
   ·exact List.mem_append_left _ h
   ·exact List.mem_append_right _ (List.mem_append_right _ h)
theorem qzp (f:FuncId) (vs cap:List KV):pvL (qk5 f vs cap)=qb3 f (pvL vs) (pvL cap):=by
 unfold qk5 qb3
 cases Nat.blt f qgo<;>simp[qn5,qn3,qn4]
theorem qzq {f:FuncId} {vs cap:List KV} (h1:qfp vs) (h2:qfp cap):qfp (qk5 f vs cap):=by
 unfold qk5
 split
 ·exact qgc h1 h2
 ·exact qgc (qcq.2 fun x hx=>qcq.1 h2 x (List.mem_of_mem_take hx)) (qgc h1 (qcq.2 fun x hx=>qcq.1 h2 x (List.mem_of_mem_drop hx)))
theorem callO_all {B:KB} {sh:RSh} {f:FuncId} {vs cap:List PV}:qke B sh (.fn f cap) vs=qke B sh (.fn (qd2 f) []) (qb3 f vs cap):=by
 simp only[qke,fnId_id,fnArgs_id]
theorem Qmu (hc:qmy cfg tab) {sh:RSh} (hfix:sh.fix=true) {f:PV} {vs:List PV} (hvs:qcy vs=true) (hf:okV f=true) {u:PV} (hu:qke cfg.b sh f vs=some u) (σ:Nm→Option Ob) (T:List PV) (fx:RX) (args:List RX) (hfx:fx.ev T=f) (hargs:args.map (RX.ev T)=vs) :
  ∃ out:qb2,out.Ok∧out={v:=(qwa d sh 0 u).1,new:=(qwa d sh 0 u).2.1}∧Evl fun n=>qb1 (qhy cfg.b.sp tab n) (hn n) dep d σ T fx args e=some (out.out,e):=by
 unfold qke at hu
 split at hu
 ·rename_i g cap
  have hcap:qcy cap=true:=by simpa[okV] using hf
  have hall:qcy (qb3 g vs cap)=true:=qdm.2 fun x hx=>(qsv hx).elim (qdm.1 hvs x) (qdm.1 hcap x)
  have hnm:(qbd (qb3 g vs cap)).isEmpty=true:=by rw[(qbx hall).1];rfl
  have hy:qcu (qb3 g vs cap)=false:=(qbx hall).2
  split at hu
  ·rename_i v obs hs
   have h1:=spO_ok hc hall hs σ
   simp only at h1
   obtain⟨a1,a2,a3,a4⟩:=qxx d hfix hu
   refine⟨_,⟨a3,a4,by simp,by simp⟩,rfl,.of fun n=>?_⟩
   simp only[qb1,hfx,hargs,qks,h1,qb2.out,a1,a2,Option.map_none,List.map_nil]
  ·rename_i hs
   have h1:=spO_ok hc hall hs σ
   split at hu
   ·cases hu
   rename_i hio
   have hio:qji tab (qd2 g)=false:=by rw[←hc.isIo];simpa using hio
   split at hu
   ·rename_i rr obs hL
    rw[hc.L] at hL
    have hev:=qq0 hL
    obtain⟨a1,a2,a3,a4⟩:=qxx d hfix hu
    refine⟨_,⟨a3,a4,by simp,by simp⟩,rfl,hev.mono fun n hn'=>?_⟩
    simp only at h1
    simp only[qb1,hfx,hargs,qks,qn8,qzg,hio,h1,hnm,if_true,hy,Bool.false_eq_true,if_false,hn',qb2.out,a1,a2,Option.map_none,List.map_nil]
   ·cases hu
  ·cases hu
 ·cases hu
theorem mapM_mem {α:Type} {σ:Nm→Option α}:∀ {S:List Nm} {l:List α},S.mapM σ=some l→l.length=S.length∧∀ x∈l,∃ nm,σ nm=some x:=by
 intro S
 induction S with
 | nil=>intro l h;simp at h;subst h;exact⟨rfl,fun x h=>by cases h⟩
 | cons y S ih =>
  intro l h
  rw[List.mapM_cons] at h
  simp only[Option.bind_eq_bind,Option.bind_eq_some_iff,Option.pure_def,Option.some.injEq] at h
  obtain⟨o,ho,l',hl,rfl⟩:=h
  obtain⟨q1,q2⟩:=ih hl
  refine⟨by simp[q1],fun x hx=>?_⟩
  rcases List.mem_cons.1 hx with rfl | hx
  ·exact⟨y,ho⟩
  ·exact q2 x hx
theorem mapM_map' {α β:Type} {σ:Nm→Option α} (g:α→β):∀ {S:List Nm} {l:List α},S.mapM σ=some l→S.mapM (fun nm=>(σ nm).map g)=some (l.map g):=by
 intro S
 induction S with
 | nil=>intro l h;simp at h;subst h;rfl
 | cons y S ih =>
  intro l h
  rw[List.mapM_cons] at h
  simp only[Option.bind_eq_bind,Option.bind_eq_some_iff,Option.pure_def,Option.some.injEq] at h
  obtain⟨o,ho,l',hl,rfl⟩:=h
  rw[List.mapM_cons,ih hl,ho]
  rfl
theorem qz1:∀ {ps xs:List KOb},qg3 ps xs=true→ps.length=xs.length
 | [],[],_=>rfl
 | [],_ :: _,h=>by simp[qg3] at h
 | _ :: _,[],h=>by simp[qg3] at h
 | p :: ps,x :: xs,h=>by
  simp only[qg3,Bool.and_eq_true] at h
  simp[qz1 h.2]
theorem Ql9:∀ {ps xs:List KV},qx8 ps xs=true→ps.length=xs.length
 | [],[],_=>rfl
 | [],_ :: _,h=>by simp[qx8] at h
 | _ :: _,[],h=>by simp[qx8] at h
 | p :: ps,x :: xs,h=>by
  simp only[qx8,Bool.and_eq_true] at h
  simp[Ql9 h.2]
theorem ob_noY {o:KOb} (h:o.ok) (hq:∀ ty cs,o=.cells ty cs→qjh cs=false):o.ob.hasY=false:=by
 cases o with
 | cells ty cs =>
  have h':qfp cs:=h
  show qcu (pvL cs)=false
  rw[qme h'];exact hq ty cs rfl
 | whole ty v=>exact (qbx (qcb h)).2
 | arr k kt xs=>exact (qbx h).2
 | map es=>exact (qbx h).2
 | siter s p=>rfl
theorem qzt (hc:qmy cfg tab) (hk:ks.Ok) (hq:qhz ks.objs=true) {g:FuncId} {xs:List KV} (hxs:qfp xs)
  {R:Type} {r:R} {K:qb2→Option R} {Pf:List KV→List KOb→qdc} (hPf:cfg.ioF g=some Pf) (hr:qw1 cfg Pf g d (qck ks.objs) xs K=some r) :
  ∃ out,K out=some r∧out.Ok∧cfg.spF g=false∧Evl fun n=>(qhy cfg.b.sp tab n).io g d (qbf ks.st.objs) (pvL xs)=some out.out:=by
 unfold qw1 at hr
 simp only at hr
 generalize hS:qcc (qlm (qck ks.objs) qbe (qc9 xs))=S at hr
 split at hr
 ·cases hr
 rename_i ins hins
 generalize hP:Pf xs ins=P at hr
 split at hr
 case isFalse=>cases hr
 rename_i hcond
 obtain⟨hsh,hy,hsp,hfit⟩:=hcond
 simp only[Bool.and_eq_true] at hfit
 obtain⟨hfa,hfo⟩:=hfit
 obtain⟨rs,hio,hr⟩:=qbv hr
 have hplace:∃ sl d1 i1,K (ioOut P S sl d1 i1 rs)=some r∧∀ st v out,qra sl d1 i1 S st v=some out→qjd (qbf ks.st.objs) d S st v=some out:=by
  unfold qjd
  cases S with
  | nil=>exact⟨none,d,0,hr,fun st v out h=>h⟩
  | cons s ss =>
   simp only at hr
   split at hr
   ·rename_i i1 hi1
    refine⟨some s.1,s.1,i1,hr,fun st v out h=>?_⟩
    have:qm4 (qbf ks.st.objs) s.1=some i1:=by
     rw[qdd hk,←hi1]
     unfold qm4
     congr 1
     funext j
     show ((qck ks.objs (s.1,j)).map KOb.ob).isNone=_
     cases qck ks.objs (s.1,j)<;>rfl
    simp only[this]
    exact h
   ·cases hr
 obtain⟨sl,d1,i1,hr,hplace⟩:=hplace
 have hflag:qji tab g=true:=by rw[←hc.ioF,hPf];rfl
 obtain⟨fn,htab,⟨hnt,hfz⟩,hll⟩:=hc.ioP g Pf hPf
 have hla:=(hll xs ins).1
 have hli:=(hll xs ins).2
 rw[hP] at hla hli
 obtain⟨m1,m2⟩:=mapM_mem hins
 have hinok:∀ o∈ins,o.ok:=fun o ho=>let ⟨nm,h⟩:=m2 o ho;qb8 hk nm o h
 have hS':qcc (qbs (qbf ks.st.objs) qbe (qbd (pvL xs)))=S:=by rw[←hS,qfw (qb8 hk),qdd hk,qdi hxs]
 have hmap:S.mapM (qbf ks.st.objs)=some (ins.map KOb.ob):=by rw[qdd hk];exact mapM_map' KOb.ob hins
 have hysok:qfp (qnj (fun m=>(0,S.idxOf m)) xs):=qpd _ hxs
 have hosok:∀ o∈ins.map (KOb.ren fun m=>(0,S.idxOf m)),o.ok:=by
  intro o ho
  obtain⟨o0,h0,rfl⟩:=List.mem_map.1 ho
  exact KOb.ren_ok _ (hinok o0 h0)
 have hlen:P.ins.length=S.length:=by rw[qz1 hfo,List.length_map,m1]
 have hlx:∀ l:List KV,(qnj (fun m=>(0,S.idxOf m)) l).length=l.length:=by
  intro l;induction l with | nil=>rfl | cons x l ih=>simp[qnj,ih]
 have hlena:(pvL xs).length≤fn.nt:=by
  have h1:=Ql9 hfa
  rw[hlx] at h1
  have h2:(pvL xs).length=xs.length:=by rw[qft,List.length_map]
  omega
 generalize hlv:qg0 P.args (qnj (fun m=>(0,S.idxOf m)) xs)++qgz P.ins (ins.map (KOb.ren fun m=>(0,S.idxOf m)))=lv at hio
 have hseg:Seg lv 0 (qg0 P.args (qnj (fun m=>(0,S.idxOf m)) xs)++qgz P.ins (ins.map (KOb.ren fun m=>(0,S.idxOf m)))):=by rw[hlv];exact Seg.all lv
 obtain⟨p1,p2,p3⟩:=qpl _ _ hfa hysok lv 0 hseg.left
 obtain⟨q1,q2,q3⟩:=qsy _ _ hfo hosok lv (qhj P.args lv 0).2 (by rw[p3];exact hseg.right)
 have hvs2:pvL (qnj (fun m=>(0,S.idxOf m)) xs)=qf1 (fun m=>(0,S.idxOf m)) (pvL xs):=qse _ hxs
 have hos2:(ins.map (KOb.ren fun m=>(0,S.idxOf m))).map KOb.ob=(ins.map KOb.ob).map (Ob.ren fun m=>(0,S.idxOf m)):=by
  rw[List.map_map,List.map_map]
  exact List.map_congr_left fun o ho=>KOb.ren_ob _ (hinok o ho)
 unfold ioO at hio
 rw[p1,q1,hvs2,hos2] at hio
 split at hio
 case h_2=>cases hio
 rename_i st v hI
 rw[hc.I] at hI
 unfold limIo at hI
 rw[htab] at hI
 have hev:=qq0 hI
 split at hio
 case h_2=>cases hio
 rename_i out0 hend
 rw[hlen] at hend
 have hend2:=ioEnd_ren (sl:=sl) (d:=d1) (i0:=i1) hend
 unfold ioFit at hio
 split at hio
 case isFalse=>cases hio
 rename_i hgone
 split at hio
 case h_2=>cases hio
 rename_i a b c ha hb hcc
 cases hio
 have hsr:=Seg.all (a++(b++c))
 obtain⟨a1,a2,a3⟩:=qxe P.res out0.v ha _ 0 hsr.left
 obtain⟨b1,b2,b3⟩:=qnp P.outs _ hb (a++(b++c)) (fill P.res (a++(b++c)) 0).2 (by rw[a3];exact hsr.right.left)
 obtain⟨c1,c2,c3⟩:=qnp P.news _ hcc (a++(b++c)) (qc0 P.outs (a++(b++c)) (fill P.res (a++(b++c)) 0).2).2 (by rw[b3,a3];exact hsr.right.right)
 have hout:(ioOut P S sl d1 i1 (a++(b++c))).out={v:=out0.v.ren (qpe S d1 i1),new:=out0.new.map (Ob.ren (qpe S d1 i1)),gone:=out0.gone.map (qpe S d1 i1),ups:=S.zip (out0.ups.map fun p=>p.2.ren (qpe S d1 i1)),io:=true,slot:=sl}:=by
  simp only[ioOut,qb2.out,Option.map_none,Out.mk.injEq,true_and,and_true]
  refine⟨?_,?_,?_,?_⟩
  ·rw[KV.ren_pv _ a2,a1]
  ·rw[List.map_map,←c1,List.map_map]
   exact List.map_congr_left fun o ho=>KOb.ren_ob _ (c2 o ho)
  ·rw[hgone,List.map_map]
   exact List.map_congr_left fun j _=>by simp[qpe]
  ·have e1:out0.ups.map (fun p=>p.2.ren (qpe S d1 i1))=(out0.ups.map (·.2)).map (Ob.ren (qpe S d1 i1)):=by rw[List.map_map];rfl
   rw[e1,←b1,List.map_map]
   have key:∀ (T:List Nm) (l:List KOb),(∀ o∈l,o.ok)→(T.zip (l.map (KOb.ren (qpe S d1 i1)))).map (fun p=>(p.1,p.2.ob))=T.zip (l.map (Ob.ren (qpe S d1 i1)∘KOb.ob)):=by
    intro T
    induction T with
    | nil=>intro l _;rfl
    | cons s T ih =>
     intro l hl
     cases l with
     | nil=>rfl
     | cons o l =>
      simp only[List.map_cons,List.zip_cons_cons,List.map_cons,Function.comp]
      rw[KOb.ren_ob _ (hl o List.mem_cons_self),ih l fun o ho=>hl o (List.mem_cons_of_mem _ ho)]
   exact key S _ b2
 refine⟨_,hr,⟨KV.ren_ok _ a2,?_,by simp[ioOut],?_⟩,hsp,hev.shift.mono ?_⟩
 ·intro o ho
  obtain⟨o0,h0,rfl⟩:=List.mem_map.1 ho
  exact KOb.ren_ok _ (c2 o0 h0)
 ·rintro ⟨s,o⟩ ho
  have:=(List.of_mem_zip ho).2
  obtain⟨o0,h0,rfl⟩:=List.mem_map.1 this
  exact KOb.ren_ok _ (b2 o0 h0)
 ·rintro k ⟨j,rfl,hj⟩
  show Qlu tab (Qjy (qgt cfg.b.sp tab j) j tab) g d (qbf ks.st.objs) (pvL xs)=_
  have hfr:qtu tab g (qbf ks.st.objs) (pvL xs)=[]:=by
   unfold qtu
   rcases hfz with hfz | hfz
   ·simp only[htab,hfz,Bool.false_eq_true,if_false]
   ·have hnil:P.args=[]:=by rw[←hP];exact hfz _ _
    have hx0:xs=[]:=by
     rw[hnil] at hfa
     cases xs with
     | nil=>rfl
     | cons x xs=>simp[qnj,qx8] at hfa
    subst hx0
    simp only[htab]
    split<;>rfl
  unfold Qlu
  rw[hfr]
  simp only
  unfold Qjy
  rw[htab]
  simp only
  rw[hS',hmap]
  have hcd:(!qcu (pvL xs)&&qf7 (qbf ks.st.objs) S&&(ins.map KOb.ob).all (fun o=>!o.hasY)&&(decide ((pvL xs).length≤fn.nt)&&decide (S.length≤fn.nt)&&decide (0 < fn.nt)))=true:=by
   simp only[Bool.and_eq_true,Bool.not_eq_true',decide_eq_true_eq]
   refine⟨⟨⟨by rw[qme hxs];exact hy,?_⟩,?_⟩,⟨hlena,by omega⟩,hnt⟩
   ·rw[qdd hk,←qpc (qb8 hk)];exact hsh
   ·rw[List.all_eq_true]
    intro o ho
    obtain⟨o0,h0,rfl⟩:=List.mem_map.1 ho
    obtain⟨nm,hnm⟩:=m2 o0 h0
    have:=ob_noY (hinok o0 h0) fun ty cs hcs=>qlf hq nm ty cs (by rw[hnm,hcs])
    simp[this]
  simp only[chk,hcd,if_true]
  have hj':qls (qgt cfg.b.sp tab j) j fn ((ins.map KOb.ob).map (Ob.ren fun m=>(0,S.idxOf m))) (qf1 (fun m=>(0,S.idxOf m)) (pvL xs))=some (st,v):=hj
  rw[hj']
  simp only
  rw[hout]
  exact hplace _ _ _ hend2
theorem kcallIo_ok (hc:qmy cfg tab) (hk:ks.Ok) (hq:qhz ks.objs=true) {g f0:FuncId} (hg0:qd2 f0=g) {cap:List PV} {f:RX} {args:List RX} {xs:List KV} (hxs:qfp xs) (hfe:f.ev ks.st.tmps=.fn f0 cap) (hvs:qb3 f0 (args.map (RX.ev ks.st.tmps)) cap=pvL xs)
  {Pf:List KV→List KOb→qdc} (hPf:cfg.ioF g=some Pf) (hr:qw1 cfg Pf g d (qck ks.objs) xs (fun out=>K out e)=some r) :
  ∃ out e',K out e'=some r∧out.Ok∧Evl fun n=>qb1 (qhy cfg.b.sp tab n) (hn n) dep d (qbf ks.st.objs) ks.st.tmps f args e=some (out.out,e'):=by
 obtain⟨out,hr,ho,hsp,hev⟩:=qzt (K:=fun out=>K out e) hc hk hq hxs hPf hr
 have hflag:qji tab g=true:=by rw[←hc.ioF,hPf];rfl
 exact⟨out,e,hr,ho,hev.mono fun n hn'=>by simp only[qb1,hfe,hg0,hvs,qks,qn8,hc.spF g hsp,hflag,if_true,hn']⟩
theorem kcall_ok (hc:qmy cfg tab) (hh:HOk h hn) (hk:ks.Ok) {f:RX} {args:List RX} (hq:(qhz ks.objs||calmX cfg (.call f args) ks.tmps)=true) (hx:(f :: args).all okX=true)
  (hr:kcall cfg h d (qck ks.objs) ks.tmps f args e K=some r) :
  ∃ out e',K out e'=some r∧out.Ok∧Evl fun n=>qb1 (qhy cfg.b.sp tab n) (hn n) dep d (qbf ks.st.objs) ks.st.tmps f args e=some (out.out,e'):=by
 have hxf:okX f=true:=List.all_eq_true.1 hx f (by simp)
 have hxa:args.all okX=true:=List.all_eq_true.2 fun x hm=>List.all_eq_true.1 hx x (by simp[hm])
 have hfo:=kv_ok hk hxf
 have hao:=qwm hk hxa
 unfold kcall at hr
 split at hr
 ·rename_i l hf
  have hfe:f.ev ks.st.tmps=.yld l:=by rw[qsb hk,hf];rfl
  simp only at hr
  split at hr
  ·rename_i vs hv
   obtain⟨p,hp,hr⟩:=qbv hr
   have hok:=qrx hao hv
   have hnm:(qbd vs).isEmpty=true:=by rw[(qbx hok).1];rfl
   refine⟨_,_,hr,qb2.plain (v:=.cv (.bool p.1)) rfl,(hh _ _ _ _ hp).mono fun n hn'=>?_⟩
   simp[qb1,hfe,qnf hk,qt4 hv,hnm,(qbx hok).2,chk,hn',qb2.out,KV.pv]
  ·split at hr
   ·cases hr
   ·rename_i hne
    split at hr
    ·rename_i hsh
     obtain⟨h1,hr⟩:=qbj hr
     obtain⟨p,hp,hr⟩:=qbv hr
     have hne':(qbd (pvL (args.map (RX.kv ks.tmps)))).isEmpty=false:=by rw[qxu hao];simpa using hne
     rw[qfw (qb8 hk),qpc (qb8 hk),←qdd hk,←qdi hao] at hsh
     rw[qnx hk hao] at h1 hp
     unfold noYL at h1
     refine⟨_,_,hr,⟨rfl,by simp,by simp,by simp⟩,(hh _ _ _ _ hp).mono fun n hn'=>?_⟩
     simp only[qb1,hfe,qnf hk,hne',Bool.false_eq_true,if_false,hsh,h1,Bool.and_self,chk,if_true,hn',qb2.out,KV.pv]
     rw[qfw (qb8 hk),←qdd hk,←qdi hao]
     rfl
    ·cases hr
 ·rename_i f0 caps hf
  rw[hf] at hfo
  have hcaps:qfp caps:=hfo
  have hfe:f.ev ks.st.tmps=.fn f0 (pvL caps):=by rw[qsb hk,hf];rfl
  have hxs:qfp (qk5 f0 (args.map (RX.kv ks.tmps)) caps):=qzq hao hcaps
  have hvs:qb3 f0 (args.map (RX.ev ks.st.tmps)) (pvL caps)=pvL (qk5 f0 (args.map (RX.kv ks.tmps)) caps):=by rw[qzp,qnf hk]
  have hall:∀ sh,qke cfg.b sh (.fn f0 (pvL caps)) (args.map (RX.ev ks.st.tmps))=qke cfg.b sh (.fn (qd2 f0) []) (qb3 f0 (args.map (RX.ev ks.st.tmps)) (pvL caps)):=fun sh=>callO_all
  simp only at hr
  generalize qk5 f0 (args.map (RX.kv ks.tmps)) caps=xs at hr hxs hvs
  generalize hg:qd2 f0=g at hr hall
  split at hr
  ·rename_i s hs
   split at hr
   case h_2=>cases hr
   rename_i p hso
   obtain⟨b,out⟩:=p
   obtain⟨hb,hr⟩:=qbj hr
   have hb:b=true:=hb
   subst hb
   obtain⟨a1,a2,a3⟩:=hc.spK g s hs _ xs out hxs (qb8 hk) hso
   rw[←qdd hk] at a2
   exact⟨out,e,hr,a1,.of fun n=>by simp only[qb1,hfe,hg,hvs,qks,a2,a3]⟩
  split at hr
  ·rename_i P hP
   have hq:qhz ks.objs=true:=by
    rcases Bool.or_eq_true_iff.1 hq with h1 | h1
    ·exact h1
    ·unfold calmX at h1
     simp only[hf,hg,hP] at h1
     cases h1
   exact kcallIo_ok hc hk hq hg hxs hfe hvs hP hr
  rename_i hP
  have hio:qji tab g=false:=by rw[←hc.ioF,hP];rfl
  split at hr
  ·rename_i ex p nm
   split at hr
   ·rename_i t n err ty cs ht herr hlk
    have hq:=qbj hr
    clear hr
    obtain⟨hcs,hr⟩:=hq
    have hcs:cs.length=n:=Nat.eq_of_beq_eq_true hcs
    have hlk':qbf ks.st.objs nm=some (.cells ty (pvL cs)):=by rw[qja hk,hlk];rfl
    have hcs':(pvL cs).length=n:=by rw[←hcs,qdp]
    have hero:=KV.cl_ok hxs.1 herr
    have hpv:pvL [ex,.iface p (.ref nm 0)]=[err,.iface p (.ref nm 0)]:=by simp[pvL,KV.pv,KV.cl_pv herr]
    rw[hpv] at hvs
    obtain⟨s1,s2⟩:=hc.asOk g p t n ht (qbf ks.st.objs) nm _ _ hlk' hcs'
    unfold asP at hr
    split at hr
    ·refine⟨_,_,hr,qb2.plain (v:=.lit false) trivial,.of fun n=>?_⟩
     simp only[qb1,hfe,hg,hvs,qks,s1]
     rfl
    ·rename_i t' x
     split at hr
     ·rename_i htt
      subst htt
      have hq:=qbj hr
      clear hr
      obtain⟨hx1,hr⟩:=hq
      refine⟨_,_,hr,qb2.turn (v:=.lit true) (o:=.whole _ x) trivial (show okV x=true by simpa[okV] using hero),.of fun n=>?_⟩
      simp only[qb1,hfe,hg,hvs,qks,s2 x hx1]
      rfl
     ·cases hr
    ·cases hr
   ·cases hr
  ·split at hr
   ·rename_i vs hv
    obtain⟨u,hu,hr⟩:=qbv hr
    have hok:=qrx hxs hv
    rw[qt4 hv] at hvs
    have hu':qke cfg.b (cfg.rsh g).1 (.fn g []) (qb3 f0 (args.map (RX.ev ks.st.tmps)) (pvL caps))=some u:=by rw[hvs];exact hu
    have hcv:qcy (pvL caps)=true:=Qb8 (ys:=pvL caps) hok fun y hy=>by rw[←hvs];exact qxd (.inr hy)
    have hav:qcy (args.map (RX.ev ks.st.tmps))=true:=Qb8 hok fun y hy=>by rw[←hvs];exact qxd (.inl hy)
    have hu2:qke cfg.b (cfg.rsh g).1 (.fn f0 (pvL caps)) (args.map (RX.ev ks.st.tmps))=some u:=by rw[hall];exact hu'
    obtain⟨sh',hfix,hr,hsh⟩:=qvx hr
    have hu2:=Qmt hsh hu2
    obtain⟨out,h1,h2,h3⟩:=Qmu (d:=d) (dep:=dep) (e:=e) (hn:=hn) hc hfix hav (by simpa[okV] using hcv) hu2 (qbf ks.st.objs) ks.st.tmps f args hfe rfl
    subst h2
    exact⟨_,_,hr,h1,h3⟩
   ·split at hr
    ·cases hr
    ·rename_i hne
     split at hr
     ·rename_i hsh
      obtain⟨u,hu,hr⟩:=qbv hr
      have hne1:(qc9 xs).isEmpty=false:=by
       cases hq:(qc9 xs).isEmpty with
       | false=>rfl
       | true=>exact absurd (.inl hq) hne
      have hsp:cfg.spF g=false:=by
       cases hq:cfg.spF g with
       | false=>rfl
       | true=>exact absurd (.inr hq) hne
      have hne':(qbd (pvL xs)).isEmpty=false:=by rw[qxu hxs];exact hne1
      rw[qfw (qb8 hk),qpc (qb8 hk),←qdd hk,←qdi hxs] at hsh
      rw[qnx hk hxs] at hu
      obtain⟨sh',hfix,hr,hshs⟩:=qvx hr
      have hu:=lendO_sh hshs hu
      unfold lendO at hu
      split at hu
      ·cases hu
      ·rename_i hy
       split at hu
       ·rename_i rr obs hL
        obtain⟨hfr,hu⟩:=qbj hu
        rw[hc.L] at hL
        have hev:=qq0 hL
        obtain⟨a1,a2,a3,a4⟩:=qxx d hfix hu
        refine⟨_,_,hr,⟨a3,a4,by simp,by simp⟩,hev.mono fun n hn'=>?_⟩
        simp only[beq_iff_eq] at hfr
        rw[hc.leans] at hfr
        have hy':qcu (qdy (qb5 (qbf ks.st.objs)) (pvL xs))=false:=by simpa using hy
        simp only[qb1,hfe,hg,hvs,qks,qn8,Qjk,qzg,hio,hc.spF g hsp,hne',Bool.false_eq_true,if_false,hsh,hy',Bool.not_false,Bool.and_self,chk,if_true,hn',qb2.out,a1,a2,hfr,Option.map_none,List.map_nil]
        rw[qfw (qb8 hk),←qdd hk,←qdi hxs]
       ·cases hu
     ·cases hr
 ·rename_i v hf
  rw[hf] at hfo
  have hfe:f.ev ks.st.tmps=v:=by rw[qsb hk,hf];rfl
  split at hr
  ·rename_i vs hv
   obtain⟨u,hu,hr⟩:=qbv hr
   obtain⟨sh',hfix,hr,hsh⟩:=qvx hr
   obtain⟨out,h1,h2,h3⟩:=Qmu (d:=d) (dep:=dep) (e:=e) (hn:=hn) hc hfix (qrx hao hv) hfo (Qmt hsh hu) (qbf ks.st.objs) ks.st.tmps f args hfe (by rw[qnf hk,qt4 hv])
   subst h2
   exact⟨_,_,hr,h1,h3⟩
  ·cases hr
 ·cases hr
end
end Go.Ab


namespace Go.Ab
variable {cfg:qx7} {tab:FuncId→Option RFn} {ks:KSt} {E R:Type} {h:qbg E} {hn:Nat→qbg E} {r:R} {e:E} {d dep:Nat}
theorem kfresh_ok (hk:ks.Ok) {o:qbo} (hf:kfresh o ks=true):qcz o ks.st=true:=by
 unfold kfresh at hf
 unfold qcz
 split
 ·rename_i hm
  rw[if_pos hm] at hf
  split
  ·rename_i d' hd
   rw[hd] at hf
   simp only[Bool.and_eq_true,Nat.blt_eq,List.isEmpty_iff] at hf
   have:ks.st.objs[d']?=some []:=by
    show (qdx ks.nt ks.objs)[d']?=_
    rw[denseO_get?,if_pos hf.1,hf.2];rfl
   rw[this]
  ·rename_i hd
   rw[hd] at hf
   exact hf
 ·rfl
theorem Qfx (hc:qmy cfg tab) (hh:HOk h hn) (hk:ks.Ok) {o:qbo} {K:qb2→E→Option R} (hr:qzm cfg h o ks e K=some r) :
  ∃ out e',(out.frz.isEmpty||qhz ks.objs)=true∧K out e'=some r∧out.Ok∧Evl fun n=>qfj (qhy cfg.b.sp tab n) (hn n) dep o ks.st e=some (out.out,e'):=by
 unfold qzm at hr
 split at hr
 ·rename_i hcond
  obtain⟨h1,h2,h3⟩:=hcond
  have hf:=kfresh_ok hk h1
  split at hr
  ·rename_i f args hop
   rw[hop] at h2 h3
   obtain⟨out,e',a1,a2,a3⟩:=kcall_ok (dep:=dep) hc hh hk h3 h2 hr
   split at a1
   case isFalse=>cases a1
   rename_i hgq
   obtain⟨hg,hqq⟩:=Bool.and_eq_true_iff.1 hgq
   have hgd:qmj o.dst out.out=true:=by
    simp only[qmj,qb2.out]
    have:(out.new.map KOb.ob).isEmpty=out.new.isEmpty:=by cases out.new<;>rfl
    rw[this];exact hg
   refine⟨out,e',hqq,a1,a2,a3.mono fun n hn'=>?_⟩
   simp only[qfj,chk,hf,if_true,hop,hn',hgd]
  ·rename_i hop
   obtain⟨out,a1,a2,a3⟩:=execK_ok hk h3 h2 hr
   simp only at a1
   split at a1
   case isFalse=>cases a1
   rename_i hqq
   refine⟨out,e,hqq,a1,a2,.of fun n=>?_⟩
   simp only[qfj,chk,hf,if_true]
   cases hq:o.op with
   | call f args=>exact (hop f args hq).elim
   | _=>rw[hq] at a3;simp only[a3]
 ·cases hr
theorem qqo {i:Nat} {v:PV} {b:Bool} (hk:ks.Ok) (hg:qb7 ks.tmps i=.cv v) (hv:v=.bool b):({ks with tmps:=qhv i (.lit b) ks.tmps}:KSt).st=ks.st∧({ks with tmps:=qhv i (.lit b) ks.tmps}:KSt).Ok:=by
 have hlt:i < ks.nt:=by
  apply Classical.byContradiction
  intro hlt
  rw[hk.tm.get_ge (by omega)] at hg;cases hg
 refine⟨?_,hk.tm.put hlt trivial rfl,hk.ob,hk.kp⟩
 unfold KSt.st
 simp only
 rw[qrs]
 congr 1
 apply List.ext_getElem?
 intro j
 rw[List.getElem?_set,qbu]
 by_cases hj:i=j
 ·subst hj
  simp only[if_true]
  rw[if_pos hlt,dense_get?,if_pos hlt,hg,hv]
  rfl
 ·rw[if_neg hj]
theorem Qfr (hk:ks.Ok) {ops:List qbo} {o:qbo} {K:Bool→KSt→Option R} (hr:Qlm ops o ks K=some r):∃ b k',K b k'=some r∧k'.Ok∧k'.st=ks.st∧qfo ops o ks.st.tmps=some b ∧
  k'.objs=ks.objs∧(∀ x:RX,(x.kv k'.tmps).names=(x.kv ks.tmps).names∧(x.kv k'.tmps).hasY=(x.kv ks.tmps).hasY):=by
 unfold Qlm at hr
 unfold qfo
 split at hr
 ·rename_i hg;rw[hg];exact⟨_,_,hr,hk,rfl,rfl,rfl,fun _=>⟨rfl,rfl⟩⟩
 ·rename_i j want hg
  rw[hg]
  split at hr
  ·rename_i p hp
   split at hr
   ·rename_i d' hd
    have hget:ks.st.tmps.getD d' .undef=(qb7 ks.tmps d').pv:=qhk hk.tm d'
    simp only[hp,hd,hget]
    split at hr
    ·rename_i b hb;rw[hb];exact⟨_,_,hr,hk,rfl,rfl,rfl,fun _=>⟨rfl,rfl⟩⟩
    ·rename_i hb;rw[hb];exact⟨_,_,hr,hk,rfl,rfl,rfl,fun _=>⟨rfl,rfl⟩⟩
    ·rename_i v hb
     rw[hb]
     have hsame:∀ b,∀ x:RX,(x.kv (qhv d' (.lit b) ks.tmps)).names=(x.kv ks.tmps).names∧(x.kv (qhv d' (.lit b) ks.tmps)).hasY=(x.kv ks.tmps).hasY:=by
      intro b x
      cases x with
      | c v=>exact⟨rfl,rfl⟩
      | t i =>
       simp only[RX.kv,qvz]
       by_cases hi:i=d'
       ·subst hi;rw[if_pos rfl,hb];exact⟨rfl,rfl⟩
       ·rw[if_neg hi];exact⟨rfl,rfl⟩
     rcases qq7 hr with ⟨hv,hr⟩ | ⟨hv,hr⟩
     ·obtain⟨s1,s2⟩:=qqo hk hb hv
      subst hv
      exact⟨_,_,hr,s2,s1,rfl,rfl,hsame true⟩
     ·obtain⟨s1,s2⟩:=qqo hk hb hv
      subst hv
      exact⟨_,_,hr,s2,s1,rfl,rfl,hsame false⟩
    ·cases hr
   ·cases hr
  ·cases hr
theorem Qln (hc:qmy cfg tab) (hh:HOk h hn) (hk:ks.Ok) {ops:List qbo} {o:qbo} {K:KSt→E→Option R} (hr:kstep cfg h ops o ks e K=some r) :
  ∃ k' e',K k' e'=some r∧k'.Ok∧Evl fun n=>stepG (qhy cfg.b.sp tab n) (hn n) dep ops o ks.st e=some (k'.st,e'):=by
 unfold kstep at hr
 obtain⟨b,k1,hr,hk1,hst,hw,_,_⟩:=Qfr hk hr
 cases b with
 | true =>
  simp only at hr
  obtain⟨out,e',hq,h1,h2,h3⟩:=Qfx (dep:=dep) hc hh hk1 hr
  rw[qcr] at h1
  obtain⟨s1,s2⟩:=qqc hk1 hq o.dst h2
  refine⟨_,_,h1,s2,h3.mono fun n hn'=>?_⟩
  rw[hst] at hn' s1
  simp only[stepG,hw,qpq,hn',s1]
 | false =>
  simp only at hr
  rw[qcr] at hr
  have:(qlq k1 o.dst {v:=.sk}).st=apply k1.st o.dst {v:=.tup []}∧(qlq k1 o.dst {v:=.sk}).Ok:=by
   exact kapply_sk hk1 o.dst
  refine⟨_,_,hr,this.2,.of fun n=>?_⟩
  simp only[stepG,hw,this.1,hst]
where
 kapply_sk {ks:KSt} (hk:ks.Ok) (dst:Option Nat):(qlq ks dst {v:=.sk}).st=apply ks.st dst {v:=.tup []}∧(qlq ks dst {v:=.sk}).Ok:=by
  unfold qlq
  rw[Qdl]
  simp only[kupd,kkill,kfrzs,bupd,Qkn,List.isEmpty_nil,if_true,bgone,Qkm,kgone]
  have hkt:kturn [] ks=ks:=rfl
  have hke:kext none [] ks=ks:=rfl
  have hkn:newAt none []=[]:=rfl
  rw[hkt,hke,hkn]
  simp only[bext,Qfm]
  cases dst with
  | none=>exact⟨rfl,hk⟩
  | some d =>
   simp only[kset,bset]
   cases hd:Nat.blt d ks.nt with
   | true =>
    have hd':d < ks.nt:=by simpa[Nat.blt_eq] using hd
    refine⟨?_,hk.tm.set (v:=.sk) hd' trivial,hk.ob,hk.kp⟩
    unfold KSt.st
    simp only
    rw[Qg0]
    rfl
   | false =>
    have hd':¬ d < ks.nt:=by intro h;rw[show Nat.blt d ks.nt=true by simpa[Nat.blt_eq] using h] at hd;cases hd
    refine⟨?_,hk⟩
    unfold KSt.st
    simp only
    rw[List.set_eq_of_length_le (by rw[qbu];omega)]
    rfl
theorem Qcl (hc:qmy cfg tab) (hh:HOk h hn) {ops:List qbo}:∀ (l:List qbo) {ks:KSt} {e:E} {K:KSt→E→Option R},ks.Ok→kruns cfg h ops l ks e K=some r →
  ∃ k' e',K k' e'=some r∧k'.Ok∧Evl fun n=>qf4 (qhy cfg.b.sp tab n) (hn n) dep ops l ks.st e=some (k'.st,e'):=by
 intro l
 induction l with
 | nil=>intro ks e K hk hr;exact⟨ks,e,hr,hk,.of fun n=>rfl⟩
 | cons o rest ih =>
  intro ks e K hk hr
  simp only[kruns] at hr
  obtain⟨k1,e1,hr,hk1,h1⟩:=Qln (dep:=dep) hc hh hk hr
  obtain⟨k2,e2,hr,hk2,h2⟩:=ih hk1 hr
  exact⟨k2,e2,hr,hk2,h1.mono2 h2 fun n a b=>by simp only[qf4,a,b]⟩
theorem Qft (o:qb2):Qfu o=qbp o.out:=by
 unfold Qfu qbp qb2.out
 cases o.upd<;>cases o.ups<;>rfl
theorem kturns_ok (o:qb2):kturns o=qcp o.out:=by
 unfold kturns qcp qb2.out
 cases o.ups<;>rfl
theorem Qfs (o:qb2):qws o=qdl o.out:=by
 unfold qws qdl qb2.out
 cases o.upd with
 | none=>rfl
 | some p=>rfl
theorem spAt_pv (ks:KSt) (s:Nat):ks.st.tmps.getD s .undef=(spAt ks s).pv:=by
 unfold spAt
 show (qc7 ks.nt ks.tmps).getD s .undef=_
 unfold qc7
 rw[List.getD_eq_getElem?_getD,List.getElem?_map]
 cases hb:Nat.blt s ks.nt with
 | true =>
  have:s < ks.nt:=Nat.blt_eq.mp hb
  rw[List.getElem?_range this];rfl
 | false =>
  have:¬ s < ks.nt:=fun h=>by rw[Nat.blt_eq.mpr h] at hb;cases hb
  rw[List.getElem?_eq_none (by simpa using this)];rfl
theorem qyx (hk:ks.Ok) (s:Nat):(ks.st.tmps.getD s .undef).names=(spAt ks s).names:=by
 rw[spAt_pv]
 refine KV.pv_names ?_
 unfold spAt
 cases Nat.blt s ks.nt with
 | true=>exact hk.tm.get_ok s
 | false=>trivial
theorem kheld_eq (hk:ks.Ok) (l:List Nm):kheldN (qck ks.objs) l=qyl (qbf ks.st.objs) l:=by
 unfold kheldN qyl
 congr 1
 funext nm
 rw[qdd hk]
 cases hq:qck ks.objs nm with
 | none=>simp[hq]
 | some o =>
  simp only[hq,Option.map_some,Option.getD_some]
  exact (KOb.ob_names (qb8 hk nm o hq)).symm
theorem krn_eq (hk:ks.Ok) {o:qbo} (hx:o.op.xs.all okX=true) (out:qb2):krnOf o ks out=qv7 o ks.st out.out:=by
 have hok:=qwm hk hx
 unfold krnOf qv7
 rw[qnf hk,qfw (qb8 hk),←qdd hk,←qdi hok,Qft]
 rfl
theorem kisYld_ok (hk:ks.Ok) {op:ROp} (hx:op.xs.all okX=true):kisYld op ks.tmps=qq8 op ks.st.tmps:=by
 cases op<;>try rfl
 rename_i f args
 have hxa:args.all okX=true:=List.all_eq_true.2 fun x hm=>List.all_eq_true.1 hx x (by simp[ROp.xs,hm])
 have hxf:(f.kv ks.tmps).ok:=kv_ok hk (List.all_eq_true.1 hx f (by simp[ROp.xs]))
 unfold kisYld qq8
 simp only
 rw[qsb hk,qnf hk,qdi (qwm hk hxa)]
 cases hf:f.kv ks.tmps with
 | cv v =>
  rw[hf] at hxf
  simp only[KV.pv]
  cases v<;>first | rfl | (simp[KV.ok,okV] at hxf)
 | _=>rfl
theorem kinfo_ok (hk:ks.Ok) {ops:List qbo} {i:Nat} {o:qbo} (hx:o.op.xs.all okX=true) {out:qb2} (ho:out.Ok):kinfo ops i o ks out=qfx ops i o ks.st out.out:=by
 unfold kinfo qfx
 have hok:=qwm hk hx
 simp only
 have hn:out.out.new.flatMap Ob.names=out.new.flatMap KOb.names:=by
  show (out.new.map KOb.ob).flatMap Ob.names=_
  rw[List.flatMap_map]
  have:∀ l:List KOb,(∀ x∈l,x.ok)→l.flatMap (fun a=>a.ob.names)=l.flatMap KOb.names:=by
   intro l
   induction l with
   | nil=>intro _;rfl
   | cons x l ih =>
    intro h
    rw[List.flatMap_cons,List.flatMap_cons,KOb.ob_names (h x List.mem_cons_self),ih fun y hy=>h y (List.mem_cons_of_mem _ hy)]
  exact this _ ho.new
 have hv:out.out.v.names=out.v.names:=KV.pv_names ho.v
 simp only[←qyx hk]
 rw[krn_eq hk hx,kheld_eq hk,kisYld_ok hk hx,qnf hk,←qme hok,Qft,kturns_ok,Qfs,hn,hv]
 rfl
theorem koutOf_x {o:qbo} {K:qb2→E→Option R} (hr:qzm cfg h o ks e K=some r):o.op.xs.all okX=true:=by
 unfold qzm at hr
 split at hr
 ·rename_i hcond;exact hcond.2.1
 ·cases hr
theorem kstepD_ok (hc:qmy cfg tab) (hh:HOk h hn) (hk:ks.Ok) {ops:List qbo} {i:Nat} {o:qbo} {K:KSt→E→qlb→Option R} (hr:kstepD cfg h ops i o ks e K=some r) :
  ∃ k' e' inf,K k' e' inf=some r∧k'.Ok∧Evl fun n=>qyd (qhy cfg.b.sp tab n) (hn n) dep ops i o ks.st e=some (k'.st,e',inf):=by
 unfold kstepD at hr
 obtain⟨b,k1,hr,hk1,hst,hw,_,_⟩:=Qfr hk hr
 cases b with
 | true =>
  simp only at hr
  have hxs:=koutOf_x hr
  obtain⟨out,e',hq,h1,h2,h3⟩:=Qfx (dep:=dep) hc hh hk1 hr
  rw[qcr] at h1
  obtain⟨s1,s2⟩:=qqc hk1 hq o.dst h2
  refine⟨_,_,_,h1,s2,h3.mono fun n hn'=>?_⟩
  rw[hst] at hn' s1
  simp only[qyd,qhc,hw,hn',s1]
  rw[kinfo_ok hk1 hxs h2,hst]
 | false =>
  simp only at hr
  rw[qcr] at hr
  have:=Qln.kapply_sk hk1 o.dst
  refine⟨_,_,_,hr,this.2,.of fun n=>?_⟩
  simp only[qyd,qhc,hw,this.1,hst,←qyx hk1]
theorem krunsD_ok (hc:qmy cfg tab) (hh:HOk h hn) {ops:List qbo}:∀ (l:List (Nat×Nat)) (infos:List qlb) {ks:KSt} {e:E} {K:KSt→E→Option R},ks.Ok→Qlo cfg h ops l infos ks e K=some r →
  ∃ k' e',K k' e'=some r∧k'.Ok∧Evl fun n=>Qhq (qhy cfg.b.sp tab n) (hn n) dep ops l infos ks.st e=some (k'.st,e'):=by
 intro l
 induction l with
 | nil=>intro infos ks e K hk hr;exact⟨ks,e,hr,hk,.of fun n=>rfl⟩
 | cons p rest ih =>
  obtain⟨i,bef⟩:=p
  intro infos ks e K hk hr
  simp only[Qlo] at hr
  split at hr
  ·rename_i o ho
   obtain⟨k1,e1,inf,hr,hk1,h1⟩:=kstepD_ok (dep:=dep) hc hh hk hr
   split at hr
   ·rename_i hall
    obtain⟨k2,e2,hr,hk2,h2⟩:=ih _ hk1 hr
    exact⟨k2,e2,hr,hk2,h1.mono2 h2 fun n a b=>by simp only[Qhq,ho,a,chk,hall,if_true,b]⟩
   ·cases hr
  ·cases hr
end Go.Ab


namespace Go.Ab
variable {ks:KSt}
theorem qmr {nt:Nat} {l:SpO} (h:qjq nt l) (d:Nat):(qdx nt l).getD d []=(qch l d).map KOb.ob:=by
 rw[List.getD_eq_getElem?_getD,denseO_get?]
 split
 ·rfl
 ·rw[h.get_ge (by omega)];rfl
theorem qlp (h:ks.Ok) (ds:List Nat):(qf9 ds ks).st=qgf ds ks.st∧(qf9 ds ks).Ok∧(qf9 ds ks).nt=ks.nt:=by
 have hall:(ds.all fun d=>(ks.st.objs.getD d []).isEmpty)=ds.all fun d=>(qch ks.objs d).isEmpty:=by
  congr 1
  funext d
  show ((qdx ks.nt ks.objs).getD d []).isEmpty=_
  rw[qmr h.ob]
  cases qch ks.objs d<;>rfl
 unfold qf9 qgf
 rw[hall]
 split
 ·exact⟨rfl,h,rfl⟩
 ·have h1:=Qjs (fun m=>ds.contains m.1) h
  have h2:=Qjr (fun m=>ds.contains m.1) h
  refine⟨?_,⟨h1.tm,h1.ob.sub (soKeep_sub _ _),h1.kp⟩,rfl⟩
  have e:qpo (fun m=>ds.contains m.1)=fun m=>if ds.contains m.1=true then some none else none:=rfl
  rw[e] at h2
  simp only
  rw[←h2]
  unfold KSt.st
  simp only
  congr 1
  refine qhm (by simp[qc4]) fun i hi=>?_
  rw[List.getElem?_map,List.getElem?_zipIdx,denseO_get?,if_pos hi,soGet_keep]
  simp only[Option.map_some,Nat.zero_add]
  cases ds.contains i<;>simp
theorem qqj {ds ds':List Nat} (h:∀ d,d∈ds↔d∈ds') (st:St):qgf ds st=qgf ds' st:=by
 have h1:∀ p:Nat→Bool,ds.all p=ds'.all p:=fun p=>by
  rw[Bool.eq_iff_iff,List.all_eq_true,List.all_eq_true]
  exact⟨fun a x hx=>a x ((h x).2 hx),fun a x hx=>a x ((h x).1 hx)⟩
 have h2:∀ i,ds.contains i=ds'.contains i:=fun i=>by
  rw[Bool.eq_iff_iff,List.contains_iff_mem,List.contains_iff_mem]
  exact h i
 unfold qgf
 simp only[h1,h2]
theorem qp8 {nm:Nm} {xs:List PV}:nm∈qbd xs↔∃ x∈xs,nm∈x.names:=by
 induction xs with
 | nil=>simp[qbd]
 | cons x xs ih=>simp[qbd,ih]
theorem qzr (h:ks.Ok) (nm:Nm):nm∈qbd ks.st.keep↔nm∈ks.keep.flatMap qf5:=by
 rw[qp8]
 show (∃ x∈ks.keep.flatMap (qc7 ks.nt),nm∈x.names)↔_
 simp only[List.mem_flatMap]
 constructor
 ·rintro ⟨x,⟨sp,hsp,hx⟩,hn⟩
  exact⟨sp,hsp,(qmq (h.kp sp hsp) nm).1 (qp8.2 ⟨x,hx,hn⟩)⟩
 ·rintro ⟨sp,hsp,hn⟩
  obtain⟨x,hx,hn⟩:=qp8.1 ((qmq (h.kp sp hsp) nm).2 hn)
  exact⟨x,⟨sp,hsp,hx⟩,hn⟩
theorem qni (h:ks.Ok) (d:Nat):d∈qh9 ks.st↔d∈qjm ks:=by
 have hR:∀ p:Nm→Bool,(qbd ks.st.tmps++qbd ks.st.keep++ks.st.objs.flatMap fun l=>l.flatMap Ob.names).all p=(qf5 ks.tmps++ks.keep.flatMap qf5++qjv ks.objs).all p:=by
  intro p
  have e1:∀ nm,nm∈qbd ks.st.tmps↔nm∈qf5 ks.tmps:=fun nm=>qmq h.tm nm
  have e2:=qzr h
  have e3:∀ nm,nm∈(ks.st.objs.flatMap fun l=>l.flatMap Ob.names)↔nm∈qjv ks.objs:=fun nm=>qt2 h.ob nm
  rw[Bool.eq_iff_iff,List.all_eq_true,List.all_eq_true]
  refine⟨fun a x hx=>a x ?_,fun a x hx=>a x ?_⟩
  ·simp only[List.mem_append] at hx ⊢
   rw[e1,e2,e3];exact hx
  ·simp only[List.mem_append] at hx ⊢
   rw[←e1,←e2,←e3];exact hx
 unfold qh9 qjm
 simp only[List.mem_filter,List.mem_range,List.mem_map,hR,Bool.and_eq_true]
 have hget:ks.st.objs.getD d []=(qch ks.objs d).map KOb.ob:=qmr h.ob d
 rw[hget]
 constructor
 ·rintro ⟨_,h1,h2⟩
  have hne:qch ks.objs d≠[]:=by intro e;rw[e] at h1;simp at h1
  refine⟨_,⟨qlc hne,?_,h2⟩,rfl⟩
  simpa using hne
 ·rintro ⟨p,⟨hp,h1,h2⟩,rfl⟩
  have:=h.ob.get_mem hp
  have hlt:=h.ob.lt p hp
  refine⟨?_,?_,h2⟩
  ·show p.1 < (qdx ks.nt ks.objs).length
   rw[qc4];exact hlt
  ·rw[this];simpa using h1
theorem qxv {R R':List Nm} (h:∀ nm,nm∈R↔nm∈R') (d:Nat):∀ n,qxw R d n=qxw R' d n
 | 0=>rfl
 | n+1=>by
  have e:R.contains (d,n)=R'.contains (d,n):=by
   rw[Bool.eq_iff_iff,List.contains_iff_mem,List.contains_iff_mem];exact h _
  simp only[qxw,e,qxv h d n]
theorem qyy {R:List Nm}:∀ {l:SpO} {p:Nat×List KOb},p∈qm2 R l→∃ q∈l,p.1=q.1∧∀ o∈p.2,o∈q.2:=by
 intro l
 induction l with
 | nil=>intro p hp;cases hp
 | cons q l ih =>
  obtain⟨j,u⟩:=q
  intro p hp
  simp only[qm2] at hp
  split at hp
  ·obtain⟨q,hq,h⟩:=ih hp
   exact⟨q,by simp[hq],h⟩
  ·rename_i v vs hv
   rcases List.mem_cons.1 hp with rfl | hp
   ·refine⟨(j,u),by simp,rfl,fun o ho=>?_⟩
    simp only at ho
    rw[←hv] at ho
    exact List.mem_of_mem_take ho
   ·obtain⟨q,hq,h⟩:=ih hp
    exact⟨q,by simp[hq],h⟩
theorem Qh0 {R:List Nm}:∀ (l:SpO),((qm2 R l).map (·.1)).Sublist (l.map (·.1)):=by
 intro l
 induction l with
 | nil=>exact .slnil
 | cons q l ih =>
  obtain⟨j,u⟩:=q
  simp only[qm2]
  split
  ·exact .cons _ ih
  ·exact .cons_cons _ ih
theorem qjq.trim {nt:Nat} {R:List Nm} {l:SpO} (h:qjq nt l):qjq nt (qm2 R l) where
 srt:=h.srt.sublist (Qh0 l)
 lt p hp:=by
  obtain⟨q,hq,e,_⟩:=qyy hp
  rw[e];exact h.lt q hq
 ok p hp o ho:=by
  obtain⟨q,hq,_,e⟩:=qyy hp
  exact h.ok q hq o (e o ho)
theorem soGet_trim {nt:Nat} {R:List Nm}:∀ {l:SpO},qjq nt l→∀ (i:Nat),qch (qm2 R l) i=(qch l i).take (qxw R i (qch l i).length):=by
 intro l
 induction l with
 | nil=>intro _ i;simp[qm2,qch]
 | cons q l ih =>
  obtain⟨j,u⟩:=q
  intro h i
  simp only[qm2]
  cases hij:Nat.beq i j with
  | true =>
   have hb:=Nat.eq_of_beq_eq_true hij
   subst hb
   have hrest:qch l i=[]:=by
    cases hq:qch l i with
    | nil=>rfl
    | cons x xs =>
     have hm:=qlc (l:=l) (i:=i) (by rw[hq];simp)
     have h1:=(List.pairwise_cons.1 h.srt).1 i (List.mem_map.2 ⟨_,hm,rfl⟩)
     exact absurd h1 (Nat.lt_irrefl i)
   have hget:qch ((i,u) :: l) i=u:=by simp[qch,hij]
   rw[hget]
   split
   ·rename_i hv
    rw[ih h.tail i,hrest,hv];rfl
   ·rename_i v vs hv
    rw[hv]
    simp[qch,hij]
  | false =>
   have hget:qch ((j,u) :: l) i=qch l i:=by simp[qch,hij]
   rw[hget,←ih h.tail i]
   split
   ·rfl
   ·simp[qch,hij]
theorem ktrim_st (h:ks.Ok):(ktrim ks).st=trim ks.st∧(ktrim ks).Ok∧(ktrim ks).nt=ks.nt:=by
 refine⟨?_,⟨h.tm,h.ob.trim,h.kp⟩,rfl⟩
 have hR:∀ nm,nm∈(qbd ks.st.tmps++qbd ks.st.keep++ks.st.objs.flatMap fun l=>l.flatMap Ob.names)↔nm∈(qf5 ks.tmps++ks.keep.flatMap qf5++qjv ks.objs):=by
  intro nm
  have e1:nm∈qbd ks.st.tmps↔nm∈qf5 ks.tmps:=qmq h.tm nm
  have e2:=qzr h nm
  have e3:nm∈(ks.st.objs.flatMap fun l=>l.flatMap Ob.names)↔nm∈qjv ks.objs:=qt2 h.ob nm
  simp only[List.mem_append]
  rw[e1,e2,e3]
 unfold ktrim trim
 show ({tmps:=_,objs:=qdx ks.nt _,keep:=_}:St)={tmps:=_,objs:=_,keep:=_}
 congr 1
 refine qhm (by simp[KSt.st,qc4]) fun i hi=>?_
 rw[List.getElem?_map,List.getElem?_zipIdx]
 show (((qdx ks.nt ks.objs)[i]?).map _).map _=_
 rw[denseO_get?,if_pos hi,soGet_trim h.ob]
 simp only[Option.map_some,Nat.zero_add,Option.some.injEq,List.length_map,List.map_take]
 rw[qxv hR]
theorem Qcn (h:ks.Ok) (p:Nat→Bool):({ks with tmps:=qju p ks.tmps}:KSt).st={ks.st with tmps:=ks.st.tmps.zipIdx.map fun (v,i)=>if p i then v else .undef}∧({ks with tmps:=qju p ks.tmps}:KSt).Ok:=by
 refine⟨?_,h.tm.sub (spKeep_sub _ _),h.ob,h.kp⟩
 unfold KSt.st
 simp only
 congr 1
 refine qj6 (by simp[qbu]) fun i hi=>?_
 rw[List.getElem?_map,List.getElem?_zipIdx,dense_get?,if_pos hi,spGet_keep]
 simp only[Option.map_some,Nat.zero_add]
 cases p i<;>rfl
theorem qvg (h:ks.Ok) (lv:Option (List Nat)):(Qjp lv ks).st=Qhp lv ks.st∧(Qjp lv ks).Ok:=by
 cases lv with
 | none=>exact⟨rfl,h⟩
 | some l =>
  unfold Qjp Qhp qf2
  simp only
  obtain⟨h1,h2⟩:=Qcn h (fun i=>l.contains i)
  obtain⟨h3,h4,_⟩:=qlp h2 (qjm {ks with tmps:=qju (fun i=>l.contains i) ks.tmps})
  refine⟨?_,h4⟩
  rw[h3,←h1]
  exact qqj (fun d=>(qni h2 d).symm) _
theorem qyk {v:PV}:qc6 (.cv v) (.cv v)=[v]:=rfl
theorem Qjj {l:Sp} (h:qsk (qga l l)=true) {i:Nat} {v:PV} (hm:(i,KV.cv v)∈l):qcw v=false:=by
 unfold qsk at h
 induction l with
 | nil=>cases hm
 | cons p l ih =>
  obtain⟨k,u⟩:=p
  simp only[qga,List.all_append,Bool.and_eq_true] at h
  rcases List.mem_cons.1 hm with e | hm
  ·cases e
   have:=h.1
   rw[qyk] at this
   simpa using this
  ·exact ih h.2 hm
theorem undefs_iff {k0:KSt} (h0:k0.Ok) (hu:qsk (qga k0.tmps k0.tmps)=true) {i:Nat} (hi:i < k0.nt):(undefs k0.st).contains i=!qqr k0.tmps i:=by
 have hmem:i∈undefs k0.st↔qcw (qb7 k0.tmps i).pv=true:=by
  unfold undefs
  simp only[List.mem_map,List.mem_filter]
  constructor
  ·rintro ⟨⟨v,j⟩,⟨hv,hq⟩,rfl⟩
   have:=List.mem_zipIdx hv
   rw[List.mem_zipIdx_iff_getElem?] at hv
   simp only at hv
   have e:(qc7 k0.nt k0.tmps)[j]?=some v:=hv
   rw[dense_get?,if_pos hi] at e
   cases e
   exact hq
  ·intro hq
   refine⟨((qb7 k0.tmps i).pv,i),⟨?_,hq⟩,rfl⟩
   rw[List.mem_zipIdx_iff_getElem?]
   show (qc7 k0.nt k0.tmps)[i]?=_
   rw[dense_get?,if_pos hi]
 rw[Bool.eq_iff_iff,List.contains_iff_mem,hmem]
 cases hh:qqr k0.tmps i with
 | false =>
  have:qb7 k0.tmps i=.un:=by
   apply Classical.byContradiction
   intro hne
   rw[(h0.tm.has_iff i).2 hne] at hh;cases hh
  simp[this,KV.pv,qcw]
 | true =>
  have hne:=(h0.tm.has_iff i).1 hh
  have hm:=qm1 hne
  simp only[Bool.not_true,Bool.false_eq_true,iff_false]
  intro hq
  cases hg:qb7 k0.tmps i with
  | un=>exact hne hg
  | cv v =>
   rw[hg] at hm hq
   have:=Qjj hu hm
   simp only[KV.pv] at hq
   rw[this] at hq;cases hq
  | _=>rw[hg] at hq;simp[KV.pv,qcw] at hq
theorem kdrop_st {k0:KSt} (h0:k0.Ok) (hu:qsk (qga k0.tmps k0.tmps)=true) (h:ks.Ok) (hnt:ks.nt=k0.nt):(Qf8 k0 ks).st=drop (undefs k0.st) ks.st∧(Qf8 k0 ks).Ok∧(Qf8 k0 ks).nt=ks.nt:=by
 unfold Qf8 drop
 simp only
 obtain⟨h1,h2⟩:=Qcn h (qqr k0.tmps)
 obtain⟨h3,h4,h5⟩:=qlp h2 (qjm {ks with tmps:=qju (qqr k0.tmps) ks.tmps})
 refine⟨?_,h4,h5⟩
 have h6:qhe (undefs k0.st) ks.st=({ks with tmps:=qju (qqr k0.tmps) ks.tmps}:KSt).st:=by
  rw[h1]
  unfold qhe
  congr 1
  apply List.map_congr_left
  rintro ⟨v,i⟩ hm
  have hi:i < k0.nt:=by
   rw[List.mem_zipIdx_iff_getElem?] at hm
   have e:(qc7 ks.nt ks.tmps)[i]?=some v:=hm
   rw[dense_get?] at e
   split at e
   ·omega
   ·cases e
  simp only[undefs_iff h0 hu hi]
  cases qqr k0.tmps i<;>rfl
 rw[h3,h6]
 exact qqj (fun d=>(qni h2 d).symm) _
theorem Qf4 (h:ks.Ok) (t:Nat):qqi ks.st t=qtp ks t:=by
 unfold qqi qtp
 show (match (qdx ks.nt ks.objs)[t]? with | some []=>true | _=>false)=_
 rw[denseO_get?]
 by_cases ht:t < ks.nt
 ·rw[if_pos ht]
  have:Nat.blt t ks.nt=true:=by simpa[Nat.blt_eq] using ht
  rw[this]
  cases qch ks.objs t<;>rfl
 ·rw[if_neg ht]
  have:Nat.blt t ks.nt=false:=by
   cases hb:Nat.blt t ks.nt with
   | false=>rfl
   | true=>exact absurd (by simpa[Nat.blt_eq] using hb) ht
  rw[this];rfl
theorem Qf5 {t:Nat} (h:qtp ks t=true):t < ks.nt:=by
 unfold qtp at h
 simp only[Bool.and_eq_true,Nat.blt_eq] at h
 exact h.1
theorem qtm (h:ks.Ok) (t:Nat) (nm:Nm):(qll t ks nm).st=(if nm≠(t,0)∧qqi ks.st t=true then
   match qbf ks.st.objs nm with
   | some ob =>
    let f:Nm→Nm:=fun m=>if m=nm then (t,0) else m
    let objs:=ks.st.objs.map (·.map (Ob.ren f))
    {tmps:=qf1 f ks.st.tmps,objs:=(qb9 objs nm qd5).set t [ob.ren f],keep:=qf1 f ks.st.keep}
   | none=>ks.st
  else ks.st)∧(qll t ks nm).Ok∧(qll t ks nm).nt=ks.nt:=by
 unfold qll
 rw[Qf4 h]
 by_cases hc:nm≠(t,0)∧qtp ks t=true
 ·rw[if_pos hc,if_pos hc,qja h]
  cases hl:qck ks.objs nm with
  | none=>exact⟨rfl,h,rfl⟩
  | some ob =>
   simp only[Option.map_some]
   have hoo:=qcx h.ob hl
   have ht:=Qf5 hc.2
   let f:Nm→Nm:=fun m=>if m=nm then (t,0) else m
   have hm:qjq ks.nt (qm3 (KOb.ren f) ks.objs):=h.ob.map fun x hx=>KOb.ren_ok f hx
   refine⟨?_,⟨h.tm.map fun x hx=>KV.ren_ok f hx,(hm.kput nm (o:=qq6) rfl).put ht fun o ho=>by
    simp only[List.mem_singleton] at ho;subst ho;exact KOb.ren_ok f hoo,fun sp hsp=>?_⟩,by trivial⟩
   ·unfold KSt.st
    simp only
    rw[qrr h.tm,qhl,qj7 hm,qpm h.ob (fun o ho=>KOb.ren_ob f ho),
     qvl (g:=qf1 f) rfl (qv9 f) fun sp hsp=>qrr (h.kp sp hsp) f]
    have hren:=KOb.ren_ob (fun m=>if m=nm then (t,0) else m) hoo
    simp only[List.map_cons,List.map_nil,hren]
    rfl
   ·obtain⟨q,hq,rfl⟩:=List.mem_map.1 hsp
    exact (h.kp q hq).map fun x hx=>KV.ren_ok f hx
 ·rw[if_neg hc,if_neg hc];exact⟨rfl,h,rfl⟩
theorem krehome_st (h:ks.Ok) (t:Nat):(qkt t ks).st=qjc t ks.st∧(qkt t ks).Ok∧(qkt t ks).nt=ks.nt:=by
 have hget:ks.st.tmps.getD t .undef=(qb7 ks.tmps t).pv:=qhk h.tm t
 have hokt:=h.tm.get_ok t
 unfold qkt qjc
 rw[hget]
 cases hg:qb7 ks.tmps t with
 | arr nm k o n=>exact qtm h t nm
 | wit nm=>exact qtm h t nm
 | cv v =>
  rw[hg] at hokt
  have hv:okV v=true:=hokt
  simp only[KV.pv]
  cases v<;>first | (simp[okV] at hv;done) | exact⟨rfl,h,trivial⟩
 | _=>exact⟨rfl,h,rfl⟩
theorem qtg (h:ks.Ok) (d:Nat):ks.st.objs.getD d []=(qch ks.objs d).map KOb.ob:=qmr h.ob d
theorem Qf2 (h:ks.Ok) {nm:Nm} {ty:Nat} {cs:List KV} (hl:qck ks.objs nm=some (.cells ty cs)) (i k:Nat):(qzo nm ty cs i k ks).Ok∧(qzo nm ty cs i k ks).nt=ks.nt∧(qzo nm ty cs i k ks).st={ks.st with objs:=ks.st.objs.set nm.1 ((ks.st.objs.getD nm.1 []).set nm.2 (.cells ty ((pvL cs).set i (.arr (nm.1,(ks.st.objs.getD nm.1 []).length) k 0 0)))++[.arr k 0 []])}:=by
 have hlt:=qvh h.ob hl
 have hcs:qfp cs:=qcx h.ob hl
 have hset:qfp (cs.set i (.arr (nm.1,(qch ks.objs nm.1).length) k 0 0)):=qcq.2 fun x hx=>by
  rcases List.mem_or_eq_of_mem_set hx with hx | hx
  ·exact qcq.1 hcs x hx
  ·subst hx;trivial
 unfold qzo
 refine⟨⟨h.tm,h.ob.put hlt fun o ho=>?_,h.kp⟩,rfl,?_⟩
 ·rcases List.mem_append.1 ho with ho | ho
  ·rcases List.mem_or_eq_of_mem_set ho with ho | ho
   ·exact h.ob.get_ok ho
   ·subst ho;exact hset
  ·simp only[List.mem_singleton] at ho;subst ho;rfl
 ·rw[qtg h]
  unfold KSt.st
  simp only
  rw[qhl,List.map_append,List.map_set]
  simp only[List.map_cons,List.map_nil,KOb.ob,qft,List.map_set,KV.pv,List.length_map]
theorem qto (h:ks.Ok) (nm m:Nm) (hlt:nm.1 < ks.nt):(qlo nm m ks).Ok∧(qlo nm m ks).nt=ks.nt∧(qlo nm m ks).st=(if m.1≠nm.1 then
   match qbf ks.st.objs m with
   | some ob =>
    let f:Nm→Nm:=fun x=>if x=m then (nm.1,(ks.st.objs.getD nm.1 []).length) else x
    let objs:=qb9 (ks.st.objs.map (·.map (Ob.ren f))) m qd5
    {tmps:=qf1 f ks.st.tmps,objs:=objs.set nm.1 (objs.getD nm.1 []++[ob.ren f]),keep:=qf1 f ks.st.keep}
   | none=>ks.st
  else ks.st):=by
 unfold qlo
 by_cases hm:m.1≠nm.1
 ·rw[if_pos hm,if_pos hm,qja h]
  cases hl:qck ks.objs m with
  | none=>exact⟨h,rfl,rfl⟩
  | some ob =>
   simp only[Option.map_some]
   have hoo:=qcx h.ob hl
   rw[qtg h,List.length_map]
   generalize hf:(fun x:Nm=>if x=m then (nm.1,(qch ks.objs nm.1).length) else x)=f
   have hmp:qjq ks.nt (qm3 (KOb.ren f) ks.objs):=h.ob.map fun x hx=>KOb.ren_ok f hx
   have hkp:qjq ks.nt (kput (qm3 (KOb.ren f) ks.objs) m qq6):=hmp.kput m (o:=qq6) rfl
   refine⟨⟨h.tm.map fun x hx=>KV.ren_ok f hx,hkp.put hlt fun o ho=>?_,fun sp hsp=>?_⟩,by trivial,?_⟩
   ·rcases List.mem_append.1 ho with ho | ho
    ·exact hkp.get_ok ho
    ·simp only[List.mem_singleton] at ho;subst ho;exact KOb.ren_ok f hoo
   ·obtain⟨q,hq,rfl⟩:=List.mem_map.1 hsp
    exact (h.kp q hq).map fun x hx=>KV.ren_ok f hx
   ·have hobj:qdx ks.nt (kput (qm3 (KOb.ren f) ks.objs) m qq6)=qb9 (ks.st.objs.map (·.map (Ob.ren f))) m qd5:=by
     rw[qj7 hmp,qpm h.ob (fun o ho=>KOb.ren_ob f ho)]
     rfl
    rw[←hobj,qmr hkp]
    unfold KSt.st
    simp only
    rw[qrr h.tm,qhl,qvl (g:=qf1 f) rfl (qv9 f) fun sp hsp=>qrr (h.kp sp hsp) f]
    have hren:=KOb.ren_ob f hoo
    simp only[List.map_append,List.map_cons,List.map_nil,hren]
 ·rw[if_neg hm,if_neg hm];exact⟨h,rfl,rfl⟩
theorem Qf3 {R:Type} {r:R} (h:ks.Ok) {nm:Nm} {ty:Nat} {cs:List KV} (hl:qck ks.objs nm=some (.cells ty cs)) {i k:Nat} {K:KSt→Option R} (hr:qww nm ty cs i k ks K=some r):∃ k',K k'=some r∧k'.Ok∧k'.nt=ks.nt∧k'.st=qph nm ty (pvL cs) i k ks.st:=by
 have hlt:=qvh h.ob hl
 have hcs:qfp cs:=qcx h.ob hl
 unfold qww at hr
 unfold qph
 simp only[pvL_get?]
 cases hc:cs[i]? with
 | none=>rw[hc] at hr;exact⟨_,hr,h,rfl,rfl⟩
 | some x =>
  rw[hc] at hr
  cases x with
  | nils =>
   obtain⟨a,b,c⟩:=Qf2 h hl i k
   exact⟨_,hr,a,b,c⟩
  | arr m _ _ _ =>
   obtain⟨a,b,c⟩:=qto h nm m hlt
   exact⟨_,hr,a,b,c⟩
  | wit m =>
   obtain⟨a,b,c⟩:=qto h nm m hlt
   exact⟨_,hr,a,b,c⟩
  | cv v =>
   have hv:okV v=true:=qcq.1 hcs _ (List.mem_of_getElem? hc)
   simp only[Option.map_some,KV.pv]
   unfold nilO at hr
   obtain⟨a,b,c⟩:=Qf2 h hl i k
   cases v<;>first | (simp[okV] at hv;done) | exact⟨_,hr,a,b,c⟩ | (cases hr;done)
  | _=>exact⟨_,hr,h,rfl,rfl⟩
theorem kgrowC_st {R:Type} {r:R} (h:ks.Ok) {x off k:Nat} {K:KSt→Option R} (hr:kgrowC x off k ks K=some r):∃ k',K k'=some r∧k'.Ok∧k'.nt=ks.nt∧k'.st=growC x off k ks.st:=by
 have hget:ks.st.tmps.getD x .undef=(qb7 ks.tmps x).pv:=qhk h.tm x
 have hokt:=h.tm.get_ok x
 unfold kgrowC at hr
 unfold growC
 rw[hget]
 cases hg:qb7 ks.tmps x with
 | ref nm o =>
  rw[hg] at hr
  simp only[KV.pv] at hr ⊢
  rw[qja h]
  cases hl:qck ks.objs nm with
  | none=>rw[hl] at hr;exact⟨_,hr,h,rfl,rfl⟩
  | some ob =>
   rw[hl] at hr
   cases ob with
   | cells ty cs=>exact Qf3 h hl hr
   | whole ty v =>
    have hv:okV v=true:=qcx h.ob hl
    have hvl:qcy (qkd v)=true:=qcb hv
    simp only[Option.map_some,KOb.ob] at hr ⊢
    unfold qfl at hr
    cases hn:Qcb v (o+off) with
    | false=>rw[hn] at hr;cases hr
    | true =>
     rw[hn] at hr
     refine⟨_,hr,h,rfl,?_⟩
     unfold Qcb at hn
     unfold qph
     show ks.st=match (qkd v)[o+off]? with | some .nilS=>_ | some (.arr m _ _ _)=>_ | _=>_
     have e:qkd v=v.cells:=rfl
     rw[e] at hvl ⊢
     cases hc:v.cells[o+off]? with
     | none=>rfl
     | some y =>
      rw[hc] at hn
      have hy:=qhs hvl hc
      cases y<;>first | (simp at hn;done) | (simp[okV] at hy;done) | rfl
   | _=>exact⟨_,hr,h,rfl,rfl⟩
 | cv v =>
  rw[hg] at hr hokt
  have hv:okV v=true:=hokt
  simp only[KV.pv]
  cases v<;>first | (simp[okV] at hv;done) | exact⟨_,hr,h,rfl,rfl⟩
 | _=>rw[hg] at hr;exact⟨_,hr,h,rfl,rfl⟩
theorem kgrow_st {R:Type} {r:R} (h:ks.Ok) {t k:Nat} {K:KSt→Option R} (hr:kgrow1 t k ks K=some r):∃ k',K k'=some r∧k'.Ok∧k'.nt=ks.nt∧k'.st=qst t k ks.st:=by
 have hget:ks.st.tmps.getD t .undef=(qb7 ks.tmps t).pv:=qhk h.tm t
 unfold kgrow1 at hr
 unfold qst
 by_cases hb:qjj≤t
 ·rw[if_pos hb] at hr ⊢
  exact kgrowC_st h hr
 rw[if_neg hb] at hr ⊢
 rw[hget]
 cases hg:qb7 ks.tmps t with
 | nils =>
  rw[hg] at hr
  simp only[KV.pv]
  rw[Qf4 h]
  by_cases hc:qtp ks t=true
  ·rw[if_pos hc] at hr
   rw[if_pos hc]
   have ht:=Qf5 hc
   refine⟨_,hr,⟨h.tm.put ht trivial rfl,h.ob.put ht fun o ho=>?_,h.kp⟩,rfl,?_⟩
   ·simp only[List.mem_singleton] at ho;subst ho;rfl
   ·unfold KSt.st
    simp only
    rw[qrs,qhl]
    rfl
  ·rw[if_neg hc] at hr
   rw[if_neg hc]
   exact⟨_,hr,h,rfl,rfl⟩
 | cv v =>
  rw[hg] at hr
  simp only at hr
  unfold notNil at hr
  simp only[KV.pv]
  cases v<;>first | exact⟨_,hr,h,rfl,rfl⟩ | cases hr
 | _=>rw[hg] at hr;exact⟨_,hr,h,rfl,rfl⟩
theorem kgrows_st {R:Type} {r:R}:∀ (l:List (Nat×Nat)) {ks:KSt} {K:KSt→Option R},ks.Ok→Qlq l ks K=some r→∃ k',K k'=some r∧k'.Ok∧k'.nt=ks.nt∧k'.st=l.foldl (fun st (p:Nat×Nat)=>qst p.1 p.2 st) ks.st:=by
 intro l
 induction l with
 | nil=>intro ks K h hr;exact⟨ks,hr,h,rfl,rfl⟩
 | cons p l ih =>
  obtain⟨t,k⟩:=p
  intro ks K h hr
  simp only[Qlq] at hr
  obtain⟨k1,hr,h1,n1,s1⟩:=kgrow_st h hr
  obtain⟨k2,hr,h2,n2,s2⟩:=ih h1 hr
  exact⟨k2,hr,h2,n2.trans n1,by rw[s2,s1];rfl⟩
theorem Qjq:∀ (l:List Nat) {ks:KSt},ks.Ok→(l.foldl (fun ks t=>qkt t ks) ks).Ok∧(l.foldl (fun ks t=>qkt t ks) ks).nt=ks.nt∧(l.foldl (fun ks t=>qkt t ks) ks).st=l.foldl (fun st t=>qjc t st) ks.st:=by
 intro l
 induction l with
 | nil=>intro ks h;exact⟨h,rfl,rfl⟩
 | cons t l ih =>
  intro ks h
  simp only[List.foldl_cons]
  obtain⟨a,b,c⟩:=krehome_st h t
  obtain⟨d,e,f⟩:=ih b
  exact⟨d,e.trans c,by rw[f,a]⟩
theorem Qdt (st:St):qhe (undefs st) st=st:=by
 obtain⟨t,o,k⟩:=st
 unfold qhe
 congr 1
 apply List.ext_getElem?
 intro i
 rw[List.getElem?_map,List.getElem?_zipIdx]
 cases hg:t[i]? with
 | none=>rfl
 | some v =>
  simp only[Option.map_some,Nat.zero_add,Option.some.injEq]
  split
  ·rename_i hc
   rw[List.contains_iff_mem] at hc
   unfold undefs at hc
   simp only[List.mem_map,List.mem_filter] at hc
   obtain⟨⟨u,j⟩,⟨hm,hu⟩,he⟩:=hc
   rw[List.mem_zipIdx_iff_getElem?] at hm
   simp only at he hm hu
   subst he
   rw[hg] at hm
   cases hm
   cases v<;>simp_all [qcw]
  ·rfl
theorem Qcm {R:Type} {r:R} (h:ks.Ok) {asg:List Nat} {grow:List (Nat×Nat)} {K:KSt→Option R} (hr:knorm asg grow ks K=some r):∃ k',K k'=some r∧k'.Ok∧k'.nt=ks.nt∧k'.st=norm asg grow ks.st:=by
 unfold knorm at hr
 obtain⟨a,b,c⟩:=Qjq asg h
 obtain⟨k',hr,h1,n1,s1⟩:=kgrows_st grow a hr
 obtain⟨d1,d2,d3⟩:=qlp h1 (qjm k')
 refine⟨_,hr,d2,d3.trans (n1.trans b),?_⟩
 have e:k'.st=Qcc asg grow ks.st:=by rw[s1,c];rfl
 unfold norm drop
 rw[d1,←e,Qdt]
 exact qqj (fun d=>(qni h1 d).symm) _
theorem qxm:∀ {nt:Nat} (ps xs:Sp),Qcz ps xs=true→qkk nt ps→qkk nt xs→∀ (vs:List PV) (i:Nat),Seg vs i (qga ps xs) →
  (∀ j,(qb7 (qh2 ps vs i).1 j).pv=(qb7 xs j).pv)∧qkk nt (qh2 ps vs i).1∧(qh2 ps vs i).1.map (·.1)=ps.map (·.1)∧(qh2 ps vs i).2=i+(qga ps xs).length
 | nt,[],[],_,_,_,vs,i,_=>⟨fun _=>rfl,.nil nt,rfl,rfl⟩
 | _,[],_ :: _,h,_,_,_,_,_=>by simp[Qcz] at h
 | _,_ :: _,[],h,_,_,_,_,_=>by simp[Qcz] at h
 | nt,(j1,p) :: ps,(j2,x) :: xs,h,hp,hx,vs,i,hs=>by
  simp only[Qcz,Bool.and_eq_true] at h
  simp only[qga] at hs
  have hj:=Nat.eq_of_beq_eq_true h.1
  subst hj
  obtain⟨a,b,c⟩:=Qj4 p x h.2.1 (hx.ok (j1,x) (by simp)) vs i hs.left
  obtain⟨a',b',k',c'⟩:=qxm ps xs h.2.2 hp.tail hx.tail vs (fill p vs i).2 (by rw[c];exact hs.right)
  refine⟨?_,⟨?_,?_,?_,?_⟩,by simp[qh2,k'],?_⟩
  ·intro j
   simp only[qh2,qb7]
   cases Nat.beq j j1 with
   | true=>exact a
   | false=>exact a' j
  ·simp only[qh2,List.map_cons]
   rw[k']
   exact hp.srt
  ·intro q hq
   simp only[qh2,List.mem_cons] at hq
   rcases hq with rfl | hq
   ·exact hp.lt (j1,p) (by simp)
   ·exact b'.lt q hq
  ·intro q hq
   simp only[qh2,List.mem_cons] at hq
   rcases hq with rfl | hq
   ·exact b
   ·exact b'.ok q hq
  ·intro q hq
   simp only[qh2,List.mem_cons] at hq
   rcases hq with rfl | hq
   ·exact un_fill (hp.nu (j1,p) (by simp))
   ·exact b'.nu q hq
  ·simp only[qh2,qga,List.length_append]
   rw[c',c]
   omega
theorem Qgr:∀ {nt:Nat} (ps xs:SpO),Qgk ps xs=true→qjq nt ps→qjq nt xs→∀ (vs:List PV) (i:Nat),Seg vs i (qn9 ps xs) →
  (∀ j,(qch (qlw ps vs i).1 j).map KOb.ob=(qch xs j).map KOb.ob)∧qjq nt (qlw ps vs i).1∧(qlw ps vs i).1.map (·.1)=ps.map (·.1)∧(qlw ps vs i).2=i+(qn9 ps xs).length
 | nt,[],[],_,_,_,vs,i,_=>⟨fun _=>rfl,.nil nt,rfl,rfl⟩
 | _,[],_ :: _,h,_,_,_,_,_=>by simp[Qgk] at h
 | _,_ :: _,[],h,_,_,_,_,_=>by simp[Qgk] at h
 | nt,(j1,p) :: ps,(j2,x) :: xs,h,hp,hx,vs,i,hs=>by
  simp only[Qgk,Bool.and_eq_true] at h
  simp only[qn9] at hs
  have hj:=Nat.eq_of_beq_eq_true h.1
  subst hj
  obtain⟨a,b,c⟩:=qsy p x h.2.1 (hx.ok (j1,x) (by simp)) vs i hs.left
  obtain⟨a',b',k',c'⟩:=Qgr ps xs h.2.2 hp.tail hx.tail vs (qc0 p vs i).2 (by rw[c];exact hs.right)
  refine⟨?_,⟨?_,?_,?_⟩,by simp[qlw,k'],?_⟩
  ·intro j
   simp only[qlw,qch]
   cases Nat.beq j j1 with
   | true=>exact a
   | false=>exact a' j
  ·simp only[qlw,List.map_cons]
   rw[k']
   exact hp.srt
  ·intro q hq
   simp only[qlw,List.mem_cons] at hq
   rcases hq with rfl | hq
   ·exact hp.lt (j1,p) (by simp)
   ·exact b'.lt q hq
  ·intro q hq
   simp only[qlw,List.mem_cons] at hq
   rcases hq with rfl | hq
   ·exact b
   ·exact b'.ok q hq
  ·simp only[qlw,qn9,List.length_append]
   rw[c',c]
   omega
theorem Qgs:∀ {nt:Nat} (ps xs:List Sp),Qgl ps xs=true→(∀ p∈ps,qkk nt p)→(∀ x∈xs,qkk nt x)→∀ (vs:List PV) (i:Nat),Seg vs i (qve ps xs) →
  (qxo ps vs i).1.flatMap (qc7 nt)=xs.flatMap (qc7 nt)∧(∀ p∈(qxo ps vs i).1,qkk nt p)
 | nt,[],[],_,_,_,vs,i,_=>⟨rfl,by simp[qxo]⟩
 | _,[],_ :: _,h,_,_,_,_,_=>by simp[Qgl] at h
 | _,_ :: _,[],h,_,_,_,_,_=>by simp[Qgl] at h
 | nt,p :: ps,x :: xs,h,hp,hx,vs,i,hs=>by
  simp only[Qgl,Bool.and_eq_true] at h
  simp only[qve] at hs
  obtain⟨a,b,_,c⟩:=qxm p x h.1 (hp p (by simp)) (hx x (by simp)) vs i hs.left
  obtain⟨a',b'⟩:=Qgs ps xs h.2 (fun q hq=>hp q (by simp[hq])) (fun q hq=>hx q (by simp[hq])) vs (qh2 p vs i).2 (by rw[c];exact hs.right)
  refine⟨?_,?_⟩
  ·simp only[qxo,List.flatMap_cons,a']
   congr 1
   unfold qc7
   exact List.map_congr_left fun j _=>a j
  ·intro q hq
   simp only[qxo,List.mem_cons] at hq
   rcases hq with rfl | hq
   ·exact b
   ·exact b' q hq
theorem qxz {β:Type}:∀ {l:List Bool} {a:Option β} {r:β},chks l a=some r→l.all id=true∧a=some r
 | [],_,_,h=>⟨rfl,h⟩
 | b :: l,a,r,h=>by
  obtain⟨h1,h2⟩:=qbj h
  obtain⟨h3,h4⟩:=qxz h2
  exact⟨by simp[h1,h3],h4⟩
mutual
theorem Qc1:∀ {p x:KV},qlv p x=true→(qwf p x).all id=true→qgu p x=true
 | .un,x,h,_=>by simpa[qlv,qgu] using h
 | .sk,x,h,_=>by simpa[qlv,qgu] using h
 | .yld _,x,h,_=>by simpa[qlv,qgu] using h
 | .ref _ _,x,h,_=>by simpa[qlv,qgu] using h
 | .aref _ _ _ _,x,h,_=>by simpa[qlv,qgu] using h
 | .mp _,x,h,_=>by simpa[qlv,qgu] using h
 | .it _,x,h,_=>by simpa[qlv,qgu] using h
 | .wit _,x,h,_=>by simpa[qlv,qgu] using h
 | .lit _,x,h,_=>by simpa[qlv,qgu] using h
 | .nils,x,h,_=>by simpa[qlv,qgu] using h
 | .cv _,x,h,_=>by simpa[qlv,qgu] using h
 | .arr nm k o n,x,h,ho=>by
  cases x<;>simp only[qlv,Bool.false_eq_true] at h
  simp only[qwf,List.all_cons,List.all_nil,Bool.and_true,id,eqOff] at ho
  simp only[qgu,h,ho,Bool.and_self]
 | .fn f cap,x,h,ho=>by
  cases x<;>simp only[qlv,Bool.false_eq_true,Bool.and_eq_true] at h
  simp only[qgu,h.1,qri h.2 ho,Bool.and_self]
 | .tup xs,x,h,ho=>by
  cases x<;>simp only[qlv,Bool.false_eq_true] at h
  exact qri h ho
 | .agg cs,x,h,ho=>by
  unfold qlv at h
  unfold qgu
  split
  ·rename_i hc;rw[if_pos hc] at h;exact h
  ·rename_i hc
   rw[if_neg hc] at h
   cases x<;>simp only[Bool.false_eq_true] at h
   exact qri h ho
 | .iface t y,x,h,ho=>by
  unfold qlv at h
  unfold qgu
  split
  ·rename_i hc;rw[if_pos hc] at h;exact h
  ·rename_i hc
   rw[if_neg hc] at h
   cases x<;>simp only[Bool.false_eq_true,Bool.and_eq_true] at h
   simp only[h.1,Qc1 h.2 ho,Bool.and_self]
theorem qri:∀ {p x:List KV},Qc2 p x=true→(Qb9 p x).all id=true→qx8 p x=true
 | [],x,h,_=>by cases x<;>simpa[Qc2,qx8] using h
 | p :: ps,[],h,_=>by simp[Qc2] at h
 | p :: ps,x :: xs,h,ho=>by
  simp only[Qc2,Bool.and_eq_true] at h
  simp only[Qb9,List.all_append,Bool.and_eq_true] at ho
  simp only[qx8,Qc1 h.1 ho.1,qri h.2 ho.2,Bool.and_self]
end
mutual
theorem qsi:∀ (x:KV),(qwf x x).all id=true
 | .un | .sk | .yld _ | .ref _ _ | .aref _ _ _ _ | .mp _ | .it _ | .wit _ | .lit _ | .nils | .cv _=>rfl
 | .arr nm k o n=>by simp[qwf,eqOff]
 | .fn f cap=>by simp only[qwf];exact qlh cap
 | .tup xs=>by simp only[qwf];exact qlh xs
 | .agg cs=>by simp only[qwf];exact qlh cs
 | .iface t y=>by simp only[qwf];exact qsi y
theorem qlh:∀ (x:List KV),(Qb9 x x).all id=true
 | []=>rfl
 | x :: xs=>by simp only[Qb9,List.all_append,qsi x,qlh xs,Bool.and_self]
end
theorem fit0Ob_ok {p x:KOb} (h:fit0Ob p x=true) (ho:(offsOb p x).all id=true):qjf p x=true:=by
 cases p with
 | cells ty cs =>
  cases x<;>simp only[fit0Ob,Bool.false_eq_true,Bool.and_eq_true] at h
  simp only[qjf,h.1,qri h.2 ho,Bool.and_self]
 | whole ty v=>exact h
 | arr k t xs=>exact h
 | map es=>exact h
 | siter s p=>exact h
theorem Qji (x:KOb):(offsOb x x).all id=true:=by cases x<;>first | exact qlh _ | rfl
theorem qz3:∀ {p x:List KOb},qsw p x=true→(qsj p x).all id=true→qg3 p x=true
 | [],[],_,_=>rfl
 | [],_ :: _,h,_=>by simp[qsw] at h
 | _ :: _,[],h,_=>by simp[qsw] at h
 | p :: ps,x :: xs,h,ho=>by
  simp only[qsw,Bool.and_eq_true] at h
  simp only[qsj,List.all_append,Bool.and_eq_true] at ho
  simp only[qg3,fit0Ob_ok h.1 ho.1,qz3 h.2 ho.2,Bool.and_self]
theorem qtj:∀ (x:List KOb),(qsj x x).all id=true
 | []=>rfl
 | x :: xs=>by simp only[qsj,List.all_append,Qji x,qtj xs,Bool.and_self]
theorem qxj:∀ {p x:Sp},qxk p x=true→(qwg p x).all id=true→Qcz p x=true
 | [],[],_,_=>rfl
 | [],_ :: _,h,_=>by simp[qxk] at h
 | _ :: _,[],h,_=>by simp[qxk] at h
 |(i,p) :: ps,(j,x) :: xs,h,ho=>by
  simp only[qxk,Bool.and_eq_true] at h
  simp only[qwg,List.all_append,Bool.and_eq_true] at ho
  simp only[Qcz,h.1,Qc1 h.2.1 ho.1,qxj h.2.2 ho.2,Bool.and_self]
theorem qp6:∀ (x:Sp),(qwg x x).all id=true
 | []=>rfl
 |(_,x) :: xs=>by simp only[qwg,List.all_append,qsi x,qp6 xs,Bool.and_self]
theorem Qgm:∀ {p x:SpO},qz2 p x=true→(qy8 p x).all id=true→Qgk p x=true
 | [],[],_,_=>rfl
 | [],_ :: _,h,_=>by simp[qz2] at h
 | _ :: _,[],h,_=>by simp[qz2] at h
 |(i,p) :: ps,(j,x) :: xs,h,ho=>by
  simp only[qz2,Bool.and_eq_true] at h
  simp only[qy8,List.all_append,Bool.and_eq_true] at ho
  simp only[Qgk,h.1,qz3 h.2.1 ho.1,Qgm h.2.2 ho.2,Bool.and_self]
theorem qwh:∀ (x:SpO),(qy8 x x).all id=true
 | []=>rfl
 |(_,x) :: xs=>by simp only[qy8,List.all_append,qtj x,qwh xs,Bool.and_self]
theorem Qgn:∀ {p x:List Sp},qz4 p x=true→(qy9 p x).all id=true→Qgl p x=true
 | [],[],_,_=>rfl
 | [],_ :: _,h,_=>by simp[qz4] at h
 | _ :: _,[],h,_=>by simp[qz4] at h
 | p :: ps,x :: xs,h,ho=>by
  simp only[qz4,Bool.and_eq_true] at h
  simp only[qy9,List.all_append,Bool.and_eq_true] at ho
  simp only[Qgl,qxj h.1 ho.1,Qgn h.2 ho.2,Bool.and_self]
theorem qwi:∀ (x:List Sp),(qy9 x x).all id=true
 | []=>rfl
 | x :: xs=>by simp only[qy9,List.all_append,qp6 x,qwi xs,Bool.and_self]
theorem qxh {p x:KSt} (h:qxi p x=true) (ho:(Qfh p x).all id=true):fitSt p x=true:=by
 unfold qxi at h
 unfold Qfh at ho
 simp only[Bool.and_eq_true] at h
 simp only[List.all_append,Bool.and_eq_true] at ho
 unfold fitSt
 simp only[h.1,qxj h.2.1 ho.1,Qgm h.2.2.1 ho.2.1,Qgn h.2.2.2 ho.2.2,Bool.and_self]
theorem qxg {x:KSt} (h:qxi x x=true):fitSt x x=true :=
 qxh h (by unfold Qfh;simp only[List.all_append,qp6,qwh,qwi,Bool.and_self])
theorem qrk {p x:KSt} (h:fitSt p x=true) (hp:p.Ok) (hx:x.Ok):(qdv p (qdu p x)).st=x.st∧(qdv p (qdu p x)).Ok∧(qdv p (qdu p x)).nt=p.nt∧p.nt=x.nt:=by
 unfold fitSt at h
 simp only[Bool.and_eq_true] at h
 obtain⟨h0,h1,h2,h3⟩:=h
 have hnt:=Nat.eq_of_beq_eq_true h0
 have hs:=Seg.all (qdu p x)
 unfold qdu at hs
 have hx1:qkk p.nt x.tmps:=hnt ▸ hx.tm
 have hx2:qjq p.nt x.objs:=hnt ▸ hx.ob
 have hx3:∀ sp∈x.keep,qkk p.nt sp:=hnt ▸ hx.kp
 obtain⟨a1,b1,_,c1⟩:=qxm p.tmps x.tmps h1 hp.tm hx1 _ 0 hs.left.left
 have hs2:=hs.left.right
 obtain⟨a2,b2,_,c2⟩:=Qgr p.objs x.objs h2 hp.ob hx2 (qdu p x) (qh2 p.tmps (qdu p x) 0).2 (by unfold qdu;rw[c1];exact hs2)
 have hs3:=hs.right
 obtain⟨a3,b3⟩:=Qgs p.keep x.keep h3 hp.kp hx3 (qdu p x) (qlw p.objs (qdu p x) (qh2 p.tmps (qdu p x) 0).2).2 (by
  unfold qdu at c2 ⊢
  rw[c2,c1]
  simp only[List.length_append] at hs3
  rw[Nat.zero_add] at hs3 ⊢
  exact hs3)
 refine⟨?_,⟨b1,b2,b3⟩,rfl,hnt⟩
 unfold KSt.st qdv
 simp only
 rw[←hnt,a3]
 congr 1
 ·unfold qc7;exact List.map_congr_left fun j _=>a1 j
 ·unfold qdx;exact List.map_congr_left fun j _=>a2 j
end Go.Ab


namespace Go.Ab
variable {cfg:qx7} {tab:FuncId→Option RFn}
theorem exec_pure {d:Nat} {σ:Nm→Option Ob} {T:List PV} {op:ROp} (hp:qy6 op=true) {out:Out} (h:exec d σ T op=some out):out={v:=out.v}:=by
 have hm:∀ {x:Option PV},(x.map fun v=>({v:=v}:Out))=some out→out={v:=out.v}:=by
  intro x hx
  obtain⟨v,_,rfl⟩:=Option.map_eq_some_iff.1 hx
  rfl
 have hcm:∀ {b:Bool} {x:Option PV},chk b (x.map fun v=>({v:=v}:Out))=some out→out={v:=out.v}:=by
  intro b x hx
  exact hm (qdj hx).2
 have hc:∀ {b:Bool} {v:PV},chk b (some ({v:=v}:Out))=some out→out={v:=out.v}:=by
  intro b v hx
  obtain⟨_,hx⟩:=qdj hx
  cases hx;rfl
 cases op with
 | box | alloc | mkSl | store | mkF | mkMap | insert | mkS | append | copy | call | iter | next | bad=>simp[qy6] at hp
 | mov x=>cases h;rfl
 | mkI t x=>cases h;rfl
 | bin op c cst x y=>exact hm h
 | slice k x lo hi mx=>exact hm h
 | len c x =>
  simp only[exec] at h
  obtain⟨n,_,rfl⟩:=Option.map_eq_some_iff.1 h
  rfl
 | pick c a b | conv k x | ofRune x | strId x | un op x | nilck x=>simp only[exec] at h;split at h<;>first | (cases h;rfl) | cases h
 | build z ps=>simp only[exec] at h;split at h<;>first | (cases h;rfl) | cases h
 | toBytes x=>simp only[exec] at h;split at h<;>first | exact hc h | cases h
 | field off n ag x=>simp only[exec] at h;split at h<;>first | exact hm h | cases h
 | fieldAddr off x=>simp only[exec] at h;split at h<;>first | exact hc h | (cases h;rfl) | cases h
 | idxAddrA k l x i=>simp only[exec] at h;split at h<;>first | exact hc h | cases h
 | ofBytes x | strIdx x i | extract j x | minmax mx xs | idxAddr k x i | strSlice x lo hi =>
  simp only[exec] at h
  split at h
  all_goals first
   |(cases h;done)
   | exact hc h
   |(obtain⟨n,_,rfl⟩:=Option.map_eq_some_iff.1 h;rfl)
   |(split at h<;>first | (cases h;done) | exact hc h | (cases h;rfl) | (split at h<;>first | (cases h;done) | (cases h;rfl)))
 | tassert t z ok x =>
  simp only[exec] at h
  split at h
  ·split at h
   ·cases h;rfl
   ·exact hc h
  ·exact hc h
  ·cases h
 | lookup c z ok x k =>
  simp only[exec] at h
  split at h
  ·cases h
  ·split at h
   ·cases h
   ·exact hc h
 | load n ag x =>
  simp only[exec] at h
  split at h
  ·split at h
   ·exact hm h
   ·cases h
  ·exact hm h
  ·split at h
   ·split at h
    ·exact hcm h
    ·cases h
   ·cases h
  ·cases h
theorem qx3 (st:St) (dst:Option Nat) (v:PV):apply st dst {v}=bset dst v [] st:=by
 rw[Qdl];simp[Qkn,bupd,bgone,Qkm,bext,Qfm]
theorem pure_runs {M:qdb} {E:Type} {h:qbg E} {dep:Nat} {ops:List qbo}:∀ (l:List qbo),(∀ o∈l,qy6 o.op=true)→∀ {st st':St} {e e':E},qf4 M h dep ops l st e=some (st',e') →
  e'=e∧st'.objs=st.objs∧st'.keep=st.keep∧st'.tmps.length=st.tmps.length∧∀ i,i ∉ l.filterMap (·.dst)→st'.tmps[i]?=st.tmps[i]?:=by
 intro l
 induction l with
 | nil=>intro _ st st' e e' h;cases h;exact⟨rfl,rfl,rfl,rfl,fun _ _=>rfl⟩
 | cons o rest ih =>
  intro hp st st' e e' h
  simp only[qf4] at h
  split at h
  case h_2=>cases h
  rename_i s1 e1 hs
  have hone:e1=e∧∃ v,s1=bset o.dst v [] st:=by
   unfold stepG at hs
   split at hs
   ·unfold qpq at hs
    split at hs
    ·rename_i out e2 ho
     cases hs
     unfold qfj at ho
     obtain⟨_,ho⟩:=qdj ho
     have hpo:=hp o (by simp)
     split at ho
     ·rename_i f args hop;rw[hop] at hpo;simp[qy6] at hpo
     ·split at ho
      ·rename_i out' hx
       cases ho
       have:=exec_pure hpo hx
       refine⟨rfl,out.v,?_⟩
       rw[this,qx3]
      ·cases ho
    ·cases hs
   ·cases hs;exact⟨rfl,_,qx3 _ _ _⟩
   ·cases hs
  obtain⟨rfl,v,rfl⟩:=hone
  obtain⟨a,b,c,d,f⟩:=ih (fun o' ho'=>hp o' (by simp[ho'])) h
  refine⟨a,?_,?_,?_,?_⟩
  ·rw[b];cases o.dst<;>rfl
  ·rw[c];cases o.dst<;>rfl
  ·rw[d];cases o.dst<;>simp[bset]
  ·intro i hi
   have hi':i ∉ rest.filterMap (·.dst):=fun hm=>hi (by
    simp only[List.mem_filterMap] at hm ⊢
    obtain⟨o',ho',hd⟩:=hm
    exact⟨o',by simp[ho'],hd⟩)
   rw[f i hi']
   cases hd:o.dst with
   | none=>rfl
   | some t =>
    have hne:t≠i:=fun e=>hi (by
     simp only[List.mem_filterMap]
     exact⟨o,by simp,by rw[hd,e]⟩)
    simp only[bset]
    rw[List.getElem?_set_ne hne]
theorem tidy_congr {st st':St} (h1:st'.objs=st.objs) (h2:st'.keep=st.keep) (hl:st'.tmps.length=st.tmps.length) {l:List Nat} (h3:∀ i,i∈l→st'.tmps[i]?=st.tmps[i]?):Qhp (some l) st'=Qhp (some l) st:=by
 have:qf2 l st'=qf2 l st:=by
  unfold qf2
  obtain⟨t',o',k'⟩:=st'
  obtain⟨t,o,k⟩:=st
  simp only at h1 h2 hl h3
  subst h1;subst h2
  have hl:t'.length=t.length:=hl
  congr 1
  show (t'.zipIdx.map fun (x:PV×Nat)=>if l.contains x.2 then x.1 else .undef)=t.zipIdx.map fun (x:PV×Nat)=>if l.contains x.2 then x.1 else .undef
  apply List.ext_getElem?
  intro i
  rw[List.getElem?_map,List.getElem?_map,List.getElem?_zipIdx,List.getElem?_zipIdx]
  by_cases hi:i∈l
  ·rw[h3 i hi]
  ·by_cases hlt:i < t.length
   ·rw[List.getElem?_eq_getElem hlt,List.getElem?_eq_getElem (by omega)]
    simp[hi]
   ·rw[List.getElem?_eq_none (by omega),List.getElem?_eq_none (by omega)]
 unfold Qhp
 simp only[this]
theorem kdrop_ok {k0 ks:KSt} (h:ks.Ok):(Qf8 k0 ks).Ok∧(Qf8 k0 ks).nt=ks.nt:=by
 unfold Qf8
 obtain⟨h1,h2⟩:=Qcn h (qqr k0.tmps)
 obtain⟨h3,h4,h5⟩:=qlp h2 (qjm {ks with tmps:=qju (qqr k0.tmps) ks.tmps})
 exact⟨h4,h5⟩
theorem ksetPs_ok {nt:Nat}:∀ (ps:List Nat) (args:List PV) (i:Nat) {tm:Sp},qkk nt tm→(∀ p∈ps,p < nt)→qcy args=true→qkk nt (qq3 ps args i tm):=by
 intro ps
 induction ps with
 | nil=>intro args i tm h _ _;exact h
 | cons p ps ih =>
  intro args i tm h hp ha
  simp only[qq3]
  refine ih args (i+1) (h.put (hp p (by simp)) ?_ rfl) (fun q hq=>hp q (by simp[hq])) ha
  show okV (nth args i)=true
  unfold nth
  rw[List.getD_eq_getElem?_getD]
  cases hg:args[i]? with
  | none=>rfl
  | some v=>exact qhs ha hg
theorem ksetPs_st {nt:Nat}:∀ (ps:List Nat) (args:List PV) (i:Nat) {tm:Sp},i+ps.length=args.length→qc7 nt (qq3 ps args i tm)=qsc ps (args.drop i) (qc7 nt tm):=by
 intro ps
 induction ps with
 | nil=>intro args i tm _;simp[qq3,qsc]
 | cons p ps ih =>
  intro args i tm hl
  simp only[List.length_cons] at hl
  have hd:args.drop i=args[i]'(by omega) :: args.drop (i+1):=List.drop_eq_getElem_cons (by omega)
  rw[hd]
  simp only[qq3,qsc]
  rw[ih args (i+1) (by omega),qrs]
  have:nth args i=args[i]'(by omega):=by
   unfold nth;rw[List.getD_eq_getElem?_getD,List.getElem?_eq_getElem (by omega)];rfl
  rw[←this]
  rfl
theorem konEx_some {R:Type} {r:R} {K:Nat→Option R}:∀ {l:List Nat} {p:Option Ex},konEx l p K=some r→∃ id,p=some (.exit id)∧K id=some r:=by
 intro l
 induction l with
 | nil=>intro p h;cases h
 | cons id l ih =>
  intro p h
  simp only[konEx] at h
  rcases qj0 h with ⟨h1,h2⟩ | ⟨_,h2⟩
  ·refine⟨id,?_,h2⟩
   unfold isExitE at h1
   split at h1
   ·rename_i id';rw[Nat.eq_of_beq_eq_true h1]
   ·cases h1
  ·exact ih h2
def sp_dense (sp:Sp) (k3:KSt):List PV:=qc7 k3.nt sp
theorem Qc9 (hc:qmy cfg tab):∀ (c:qcm) {E R:Type} {h:qbg E} {hn:Nat→qbg E} (_:HOk h hn) (dep:Nat) {ks:KSt} {e:E} {K:Ex→KSt→E→Option R} {r:R},ks.Ok→qh4 cfg c h dep ks e K=some r →
  ∃ x k' e',K x k' e'=some r∧k'.Ok∧Evl fun n=>qbk (qhy cfg.b.sp tab n) n c (hn n) dep ks.st e=some (x,k'.st,e'):=by
 intro c
 induction c with
 | skip=>intro E R h hn hh dep ks e K r hk hr;exact⟨_,_,_,hr,hk,.of fun n=>rfl⟩
 | region ops dr lv =>
  intro E R h hn hh dep ks e K r hk hr
  obtain⟨c1,c2,_⟩:=qlp hk (qmp ops)
  cases dr with
  | none =>
   simp only[qh4] at hr
   rw[qcr] at hr
   split at hr
   ·rename_i t hslot
    obtain⟨z,hz,hr⟩:=qbv hr
    rw[qcr] at hr
    obtain⟨k1,e1,hz2,hk1,h1⟩:=Qcl (dep:=dep) hc hh ops c2 hz
    unfold Qmo at hslot
    split at hslot
    case isFalse=>cases hslot
    rename_i hcond
    simp only[Bool.and_eq_true] at hcond
    cases lv with
    | none=>cases hslot
    | some l =>
    simp only at hslot
    split at hslot
    case h_2=>cases hslot
    rename_i t' hfil
    cases hslot
    have hpure:∀ o∈ops,qy6 o.op=true:=List.all_eq_true.1 hcond.2
    have hzok:okV z=true:=KV.cl_ok (hk1.tm.get_ok t) hz2
    have htlt:t < k1.nt:=by
     apply Classical.byContradiction
     intro hlt
     rw[hk1.tm.get_ge (by omega)] at hz2;cases hz2
    obtain⟨m,hm⟩:=h1
    have hm0:=hm m (Nat.le_refl _)
    obtain⟨rfl,p2,p3,p4,p5⟩:=pure_runs ops hpure hm0
    have hnt:k1.nt=(qf9 (qmp ops) ks).nt:=by
     have:k1.st.tmps.length=(qf9 (qmp ops) ks).st.tmps.length:=p4
     have a1:k1.st.tmps.length=k1.nt:=qbu _ _
     have a2:(qf9 (qmp ops) ks).st.tmps.length=(qf9 (qmp ops) ks).nt:=qbu _ _
     omega
    have hput:({qf9 (qmp ops) ks with tmps:=qhv t (.cv z) (qf9 (qmp ops) ks).tmps}:KSt).Ok:=⟨c2.tm.put (by omega) hzok rfl,c2.ob,c2.kp⟩
    obtain⟨t1,t2⟩:=qvg hput (some l)
    refine⟨_,_,_,hr,t2,⟨m,fun n hn'=>?_⟩⟩
    have hb:=hm n hn'
    rw[c1] at hb
    simp only[qbk,hb,t1]
    have:Qhp (some l) k1.st=Qhp (some l) ({qf9 (qmp ops) ks with tmps:=qhv t (.cv z) (qf9 (qmp ops) ks).tmps}:KSt).st:=by
     refine tidy_congr (st':=k1.st) (st:=({qf9 (qmp ops) ks with tmps:=qhv t (.cv z) (qf9 (qmp ops) ks).tmps}:KSt).st) p2 p3 ?_ fun i hi=>?_
     ·rw[p4]
      show (qc7 _ _).length=(qc7 _ _).length
      rw[qbu,qbu]
     ·show k1.st.tmps[i]?=(qc7 _ (qhv t (.cv z) _))[i]?
      rw[qrs]
      by_cases hit:i=t
      ·subst hit
       rw[List.getElem?_set_self (by rw[qbu];show i < (qf9 (qmp ops) ks).nt;omega)]
       show (qc7 k1.nt k1.tmps)[i]?=_
       rw[dense_get?,if_pos htlt,KV.cl_pv hz2]
       rfl
      ·rw[List.getElem?_set_ne (Ne.symm hit)]
       refine p5 i fun hmem=>hit ?_
       have:i∈l.filter fun t=>(ops.filterMap (·.dst)).contains t:=List.mem_filter.2 ⟨hi,by simpa using hmem⟩
       rw[hfil] at this
       simpa using this
    rw[this]
   ·obtain⟨k1,e1,hr,hk1,h1⟩:=Qcl (dep:=dep) hc hh ops c2 hr
    rw[qcr] at hr
    obtain⟨t1,t2⟩:=qvg hk1 lv
    rw[c1] at h1
    exact⟨_,_,_,hr,t2,h1.mono fun n hn'=>by simp only[qbk,hn',t1]⟩
  | some bef =>
   simp only[qh4] at hr
   rw[qcr] at hr
   obtain⟨k1,e1,hr,hk1,h1⟩:=krunsD_ok (dep:=dep) hc hh bef [] c2 hr
   rw[qcr] at hr
   obtain⟨t1,t2⟩:=qvg hk1 lv
   rw[c1] at h1
   exact⟨_,_,_,hr,t2,h1.mono fun n hn'=>by simp only[qbk,hn',t1]⟩
 | seq a b iha ihb =>
  intro E R h hn hh dep ks e K r hk hr
  simp only[qh4] at hr
  obtain⟨x,k1,e1,hr,hk1,h1⟩:=iha hh dep hk hr
  cases x with
  | normal =>
   obtain⟨x2,k2,e2,hr,hk2,h2⟩:=ihb hh dep hk1 hr
   exact⟨_,_,_,hr,hk2,h1.mono2 h2 fun n a b=>by simp only[qbk,a,b]⟩
  | exit id=>exact⟨_,_,_,hr,hk1,h1.mono fun n a=>by simp only[qbk,a]⟩
  | ret=>exact⟨_,_,_,hr,hk1,h1.mono fun n a=>by simp only[qbk,a]⟩
 | cond c a b iha ihb =>
  intro E R h hn hh dep ks e K r hk hr
  simp only[qh4] at hr
  have hev:=qsb hk c
  split at hr
  ·rename_i hv
   obtain⟨x,k1,e1,hr,hk1,h1⟩:=iha hh dep hk hr
   exact⟨_,_,_,hr,hk1,h1.mono fun n a=>by simp only[qbk,hev,hv,KV.pv,a]⟩
  ·rename_i hv
   obtain⟨x,k1,e1,hr,hk1,h1⟩:=ihb hh dep hk hr
   exact⟨_,_,_,hr,hk1,h1.mono fun n a=>by simp only[qbk,hev,hv,KV.pv,a]⟩
  ·rename_i v hv
   rcases qq7 hr with ⟨rfl,hr⟩ | ⟨rfl,hr⟩
   ·obtain⟨x,k1,e1,hr,hk1,h1⟩:=iha hh dep hk hr
    exact⟨_,_,_,hr,hk1,h1.mono fun n a=>by simp only[qbk,hev,hv,KV.pv,a]⟩
   ·obtain⟨x,k1,e1,hr,hk1,h1⟩:=ihb hh dep hk hr
    exact⟨_,_,_,hr,hk1,h1.mono fun n a=>by simp only[qbk,hev,hv,KV.pv,a]⟩
  ·cases hr
 | block id b ih =>
  intro E R h hn hh dep ks e K r hk hr
  simp only[qh4] at hr
  obtain⟨x,k1,e1,hr,hk1,h1⟩:=ih hh dep hk hr
  cases x with
  | normal=>exact⟨_,_,_,hr,hk1,h1.mono fun n a=>by simp only[qbk,a]⟩
  | ret=>exact⟨_,_,_,hr,hk1,h1.mono fun n a=>by simp only[qbk,a]⟩
  | exit id' =>
   simp only at hr
   split at hr
   ·rename_i hid;exact⟨_,_,_,hr,hk1,h1.mono fun n a=>by simp only[qbk,a,hid,if_true]⟩
   ·rename_i hid;exact⟨_,_,_,hr,hk1,h1.mono fun n a=>by simp only[qbk,a,hid,if_false]⟩
 | loop asg grow b ih =>
  intro E R h hn hh dep ks e K r hk hr
  simp only[qh4] at hr
  obtain⟨k0,hr,hk0,hnt0,hst0⟩:=Qcm hk hr
  rw[qcr] at hr
  obtain⟨hU,hr⟩:=qbj hr
  split at hr
  ·cases hr
  rename_i hself
  have hself:fitSt k0 k0=true:=qxg (by simpa using hself)
  obtain⟨m,hm⟩:=loopL_some hr
  have key:∀ (m:Nat) (vs:List PV) (e:E),(qdv k0 vs).Ok→repS (fun s:List PV×E=>qg2 (qdv k0 s.1) fun ks=>qh4 cfg b h dep ks s.2 (Qld asg grow k0 K)) m (vs,e)=some r →
    ∃ x k' e',K x k' e'=some r∧k'.Ok∧Evl fun n=>∀ j,m≤j→qdo (qfn (qhy cfg.b.sp tab n) n asg grow b (hn n) dep (undefs k0.st)) j ((qdv k0 vs).st,e)=some (x,k'.st,e'):=by
   intro m
   induction m with
   | zero=>intro vs e _ h0;cases h0
   | succ m ihm =>
    intro vs e hkv hm
    unfold repS at hm
    simp only at hm
    rw[qcr] at hm
    cases hs:qh4 cfg b h dep (qdv k0 vs) e (Qld asg grow k0 K) with
    | none =>
     rw[hs] at hm;cases hm
    | some q =>
     rw[hs] at hm
     obtain⟨x,k1,e1,hq,hk1,h1⟩:=ih hh dep hkv hs
     have hother:∀ y,y≠Ex.normal→x=y→(qcd (K y k1 e1) fun r=>some (Sum.inr r))=some q→∃ x k' e',K x k' e'=some r∧k'.Ok∧Evl fun n=>∀ j,m+1≤j→qdo (qfn (qhy cfg.b.sp tab n) n asg grow b (hn n) dep (undefs k0.st)) j ((qdv k0 vs).st,e)=some (x,k'.st,e'):=by
      intro y hy hxy hq
      obtain⟨r',hr',hq⟩:=qbv hq
      cases hq
      cases hm
      refine⟨y,k1,e1,hr',hk1,h1.mono fun n hn' j hj=>?_⟩
      obtain⟨j,rfl⟩:∃ i,j=i+1:=⟨j - 1,by omega⟩
      rw[qn2]
      subst hxy
      cases x with
      | normal=>exact absurd rfl hy
      | exit id=>simp only[qfn,hn',qwc]
      | ret=>simp only[qfn,hn',qwc]
     cases x with
     | exit id=>exact hother (.exit id) (by simp) rfl hq
     | ret=>exact hother .ret (by simp) rfl hq
     | normal =>
      unfold Qld at hq;simp only at hq
      obtain⟨d1,d2⟩:=kdrop_ok (k0:=k0) hk1
      obtain⟨k2,hq,hk2,hnt2,hst2⟩:=Qcm d1 hq
      rw[qcr] at hq
      split at hq
      ·rename_i hfit0
       obtain⟨hoffs,hq⟩:=qxz hq
       have hfit:=qxh hfit0 hoffs
       cases hq
       obtain⟨f1,f2,f3,f4⟩:=qrk hfit hk0 hk2
       obtain⟨g1,_,_⟩:=kdrop_st hk0 hU hk1 (by omega)
       obtain⟨x3,k3,e3,hr3,hk3,h3⟩:=ihm _ _ f2 hm
       refine⟨x3,k3,e3,hr3,hk3,h1.mono2 h3 fun n hn1 hn3 j hj=>?_⟩
       obtain⟨j,rfl⟩:∃ i,j=i+1:=⟨j - 1,by omega⟩
       rw[qn2]
       have:=hn3 j (by omega)
       rw[f1,hst2,g1] at this
       simp only[qfn,hn1,qwc]
       exact this
      ·cases hq
  obtain⟨s1,s2,_,_⟩:=qrk (p:=k0) (x:=k0) hself hk0 hk0
  obtain⟨x,k',e',hr',hk',hev⟩:=key m _ e s2 hm
  refine⟨x,k',e',hr',hk',hev.diag.mono fun n hn'=>?_⟩
  rw[s1,hst0] at hn'
  rw[qz8,hn']
 | rangeFunc f ps asg b iha ihb =>
  intro E R h hn hh dep ks e K r hk hr
  simp only[qh4] at hr
  split at hr
  case h_2=>cases hr
  rename_i fv hfv
  split at hr
  case isFalse=>cases hr
  rename_i hps
  simp only[Bool.and_eq_true] at hps
  obtain⟨⟨hps,hself0⟩,hxf⟩:=hps
  have hself:=qxg hself0
  have hpslt:∀ p∈ps,p < ks.nt:=fun p hp=>by
   have:=List.all_eq_true.1 hps p hp
   simpa[Nat.blt_eq] using this
  obtain⟨⟨vs,p,e2⟩,hrange,hr2⟩:=qbv hr
  clear hr
  rw[qcr] at hr2
  simp only at hr2
  unfold rangeO at hrange
  split at hrange
  case h_2=>cases hrange
  rename_i g cap
  split at hrange
  case h_2=>cases hrange
  rename_i rv obs rr hL
  cases hrange
  rw[hc.L] at hL
  obtain⟨m,hm⟩:=qq0 hL
  have hm:=hm m (Nat.le_refl _)
  obtain⟨s1,s2,_,_⟩:=qrk (p:=ks) (x:=ks) hself hk hk
  obtain⟨⟨st2,p2,e2'⟩,hre,hev⟩:=qs4 (sp:=cfg.b.sp) (tab:=tab) m (KRec E) (Rec E)
   (fun a b=>a.2.1=b.2.1∧a.2.2=b.2.2∧(qdv ks a.1).Ok∧(qdv ks a.1).st=b.1) _ (fun n=>qm9 (qhy cfg.b.sp tab n) n asg b (hn n) dep ps) (by
    rintro l args ⟨vs,p,e⟩ ⟨s,p',e'⟩ ⟨h1,h2,h3,h4⟩ bb ⟨vs',q,e1⟩ hq
    simp only at h1 h2 h3 h4
    subst h1;subst h2;subst h4
    unfold onRound at hq
    unfold qm9
    by_cases hl:l=dep
    ·simp only[hl,if_true] at hq ⊢
     cases p with
     | some x=>cases hq
     | none =>
      simp only at hq ⊢
      obtain⟨hargs,hq⟩:=qbj hq
      unfold okArgs at hargs
      simp only[Bool.and_eq_true,beq_iff_eq] at hargs
      rw[qcr,qcr] at hq
      have hnt:(qdv ks vs).nt=ks.nt:=rfl
      have hk1:({qdv ks vs with tmps:=qq3 ps args 0 (qdv ks vs).tmps,keep:=(qdv ks vs).tmps :: (qdv ks vs).keep}:KSt).Ok :=
       ⟨ksetPs_ok ps args 0 h3.tm hpslt hargs.2,h3.ob,fun sp hsp=>(List.mem_cons.1 hsp).elim (fun e=>e ▸ h3.tm) (h3.kp sp)⟩
      have hk1st:({qdv ks vs with tmps:=qq3 ps args 0 (qdv ks vs).tmps,keep:=(qdv ks vs).tmps :: (qdv ks vs).keep}:KSt).st={(qdv ks vs).st with tmps:=qsc ps args (qdv ks vs).st.tmps,keep:=(qdv ks vs).st.tmps++(qdv ks vs).st.keep}:=by
       unfold KSt.st
       simp only
       rw[ksetPs_st ps args 0 (by omega)]
       simp
      obtain⟨x1,k2,e3,hq,hk2,ha⟩:=iha hh (dep+1) hk1 hq
      cases x1 with
      | exit id=>cases hq
      | ret=>cases hq
      | normal =>
       simp only at hq
       obtain⟨x2,k3,e4,hq,hk3,hb⟩:=ihb hh (dep+1) hk2 hq
       split at hq
       case h_1=>cases hq
       rename_i sp kp hkeep
       rw[qcr] at hq
       split at hq
       case isFalse=>cases hq
       rename_i hfit0
       obtain⟨hoffs,hq⟩:=qxz hq
       have hfit:=qxh hfit0 hoffs
       cases hq
       have hk4:({k3 with tmps:=sp,keep:=kp}:KSt).Ok:=⟨hk3.kp sp (by rw[hkeep];simp),hk3.ob,fun q hq=>hk3.kp q (by rw[hkeep];simp[hq])⟩
       obtain⟨f1,f2,f3,f4⟩:=qrk hfit hk hk4
       have f5:ks.nt=k3.nt:=f4
       refine⟨({tmps:=sp_dense sp k3,objs:=k3.st.objs,keep:=kp.flatMap (qc7 k3.nt)},exitOf x2,e1),⟨rfl,rfl,f2,?_⟩,ha.mono2 hb fun n hn1 hn2=>?_⟩
       ·rw[f1];rfl
       ·simp only[hargs.1,if_true]
        rw[←hk1st,hn1]
        simp only
        rw[hn2]
        simp only
        have hkp:k3.st.keep=qc7 k3.nt sp++kp.flatMap (qc7 k3.nt):=by
         show k3.keep.flatMap (qc7 k3.nt)=_
         rw[hkeep];rfl
        have hlen:(qdv ks vs).st.tmps.length=(qc7 k3.nt sp).length:=by
         show (qc7 ks.nt _).length=_
         rw[qbu,qbu];exact f5
        rw[hkp,hlen,List.take_left,List.drop_left]
        cases x2<;>rfl
    ·simp only[hl,if_false] at hq ⊢
     split at hq
     ·rename_i b2 e3 h6
      cases hq
      exact⟨_,⟨rfl,rfl,h3,rfl⟩,(hh _ _ _ _ h6).mono fun n hn'=>by rw[hn']⟩
     ·cases hq) (dep+1) (qd2 g) (qb3 g [.yld dep] cap) (qdu ks ks,none,e) (ks.st,none,e) ⟨rfl,rfl,s2,s1⟩ rv obs _ hm
  simp only at hre
  obtain⟨h1,h2,h3,h4⟩:=hre
  subst h1;subst h2;subst h4
  have hfe:f.ev ks.st.tmps=.fn g cap:=by rw[qsb hk,KV.cl_pv hfv]
  have hcap:(PV.fn g cap).names=[]:=by
   exact (qfk (KV.cl_ok (kv_ok hk hxf) hfv)).1
  have hbase:Evl fun n=>qbk (qhy cfg.b.sp tab n) n (.rangeFunc f ps asg b) (hn n) dep ks.st e=some (p.getD .normal,(qdv ks vs).st,e2):=hev.mono fun n hn'=>by
   rw[qt0,hfe]
   have hz:Qct (qhy cfg.b.sp tab n) (.fn g cap)=false:=by
    show (_&&!(qbd cap).isEmpty)=false
    rw[show qbd cap=[] from hcap]
    simp
   rw[if_neg (by rw[hz];simp)]
   unfold qnn
   rw[hcap]
   simp only[List.isEmpty_nil,if_true]
   simp only[qhy,qbi] at hn' ⊢
   rw[hn']
  rcases qj0 hr2 with ⟨hp,hr2⟩ | ⟨_,hr2⟩
  ·cases p with
   | some x=>cases hp
   | none=>exact⟨_,_,_,hr2,h3,hbase⟩
  ·rcases qj0 hr2 with ⟨hp,hr2⟩ | ⟨_,hr2⟩
   ·unfold isRetE at hp
    split at hp
    ·exact⟨_,_,_,hr2,h3,hbase⟩
    ·cases hp
   ·obtain⟨id,hpe,hr3⟩:=konEx_some hr2
    subst hpe
    exact⟨_,_,_,hr3,h3,hbase⟩
 | exit id=>intro E R h hn hh dep ks e K r hk hr;exact⟨_,_,_,hr,hk,.of fun n=>rfl⟩
 | scope b ih =>
  intro E R h hn hh dep ks e K r hk hr
  simp only[qh4] at hr
  obtain⟨x,k1,e1,hr,hk1,h1⟩:=ih hh dep hk hr
  cases x with
  | normal=>exact⟨_,_,_,hr,hk1,h1.mono fun n a=>by simp only[qbk,a]⟩
  | ret=>exact⟨_,_,_,hr,hk1,h1.mono fun n a=>by simp only[qbk,a]⟩
  | exit id' =>
   simp only at hr
   split at hr
   ·rename_i hid;exact⟨_,_,_,hr,hk1,h1.mono fun n a=>by simp only[qbk,a,hid,if_true]⟩
   ·cases hr
 | ret=>intro E R h hn hh dep ks e K r hk hr;exact⟨_,_,_,hr,hk,.of fun n=>rfl⟩
 | norm g =>
  intro E R h hn hh dep ks e K r hk hr
  simp only[qh4] at hr
  obtain⟨t1,t2,_⟩:=ktrim_st hk
  obtain⟨k',hr,hk',_,hst⟩:=Qcm t2 hr
  rw[qcr] at hr
  exact⟨_,_,_,hr,hk',.of fun n=>by simp only[qbk,hst,t1]⟩
 | bad=>intro E R h hn hh dep ks e K r hk hr;cases hr
 | dreg ops f args lv=>intro E R h hn hh dep ks e K r hk hr;cases hr
end Go.Ab


namespace Go.Ab
variable {cfg:qx7} {tab:FuncId→Option RFn} {ks:KSt}
theorem kresV_ok {R:Type} {r:R} (h:ks.Ok) {x:Qkp} {K:KV→Option R} (hr:kresV ks x K=some r):∃ v,K v=some r∧v.ok∧resV ks.st x=some v.pv:=by
 have hget:∀ t,ks.st.tmps.getD t .undef=(qb7 ks.tmps t).pv:=fun t=>qhk h.tm t
 have lk:=qja h
 cases x with
 | tmp t=>exact⟨_,hr,h.tm.get_ok t,by simp only[resV,hget]⟩
 | cell t n ag =>
  simp only[kresV] at hr
  split at hr
  ·rename_i nm o hv
   split at hr
   ·rename_i cs hl
    have hcs:qfp cs:=qcx h.ob hl
    split at hr
    ·rename_i hag
     split at hr
     ·rename_i hle
      refine⟨_,hr,qnb (qnc hcs _) _,?_⟩
      simp only[resV,hget,hv,KV.pv,lk,hl,Option.map_some,KOb.ob,sel,hag,if_true,chk,qdp,hle,decide_true,qn3,qn4]
     ·cases hr
    ·rename_i hag
     split at hr
     ·rename_i c hc
      refine⟨_,hr,qcq.1 hcs c (List.mem_of_getElem? hc),?_⟩
      simp only[resV,hget,hv,KV.pv,lk,hl,Option.map_some,KOb.ob,sel,hag,pvL_get?,hc]
      rfl
     ·cases hr
   ·rename_i w hl
    obtain⟨z,hz,hr⟩:=qbv hr
    have hw:okV w=true:=qcx h.ob hl
    unfold selO at hz
    refine⟨_,hr,qwd (qcb hw) hz,?_⟩
    simp only[resV,hget,hv,KV.pv,lk,hl,Option.map_some,KOb.ob,qkd,hz]
   ·cases hr
  ·cases hr
theorem Qfw {R:Type} {r:R} (h:ks.Ok):∀ (l:List Qkp) {K:List KV→Option R},qtl ks l K=some r→∃ vs,K vs=some r∧qfp vs∧qkm ks.st l=some (pvL vs):=by
 intro l
 induction l with
 | nil=>intro K hr;exact⟨[],hr,trivial,rfl⟩
 | cons x l ih =>
  intro K hr
  simp only[qtl] at hr
  obtain⟨v,hr,hv,h1⟩:=kresV_ok h hr
  obtain⟨vs,hr,hvs,h2⟩:=ih hr
  exact⟨v :: vs,hr,⟨hv,hvs⟩,by simp only[qkm,h1,h2,pvL]⟩
theorem Qfy {vs:List KV} (h:qfp vs):(qtn vs).ok∧(qtn vs).pv=qna (pvL vs):=by
 match vs,h with
 | [],h=>exact⟨trivial,rfl⟩
 | [v],h=>exact⟨h.1,rfl⟩
 | v :: w :: vs,h=>exact⟨h,rfl⟩
theorem qzu {o:Nat}:qpr o=true↔o=0:=by cases o<;>simp[qpr]
def top1:PV→List Nm
 | .arr nm _ 0 _=>[nm]
 | _=>[]
def top2:PV→List Nm
 | .arr nm _ 0 _=>[nm]
 | .agg cs=>cs.flatMap top1
 | _=>[]
def ktop1:KV→List Nm
 | .arr nm _ o _=>if qpr o then [nm] else []
 | .wit nm=>[nm]
 | _=>[]
def ktop2:KV→List Nm
 | .arr nm _ o _=>if qpr o then [nm] else []
 | .wit nm=>[nm]
 | .agg cs=>cs.flatMap ktop1
 | _=>[]
theorem ktop1_ok {x:KV} (h:x.ok):ktop1 x=top1 x.pv:=by
 cases x with
 | arr nm k o n=>cases o<;>rfl
 | cv v =>
  have hv:okV v=true:=h
  cases v<;>first | rfl | simp[okV] at hv
 | _=>rfl
theorem Qdu {cs:List PV} (h:qcy cs=true):cs.flatMap top1=[]:=by
 rw[List.flatMap_eq_nil_iff]
 intro x hx
 have:=qdm.1 h x hx
 cases x<;>first | rfl | simp[okV] at this
theorem Qgj {cs:List KV} (h:qfp cs):cs.flatMap ktop1=(pvL cs).flatMap top1:=by
 rw[qft,List.flatMap_map]
 induction cs with
 | nil=>rfl
 | cons x xs ih=>simp only[List.flatMap_cons];rw[ktop1_ok h.1,ih h.2]
theorem Qck {x:KV} (h:x.ok):ktop2 x=top2 x.pv:=by
 cases x with
 | arr nm k o n=>cases o<;>rfl
 | agg cs=>exact Qgj h
 | cv v =>
  have hv:okV v=true:=h
  cases v with
  | agg cs=>simp only[okV] at hv;exact (Qdu hv).symm
  | _=>first | rfl | simp[okV] at hv
 | _=>rfl
theorem tops_eq (v:PV):tops v=match v with | .tup xs=>xs.flatMap top2 | v=>top2 v:=by
 have e1:(fun (x:PV)=>match x with | .arr nm _ 0 _=>[nm] | _=>[])=top1:=by
  funext x;cases x<;>first | rfl | (rename_i nm k o n;cases o<;>rfl)
 cases v with
 | arr nm k o n=>cases o<;>rfl
 | agg cs=>simp only[tops,top2];rfl
 | tup xs =>
  simp only[tops]
  congr 1
 | _=>rfl
theorem ktops_eq (v:KV):ktops v=match v with | .tup xs=>xs.flatMap ktop2 | v=>ktop2 v:=by
 cases v<;>first | rfl | (simp only[ktops];congr 1)
theorem ktops_ok {v:KV} (h:v.ok):ktops v=tops v.pv:=by
 rw[ktops_eq,tops_eq]
 cases v with
 | tup xs =>
  have hx:qfp xs:=h
  simp only[KV.pv]
  rw[qft,List.flatMap_map]
  clear h
  induction xs with
  | nil=>rfl
  | cons x xs ih=>simp only[List.flatMap_cons];rw[Qck hx.1,ih hx.2]
 | cv u =>
  have hu:okV u=true:=h
  simp only[KV.pv,ktop2]
  cases u with
  | tup xs =>
   simp only[okV] at hu
   symm
   rw[List.flatMap_eq_nil_iff]
   intro x hx
   have hx':=qdm.1 hu x hx
   have:=Qck (x:=.cv x) hx'
   simpa[ktop2,KV.pv] using this.symm
  | agg cs=>simp only[okV] at hu;exact (Qdu hu).symm
  | _=>first | rfl | simp[okV] at hu
 | _=>exact Qck h
theorem qzb:∀ {l:List Nm},qff l=true↔l.Nodup
 | []=>by simp[qff]
 | x :: xs=>by simp[qff,qzb (l:=xs)]
theorem mapM_look {σ:Nm→Option Ob}:∀ {S:List Nm},(∀ nm∈S,∃ ob,σ nm=some ob∧Qcu ob=true)→∃ obs,S.mapM σ=some obs∧obs.all Qcu=true∧obs.length=S.length∧∀ (i:Nat) nm,S[i]?=some nm→obs[i]?=σ nm:=by
 intro S
 induction S with
 | nil=>intro _;exact⟨[],rfl,rfl,rfl,by simp⟩
 | cons nm S ih =>
  intro h
  obtain⟨ob,h1,h2⟩:=h nm (by simp)
  obtain⟨obs,h3,h4,h5,h6⟩:=ih fun m hm=>h m (by simp[hm])
  refine⟨ob :: obs,by simp[List.mapM_cons,h1,h3],by simp[h2,h4],by simp[h5],?_⟩
  intro i m hi
  cases i with
  | zero=>simp at hi;subst hi;simp[h1]
  | succ i=>simp at hi ⊢;exact h6 i m hi
theorem Qgd {pre mid post:List Nm} {nm:Nm} (hnd:(pre++nm :: mid++post).Nodup):(pre++nm :: mid++post).idxOf nm=pre.length:=by
 have hn:nm ∉ pre:=fun hm=>by
  rw[List.append_assoc,List.nodup_append] at hnd
  exact hnd.2.2 nm hm nm (by simp) rfl
 rw[List.append_assoc,List.idxOf_append,if_neg hn]
 simp
section hand
variable {σ:Nm→Option KOb} (hσ:∀ nm o,σ nm=some o→o.ok) {S:List Nm} (hnd:S.Nodup) {obs:List Ob} (hobs:∀ (i:Nat) nm,S[i]?=some nm→obs[i]?=(σ nm).map fun o=>o.ob.bare)
include hσ hnd hobs
def subH (σ:Nm→Option KOb) (S:List Nm):Nm→Option (Option Ob):=fun nm=>if S.contains nm=true then none else qb5 (fun nm=>(σ nm).map KOb.ob) nm
omit hnd hobs in
theorem close_subH {x:KV} (hx:x.ok) (hn:(x.names.all fun nm=>!S.contains nm)=true):x.pv.sub (subH σ S)=x.close (qda σ qbe):=by
 rw[KV.close_pv _ hx]
 refine PV.sub_congr _ fun nm hm=>?_
 rw[KV.pv_names hx] at hm
 have:=List.all_eq_true.1 hn nm hm
 unfold subH ql5 qb5
 simp only[Bool.not_eq_true'] at this
 rw[this,qso hσ,Option.map_map]
 rfl
omit hσ hnd hobs in
theorem sub_cl {x:KV} {u:PV} (hx:x.ok) (h:x.cl=some u) (f:Nm→Option (Option Ob)) (g:Nm→Nm):(x.pv.sub f).ren g=u:=by
 have hu:=KV.cl_ok hx h
 rw[KV.cl_pv h,qkq (qfk hu).1,qmd (qfk hu).1]
mutual
theorem Qlp {R:Type} {r:R}:∀ (sh:RSh) (x:KV),x.ok→∀ {K:PV→Option R},qqb σ S sh x K=some r→∀ (pre post:List Nm),S=pre++qr6 sh x++post →
  ∃ u,K u=some r∧qhn obs sh pre.length ((x.pv.sub (subH σ S)).ren (Qbq S))=some (u,pre.length+(qr6 sh x).length)
 | .cl,x,hx,K,hr,pre,post,_=>by
  have hclose:(if x.names.all fun nm=>!S.contains nm then qfl (okU (x.close (qda σ qbe))) (K (x.close (qda σ qbe))) else none)=some r →
    ∃ u,K u=some r∧qhn obs .cl pre.length ((x.pv.sub (subH σ S)).ren (Qbq S))=some (u,pre.length+(qr6 .cl x).length):=by
   intro hr
   split at hr
   ·rename_i hn
    obtain⟨h1,hr⟩:=qbj hr
    unfold okU at h1
    refine⟨_,hr,?_⟩
    rw[close_subH hσ hx hn,qmd (qfk h1).1]
    simp[qhn,h1,qfl,qr6]
   ·cases hr
  simp only[qqb] at hr
  cases hu:x.cl with
  | some u =>
   rw[hu] at hr
   refine⟨u,hr,?_⟩
   rw[sub_cl hx hu]
   simp[qhn,KV.cl_ok hx hu,qfl,qr6]
  | none =>
   rw[hu] at hr
   cases x with
   | tup xs =>
    simp only at hr
    cases hus:clL xs with
    | some us =>
     rw[hus] at hr
     have hok:=qrx (xs:=xs) hx hus
     have htup:okV (.tup us)=true:=by simpa[okV] using hok
     refine⟨.tup us,hr,?_⟩
     have:(KV.tup xs).pv=.tup us:=by simp[KV.pv,qt4 hus]
     rw[this,qkq (qfk htup).1,qmd (qfk htup).1]
     simp[qhn,htup,qfl,qr6]
    | none=>rw[hus] at hr;exact hclose hr
   | _=>exact hclose hr
 | .own k,x,hx,K,hr,pre,post,hS=>by
  simp only[qqb] at hr
  split at hr
  ·rename_i nm k' o n
   split at hr
   ·rename_i k'' kt xs hl
    split at hr
    ·rename_i hc
     obtain⟨rfl,rfl,ho⟩:=hc
     rw[qzu] at ho
     subst ho
     obtain⟨h1,hr⟩:=qbj hr
     rw[qxs] at h1
     unfold qmz at h1
     simp only[qr6] at hS
     refine⟨_,hr,?_⟩
     have hmem:S.contains nm=true:=by rw[List.contains_iff_mem,hS];simp
     have hi:S[pre.length]?=some nm:=by rw[hS];simp
     have hidx:S.idxOf nm=pre.length:=by
      have e:S=pre++nm :: []++post:=by rw[hS]
      rw[e];exact Qgd (e ▸ hnd)
     have hob:obs[pre.length]?=some (.arr k 0 xs):=by rw[hobs _ _ hi,hl];rfl
     have hxok:qcy xs=true:=hσ _ _ hl
     have hsub:(PV.arr nm k 0 n).sub (subH σ S)=.arr nm k 0 n:=by
      simp only[PV.sub,subH,hmem,if_true]
     simp only[KV.pv]
     rw[hsub]
     simp[PV.ren,Qbq,hidx,qhn,hob,qfl,h1,hxok,qr6]
    ·cases hr
   ·cases hr
  ·cases hr
 | .opt k,x,hx,K,hr,pre,post,hS=>by
  simp only[qqb] at hr
  split at hr
  ·rename_i nm k' o n
   split at hr
   ·rename_i k'' kt xs hl
    split at hr
    ·rename_i hc
     obtain⟨rfl,rfl,ho⟩:=hc
     rw[qzu] at ho
     subst ho
     obtain⟨h1,hr⟩:=qbj hr
     rw[qxs] at h1
     unfold qmz at h1
     simp only[qr6] at hS
     refine⟨_,hr,?_⟩
     have hmem:S.contains nm=true:=by rw[List.contains_iff_mem,hS];simp
     have hi:S[pre.length]?=some nm:=by rw[hS];simp
     have hidx:S.idxOf nm=pre.length:=by
      have e:S=pre++nm :: []++post:=by rw[hS]
      rw[e];exact Qgd (e ▸ hnd)
     have hob:obs[pre.length]?=some (.arr k 0 xs):=by rw[hobs _ _ hi,hl];rfl
     have hxok:qcy xs=true:=hσ _ _ hl
     have hsub:(PV.arr nm k 0 n).sub (subH σ S)=.arr nm k 0 n:=by
      simp only[PV.sub,subH,hmem,if_true]
     simp only[KV.pv]
     rw[hsub]
     simp[PV.ren,Qbq,hidx,qhn,hob,qfl,h1,hxok,qr6]
    ·cases hr
   ·cases hr
  ·refine⟨.nilS,hr,?_⟩
   simp[KV.pv,PV.sub,PV.ren,qhn,qr6]
  ·unfold nilO at hr
   split at hr
   ·refine⟨.nilS,hr,?_⟩
    simp[KV.pv,PV.sub,PV.ren,qhn,qr6]
   ·cases hr
  ·cases hr
 | .tup l,x,hx,K,hr,pre,post,hS=>by
  simp only[qqb] at hr
  split at hr
  ·rename_i xs
   simp only[qr6] at hS
   obtain⟨us,h1,h2⟩:=qwv l xs hx hr pre post hS
   refine⟨_,h1,?_⟩
   simp only[KV.pv,PV.sub,PV.ren,qhn,h2,qr6]
   rfl
  ·cases hr
 | .agg l,x,hx,K,hr,pre,post,hS=>by
  simp only[qqb] at hr
  split at hr
  ·rename_i xs
   simp only[qr6] at hS
   obtain⟨us,h1,h2⟩:=qwv l xs hx hr pre post hS
   refine⟨_,h1,?_⟩
   simp only[KV.pv,PV.sub,PV.ren,qhn,h2,qr6]
   rfl
  ·cases hr
theorem qwv {R:Type} {r:R}:∀ (l:List RSh) (xs:List KV),qfp xs→∀ {K:List PV→Option R},qnk σ S l xs K=some r→∀ (pre post:List Nm),S=pre++qt6 l xs++post →
  ∃ us,K us=some r∧qka obs l pre.length (qf1 (Qbq S) (qdy (subH σ S) (pvL xs)))=some (us,pre.length+(qt6 l xs).length)
 | [],[],_,K,hr,pre,post,_=>⟨[],hr,by simp[pvL,qdy,qf1,qka,qt6]⟩
 | [],_ :: _,_,K,hr,_,_,_=>by simp[qnk] at hr
 | _ :: _,[],_,K,hr,_,_,_=>by simp[qnk] at hr
 | s :: l,x :: xs,hx,K,hr,pre,post,hS=>by
  simp only[qnk] at hr
  simp only[qt6] at hS
  obtain⟨u,hr,h1⟩:=Qlp s x hx.1 hr pre (qt6 l xs++post) (by rw[hS];simp[List.append_assoc])
  obtain⟨us,hr,h2⟩:=qwv l xs hx.2 hr (pre++qr6 s x) post (by rw[hS];simp[List.append_assoc])
  refine⟨u :: us,hr,?_⟩
  simp only[pvL,qdy,qf1,qka,h1]
  rw[List.length_append] at h2
  rw[h2]
  simp[qt6,Nat.add_assoc]
end
end hand
theorem own_arr {σ:Nm→Option KOb} {S:List Nm} {R:Type} {r:R}:∀ (sh:RSh) (x:KV) {K:PV→Option R},qqb σ S sh x K=some r→(∀ nm∈qr6 sh x,∃ k kt xs,σ nm=some (.arr k kt xs))∧∃ u,K u=some r:=by
 intro sh
 refine RSh.rec (motive_1:=fun sh=>∀ (x:KV) {K:PV→Option R},qqb σ S sh x K=some r→(∀ nm∈qr6 sh x,∃ k kt xs,σ nm=some (.arr k kt xs))∧∃ u,K u=some r)
  (motive_2:=fun l=>∀ (xs:List KV) {K:List PV→Option R},qnk σ S l xs K=some r→(∀ nm∈qt6 l xs,∃ k kt ys,σ nm=some (.arr k kt ys))∧∃ us,K us=some r) ?_ ?_ ?_ ?_ ?_ ?_ ?_ sh
 ·intro x K hr
  refine⟨by simp[qr6],?_⟩
  simp only[qqb] at hr
  split at hr
  ·exact⟨_,hr⟩
  ·split at hr
   ·split at hr
    ·exact⟨_,hr⟩
    ·split at hr
     ·exact⟨_,(qbj hr).2⟩
     ·cases hr
   ·split at hr
    ·exact⟨_,(qbj hr).2⟩
    ·cases hr
 ·intro k x K hr
  simp only[qqb] at hr
  split at hr
  ·rename_i nm k' o n
   split at hr
   ·rename_i k'' kt xs hl
    split at hr
    ·exact⟨by simp[qr6,hl],_,(qbj hr).2⟩
    ·cases hr
   ·cases hr
  ·cases hr
 ·intro k x K hr
  simp only[qqb] at hr
  split at hr
  ·rename_i nm k' o n
   split at hr
   ·rename_i k'' kt xs hl
    split at hr
    ·exact⟨by simp[qr6,hl],_,(qbj hr).2⟩
    ·cases hr
   ·cases hr
  ·exact⟨by simp[qr6],_,hr⟩
  ·unfold nilO at hr
   split at hr
   ·exact⟨by simp[qr6],_,hr⟩
   ·cases hr
  ·cases hr
 ·intro l ih x K hr
  simp only[qqb] at hr
  split at hr
  ·rename_i xs
   obtain⟨h1,us,h2⟩:=ih xs hr
   exact⟨by simpa[qr6] using h1,_,h2⟩
  ·cases hr
 ·intro l ih x K hr
  simp only[qqb] at hr
  split at hr
  ·rename_i xs
   obtain⟨h1,us,h2⟩:=ih xs hr
   exact⟨by simpa[qr6] using h1,_,h2⟩
  ·cases hr
 ·intro xs K hr
  cases xs with
  | nil=>exact⟨by simp[qt6],_,hr⟩
  | cons x xs=>simp[qnk] at hr
 ·intro s l ihs ihl xs K hr
  cases xs with
  | nil=>simp[qnk] at hr
  | cons x xs =>
   simp only[qnk] at hr
   obtain⟨h1,u,hr⟩:=ihs x hr
   obtain⟨h2,us,hr⟩:=ihl xs hr
   refine⟨?_,_,hr⟩
   intro nm hm
   simp only[qt6,List.mem_append] at hm
   exact hm.elim (h1 nm) (h2 nm)
theorem qpb (shut:Bool) {v:KV} (h:v.ok):qsn shut v=qm0 shut v.pv:=by
 cases shut with
 | true=>rfl
 | false=>exact ktops_ok h
theorem Qf1 {R:Type} {r:R} (h:ks.Ok) {shut:Bool} {sh:RSh} {v:KV} (hv:v.ok) {K:PV→Option R} (hr:qq4 ks shut sh v K=some r):∃ u rv obs,K u=some r∧qjo shut ks.st v.pv=some (rv,obs)∧qmt sh rv obs=some u:=by
 unfold qq4 at hr
 simp only at hr
 split at hr
 case isFalse=>cases hr
 rename_i hc
 obtain⟨hS,hnd,hdis,hsh⟩:=hc
 have hσ:=qb8 h
 obtain⟨harr,_⟩:=own_arr sh v hr
 rw[←hS] at harr
 have hlk:=qdd h
 obtain⟨obs,hm,hall,hlen,hget⟩:=mapM_look (σ:=qbf ks.st.objs) (S:=qsn shut v) fun nm hm=>by
  obtain⟨k,kt,xs,he⟩:=harr nm hm
  exact⟨.arr k kt xs,by rw[qja h,he];rfl,rfl⟩
 have hnd':=qzb.1 hnd
 obtain⟨u,hu,hconv⟩:=Qlp hσ hnd' (obs:=obs.map Ob.bare) (fun i nm hi=>by rw[List.getElem?_map,hget i nm hi,qja h,Option.map_map];rfl) sh v hv hr [] [] (by rw[←hS];simp)
 refine⟨u,(v.pv.sub (subH (qck ks.objs) (qsn shut v))).ren (Qbq (qsn shut v)),obs.map Ob.bare,hu,?_,?_⟩
 ·have e:(fun nm=>if (qm0 shut v.pv).contains nm=true then none else qb5 (qbf ks.st.objs) nm)=subH (qck ks.objs) (qsn shut v):=by
   funext nm
   unfold subH
   rw[qpb shut hv,hlk]
  rw[qfw hσ,←hlk] at hdis hsh
  rw[qpc hσ,←hlk] at hsh
  rw[qpb shut hv,←KV.pv_names hv] at hdis hsh
  rw[qpb shut hv] at hnd hm
  unfold qjo
  simp only[hnd,hdis,Bool.and_self,if_true,hm,hsh,hall,chk,e,qpb shut hv]
 ·unfold qmt
  simp only[List.length_nil,Nat.zero_add] at hconv
  rw[hconv]
  simp[qfl,hlen,hS]
theorem Qjz {nt:Nat} {args:List KV} (ha:qfp args) (hu:∀ x∈args,qqd x=false) (hl:args.length≤nt):({nt,tmps:=args.zipIdx.map fun p=>(p.2,p.1),objs:=[],keep:=[]}:KSt).Ok ∧
  ({nt,tmps:=args.zipIdx.map fun p=>(p.2,p.1),objs:=[],keep:=[]}:KSt).st={tmps:=pvL args++List.replicate (nt - (pvL args).length) .undef,objs:=List.replicate nt [],keep:=[]}:=by
 have hmem:∀ p∈args.zipIdx.map (fun p=>(p.2,p.1)),args[p.1]?=some p.2:=by
  intro p hp
  obtain⟨⟨x,i⟩,hq,rfl⟩:=List.mem_map.1 hp
  rw[List.mem_zipIdx_iff_getElem?] at hq
  exact hq
 have hw:qkk nt (args.zipIdx.map fun p=>(p.2,p.1)):=by
  refine⟨?_,?_,?_,?_⟩
  ·rw[List.map_map]
   have:((fun p:Nat×KV=>p.1)∘fun p:KV×Nat=>(p.2,p.1))=Prod.snd:=rfl
   rw[this,List.zipIdx_map_snd]
   exact List.pairwise_lt_range'
  ·intro p hp
   have:=(List.getElem?_eq_some_iff.1 (hmem p hp)).1
   omega
  ·intro p hp;exact qcq.1 ha _ (List.mem_of_getElem? (hmem p hp))
  ·intro p hp;exact hu _ (List.mem_of_getElem? (hmem p hp))
 refine⟨⟨hw,.nil nt,by simp⟩,?_⟩
 unfold KSt.st
 simp only[List.flatMap_nil]
 congr 1
 ·refine qj6 (by simp[qdp];omega) fun i hi=>?_
  by_cases hia:i < args.length
  ·rw[List.getElem?_append_left (by rw[qdp];exact hia),pvL_get?,List.getElem?_eq_getElem hia]
   have hp:(i,args[i])∈args.zipIdx.map (fun p=>(p.2,p.1)):=by
    refine List.mem_map.2 ⟨(args[i],i),?_,rfl⟩
    rw[List.mem_zipIdx_iff_getElem?]
    simp[hia]
   rw[show qb7 (args.zipIdx.map fun p=>(p.2,p.1)) i=args[i] from hw.get_mem hp]
   rfl
  ·rw[List.getElem?_append_right (by rw[qdp];omega),List.getElem?_replicate,if_pos (by rw[qdp];omega)]
   rw[show qb7 (args.zipIdx.map fun p=>(p.2,p.1)) i=.un from qv0 fun p hp=>by
    have:=(List.getElem?_eq_some_iff.1 (hmem p hp)).1
    omega]
   rfl
 ·refine qhm (by simp) fun i hi=>?_
  rw[List.getElem?_replicate,if_pos hi]
  rfl
theorem runK_ok (hc:qmy cfg tab) {g:FuncId} {fn:RFn} (ht:tab g=some fn) {E:Type} {h:qbg E} {hn:Nat→qbg E} (hh:HOk h hn) {dep:Nat} {sh:RSh} {args:List KV} {e e':E} {u:PV}
  (ha:qfp args) (hu:∀ x∈args,qqd x=false) (hl:args.length≤fn.nt) (hr:runK cfg fn sh h dep args e=some (u,e')) :
  ∃ r obs,qmt sh r obs=some u∧Evl fun n=>qbi cfg.b.sp tab n E (hn n) dep g (pvL args) e=some (r,obs,e'):=by
 unfold runK at hr
 rw[qcr] at hr
 obtain⟨i1,i2⟩:=Qjz ha hu hl
 have hh':HOk h fun n=>hn (n+1):=fun l args e r hq=>by
  obtain⟨a,hb⟩:=hh l args e r hq
  exact⟨a,fun n hn'=>hb (n+1) (by omega)⟩
 obtain⟨x,k1,e1,hr,hk1,hev⟩:=Qc9 hc fn.code hh' dep i1 hr
 rw[i2] at hev
 have fin:(qtl k1 fn.res fun vs=>qq4 k1 fn.shut sh (qtn vs) fun v=>some (v,e1))=some (u,e')→(∀ id,x≠.exit id)→∃ r obs,qmt sh r obs=some u∧Evl fun n=>qbi cfg.b.sp tab n E (hn n) dep g (pvL args) e=some (r,obs,e'):=by
  intro hr hx
  obtain⟨vs,hr,hvs,h1⟩:=Qfw hk1 fn.res hr
  obtain⟨o1,o2⟩:=Qfy hvs
  obtain⟨u',rv,obs,hr,h2,h3⟩:=Qf1 hk1 o1 hr
  cases hr
  refine⟨rv,obs,h3,hev.shift.mono ?_⟩
  rintro k ⟨j,rfl,hj⟩
  show qnz (qgt cfg.b.sp tab j) j tab E (hn (j+1)) dep g (pvL args) e=_
  simp only[qnz,ht]
  simp only[qhy] at hj
  rw[hj]
  cases x with
  | exit id=>exact absurd rfl (hx id)
  | normal=>simp only[h1];rw[←o2,h2]
  | ret=>simp only[h1];rw[←o2,h2]
 cases x with
 | exit id=>cases hr
 | normal=>exact fin hr (by simp)
 | ret=>exact fin hr (by simp)
end Go.Ab


namespace Go.Ab
section
variable {cfg:qx7} {tab:FuncId→Option RFn}
theorem cvL_pv:∀ (vs:List PV),pvL (vs.map KV.cv)=vs
 | []=>rfl
 | v :: vs=>by simp[pvL,KV.pv,cvL_pv vs]
theorem cvL_ok {vs:List PV} (h:qcy vs=true):qfp (vs.map KV.cv):=qcq.2 fun x hx=>by
 obtain⟨v,hv,rfl⟩:=List.mem_map.1 hx
 exact qdm.1 h v hv
theorem cvL_un {vs:List PV}:∀ x∈vs.map KV.cv,qqd x=false:=fun x hx=>by
 obtain⟨v,_,rfl⟩:=List.mem_map.1 hx
 rfl
theorem noH:HOk qba (fun _=>qba):=fun _ _ _ _ h=>by cases h
theorem Qkk (hc:qmy cfg tab) {g:FuncId} {fn:RFn} (ht:tab g=some fn) {sh:RSh} {cap args:List PV} {u:PV} (ha:qcy (args++cap)=true) (hl:(args++cap).length≤fn.nt)
  (hsp:cfg.b.sp g (fun _=>none) (args++cap)=none) (hr:runK cfg fn sh qba 0 ((args++cap).map KV.cv) ()=some (u,())) (hio:fn.io=false:=by rfl) (hb:Nat.blt g qgo=true:=by rfl):qke cfg.b sh (.fn g cap) args=some u:=by
 have hid:qd2 g=g:=by simp[qd2,hb]
 have hfa:qb3 g args cap=args++cap:=by simp[qb3,hb]
 obtain⟨r,obs,h1,h2⟩:=runK_ok hc ht (hn:=fun _=>qba) noH (cvL_ok ha) cvL_un (by simpa using hl) hr
 rw[cvL_pv] at h2
 have hL:cfg.b.L Unit qba 0 g (args++cap) ()=some (r,obs,()):=by rw[hc.L];exact lim_of h2
 have hfl:cfg.b.isIo g=false:=by rw[hc.isIo];unfold qji;rw[ht];exact hio
 unfold qke
 simp only[hid,hfa,spO,hsp,hL,hfl,Bool.false_eq_true,if_false]
 exact h1
theorem conv_cl {r u:PV} {obs:List Ob} (h:qmt .cl r obs=some u):r=u∧obs=[]∧okV u=true:=by
 unfold qmt at h
 simp only[qhn] at h
 split at h
 ·rename_i r' j hr
  obtain⟨h1,h2⟩:=qbj hr
  cases h2
  obtain⟨h3,h4⟩:=qbj h
  cases h4
  simp only[beq_iff_eq] at h3
  exact⟨rfl,List.length_eq_zero_iff.1 h3.symm,h1⟩
 ·cases h
theorem law_of_run (hc:qmy cfg tab) {g:FuncId} {fn:RFn} (ht:tab g=some fn) {args:List PV} {b:Bool} (ha:qcy args=true) (hl:args.length≤fn.nt)
  (hr:runK cfg fn .cl qba 0 (args.map KV.cv) ()=some (.bool b,())):∃ n,qbi cfg.b.sp tab n Unit qba 0 g args ()=some (.bool b,[],()):=by
 obtain⟨r,obs,h1,m,hm⟩:=runK_ok hc ht (hn:=fun _=>qba) noH (cvL_ok ha) cvL_un (by simpa using hl) hr
 rw[cvL_pv] at hm
 obtain⟨e1,e2,_⟩:=conv_cl h1
 subst e1;subst e2
 exact⟨m,hm m (Nat.le_refl _)⟩
end
@[simp] theorem bindO_val {α β:Type} (a:α) (f:α→Option β):qcd (some a) f=f a:=rfl
@[simp] theorem bindO_none' {α β:Type} (f:α→Option β):qcd none f=none:=rfl
@[simp] theorem chkO_true {β:Type} (a:Option β):qfl true a=a:=rfl
@[simp] theorem chkO_false {β:Type} (a:Option β):qfl false a=none:=rfl
@[simp] theorem iteP_bool {β:Type} (b:Bool) (x y:Option β):Qcs (.bool b) x y=if b=true then x else y:=by cases b<;>rfl
@[simp] theorem iteB_bool {β:Type} (b:Bool) (x y:Option β):iteB b x y=if b=true then x else y:=by cases b<;>rfl
section pure
variable {c:TC} {cst:Bool} {k:IntKind}
@[simp] theorem pure_add (a b:Int):qbz (.bin .add c cst (.c (.int k a)) (.c (.int k b)))=some (.int k (k.wrap (a+b))):=by simp[qbz,exec,RX.ev,qmu,chk,qk0]
@[simp] theorem pure_sub (a b:Int):qbz (.bin .sub c cst (.c (.int k a)) (.c (.int k b)))=some (.int k (k.wrap (a - b))):=by simp[qbz,exec,RX.ev,qmu,chk,qk0]
@[simp] theorem pure_mul (a b:Int):qbz (.bin .mul c cst (.c (.int k a)) (.c (.int k b)))=some (.int k (k.wrap (a*b))):=by simp[qbz,exec,RX.ev,qmu,chk,qk0]
@[simp] theorem pure_eql (a b:Int):qbz (.bin .eql c cst (.c (.int k a)) (.c (.int k b)))=some (.bool (a==b)):=by simp[qbz,exec,RX.ev,qmu,chk,qk0,qt3]
@[simp] theorem pure_neq (a b:Int):qbz (.bin .neq c cst (.c (.int k a)) (.c (.int k b)))=some (.bool (a != b)):=by simp[qbz,exec,RX.ev,qmu,chk,qk0,qt3]
@[simp] theorem pure_lss (a b:Int):qbz (.bin .lss c cst (.c (.int k a)) (.c (.int k b)))=some (.bool (decide (a < b))):=by simp[qbz,exec,RX.ev,qmu,chk,qk0,qt3]
@[simp] theorem pure_leq (a b:Int):qbz (.bin .leq c cst (.c (.int k a)) (.c (.int k b)))=some (.bool (decide (a≤b))):=by simp[qbz,exec,RX.ev,qmu,chk,qk0,qt3]
@[simp] theorem pure_gtr (a b:Int):qbz (.bin .gtr c cst (.c (.int k a)) (.c (.int k b)))=some (.bool (decide (b < a))):=by simp[qbz,exec,RX.ev,qmu,chk,qk0,qt3]
@[simp] theorem pure_geq (a b:Int):qbz (.bin .geq c cst (.c (.int k a)) (.c (.int k b)))=some (.bool (decide (b≤a))):=by simp[qbz,exec,RX.ev,qmu,chk,qk0,qt3]
@[simp] theorem pure_eqs (a b:List UInt8):qbz (.bin .eql c cst (.c (.str a)) (.c (.str b)))=some (.bool (a==b)):=by simp[qbz,exec,RX.ev,qmu,qx2]
@[simp] theorem pure_nes (a b:List UInt8):qbz (.bin .neq c cst (.c (.str a)) (.c (.str b)))=some (.bool (!(a==b))):=by simp[qbz,exec,RX.ev,qmu,qx2]
@[simp] theorem pure_eqb (a b:Bool):qbz (.bin .eql .bool cst (.c (.bool a)) (.c (.bool b)))=some (.bool (a==b)):=by simp[qbz,exec,RX.ev,qmu,Qgw]
@[simp] theorem pure_neb (a b:Bool):qbz (.bin .neq .bool cst (.c (.bool a)) (.c (.bool b)))=some (.bool (!(a==b))):=by simp[qbz,exec,RX.ev,qmu,Qgw]
@[simp] theorem pure_not (b:Bool):qbz (.un .not (.c (.bool b)))=some (.bool (!b)):=rfl
@[simp] theorem pure_neg (n:Int):qbz (.un .neg (.c (.int k n)))=some (.int k (k.wrap (0 - n))):=rfl
@[simp] theorem pure_conv {k':IntKind} (n:Int):qbz (.conv k (.c (.int k' n)))=some (.int k (k.wrap n)):=rfl
@[simp] theorem pure_lens (s:List UInt8):qbz (.len .str (.c (.str s)))=some (.int .i64 (s.length:Int)):=rfl
@[simp] theorem pure_lenl {j:Nat} (xs:List PV) (f:Bool):qbz (.len .slice (.c (.sl j xs f)))=some (.int .i64 (xs.length:Int)):=rfl
@[simp] theorem pure_lenn:qbz (.len .slice (.c .nilS))=some (.int .i64 0):=rfl
@[simp] theorem pure_tup (j:Nat) (xs:List PV):qbz (.extract j (.c (.tup xs)))=xs[j]?:=by
 simp only[qbz,exec,RX.ev];cases xs[j]?<;>rfl
@[simp] theorem pure_load {n o:Nat} {ag:Bool} (cs:List PV):qbz (.load n ag (.c (.ptr cs o)))=sel cs o n ag:=by
 simp only[qbz,exec,RX.ev];cases sel cs o n ag<;>rfl
@[simp] theorem pure_field {n o:Nat} {ag:Bool} (cs:List PV):qbz (.field o n ag (.c (.agg cs)))=sel cs o n ag:=by
 simp only[qbz,exec,RX.ev];cases sel cs o n ag<;>rfl
@[simp] theorem pure_nilck (cs:List PV) (o:Nat):qbz (.nilck (.c (.ptr cs o)))=some (.ptr cs o):=rfl
@[simp] theorem pure_nilckf (f:Nat) (cs:List PV):qbz (.nilck (.c (.fn f cs)))=some (.fn f cs):=rfl
@[simp] theorem pure_faddr {off o:Nat} (cs:List PV):qbz (.fieldAddr off (.c (.ptr cs o)))=if o+off < cs.length then some (.ptr cs (o+off)) else none:=by
 by_cases hq:o+off < cs.length<;>simp[qbz,exec,RX.ev,chk,hq]
theorem pure_ssl2 {s:List UInt8} {h:Nat} (hh:h≤s.length):qbz (.strSlice (.c (.str s)) none (some (.c (.int k (h:Int)))))=some (.str (s.take h)):=by
 simp[qbz,exec,RX.ev,evO,ql2,qqx,chk,hh]
end pure
@[simp] theorem sel_one (v:PV):sel [v] 0 1 false=some v:=rfl
@[simp] theorem cells_int (k:IntKind) (n:Int):(PV.int k n).cells=[.int k n]:=rfl
@[simp] theorem cells_str (s:List UInt8):(PV.str s).cells=[.str s]:=rfl
@[simp] theorem cells_bool (b:Bool):(PV.bool b).cells=[.bool b]:=rfl
@[simp] theorem cells_agg' (cs:List PV):(PV.agg cs).cells=cs:=rfl
@[simp] theorem addN_eq (a b:Nat):qx9 a b=a+b:=rfl
@[simp] theorem subN_eq (a b:Nat):subN a b=a - b:=rfl
@[simp] theorem minN_eq (a b:Nat):minN a b=min a b:=rfl
@[simp] theorem lenL_eq (l:List PV):qmz l=l.length:=rfl
@[simp] theorem takeL_eq (n:Nat) (l:List PV):qyc n l=l.take n:=rfl
@[simp] theorem dropL_eq (n:Nat) (l:List PV):dropL n l=l.drop n:=rfl
@[simp] theorem catL_eq (l m:List PV):catL l m=l++m:=rfl
@[simp] theorem replL_eq (n:Nat) (v:PV):replL n v=List.replicate n v:=rfl
@[simp] theorem itemsP_sl (k:Nat) (xs:List PV) (f:Bool):qkv (.sl k xs f)=xs:=rfl
@[simp] theorem natP_int (k:IntKind) (n:Int):Qlh (.int k n)=n.toNat:=rfl
@[simp] theorem nI_eq (n:Nat):nI n=.int .i64 (n:Int):=rfl
@[simp] theorem andB_eq (a b:Bool):andB a b=(a&&b):=rfl
@[simp] theorem leN_eq (a b:Nat):leN a b=decide (a≤b):=by
 rw[Bool.eq_iff_iff,qwr,decide_eq_true_iff]
@[simp] theorem ltN_eq (a b:Nat):ltN a b=decide (a < b):=by
 rw[Bool.eq_iff_iff,qsm,decide_eq_true_iff]
@[simp] theorem eqN_eq (a b:Nat):eqN a b=decide (a=b):=by
 rw[Bool.eq_iff_iff,qxs,decide_eq_true_iff]
@[simp] theorem nth_0 (x:PV) (l:List PV):nth (x :: l) 0=x:=rfl
@[simp] theorem nth_1 (a x:PV) (l:List PV):nth (a :: x :: l) 1=x:=rfl
@[simp] theorem nth_2 (a b x:PV) (l:List PV):nth (a :: b :: x :: l) 2=x:=rfl
@[simp] theorem nth_3 (a b c x:PV) (l:List PV):nth (a :: b :: c :: x :: l) 3=x:=rfl
@[simp] theorem nth_4 (a b c d x:PV) (l:List PV):nth (a :: b :: c :: d :: x :: l) 4=x:=rfl
@[simp] theorem nth_5 (a b c d e x:PV) (l:List PV):nth (a :: b :: c :: d :: e :: x :: l) 5=x:=rfl
@[simp] theorem nth_6 (a b c d e f x:PV) (l:List PV):nth (a :: b :: c :: d :: e :: f :: x :: l) 6=x:=rfl
@[simp] theorem nth_7 (a b c d e f g x:PV) (l:List PV):nth (a :: b :: c :: d :: e :: f :: g :: x :: l) 7=x:=rfl
@[simp] theorem nth_8 (a b c d e f g h x:PV) (l:List PV):nth (a :: b :: c :: d :: e :: f :: g :: h :: x :: l) 8=x:=rfl
@[simp] theorem selO_eq (v:PV) (o n:Nat) (ag:Bool):selO v o n ag=sel v.cells o n ag:=rfl
@[simp] theorem natO_int (k:IntKind) (n:Nat):natO (.int k (n:Int))=some n:=by simp[natO,qqx]
end Go.Ab


namespace Go.Ab
section
variable {cfg:qx7} {tab:FuncId→Option RFn}
theorem kisUn_eq {x:KV} (h:kisUn x=false):qqd x=false:=by cases x<;>first | rfl | cases h
theorem evalDK_ok (hc:qmy cfg tab) {nt:Nat}:∀ (c:qcm) {R:Type} {ks:KSt} {K:Ex→KSt→List Nat→Option R} {r:R},ks.Ok→qjl cfg nt c ks K=some r →
  ∃ x k' l,K x k' l=some r∧k'.Ok∧Evl fun n=>qca (qhy cfg.b.sp tab n) n nt c ks.st=some (x,k'.st,l):=by
 intro c
 induction c with
 | dreg ops f args lv =>
  intro R ks K r hk hr
  simp only[qjl] at hr
  rw[qcr] at hr
  obtain⟨c1,c2,_⟩:=qlp hk (qmp ops)
  obtain⟨k1,e1,hr,hk1,h1⟩:=Qcl (hn:=fun _=>qba) (dep:=0) hc noH ops c2 hr
  split at hr
  case isFalse=>cases hr
  rename_i hcd
  obtain⟨a1,a2,a3,a4⟩:=hcd
  rw[qcr] at hr
  simp only[Bool.and_eq_true] at a2
  have hle:args.length+1≤nt:=Nat.le_of_ble_eq_true a2.1
  have hnt:k1.nt=nt:=Nat.eq_of_beq_eq_true a2.2
  have hxf:okX f=true:=List.all_eq_true.1 a3 f (by simp)
  have hxa:args.all okX=true:=List.all_eq_true.2 fun x hm=>List.all_eq_true.1 a3 x (by simp[hm])
  have hfo:=kv_ok hk1 hxf
  have hao:=qwm hk1 hxa
  have hfe:=qsb hk1 f
  have hae:args.map (RX.ev k1.st.tmps)=pvL (args.map (RX.kv k1.tmps)):=qnf hk1 args
  generalize hxs:f.kv k1.tmps :: args.map (RX.kv k1.tmps)=xs at hr a4
  have hlen:xs.length=args.length+1:=by rw[←hxs];simp
  have hok:qfp xs:=by rw[←hxs];exact⟨hfo,hao⟩
  have hpv:pvL xs=f.ev k1.st.tmps :: args.map (RX.ev k1.st.tmps):=by rw[←hxs,hfe,hae];rfl
  obtain⟨i1,i2⟩:=Qjz (nt:=nt) hok (fun x hx=>kisUn_eq (by
   rw[List.any_eq_false] at a4
   simpa using a4 x hx)) (by omega)
  have e1:qc7 nt (xs.zipIdx.map fun p=>(p.2,p.1))=pvL xs++List.replicate (nt - (pvL xs).length) .undef:=congrArg St.tmps i2
  have hk2:({k1 with keep:=(xs.zipIdx.map fun p=>(p.2,p.1)) :: k1.keep}:KSt).Ok:=⟨hk1.tm,hk1.ob,fun sp hsp=>by
   rcases List.mem_cons.1 hsp with rfl | hsp
   ·rw[hnt];exact i1.tm
   ·exact hk1.kp sp hsp⟩
  have hst2:({k1 with keep:=(xs.zipIdx.map fun p=>(p.2,p.1)) :: k1.keep}:KSt).st=pushD nt (f.ev k1.st.tmps :: args.map (RX.ev k1.st.tmps)) k1.st:=by
   rw[←hpv]
   unfold pushD KSt.st
   simp only[List.flatMap_cons]
   rw[hnt,e1]
  obtain⟨t1,t2⟩:=qvg hk2 lv
  have hfn:isFn (f.ev k1.st.tmps)=true:=by
   rw[hfe]
   cases hq:f.kv k1.tmps with
   | fn g cap=>rfl
   | _=>rw[hq] at a1;cases a1
  refine⟨_,_,_,hr,t2,h1.mono fun n hn'=>?_⟩
  rw[c1] at hn'
  simp only[qca,hn',t1,hst2,chk,hfn,Bool.and_true,decide_eq_true_eq,if_pos hle]
 | seq a b iha ihb =>
  intro R ks K r hk hr
  simp only[qjl] at hr
  obtain⟨x,k1,l,hr,hk1,h1⟩:=iha hk hr
  cases x with
  | normal =>
   obtain⟨x2,k2,l2,hr,hk2,h2⟩:=ihb hk1 hr
   exact⟨_,_,_,hr,hk2,h1.mono2 h2 fun n a b=>by simp only[qca,a,b]⟩
  | exit id=>exact⟨_,_,_,hr,hk1,h1.mono fun n a=>by simp only[qca,a]⟩
  | ret=>exact⟨_,_,_,hr,hk1,h1.mono fun n a=>by simp only[qca,a]⟩
 | cond c a b iha ihb =>
  intro R ks K r hk hr
  simp only[qjl] at hr
  have hev:=qsb hk c
  split at hr
  ·rename_i hv
   obtain⟨x,k1,e1,hr,hk1,h1⟩:=iha hk hr
   exact⟨_,_,_,hr,hk1,h1.mono fun n a=>by simp only[qca,hev,hv,KV.pv,a]⟩
  ·rename_i hv
   obtain⟨x,k1,e1,hr,hk1,h1⟩:=ihb hk hr
   exact⟨_,_,_,hr,hk1,h1.mono fun n a=>by simp only[qca,hev,hv,KV.pv,a]⟩
  ·rename_i v hv
   rcases qq7 hr with ⟨rfl,hr⟩ | ⟨rfl,hr⟩
   ·obtain⟨x,k1,e1,hr,hk1,h1⟩:=iha hk hr
    exact⟨_,_,_,hr,hk1,h1.mono fun n a=>by simp only[qca,hev,hv,KV.pv,a]⟩
   ·obtain⟨x,k1,e1,hr,hk1,h1⟩:=ihb hk hr
    exact⟨_,_,_,hr,hk1,h1.mono fun n a=>by simp only[qca,hev,hv,KV.pv,a]⟩
  ·cases hr
 | block id b ih =>
  intro R ks K r hk hr
  simp only[qjl] at hr
  obtain⟨x,k1,l,hr,hk1,h1⟩:=ih hk hr
  cases x with
  | normal=>exact⟨_,_,_,hr,hk1,h1.mono fun n a=>by simp only[qca,a]⟩
  | ret=>exact⟨_,_,_,hr,hk1,h1.mono fun n a=>by simp only[qca,a]⟩
  | exit id' =>
   simp only at hr
   split at hr
   ·rename_i hid;exact⟨_,_,_,hr,hk1,h1.mono fun n a=>by simp only[qca,a,hid,if_true]⟩
   ·rename_i hid;exact⟨_,_,_,hr,hk1,h1.mono fun n a=>by simp only[qca,a,hid,if_false]⟩
 | scope b ih =>
  intro R ks K r hk hr
  simp only[qjl] at hr
  split at hr
  ·cases hr
  rename_i hlb
  obtain⟨x,k1,l,hr,hk1,h1⟩:=ih hk hr
  cases x with
  | normal=>exact⟨_,_,_,hr,hk1,h1.mono fun n a=>by simp only[qca,a,hlb,if_false,Bool.false_eq_true]⟩
  | ret=>exact⟨_,_,_,hr,hk1,h1.mono fun n a=>by simp only[qca,a,hlb,if_false,Bool.false_eq_true]⟩
  | exit id' =>
   simp only at hr
   split at hr
   ·rename_i hid;exact⟨_,_,_,hr,hk1,h1.mono fun n a=>by simp only[qca,a,hlb,hid,if_true,if_false,Bool.false_eq_true]⟩
   ·cases hr
 | _ =>
  intro R ks K r hk hr
  simp only[qjl] at hr
  obtain⟨x,k1,e1,hr,hk1,h1⟩:=Qc9 hc _ (h:=qba) (hn:=fun _=>qba) noH 0 hk hr
  exact⟨_,_,_,hr,hk1,h1.mono fun n a=>by simp only[qca,a,qqa]⟩
theorem dfrsK_ok (hc:qmy cfg tab) {nt:Nat} {R:Type}:∀ (l:List Nat) {ks:KSt} {K:KSt→Option R} {r:R},ks.Ok→dfrsK cfg nt l ks K=some r →
  ∃ k',K k'=some r∧k'.Ok∧Evl fun n=>Qmi (qhy cfg.b.sp tab n) nt l ks.st=some k'.st:=by
 intro l
 induction l with
 | nil=>intro ks K r hk hr;exact⟨ks,hr,hk,.of fun n=>rfl⟩
 | cons n l ih =>
  intro ks K r hk hr
  simp only[dfrsK] at hr
  split at hr
  ·cases hr
  rename_i sp kp hkeep
  split at hr
  case h_2=>cases hr
  rename_i f caps hget
  split at hr
  case h_2=>cases hr
  rename_i P hP
  split at hr
  case isFalse=>cases hr
  rename_i hcd
  obtain⟨b1,b2,b3⟩:=hcd
  simp only[Bool.and_eq_true] at b2
  have hle:n+1≤nt:=Nat.le_of_ble_eq_true b2.1
  have hnt:ks.nt=nt:=Nat.eq_of_beq_eq_true b2.2
  have hsp:qkk nt sp:=by rw[←hnt];exact hk.kp sp (by rw[hkeep];exact List.mem_cons_self)
  have hcaps:qfp caps:=by
   have:=hsp.get_ok 0
   rw[hget] at this
   exact this
  have hargs:qfp ((List.range n).map fun j=>qb7 sp (j+1)):=qcq.2 fun x hx=>by
   obtain⟨j,_,rfl⟩:=List.mem_map.1 hx
   exact hsp.get_ok _
  obtain⟨out,hr,ho,hspf,hev⟩:=qzt hc hk b3 (qzq (f:=f) hargs hcaps) hP hr
  split at hr
  case isFalse=>cases hr
  rename_i hnew
  rw[qcr] at hr
  have hk2:({ks with keep:=kp}:KSt).Ok:=⟨hk.tm,hk.ob,fun sp' h=>hk.kp sp' (by rw[hkeep];exact List.mem_cons_of_mem _ h)⟩
  obtain⟨s1,s2⟩:=qqc (ks:={ks with keep:=kp}) hk2 (by show (_||qhz ks.objs)=true;rw[b3];simp) none ho
  obtain⟨k',hr,hk',h2⟩:=ih s2 hr
  have hkp:ks.st.keep=qc7 nt sp++kp.flatMap (qc7 nt):=by
   show ks.keep.flatMap (qc7 ks.nt)=_
   rw[hkeep,hnt];rfl
  have hget0:ks.st.keep.getD 0 .undef=.fn f (pvL caps):=by
   have:(qc7 nt sp)[0]?=some (KV.fn f caps).pv:=by rw[dense_get?,if_pos (by omega),hget]
   rw[hkp,List.getD_eq_getElem?_getD,List.getElem?_append_left (by rw[qbu];omega),this]
   rfl
  have htake:(ks.st.keep.drop 1).take n=pvL ((List.range n).map fun j=>qb7 sp (j+1)):=by
   rw[hkp,qft,List.map_map]
   apply List.ext_getElem?
   intro j
   rw[List.getElem?_take,List.getElem?_drop,List.getElem?_map]
   by_cases hj:j < n
   ·rw[if_pos hj,List.getElem?_append_left (by rw[qbu];omega),dense_get?,if_pos (by omega),List.getElem?_range hj]
    simp[Nat.add_comm]
   ·rw[if_neg hj,List.getElem?_eq_none (by simp;omega)]
    rfl
  have hdrop:({ks with keep:=kp}:KSt).st={ks.st with keep:=ks.st.keep.drop nt}:=by
   rw[hkp,List.drop_left' (qbu nt sp)]
   unfold KSt.st
   simp only[hnt]
  have hvs:qb3 f ((ks.st.keep.drop 1).take n) (pvL caps)=pvL (qk5 f ((List.range n).map fun j=>qb7 sp (j+1)) caps):=by rw[htake,qzp]
  have hflag:qji tab (qd2 f)=true:=by rw[←hc.ioF,hP];rfl
  have hflat:qkx tab (qd2 f)=true:=hc.flat _ b1
  have hnew':(out.out.new.isEmpty||out.out.slot.isSome)=true:=by
   simp only[qb2.out]
   have:(out.new.map KOb.ob).isEmpty=out.new.isEmpty:=by cases out.new<;>rfl
   rw[this];exact hnew
  rw[s1,hdrop] at h2
  refine⟨k',hr,hk',hev.mono2 h2 fun m a b=>?_⟩
  simp only[Qmi,hget0,hvs,qks,qn8,machN_flat,hc.spF _ hspf,hflag,hflat,Bool.and_true,if_true,a,chk,hnew',b]
end
end Go.Ab


namespace Go.Ab
mutual
theorem qqg:∀ (p x:KV),qgu p x=true→x.ok→qpj p x.pv=some (qc6 p x)
 | .un,x,h,_=>by cases x<;>simp[qgu] at h;rfl
 | .sk,x,h,_=>by cases x<;>simp[qgu] at h;rfl
 | .yld d,x,h,_=>by cases x<;>simp[qgu] at h;rfl
 | .ref nm o,x,h,_=>by cases x<;>simp[qgu] at h;obtain⟨rfl,rfl⟩:=h;simp[qpj,KV.pv,qc6,qfl]
 | .aref _ _ _ _,x,h,_=>by simp[qgu] at h
 | .mp nm,x,h,_=>by cases x<;>simp[qgu] at h;subst h;simp[qpj,KV.pv,qc6,qfl]
 | .it nm,x,h,_=>by cases x<;>simp[qgu] at h;subst h;simp[qpj,KV.pv,qc6,qfl]
 | .wit nm,x,h,_=>by cases x<;>simp[qgu] at h;subst h;simp[qpj,KV.pv,qc6,qfl]
 | .arr nm k o n,x,h,_=>by
  cases x with
  | arr nm' k' o' n' =>
   simp only[qgu] at h
   simp only[KV.pv,qpj,qc6]
   rw[h];rfl
  | _=>simp[qgu] at h
 | .lit b,x,h,hx=>qq1 hx (by simpa[qgu] using h)
 | .nils,x,h,hx=>qq1 hx (by simpa[qgu] using h)
 | .cv v,x,h,hx=>qq1 hx (by simpa[qgu] using h)
 | .fn f cap,x,h,hx=>by
  cases x with
  | fn f' cap' =>
   simp only[qgu,Bool.and_eq_true,beq_iff_eq] at h
   obtain⟨rfl,h⟩:=h
   simp only[KV.pv,qpj,if_true,qc6]
   exact qh1 cap cap' h hx
  | _=>simp[qgu] at h
 | .tup xs,x,h,hx=>by
  cases x with
  | tup ys =>
   simp only[qgu] at h
   simp only[KV.pv,qpj,qc6]
   exact qh1 xs ys h hx
  | _=>simp[qgu] at h
 | .agg cs,x,h,hx=>by
  simp only[qgu] at h
  simp only[qpj,qc6]
  by_cases hc:(clL cs).isSome=true
  ·rw[if_pos hc] at h
   rw[if_pos hc,if_pos hc]
   exact qq1 hx h
  ·rw[if_neg hc] at h
   rw[if_neg hc,if_neg hc]
   cases x with
   | agg cs'=>exact qh1 cs cs' h hx
   | _=>simp at h
 | .iface t y,x,h,hx=>by
  simp only[qgu] at h
  simp only[qpj,qc6]
  by_cases hc:y.cl.isSome=true
  ·rw[if_pos hc] at h
   rw[if_pos hc,if_pos hc]
   exact qq1 hx h
  ·rw[if_neg hc] at h
   rw[if_neg hc,if_neg hc]
   cases x with
   | iface t' y' =>
    simp only[Bool.and_eq_true,beq_iff_eq] at h
    obtain⟨rfl,h⟩:=h
    simp only[KV.pv,if_true]
    exact qqg y y' h hx
   | _=>simp at h
theorem qh1:∀ (ps xs:List KV),qx8 ps xs=true→qfp xs→qxf ps (pvL xs)=some (qg0 ps xs)
 | [],xs,h,_=>by cases xs<;>simp[qx8] at h;rfl
 | p :: ps,xs,h,hx=>by
  cases xs with
  | nil=>simp[qx8] at h
  | cons x xs =>
   simp only[qx8,Bool.and_eq_true] at h
   simp only[pvL,qxf,qg0]
   rw[qqg p x h.1 hx.1,qh1 ps xs h.2 hx.2]
theorem qq1 {x:KV} (hx:x.ok) (h:x.cl.isSome=true):qfl (okV x.pv) (some [x.pv])=some [x.cl.getD .undef]:=by
 obtain⟨v,hv⟩:=Option.isSome_iff_exists.1 h
 have h1:=KV.cl_ok hx hv
 rw[KV.cl_pv hv,hv]
 simp[qfl,h1]
end
theorem Qc0 (p x:KOb) (h:qjf p x=true) (hx:x.ok):qh0 p x.ob=some (qnh p x):=by
 cases p with
 | cells ty cs =>
  cases x with
  | cells ty' cs' =>
   simp only[qjf,Bool.and_eq_true,beq_iff_eq] at h
   obtain⟨rfl,h⟩:=h
   simp only[qh0,KOb.ob,if_true]
   exact qh1 cs cs' h hx
  | _=>simp[qjf] at h
 | whole ty w =>
  cases x with
  | whole ty' v =>
   simp only[qjf,beq_iff_eq] at h
   subst h
   have hx':okV v=true:=hx
   have h2:qcy (qkd v)=true:=qcb hx'
   simp[qh0,KOb.ob,qnh,qfl,h2]
  | _=>simp[qjf] at h
 | arr k kt ws =>
  cases x with
  | arr k' kt xs =>
   simp only[qjf,Bool.and_eq_true,beq_iff_eq] at h
   obtain⟨rfl,rfl⟩:=h
   have hx':qcy xs=true:=hx
   simp[qh0,KOb.ob,qnh,qgb,qfl,hx']
  | _=>simp[qjf] at h
 | map ws =>
  cases x with
  | map es =>
   have hx':qcy es=true:=hx
   simp[qh0,KOb.ob,qnh,qgb,qfl,hx']
  | _=>simp[qjf] at h
 | siter s0 p0 =>
  cases x with
  | siter s pos=>rfl
  | _=>simp[qjf] at h
theorem qk6:∀ (ps xs:List KOb),qg3 ps xs=true→(∀ o∈xs,o.ok)→qmk ps (xs.map KOb.ob)=some (qlk ps xs)
 | [],[],_,_=>rfl
 | [],_ :: _,h,_=>by simp[qg3] at h
 | _ :: _,[],h,_=>by simp[qg3] at h
 | p :: ps,x :: xs,h,hx=>by
  simp only[qg3,Bool.and_eq_true] at h
  simp only[List.map_cons,qmk,qlk]
  rw[Qc0 p x h.1 (hx x List.mem_cons_self),qk6 ps xs h.2 fun o ho=>hx o (List.mem_cons_of_mem _ ho)]
theorem kwit_pv {x:KV} (h:x.ok):qhu x.pv=qzl x:=by
 cases x with
 | arr nm k o n =>
  simp only[KV.pv,qzl,qhu]
  by_cases hc:k=1∧o=0∧n=0
  ·obtain⟨rfl,rfl,rfl⟩:=hc;rfl
  ·rw[if_neg hc]
   split
   ·rename_i heq
    cases heq
    exact absurd ⟨rfl,rfl,rfl⟩ hc
   ·rfl
 | cv v =>
  have hv:okV v=true:=h
  simp only[KV.pv,qzl]
  unfold qhu
  split
  ·simp[okV] at hv
  ·rfl
 | _=>rfl
section
variable {ks:KSt}
theorem kioEnd_ok (hk:ks.Ok) {P:qdc} {v:KV} (hv:v.ok) {rs:List PV} (h:Qfz P ks v=some rs):∃ out,qra none 1 0 (qg9 P.ins.length) ks.st v.pv=some out∧ioFit P out=some rs:=by
 unfold Qfz at h
 split at h
 case h_2=>cases h
 rename_i sp hkeep
 simp only at h
 have hsp:qkk ks.nt sp:=hk.kp sp (by rw[hkeep];exact List.mem_singleton.2 rfl)
 have hst:ks.st.keep=qc7 ks.nt sp:=by
  show ks.keep.flatMap (qc7 ks.nt)=_
  rw[hkeep];simp
 have hw:∀ j,qhu (ks.st.keep.getD j .undef)=qzl (qb7 sp j):=fun j=>by
  rw[hst,qhk hsp,kwit_pv (hsp.get_ok j)]
 have hA:qgd (qg9 P.ins.length) ks.st.keep=qku P.ins.length sp:=by
  unfold qgd qku
  exact List.map_congr_left fun p _=>by rw[hw]
 have hG:qps (qg9 P.ins.length) ks.st.keep=Qcp P.ins.length sp:=by
  unfold qps Qcp
  congr 1
  exact List.filter_congr fun p _=>by rw[hw]
 have hlk:=qdd hk
 have hnm:∀ m:Nm,((qbf ks.st.objs m).map Ob.names).getD []=((qck ks.objs m).map KOb.names).getD []:=by
  intro m
  rw[qja hk]
  cases hl:qck ks.objs m with
  | none=>rfl
  | some o =>
   simp only[Option.map_some,Option.getD_some]
   exact KOb.ob_names (qcx hk.ob hl)
 have hN:qw3 (qbf ks.st.objs) (qku P.ins.length sp) v.pv=Qco (qck ks.objs) (qku P.ins.length sp) v:=by
  unfold qw3 Qco
  rw[KV.pv_names hv]
  have e1:((qku P.ins.length sp).flatMap fun p=>((qbf ks.st.objs p.1).map Ob.names).getD [])=(qku P.ins.length sp).flatMap fun p=>((qck ks.objs p.1).map KOb.names).getD []:=by
   congr 1;funext p;exact hnm p.1
  rw[e1,hlk,←qfw (qb8 hk)]
 generalize qku P.ins.length sp=A at h hA hN
 generalize hNd:Qco (qck ks.objs) A v=N at h hN
 generalize hB:(A++N.zipIdx.map fun p=>(p.1,(1,0+p.2)))=B at h
 split at h
 case isFalse=>cases h
 rename_i hcd
 obtain⟨hnd,hgone,hfit⟩:=hcd
 cases h
 simp only[Bool.and_eq_true] at hfit
 obtain⟨hf1,hf2,hf3⟩:=hfit
 have hoff:(fun m=>if (B.map (·.1)).contains m then none else some none:Nm→Option (Option Ob))=qpo fun m=>!(B.map (·.1)).contains m:=by
  funext m
  show (if (B.map (·.1)).contains m=true then none else some none)=if (!(B.map (·.1)).contains m)=true then some none else none
  cases (B.map (·.1)).contains m<;>rfl
 have hob:∀ nm,ioOb (qbf ks.st.objs) B nm=(Qjt (qck ks.objs) B nm).ob∧(Qjt (qck ks.objs) B nm).ok:=by
  intro nm
  unfold ioOb Qjt
  have hok:((qck ks.objs nm).getD qq6).ok:=by
   cases hl:qck ks.objs nm with
   | none=>exact rfl
   | some o=>exact qcx hk.ob hl
  have hobs:((qbf ks.st.objs nm).getD qd5)=((qck ks.objs nm).getD qq6).ob:=by
   rw[qja hk]
   cases qck ks.objs nm<;>rfl
  rw[hoff,hobs,←KOb.off_ob _ hok,←KOb.ren_ob _ (KOb.off_ok _ hok)]
  exact⟨rfl,KOb.ren_ok _ (KOb.off_ok _ hok)⟩
 refine⟨{v:=(v.pv.sub fun m=>if (B.map (·.1)).contains m then none else some none).ren fun m=>(B.lookup m).getD m,new:=N.map (ioOb (qbf ks.st.objs) B),ups:=A.map fun p=>(p.2,ioOb (qbf ks.st.objs) B p.1),gone:=Qcp P.ins.length sp,io:=true},?_,?_⟩
 ·unfold qra
  simp only
  rw[hA,hN,hB,hG]
  simp[chk,hnd]
 ·unfold ioFit
  simp only
  rw[if_pos hgone]
  have e1:(v.pv.sub fun m=>if (B.map (·.1)).contains m then none else some none).ren (fun m=>(B.lookup m).getD m)=((v.off fun m=>!(B.map (·.1)).contains m).ren fun m=>(B.lookup m).getD m).pv:=by
   rw[hoff,←KV.off_pv _ hv,←KV.ren_pv _ (KV.off_ok _ hv)]
  have e2:(A.map fun p=>(p.2,ioOb (qbf ks.st.objs) B p.1)).map (·.2)=(A.map fun p=>Qjt (qck ks.objs) B p.1).map KOb.ob:=by
   rw[List.map_map,List.map_map]
   exact List.map_congr_left fun p _=>(hob p.1).1
  have e3:N.map (ioOb (qbf ks.st.objs) B)=(N.map (Qjt (qck ks.objs) B)).map KOb.ob:=by
   rw[List.map_map]
   exact List.map_congr_left fun m _=>(hob m).1
  rw[e1,e2,e3,qqg _ _ hf1 (KV.ren_ok _ (KV.off_ok _ hv)),qk6 _ _ hf2 (fun o ho=>by
   obtain⟨p,_,rfl⟩:=List.mem_map.1 ho;exact (hob p.1).2),qk6 _ _ hf3 (fun o ho=>by
   obtain⟨m,_,rfl⟩:=List.mem_map.1 ho;exact (hob m).2)]
end
mutual
theorem Qmb {vs:List PV} (hv:qcy vs=true):∀ (p:KV) (i:Nat),(fill p vs i).1.ok
 | .un,i | .sk,i | .yld _,i | .ref _ _,i | .aref _ _ _ _,i | .mp _,i | .it _,i | .wit _,i | .arr _ _ _ _,i=>trivial
 | .lit _,i | .nils,i | .cv _,i=>qza hv i
 | .fn f cap,i=>qlx hv cap i
 | .tup xs,i=>qlx hv xs i
 | .agg cs,i=>by
  simp only[fill]
  split
  ·exact qza hv i
  ·exact qlx hv cs i
 | .iface t y,i=>by
  simp only[fill]
  split
  ·exact qza hv i
  ·exact Qmb hv y i
theorem qlx {vs:List PV} (hv:qcy vs=true):∀ (ps:List KV) (i:Nat),qfp (qhj ps vs i).1
 | [],i=>trivial
 | p :: ps,i=>⟨Qmb hv p i,qlx hv ps _⟩
theorem qza {vs:List PV} (hv:qcy vs=true) (i:Nat):okV (nth vs i)=true:=by
 unfold nth
 rw[List.getD_eq_getElem?_getD]
 cases h:vs[i]? with
 | none=>rfl
 | some x=>exact qhs hv h
end
theorem fillOb_any {vs:List PV} (hv:qcy vs=true) (p:KOb) (i:Nat):(qdf p vs i).1.ok:=by
 cases p with
 | cells ty cs=>exact qlx hv cs i
 | whole ty w=>exact qza hv i
 | arr k kt xs =>
  have:=qza hv i
  show qcy (qkv (nth vs i))=true
  unfold qkv
  split
  ·rename_i heq;rw[heq] at this;simpa[okV] using this
  ·rfl
 | map es =>
  have:=qza hv i
  show qcy (Qkb (nth vs i))=true
  unfold Qkb
  split
  ·rename_i heq;rw[heq] at this;simpa[okV] using this
  ·rfl
 | siter s p=>trivial
theorem qxn {vs:List PV} (hv:qcy vs=true):∀ (ps:List KOb) (i:Nat),(∀ o∈(qc0 ps vs i).1,o.ok)∧(qc0 ps vs i).1.length=ps.length
 | [],i=>⟨fun o ho=>(by cases ho),rfl⟩
 | p :: ps,i=>by
  obtain⟨h1,h2⟩:=qxn hv ps (qdf p vs i).2
  refine⟨fun o ho=>?_,by simp[qc0,h2]⟩
  simp only[qc0,List.mem_cons] at ho
  rcases ho with rfl | ho
  ·exact fillOb_any hv p i
  ·exact h1 o ho
theorem Qmc {vs:List PV}:∀ (ps:List KV) (i:Nat),(∀ p∈ps,qqd p=false)→(∀ x∈(qhj ps vs i).1,qqd x=false)∧(qhj ps vs i).1.length=ps.length
 | [],i,_=>⟨fun o ho=>(by cases ho),rfl⟩
 | p :: ps,i,hp=>by
  obtain⟨h1,h2⟩:=Qmc (vs:=vs) ps (fill p vs i).2 fun q hq=>hp q (List.mem_cons_of_mem _ hq)
  refine⟨fun x hx=>?_,by simp[qhj,h2]⟩
  simp only[qhj,List.mem_cons] at hx
  rcases hx with rfl | hx
  ·exact un_fill (hp p List.mem_cons_self)
  ·exact h1 x hx
theorem qnl {cfg:qx7} {tab:FuncId→Option RFn} (hc:qmy cfg tab) {g:FuncId} {fn:RFn} (ht:tab g=some fn) {P:qdc} {Pf:List KV→List KOb→qdc} (hPf:cfg.ioF g=some Pf) {xs:List KV} {obs:List KOb} (hP:Pf xs obs=P) (hun:P.args.all (fun p=>!qqd p)=true) {vs rs:List PV} (hv:qcy vs=true)
  (hr:qv6 cfg fn P vs=some rs):ioO cfg.b P g vs=some rs:=by
 obtain⟨fn',ht',⟨hnt,_⟩,hll⟩:=hc.ioP g Pf hPf
 have hla:=(hll xs obs).1
 have hli:=(hll xs obs).2
 rw[hP] at hla hli
 rw[ht] at ht';cases ht'
 unfold qv6 at hr
 simp only at hr
 rw[qcr] at hr
 obtain⟨u1,u2⟩:=Qmc (vs:=vs) P.args 0 fun p hp=>by simpa using List.all_eq_true.1 hun p hp
 have a1:=qlx hv P.args 0
 obtain⟨b1,b2⟩:=qxn hv P.ins (qhj P.args vs 0).2
 generalize has:(qhj P.args vs 0).1=aas at hr u1 u2 a1
 generalize hos:(qc0 P.ins vs (qhj P.args vs 0).2).1=os at hr b1 b2
 obtain⟨i1,i2⟩:=Qjz (nt:=fn.nt) a1 u1 (by omega)
 have hwsp:qkk fn.nt (((List.range P.ins.length).filter fun j=>!fn.gone.contains j).map fun j=>(j,KV.wit (0,j))):=by
  refine⟨?_,?_,?_,?_⟩
  ·rw[List.map_map]
   have:((fun p:Nat×KV=>p.1)∘fun j=>(j,KV.wit (0,j)))=id:=rfl
   rw[this,List.map_id]
   exact List.pairwise_lt_range.filter _
  ·intro p hp
   obtain⟨j,hj,rfl⟩:=List.mem_map.1 hp
   have:=List.mem_range.1 (List.mem_filter.1 hj).1
   simp only;omega
  ·intro p hp
   obtain⟨j,hj,rfl⟩:=List.mem_map.1 hp
   trivial
  ·intro p hp
   obtain⟨j,hj,rfl⟩:=List.mem_map.1 hp
   rfl
 have hso:qjq fn.nt [(0,os)]:=⟨by simp,by simp[hnt],fun p hp o ho=>by simp only[List.mem_singleton] at hp;subst hp;exact b1 o ho⟩
 have hks:({nt:=fn.nt,tmps:=aas.zipIdx.map fun p=>(p.2,p.1),objs:=[(0,os)],keep:=[((List.range P.ins.length).filter fun j=>!fn.gone.contains j).map fun j=>(j,KV.wit (0,j))]}:KSt).Ok :=
  ⟨i1.tm,hso,fun sp hsp=>by simp only[List.mem_singleton] at hsp;subst hsp;exact hwsp⟩
 have hst:({nt:=fn.nt,tmps:=aas.zipIdx.map fun p=>(p.2,p.1),objs:=[(0,os)],keep:=[((List.range P.ins.length).filter fun j=>!fn.gone.contains j).map fun j=>(j,KV.wit (0,j))]}:KSt).st=Qdp fn.gone fn.nt (os.map KOb.ob) (pvL aas):=by
  have e1:qc7 fn.nt (aas.zipIdx.map fun p=>(p.2,p.1))=pvL aas++List.replicate (fn.nt - (pvL aas).length) .undef:=congrArg St.tmps i2
  unfold KSt.st Qdp
  simp only
  rw[e1]
  congr 1
  ·refine qhm (by simp) fun i hi=>?_
   by_cases h0:i=0
   ·subst h0
    rw[List.getElem?_set_self (by simpa using hnt)]
    rfl
   ·rw[List.getElem?_set_ne (Ne.symm h0),List.getElem?_replicate,if_pos hi]
    have:qch [(0,os)] i=[]:=by
     simp only[qch]
     cases hb:Nat.beq i 0 with
     | true=>exact absurd (qcg hb) h0
     | false=>rfl
    rw[this];rfl
  ·simp only[List.flatMap_cons,List.flatMap_nil,List.append_nil]
   refine qj6 (by simp[Qhs]) fun i hi=>?_
   unfold Qhs
   rw[List.getElem?_map,List.getElem?_range hi]
   simp only[Option.map_some,List.length_map]
   by_cases hij:i < os.length∧fn.gone.contains i=false
   ·rw[if_pos hij]
    have hm:(i,KV.wit (0,i))∈((List.range P.ins.length).filter fun j=>!fn.gone.contains j).map fun j=>(j,KV.wit (0,j)):=List.mem_map.2 ⟨i,List.mem_filter.2 ⟨List.mem_range.2 (by have:=hij.1;omega),by simp only[hij.2,Bool.not_false]⟩,rfl⟩
    rw[show qb7 (((List.range P.ins.length).filter fun j=>!fn.gone.contains j).map fun j=>(j,KV.wit (0,j))) i=KV.wit (0,i) from hwsp.get_mem hm]
    rfl
   ·rw[if_neg hij]
    rw[show qb7 (((List.range P.ins.length).filter fun j=>!fn.gone.contains j).map fun j=>(j,KV.wit (0,j))) i=.un from qv0 fun p hp=>by
     obtain⟨j,hj,rfl⟩:=List.mem_map.1 hp
     obtain⟨h1,h2⟩:=List.mem_filter.1 hj
     have:=List.mem_range.1 h1
     simp only
     intro e
     subst e
     exact hij ⟨by omega,by simpa using h2⟩]
    rfl
 have fin:∀ {k1:KSt},k1.Ok→(qtl k1 fn.res fun vs=>Qfz P k1 (qtn vs))=some rs→(∀ v,qkm k1.st fn.res=some v→Evl fun n=>qls (qhy cfg.b.sp tab n) n fn (os.map KOb.ob) (pvL aas)=some (k1.st,qna v))→ioO cfg.b P g vs=some rs:=by
  intro k1 hk1 hr hx
  obtain⟨ws,hr,hws,h1⟩:=Qfw hk1 fn.res hr
  obtain⟨o1,o2⟩:=Qfy hws
  obtain⟨out,g1,g2⟩:=kioEnd_ok hk1 o1 hr
  have hI:cfg.b.I g (os.map KOb.ob) (pvL aas)=some (k1.st,(qtn ws).pv):=by
   rw[hc.I]
   unfold limIo
   rw[ht,o2]
   exact lim_of (hx _ h1)
  unfold ioO
  rw[hos,has,hI]
  simp only[g1,g2]
 split at hr
 ·rename_i hD
  obtain⟨x,k1,e1,hr,hk1,hev⟩:=Qc9 hc fn.code (h:=qba) (hn:=fun _=>qba) noH 0 hks hr
  rw[hst] at hev
  cases x with
  | exit id=>cases hr
  | _ =>
   refine fin hk1 hr fun v h1=>hev.mono fun n hn'=>?_
   unfold qls
   rw[if_pos hD,hn']
   simp only[h1]
 ·rename_i hD
  obtain⟨x,k1,l,hr,hk1,hev⟩:=evalDK_ok hc fn.code hks hr
  rw[hst] at hev
  cases x with
  | exit id=>cases hr
  | _ =>
   obtain⟨k2,hr,hk2,hdf⟩:=dfrsK_ok hc l hk1 hr
   refine fin hk2 hr fun v h1=>hev.mono2 hdf fun n hn' hd'=>?_
   unfold qls
   rw[if_neg hD,hn']
   simp only[hd',h1]
end Go.Ab


namespace Go.Ab
section sp
variable {cx:Cx} {E:Type} {w0:World} {I0 F0:Nat→Prop} {O0:Own} {Hd:Nat→Option Obj} {R:qkj E} {e:E} {ds:List Deferred} {I F:Nat→Prop} {lp:Nat→Option Nat} {L:Loc} {tmv suf:List Value} {st:St} {w w':World} {dst:Option Nat}
theorem qhg (hs:SR lp I L st tmv suf w) (hf:Fr cx w0 I0 F0 O0 Hd R e ds I F L w) (h:LawEnd w w') {u:PV} {v:Value} (hv:qbr w' I lp (some L) u v) :
  ∃ I' L',SR lp I' L' (apply st dst {v:=u}) (Qjb tmv dst v) suf w'∧Fr cx w0 I0 F0 O0 Hd R e ds I' F L' w':=by
 have hx:Ext I F w I F w':=⟨h.os,h.tape,h.output,h.size,fun b hb _=>h.same b hb,fun _ h=>h,fun _ h=>.inl h,fun _ h=>.inl h⟩
 have hi:IF I F w':=⟨fun b hb=>Nat.lt_of_lt_of_le (hf.sep.iB b hb) h.size,fun b hb=>⟨Nat.lt_of_lt_of_le (hf.sep.fB b hb).1 h.size,(hf.sep.fB b hb).2⟩⟩
 have hw:cx.Wd I w':=cx.stab I I w w' hf.wd (fun _ h=>h) (fun b hb=>h.same b (hf.sep.iB b hb)) h.size
 have hr:R.rel e I F w':=R.stab e I I F w w' hf.re (fun _ h=>h) (fun b hb=>h.same b (hb.elim (hf.sep.iB b) fun h=>(hf.sep.fB b h).1)) h.size
 refine⟨I,L,?_,hf.called hx hi hw hr⟩
 have h2:=hs.called hf hx
 cases dst with
 | none=>exact h2
 | some d=>exact h2.put d hv
theorem lawEnd_refl (w:World):LawEnd w w:=⟨rfl,rfl,rfl,Nat.le_refl _,fun _ _=>rfl⟩
theorem Qbu (hs:SR lp I L st tmv suf w) (hf:Fr cx w0 I0 F0 O0 Hd R e ds I F L w) {nm:Nm} {b C:Nat} (hL:L nm=some (some (b,C)))
  (h1:w'.os=w.os) (h2:w'.tape=w.tape) (h3:w'.output=w.output) (h4:w.heap.size≤w'.heap.size) (hk:∀ k,k < w.heap.size→k≠b→w'.heap[k]?=w.heap[k]?)
  {ob:Ob} (hob:ObRep w' I lp L b C ob) {u:PV} {v:Value} (hv:qbr w' I lp (some L) u v) :
  ∃ I' L',SR lp I' L' (apply st dst {v:=u,upd:=some (nm,ob)}) (Qjb tmv dst v) suf w'∧Fr cx w0 I0 F0 O0 Hd R e ds I' F L' w':=by
 have hI:∀ k,I k→w'.heap[k]?=w.heap[k]?:=fun k hi=>hk k (hf.sep.iB k hi) fun e=>(hf.lB nm b C hL).2.2.1 (e ▸ hi)
 have hfr:Fr cx w0 I0 F0 O0 Hd R e ds I F L w':=hf.own h1 h2 h3 h4
  (fun k hb hno=>hk k hb fun e=>hno nm C (e ▸ hL)) (fun _ h=>h) (fun _ h=>.inl h)
  (fun nm' b' C' h=>⟨Nat.lt_of_lt_of_le (hf.lB nm' b' C' h).2.1 h4,(hf.lB nm' b' C' h).2.2.1,.inr ⟨nm',C',h⟩⟩) hf.inj
 have hsr:SR lp I L {st with objs:=qb9 st.objs nm ob} tmv suf w':=hs.upd hL hI
  (fun m b' C' hm h=>hk b' (hf.lB m b' C' h).2.1 fun e=>hm (hf.inj m nm b' C' C h (e ▸ hL))) hob
 refine⟨I,L,?_,hfr⟩
 cases dst with
 | none=>exact hsr
 | some d=>exact hsr.put d hv
theorem sp_gone (hs:SR lp I L st tmv suf w) (hf:Fr cx w0 I0 F0 O0 Hd R e ds I F L w) {nm:Nm} {p:Option (Nat×Nat)} (hL:L nm=some p)
  (h1:w'.os=w.os) (h2:w'.tape=w.tape) (h3:w'.output=w.output) (h4:w.heap.size≤w'.heap.size) (hk:∀ b',b' < w.heap.size→(∀ C,p≠some (b',C))→w'.heap[b']?=w.heap[b']?)
  {u:PV} {v:Value} (hv:∀ L':Loc,qbr w' I lp (some L') u v) :
  ∃ I' L',SR lp I' L' (apply st dst {v:=u,upd:=some (nm,qd5),kill:=some nm}) (Qjb tmv dst v) suf w'∧Fr cx w0 I0 F0 O0 Hd R e ds I' F L' w':=by
 have hI:∀ b',I b'→w'.heap[b']?=w.heap[b']?:=fun b' hb'=>hk b' (hf.sep.iB b' hb') fun C e=>(hf.lB nm b' C (by rw[hL,e])).2.2.1 hb'
 have hu:=hs.regrow (w':=w') (k:=0) (kt:=0) (xs:=[]) (p':=none) hL hI
  (fun m b' C' hm hn=>hk b' (hf.lB m b' C' hn).2.1 fun C e=>hm (hf.inj m nm b' C' C hn (by rw[hL,e]))) ⟨0,0,rfl⟩
 refine⟨I,(fun m=>if m=nm then some none else L m),?_,?_⟩
 ·cases dst with
  | none=>exact hu
  | some d=>exact hu.put d (hv _)
 ·refine hf.own h1 h2 h3 h4 (fun b' hb' hn=>hk b' hb' fun C e=>hn nm C (by rw[hL,e])) (fun _ h=>h) (fun _ h=>.inl h) ?_ ?_
  ·intro m b' C' hn
   by_cases hm:m=nm
   ·simp[hm] at hn
   ·simp only[hm,if_false] at hn
    exact⟨by have:=(hf.lB m b' C' hn).2.1;omega,(hf.lB m b' C' hn).2.2.1,.inr ⟨m,C',hn⟩⟩
  ·intro m m' b' C1 C2 hn hn'
   by_cases hm:m=nm
   ·simp[hm] at hn
   ·by_cases hm':m'=nm
    ·simp[hm'] at hn'
    ·simp only[hm,hm',if_false] at hn hn'
     exact hf.inj m m' b' C1 C2 hn hn'
end sp
theorem Qb3 {w:World} {I:Nat→Prop} {lp:Nat→Option Nat} {L:Option Loc} {a:PV} {us:List Value} (h:qbn w I lp L [a] us):∃ u,us=[u]∧qbr w I lp L a u:=by
 obtain⟨u,r,h1,rfl,h2⟩:∃ u r,qbr w I lp L a u∧us=u :: r∧qbn w I lp L [] r:=by
  cases h;exact⟨_,_,by assumption,rfl,by assumption⟩
 cases h2
 exact⟨u,rfl,h1⟩
theorem qqu {w:World} {I:Nat→Prop} {lp:Nat→Option Nat} {L:Option Loc} {a b:PV} {us:List Value} (h:qbn w I lp L [a,b] us):∃ u v,us=[u,v]∧qbr w I lp L a u∧qbr w I lp L b v:=by
 obtain⟨u,r,h1,rfl,h2⟩:∃ u r,qbr w I lp L a u∧us=u :: r∧qbn w I lp L [b] r:=by
  cases h;exact⟨_,_,by assumption,rfl,by assumption⟩
 obtain⟨v,rfl,h3⟩:=Qb3 h2
 exact⟨u,v,rfl,h1,h3⟩
theorem setCell_same {W:World} {b o:Nat} {c:Array Value} {n:Value} {E':TypeId} {fr:Nat×Nat} (h:W.heap[b]?=some (.cells c E' fr)):(W.setCell ⟨b,o,none⟩ n).heap[b]?=some (.cells (c.setIfInBounds o n) E' fr):=by
 simp[World.setCell,Array.getElem?_modify,h]
theorem qkr (W:World) (a:Addr) (n:Value):(W.setCell a n).heap.size=W.heap.size:=by simp[World.setCell]
theorem cell_of_heap {w w':World} {b:Nat} (h:w'.heap[b]?=w.heap[b]?) (o:Nat):w'.cell? ⟨b,o,none⟩=w.cell? ⟨b,o,none⟩:=by
 simp only[World.cell?,h]
end Go.Ab


namespace Go.Ab
open Go
def ErrVars (gs:List Nat) (T:Nat) (I:Nat→Prop) (w:World):Prop :=
 ∃ ad:Nat→Addr,(∀ g∈gs,I g∧I (ad g).block∧(∃ E f,w.heap[g]?=some (.cells #[.iface T (.pointer (some (ad g)))] E f))∧∃ c t,w.heap[(ad g).block]?=some (.cells c t (0,0)))∧∀ g∈gs,∀ g'∈gs,g≠g'→ad g≠ad g'
structure WVars (gs:List Nat) (T:Nat) (et:List (Nat×Value)) (tabs:List (Nat×Array Value)) (ns:List Nat) (I:Nat→Prop) (w:World):Prop where
 err:ErrVars gs T I w
 et0:∀ p∈et,I p.1∧w.cell? ⟨p.1,0,none⟩=some p.2
 tab:∀ p∈tabs,I p.1∧∃ E f,w.heap[p.1]?=some (.cells p.2 E f)
 num:∀ g∈ns,I g∧∃ m,w.cell? ⟨g,0,none⟩=some (.int .i64 m)
def globsE (gs:List Nat) (T:Nat):qmx:=fun g=>if gs.contains g then some [.glob g T] else none
noncomputable def cxOf (P:Program) (mixed:P.follows .mixedOrders=true) (gs:List Nat) (T:Nat) (et:List (Nat×Value)) (tabs:List (Nat×Array Value)) (ns:List Nat):Cx where
 P:=P
 mixed:=mixed
 G:=globsE gs T
 Wd I w:=WVars gs T et tabs ns I w
 stab I I' w w' h h1 h2 _:=by
  obtain⟨⟨ad,e1,e2⟩,e0,ht,hn⟩:=h
  refine⟨⟨ad,fun g hg=>?_,e2⟩,fun p hp=>⟨h1 _ (e0 p hp).1,by rw[cell_of_heap (h2 _ (e0 p hp).1)];exact (e0 p hp).2⟩,fun p hp=>?_,fun g hg=>?_⟩
  ·obtain⟨a1,a2,a3,a4⟩:=e1 g hg
   exact⟨h1 _ a1,h1 _ a2,by rw[h2 _ a1];exact a3,by rw[h2 _ a2];exact a4⟩
  ·obtain⟨a1,a2⟩:=ht p hp
   exact⟨h1 _ a1,by rw[h2 _ a1];exact a2⟩
  ·obtain⟨a1,m,a2⟩:=hn g hg
   exact⟨h1 _ a1,m,by rw[cell_of_heap (h2 _ a1)];exact a2⟩
 gl I w g cs h hg lp L:=by
  unfold globsE at hg
  split at hg
  ·rename_i hgg
   cases hg
   obtain⟨ad,e1,_⟩:=h.err
   obtain⟨a1,a2,⟨E,f,a3⟩,a4⟩:=e1 g (by simpa using hgg)
   exact qbr.ptr (off:=0) (o:=0) [.glob g T] g _ _ _ a1 a3 (by simp) (by simp) (by simp[One];rfl) (by simp;exact .cons _ _ _ _ (.glob g T _ _ _ _ a1 a3 rfl) .nil)
  ·cases hg
def SpAt (cx:Cx) (g:FuncId) (st:St) (vs:List PV) (out:Out):Prop:=qc8 cx.P g ∧
  ∀ (E:Type) (w0:World) (I0 F0:Nat→Prop) (O0:Own) (Hd:Nat→Option Obj) (R:qkj E) (e:E) (ds:List Deferred) (I F:Nat→Prop) (lp:Nat→Option Nat) (L:Loc) (tmv suf us:List Value) (w:World) (dst:Option Nat),
   SR lp I L st tmv suf w→Fr cx w0 I0 F0 O0 Hd R e ds I F L w→qbn w I lp (some L) vs us→(∀ d,dst=some d→st.objs[d]?=some []) →
   CallsIn Fence.wide 0 cx.P g us.toArray w fun
    | .returned v,w'=>∃ I' L',SR lp I' L' (apply st dst {out with v:=out.v.ren (qhw (dst.getD 0))}) (Qjb tmv dst v) suf w'∧Fr cx w0 I0 F0 O0 Hd R e ds I' F L' w'
    | _,_=>False
def qpt (f:(Nm→Option Ob)→List PV→Option Out):Prop:=∀ σ σ' vs,(∀ nm∈qbs σ qbe (qbd vs),σ nm=σ' nm)→f σ vs=f σ' vs
theorem qrc {w:World} {I:Nat→Prop} {lp:Nat→Option Nat} {L:Option Loc} {g:Nat} {t:TypeId} {v:Value} (h:qbr w I lp L (.glob g t) v):∃ x c E fr,v=.iface t x∧w.heap[g]?=some (.cells c E fr)∧c[0]?=some (.iface t x):=by
 cases h with
 | glob g t x c E fr hI hb hv=>exact⟨x,c,E,fr,rfl,hb,hv⟩
theorem lawEnd_belowW {w w':World} (h:Go.RowKit.Below w.heap.size w w'):LawEnd w w':=⟨h.os,h.tape,h.output,h.size,h.block⟩
structure AsOK (P:Program) (g:FuncId) (ge:Nat) (et:Value) (ps:List (Nat×Nat)):Prop where
 enters:qc8 P g
 none:∀ (v:Value) (w:World),Calls P g #[.nilIface,v] w fun e w'=>e=.returned (.bool false)∧w'=w
 hit:∀ p t,ps.lookup p=some t→∀ (v n:Value),v.cells=#[n]→n.oneCell'=true→∀ (a:Addr) (old:Value) (w:World),w.cell? ⟨ge,0,Option.none⟩=some et→w.cell? a=some old→w.frozen? a=false →
  Calls P g #[.iface t v,.iface p (.pointer (some a))] w fun e w'=>e=.returned (.bool true)∧∃ o1 o2 o3 o4,w'=((((w.alloc o1).alloc o2).alloc o3).alloc o4).setCell a n
section at_
variable {P:Program} {mx:P.follows .mixedOrders=true} {gs:List Nat} {T:Nat} {et:List (Nat×Value)} {tabs:List (Nat×Array Value)} {ns:List Nat}
def spIsG (gs:List Nat) (T:Nat) (S:List Nat):List PV→Option Out
 | [.nilI,.glob g t]=>if g∈gs∧t=T then some {v:=.bool false} else none
 | [.glob g t,.glob g' t']=>if g∈gs∧g'∈gs∧t=T∧t'=T then some {v:=.bool (g==g')} else none
 | [.iface s x,.glob g t]=>if g∈gs∧t=T∧s∈S∧okV x=true then some {v:=.bool false} else none
 | _=>none
structure IsOK (P:Program) (g:FuncId) (T:Nat) (S:List Nat):Prop where
 enters:qc8 P g
 none:∀ (a:Addr) (w:World),Calls P g #[.nilIface,.iface T (.pointer (some a))] w fun e w'=>e=.returned (.bool false)∧w'=w
 same:∀ (a:Addr) (w:World),Calls P g #[.iface T (.pointer (some a)),.iface T (.pointer (some a))] w fun e w'=>e=.returned (.bool true)∧w'=w
 other:∀ (a b:Addr) (ca cb:Array Value) (ta tb:TypeId) (w:World),a≠b→w.heap[a.block]?=some (.cells ca ta (0,0))→w.heap[b.block]?=some (.cells cb tb (0,0)) →
  Calls P g #[.iface T (.pointer (some a)),.iface T (.pointer (some b))] w fun e w'=>e=.returned (.bool false)∧w'=w
 type:∀ s∈S,∀ (v:Value) (b:Addr) (w:World),Calls P g #[.iface s v,.iface T (.pointer (some b))] w fun e w'=>e=.returned (.bool false)∧w'=w
theorem is_at {g:FuncId} {S:List Nat} (hA:IsOK P g T S) {st:St} {vs:List PV} {out:Out} (h:spIsG gs T S vs=some out):SpAt (cxOf P mx gs T et tabs ns) g st vs out:=by
 refine⟨hA.enters,?_⟩
 unfold spIsG at h
 split at h
 ·split at h
  ·rename_i hp
   obtain⟨hgg,rfl⟩:=hp
   cases h
   intro E w0 I0 F0 O0 Hd R e ds I F lp L tmv suf us w dst hs hf hu hd
   obtain⟨u,v,rfl,h1,h2⟩:=qqu hu
   rw[qjn h1]
   obtain⟨ad,e1,e2⟩:=hf.wd.err
   obtain⟨x,c,E',fr,rfl,q1,q2⟩:=qrc h2
   obtain⟨_,_,⟨_,_,a3⟩,_⟩:=e1 _ hgg
   rw[a3] at q1;cases q1;cases q2
   refine callsIn_wide.2 ((hA.none _ w).mono ?_)
   rintro ev w' ⟨rfl,rfl⟩
   exact qhg hs hf (lawEnd_refl _) (.bool false)
  ·cases h
 ·rename_i g1 t1 g2 t2
  split at h
  ·rename_i hp
   obtain⟨hg1,hg2,rfl,rfl⟩:=hp
   cases h
   intro E w0 I0 F0 O0 Hd R e ds I F lp L tmv suf us w dst hs hf hu hd
   obtain⟨u,v,rfl,h1,h2⟩:=qqu hu
   obtain⟨ad,e1,e2⟩:=hf.wd.err
   obtain⟨x,c,E',fr,rfl,q1,q2⟩:=qrc h1
   obtain⟨y,c',E'',fr',rfl,q1',q2'⟩:=qrc h2
   obtain⟨_,_,⟨_,_,a3⟩,ca,ta,a4⟩:=e1 _ hg1
   obtain⟨_,_,⟨_,_,b3⟩,cb,tb,b4⟩:=e1 _ hg2
   rw[a3] at q1;cases q1;cases q2
   rw[b3] at q1';cases q1';cases q2'
   by_cases hgg:g1=g2
   ·subst hgg
    refine callsIn_wide.2 ((hA.same _ w).mono ?_)
    rintro ev w' ⟨rfl,rfl⟩
    rw[beq_self_eq_true]
    exact qhg hs hf (lawEnd_refl _) (.bool true)
   ·refine callsIn_wide.2 ((hA.other _ _ ca cb ta tb w (e2 _ hg1 _ hg2 hgg) a4 b4).mono ?_)
    rintro ev w' ⟨rfl,rfl⟩
    rw[beq_eq_false_iff_ne.2 hgg]
    exact qhg hs hf (lawEnd_refl _) (.bool false)
  ·cases h
 ·rename_i ss x g1 t1
  split at h
  ·rename_i hp
   obtain⟨hgg,rfl,hS,hx⟩:=hp
   cases h
   intro E w0 I0 F0 O0 Hd R e ds I F lp L tmv suf us w dst hs hf hu hd
   obtain⟨u,v,rfl,h1,h2⟩:=qqu hu
   obtain⟨u',rfl,hx'⟩:=qlt h1
   obtain⟨ad,e1,e2⟩:=hf.wd.err
   obtain⟨x,c,E',fr,rfl,q1,q2⟩:=qrc h2
   obtain⟨_,_,⟨_,_,a3⟩,_⟩:=e1 _ hgg
   rw[a3] at q1;cases q1;cases q2
   refine callsIn_wide.2 ((hA.type _ hS u' _ w).mono ?_)
   rintro ev w' ⟨rfl,rfl⟩
   exact qhg hs hf (lawEnd_refl _) (.bool false)
  ·cases h
 ·cases h
end at_
section any
variable {cx:Cx} {g:FuncId} {st:St} {vs:List PV} {out:Out}
def Qmn (c:UInt8):List UInt8→Nat
 | []=>0
 | x :: xs=>(if x=c then 1 else 0)+Qmn c xs
def Qhz:List PV→Option Out
 | [.str s,.str [c]]=>some {v:=.int .i64 (Qmn c s:Nat)}
 | _=>none
theorem Qmm (c:UInt8):∀ s:List UInt8,Qmn c s=Lib.countByte s c
 | []=>rfl
 | x :: xs=>by
  unfold Qmn
  rw[Qmm c xs]
  unfold Lib.countByte
  rw[List.count_cons]
  by_cases h:x=c
  ·simp[h,Nat.add_comm]
  ·simp[h]
theorem count_at (he:qc8 cx.P g) (hc:∀ (s:ByteArray) (c:UInt8) (w:World),Calls cx.P g #[.string s,.string ⟨#[c]⟩] w fun e w'=>e=.returned (.int .i64 (Lib.countByte s.data.toList c))∧w'=w)
  (h:Qhz vs=some out):SpAt cx g st vs out:=by
 refine⟨he,?_⟩
 unfold Qhz at h
 split at h
 ·cases h
  intro E w0 I0 F0 O0 Hd R e ds I F lp L tmv suf us w dst hs hf hu hd
  obtain⟨u,v,rfl,h1,h2⟩:=qqu hu
  rw[qfc h1,qfc h2]
  refine callsIn_wide.2 ((hc _ _ w).mono ?_)
  rintro ev w' ⟨rfl,rfl⟩
  refine qhg hs hf (lawEnd_refl _) ?_
  rw[Qmm]
  exact .int _ _
 ·cases h
def spIdx:List PV→Option Out
 | [.str s,.int .u8 c]=>if 0≤c∧c < 256 then some {v:=.int .i64 (Lib.indexByte s (UInt8.ofNat c.toNat))} else none
 | _=>none
theorem idx_at (he:qc8 cx.P g) (hc:∀ (s:ByteArray) (c:Int) (w:World),Calls cx.P g #[.string s,.int .u8 c] w fun e w'=>e=.returned (.int .i64 (Lib.indexByte s.data.toList c.toNat.toUInt8))∧w'=w)
  (h:spIdx vs=some out):SpAt cx g st vs out:=by
 refine⟨he,?_⟩
 unfold spIdx at h
 split at h
 ·split at h
  ·cases h
   intro E w0 I0 F0 O0 Hd R e ds I F lp L tmv suf us w dst hs hf hu hd
   obtain⟨u,v,rfl,h1,h2⟩:=qqu hu
   rw[qfc h1,qd8 h2]
   refine callsIn_wide.2 ((hc _ _ w).mono ?_)
   rintro ev w' ⟨rfl,rfl⟩
   exact qhg hs hf (lawEnd_refl _) (.int _ _)
  ·cases h
 ·cases h
def qv1 (T:Nat) (σ:Nm→Option Ob):List PV→Option Out
 | [.ref n 0]=>match σ n with
  | some (.cells t [.nilP,x])=>if t=T then some {v:=.tup [],upd:=some (n,.cells T [.ref n 0,x])} else none
  | some (.cells t [.ref n' 0,_])=>if t=T∧n'=n then some {v:=.tup []} else none
  | _=>none
 | _=>none
def spStr (T U:Nat) (σ:Nm→Option Ob):List PV→Option Out
 | [.ref n 0]=>match σ n with
  | some (.cells t [_,.nilS])=>if t=T then some {v:=.str []} else none
  | some (.cells t [_,.arr n' 1 0 k])=>match σ n' with
   | some (.arr 1 u xs)=>match qhp (xs.take k) with
    | some s=>if t=T∧u=U∧n'≠n∧0 < k∧k≤xs.length∧k≤qgx then some {v:=.str s,upd:=some (n',qd5),kill:=some n'} else none
    | none=>none
   | _=>none
  | _=>none
 | _=>none
theorem check_here (T:Nat):qpt (qv1 T):=by
 intro σ σ' vs h
 unfold qv1
 split
 ·rename_i n
  rw[h n (qcn _ _ n (by simp[qbd,PV.names]))]
 ·rfl
theorem str_here (T U:Nat):qpt (spStr T U):=by
 intro σ σ' vs h
 unfold spStr
 split
 ·rename_i n
  rw[←h n (qcn _ _ n (by simp[qbd,PV.names]))]
  have h2:∀ t a n' k,σ n=some (.cells t [a,.arr n' 1 0 k])→σ n'=σ' n':=by
   intro t a n' k he
   refine h n' ?_
   show n'∈qbs σ 3 [n]
   unfold qbs
   refine List.mem_append_right _ (qcn _ _ n' ?_)
   simp[he,Ob.names,qbd,PV.names]
  generalize hx:σ n=o at *
  split
  ·rfl
  ·rename_i t a n' k
   rw[h2 t a n' k rfl]
  ·rfl
 ·rfl
theorem qy3 {w:World} {I:Nat→Prop} {lp:Nat→Option Nat} {L:Option Loc}:∀ (xs:List PV) (vs:List Value) (s:List UInt8),qbn w I lp L xs vs→qhp xs=some s→∀ (j:Nat) (x:UInt8),s[j]?=some x→vs[j]?=some (.int .u8 (x.toNat:Int))
 | [],_,s,_,h,j,x,hj=>by cases h;simp at hj
 | p :: xs,_,s,h,hb,j,x,hj=>by
  cases h with
  | cons _ v _ vs hv hs =>
   simp only[qhp] at hb
   split at hb
   ·rename_i b bs h1 h2
    cases hb
    have hp:v=.int .u8 (b.toNat:Int):=by
     unfold Qg9 at h1
     split at h1
     ·rename_i n
      split at h1
      ·rename_i hn
       cases h1
       rw[qd8 hv]
       congr 1
       simp
       omega
      ·cases h1
     ·cases h1
    cases j with
    | zero=>simp at hj;subst hj;simp[hp]
    | succ j=>simp at hj ⊢;exact qy3 xs vs bs hs h2 j x hj
   ·cases hb
theorem qx1:∀ (xs:List PV) (s:List UInt8),qhp xs=some s→s.length=xs.length
 | [],s,h=>by cases h;rfl
 | p :: xs,s,h=>by
  simp only[qhp] at h
  split at h
  ·rename_i b bs h1 h2
   cases h
   simp[qx1 xs bs h2]
  ·cases h
theorem Qbf:∀ (xs:List PV) (s:List UInt8),qhp xs=some s→cellsL xs=xs
 | [],_,_=>rfl
 | p :: xs,s,h=>by
  simp only[qhp] at h
  split at h
  ·rename_i b bs h1 h2
   have hp:p.cells=[p]:=by
    unfold Qg9 at h1
    split at h1
    ·rfl
    ·cases h1
   simp[cellsL,hp,Qbf xs bs h2]
  ·cases h
theorem Qdk {c:Array Value} {a b:Value} (h:c.toList=[a,b]):c=#[a,b]:=by
 apply Array.toList_inj.1
 simpa using h
theorem Qgg {W:World} {a:Addr} {n k:Nat} (h:k≠a.block):(W.freeze a n).heap[k]?=W.heap[k]?:=by
 unfold World.freeze
 split
 ·rfl
 ·simp[Array.getElem?_modify,Ne.symm h]
structure BldOK (P:Program) (gc gs:FuncId) (T U:Nat):Prop where
 entersC:qc8 P gc
 entersS:qc8 P gs
 nzT:T≠0
 nzU:U≠0
 used:∀ (b:Nat) (w:World),w.cell? ⟨b,0,none⟩=some (.pointer (some ⟨b,0,none⟩))→Calls P gc #[.pointer (some ⟨b,0,none⟩)] w fun e w'=>e=.returned (.tuple #[])∧w'=w
 fresh:∀ (b:Nat) (w:World),w.cell? ⟨b,0,none⟩=some (.pointer none)→w.shape? b=some (T,2)→w.frozen? ⟨b,0,none⟩=false →
  Calls P gc #[.pointer (some ⟨b,0,none⟩)] w fun e w'=>e=.returned (.tuple #[])∧w'=w.setCell ⟨b,0,none⟩ (.pointer (some ⟨b,0,none⟩))
 strNil:∀ (b:Nat) (p:Value) (w:World),w.heap[b]?=some (.cells #[p,.slice none 0 0] T (0,0))→Calls P gs #[.pointer (some ⟨b,0,none⟩)] w fun e w'=>e=.returned (.string ⟨#[]⟩)∧w'=w.drew
 strSome:∀ (b g cap:Nat) (p:Value) (cur:Array Value) (l:List UInt8) (w:World),w.heap[b]?=some (.cells #[p,.slice (some ⟨g,0,none⟩) l.length cap] T (0,0))→w.heap[g]?=some (.cells cur U (0,0))→l≠[]→l.length≤cap→l.length≤cur.size →
  l.length≤9223372036854775807→(∀ (j:Nat) (x:UInt8),l[j]?=some x→cur[j]?=some (Value.int .u8 (x.toNat:Int))) →
  Calls P gs #[.pointer (some ⟨b,0,none⟩)] w fun e w'=>e=.returned (.string ⟨l.toArray⟩)∧w'=w.drew.freeze ⟨g,0,none⟩ l.length
theorem check_at {gs:FuncId} {T U:Nat} (hB:BldOK cx.P g gs T U) (h:qv1 T (qbf st.objs) vs=some out):SpAt cx g st vs out:=by
 refine⟨hB.entersC,?_⟩
 unfold qv1 at h
 split at h
 ·rename_i n
  split at h
  ·rename_i t x hlk
   split at h
   case isFalse=>cases h
   rename_i ht
   subst ht
   cases h
   intro E w0 I0 F0 O0 Hd R e ds I F lp L tmv suf us w dst hs hf hu hd
   obtain⟨u,rfl,hr⟩:=Qb3 hu
   obtain⟨b,C,hL,rfl⟩:=qge hr
   obtain⟨q,hq,hob⟩:=hs.ob n _ hlk
   rw[hL] at hq;cases hq
   obtain⟨c,E',hb,hC,hone,hcs⟩:=hob
   obtain⟨v0,v1,hc,r0,r1⟩:=qqu hcs
   have hc:=Qdk hc
   subst hc
   obtain rfl:E'=t:=hone.2.resolve_left hB.nzT
   rw[qmi r0] at hb
   refine callsIn_wide.2 ((hB.fresh b w (by simp[World.cell?,hb]) (by simp[World.shape?,hb]) (by simp[World.frozen?,hb])).mono ?_)
   rintro ev w' ⟨rfl,rfl⟩
   have hself:=setCell_same (o:=0) (n:=.pointer (some ⟨b,0,none⟩)) hb
   have hI:∀ k,I k→(w.setCell ⟨b,0,none⟩ (.pointer (some ⟨b,0,none⟩))).heap[k]?=w.heap[k]?:=fun k hk=>Go.RowKit.Below.heap_setCell _ _ _ _ fun (e:k=b)=>(hf.lB n b C hL).2.2.1 (e ▸ hk)
   refine Qbu (w':=w.setCell ⟨b,0,none⟩ (.pointer (some ⟨b,0,none⟩))) hs hf hL rfl rfl rfl (by rw[qkr];exact Nat.le_refl _) (fun k _ hk=>Go.RowKit.Below.heap_setCell _ _ _ _ hk) ?_ (.tup [] #[] .nil)
   refine⟨_,E',hself,by simpa using hC,⟨?_,.inr rfl⟩,?_⟩
   ·intro v hv
    simp at hv
    rcases hv with rfl | rfl
    ·rfl
    ·exact hone.1 _ (by simp)
   ·simp
    exact .cons _ _ _ _ (.ref n 0 b C hL) (.cons _ _ _ _ (qbr.mono (fun _ h=>h) hI (fun _ _ h=>h) r1) .nil)
  ·rename_i t n' x hlk
   split at h
   ·rename_i hn
    obtain⟨rfl,rfl⟩:=hn
    cases h
    intro E w0 I0 F0 O0 Hd R e ds I F lp L tmv suf us w dst hs hf hu hd
    obtain⟨u,rfl,hr⟩:=Qb3 hu
    obtain⟨b,C,hL,rfl⟩:=qge hr
    obtain⟨q,hq,hob⟩:=hs.ob _ _ hlk
    rw[hL] at hq;cases hq
    obtain⟨c,E',hb,hC,hone,hcs⟩:=hob
    obtain⟨v0,v1,hc,r0,r1⟩:=qqu hcs
    have hc:=Qdk hc
    subst hc
    obtain⟨b',C',hL',rfl⟩:=qge r0
    rw[hL] at hL';cases hL'
    refine callsIn_wide.2 ((hB.used b w (by simp[World.cell?,hb])).mono ?_)
    rintro ev w' ⟨rfl,rfl⟩
    exact qhg hs hf (lawEnd_refl _) (.tup [] #[] .nil)
   ·cases h
  ·cases h
 ·cases h
theorem str_at {gc:FuncId} {T U:Nat} (hB:BldOK cx.P gc g T U) (h:spStr T U (qbf st.objs) vs=some out):SpAt cx g st vs out:=by
 refine⟨hB.entersS,?_⟩
 unfold spStr at h
 split at h
 ·rename_i n
  split at h
  ·rename_i t x hlk
   split at h
   case isFalse=>cases h
   rename_i ht
   subst ht
   cases h
   intro E w0 I0 F0 O0 Hd R e ds I F lp L tmv suf us w dst hs hf hu hd
   obtain⟨u,rfl,hr⟩:=Qb3 hu
   obtain⟨b,C,hL,rfl⟩:=qge hr
   obtain⟨q,hq,hob⟩:=hs.ob _ _ hlk
   rw[hL] at hq;cases hq
   obtain⟨c,E',hb,hC,hone,hcs⟩:=hob
   obtain⟨v0,v1,hc,r0,r1⟩:=qqu hcs
   have hc:=Qdk hc
   subst hc
   obtain rfl:E'=t:=hone.2.resolve_left hB.nzT
   rw[qf3 r1] at hb
   refine callsIn_wide.2 ((hB.strNil b v0 w hb).mono ?_)
   rintro ev w' ⟨rfl,rfl⟩
   exact qhg (w':=w.drew) hs hf ⟨rfl,rfl,rfl,Nat.le_refl _,fun _ _=>rfl⟩ (.str [])
  ·rename_i t x n' k hlk
   split at h
   ·rename_i u' xs hlk'
    split at h
    ·rename_i s hs'
     split at h
     ·rename_i hc0
      obtain⟨rfl,rfl,hnn,hk0,hkl,hkm⟩:=hc0
      cases h
      intro E w0 I0 F0 O0 Hd R e ds I F lp L tmv suf us w dst hs hf hu hd
      obtain⟨u,rfl,hr⟩:=Qb3 hu
      obtain⟨b,C,hL,rfl⟩:=qge hr
      obtain⟨q,hq,hob⟩:=hs.ob _ _ hlk
      rw[hL] at hq;cases hq
      obtain⟨c,E',hb,hC,hone,hcs⟩:=hob
      obtain⟨v0,v1,hc,r0,r1⟩:=qqu hcs
      have hc:=Qdk hc
      subst hc
      obtain rfl:E'=t:=hone.2.resolve_left hB.nzT
      obtain⟨q',hq',hob'⟩:=hs.ob _ _ hlk'
      rcases qje r1 with ⟨g,C',cap,hL',rfl,hC',hn⟩ | ⟨_,_,_,h0⟩
      ·rw[hL'] at hq';cases hq'
       obtain⟨cur,E2,hg,hCg,hle,hkx,hone2,hrep⟩:=hob'
       obtain rfl:E2=u':=hle.2.resolve_left hB.nzU
       have hlen:=qx1 _ _ hs'
       rw[List.length_take,Nat.min_eq_left hkl] at hlen
       have hrk:qbn w I lp none (xs.take k) (cur.toList.take k):=by
        have h1:=hrep.take k
        rw[show k=k*1 by omega,←qfz hkx,Qbf _ _ hs',List.take_take,Nat.min_eq_left (by omega)] at h1
        simpa using h1
       have hbytes:=qy3 _ _ _ hrk hs'
       have hcur:k≤cur.size:=by have:=hle.1;omega
       subst hlen
       refine callsIn_wide.2 ((hB.strSome b g cap v0 cur s w (by simpa using hb) hg (by intro e;subst e;simp at hk0) hn hcur ?_ ?_).mono ?_)
       ·unfold qgx at hkm;omega
       ·intro j x hx
        have hj:j < s.length:=(List.getElem?_eq_some_iff.1 hx).1
        have h1:=hbytes j x hx
        rw[List.getElem?_take_of_lt hj] at h1
        simpa using h1
       ·rintro ev w' ⟨rfl,rfl⟩
        have hfz:∀ (W:World) (a:Addr) (n:Nat),(W.freeze a n).os=W.os∧(W.freeze a n).tape=W.tape∧(W.freeze a n).output=W.output∧(W.freeze a n).heap.size=W.heap.size:=fun W a n=>by
         unfold World.freeze
         split<;>simp
        obtain⟨f1,f2,f3,f4⟩:=hfz w.drew ⟨g,0,none⟩ s.length
        refine sp_gone (w':=w.drew.freeze ⟨g,0,none⟩ s.length) hs hf hL' f1 f2 f3 (Nat.le_of_eq f4.symm) (fun k' hk' hne=>?_) (fun L'=>.str s)
        rw[Qgg (fun e=>hne C' (by rw[e]))]
        rfl
      ·omega
     ·cases h
    ·cases h
   ·cases h
  ·cases h
 ·cases h
end any
def digs:Nat→Nat→List UInt8
 | 0,_=>[]
 | k+1,u=>if u < 10 then [UInt8.ofNat (48+u)] else digs k (u / 10)++[UInt8.ofNat (48+u%10)]
def itoaF (n:Int):List UInt8:=if n < 0 then 45 :: digs 20 n.natAbs else digs 20 n.toNat
theorem Qkd:∀ (k u:Nat),u < 10 ^ k→0 < k→digs k u=Lib.decDigits u
 | 0,_,_,h=>absurd h (Nat.lt_irrefl _)
 | k+1,u,h,_=>by
  unfold digs
  rw[Lib.decDigits]
  by_cases hu:u < 10
  ·rw[if_pos hu,dif_pos hu]
  ·rw[if_neg hu,dif_neg hu]
   have h1:0 < k:=by
    rcases Nat.eq_zero_or_pos k with rfl | hk
    ·exact absurd (by simpa using h) hu
    ·exact hk
   have h2:u / 10 < 10 ^ k:=by
    refine Nat.div_lt_of_lt_mul ?_
    rw[Nat.pow_succ,Nat.mul_comm] at h
    exact h
   rw[Qkd k (u / 10) h2 h1]
theorem itoa_eq (n:Int) (h0 : -9223372036854775808≤n) (h1:n≤9223372036854775807):itoaF n=Lib.itoa n:=by
 unfold itoaF Lib.itoa
 have hp:(18446744073709551616:Nat)≤10 ^ 20:=by decide
 rw[Qkd 20 n.natAbs (by omega) (by decide),Qkd 20 n.toNat (by omega) (by decide)]
def spItoa:List PV→Option Out
 | [.int .i64 n]=>if -9223372036854775808≤n∧n≤9223372036854775807 then some {v:=.str (itoaF n)} else none
 | _=>none
section at2
variable {P:Program} {mx:P.follows .mixedOrders=true} {gs:List Nat} {T:Nat} {et:List (Nat×Value)} {tabs:List (Nat×Array Value)} {ns:List Nat} {g:FuncId} {st:St} {vs:List PV} {out:Out}
theorem itoa_at (he:qc8 P g) {gt:Nat} (ht:(gt,(Lib.pow10Tab.map fun z=>Value.int .u64 z).toArray)∈tabs) (hn:P.globalNamed "internal/strconv.uint64pow10"=some gt)
  (hc:∀ (n:Int), -9223372036854775808≤n→n≤9223372036854775807→∀ w:World,Lib.TabIs P w "internal/strconv.uint64pow10" .u64 Lib.pow10Tab→Calls P g #[.int .i64 n] w fun e w'=>e=.returned (.string ⟨(Lib.itoa n).toArray⟩)∧∃ k os,w'=Sort.grow (w.drewN k) os)
  (h:spItoa vs=some out):SpAt (cxOf P mx gs T et tabs ns) g st vs out:=by
 refine⟨he,?_⟩
 unfold spItoa at h
 split at h
 ·rename_i n
  split at h
  ·rename_i hr
   cases h
   intro E w0 I0 F0 O0 Hd R e ds I F lp L tmv suf us w dst hs hf hu hd
   obtain⟨u,rfl,h1⟩:=Qb3 hu
   rw[qd8 h1]
   obtain⟨_,E',fr,hp⟩:=hf.wd.tab _ ht
   have ht:Lib.TabIs P w "internal/strconv.uint64pow10" .u64 Lib.pow10Tab:=by
    unfold Lib.TabIs World.var?
    rw[hn]
    simp only[Option.bind_some,hp]
   refine callsIn_wide.2 ((hc n hr.1 hr.2 w ht).mono ?_)
   rintro ev w' ⟨rfl,k,os,rfl⟩
   rw[itoa_eq n hr.1 hr.2]
   exact qhg hs hf (lawEnd_belowW (Lib.below_grow _ w (Nat.le_refl _) k os)) (.str _)
  ·cases h
 ·cases h
end at2
theorem cfg_loc {sp:FuncId→(Nm→Option Ob)→List PV→Option Out} (h:∀ g,qpt (sp g)) (g:FuncId) (σ:Nm→Option Ob) (vs:List PV) (hv:qcy vs=true):sp g σ vs=sp g (fun _=>none) vs:=by
 refine h g σ _ vs fun nm hm=>?_
 rw[(qbx hv).1] at hm
 have:qbs σ qbe []=[]:=by simp[qbs,qbe]
 rw[this] at hm
 cases hm
end Go.Ab


namespace Go.Ab
open Go
def qyw (k:IntKind) (σ:Nm→Option Ob):List PV→Option Out
 | [.ref n o]=>match σ n with
  | some (.cells _ cs)=>match cs[o]? with
   | some (.int k' y)=>if k'=k then some {v:=.int k y} else none
   | _=>none
  | _=>none
 | _=>none
def qvy (k:IntKind) (σ:Nm→Option Ob):List PV→Option Out
 | [.ref n o,.int k1 y]=>match σ n with
  | some (.cells ty cs)=>match cs[o]? with
   | some (.int k' _)=>if k'=k∧k1=k then some {v:=.tup [],upd:=some (n,.cells ty (cs.set o (.int k y)))} else none
   | _=>none
  | _=>none
 | _=>none
def qyv (k:IntKind) (x y:Int) (σ:Nm→Option Ob):List PV→Option Out
 | [.ref n o]=>match σ n with
  | some (.cells ty cs)=>match cs[o]? with
   | some (.int k' z)=>if k'=k∧z=x then some {v:=.tup [],upd:=some (n,.cells ty (cs.set o (.int k y)))} else none
   | _=>none
  | _=>none
 | _=>none
theorem Qfn (k:IntKind):qpt (qyw k):=by
 intro σ σ' vs h
 unfold qyw
 split
 ·rename_i n o
  rw[h n (qcn _ _ n (by simp[qbd,PV.names]))]
 ·rfl
theorem store_here (k:IntKind):qpt (qvy k):=by
 intro σ σ' vs h
 unfold qvy
 split
 ·rename_i n o k1 y
  rw[h n (qcn _ _ n (by simp[qbd,PV.names]))]
 ·rfl
theorem Qdx (k:IntKind) (x y:Int):qpt (qyv k x y):=by
 intro σ σ' vs h
 unfold qyv
 split
 ·rename_i n o
  rw[h n (qcn _ _ n (by simp[qbd,PV.names]))]
 ·rfl
section
variable {cx:Cx} {E:Type} {w0:World} {I0 F0:Nat→Prop} {O0:Own} {Hd:Nat→Option Obj} {R:qkj E} {e:E} {ds:List Deferred} {I F:Nat→Prop} {lp:Nat→Option Nat} {L:Loc} {tmv suf:List Value} {st:St} {w:World} {dst:Option Nat}
theorem qvn (hs:SR lp I L st tmv suf w) {nm:Nm} {ty:Nat} {cs:List PV} {o:Nat} {k:IntKind} {y0:Int} {u:Value} (hlk:qbf st.objs nm=some (.cells ty cs)) (hr:qbr w I lp (some L) (.ref nm o) u) (h0:cs[o]?=some (.int k y0)) :
  ∃ b C,L nm=some (some (b,C))∧u=.pointer (some ⟨b,o,none⟩)∧w.cell? ⟨b,o,none⟩=some (.int k y0)∧w.frozen? ⟨b,o,none⟩=false:=by
 obtain⟨b,C,hL,rfl⟩:=qge hr
 obtain⟨q,hq,hob⟩:=hs.ob nm _ hlk
 rw[hL] at hq;cases hq
 obtain⟨c,E',hb,hC,hone,hcs⟩:=hob
 obtain⟨v,hv,hrv⟩:=hcs.get h0
 rw[qd8 hrv] at hv
 refine⟨b,C,hL,rfl,?_,by simp[World.frozen?,hb]⟩
 rw[Array.getElem?_toList] at hv
 simp[World.cell?,hb,hv]
theorem Qkx (hs:SR lp I L st tmv suf w) (hf:Fr cx w0 I0 F0 O0 Hd R e ds I F L w) {nm:Nm} {ty:Nat} {cs:List PV} {o:Nat} {k:IntKind} {b C:Nat} (hlk:qbf st.objs nm=some (.cells ty cs)) (hL:L nm=some (some (b,C))) (y:Int) :
  ∃ I' L',SR lp I' L' (apply st dst {v:=.tup [],upd:=some (nm,.cells ty (cs.set o (.int k y)))}) (Qjb tmv dst (.tuple #[])) suf (w.setCell ⟨b,o,none⟩ (.int k y))∧Fr cx w0 I0 F0 O0 Hd R e ds I' F L' (w.setCell ⟨b,o,none⟩ (.int k y)):=by
 obtain⟨q,hq,hob⟩:=hs.ob nm _ hlk
 rw[hL] at hq;cases hq
 obtain⟨c,E',hb,hC,hone,hcs⟩:=hob
 have hself:=setCell_same (o:=o) (n:=.int k y) hb
 have hI:∀ j,I j→(w.setCell ⟨b,o,none⟩ (.int k y)).heap[j]?=w.heap[j]?:=fun j hj=>Go.RowKit.Below.heap_setCell _ _ _ _ fun (e:j=b)=>(hf.lB nm b C hL).2.2.1 (e ▸ hj)
 refine Qbu (w':=w.setCell ⟨b,o,none⟩ (.int k y)) hs hf hL rfl rfl rfl (by rw[qkr];exact Nat.le_refl _) (fun j _ hj=>Go.RowKit.Below.heap_setCell _ _ _ _ hj) ?_ (.tup [] #[] .nil)
 refine⟨_,E',hself,by simpa using hC,⟨?_,hone.2⟩,?_⟩
 ·intro v hv
  rw[Array.toList_setIfInBounds] at hv
  rcases List.mem_or_eq_of_mem_set hv with hv | rfl
  ·exact hone.1 v hv
  ·rfl
 ·rw[Array.toList_setIfInBounds]
  exact qbn.mono (fun _ h=>h) hI (fun _ _ h=>h) (hcs.set o (.int k y))
end
section at_
variable {cx:Cx} {g:FuncId} {st:St} {vs:List PV} {out:Out} {k:IntKind}
theorem Qll (hg:∀ (a:Addr) (y:Int) (w:World),w.cell? a=some (.int k y)→(callFunc g #[.pointer (some a)]).run cx.P w=.ok (.value (.int k y)) w) (h:qyw k (qbf st.objs) vs=some out):SpRet cx g st vs out:=by
 unfold qyw at h
 split at h
 case h_2=>cases h
 split at h
 case h_2=>cases h
 rename_i ty cs hlk
 split at h
 case h_2=>cases h
 rename_i k' y h0
 split at h
 case isFalse=>cases h
 rename_i hk
 subst hk
 cases h
 intro E w0 I0 F0 O0 Hd R e ds I F lp L tmv suf us w dst hs hf hu hd
 obtain⟨u,rfl,hr⟩:=Qb3 hu
 obtain⟨b,C,hL,rfl,h1,h2⟩:=qvn hs hlk hr h0
 exact⟨_,w,hg _ _ w h1,qhg hs hf (lawEnd_refl w) (.int _ _)⟩
theorem store_ret (hg:∀ (a:Addr) (y0 y:Int) (w:World),w.cell? a=some (.int k y0)→w.frozen? a=false→(callFunc g #[.pointer (some a),.int k y]).run cx.P w=.ok (.value (.tuple #[])) (w.setCell a (.int k y))) (h:qvy k (qbf st.objs) vs=some out):SpRet cx g st vs out:=by
 unfold qvy at h
 split at h
 case h_2=>cases h
 split at h
 case h_2=>cases h
 rename_i ty cs hlk
 split at h
 case h_2=>cases h
 rename_i k' y0 h0
 split at h
 case isFalse=>cases h
 rename_i hk
 obtain⟨rfl,rfl⟩:=hk
 cases h
 intro E w0 I0 F0 O0 Hd R e ds I F lp L tmv suf us w dst hs hf hu hd
 obtain⟨u,v,rfl,hr,hv⟩:=qqu hu
 obtain⟨b,C,hL,rfl,h1,h2⟩:=qvn hs hlk hr h0
 rw[qd8 hv]
 exact⟨_,_,hg _ _ _ w h1 h2,Qkx hs hf hlk hL _⟩
theorem swap_at {x y:Int} (he:qc8 cx.P g) (hg:∀ (a:Addr) (w:World),w.cell? a=some (.int k x)→w.frozen? a=false→Calls cx.P g #[.pointer (some a)] w fun e w'=>e=.returned (.tuple #[])∧w'=w.setCell a (.int k y)) (h:qyv k x y (qbf st.objs) vs=some out):SpAt cx g st vs out:=by
 refine⟨he,?_⟩
 unfold qyv at h
 split at h
 case h_2=>cases h
 split at h
 case h_2=>cases h
 rename_i ty cs hlk
 split at h
 case h_2=>cases h
 rename_i k' z h0
 split at h
 case isFalse=>cases h
 rename_i hk
 obtain⟨rfl,rfl⟩:=hk
 cases h
 intro E w0 I0 F0 O0 Hd R e ds I F lp L tmv suf us w dst hs hf hu hd
 obtain⟨u,rfl,hr⟩:=Qb3 hu
 obtain⟨b,C,hL,rfl,h1,h2⟩:=qvn hs hlk hr h0
 refine callsIn_wide.2 ((hg _ w h1 h2).mono ?_)
 rintro ev w' ⟨rfl,rfl⟩
 exact Qkx hs hf hlk hL _
end at_
section k_
variable {σ:Nm→Option KOb} {xs:List KV} {out:qb2} {k:IntKind}
end k_
end Go.Ab


namespace Go.Ab
open Go
def spAdd (k:IntKind) (σ:Nm→Option Ob):List PV→Option Out
 | [.ref n o,.int k1 d]=>match σ n with
  | some (.cells ty cs)=>match cs[o]? with
   | some (.int k' x)=>if k'=k∧k1=k then some {v:=.int k (k.wrap (x+d)),upd:=some (n,.cells ty (cs.set o (.int k (k.wrap (x+d)))))} else none
   | _=>none
  | _=>none
 | _=>none
def Qkz:List PV→Option (List (List UInt8))
 | []=>some []
 | .str s :: r=>match Qkz r with
  | some l=>some (s :: l)
  | none=>none
 | _=>none
def Qd0 (σ:Nm→Option Ob):List PV→Option Out
 | [.arr n k o m,.str sep]=>match σ n with
  | some (.arr 1 _ xs)=>match Qkz ((xs.drop o).take m) with
   | some l=>if k=1∧0 < m∧l.length=m∧m≤65536∧(Lib.join l sep).length≤65536 then some {v:=.str (Lib.join l sep)} else none
   | none=>none
  | _=>none
 | _=>none
def Qbv:List PV→Option Out
 | [.sl k [] _]=>some {v:=.sl k [] true}
 | _=>none
def spAs3 (p t:Nat) (σ:Nm→Option Ob):List PV→Option Out
 | [.nilI,_]=>some {v:=.bool false}
 | [.iface t' x,.iface p' (.ref nm o)]=>match σ nm with
  | some (.cells ty cs)=>if t'=t∧p'=p∧o=0∧cs.length=3∧qmf x 3=true then some {v:=.bool true,upd:=some (nm,.cells ty x.cells)} else none
  | _=>none
 | _=>none
theorem as3_here (p t:Nat):qpt (spAs3 p t):=by
 intro σ σ' vs h
 unfold spAs3
 split
 ·rfl
 ·rename_i t x p nm o
  rw[h nm (qcn _ _ nm (by simp[qbd,PV.names]))]
 ·rfl
structure As3OK (P:Program) (g:FuncId) (ge:Nat) (et:Value) (p t:Nat):Prop where
 enters:qc8 P g
 none:∀ (v:Value) (w:World),Calls P g #[.nilIface,v] w fun e w'=>e=.returned (.bool false)∧w'=w
 hit:∀ (v n1 n2 n3:Value),v.cells=#[n1,n2,n3]→n1.oneCell'=true→n2.oneCell'=true→n3.oneCell'=true→∀ (b:Nat) (o1 o2 o3:Value) (E:TypeId) (w:World),
  w.cell? ⟨ge,0,Option.none⟩=some et→w.heap[b]?=some (.cells #[o1,o2,o3] E (0,0)) →
  Calls P g #[.iface t v,.iface p (.pointer (some ⟨b,0,Option.none⟩))] w fun e w'=>e=.returned (.bool true) ∧
   ∃ q1 q2 q3 q4,w'=((((((w.alloc q1).alloc q2).alloc q3).alloc q4).setCell ⟨b,0,Option.none⟩ n1).setCell ⟨b,1,Option.none⟩ n2).setCell ⟨b,2,Option.none⟩ n3
theorem Qhh {α:Type} {a:Array α} (h:a.size=3):∃ x y z,a=#[x,y,z]:=by
 obtain⟨l⟩:=a
 match l,h with
 | [x,y,z],_=>exact⟨x,y,z,rfl⟩
theorem add_here (k:IntKind):qpt (spAdd k):=by
 intro σ σ' vs h
 unfold spAdd
 split
 ·rename_i n o k1 d
  rw[h n (qcn _ _ n (by simp[qbd,PV.names]))]
 ·rfl
theorem join_here:qpt Qd0:=by
 intro σ σ' vs h
 unfold Qd0
 split
 ·rename_i n k o m sep
  rw[h n (qcn _ _ n (by simp[qbd,PV.names]))]
 ·rfl
theorem qys:∀ {xs:List PV} {l:List (List UInt8)},Qkz xs=some l→∀ {j:Nat} {s:List UInt8},l[j]?=some s→xs[j]?=some (.str s)
 | [],_,h,j,s,hj=>by cases h;cases hj
 | x :: r,l,h,j,s,hj=>by
  unfold Qkz at h
  split at h
  ·rename_i he
   cases he
  ·rename_i s0 r' he
   obtain⟨rfl,rfl⟩:=List.cons.inj he
   split at h
   ·rename_i l' hl
    cases h
    cases j with
    | zero=>cases hj;rfl
    | succ j=>exact qys hl (j:=j) hj
   ·cases h
  ·cases h
theorem Qbg:∀ {xs:List PV},(∀ x∈xs,x.cells.length=1)→∀ {j:Nat} {s:List UInt8},xs[j]?=some (.str s)→(cellsL xs)[j]?=some (.str s)
 | x :: r,hk,0,s,h=>by
  cases h
  simp[cellsL,PV.cells]
 | x :: r,hk,j+1,s,h=>by
  have h1:=hk x (List.mem_cons_self ..)
  have:=Qbg (xs:=r) (fun y hy=>hk y (List.mem_cons_of_mem _ hy)) (j:=j) (by simpa using h)
  rw[cellsL,List.getElem?_append_right (by omega),h1]
  simpa using this
section at_
variable {cx:Cx} {g:FuncId} {st:St} {vs:List PV} {out:Out} {k:IntKind}
theorem add_ret (hg:∀ (a:Addr) (x d:Int) (w:World),w.cell? a=some (.int k x)→w.frozen? a=false→(callFunc g #[.pointer (some a),.int k d]).run cx.P w=.ok (.value (.int k (k.wrap (x+d)))) (w.setCell a (.int k (k.wrap (x+d))))) (h:spAdd k (qbf st.objs) vs=some out):SpRet cx g st vs out:=by
 unfold spAdd at h
 split at h
 case h_2=>cases h
 rename_i nm o k1 d
 split at h
 case h_2=>cases h
 rename_i ty cs hlk
 split at h
 case h_2=>cases h
 rename_i k' x h0
 split at h
 case isFalse=>cases h
 rename_i hk
 obtain⟨hk1,hk2⟩:=hk
 subst hk1
 subst hk2
 cases h
 intro E w0 I0 F0 O0 Hd R e ds I F lp L tmv suf us w dst hs hf hu hd
 obtain⟨u,v,rfl,hr,hv⟩:=qqu hu
 obtain⟨b,C,hL,rfl,h1,h2⟩:=qvn hs hlk hr h0
 rw[qd8 hv]
 refine⟨_,_,hg _ _ _ w h1 h2,?_⟩
 obtain⟨q,hq,hob⟩:=hs.ob _ _ hlk
 rw[hL] at hq;cases hq
 obtain⟨c,E',hb,hC,hone,hcs⟩:=hob
 have hself:=setCell_same (o:=o) (n:=Value.int k1 (k1.wrap (x+d))) hb
 have hI:∀ j,I j→(w.setCell ⟨b,o,none⟩ (Value.int k1 (k1.wrap (x+d)))).heap[j]?=w.heap[j]?:=fun j hj=>Go.RowKit.Below.heap_setCell _ _ _ _ fun (e:j=b)=>(hf.lB nm b C hL).2.2.1 (e ▸ hj)
 refine Qbu (w':=w.setCell ⟨b,o,none⟩ (Value.int k1 (k1.wrap (x+d)))) hs hf hL rfl rfl rfl (by rw[qkr];exact Nat.le_refl _) (fun j _ hj=>Go.RowKit.Below.heap_setCell _ _ _ _ hj) ?_ (.int _ _)
 refine⟨_,E',hself,by simpa using hC,⟨?_,hone.2⟩,?_⟩
 ·intro v hv
  rw[Array.toList_setIfInBounds] at hv
  rcases List.mem_or_eq_of_mem_set hv with hv | rfl
  ·exact hone.1 v hv
  ·rfl
 ·rw[Array.toList_setIfInBounds]
  exact qbn.mono (fun _ h=>h) hI (fun _ _ h=>h) (hcs.set o (.int k1 _))
theorem join_at (he:qc8 cx.P g) (hc:∀ (bk o c:Nat) (xs:List ByteArray) (sep:ByteArray) (w:World),
   (∀ (j:Nat) x,xs[j]?=some x→w.cell? ⟨bk,o+j,none⟩=some (.string x))→bk < w.heap.size→xs.length≤140737488355328→xs.length≤c→(Lib.join (xs.map (·.data.toList)) sep.data.toList).length≤140737488355328 →
   Calls cx.P g #[.slice (some ⟨bk,o,none⟩) xs.length c,.string sep] w fun e w'=>e=.returned (.string ⟨(Lib.join (xs.map (·.data.toList)) sep.data.toList).toArray⟩)∧Go.RowKit.Below w.heap.size w w')
  (h:Qd0 (qbf st.objs) vs=some out):SpAt cx g st vs out:=by
 refine⟨he,?_⟩
 unfold Qd0 at h
 split at h
 case h_2=>cases h
 rename_i nm k o m sep
 split at h
 case h_2=>cases h
 rename_i kt xs hlk
 split at h
 case h_2=>cases h
 rename_i l hl
 split at h
 case isFalse=>cases h
 rename_i hh
 obtain⟨rfl,hm,hlm,hm2,hlen⟩:=hh
 cases h
 intro E w0 I0 F0 O0 Hd R e ds I F lp L tmv suf us w dst hs hf hu hd
 obtain⟨u,v,rfl,hr,hv⟩:=qqu hu
 obtain⟨q,hq,hob⟩:=hs.ob _ _ hlk
 rcases qje hr with ⟨b,C,cap,hL,rfl,hC,hn⟩ | ⟨_,_,_,h0⟩
 ·rw[hL] at hq;cases hq
  obtain⟨c,E',hb,hCs,hle,hkx,hone,hrep⟩:=hob
  rw[qfc hv]
  have hll:(l.map fun s=>(⟨s.toArray⟩:ByteArray)).length=m:=by simpa using hlm
  have hml:(l.map fun s=>(⟨s.toArray⟩:ByteArray)).map (·.data.toList)=l:=by
   rw[List.map_map]
   exact List.map_id'' (fun _=>rfl) l
  have hcall:=hc b (o*1) cap (l.map fun s=>⟨s.toArray⟩) ⟨sep.toArray⟩ w (fun j x hx=>by
   rw[List.getElem?_map,Option.map_eq_some_iff] at hx
   obtain⟨s,hs0,rfl⟩:=hx
   have h1:=qys hl hs0
   have hj:j < m:=by
    have:=(List.getElem?_eq_some_iff.1 hs0).1
    omega
   rw[List.getElem?_take_of_lt hj,List.getElem?_drop] at h1
   have h2:=Qbg hkx h1
   obtain⟨v,hv,hrv⟩:=hrep.get h2
   rw[qfc hrv] at hv
   have hlt:o+j < xs.length:=(List.getElem?_eq_some_iff.1 h1).1
   rw[List.getElem?_take_of_lt (by omega),Array.getElem?_toList] at hv
   simp[World.cell?,hb,hv]) (hf.lB _ b C hL).2.1 (by omega) (by omega) (by
    rw[hml]
    show (Lib.join l sep.toArray.toList).length≤_
    simp only[]
    omega)
  rw[hll,hml] at hcall
  refine callsIn_wide.2 (hcall.mono ?_)
  rintro ev w' ⟨rfl,hw⟩
  exact qhg hs hf (lawEnd_belowW hw) (.str _)
 ·omega
theorem clone0_at (he:qc8 cx.P g) (hc:∀ (a:Option Addr) (c:Nat) (w:World),∃ a',Calls cx.P g #[.slice a 0 c] w fun e w'=>e=.returned (.slice a' 0 0)∧LawEnd w w')
  (h:Qbv vs=some out):SpAt cx g st vs out:=by
 refine⟨he,?_⟩
 unfold Qbv at h
 split at h
 case h_2=>cases h
 cases h
 intro E w0 I0 F0 O0 Hd R e ds I F lp L tmv suf us w dst hs hf hu hd
 obtain⟨u,rfl,hr⟩:=Qb3 hu
 obtain⟨a,c,rfl⟩:∃ a c,u=.slice a 0 c:=by
  cases hr with
  | slE=>exact⟨_,_,rfl⟩
  | sl=>exact⟨_,_,rfl⟩
 obtain⟨a',hcl⟩:=hc a c w
 refine callsIn_wide.2 (hcl.mono ?_)
 rintro ev w' ⟨rfl,hw⟩
 exact qhg hs hf hw (.slE _ _ _ _ fun _=>rfl)
end at_
section at3
variable {P:Program} {mx:P.follows .mixedOrders=true} {gs:List Nat} {T:Nat} {et:List (Nat×Value)} {tabs:List (Nat×Array Value)} {ns:List Nat} {g:FuncId} {st:St} {vs:List PV} {out:Out}
theorem as3_at {p t ge:Nat} {ev:Value} (hge:(ge,ev)∈et) (hA:As3OK P g ge ev p t) (h:spAs3 p t (qbf st.objs) vs=some out):SpAt (cxOf P mx gs T et tabs ns) g st vs out:=by
 refine⟨hA.enters,?_⟩
 unfold spAs3 at h
 split at h
 ·cases h
  intro E w0 I0 F0 O0 Hd R e ds I F lp L tmv suf us w dst hs hf hu hd
  obtain⟨u,v,rfl,h1,h2⟩:=qqu hu
  rw[qjn h1]
  refine callsIn_wide.2 ((hA.none v w).mono ?_)
  rintro ev w' ⟨rfl,hw⟩
  rw[hw]
  exact qhg hs hf (lawEnd_refl _) (.bool false)
 ·split at h
  ·rename_i t' x p' nm o _ ty cs hlk
   split at h
   ·rename_i hp
    obtain⟨rfl,rfl,rfl,hc1,hx1⟩:=hp
    cases h
    intro E w0 I0 F0 O0 Hd R e ds I F lp L tmv suf us w dst hs hf hu hd
    obtain⟨u,v,rfl,h1,h2⟩:=qqu hu
    obtain⟨u',rfl,hx⟩:=qlt h1
    obtain⟨v',rfl,hr⟩:=qlt h2
    obtain⟨b,C,hL,rfl⟩:=qge hr
    obtain⟨q,hq,hob⟩:=hs.ob nm _ hlk
    rw[hL] at hq;cases hq
    obtain⟨c,E',hb,hC,hone,hcs⟩:=hob
    unfold qmf at hx1
    simp only[Bool.and_eq_true,beq_iff_eq] at hx1
    obtain⟨hu1,hu2⟩:=hx.cells hx1.1
    have len1:u'.cells.size=3:=by
     have:=hu2.length
     simpa[hx1.2] using this.symm
    have lenc:c.size=3:=by
     have:=hcs.length
     simpa[hc1] using this.symm
    obtain⟨n1,n2,n3,hn⟩:=Qhh len1
    obtain⟨o1,o2,o3,rfl⟩:=Qhh lenc
    have m1:n1.oneCell'=true:=hu1 n1 (by simp[hn])
    have m2:n2.oneCell'=true:=hu1 n2 (by simp[hn])
    have m3:n3.oneCell'=true:=hu1 n3 (by simp[hn])
    have hbl:b < w.heap.size:=(hf.lB nm b C hL).2.1
    refine callsIn_wide.2 ((hA.hit u' n1 n2 n3 hn m1 m2 m3 b o1 o2 o3 E' w (hf.wd.et0 _ hge).2 hb).mono ?_)
    rintro ev w' ⟨rfl,q1,q2,q3,q4,hw'⟩
    have hother:∀ k,k < w.heap.size→k≠b→w'.heap[k]?=w.heap[k]?:=fun k hk hkb=>by
     subst hw'
     rw[Go.RowKit.Below.heap_setCell _ _ _ _ hkb,Go.RowKit.Below.heap_setCell _ _ _ _ hkb,Go.RowKit.Below.heap_setCell _ _ _ _ hkb,heap_alloc_lt _ _ (by simp;omega),heap_alloc_lt _ _ (by simp;omega),heap_alloc_lt _ _ (by simp;omega),heap_alloc_lt _ _ hk]
    have hself:w'.heap[b]?=some (.cells #[n1,n2,n3] E' (0,0)):=by
     subst hw'
     have key:((((w.alloc q1).alloc q2).alloc q3).alloc q4).heap[b]?=some (.cells #[o1,o2,o3] E' (0,0)):=by
      rw[heap_alloc_lt _ _ (by simp;omega),heap_alloc_lt _ _ (by simp;omega),heap_alloc_lt _ _ (by simp;omega),heap_alloc_lt _ _ hbl]
      exact hb
     have k1:=setCell_same (o:=0) (n:=n1) key
     have k2:=setCell_same (o:=1) (n:=n2) k1
     have k3:=setCell_same (o:=2) (n:=n3) k2
     simpa using k3
    have hI:∀ k,I k→w'.heap[k]?=w.heap[k]?:=fun k hk=>hother k (hf.sep.iB k hk) fun e=>(hf.lB nm b C hL).2.2.1 (e ▸ hk)
    refine Qbu hs hf hL (by subst hw';rfl) (by subst hw';rfl) (by subst hw';rfl) (by subst hw';simp only[qkr];simp;omega) hother ?_ (.bool true)
    exact⟨#[n1,n2,n3],E',hself,hC,⟨fun v hv=>by simp at hv;rcases hv with rfl | rfl | rfl<;>assumption,hone.2⟩,qbn.mono (fun _ h=>h) hI (fun _ _ h=>h) (by rw[hn] at hu2;exact hu2)⟩
   ·cases h
  ·cases h
 ·cases h
end at3
end Go.Ab


namespace Go.Ab
open Go
section kb_
variable {σ:Nm→Option KOb} {xs:List KV} {out:qb2} {T U:Nat}
end kb_
end Go.Ab


namespace Go.Ab
open Go
def Ql3:qmx:=globsE [0,1,3,4,9] 348
def Qge:Hint:=[]
noncomputable def mkF (io shut leans:Bool) (gone:List Nat) (frz:Bool) (nt:Nat) (f:FuncId):RFn:={nt,code:=((Qki Go.Proofs.Tryz.prog Ql3 (deadH Qge Go.Proofs.Tryz.prog f) f).getD default).code,res:=((Qki Go.Proofs.Tryz.prog Ql3 (deadH Qge Go.Proofs.Tryz.prog f) f).getD default).res,io,shut,leans,gone,frz}
theorem qbc {io shut leans:Bool} {gone:List Nat} {frz:Bool} {nt:Nat} {f:FuncId} (h:(Qki Go.Proofs.Tryz.prog Ql3 (deadH Qge Go.Proofs.Tryz.prog f) f).map (·.nt)=some nt):Qki Go.Proofs.Tryz.prog Ql3 (deadH Qge Go.Proofs.Tryz.prog f) f=some {mkF io shut leans gone frz nt f with io:=false,shut:=false,leans:=false,gone:=[],frz:=false}:=by
 obtain⟨fn,h1,rfl⟩:=Option.map_eq_some_iff.1 h
 unfold mkF
 rw[h1]
 have h2:=h1
 unfold Qki at h2
 split at h2
 ·split at h2
  ·split at h2
   ·cases h2
   ·cases h2;rfl
  ·cases h2
 ·cases h2
noncomputable def fn5:RFn:=mkF true false false [] false 37 5
noncomputable def fn6:RFn:=mkF true false false [] false 42 6
noncomputable def fn7:RFn:=mkF true false false [] false 23 7
noncomputable def fn8:RFn:=mkF true false false [] false 9 8
noncomputable def fn9:RFn:=mkF true false false [] false 10 9
noncomputable def fn3:RFn:=mkF false true false [] false 56 3
noncomputable def fn4:RFn:=mkF false true false [] false 79 4
noncomputable def fn10:RFn:=mkF true false false [] false 24 10
noncomputable def fn11:RFn:=mkF false true false [] false 13 11
noncomputable def fn12:RFn:=mkF true false false [] false 165 12
noncomputable def fn13:RFn:=mkF true false false [] false 117 13
noncomputable def fn14:RFn:=mkF true false false [] false 4 14
noncomputable def fn15:RFn:=mkF false false false [] false 8 15
noncomputable def fn16:RFn:=mkF false false false [] false 8 16
noncomputable def fn17:RFn:=mkF false true false [] false 8 17
noncomputable def fn18:RFn:=mkF true false false [] false 7 18
noncomputable def fn20:RFn:=mkF true false false [] false 23 20
noncomputable def fn21:RFn:=mkF true false false [] false 11 21
noncomputable def fn22:RFn:=mkF false true false [] false 65 22
noncomputable def fn23:RFn:=mkF true false false [] false 46 23
noncomputable def fn24:RFn:=mkF true false false [] false 23 24
noncomputable def fn26:RFn:=mkF true false false [] false 21 26
noncomputable def fn27:RFn:=mkF false true false [] false 8 27
noncomputable def fn28:RFn:=mkF true false false [] false 29 28
noncomputable def fn30:RFn:=mkF false true false [] false 19 30
noncomputable def fn31:RFn:=mkF true false false [] true 83 31
noncomputable def fn32:RFn:=mkF true false false [] false 31 32
noncomputable def fn33:RFn:=mkF false false false [] false 8 33
noncomputable def fn34:RFn:=mkF true false false [] false 29 34
noncomputable def fn36:RFn:=mkF false true false [] false 35 36
noncomputable def fn37:RFn:=mkF false true false [] false 9 37
noncomputable def fn38:RFn:=mkF false true false [] false 5 38
noncomputable def fn40:RFn:=mkF false true false [] false 37 40
noncomputable def fn43:RFn:=mkF true false false [] false 4 43
noncomputable def fn44:RFn:=mkF false true false [] false 66 44
noncomputable def fn45:RFn:=mkF false true false [] false 13 45
noncomputable def fn46:RFn:=mkF true false false [] false 10 46
noncomputable def fn48:RFn:=mkF false true false [] false 32 48
noncomputable def fn49:RFn:=mkF false true false [] false 8 49
noncomputable def fn50:RFn:=mkF false true false [] false 23 50
noncomputable def fn51:RFn:=mkF false true false [] false 9 51
noncomputable def fn52:RFn:=mkF false true false [] false 19 52
noncomputable def fn53:RFn:=mkF false true false [] false 24 53
noncomputable def fn54:RFn:=mkF false true false [] false 18 54
noncomputable def fn55:RFn:=mkF false true false [] false 28 55
noncomputable def fn56:RFn:=mkF false true false [] false 21 56
noncomputable def fn57:RFn:=mkF false true false [] false 19 57
noncomputable def fn59:RFn:=mkF false true false [] false 8 59
noncomputable def fn61:RFn:=mkF true false false [] false 17 61
noncomputable def fn66:RFn:=mkF true false false [] false 28 66
noncomputable def fn69:RFn:=mkF false true false [] false 8 69
noncomputable def fn70:RFn:=mkF true false false [] false 4 70
noncomputable def fn72:RFn:=mkF false true false [] false 19 72
noncomputable def fn73:RFn:=mkF false true false [] false 26 73
noncomputable def fn74:RFn:=mkF false true false [] false 68 74
noncomputable def fn75:RFn:=mkF false true false [] false 6 75
noncomputable def fn76:RFn:=mkF false true false [] false 25 76
noncomputable def fn77:RFn:=mkF false true false [] false 105 77
noncomputable def fn78:RFn:=mkF false true false [] false 28 78
noncomputable def fn86:RFn:=mkF false true false [] false 143 86
noncomputable def fn87:RFn:=mkF true false false [] false 23 87
noncomputable def fn88:RFn:=mkF false true false [] false 26 88
noncomputable def fn89:RFn:=mkF true false false [] false 73 89
noncomputable def fn90:RFn:=mkF false true false [] false 9 90
noncomputable def fn91:RFn:=mkF false true false [] false 10 91
noncomputable def fn92:RFn:=mkF false true false [] false 19 92
noncomputable def fn93:RFn:=mkF false true false [] false 34 93
noncomputable def fn94:RFn:=mkF false true false [] false 14 94
noncomputable def fn95:RFn:=mkF false true false [] false 47 95
noncomputable def fn96:RFn:=mkF false true false [] false 59 96
noncomputable def fn97:RFn:=mkF false true false [] false 47 97
noncomputable def fn98:RFn:=mkF false true false [] false 23 98
noncomputable def fn110:RFn:=mkF false true false [] false 20 110
noncomputable def fn111:RFn:=mkF false true false [] false 20 111
noncomputable def fn112:RFn:=mkF false true false [] false 14 112
noncomputable def fn113:RFn:=mkF false true false [] false 22 113
noncomputable def fn114:RFn:=mkF false true false [] false 57 114
noncomputable def fn115:RFn:=mkF false true false [] false 86 115
noncomputable def fn116:RFn:=mkF false true false [] false 32 116
noncomputable def fn117:RFn:=mkF false true false [] false 30 117
noncomputable def fn119:RFn:=mkF true false false [] false 4 119
noncomputable def fn121:RFn:=mkF false true false [] false 9 121
noncomputable def fn122:RFn:=mkF false true false [] false 20 122
noncomputable def fn123:RFn:=mkF false true false [] false 22 123
noncomputable def fn124:RFn:=mkF false true false [] false 25 124
noncomputable def fn125:RFn:=mkF false true false [] false 38 125
noncomputable def fn126:RFn:=mkF false true false [] false 72 126
noncomputable def fn127:RFn:=mkF false true false [] false 80 127
noncomputable def fn128:RFn:=mkF false true false [] false 27 128
noncomputable def fn129:RFn:=mkF false true false [] false 20 129
noncomputable def fn130:RFn:=mkF false true false [] false 33 130
noncomputable def fn132:RFn:=mkF false true false [] false 55 132
noncomputable def fn133:RFn:=mkF false true false [] false 66 133
noncomputable def fn140:RFn:=mkF false true false [] false 22 140
noncomputable def fn141:RFn:=mkF false true false [] false 26 141
noncomputable def fn142:RFn:=mkF false true false [] false 9 142
noncomputable def fn143:RFn:=mkF false true false [] false 19 143
noncomputable def fn144:RFn:=mkF false true false [] false 8 144
noncomputable def fn145:RFn:=mkF false true false [] false 9 145
noncomputable def fn146:RFn:=mkF false true false [] false 37 146
noncomputable def fn147:RFn:=mkF false true false [] false 9 147
noncomputable def fn148:RFn:=mkF false true false [] false 21 148
noncomputable def fn149:RFn:=mkF true false false [] false 111 149
noncomputable def fn151:RFn:=mkF true false false [] false 31 151
noncomputable def fn156:RFn:=mkF false true false [] false 3 156
noncomputable def fn157:RFn:=mkF false true false [] false 24 157
noncomputable def fn158:RFn:=mkF false true false [] false 10 158
noncomputable def fn160:RFn:=mkF false true false [] false 26 160
noncomputable def fn162:RFn:=mkF false true false [] false 31 162
noncomputable def fn163:RFn:=mkF false true false [] false 4 163
noncomputable def fn166:RFn:=mkF true false false [] false 38 166
noncomputable def fn170:RFn:=mkF true false false [] false 41 170
noncomputable def fn171:RFn:=mkF true false false [] false 12 171
noncomputable def fn178:RFn:=mkF false true false [] false 30 178
noncomputable def fn179:RFn:=mkF false true false [] false 20 179
noncomputable def fn180:RFn:=mkF true false false [] false 53 180
noncomputable def fn181:RFn:=mkF true false false [] false 4 181
noncomputable def fn182:RFn:=mkF false true false [] false 8 182
noncomputable def fn183:RFn:=mkF true false false [] false 9 183
noncomputable def fn186:RFn:=mkF true false false [] false 20 186
noncomputable def fn187:RFn:=mkF false true false [] false 18 187
noncomputable def fn188:RFn:=mkF true false false [] false 12 188
noncomputable def fn189:RFn:=mkF true false false [] false 73 189
noncomputable def fn190:RFn:=mkF true false false [] false 30 190
noncomputable def fn191:RFn:=mkF false true false [] false 22 191
noncomputable def fn192:RFn:=mkF false true false [] false 29 192
noncomputable def fn194:RFn:=mkF true false false [] false 8 194
noncomputable def fn195:RFn:=mkF true false false [] false 21 195
noncomputable def fn198:RFn:=mkF true false false [] false 6 198
noncomputable def fn199:RFn:=mkF true false false [] false 6 199
noncomputable def fn200:RFn:=mkF true false false [] false 10 200
noncomputable def fn204:RFn:=mkF false true false [] false 4 204
noncomputable def qcl:FuncId→Option RFn
 | 5=>some fn5
 | 6=>some fn6
 | 7=>some fn7
 | 8=>some fn8
 | 9=>some fn9
 | 3=>some fn3
 | 4=>some fn4
 | 10=>some fn10
 | 11=>some fn11
 | 12=>some fn12
 | 13=>some fn13
 | 14=>some fn14
 | 15=>some fn15
 | 16=>some fn16
 | 17=>some fn17
 | 18=>some fn18
 | 20=>some fn20
 | 21=>some fn21
 | 22=>some fn22
 | 23=>some fn23
 | 24=>some fn24
 | 26=>some fn26
 | 27=>some fn27
 | 28=>some fn28
 | 30=>some fn30
 | 31=>some fn31
 | 32=>some fn32
 | 33=>some fn33
 | 34=>some fn34
 | 36=>some fn36
 | 37=>some fn37
 | 38=>some fn38
 | 40=>some fn40
 | 43=>some fn43
 | 44=>some fn44
 | 45=>some fn45
 | 46=>some fn46
 | 48=>some fn48
 | 49=>some fn49
 | 50=>some fn50
 | 51=>some fn51
 | 52=>some fn52
 | 53=>some fn53
 | 54=>some fn54
 | 55=>some fn55
 | 56=>some fn56
 | 57=>some fn57
 | 59=>some fn59
 | 61=>some fn61
 | 66=>some fn66
 | 69=>some fn69
 | 70=>some fn70
 | 72=>some fn72
 | 73=>some fn73
 | 74=>some fn74
 | 75=>some fn75
 | 76=>some fn76
 | 77=>some fn77
 | 78=>some fn78
 | 86=>some fn86
 | 87=>some fn87
 | 88=>some fn88
 | 89=>some fn89
 | 90=>some fn90
 | 91=>some fn91
 | 92=>some fn92
 | 93=>some fn93
 | 94=>some fn94
 | 95=>some fn95
 | 96=>some fn96
 | 97=>some fn97
 | 98=>some fn98
 | 110=>some fn110
 | 111=>some fn111
 | 112=>some fn112
 | 113=>some fn113
 | 114=>some fn114
 | 115=>some fn115
 | 116=>some fn116
 | 117=>some fn117
 | 119=>some fn119
 | 121=>some fn121
 | 122=>some fn122
 | 123=>some fn123
 | 124=>some fn124
 | 125=>some fn125
 | 126=>some fn126
 | 127=>some fn127
 | 128=>some fn128
 | 129=>some fn129
 | 130=>some fn130
 | 132=>some fn132
 | 133=>some fn133
 | 140=>some fn140
 | 141=>some fn141
 | 142=>some fn142
 | 143=>some fn143
 | 144=>some fn144
 | 145=>some fn145
 | 146=>some fn146
 | 147=>some fn147
 | 148=>some fn148
 | 149=>some fn149
 | 151=>some fn151
 | 156=>some fn156
 | 157=>some fn157
 | 158=>some fn158
 | 160=>some fn160
 | 162=>some fn162
 | 163=>some fn163
 | 166=>some fn166
 | 170=>some fn170
 | 171=>some fn171
 | 178=>some fn178
 | 179=>some fn179
 | 180=>some fn180
 | 181=>some fn181
 | 182=>some fn182
 | 183=>some fn183
 | 186=>some fn186
 | 187=>some fn187
 | 188=>some fn188
 | 189=>some fn189
 | 190=>some fn190
 | 191=>some fn191
 | 192=>some fn192
 | 194=>some fn194
 | 195=>some fn195
 | 198=>some fn198
 | 199=>some fn199
 | 200=>some fn200
 | 204=>some fn204
 | _=>none
end Go.Ab


set_option maxRecDepth 100000
namespace Go.Ab
open Go
def rsh0:FuncId→RSh×Bool
 | _=>(.cl,true)
def sh5:qdc:={args:=[.cv (.bool false),.cv (.bool false),.cv (.bool false),.cv (.bool false)],ins:=[],res:=.tup [.cv (.bool false),.cv (.bool false)],outs:=[],news:=[],gone:=[]}
def shs5:List KV→List KOb→qdc
 | _,_=>sh5
def sh6:qdc:={args:=[.cv (.bool false)],ins:=[],res:=.cv (.bool false),outs:=[],news:=[],gone:=[]}
def shs6:List KV→List KOb→qdc
 | _,_=>sh6
def sh7:qdc:={args:=[.cv (.bool false)],ins:=[],res:=.cv (.bool false),outs:=[],news:=[],gone:=[]}
def shs7:List KV→List KOb→qdc
 | _,_=>sh7
def sh8:qdc:={args:=[.cv (.bool false)],ins:=[],res:=.cv (.bool false),outs:=[],news:=[],gone:=[]}
def shs8:List KV→List KOb→qdc
 | _,_=>sh8
def sh9:qdc:={args:=[.cv (.bool false)],ins:=[],res:=.cv (.bool false),outs:=[],news:=[],gone:=[]}
def shs9:List KV→List KOb→qdc
 | _,_=>sh9
def sh10:qdc:={args:=[],ins:=[],res:=.un,outs:=[],news:=[],gone:=[]}
def shs10:List KV→List KOb→qdc
 | _,_=>sh10
def sh12:qdc:={args:=[],ins:=[],res:=.un,outs:=[],news:=[],gone:=[]}
def shs12:List KV→List KOb→qdc
 | _,_=>sh12
def sh13:qdc:={args:=[],ins:=[],res:=.un,outs:=[],news:=[],gone:=[]}
def shs13:List KV→List KOb→qdc
 | _,_=>sh13
def sh14:qdc:={args:=[],ins:=[],res:=.un,outs:=[],news:=[],gone:=[]}
def shs14:List KV→List KOb→qdc
 | _,_=>sh14
def sh18:qdc:={args:=[],ins:=[],res:=.un,outs:=[],news:=[],gone:=[]}
def shs18:List KV→List KOb→qdc
 | _,_=>sh18
def sh20:qdc:={args:=[],ins:=[],res:=.un,outs:=[],news:=[],gone:=[]}
def shs20:List KV→List KOb→qdc
 | _,_=>sh20
def sh21:qdc:={args:=[],ins:=[],res:=.un,outs:=[],news:=[],gone:=[]}
def shs21:List KV→List KOb→qdc
 | _,_=>sh21
def sh23:qdc:={args:=[],ins:=[],res:=.un,outs:=[],news:=[],gone:=[]}
def shs23:List KV→List KOb→qdc
 | _,_=>sh23
def sh24:qdc:={args:=[],ins:=[],res:=.un,outs:=[],news:=[],gone:=[]}
def shs24:List KV→List KOb→qdc
 | _,_=>sh24
def sh26:qdc:={args:=[],ins:=[],res:=.un,outs:=[],news:=[],gone:=[]}
def shs26:List KV→List KOb→qdc
 | _,_=>sh26
def sh28:qdc:={args:=[],ins:=[],res:=.un,outs:=[],news:=[],gone:=[]}
def shs28:List KV→List KOb→qdc
 | _,_=>sh28
def sh31:qdc:={args:=[],ins:=[],res:=.un,outs:=[],news:=[],gone:=[]}
def shs31:List KV→List KOb→qdc
 | _,_=>sh31
def sh32:qdc:={args:=[],ins:=[],res:=.un,outs:=[],news:=[],gone:=[]}
def shs32:List KV→List KOb→qdc
 | _,_=>sh32
def sh34:qdc:={args:=[],ins:=[],res:=.un,outs:=[],news:=[],gone:=[]}
def shs34:List KV→List KOb→qdc
 | _,_=>sh34
def sh43:qdc:={args:=[],ins:=[],res:=.un,outs:=[],news:=[],gone:=[]}
def shs43:List KV→List KOb→qdc
 | _,_=>sh43
def sh46:qdc:={args:=[],ins:=[],res:=.un,outs:=[],news:=[],gone:=[]}
def shs46:List KV→List KOb→qdc
 | _,_=>sh46
def sh61:qdc:={args:=[],ins:=[],res:=.un,outs:=[],news:=[],gone:=[]}
def shs61:List KV→List KOb→qdc
 | _,_=>sh61
def sh66:qdc:={args:=[],ins:=[],res:=.un,outs:=[],news:=[],gone:=[]}
def shs66:List KV→List KOb→qdc
 | _,_=>sh66
def sh70:qdc:={args:=[],ins:=[],res:=.un,outs:=[],news:=[],gone:=[]}
def shs70:List KV→List KOb→qdc
 | _,_=>sh70
def sh87:qdc:={args:=[],ins:=[],res:=.un,outs:=[],news:=[],gone:=[]}
def shs87:List KV→List KOb→qdc
 | _,_=>sh87
def sh89:qdc:={args:=[],ins:=[],res:=.un,outs:=[],news:=[],gone:=[]}
def shs89:List KV→List KOb→qdc
 | _,_=>sh89
def sh119:qdc:={args:=[],ins:=[],res:=.un,outs:=[],news:=[],gone:=[]}
def shs119:List KV→List KOb→qdc
 | _,_=>sh119
def sh149:qdc:={args:=[],ins:=[],res:=.un,outs:=[],news:=[],gone:=[]}
def shs149:List KV→List KOb→qdc
 | _,_=>sh149
def sh151:qdc:={args:=[],ins:=[],res:=.un,outs:=[],news:=[],gone:=[]}
def shs151:List KV→List KOb→qdc
 | _,_=>sh151
def sh166:qdc:={args:=[],ins:=[],res:=.un,outs:=[],news:=[],gone:=[]}
def shs166:List KV→List KOb→qdc
 | _,_=>sh166
def sh170:qdc:={args:=[],ins:=[],res:=.un,outs:=[],news:=[],gone:=[]}
def shs170:List KV→List KOb→qdc
 | _,_=>sh170
def sh171:qdc:={args:=[],ins:=[],res:=.un,outs:=[],news:=[],gone:=[]}
def shs171:List KV→List KOb→qdc
 | _,_=>sh171
def sh180:qdc:={args:=[],ins:=[],res:=.un,outs:=[],news:=[],gone:=[]}
def shs180:List KV→List KOb→qdc
 | _,_=>sh180
def sh181:qdc:={args:=[],ins:=[],res:=.un,outs:=[],news:=[],gone:=[]}
def shs181:List KV→List KOb→qdc
 | _,_=>sh181
def sh183:qdc:={args:=[],ins:=[],res:=.un,outs:=[],news:=[],gone:=[]}
def shs183:List KV→List KOb→qdc
 | _,_=>sh183
def sh186:qdc:={args:=[],ins:=[],res:=.un,outs:=[],news:=[],gone:=[]}
def shs186:List KV→List KOb→qdc
 | _,_=>sh186
def sh188:qdc:={args:=[],ins:=[],res:=.un,outs:=[],news:=[],gone:=[]}
def shs188:List KV→List KOb→qdc
 | _,_=>sh188
def sh189:qdc:={args:=[],ins:=[],res:=.un,outs:=[],news:=[],gone:=[]}
def shs189:List KV→List KOb→qdc
 | _,_=>sh189
def sh190:qdc:={args:=[],ins:=[],res:=.un,outs:=[],news:=[],gone:=[]}
def shs190:List KV→List KOb→qdc
 | _,_=>sh190
def sh194:qdc:={args:=[],ins:=[],res:=.un,outs:=[],news:=[],gone:=[]}
def shs194:List KV→List KOb→qdc
 | _,_=>sh194
def sh195:qdc:={args:=[],ins:=[],res:=.un,outs:=[],news:=[],gone:=[]}
def shs195:List KV→List KOb→qdc
 | _,_=>sh195
def sh198:qdc:={args:=[],ins:=[],res:=.un,outs:=[],news:=[],gone:=[]}
def shs198:List KV→List KOb→qdc
 | _,_=>sh198
def sh199:qdc:={args:=[],ins:=[],res:=.un,outs:=[],news:=[],gone:=[]}
def shs199:List KV→List KOb→qdc
 | _,_=>sh199
def sh200:qdc:={args:=[],ins:=[],res:=.un,outs:=[],news:=[],gone:=[]}
def shs200:List KV→List KOb→qdc
 | _,_=>sh200
def iof0:FuncId→Option (List KV→List KOb→qdc)
 | 5=>some shs5
 | 6=>some shs6
 | 7=>some shs7
 | 8=>some shs8
 | 9=>some shs9
 | 10=>some shs10
 | 12=>some shs12
 | 13=>some shs13
 | 14=>some shs14
 | 18=>some shs18
 | 20=>some shs20
 | 21=>some shs21
 | 23=>some shs23
 | 24=>some shs24
 | 26=>some shs26
 | 28=>some shs28
 | 31=>some shs31
 | 32=>some shs32
 | 34=>some shs34
 | 43=>some shs43
 | 46=>some shs46
 | 61=>some shs61
 | 66=>some shs66
 | 70=>some shs70
 | 87=>some shs87
 | 89=>some shs89
 | 119=>some shs119
 | 149=>some shs149
 | 151=>some shs151
 | 166=>some shs166
 | 170=>some shs170
 | 171=>some shs171
 | 180=>some shs180
 | 181=>some shs181
 | 183=>some shs183
 | 186=>some shs186
 | 188=>some shs188
 | 189=>some shs189
 | 190=>some shs190
 | 194=>some shs194
 | 195=>some shs195
 | 198=>some shs198
 | 199=>some shs199
 | 200=>some shs200
 | _=>none
def cfg0 (b:KB) (dsh:Nat→RSh):qx7:={b,rsh:=rsh0,spF:=fun f=>f==42||f==39||f==81||f==62||f==68||f==80||f==120||f==197||f==203||f==201||f==202||f==71||f==35||f==41||f==17,asT:=fun f p=>none,dsh,ioF:=iof0,spK:=fun f=>none}
theorem run5 (B:KB) (x1:PV) (x2:PV) (x3:PV) :
  qv6 (cfg0 B (fun _=>.cl)) fn5 sh5 [.nilP,x1,x2,x3] =
  qcd (qbz (.bin .eql .ptr true (.c (nth [.nilP,x1,x2,x3] 0)) (.c .nilP))) (fun z1=>Qcs z1 (some [.agg [.int .i64 0,.int .i64 0,.int .i64 0],.int .i64 1]) (qcd (qbz
  (.nilck (.c (nth [.nilP,x1,x2,x3] 0)))) (fun z2=>qcd (qbz (.fieldAddr 0 (.c z2))) (fun z3=>qcd (qbz (.load 1 false (.c z3))) (fun z4=>none))))):=by kernel_rfl
theorem run6 (B:KB)  :
  qv6 (cfg0 B (fun _=>.cl)) fn6 sh6 [.nilP] =
  qcd (qbz (.bin .eql .ptr true (.c (nth [.nilP] 0)) (.c .nilP))) (fun z1=>Qcs z1 (some [.nilS]) none):=by kernel_rfl
theorem run7 (B:KB)  :
  qv6 (cfg0 B (fun _=>.cl)) fn7 sh7 [.nilP] =
  qcd (qbz (.bin .eql .ptr true (.c (nth [.nilP] 0)) (.c .nilP))) (fun z1=>Qcs z1 (some [.nilS]) (qcd (qbz (.nilck (.c (nth [.nilP] 0)))) (fun z2=>qcd (qbz
  (.fieldAddr 1 (.c z2))) (fun z3=>qcd (qbz (.load 1 false (.c z3))) (fun z4=>qcd (qbz (.len .slice (.c z4))) (fun z5=>qfl (qsk [nI 0,z4,z5,.int .i64 0]) (loopL
  (fun z6=>qcd (qbz (.bin .lss .num false (.c (nth z6.1 3)) (.c (nth z6.1 2)))) (fun z7=>Qcs z7 (qcd (qbz (.idxAddr 4 (.c (nth z6.1 1)) (.c (nth z6.1 3)))) (fun z8 =>
  qcd (qbz (.load 4 true (.c z8))) (fun z9=>qfl (qmf z9 4) (qcd (elemsO 2 (qt8 z9 3)) (fun z10=>qfl (andB (leN (Qlh (nth z6.1 0)) (qmz (qkv (nth z6.1 4))))
  (leN (qx9 (Qlh (nth z6.1 0)) (qmz z10)) 2147483648)) (qcd (qbz (.bin .add .num true (.c (nth z6.1 3)) (.c (.int .i64 1)))) (fun z11=>some (.inl ([nI (qx9 (Qlh (nth z6.1
  0)) (qmz z10)),nth z6.1 1,nth z6.1 2,z11,.sl 2 (catL (qyc (Qlh (nth z6.1 0)) (qkv (nth z6.1 4))) z10) false],z6.2))))))))) (qcd none (fun z12=>some (.inr z12)))))
  ([nI 0,z4,z5,.int .i64 0,.sl 2 [] false],())))))))):=by kernel_rfl
theorem run8 (B:KB)  :
  qv6 (cfg0 B (fun _=>.cl)) fn8 sh8 [.nilP] =
  qcd (qbz (.bin .eql .ptr true (.c (nth [.nilP] 0)) (.c .nilP))) (fun z1=>Qcs z1 (some [.int .i64 0]) (qcd (qbz (.nilck (.c (nth [.nilP] 0)))) (fun z2=>qcd (qbz
  (.fieldAddr 2 (.c z2))) (fun z3=>none)))):=by kernel_rfl
theorem run9 (B:KB)  :
  qv6 (cfg0 B (fun _=>.cl)) fn9 sh9 [.nilP] =
  qcd (qbz (.bin .eql .ptr true (.c (nth [.nilP] 0)) (.c .nilP))) (fun z1=>Qcs z1 (some [.str []]) (qcd (qbz (.nilck (.c (nth [.nilP] 0)))) (fun z2=>qcd (qbz
  (.fieldAddr 0 (.c z2))) (fun z3=>qcd (qbz (.load 1 false (.c z3))) (fun z4=>qcd (qke B .cl (.fn 19 []) [z4]) (fun z5=>some [z5])))))):=by kernel_rfl
theorem run3 (B:KB) {E:Type} (h:qbg E) (dep:Nat) (e:E) (x0:PV) (x1:PV) (x2:PV) :
  runK (cfg0 B (fun _=>.cl)) fn3 (.cl) h dep [.cv x0,.cv x1,.cv x2] e =
  qcd (qke B .cl (.fn 4 []) []) (fun z1=>qcd (qbz (.len .str (.c x2))) (fun z2=>qcd (qbz (.minmax false [.c z2,.c (.int .i64 200)])) (fun z3=>qcd (qbz
  (.strSlice (.c x2) none (some (.c z3)))) (fun z4=>qcd (ioO B (.mk [.cv (.bool false),.cv (.bool false),.cv (.bool false),.cv (.bool false)] [] (.tup [.cv (.bool false),.cv
  (.bool false)]) [] [] []) 5 [.nilP,x0,x1,z4]) (fun z5=>qfl (qmf (nth z5 0) 3) (Qcs z1 (qcd (qbz (.bin .eql .num true (.c (nth z5 1)) (.c (.int .i64 1)))) (fun z6 =>
  Qcs z6 (qcd (qbz (.bin .eql (.plain [0,0,0]) false (.c (.agg [qt8 (nth z5 0) 0,qt8 (nth z5 0) 1,qt8 (nth z5 0) 2])) (.c (.agg [.int .i64 0,.int .i64 0,.int .i64
  0])))) (fun z7=>Qcs z7 (qcd (ioO B (.mk [.cv (.bool false)] [] (.cv (.bool false)) [] [] []) 6 [.nilP]) (fun z8=>qcd (qbz (.len .slice (.c (nth z8 0)))) (fun z9=>qcd
  (qbz (.bin .eql .num true (.c z9) (.c (.int .i64 0)))) (fun z10=>Qcs z10 (qcd (ioO B (.mk [.cv (.bool false)] [] (.cv (.bool false)) [] [] []) 7 [.nilP]) (fun z11=>qcd
  (qbz (.len .slice (.c (nth z11 0)))) (fun z12=>qcd (qbz (.bin .eql .num true (.c z12) (.c (.int .i64 0)))) (fun z13=>Qcs z13 (qcd (ioO B (.mk [.cv (.bool false)] []
  (.cv (.bool false)) [] [] []) 8 [.nilP]) (fun z14=>qcd (qbz (.bin .eql .num true (.c (nth z14 0)) (.c (.int .i64 0)))) (fun z15=>Qcs z15 (qcd (ioO B (.mk [.cv (.bool
  false)] [] (.cv (.bool false)) [] [] []) 9 [.nilP]) (fun z16=>qcd (qbz (.bin .eql .str true (.c (nth z16 0)) (.c (.str [])))) (fun z17=>some (z17,e)))) (some (.bool false,
  e))))) (some (.bool false,e)))))) (some (.bool false,e)))))) (some (.bool false,e)))) (some (.bool false,e)))) (some (.bool false,e)))))))):=by kernel_rfl
end Go.Ab


namespace Go.Ab.DocNone
open Go Go.Ab
def sp0 (g:FuncId) (σ:Nm→Option Ob) (vs:List PV):Option Out :=
 if g=42 then spIsG [0,1,3,4,9] 348 [] vs
 else if g=68 then Qhz vs
 else if g=80 then spIdx vs
 else if g=39 then spItoa vs
 else if g=81 then qv1 136 σ vs
 else if g=62 then spStr 136 5 σ vs
 else if g=120 then spAs3 211 209 σ vs
 else if g=197 then qyw .u32 σ vs
 else if g=203 then qvy .u32 σ vs
 else if g=201 then qyv .i32 0 1 σ vs
 else if g=202 then qyv .i32 1 0 σ vs
 else if g=71 then spAdd .i64 σ vs
 else if g=35 then qyw .i64 σ vs
 else if g=41 then Qd0 σ vs
 else if g=17 then Qbv vs
 else none
noncomputable def B0:KB:={sp:=sp0,L:=limCall sp0 qcl,I:=limIo sp0 qcl,isIo:=qji qcl,leans:=qpa qcl}
end Go.Ab.DocNone


namespace Go.Ab.DocNone
open Go Go.Ab
def NotSp (g:FuncId):Prop:=g≠42∧g≠68∧g≠80∧g≠39∧g≠81∧g≠62∧g≠120∧g≠197∧g≠203∧g≠201∧g≠202∧g≠71∧g≠35∧g≠41∧g≠17
instance (g:FuncId):Decidable (NotSp g):=by unfold NotSp;infer_instance
theorem Qhx {g:FuncId} (h:NotSp g) (σ:Nm→Option Ob) (vs:List PV):sp0 g σ vs=none:=by
 unfold sp0
 rw[if_neg h.1,if_neg h.2.1,if_neg h.2.2.1,if_neg h.2.2.2.1,if_neg h.2.2.2.2.1,if_neg h.2.2.2.2.2.1,if_neg h.2.2.2.2.2.2.1,if_neg h.2.2.2.2.2.2.2.1,if_neg h.2.2.2.2.2.2.2.2.1,if_neg h.2.2.2.2.2.2.2.2.2.1,if_neg h.2.2.2.2.2.2.2.2.2.2.1,if_neg h.2.2.2.2.2.2.2.2.2.2.2.1,if_neg h.2.2.2.2.2.2.2.2.2.2.2.2.1,if_neg h.2.2.2.2.2.2.2.2.2.2.2.2.2.1,if_neg h.2.2.2.2.2.2.2.2.2.2.2.2.2.2]
theorem sp_here (g:FuncId):qpt (sp0 g):=by
 intro σ σ' vs h
 unfold sp0
 by_cases hg:g=42
 ·rw[if_pos hg,if_pos hg]
 rw[if_neg hg,if_neg hg]
 clear hg
 by_cases hg:g=68
 ·rw[if_pos hg,if_pos hg]
 rw[if_neg hg,if_neg hg]
 clear hg
 by_cases hg:g=80
 ·rw[if_pos hg,if_pos hg]
 rw[if_neg hg,if_neg hg]
 clear hg
 by_cases hg:g=39
 ·rw[if_pos hg,if_pos hg]
 rw[if_neg hg,if_neg hg]
 clear hg
 by_cases hg:g=81
 ·rw[if_pos hg,if_pos hg];exact check_here 136 σ σ' vs h
 rw[if_neg hg,if_neg hg]
 clear hg
 by_cases hg:g=62
 ·rw[if_pos hg,if_pos hg];exact str_here 136 5 σ σ' vs h
 rw[if_neg hg,if_neg hg]
 clear hg
 by_cases hg:g=120
 ·rw[if_pos hg,if_pos hg];exact as3_here 211 209 σ σ' vs h
 rw[if_neg hg,if_neg hg]
 clear hg
 by_cases hg:g=197
 ·rw[if_pos hg,if_pos hg];exact Qfn .u32 σ σ' vs h
 rw[if_neg hg,if_neg hg]
 clear hg
 by_cases hg:g=203
 ·rw[if_pos hg,if_pos hg];exact store_here .u32 σ σ' vs h
 rw[if_neg hg,if_neg hg]
 clear hg
 by_cases hg:g=201
 ·rw[if_pos hg,if_pos hg];exact Qdx .i32 0 1 σ σ' vs h
 rw[if_neg hg,if_neg hg]
 clear hg
 by_cases hg:g=202
 ·rw[if_pos hg,if_pos hg];exact Qdx .i32 1 0 σ σ' vs h
 rw[if_neg hg,if_neg hg]
 clear hg
 by_cases hg:g=71
 ·rw[if_pos hg,if_pos hg];exact add_here .i64 σ σ' vs h
 rw[if_neg hg,if_neg hg]
 clear hg
 by_cases hg:g=35
 ·rw[if_pos hg,if_pos hg];exact Qfn .i64 σ σ' vs h
 rw[if_neg hg,if_neg hg]
 clear hg
 by_cases hg:g=41
 ·rw[if_pos hg,if_pos hg];exact join_here σ σ' vs h
 rw[if_neg hg,if_neg hg]
theorem Qjw:∀ g,(iof0 g).isSome=qji qcl g:=by
 intro g
 unfold iof0 qji
 split
 ·rfl
 ·rfl
 ·rfl
 ·rfl
 ·rfl
 ·rfl
 ·rfl
 ·rfl
 ·rfl
 ·rfl
 ·rfl
 ·rfl
 ·rfl
 ·rfl
 ·rfl
 ·rfl
 ·rfl
 ·rfl
 ·rfl
 ·rfl
 ·rfl
 ·rfl
 ·rfl
 ·rfl
 ·rfl
 ·rfl
 ·rfl
 ·rfl
 ·rfl
 ·rfl
 ·rfl
 ·rfl
 ·rfl
 ·rfl
 ·rfl
 ·rfl
 ·rfl
 ·rfl
 ·rfl
 ·rfl
 ·rfl
 ·rfl
 ·rfl
 ·rfl
 ·rename_i h0 h1 h2 h3 h4 h5 h6 h7 h8 h9 h10 h11 h12 h13 h14 h15 h16 h17 h18 h19 h20 h21 h22 h23 h24 h25 h26 h27 h28 h29 h30 h31 h32 h33 h34 h35 h36 h37 h38 h39 h40 h41 h42 h43
  split
  ·rename_i fn ht
   unfold qcl at ht
   split at ht
   all_goals first | (exact (h0 rfl).elim) | (exact (h1 rfl).elim) | (exact (h2 rfl).elim) | (exact (h3 rfl).elim) | (exact (h4 rfl).elim) | (exact (h5 rfl).elim) | (exact (h6 rfl).elim) | (exact (h7 rfl).elim) | (exact (h8 rfl).elim) | (exact (h9 rfl).elim) | (exact (h10 rfl).elim) | (exact (h11 rfl).elim) | (exact (h12 rfl).elim) | (exact (h13 rfl).elim) | (exact (h14 rfl).elim) | (exact (h15 rfl).elim) | (exact (h16 rfl).elim) | (exact (h17 rfl).elim) | (exact (h18 rfl).elim) | (exact (h19 rfl).elim) | (exact (h20 rfl).elim) | (exact (h21 rfl).elim) | (exact (h22 rfl).elim) | (exact (h23 rfl).elim) | (exact (h24 rfl).elim) | (exact (h25 rfl).elim) | (exact (h26 rfl).elim) | (exact (h27 rfl).elim) | (exact (h28 rfl).elim) | (exact (h29 rfl).elim) | (exact (h30 rfl).elim) | (exact (h31 rfl).elim) | (exact (h32 rfl).elim) | (exact (h33 rfl).elim) | (exact (h34 rfl).elim) | (exact (h35 rfl).elim) | (exact (h36 rfl).elim) | (exact (h37 rfl).elim) | (exact (h38 rfl).elim) | (exact (h39 rfl).elim) | (exact (h40 rfl).elim) | (exact (h41 rfl).elim) | (exact (h42 rfl).elim) | (exact (h43 rfl).elim) | (cases ht;done) | (cases ht;rfl)
  ·rfl
theorem qx0 (d:Nat→RSh):qmy (cfg0 B0 d) qcl where
 L:=rfl
 I:=rfl
 isIo:=rfl
 leans:=rfl
 flat g h:=by cases h
 ioF g:=Qjw g
 ioP g P h:=by
  simp only[cfg0,iof0] at h
  split at h
  ·cases h;exact⟨fn5,rfl,⟨by decide,.inl rfl⟩,fun xs os=>⟨Nat.le_of_ble_eq_true rfl,Nat.le_of_ble_eq_true rfl⟩⟩
  ·cases h;exact⟨fn6,rfl,⟨by decide,.inl rfl⟩,fun xs os=>⟨Nat.le_of_ble_eq_true rfl,Nat.le_of_ble_eq_true rfl⟩⟩
  ·cases h;exact⟨fn7,rfl,⟨by decide,.inl rfl⟩,fun xs os=>⟨Nat.le_of_ble_eq_true rfl,Nat.le_of_ble_eq_true rfl⟩⟩
  ·cases h;exact⟨fn8,rfl,⟨by decide,.inl rfl⟩,fun xs os=>⟨Nat.le_of_ble_eq_true rfl,Nat.le_of_ble_eq_true rfl⟩⟩
  ·cases h;exact⟨fn9,rfl,⟨by decide,.inl rfl⟩,fun xs os=>⟨Nat.le_of_ble_eq_true rfl,Nat.le_of_ble_eq_true rfl⟩⟩
  ·cases h;exact⟨fn10,rfl,⟨by decide,.inl rfl⟩,fun xs os=>⟨Nat.le_of_ble_eq_true rfl,Nat.le_of_ble_eq_true rfl⟩⟩
  ·cases h;exact⟨fn12,rfl,⟨by decide,.inl rfl⟩,fun xs os=>⟨Nat.le_of_ble_eq_true rfl,Nat.le_of_ble_eq_true rfl⟩⟩
  ·cases h;exact⟨fn13,rfl,⟨by decide,.inl rfl⟩,fun xs os=>⟨Nat.le_of_ble_eq_true rfl,Nat.le_of_ble_eq_true rfl⟩⟩
  ·cases h;exact⟨fn14,rfl,⟨by decide,.inl rfl⟩,fun xs os=>⟨Nat.le_of_ble_eq_true rfl,Nat.le_of_ble_eq_true rfl⟩⟩
  ·cases h;exact⟨fn18,rfl,⟨by decide,.inl rfl⟩,fun xs os=>⟨Nat.le_of_ble_eq_true rfl,Nat.le_of_ble_eq_true rfl⟩⟩
  ·cases h;exact⟨fn20,rfl,⟨by decide,.inl rfl⟩,fun xs os=>⟨Nat.le_of_ble_eq_true rfl,Nat.le_of_ble_eq_true rfl⟩⟩
  ·cases h;exact⟨fn21,rfl,⟨by decide,.inl rfl⟩,fun xs os=>⟨Nat.le_of_ble_eq_true rfl,Nat.le_of_ble_eq_true rfl⟩⟩
  ·cases h;exact⟨fn23,rfl,⟨by decide,.inl rfl⟩,fun xs os=>⟨Nat.le_of_ble_eq_true rfl,Nat.le_of_ble_eq_true rfl⟩⟩
  ·cases h;exact⟨fn24,rfl,⟨by decide,.inl rfl⟩,fun xs os=>⟨Nat.le_of_ble_eq_true rfl,Nat.le_of_ble_eq_true rfl⟩⟩
  ·cases h;exact⟨fn26,rfl,⟨by decide,.inl rfl⟩,fun xs os=>⟨Nat.le_of_ble_eq_true rfl,Nat.le_of_ble_eq_true rfl⟩⟩
  ·cases h;exact⟨fn28,rfl,⟨by decide,.inl rfl⟩,fun xs os=>⟨Nat.le_of_ble_eq_true rfl,Nat.le_of_ble_eq_true rfl⟩⟩
  ·cases h;exact⟨fn31,rfl,⟨by decide,.inr fun _ _=>rfl⟩,fun xs os=>⟨Nat.le_of_ble_eq_true rfl,Nat.le_of_ble_eq_true rfl⟩⟩
  ·cases h;exact⟨fn32,rfl,⟨by decide,.inl rfl⟩,fun xs os=>⟨Nat.le_of_ble_eq_true rfl,Nat.le_of_ble_eq_true rfl⟩⟩
  ·cases h;exact⟨fn34,rfl,⟨by decide,.inl rfl⟩,fun xs os=>⟨Nat.le_of_ble_eq_true rfl,Nat.le_of_ble_eq_true rfl⟩⟩
  ·cases h;exact⟨fn43,rfl,⟨by decide,.inl rfl⟩,fun xs os=>⟨Nat.le_of_ble_eq_true rfl,Nat.le_of_ble_eq_true rfl⟩⟩
  ·cases h;exact⟨fn46,rfl,⟨by decide,.inl rfl⟩,fun xs os=>⟨Nat.le_of_ble_eq_true rfl,Nat.le_of_ble_eq_true rfl⟩⟩
  ·cases h;exact⟨fn61,rfl,⟨by decide,.inl rfl⟩,fun xs os=>⟨Nat.le_of_ble_eq_true rfl,Nat.le_of_ble_eq_true rfl⟩⟩
  ·cases h;exact⟨fn66,rfl,⟨by decide,.inl rfl⟩,fun xs os=>⟨Nat.le_of_ble_eq_true rfl,Nat.le_of_ble_eq_true rfl⟩⟩
  ·cases h;exact⟨fn70,rfl,⟨by decide,.inl rfl⟩,fun xs os=>⟨Nat.le_of_ble_eq_true rfl,Nat.le_of_ble_eq_true rfl⟩⟩
  ·cases h;exact⟨fn87,rfl,⟨by decide,.inl rfl⟩,fun xs os=>⟨Nat.le_of_ble_eq_true rfl,Nat.le_of_ble_eq_true rfl⟩⟩
  ·cases h;exact⟨fn89,rfl,⟨by decide,.inl rfl⟩,fun xs os=>⟨Nat.le_of_ble_eq_true rfl,Nat.le_of_ble_eq_true rfl⟩⟩
  ·cases h;exact⟨fn119,rfl,⟨by decide,.inl rfl⟩,fun xs os=>⟨Nat.le_of_ble_eq_true rfl,Nat.le_of_ble_eq_true rfl⟩⟩
  ·cases h;exact⟨fn149,rfl,⟨by decide,.inl rfl⟩,fun xs os=>⟨Nat.le_of_ble_eq_true rfl,Nat.le_of_ble_eq_true rfl⟩⟩
  ·cases h;exact⟨fn151,rfl,⟨by decide,.inl rfl⟩,fun xs os=>⟨Nat.le_of_ble_eq_true rfl,Nat.le_of_ble_eq_true rfl⟩⟩
  ·cases h;exact⟨fn166,rfl,⟨by decide,.inl rfl⟩,fun xs os=>⟨Nat.le_of_ble_eq_true rfl,Nat.le_of_ble_eq_true rfl⟩⟩
  ·cases h;exact⟨fn170,rfl,⟨by decide,.inl rfl⟩,fun xs os=>⟨Nat.le_of_ble_eq_true rfl,Nat.le_of_ble_eq_true rfl⟩⟩
  ·cases h;exact⟨fn171,rfl,⟨by decide,.inl rfl⟩,fun xs os=>⟨Nat.le_of_ble_eq_true rfl,Nat.le_of_ble_eq_true rfl⟩⟩
  ·cases h;exact⟨fn180,rfl,⟨by decide,.inl rfl⟩,fun xs os=>⟨Nat.le_of_ble_eq_true rfl,Nat.le_of_ble_eq_true rfl⟩⟩
  ·cases h;exact⟨fn181,rfl,⟨by decide,.inl rfl⟩,fun xs os=>⟨Nat.le_of_ble_eq_true rfl,Nat.le_of_ble_eq_true rfl⟩⟩
  ·cases h;exact⟨fn183,rfl,⟨by decide,.inl rfl⟩,fun xs os=>⟨Nat.le_of_ble_eq_true rfl,Nat.le_of_ble_eq_true rfl⟩⟩
  ·cases h;exact⟨fn186,rfl,⟨by decide,.inl rfl⟩,fun xs os=>⟨Nat.le_of_ble_eq_true rfl,Nat.le_of_ble_eq_true rfl⟩⟩
  ·cases h;exact⟨fn188,rfl,⟨by decide,.inl rfl⟩,fun xs os=>⟨Nat.le_of_ble_eq_true rfl,Nat.le_of_ble_eq_true rfl⟩⟩
  ·cases h;exact⟨fn189,rfl,⟨by decide,.inl rfl⟩,fun xs os=>⟨Nat.le_of_ble_eq_true rfl,Nat.le_of_ble_eq_true rfl⟩⟩
  ·cases h;exact⟨fn190,rfl,⟨by decide,.inl rfl⟩,fun xs os=>⟨Nat.le_of_ble_eq_true rfl,Nat.le_of_ble_eq_true rfl⟩⟩
  ·cases h;exact⟨fn194,rfl,⟨by decide,.inl rfl⟩,fun xs os=>⟨Nat.le_of_ble_eq_true rfl,Nat.le_of_ble_eq_true rfl⟩⟩
  ·cases h;exact⟨fn195,rfl,⟨by decide,.inl rfl⟩,fun xs os=>⟨Nat.le_of_ble_eq_true rfl,Nat.le_of_ble_eq_true rfl⟩⟩
  ·cases h;exact⟨fn198,rfl,⟨by decide,.inl rfl⟩,fun xs os=>⟨Nat.le_of_ble_eq_true rfl,Nat.le_of_ble_eq_true rfl⟩⟩
  ·cases h;exact⟨fn199,rfl,⟨by decide,.inl rfl⟩,fun xs os=>⟨Nat.le_of_ble_eq_true rfl,Nat.le_of_ble_eq_true rfl⟩⟩
  ·cases h;exact⟨fn200,rfl,⟨by decide,.inl rfl⟩,fun xs os=>⟨Nat.le_of_ble_eq_true rfl,Nat.le_of_ble_eq_true rfl⟩⟩
  ·cases h
 spF g h σ vs:=by
  simp only[cfg0,Bool.or_eq_false_iff,beq_eq_false_iff_ne] at h
  obtain⟨⟨⟨⟨⟨⟨⟨⟨⟨⟨⟨⟨⟨⟨h0,h1⟩,h2⟩,h3⟩,h4⟩,h5⟩,h6⟩,h7⟩,h8⟩,h9⟩,h10⟩,h11⟩,h12⟩,h13⟩,h14⟩:=h
  exact Qhx ⟨h0,h4,h5,h1,h2,h3,h6,h7,h8,h9,h10,h11,h12,h13,h14⟩ σ vs
 loc g σ vs hv:=cfg_loc sp_here g σ vs hv
 spK:=nofun
 asOk:=nofun
theorem call {d:Nat→RSh} {g:FuncId} {fn:RFn} {sh:RSh} {args:List PV} {u:PV} (ht:qcl g=some fn) (hg:NotSp g) (ha:qcy args=true) (hl:Nat.ble args.length fn.nt=true)
  (hr:runK (cfg0 B0 d) fn sh qba 0 (args.map KV.cv) ()=some (u,())) (hio:fn.io=false:=by rfl) (hb:Nat.blt g qgo=true:=by rfl):qke B0 sh (.fn g []) args=some u:=by
 refine Qkk (qx0 d) ht (cap:=[]) (by simpa using ha) (by simpa using Nat.le_of_ble_eq_true hl) (Qhx hg (fun _=>none) _) ?_ hio hb
 simpa using hr
theorem call_eval {g:FuncId} {n:Nat} {args:List PV} {u:PV} (hg:NotSp g) (h:qbi sp0 qcl n Unit qba 0 g args ()=some (u,[],())) (hu:okV u=true) (hio:qji qcl g=false) (hb:Nat.blt g qgo=true:=by rfl):qke B0 .cl (.fn g []) args=some u:=by
 have hid:qd2 g=g:=by simp[qd2,hb]
 have hfa:qb3 g args []=args:=by simp[qb3,hb]
 obtain⟨e2,_,h2⟩:=qs4 n Unit Unit (fun _ _=>True) qba (fun _=>qba) (fun _ _ _ _ _ _ _ h=>by cases h) 0 g args () () trivial _ _ _ h
 have hL:B0.L Unit qba 0 g args ()=some (u,[],()):=lim_of h2
 have hI:B0.isIo g=false:=hio
 have hs:B0.sp g (fun _=>none) args=none:=Qhx hg _ _
 unfold qke
 simp[hid,hfa,spO,hs,hI,hL,qmt,qhn,hu,qfl]
end Go.Ab.DocNone


namespace Go.Proofs.AbIsN
open Go.RowKit Go.Extern.Stop Go.Stop Go.Extern Go.Proofs
theorem Qls (v:Value) (w:World):(Extern.ReflectliteType.typeOf #[.iface 348 v]).run Tryz.prog w=.ok (.iface 167 (.agg #[.pointer (some ⟨12,348,none⟩)])) w:=by kernel_rfl
theorem qts (w:World):((Extern.ReflectliteType.method fun t=>do Extern.Rtype.noPackHeld "Comparable" t;(fun a=>Value.bool a.comparable) <$> typeInfo t) #[.agg #[.pointer (some ⟨12,348,none⟩)]]).run Tryz.prog w=.ok (.bool true) w:=by kernel_rfl
theorem qkw (v:Value) (w:World):(Go.method 478 167 v "Comparable").run Tryz.prog w=.ok (241,v) w:=by kernel_rfl
theorem isComp:(Tryz.prog.info? 348).map (·.comparable)=some true:=by kernel_rfl
theorem isSize:(Tryz.prog.info? 366).map (·.size)=some 1:=by kernel_rfl
theorem noIs348 (v:Value) (xT:TypeId) (w:World):(Instr.typeAssert (.iface 348 v) xT 169 true).run Tryz.prog w=.ok (.tuple #[.nilIface,.bool false]) w:=run_typeAssert_lacksB Tryz.underlying169 (by kernel_rfl) (by kernel_rfl) v xT w
theorem noUn348 (v:Value) (xT:TypeId) (w:World):(Instr.typeAssert (.iface 348 v) xT 172 true).run Tryz.prog w=.ok (.tuple #[.nilIface,.bool false]) w:=run_typeAssert_lacksB Tryz.underlying172 (by kernel_rfl) (by kernel_rfl) v xT w
theorem noUs348 (v:Value) (xT:TypeId) (w:World):(Instr.typeAssert (.iface 348 v) xT 174 true).run Tryz.prog w=.ok (.tuple #[.nilIface,.bool false]) w:=run_typeAssert_lacksB Tryz.underlying174 (by kernel_rfl) (by kernel_rfl) v xT w
set_option maxHeartbeats 1000000 in
set_option maxRecDepth 100000 in
theorem is_same (a:Addr) (w:World) :
  Calls Tryz.prog 42 #[.iface 348 (.pointer (some a)),.iface 348 (.pointer (some a))] w fun e w'=>e=.returned (.bool true)∧w'=w:=by
 obtain⟨i,hi,hcmp⟩:=Option.map_eq_some_iff.1 isComp
 obtain⟨j,hj,hjs⟩:=Option.map_eq_some_iff.1 isSize
 have h8:=@run_callFunc_extern Tryz.prog 64 _ Extern.ReflectliteType.typeOf Tryz.func64 (by kernel_rfl) (by kernel_rfl) (by kernel_rfl) (by kernel_rfl)
 have h32:=@run_callFunc_extern Tryz.prog 241 _ (Extern.ReflectliteType.method fun t=>do Extern.Rtype.noPackHeld "Comparable" t;pure (.bool (←typeInfo t).comparable)) Tryz.func241 (by kernel_rfl) (by kernel_rfl) (by kernel_rfl) (by kernel_rfl)
 have tT:=Qls
 have cT:=qts
 have mR:=qkw
 have heq:=run_eql_iface_ptr_same (P:=Tryz.prog) w a Tryz.underlying81 Tryz.underlying348 hi hcmp hj
 go_enter Tryz.func42,Tryz.ntmps42
 go_wp2
 refine wp_loop_rounds 1 ?_
 rw[rounds_succ]
 go_wp2
 go_ret
 exact⟨rfl,rfl⟩
set_option maxHeartbeats 1000000 in
set_option maxRecDepth 100000 in
theorem is_nil (b:Addr) (w:World) :
  Calls Tryz.prog 42 #[.nilIface,.iface 348 (.pointer (some b))] w fun e w'=>e=.returned (.bool false)∧w'=w:=by
 have hn:=run_eql_iface_nil_left (P:=Tryz.prog) w 348 (.pointer (some b)) Tryz.underlying81
 go_enter Tryz.func42,Tryz.ntmps42
 go_wp2
 go_ret
 exact⟨rfl,rfl⟩
set_option maxHeartbeats 1000000 in
set_option maxRecDepth 100000 in
theorem is_other (a b:Addr) (ca cb:Array Value) (ta tb:TypeId) (w:World) (hne:a≠b) (ha:w.heap[a.block]?=some (.cells ca ta (0,0))) (hb:w.heap[b.block]?=some (.cells cb tb (0,0))) :
  Calls Tryz.prog 42 #[.iface 348 (.pointer (some a)),.iface 348 (.pointer (some b))] w fun e w'=>e=.returned (.bool false)∧w'=w:=by
 obtain⟨i,hi,hcmp⟩:=Option.map_eq_some_iff.1 isComp
 obtain⟨j,hj,hjs⟩:=Option.map_eq_some_iff.1 isSize
 have h8:=@run_callFunc_extern Tryz.prog 64 _ Extern.ReflectliteType.typeOf Tryz.func64 (by kernel_rfl) (by kernel_rfl) (by kernel_rfl) (by kernel_rfl)
 have h32:=@run_callFunc_extern Tryz.prog 241 _ (Extern.ReflectliteType.method fun t=>do Extern.Rtype.noPackHeld "Comparable" t;pure (.bool (←typeInfo t).comparable)) Tryz.func241 (by kernel_rfl) (by kernel_rfl) (by kernel_rfl) (by kernel_rfl)
 have tT:=Qls
 have cT:=qts
 have mR:=qkw
 have nE:=noIs348
 have uE:=noUn348
 have vE:=noUs348
 have heq:=run_eql_iface_ptr_other (P:=Tryz.prog) w Tryz.underlying81 Tryz.underlying348 hi hcmp hj (by rw[hjs];decide) hne ha hb
 go_enter Tryz.func42,Tryz.ntmps42
 go_wp2
 refine wp_loop_rounds 1 ?_
 rw[rounds_succ]
 go_wp2
 go_ret
 exact⟨rfl,rfl⟩
end Go.Proofs.AbIsN


namespace Go.Proofs.AbNS
open Go.RowKit Go.Proofs
theorem lies_b:liesAt Tryz.prog Tryz.prog.depth 136 (2 / Tryz.prog.cellsOf 136) 0 136 1=true:=by kernel_rfl
theorem info_b':(Tryz.prog.info? 136).map (·.size)=some 2:=by kernel_rfl
theorem info_b:∃ j,Tryz.prog.info? 136=some j∧j.size=2:=Option.map_eq_some_iff.1 info_b'
theorem cells5:Tryz.prog.cellsOf 5=1:=by kernel_rfl
set_option maxHeartbeats 1000000 in
set_option maxRecDepth 100000 in
theorem check_used (b:Nat) (w:World) (h0:w.cell? ⟨b,0,none⟩=some (.pointer (some ⟨b,0,none⟩))) :
  Calls Tryz.prog 81 #[.pointer (some ⟨b,0,none⟩)] w fun e w'=>e=.returned (.tuple #[])∧w'=w:=by
 obtain⟨j,hj,_⟩:=info_b
 go_enter Tryz.func81,Tryz.ntmps81
 go_wp2
 rw[Lib.run_neq_ptr_same w _ Tryz.underlying133 hj]
 go_wp2
 go_end0
 exact⟨rfl,rfl⟩
set_option maxHeartbeats 1000000 in
set_option maxRecDepth 100000 in
theorem check_fresh (b:Nat) (w:World) (h0:w.cell? ⟨b,0,none⟩=some (.pointer none)) (hsh:w.shape? b=some (136,2)) (hfz:w.frozen? ⟨b,0,none⟩=false) :
  Calls Tryz.prog 81 #[.pointer (some ⟨b,0,none⟩)] w fun e w'=>e=.returned (.tuple #[])∧w'=w.setCell ⟨b,0,none⟩ (.pointer (some ⟨b,0,none⟩)):=by
 obtain⟨j,hj,hjs⟩:=info_b
 go_enter Tryz.func81,Tryz.ntmps81
 go_wp2
 rw[Lib.run_to_unsafe w ⟨b,0,none⟩ Tryz.underlying133 Tryz.underlying200 hj (by rw[hjs];decide) hsh (Nat.zero_lt_succ 1)]
 simp only[Result.andThen]
 rw[Oper.upon_value]
 go_wp2
 rw[run_callFunc_extern Tryz.func104 (by kernel_rfl) (by kernel_rfl) (by kernel_rfl) (e:=Extern.AbiNoEscape.same) (by kernel_rfl)]
 rw[Lib.run_noEscape]
 simp only[Result.andThen]
 rw[Oper.upon_value]
 go_wp2
 rw[Lib.run_from_unsafe w ⟨b,0,none⟩ Tryz.underlying200 Tryz.underlying133 hj hsh lies_b]
 simp only[Result.andThen]
 rw[Oper.upon_value]
 go_wp2
 go_end0
 exact⟨rfl,rfl⟩
set_option maxHeartbeats 1000000 in
set_option maxRecDepth 100000 in
theorem count_one (s:ByteArray) (c:UInt8) (w:World) :
  Calls Tryz.prog 68 #[.string s,.string ⟨#[c]⟩] w fun e w'=>e=.returned (.int .i64 (Lib.countByte s.data.toList c))∧w'=w:=by
 go_enter Tryz.func68,Tryz.ntmps68
 go_wp2
 rw[run_callFunc_extern Tryz.func85 (by kernel_rfl) (by kernel_rfl) (by kernel_rfl) (e:=Extern.BytealgCount.count) (by kernel_rfl),Lib.run_countString]
 simp only[Result.andThen]
 rw[Oper.upon_value]
 go_wp2
 go_ret
 exact⟨rfl,rfl⟩
set_option maxHeartbeats 1000000 in
set_option maxRecDepth 100000 in
theorem string_some (b g cap:Nat) (p:Value) (cur:Array Value) (l:List UInt8) (w:World) (hbk:w.heap[b]?=some (.cells #[p,.slice (some ⟨g,0,none⟩) l.length cap] 136 (0,0)))
  (hg:w.heap[g]?=some (.cells cur 5 (0,0))) (h0:l≠[]) (hcap:l.length≤cap) (hcs:l.length≤cur.size) (h63:l.length≤9223372036854775807) (hl:∀ (j:Nat) (x:UInt8),l[j]?=some x→cur[j]?=some (Value.int .u8 (x.toNat:Int))) :
  Calls Tryz.prog 62 #[.pointer (some ⟨b,0,none⟩)] w fun e w'=>e=.returned (.string ⟨l.toArray⟩)∧w'=w.drew.freeze ⟨g,0,none⟩ l.length:=by
 have hl0:l.length≠0:=by simpa using h0
 have c1:w.drew.cell? ⟨b,1,none⟩=some (.slice (some ⟨g,0,none⟩) l.length cap):=by
  have:w.drew.heap[b]?=some (.cells #[p,.slice (some ⟨g,0,none⟩) l.length cap] 136 (0,0)):=hbk
  rw[Lib.cell_of_heap this];rfl
 have hSD:(Builtin.unsafeSliceData_ #[134] 165 #[.slice (some ⟨g,0,none⟩) l.length cap]).run Tryz.prog w.drew=.ok (.pointer (some ⟨g,0,none⟩)) w.drew :=
  Lib.run_unsafeSliceData_row _ _ _ _ _ _ (by omega)
 have hUS:(Builtin.unsafeString_ #[165,3] 9 #[.pointer (some ⟨g,0,none⟩),.int .i64 l.length]).run Tryz.prog w.drew=.ok (.string ⟨l.toArray⟩) (w.drew.freeze ⟨g,0,none⟩ l.length):=by
  refine Lib.run_unsafeString_row w.drew 165 3 9 5 Tryz.underlying165 cells5 g cur.size (by have hg':w.drew.heap[g]?=some (.cells cur 5 (0,0)):=hg;simp[World.shape?,hg']) l h0 hcs h63 ?_
  intro j x hx
  have hg':w.drew.heap[g]?=some (.cells cur 5 (0,0)):=hg
  have e:((⟨g,0,none⟩:Addr).add j)=⟨g,j,none⟩:=by cases j<;>simp[Addr.add]
  rw[e,Lib.cell_of_heap hg']
  exact hl j x hx
 have mixed:Tryz.prog.follows .mixedOrders=true:=by kernel_rfl
 go_enter Tryz.func62,Tryz.ntmps62
 go_wp2
 go_region_o
 all_goals (go_wp2;go_ret;exact⟨rfl,rfl⟩)
set_option maxHeartbeats 1000000 in
set_option maxRecDepth 100000 in
theorem string_nil (b:Nat) (p:Value) (w:World) (hbk:w.heap[b]?=some (.cells #[p,.slice none 0 0] 136 (0,0))) :
  Calls Tryz.prog 62 #[.pointer (some ⟨b,0,none⟩)] w fun e w'=>e=.returned (.string ⟨#[]⟩)∧w'=w.drew:=by
 have hUS:∀ W q,(Builtin.unsafeString_ #[165,3] 9 #[.pointer q,.int .i64 0]).run Tryz.prog W=.ok (.string .empty) W:=fun W q=>Lib.run_unsafeString_none W _ _ _ q
 have c1:w.drew.cell? ⟨b,1,none⟩=some (.slice none 0 0):=by
  have:w.drew.heap[b]?=some (.cells #[p,.slice none 0 0] 136 (0,0)):=hbk
  rw[Lib.cell_of_heap this];rfl
 have hSD:(Builtin.unsafeSliceData_ #[134] 165 #[.slice none 0 0]).run Tryz.prog w.drew=.ok (.pointer none) w.drew:=rfl
 have mixed:Tryz.prog.follows .mixedOrders=true:=by kernel_rfl
 go_enter Tryz.func62,Tryz.ntmps62
 go_wp2
 go_region_o
 all_goals (go_wp2;go_ret;exact⟨rfl,rfl⟩)
end Go.Proofs.AbNS


namespace Go.Proofs
open Go.Shelf Go.RowKit Go.Sort Go.Lib
def Tryz.lays171_ren:Go.Shelf.Ren:=⟨fun | 171=>39 | 243=>58 | 246=>79 | 283=>99 | 284=>100 | 285=>101 | 286=>102 | 129=>135 | 317=>134 | 318=>136 | 319=>137 | 320=>138 | 337=>168 | 338=>169 | n=>n,fun | 3=>3 | 9=>9 | 2=>2 | 4=>4 | 171=>194 | 0=>0 | 53=>195 | 37=>134 | 5=>5 | 173=>198 | 212=>230 | 51=>231 | 20=>20 | 213=>232 | 46=>140 | 232=>318 | 233=>319 | n=>n,fun | 17=>5 | 18=>10 | 19=>11 | n=>n⟩
theorem Tryz.lays171:Go.Proofs.LaysM.n171 Tryz.prog Tryz.lays171_ren:={
 mixed:=by kernel_rfl
 f129:=Tryz.func135.trans (congrArg some (by kernel_rfl))
 f171:=Tryz.func39.trans (congrArg some (by kernel_rfl))
 f243:=Tryz.func58.trans (congrArg some (by kernel_rfl))
 f246:=Tryz.func79.trans (congrArg some (by kernel_rfl))
 f283:=Tryz.func99.trans (congrArg some (by kernel_rfl))
 f284:=Tryz.func100.trans (congrArg some (by kernel_rfl))
 f285:=Tryz.func101.trans (congrArg some (by kernel_rfl))
 f286:=Tryz.func102.trans (congrArg some (by kernel_rfl))
 f317:=Tryz.func134.trans (congrArg some (by kernel_rfl))
 f318:=Tryz.func136.trans (congrArg some (by kernel_rfl))
 f319:=Tryz.func137.trans (congrArg some (by kernel_rfl))
 f320:=Tryz.func138.trans (congrArg some (by kernel_rfl))
 f337:=Tryz.func168.trans (congrArg some (by kernel_rfl))
 f338:=Tryz.func169.trans (congrArg some (by kernel_rfl))
 t0:=Tryz.underlying0
 a0:=Tryz.isAgg0
 z0:=Tryz.sizeOf0
 v0:=Tryz.zeroValue0
 t2:=Tryz.underlying2
 a2:=Tryz.isAgg2
 z2:=Tryz.sizeOf2
 v2:=Tryz.zeroValue2
 t3:=Tryz.underlying3
 a3:=Tryz.isAgg3
 z3:=Tryz.sizeOf3
 v3:=Tryz.zeroValue3
 t4:=Tryz.underlying4
 a4:=Tryz.isAgg4
 z4:=Tryz.sizeOf4
 v4:=Tryz.zeroValue4
 t5:=Tryz.underlying5
 a5:=Tryz.isAgg5
 z5:=Tryz.sizeOf5
 v5:=Tryz.zeroValue5
 t9:=Tryz.underlying9
 a9:=Tryz.isAgg9
 z9:=Tryz.sizeOf9
 v9:=Tryz.zeroValue9
 t20:=Tryz.underlying20
 a20:=Tryz.isAgg20
 z20:=Tryz.sizeOf20
 v20:=Tryz.zeroValue20
 t37:=Tryz.underlying134
 a37:=Tryz.isAgg134
 z37:=Tryz.sizeOf134
 v37:=Tryz.zeroValue134
 t46:=Tryz.underlying140
 a46:=Tryz.isAgg140
 z46:=Tryz.sizeOf140
 v46:=Tryz.zeroValue140
 t51:=Tryz.underlying231
 a51:=Tryz.isAgg231
 z51:=Tryz.sizeOf231
 v51:=Tryz.zeroValue231
 t53:=Tryz.underlying195
 a53:=Tryz.isAgg195
 z53:=Tryz.sizeOf195
 v53:=Tryz.zeroValue195
 t171:=Tryz.underlying194
 a171:=Tryz.isAgg194
 z171:=Tryz.sizeOf194
 v171:=Tryz.zeroValue194
 t173:=Tryz.underlying198
 a173:=Tryz.isAgg198
 z173:=Tryz.sizeOf198
 v173:=Tryz.zeroValue198
 t212:=Tryz.underlying230
 a212:=Tryz.isAgg230
 z212:=Tryz.sizeOf230
 v212:=Tryz.zeroValue230
 t213:=Tryz.underlying232
 a213:=Tryz.isAgg232
 z213:=Tryz.sizeOf232
 t232:=Tryz.underlying318
 a232:=Tryz.isAgg318
 z232:=Tryz.sizeOf318
 v232:=Tryz.zeroValue318
 t233:=Tryz.underlying319
 a233:=Tryz.isAgg319
 z233:=Tryz.sizeOf319
 v233:=Tryz.zeroValue319
 g17:=by kernel_rfl
 g18:=by kernel_rfl
 g19:=by kernel_rfl
 i0:=by kernel_rfl
 i2:=by kernel_rfl
 i3:=by kernel_rfl
 i4:=by kernel_rfl
 i5:=by kernel_rfl
 i9:=by kernel_rfl
 i20:=by kernel_rfl
 i37:=by kernel_rfl
 i46:=by kernel_rfl
 i51:=by kernel_rfl
 i53:=by kernel_rfl
 i171:=by kernel_rfl
 i173:=by kernel_rfl
 i212:=by kernel_rfl
 i232:=by kernel_rfl
 i233:=by kernel_rfl
 m17:=by kernel_rfl
 m18:=by kernel_rfl
 m19:=by kernel_rfl}
def Tryz.lays156_ren:Go.Shelf.Ren:=⟨fun | 156=>41 | 165=>63 | 166=>60 | 169=>62 | 240=>81 | 241=>82 | 276=>104 | 277=>105 | n=>n,fun | 31=>84 | 9=>9 | 3=>3 | 4=>4 | 0=>0 | 20=>20 | 72=>136 | 76=>138 | 70=>133 | 37=>134 | 75=>81 | 127=>165 | 164=>200 | 5=>5 | 80=>34 | n=>n,fun | n=>n⟩
theorem Tryz.lays156:Go.Proofs.Lays.n156 Tryz.prog Tryz.lays156_ren:={
 mixed:=by kernel_rfl
 f156:=Tryz.func41.trans (congrArg some (by kernel_rfl))
 f165:=Tryz.func63.trans (congrArg some (by kernel_rfl))
 f166:=Tryz.func60.trans (congrArg some (by kernel_rfl))
 f169:=Tryz.func62.trans (congrArg some (by kernel_rfl))
 f240:=Tryz.func81.trans (congrArg some (by kernel_rfl))
 f241:=Tryz.func82.trans (congrArg some (by kernel_rfl))
 f276:=Tryz.func104.trans (congrArg some (by kernel_rfl))
 f277:=Tryz.func105.trans (congrArg some (by kernel_rfl))
 t0:=Tryz.underlying0
 a0:=Tryz.isAgg0
 z0:=Tryz.sizeOf0
 v0:=Tryz.zeroValue0
 t3:=Tryz.underlying3
 a3:=Tryz.isAgg3
 z3:=Tryz.sizeOf3
 v3:=Tryz.zeroValue3
 t4:=Tryz.underlying4
 a4:=Tryz.isAgg4
 z4:=Tryz.sizeOf4
 v4:=Tryz.zeroValue4
 t9:=Tryz.underlying9
 a9:=Tryz.isAgg9
 z9:=Tryz.sizeOf9
 v9:=Tryz.zeroValue9
 t20:=Tryz.underlying20
 a20:=Tryz.isAgg20
 z20:=Tryz.sizeOf20
 v20:=Tryz.zeroValue20
 t31:=Tryz.underlying84
 a31:=Tryz.isAgg84
 z31:=Tryz.sizeOf84
 v31:=Tryz.zeroValue84
 t37:=Tryz.underlying134
 a37:=Tryz.isAgg134
 z37:=Tryz.sizeOf134
 v37:=Tryz.zeroValue134
 t70:=Tryz.underlying133
 a70:=Tryz.isAgg133
 z70:=Tryz.sizeOf133
 v70:=Tryz.zeroValue133
 t72:=Tryz.underlying136
 a72:=Tryz.isAgg136
 z72:=Tryz.sizeOf136
 v72:=Tryz.zeroValue136
 t75:=Tryz.underlying81
 a75:=Tryz.isAgg81
 z75:=Tryz.sizeOf81
 v75:=Tryz.zeroValue81
 t76:=Tryz.underlying138
 a76:=Tryz.isAgg138
 z76:=Tryz.sizeOf138
 v76:=Tryz.zeroValue138
 t127:=Tryz.underlying165
 a127:=Tryz.isAgg165
 z127:=Tryz.sizeOf165
 v127:=Tryz.zeroValue165
 t164:=Tryz.underlying200
 a164:=Tryz.isAgg200
 z164:=Tryz.sizeOf200
 v164:=Tryz.zeroValue200}
theorem Tryz.extra:Builder.Extra Tryz.prog Tryz.lays156_ren where
 sizeBuilder:=by kernel_rfl
 liesBuilder:=by kernel_rfl
 t5:=Tryz.underlying5
 a5:=Tryz.isAgg5
 z5:=Tryz.sizeOf5
 v5:=Tryz.zeroValue5
 infoByte:=by kernel_rfl
 cellsByte:=by kernel_rfl
 sizeByte:=by kernel_rfl
 neB5:=by decide
namespace AbShN
theorem itoa_run (n:Int) (h0 : -9223372036854775808≤n) (h1:n≤9223372036854775807) (w:World) (ht:Lib.TabIs Tryz.prog w "internal/strconv.uint64pow10" .u64 Lib.pow10Tab) :
  Calls Tryz.prog 39 #[.int .i64 n] w fun e w'=>e=.returned (.string ⟨(Lib.itoa n).toArray⟩)∧∃ k os,w'=grow (w.drewN k) os :=
 Any.strconv_Itoa Tryz.lays171 n h0 h1 w ht
set_option maxHeartbeats 1000000 in
set_option maxRecDepth 100000 in
theorem index_run (s:ByteArray) (c:Int) (w:World) :
  Calls Tryz.prog 80 #[.string s,.int .u8 c] w fun e w'=>e=.returned (.int .i64 (Lib.indexByte s.data.toList c.toNat.toUInt8))∧w'=w:=by
 go_enter Tryz.func80,Tryz.ntmps80
 go_wp2
 rw[run_callFunc_extern Tryz.func103 (by kernel_rfl) (by kernel_rfl) (by kernel_rfl) (e:=Extern.BytealgIndexByte.indexByte) (by kernel_rfl),Lib.run_indexByteString]
 simp only[Result.andThen]
 rw[Oper.upon_value]
 go_wp2
 go_ret
 exact⟨rfl,rfl⟩
theorem join_run (bk o c:Nat) (xs:List ByteArray) (sep:ByteArray) (w:World)
  (hcells:∀ (j:Nat) x,xs[j]?=some x→w.cell? ⟨bk,o+j,none⟩=some (.string x)) (hbk:bk < w.heap.size) (hN:xs.length≤140737488355328) (hcap:xs.length≤c)
  (hlen:(Lib.join (xs.map (·.data.toList)) sep.data.toList).length≤140737488355328) :
  Calls Tryz.prog 41 #[.slice (some ⟨bk,o,none⟩) xs.length c,.string sep] w fun e w'=>e=.returned (.string ⟨(Lib.join (xs.map (·.data.toList)) sep.data.toList).toArray⟩)∧Below w.heap.size w w' :=
 Any.strings_Join Tryz.lays156 Tryz.extra bk o c xs sep w hcells hbk hN hcap hlen
end AbShN
end Go.Proofs

