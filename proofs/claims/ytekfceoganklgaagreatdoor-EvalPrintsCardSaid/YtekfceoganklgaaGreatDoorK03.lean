/- Part 3 of a proof: laws of a machine. -/
import Derived.Test.YtekfceoganklgaaGreatDoorK02
import Derived.Test.YtekfceoganklgaaGreatDoorK01
set_option linter.all false

namespace Go.Ab
variable{R gone l:lW} {aN:Nat->Nm} {d0 i0:Nat} {m J s x:Nm} {mi:List lY} {p:Option (Nat×Nat)} {sl:lT} {v:lK} {v0:PV} {A:List lK}
section
variable {w:lJ} {I:Nat->Prop} {lp pH:Nat->lT}
theorem Ai.narrow {L L':As} {Z:lS} (h:Ai w I lp (some L) Z A) (hn:∀ J∈Ar Z,∀ p,L J=some p->L' J=some p):Ai w I lp (some L') Z A:=by
 have hs:DR w I lp L (some L') (fun J=>J∈Ar Z) (fun _=>none):=fun J p hS hp=>⟨L',rfl,hn J hS p hp⟩;have:=Ai.subst (fun _ h=>h) hs h fun _ h=>h
 rwa [Go.Ab.nV] at this
theorem Ba.narrow {L L':As} {ob:Ob} (h:Ba w I lp L ob p) (hn:∀ J∈ob.names,∀ p,L J=some p->L' J=some p):Ba w I lp L' ob p:=by
 have hs:DR w I lp L (some L') (fun J=>J∈ob.names) (fun _=>none):=fun J p hS hp=>⟨L',rfl,hn J hS p hp⟩;have:=Ba.subst h (fun _ h=>h) (fun _ _=>rfl) hs (fun _ h=>h) fun _ _ _=>rfl
 rwa [Ob.oG] at this
theorem Ba.rz {L:As} {ob:Ob} (h:Ba w I lp L ob p) (hy:ob.mV=false):Ba w I pH L ob p:=by
 cases p with
 | none=>exact h
 | some p =>
  cases ob with
  | cells ty cs=>obtain⟨c,E,U,H,h4,h3⟩:=h;exact⟨c,E,U,H,h4,h3.rz hy⟩
  | arr k kt Z=>obtain⟨c,E,U,H,h3,h4,h6,h5⟩:=h;exact⟨c,E,U,H,h3,h4,h6,h5.rz (OJ (w:=w) (I:=I) (lp:=lp) (pH:=pH) Z hy)⟩
  | map es=>obtain⟨c,E,U,H⟩:=h;exact⟨c,E,U,H.rz hy⟩
  | mD s pos=>exact h
def GeP:Option (Nat×Nat)->Option (Nat×Nat)->Prop
 | none,none=>True
 | some (b,C),some (b',C')=>b'=b/\C<=C'
 | _,_=>False
def Lm (L L':As):Prop:=∀ J p,L J=some p->∃ p',L' J=some p'/\GeP p p'
theorem GeP.refl (p:Option (Nat×Nat)):GeP p p:=by
 cases p with
 | none=>trivial
 | some p=>exact⟨rfl,ik _⟩
theorem Lm.at {L L':As} (h:Lm L L') {b C:Nat} (hn:L J=some (some (b,C))):∃ C',L' J=some (some (b,C'))/\C<=C':=by
 obtain⟨p,U,H⟩:=h J _ hn;cases p with
 | none=>exact H.elim
 | some p=>obtain⟨b',C'⟩:=p;obtain⟨rfl,h3⟩:=H;exact⟨C',U,h3⟩
theorem Lm.atN {L L':As} (h:Lm L L') (hn:L J=some none):L' J=some none:=by
 obtain⟨p,U,H⟩:=h J _ hn;cases p with
 | none=>exact U
 | some p=>exact H.elim
mutual
theorem Am.ge {L L':As} {x:PV} {v:lK}:Am w I lp (some L) x v->Lm L L'->Am w I lp (some L') x v
 | .undef v,_=>.undef v
 | .bool b,_=>.bool b
 | .int k n,_=>.int k n
 | .str s,_=>.str s
 | .mu,_=>.mu
 | .mJ,_=>.mJ
 | .nn,_=>.nn
 | .mB,_=>.mB
 | .ni,_=>.ni
 | .qR k full a cap hf,_=>.qR k full a cap hf
 | .sl k Z full b off cap c E fr U H h3 h4 h5 h6 h8 h7,_=>.sl k Z full b off cap c E fr U H h3 h4 h5 h6 h8 h7
 | .ptr cs o b off c E fr U H h3 h4 h8 h5,_=>.ptr cs o b off c E fr U H h3 h4 h8 h5
 | .agg cs A U h,e=>.agg cs A U (h.ge e)
 | .iface t x v h,e=>.iface t x v (h.ge e)
 | .fn f cs us A hk h,e=>.fn f cs us A hk (h.ge e)
 | .mF d l h,_=>.mF d l h
 | .mn Z A h,e=>.mn Z A (h.ge e)
 | .nb es r nj clock U H h3,_=>.nb es r nj clock U H h3
 | .mY g t x c E fr U H h3,_=>.mY g t x c E fr U H h3
 | .ref J o b C h,e=>let ⟨C',h',_⟩:=e.at h;.ref J o b C' h'
 | .my J k i o b C h,e=>let ⟨C',h',_⟩:=e.at h;.my J k i o b C' h'
 | .arr J k o n cap b C h hC hn,e=>let ⟨C',h',hle⟩:=e.at h;.arr J k o n cap b C' h' (kq hC hle) hn
 | .oz J k h,e=>.oz J k (e.atN h)
 | .mp J b C h,e=>let ⟨C',h',_⟩:=e.at h;.mp J b C' h'
 | .it J b C h,e=>let ⟨C',h',_⟩:=e.at h;.it J b C' h'
theorem Ai.ge {L L':As} {Z:lS} {A:List lK}:Ai w I lp (some L) Z A->Lm L L'->Ai w I lp (some L') Z A
 | .nil,_=>.nil
 | .cons x v Z A h hs,e=>.cons x v Z A (h.ge e) (hs.ge e)
end
theorem Ba.ge {L L':As} {ob:Ob} (h:Ba w I lp L ob p) (e:Lm L L'):Ba w I lp L' ob p:=by
 cases p with
 | none=>exact h
 | some p =>
  cases ob with
  | cells ty cs=>obtain⟨c,E,U,H,h4,h3⟩:=h;exact⟨c,E,U,H,h4,h3.ge e⟩
  | arr k kt Z=>exact h
  | map es=>obtain⟨c,E,U,H⟩:=h;exact⟨c,E,U,H.ge e⟩
  | mD s pos=>exact h
theorem Ai.z6 {L:l7}:∀ {Z:lS} {A:List lK},Z.length=A.length->(∀ (i:Nat) (x:PV) (v:lK),Z[i]?=some x->A[i]?=some v->Am w I lp L x v)->Ai w I lp L Z A:=by
 intro Z;induction Z with
 | nil=>intro A h _;cases A with | nil=>exact .nil | cons v A=>simp at h
 | cons x Z ih =>
  intro A h hg;cases A with
  | nil=>simp at h
  | cons v A=>exact .cons _ _ _ _ (hg 0 x v rfl rfl) (ih (by simpa using h) fun i y u hy hu=>hg (i+1) y u (by simpa using hy) (by simpa using hu))
end
theorem QU:∀ {l:lW} {x:Nm},x∈Bt l↔x∈l:=by
 intro l;induction l with
 | nil=>intro x;simp[Bt]
 | cons y l ih =>
  intro x;simp only[Bt];split
  ·rename_i h;have hy:y∈l:=by simpa using h
   rw[ih,im];exact⟨.inr,fun h=>h.elim (fun e=>e ▸ hy) id⟩
  {rw[im,im,ih]}
theorem X0:∀ {l:lW} (i j:Nat) (x:Nm),(Bt l)[i]?=some x->(Bt l)[j]?=some x->i=j:=by
 intro l;induction l with
 | nil=>intro i j x h;simp[Bt] at h
 | cons y l ih =>
  intro i j x hi hj;simp only[Bt] at hi hj;split at hi;{rename_i h;rw[lu h] at hj;exact ih i j x hi hj}
  ·rename_i h;rw[lr h] at hj;have hy:y ∉ Bt l:=fun hm=>h (by simpa using QU.1 hm);cases i with
   | zero =>
    cases j with
    | zero=>rfl
    | succ j=>simp at hi hj;subst hi;exact lH (iz hj) hy
   | succ i =>
    cases j with
    | zero=>simp at hi hj;subst hj;exact lH (iz hi) hy
    | succ j=>simp at hi hj;rw[ih i j x hi hj]
theorem Vv (h:x∈l):l[l.idxOf x]?=some x:=by have o7:=lg h;rw[iG o7];simp
theorem Uo:∀ {B:List (Nm×Nm)} {s t:Nm},C0 (B.map (·.1))=true->(s,t)∈B->B.lookup s=some t:=by
 intro B;induction B with
 | nil=>intro s t _ h;cases h
 | cons p B ih =>
  obtain⟨a,b⟩:=p;intro s t hn h;simp only[iE,C0,ie,jt] at hn;rcases im.1 h with H | H;·cases H;simp
  ·have mP:s≠a:=by
    rintro rfl;have:(B.map (·.1)).contains s=true:=by rw[jl];exact ii.2 ⟨(s,t),H,rfl⟩
    rw[this] at hn;cases hn.1
   have hb:(s==a)=false:=by simpa using mP
   rw[kQ,hb];exact ih hn.2 H
theorem XR {B:List (Nm×Nm)} (hn:C0 (B.map (·.1))=true) {t t':Nm} (h:(s,t)∈B) (h':(s,t')∈B):t=t':=by have:=(Uo hn h).symm.trans (Uo hn h');exact ic this
theorem OI:∀ (l:List (Nm×Ob)) (mi:List lY) (t:Nm),(∀ p∈l,∃ o,Ac mi p.1=some o) ->
  (∀ o,(∀ o',(t,o')∈l->o'=o)->(t,o)∈l->Ac (Bp l mi) t=some o)/\((∀ o,(t,o) ∉ l)->Ac (Bp l mi) t=Ac mi t):=by
 intro l;induction l with
 | nil=>intro mi t _;exact⟨fun o _ h=>(by cases h),fun _=>rfl⟩
 | cons p l ih =>
  obtain⟨J,ob⟩:=p;intro mi t O
  have p9:∀ p∈l,∃ o,Ac (AR mi J ob) p.1=some o:=by
   intro p hp;cases hl:Ac (AR mi J ob) p.1 with
   | some o=>exact⟨o,rfl⟩
   | none =>
    obtain⟨o,ho⟩:=O p (iA _ hp);rw[Kb] at hl;rw[ho] at hl;cases hl
  obtain⟨i1,i2⟩:=ih (AR mi J ob) t p9;refine⟨fun o hu ho=>?_,fun sU=>?_⟩
  ·by_cases hl:∃ o',(t,o')∈l
   {obtain⟨o',sf⟩:=hl;have:=hu o' (iA _ sf);subst this;exact i1 o' (fun o2 H=>hu o2 (iA _ H)) sf}
   ·have zz:∀ o',(t,o') ∉ l:=fun o' h=>hl ⟨o',h⟩;rcases im.1 ho with he | he
    {have e1:t=J:=lD Prod.fst he;have e2:o=ob:=lD Prod.snd he;subst e1;subst e2;obtain⟨o0,h0⟩:=O (t,o) iw;have:=i2 zz;exact this.trans (Ka o h0)};{exact lH he (zz o)}
  ·have mP:t≠J:=by rintro rfl;exact sU ob iw
   show Ac (Bp l (AR mi J ob)) t=Ac mi t;rw[i2 fun o h=>sU o (iA _ h),FC ob mP]
noncomputable def BQ (L L':As) (B:List (Nm×Nm)):As:=fun t =>
 open Classical in if h:∃ s,(s,t)∈B then some ((L' h.choose).getD none) else L t
theorem LZ {L L':As} {B:List (Nm×Nm)} (hU:∀ s s' t,(s,t)∈B->(s',t)∈B->s=s') {t:Nm} (h:(s,t)∈B):BQ L L' B t=some ((L' s).getD none):=by unfold BQ;have O:∃ s,(s,t)∈B:=⟨s,h⟩;rw[dif_pos O,hU _ _ t O.choose_spec h]
theorem Up {L L':As} {B:List (Nm×Nm)} {t:Nm} (h:∀ s,(s,t) ∉ B):BQ L L' B t=L t:=by unfold BQ;rw[dif_neg fun ⟨s,hs⟩=>h s hs]
def Dn (B:List (Nm×Nm)) (m:Nm):Option lV:=if (B.map (·.1)).contains m then none else some none
def Di (B:List (Nm×Nm)) (m:Nm):Nm:=(B.lookup m).getD m
theorem vV {B:List (Nm×Nm)}:(B.map (·.1)).contains m=true↔∃ t,(m,t)∈B:=by rw[jl,ii];constructor;{rintro ⟨⟨a,b⟩,U,rfl⟩;exact⟨b,U⟩};{rintro ⟨t,h⟩;exact⟨(m,t),h,rfl⟩}
section take
variable {w:lJ} {I:Nat->Prop} {lp:Nat->lT} {L L':As} {B:List (Nm×Nm)}
theorem z8 (hn:C0 (B.map (·.1))=true) (hU:∀ s s' t,(s,t)∈B->(s',t)∈B->s=s'):DR w I lp L' (some fun m=>if (B.map (·.1)).contains m then L' m else none) (fun _=>True) (Dn B):=by intro J p _ hp;by_cases h:(B.map (·.1)).contains J=true;{simp only[Dn,h,lq];exact⟨_,rfl,by simp only[h,lq];exact hp⟩};{simp only[Dn,h];trivial}
theorem ba (hn:C0 (B.map (·.1))=true) (hU:∀ s s' t,(s,t)∈B->(s',t)∈B->s=s') (J:Nm) (p:Option (Nat×Nat)) (hp:(fun m=>if (B.map (·.1)).contains m then L' m else none) J=some p):BQ L L' B (Di B J)=some p:=by
 simp only at hp;split at hp
 ·rename_i h;obtain⟨t,ht⟩:=vV.1 h;have hl:Di B J=t:=by unfold Di;rw[Uo hn ht];rfl
  rw[hl,LZ hU ht,hp];rfl
 {cases hp}
theorem zaa (hn:C0 (B.map (·.1))=true) (hU:∀ s s' t,(s,t)∈B->(s',t)∈B->s=s') {x:PV} (h:Am w I lp (some L') x v):Am w I lp (some (BQ L L' B)) ((x.sub (Dn B)).mz (Di B)) v :=
 Am.rename (ba hn hU) (Am.subst (fun _ h=>h) (z8 hn hU) h fun _ _=>trivial)
theorem aG (hn:C0 (B.map (·.1))=true) (hU:∀ s s' t,(s,t)∈B->(s',t)∈B->s=s') {ob:Ob} (h:Ba w I lp L' ob p):Ba w I lp (BQ L L' B) ((ob.sub (Dn B)).mz (Di B)) p :=
 Ba.mz (Ba.subst h (fun _ h=>h) (fun _ _=>rfl) (z8 hn hU) (fun _ _=>trivial) fun _ _ _=>rfl) (ba hn hU)
end take
def putP (tm:lS) (dst:lT) (v:PV):lS :=
 match dst with
 | some d=>tm.set d v
 | none=>tm
section done
variable {E:Type} {cx:Cx} {w0:lJ} {I0 F0:Nat->Prop} {O0:BE} {Hd:Nat->Option Obj} {RE:Bs E} {e:E} {ds:List lQ} {I F I':Nat->Prop} {lp pH:Nat->lT} {L L':As} {V mM:St} {mN tmv2 ml wv:List lK} {w w2:lJ}
theorem zab {dst:lT} {N:lW} 
  (hs:SR lp I L V mN ml w) (hf:Fr cx w0 I0 F0 O0 Hd RE e ds I F L w) (rJ:Ib pH lp)
  (hd:∀ d,dst=some d->V.mi[d]?=some []/\(sl=none->d=d0)) (sn:∀ r,sl=some r->r=d0) (hlen:N≠[]->∃ l,V.mi[d0]?=some l/\l.length=i0) (nP:sl=none->dst=none->N=[])
  (hR:∀ J∈R,∃ p,L J=some p) (rP:∀ (i j:Nat) J,R[i]?=some J->R[j]?=some J->i=j)
  (pJ:SR pH I' L' mM tmv2 wv w2) (hv:Am w2 I' pH (some L') v0 v)
  (x1:w2.os=w.os) (x2:w2.tape=w.tape) (x3:w2.output=w.output) (x4:w.heap.size<=w2.heap.size)
  (x5:∀ b,b < w.heap.size->(∀ J C,J∈R->L J≠some (some (b,C)))->w2.heap[b]?=w.heap[b]?) (x6:∀ b,I b->I' b)
  (x7:∀ b,I' b->I b\/(b < w2.heap.size/\(w.heap.size<=b\/∃ J C,J∈R/\L J=some (some (b,C)))))
  (x8:∀ J b C,L' J=some (some (b,C))->b < w2.heap.size/\¬ I' b/\(w.heap.size<=b\/∃ nr C',nr∈R/\L nr=some (some (b,C'))))
  (x9:∀ J nr b C C',L' J=some (some (b,C))->L' nr=some (some (b,C'))->J=nr)
  (hB:C0 (((R.zipIdx.map fun p=>(aN p.2,p.1))++N.zipIdx.map fun p=>(p.1,(d0,i0+p.2))).map (·.1))=true)
  (qx:∀ (j:Nat) J,R[j]?=some J->J ∉ gone->∀ p,L J=some p->∃ p',L' (aN j)=some p'/\GeP p p') {B:List (Nm×Nm)} (vW:B=(R.zipIdx.map fun p=>(aN p.2,p.1))++N.zipIdx.map fun p=>(p.1,(d0,i0+p.2))) :
  SR lp I' (BQ L L' B) (apply V dst {v:=(v0.sub (Dn B)).mz (Di B),new:=N.map fun m=>(((Ac mM.mi m).getD AP).sub (Dn B)).mz (Di B),nh:=(R.zipIdx.map fun p=>(p.1,(((Ac mM.mi (aN p.2)).getD AP).sub (Dn B)).mz (Di B))),gone:=gone,io:=true,slot:=sl}) (F5 mN dst v) ml w2 /\
   Fr cx w0 I0 F0 O0 Hd RE e ds I' F (BQ L L' B) w2:=by
 rw[<-vW] at hB;have sZ:∀ s t,(s,t)∈B↔(∃ j:Nat,R[j]?=some t/\s=aN j)\/(∃ i:Nat,N[i]?=some s/\t=(d0,i0+i)):=by intro s t;rw[vW,iH,ii,ii];constructor;{rintro (⟨⟨a,j⟩,U,H⟩ | ⟨⟨a,i⟩,U,H⟩);{cases H;exact .inl ⟨j,(iY.1 U),rfl⟩};{cases H;exact .inr ⟨i,(iY.1 U),rfl⟩}};{rintro (⟨j,U,rfl⟩ | ⟨i,U,rfl⟩);{exact .inl ⟨(t,j),iY.2 U,rfl⟩};{exact .inr ⟨(s,i),iY.2 U,rfl⟩}}
 have oo:∀ i:Nat,(∃ s,N[i]?=some s)->L (d0,i0+i)=none:=by
  rintro i ⟨s,nT⟩;obtain⟨l,U,H⟩:=hlen fun h=>by rw[h] at nT;simp at nT
  refine hs.pR _ ?_;unfold Ac;rw[U];exact iR.2 (by simp only;omega)
 have uW:∀ (j:Nat) t,R[j]?=some t->∃ p,L t=some p:=fun j t h=>hR t (iz h)
 have hU:∀ s s' t,(s,t)∈B->(s',t)∈B->s=s':=by
  intro s s' t h h';rcases (sZ s t).1 h with ⟨j,U,rfl⟩ | ⟨i,U,rfl⟩<;>rcases (sZ s' _).1 h' with ⟨j',H,rfl⟩ | ⟨i',H,h3⟩;{rw[rP j j' t U H]}
  {obtain⟨p,hp⟩:=uW j t U;rw[h3,oo i' ⟨_,H⟩] at hp;cases hp};{obtain⟨p,hp⟩:=uW j' _ H;rw[oo i ⟨_,U⟩] at hp;cases hp}
  ·have h4:i0+i=i0+i':=lD Prod.snd h3;have:i=i':=by omega
   subst this;exact ic (U.symm.trans H)
 have su:∀ s t,(s,t)∈B->BQ L L' B t=some ((L' s).getD none):=fun s t h=>LZ hU h;have mC:∀ t,(∀ s,(s,t) ∉ B)->BQ L L' B t=L t:=fun t h=>Up h
 have qo:Fr cx w0 I0 F0 O0 Hd RE e ds I' F (BQ L L' B) w2:=by
  have np:∀ t b C,BQ L L' B t=some (some (b,C))->(∃ s,(s,t)∈B/\L' s=some (some (b,C)))\/((∀ s,(s,t) ∉ B)/\L t=some (some (b,C))):=by
   intro t b C h;by_cases O:∃ s,(s,t)∈B
   ·obtain⟨s,nK⟩:=O;rw[su s t nK] at h;refine .inl ⟨s,nK,?_⟩;cases hl:L' s with
    | none=>rw[hl] at h;simp at h
    | some p=>rw[hl] at h;simpa using h
   {have p9:∀ s,(s,t) ∉ B:=fun s h=>O ⟨s,h⟩;rw[mC t p9] at h;exact .inr ⟨p9,h⟩}
  have zac:∀ t,(∀ s,(s,t) ∉ B)->t ∉ R:=by intro t h hm;obtain⟨j,hj,nM⟩:=kD hm;exact h (aN j) ((sZ _ _).2 (.inl ⟨j,by rw[iG hj,nM],rfl⟩))
  refine hf.own x1 x2 x3 x4 (fun b hb hn=>x5 b hb fun J C _=>hn J C) x6 (fun b hb=>(x7 b hb).imp id fun h=>⟨h.1,h.2.imp id fun ⟨J,C,_,h⟩=>⟨J,C,h⟩⟩) (fun t b C ht=>?_) (fun t t' b C C' ht uV=>?_)
  ·rcases np t b C ht with ⟨s,_,h⟩ | ⟨O,h⟩
   {obtain⟨g1,g2,g3⟩:=x8 s b C h;exact⟨g1,g2,g3.imp id fun ⟨J,C,_,h⟩=>⟨J,C,h⟩⟩}
   ·obtain⟨g1,g2,g3,g4⟩:=hf.lB t b C h;refine⟨by omega,fun hi=>?_,.inr ⟨t,C,h⟩⟩;rcases x7 b hi with U | ⟨_,U | ⟨J,C',U,H⟩⟩;{exact g3 U};{omega}
    {have:=hf.inj t J b C C' h H;subst this;exact zac t O U}
  ·rcases np t b C ht with ⟨s,hb,h⟩ | ⟨O,h⟩<;>rcases np t' b C' uV with ⟨s',oT,h'⟩ | ⟨p9,h'⟩
   {have:=x9 s s' b C C' h h';subst this;exact XR hB hb oT}
   ·obtain⟨_,_,g3⟩:=x8 s b C h;rcases g3 with g3 | ⟨J,C2,g3,g4⟩;{have:=(hf.lB t' b C' h').2.1;omega}
    {have:=hf.inj t' J b C' C2 h' g4;subst this;exact lH g3 (zac t' p9)}
   ·obtain⟨_,_,g3⟩:=x8 s' b C' h';rcases g3 with g3 | ⟨J,C2,g3,g4⟩;{have:=(hf.lB t b C h).2.1;omega}
    {have:=hf.inj t J b C C2 h g4;subst this;exact lH g3 (zac t O)}
   {exact hf.inj t t' b C C' h h'}
 refine⟨?_,qo⟩;have hIk:∀ b,I b->w2.heap[b]?=w.heap[b]?:=fun b hb=>x5 b (hf.sep.iB b hb) fun J C _ hn=>(hf.lB J b C hn).2.2.1 hb
 let L1:As:=fun t=>if t∈R/\t ∉ gone then BQ L L' B t else L t
 have hnB:∀ t,t ∉ R->∀ p,L t=some p->∀ s,(s,t) ∉ B:=by intro t ht p hp s h;rcases (sZ s t).1 h with ⟨j,U,rfl⟩ | ⟨i,U,rfl⟩;{exact ht (iz U)};{rw[oo i ⟨_,U⟩] at hp;cases hp}
 have hge1:Lm L L1:=by
  intro t p hp;by_cases ht:t∈R/\t ∉ gone
  ·obtain⟨j,hj,nM⟩:=kD ht.1;have hj':R[j]?=some t:=by rw[iG hj,nM]
   obtain⟨p',U,H⟩:=qx j t hj' ht.2 p hp;refine⟨p',?_,H⟩;simp only[L1,ht,lG,and_self,lq];rw[su (aN j) t ((sZ _ _).2 (.inl ⟨j,hj',rfl⟩)),U];rfl
  {exact⟨p,by simp only[L1,ht,lm];exact hp,GeP.refl p⟩}
 let f1:Nm->Option lV:=fun m=>if gone.contains m then some none else none
 have zad:DR w2 I' lp L1 (some (BQ L L' B)) (fun _=>True) f1:=by
  intro t p _ hp;by_cases hg:gone.contains t=true;{simp only[f1,hg,lq]}
  ·simp only[f1,hg];refine⟨_,rfl,?_⟩;have yE:t ∉ gone:=by simpa using hg
   by_cases ht:t∈R;{have:t∈R/\t ∉ gone:=⟨ht,yE⟩;simpa only [L1,this,lG,and_self,lq] using hp};{have:¬ (t∈R/\t ∉ gone):=fun h=>ht h.1;simp only[L1,this,lm] at hp;rw[mC t (hnB t ht p hp)];exact hp}
 have htm:Ai w2 I' lp (some (BQ L L' B)) (AM f1 V.tmps) mN:=Ai.subst (fun _ h=>h) zad ((Ai.mono x6 hIk (fun _ _ h=>h) hs.tm).ge hge1) fun _ _=>trivial;have tM:Ai w2 I' lp (some (BQ L L' B)) (AM f1 V.mj) ml:=Ai.subst (fun _ h=>h) zad ((Ai.mono x6 hIk (fun _ _ h=>h) hs.kp).ge hge1) fun _ _=>trivial;generalize hups:(R.zipIdx.map fun p=>(p.1,(((Ac mM.mi (aN p.2)).getD AP).sub (Dn B)).mz (Di B)))=nh;have s6:∀ t o,(t,o)∈nh↔∃ j:Nat,R[j]?=some t/\o=(((Ac mM.mi (aN j)).getD AP).sub (Dn B)).mz (Di B):=by intro t o;rw[<-hups,ii];constructor;{rintro ⟨⟨a,j⟩,U,H⟩;cases H;exact⟨j,iY.1 U,rfl⟩};{rintro ⟨j,U,rfl⟩;exact⟨(t,j),iY.2 U,rfl⟩}
 have zae:∀ f g,(AP.sub f).mz g=AP:=fun f g=>rfl
 have oN:∀ s t,(s,t)∈B->∃ p,BQ L L' B t=some p/\Ba w2 I' lp (BQ L L' B) ((((Ac mM.mi s).getD AP).sub (Dn B)).mz (Di B)) p:=by
  intro s t nK;refine⟨_,su s t nK,?_⟩;cases hl:Ac mM.mi s with
  | none =>
   rw[pJ.pR s hl];simp only[Option.getD_none,zae];exact⟨0,0,rfl⟩
  | some ob =>
   obtain⟨p,hp,ha⟩:=pJ.ob s ob hl;rw[hp];simp only[iT];exact aG hB hU (ha.mono (fun _ h=>h) (fun _ _=>rfl) rJ fun _ _ _=>rfl)
 have zaf:∀ t,Ac (V.mi.map (·.map (Ob.sub f1))) t=(Ac V.mi t).map (Ob.sub f1):=fun t=>Ee _ _ t;have rY:∀ p∈nh,∃ o,Ac (V.mi.map (·.map (Ob.sub f1))) p.1=some o:=by rintro ⟨t,o⟩ hp;obtain⟨j,hj,_⟩:=(s6 t o).1 hp;obtain⟨p,hL⟩:=uW j t hj;obtain⟨ob,oI,_⟩:=hs.p7 hL;exact⟨_,by rw[zaf,oI];rfl⟩
 have hlu:∀ t,((∃ j:Nat,R[j]?=some t)->∃ s,(s,t)∈B/\Ac (Bp nh (V.mi.map (·.map (Ob.sub f1)))) t=some ((((Ac mM.mi s).getD AP).sub (Dn B)).mz (Di B))) /\
   ((∀ j:Nat,R[j]?≠some t)->Ac (Bp nh (V.mi.map (·.map (Ob.sub f1)))) t=(Ac V.mi t).map (Ob.sub f1)):=by
  intro t;obtain⟨U,H⟩:=OI nh (V.mi.map (·.map (Ob.sub f1))) t rY;refine⟨?_,fun sU=>?_⟩;{rintro ⟨j,hj⟩;refine⟨aN j,(sZ _ _).2 (.inl ⟨j,hj,rfl⟩),U _ (fun o' sf=>?_) ((s6 _ _).2 ⟨j,hj,rfl⟩)⟩;obtain⟨j',hj',rfl⟩:=(s6 _ _).1 sf;rw[rP j j' t hj hj']};{rw[H fun o ho=>by obtain⟨j,hj,_⟩:=(s6 _ _).1 ho;exact sU j hj,zaf]}
 have qB:∀ t ob,(∀ s,(s,t) ∉ B)->Ac V.mi t=some ob->∃ p,BQ L L' B t=some p/\Ba w2 I' lp (BQ L L' B) (ob.sub f1) p:=by
  intro t ob O hl;obtain⟨p,hp,ha⟩:=hs.ob t ob hl;refine⟨p,by rw[mC t O];exact hp,?_⟩;have ha2:Ba w2 I' lp L ob p:=ha.mono x6 hIk (fun _ _ h=>h) fun b C hpb=>by subst hpb;refine x5 b (hf.lB t b C hp).2.1 fun J C' hm hn=>?_;have:=hf.inj t J b C C' hp hn;subst this;obtain⟨j,hj,nM⟩:=kD hm;exact O (aN j) ((sZ _ _).2 (.inl ⟨j,by rw[iG hj,nM],rfl⟩))
  exact Ba.subst (ha2.ge hge1) (fun _ h=>h) (fun _ _=>rfl) zad (fun _ _=>trivial) fun _ _ _=>rfl
 have uX:∀ (l:List (Nm×Ob)) (mi:List lY) (d:Nat),(Bp l mi).length=mi.length/\∀ x,mi[d]?=some x->∃ y,(Bp l mi)[d]?=some y/\y.length=x.length:=by
  intro l;induction l with
  | nil=>intro mi d;exact⟨rfl,fun x h=>⟨x,h,rfl⟩⟩
  | cons p l ih =>
   obtain⟨J,o⟩:=p;intro mi d;obtain⟨q1,q2⟩:=ih (AR mi J o) d;have hp:(AR mi J o).length=mi.length:=by unfold AR;split<;>simp
   refine⟨q1.trans hp,fun x O=>?_⟩;have:∃ y,(AR mi J o)[d]?=some y/\y.length=x.length:=by unfold AR;split;{rename_i l' si;by_cases pj:J.1=d;{subst pj;rw[O] at si;cases si;exact⟨_,jo (ix.1 O).1,by simp⟩};{exact⟨x,by rw[iI pj];exact O,rfl⟩}};{exact⟨x,O,rfl⟩}
   obtain⟨y,U,H⟩:=this;obtain⟨z,h3,h4⟩:=q2 y U;exact⟨z,h3,h4.trans H⟩
 generalize hXd:Bp nh (V.mi.map (·.map (Ob.sub f1)))=X at hlu;have hX1:X.length=V.mi.length:=by rw[<-hXd,(uX nh _ 0).1,iW]
 have hX2:∀ (d:Nat) (l:lY),V.mi[d]?=some l->∃ l',X[d]?=some l'/\l'.length=l.length:=by intro d l h;obtain⟨y,U,H⟩:=(uX nh (V.mi.map (·.map (Ob.sub f1))) d).2 (l.map (Ob.sub f1)) (by rw[iC,h];rfl);exact⟨y,by rw[<-hXd];exact U,by rw[H,iW]⟩
 generalize uY:(N.map fun m=>(((Ac mM.mi m).getD AP).sub (Dn B)).mz (Di B))=news;have hnn:news.length=N.length:=by rw[<-uY,iW]
 have sO:∀ (X:List lY) (d:Nat),X.set d (X.getD d []++[])=X:=by intro X d;rw[j6];apply jc;intro i;by_cases hi:i=d;{subst hi;by_cases mL:i < X.length;{rw[jo mL,ip,iG mL];rfl};{rw[iR.2 (by simpa using mL),iR.2 (by simpa using mL)]}};{rw[iI (iN hi)]}
 have nK:apply V dst {v:=(v0.sub (Dn B)).mz (Di B),new:=news,nh:=nh,gone:=gone,io:=true,slot:=sl} =
   {tmps:=putP (AM f1 V.tmps) dst ((v0.sub (Dn B)).mz (Di B)),mi:=X.set d0 (X.getD d0 []++news),mj:=AM f1 V.mj}:=by
  have e1:(if gone.isEmpty=true then V else CF f1 V)={tmps:=AM f1 V.tmps,mi:=V.mi.map (·.map (Ob.sub f1)),mj:=AM f1 V.mj}:=by
   split
   ·rename_i hg;have yE:f1=fun _=>none:=by funext m;simp only[f1];rw[iS.1 hg];rfl
    rw[yE,nV,nV];have:(fun l:lY=>l.map (Ob.sub fun _=>none))=id:=by funext l;rw[show (Ob.sub fun _=>none)=id from funext Ob.oG,List.map_id];rfl
    rw[this,List.map_id]
   {rfl}
  have e2:∀ s:St,(if nh.isEmpty=true then s else {s with mi:=Bp nh s.mi})={s with mi:=Bp nh s.mi}:=by intro s;split;{rename_i hu;rw[iS.1 hu];rfl};{rfl}
  unfold apply;simp only[jV,lq];rw[e1,e2];simp only[hXd];cases sl with
  | some r =>
   have:=sn r rfl;subst this;cases dst with
   | none=>rfl
   | some d=>rfl
  | none =>
   cases ur:dst with
   | none =>
    have hN:=nP rfl ur;have:news=[]:=by rw[<-uY,hN];rfl
    rw[this,sO];rfl
   | some d =>
    obtain⟨oi,h0⟩:=hd d ur;have h0:=h0 rfl;subst h0;simp only[kX,j9];obtain⟨l',U,H⟩:=hX2 d [] oi;have h3:l'=[]:=kN.1 H;subst h3;cases hn0:news with
    | nil=>simp only[jV,lq,sO];rfl
    | cons n ns =>
     have:X.getD d []=[]:=by rw[ip,U];rfl
     simp only[List.isEmpty_cons,iq,lm,this,jz];rfl
 have key1:∀ (i:Nat) s,N[i]?=some s->Ac (X.set d0 (X.getD d0 []++news)) (d0,i0+i)=some ((((Ac mM.mi s).getD AP).sub (Dn B)).mz (Di B)):=by
  intro i s hi;obtain⟨l,U,H⟩:=hlen fun h=>by rw[h] at hi;simp at hi
  obtain⟨l',h3,h4⟩:=hX2 d0 l U;have mL:d0 < X.length:=(ix.1 h3).1;rw[Fc _ mL,ip,h3];simp only[iT];rw[js (by omega),show i0+i - l'.length=i by omega,<-uY,iC,hi];rfl
 have key2:∀ t:Nm,(∀ (i:Nat) s,N[i]?=some s->t≠(d0,i0+i))->Ac (X.set d0 (X.getD d0 []++news)) t=Ac X t:=by
  intro t ht;by_cases U:t.1=d0
  ·obtain⟨a,j⟩:=t;simp only at U;subst U;by_cases hN:N=[]
   ·have:news=[]:=by rw[<-uY,hN];rfl
    rw[this,sO]
   ·obtain⟨l,g1,g2⟩:=hlen hN;obtain⟨l',h3,h4⟩:=hX2 a l g1;have mL:a < X.length:=(ix.1 h3).1;rw[Fc _ mL,ip,h3];simp only[iT];have hX:Ac X (a,j)=l'[j]?:=by unfold Ac;rw[h3]
    rw[hX];by_cases hj:j < l'.length;{rw[jd hj]}
    ·rw[js (by omega),iR.2 (by omega:l'.length<=j)];refine iR.2 ?_;apply kb;intro pM;have hlt3:j - l'.length < N.length:=by omega
     exact ht (j - l'.length) _ (iG hlt3) (by rw[show i0+(j - l'.length)=j by omega])
  {rw[EA _ U]}
 rw[nK];have hnotB:∀ t:Nm,(∀ (i:Nat) s,N[i]?=some s->t≠(d0,i0+i))->(¬ ∃ j:Nat,R[j]?=some t)->∀ s,(s,t) ∉ B:=by intro t ht hj s h;rcases (sZ s t).1 h with ⟨j,U,_⟩ | ⟨i,U,H⟩;{exact hj ⟨j,U⟩};{exact ht i s U H}
 have htmf:Ai w2 I' lp (some (BQ L L' B)) (putP (AM f1 V.tmps) dst ((v0.sub (Dn B)).mz (Di B))) (F5 mN dst v):=by
  cases dst with
  | none=>exact htm
  | some d=>exact htm.set d (zaa hB hU (Am.mono (fun _ h=>h) (fun _ _=>rfl) rJ hv))
 refine⟨htmf,tM,fun t ob hl=>?_,fun t hl=>?_⟩;{simp only at hl;by_cases ht:∃ (i:Nat) (s:Nm),N[i]?=some s/\t=(d0,i0+i);{obtain⟨i,s,U,rfl⟩:=ht;rw[key1 i s U] at hl;cases hl;exact oN s _ ((sZ _ _).2 (.inr ⟨i,U,rfl⟩))};{have uV:∀ (i:Nat) s,N[i]?=some s->t≠(d0,i0+i):=fun i s U H=>ht ⟨i,s,U,H⟩;rw[key2 t uV] at hl;by_cases hj:∃ j:Nat,R[j]?=some t;{obtain⟨s,U,H⟩:=(hlu t).1 hj;rw[H] at hl;cases hl;exact oN s t U};{rw[(hlu t).2 fun j h=>hj ⟨j,h⟩] at hl;obtain⟨oZ,h0,rfl⟩:=ij.1 hl;exact qB t oZ (hnotB t uV hj) h0}}};{simp only at hl;by_cases ht:∃ (i:Nat) (s:Nm),N[i]?=some s/\t=(d0,i0+i);{obtain⟨i,s,U,rfl⟩:=ht;rw[key1 i s U] at hl;cases hl};{have uV:∀ (i:Nat) s,N[i]?=some s->t≠(d0,i0+i):=fun i s U H=>ht ⟨i,s,U,H⟩;rw[key2 t uV] at hl;by_cases hj:∃ j:Nat,R[j]?=some t;{obtain⟨s,U,H⟩:=(hlu t).1 hj;rw[H] at hl;cases hl};{rw[(hlu t).2 fun j h=>hj ⟨j,h⟩] at hl;rw[mC t (hnotB t uV hj)];exact hs.pR t (by simpa using hl)}}}
end done
theorem QZ {V:St} {v:PV} {out:Al} (h:Gj sl d0 i0 R V v=some out) :
  ∃ (N:lW) (B:List (Nm×Nm)),B=(R.zipIdx.map fun p=>((CO (V.mj.getD p.2 .undef)).getD (0,p.2),p.1))++N.zipIdx.map (fun p=>(p.1,(d0,i0+p.2)))/\C0 (B.map (·.1))=true /\
   out={v:=(v.sub (Dn B)).mz (Di B),new:=N.map fun m=>(((Ac V.mi m).getD AP).sub (Dn B)).mz (Di B),nh:=(R.zipIdx.map fun p=>(p.1,(((Ac V.mi ((CO (V.mj.getD p.2 .undef)).getD (0,p.2))).getD AP).sub (Dn B)).mz (Di B))),gone:=ID R V.mj,io:=true,slot:=sl}:=by
 unfold Gj at h;obtain⟨U,H⟩:=AQ h;refine⟨_,_,rfl,U,?_⟩;cases H;simp only[FI,iK];rfl
theorem Xi {d j:Nat} {o:Ob} (hj:Ac mi (d,j)=some o) (h:Hx (Ac mi) d=some i0):∃ l,mi[d]?=some l/\l.length=i0:=by
 unfold Hx at h;rw[List.find?_eq_some_iff_append] at h;obtain⟨U,as,bs,H,h3⟩:=h;cases hl:mi[d]? with
 | none=>unfold Ac at hj;simp only[hl] at hj;cases hj
 | some l =>
  have pT:∀ j,Ac mi (d,j)=l[j]?:=fun j=>by unfold Ac;simp only[hl]
  refine⟨l,rfl,?_⟩;have hle:l.length<=i0:=by rw[pT] at U;simpa using U
  have hlen:as.length=i0/\∀ k,k < as.length->as[k]?=some k:=by
   have hr:=H;have zx:(List.range 64)[as.length]?=some i0:=by rw[hr];simp
   obtain⟨q1,q2⟩:=ix.1 zx;simp at q2;refine⟨q2,fun k hk=>?_⟩;have:(List.range 64)[k]?=as[k]?:=by rw[hr,jd hk]
   rw[<-this];simp at q1;exact jG (by omega)
  rcases ka l.length i0 with mL | qx
  {have hm:=hlen.2 l.length (by omega);have:=h3 _ (iz hm);rw[pT] at this;simp at this};{omega}
end Go.Ab


namespace Go.Ab
variable{J:Nm} {mi:List lY} {p:Option (Nat×Nat)} {v0:PV} {σ:Nm->lV}
theorem Un:∀ (S:lW) (obs:lY),S.mapM σ=some obs->obs.length=S.length/\∀ (j:Nat) (J:Nm),S[j]?=some J->∃ ob,obs[j]?=some ob/\σ J=some ob:=by
 intro S;induction S with
 | nil=>intro obs h;simp at h;subst h;exact⟨rfl,fun j J h=>by simp at h⟩
 | cons x S ih =>
  intro obs h;rw[jv] at h;simp only[kr,jh,kE,il] at h;obtain⟨ob,ho,uA,hos,rfl⟩:=h;obtain⟨q1,q2⟩:=ih uA hos;refine⟨by simp[q1],fun j J hj=>?_⟩;cases j with
  | zero=>simp at hj;subst hj;exact⟨ob,rfl,ho⟩
  | succ j=>simp at hj;obtain⟨o,U,H⟩:=q2 j J hj;exact⟨o,by simpa using U,H⟩
section away
variable {w:lJ} {I:Nat->Prop} {lp pO:Nat->lT} {L L0:As} {dep:Nat} {R:lW}
mutual
theorem aw (rJ:Ib lp pO) (hL:∀ J p,J ∉ R->L J=some p->L0 J=some p) (hA:∀ J b C,J∈R->L J=some (some (b,C))->pO (dep+R.idxOf J)=some (2*b+1)) {x:PV} {v:lK} :
  Am w I lp (some L) x v->Am w I pO (some L0) (J0 dep R x) v
 | .undef v=>.undef v
 | .bool b=>.bool b
 | .int k n=>.int k n
 | .str s=>.str s
 | .mu=>.mu
 | .mJ=>.mJ
 | .nn=>.nn
 | .mB=>.mB
 | .ni=>.ni
 | .qR k full a cap hf=>.qR k full a cap hf
 | .sl k Z full b off cap c E fr U H h3 h4 h5 h6 h8 h7=>.sl k Z full b off cap c E fr U H h3 h4 h5 h6 h8 (Ai.mono (fun _ h=>h) (fun _ _=>rfl) rJ h7)
 | .ptr cs o b off c E fr U H h3 h4 h8 h5=>.ptr cs o b off c E fr U H h3 h4 h8 (Ai.mono (fun _ h=>h) (fun _ _=>rfl) rJ h5)
 | .agg cs A U h=>.agg _ A U (Kn rJ hL hA h)
 | .iface t x v h=>.iface t _ v (aw rJ hL hA h)
 | .fn f cs us A hk h=>.fn f _ us A hk (Kn rJ hL hA h)
 | .mF d l h=>.mF d l (rJ d l h)
 | .mn Z A h=>.mn _ A (Kn rJ hL hA h)
 | .nb es r nj clock U H h3=>.nb es r nj clock U H (Ai.mono (fun _ h=>h) (fun _ _=>rfl) rJ h3)
 | .mY g t x c E fr U H h3=>.mY g t x c E fr U H h3
 | .ref J o b C h=>by
  unfold J0;by_cases hm:J∈R;{rw[lu (by simpa using hm)];split;{rename_i ho;subst ho;rw[<-yS];exact .mF _ _ (hA J b C hm h)};{exact .undef _}};{rw[lr (by simpa using hm)];exact .ref J o b C (hL J _ hm h)}
 | .my J k i o b C h=>by
  unfold J0;by_cases hm:J∈R;{rw[lu (by simpa using hm)];exact .undef _};{rw[lr (by simpa using hm)];exact .my J k i o b C (hL J _ hm h)}
 | .arr J k o n cap b C h hC hn=>by
  unfold J0;by_cases hm:J∈R;{rw[lu (by simpa using hm)];exact .undef _};{rw[lr (by simpa using hm)];exact .arr J k o n cap b C (hL J _ hm h) hC hn}
 | .oz J k h=>by
  unfold J0;by_cases hm:J∈R;{rw[lu (by simpa using hm)];exact .undef _};{rw[lr (by simpa using hm)];exact .oz J k (hL J _ hm h)}
 | .mp J b C h=>by
  unfold J0;by_cases hm:J∈R;{rw[lu (by simpa using hm)];exact .undef _};{rw[lr (by simpa using hm)];exact .mp J b C (hL J _ hm h)}
 | .it J b C h=>by
  unfold J0;by_cases hm:J∈R;{rw[lu (by simpa using hm)];exact .undef _};{rw[lr (by simpa using hm)];exact .it J b C (hL J _ hm h)}
theorem Kn (rJ:Ib lp pO) (hL:∀ J p,J ∉ R->L J=some p->L0 J=some p) (hA:∀ J b C,J∈R->L J=some (some (b,C))->pO (dep+R.idxOf J)=some (2*b+1)) {Z:lS} {A:List lK} :
  Ai w I lp (some L) Z A->Ai w I pO (some L0) (J1 dep R Z) A
 | .nil=>.nil
 | .cons x v Z A h hs=>.cons _ v _ A (aw rJ hL hA h) (Kn rJ hL hA hs)
end
theorem away_ob (rJ:Ib lp pO) (hL:∀ J p,J ∉ R->L J=some p->L0 J=some p) (hA:∀ J b C,J∈R->L J=some (some (b,C))->pO (dep+R.idxOf J)=some (2*b+1)) {ob:Ob} 
  (h:Ba w I lp L ob p):Ba w I pO L0 (Wh dep R ob) p:=by
 have hm:∀ {Z:lS} {A:List lK},Ai w I lp none Z A->Ai w I pO none Z A:=fun h=>Ai.mono (fun _ h=>h) (fun _ _=>rfl) rJ h;cases p with
 | none=>obtain⟨k,kt,rfl⟩:=h;exact⟨k,kt,rfl⟩
 | some p =>
  cases ob with
  | cells ty cs =>
   obtain⟨c,E,U,H,h4,h3⟩:=h;exact⟨c,E,U,H,h4,Kn rJ hL hA h3⟩
  | arr k kt Z=>obtain⟨c,E,U,H,h3,h4,h6,h5⟩:=h;exact⟨c,E,U,H,h3,h4,h6,hm h5⟩
  | map es=>obtain⟨c,E,U,H⟩:=h;exact⟨c,E,U,Kn rJ hL hA H⟩
  | mD s pos=>exact h
variable {Lf:As}
mutual
theorem au (hY:∀ d l,pO d=some l->(¬ (dep<=d/\d < dep+R.length)->lp d=some l)/\(dep<=d/\d < dep+R.length->∃ b C,l=2*b+1/\Lf (R.getD (d - dep) (0,0))=some (some (b,C))))
  (hL:∀ J p,J ∉ R->L J=some p->Lf J=some p) {x:PV} {v:lK}:Am w I pO (some L) x v->Am w I lp (some Lf) (Gm dep R x) v
 | .undef v=>.undef v
 | .bool b=>.bool b
 | .int k n=>.int k n
 | .str s=>.str s
 | .mu=>.mu
 | .mJ=>.mJ
 | .nn=>.nn
 | .mB=>.mB
 | .ni=>.ni
 | .qR k full a cap hf=>by
  unfold Gm;split;{exact .undef _};{exact .qR k full a cap hf}
 | .sl k Z full b off cap c E fr U H h3 h4 h5 h6 h8 h7=>by
  unfold Gm;split;{exact .undef _};{rename_i hy;exact .sl k Z full b off cap c E fr U H h3 h4 h5 h6 h8 (Ai.rz h7 (OJ (w:=w) (I:=I) (lp:=pO) (pH:=lp) Z (by simpa using hy)))}
 | .ptr cs o b off c E fr U H h3 h4 h8 h5=>by
  unfold Gm;split;{exact .undef _};{rename_i hy;exact .ptr cs o b off c E fr U H h3 h4 h8 (h5.rz (by simpa using hy))}
 | .agg cs A U h=>.agg _ A U (Km hY hL h)
 | .iface t x v h=>.iface t _ v (au hY hL h)
 | .fn f cs us A hk h=>.fn f _ us A hk (Km hY hL h)
 | .mF d l h=>by
  unfold Gm;obtain⟨U,H⟩:=hY d l h;split;{rename_i hd;obtain⟨b,C,rfl,hl⟩:=H hd;rw[yS];exact .ref _ 0 b C hl};{rename_i hd;exact .mF d l (U hd)}
 | .mn Z A h=>.mn _ A (Km hY hL h)
 | .nb es r nj clock U H h3=>by
  unfold Gm;split;{exact .undef _};{rename_i hy;exact .nb es r nj clock U H (h3.rz (by simpa using hy))}
 | .mY g t x c E fr U H h3=>.mY g t x c E fr U H h3
 | .ref J o b C h=>by
  unfold Gm;by_cases hm:J∈R;{rw[lu (by simpa using hm)];exact .undef _};{rw[lr (by simpa using hm)];exact .ref J o b C (hL J _ hm h)}
 | .my J k i o b C h=>by
  unfold Gm;by_cases hm:J∈R;{rw[lu (by simpa using hm)];exact .undef _};{rw[lr (by simpa using hm)];exact .my J k i o b C (hL J _ hm h)}
 | .arr J k o n cap b C h hC hn=>by
  unfold Gm;by_cases hm:J∈R;{rw[lu (by simpa using hm)];exact .undef _};{rw[lr (by simpa using hm)];exact .arr J k o n cap b C (hL J _ hm h) hC hn}
 | .oz J k h=>by
  unfold Gm;by_cases hm:J∈R;{rw[lu (by simpa using hm)];exact .undef _};{rw[lr (by simpa using hm)];exact .oz J k (hL J _ hm h)}
 | .mp J b C h=>by
  unfold Gm;by_cases hm:J∈R;{rw[lu (by simpa using hm)];exact .undef _};{rw[lr (by simpa using hm)];exact .mp J b C (hL J _ hm h)}
 | .it J b C h=>by
  unfold Gm;by_cases hm:J∈R;{rw[lu (by simpa using hm)];exact .undef _};{rw[lr (by simpa using hm)];exact .it J b C (hL J _ hm h)}
theorem Km (hY:∀ d l,pO d=some l->(¬ (dep<=d/\d < dep+R.length)->lp d=some l)/\(dep<=d/\d < dep+R.length->∃ b C,l=2*b+1/\Lf (R.getD (d - dep) (0,0))=some (some (b,C))))
  (hL:∀ J p,J ∉ R->L J=some p->Lf J=some p) {Z:lS} {A:List lK}:Ai w I pO (some L) Z A->Ai w I lp (some Lf) (JZ dep R Z) A
 | .nil=>.nil
 | .cons x v Z A h hs=>.cons _ v _ A (au hY hL h) (Km hY hL hs)
end
theorem back_ob (hY:∀ d l,pO d=some l->(¬ (dep<=d/\d < dep+R.length)->lp d=some l)/\(dep<=d/\d < dep+R.length->∃ b C,l=2*b+1/\Lf (R.getD (d - dep) (0,0))=some (some (b,C))))
  (hL:∀ J p,J ∉ R->L J=some p->Lf J=some p) {ob:Ob} (hy:(match ob with | .cells _ _=>true | .map _=>true | ob=>!ob.mV)=true) (h:Ba w I pO L ob p):Ba w I lp Lf (SQ dep R ob) p:=by
 cases p with
 | none=>obtain⟨k,kt,rfl⟩:=h;exact⟨k,kt,rfl⟩
 | some p =>
  cases ob with
  | cells ty cs =>
   obtain⟨c,E,U,H,h4,h3⟩:=h;exact⟨c,E,U,H,h4,Km hY hL h3⟩
  | arr k kt Z =>
   obtain⟨c,E,U,H,h3,h4,h6,h5⟩:=h;exact⟨c,E,U,H,h3,h4,h6,h5.rz (OJ (w:=w) (I:=I) (lp:=pO) (pH:=lp) Z (by simpa[Ob.mV] using hy))⟩
  | map es=>obtain⟨c,E,U,H⟩:=h;exact⟨c,E,U,Km hY hL H⟩
  | mD s pos=>exact h
end away
section V
variable {w:lJ} {I:Nat->Prop} {lp pO:Nat->lT} {L:As} {dep:Nat} {R:lW} {V:St} {mN ml:List lK}
open Classical in
noncomputable def Iu (R:lW) (L:As):As:=fun J=>if J∈R then some none else L J
theorem XA {R:lW} {L:As} (h:J∈R):Iu R L J=some none:=by unfold Iu;rw[lu h]
theorem TK {R:lW} {L:As} (h:J ∉ R):Iu R L J=L J:=by unfold Iu;rw[lr h]
theorem vX (hs:SR lp I L V mN ml w) (hR:∀ J∈R,∃ ob,Ac V.mi J=some ob) (rJ:Ib lp pO) (hA:∀ J b C,J∈R->L J=some (some (b,C))->pO (dep+R.idxOf J)=some (2*b+1)) :
  SR pO I (Iu R L) (P2 dep R V) mN ml w:=by
 have hL:∀ J p,J ∉ R->L J=some p->Iu R L J=some p:=fun J p U H=>by rw[TK U];exact H
 have nq:∀ J,Ac (P2 dep R V).mi J=(Ac (Bp (R.map fun J=>(J,AP)) V.mi) J).map (Wh dep R):=fun J=>Ee _ _ J;have rY:∀ p∈R.map (fun J=>(J,AP)),∃ o,Ac V.mi p.1=some o:=by intro p hp;obtain⟨J,hn,rfl⟩:=ii.1 hp;exact hR J hn
 refine⟨Kn rJ hL hA hs.tm,Kn rJ hL hA hs.kp,fun J ob hl=>?_,fun J hl=>?_⟩;{rw[nq] at hl;obtain⟨U,H⟩:=OI (R.map fun J=>(J,AP)) V.mi J rY;by_cases hm:J∈R;{rw[U AP (fun o' sf=>by obtain⟨m,_,he⟩:=ii.1 sf;cases he;rfl) (ii.2 ⟨J,hm,rfl⟩)] at hl;cases hl;exact⟨none,XA hm,0,0,rfl⟩};{rw[H fun o ho=>by obtain⟨m,hm2,he⟩:=ii.1 ho;cases he;exact hm hm2] at hl;obtain⟨oZ,h3,rfl⟩:=ij.1 hl;obtain⟨p,hp,ha⟩:=hs.ob J oZ h3;exact⟨p,hL J p hm hp,away_ob rJ hL hA ha⟩}};{rw[nq] at hl;obtain⟨U,H⟩:=OI (R.map fun J=>(J,AP)) V.mi J rY;by_cases hm:J∈R;{rw[U AP (fun o' sf=>by obtain⟨m,_,he⟩:=ii.1 sf;cases he;rfl) (ii.2 ⟨J,hm,rfl⟩)] at hl;cases hl};{rw[H fun o ho=>by obtain⟨m,hm2,he⟩:=ii.1 ho;cases he;exact hm hm2] at hl;rw[TK hm];exact hs.pR J (by simpa using hl)}}
theorem hZ {R N:lW} {d0 i0:Nat} {fo:Nat->Ob} {gn:Nm->Ob} {v0:PV} (V:St) (rP:∀ (i j:Nat) J,R[i]?=some J->R[j]?=some J->i=j) (hR:∀ J∈R,∃ ob,Ac V.mi J=some ob)
  (hlen:∃ l,V.mi[d0]?=some l/\l.length=i0) :
  let st':=apply V none {v:=v0,new:=N.map gn,nh:=R.zipIdx.map fun p=>(p.1,fo p.2),gone:=[],io:=true,slot:=some d0}
  st'.tmps=V.tmps/\st'.mj=V.mj/\(∀ (j:Nat) t,R[j]?=some t->Ac st'.mi t=some (fo j))/\(∀ (i:Nat) s,N[i]?=some s->Ac st'.mi (d0,i0+i)=some (gn s)) /\
   ∀ t,(∀ j:Nat,R[j]?≠some t)->(∀ (i:Nat) s,N[i]?=some s->t≠(d0,i0+i))->Ac st'.mi t=Ac V.mi t:=by
 intro st';obtain⟨nh,hups⟩:∃ nh,(R.zipIdx.map fun p=>(p.1,fo p.2))=nh:=⟨_,rfl⟩;have s6:∀ t o,(t,o)∈nh↔∃ j:Nat,R[j]?=some t/\o=fo j:=by intro t o;rw[<-hups,ii];constructor;{rintro ⟨⟨a,j⟩,U,H⟩;cases H;exact⟨j,iY.1 U,rfl⟩};{rintro ⟨j,U,rfl⟩;exact⟨(t,j),iY.2 U,rfl⟩}
 have nK:st'={V with mi:=(Bp nh V.mi).set d0 ((Bp nh V.mi).getD d0 []++N.map gn)}:=by
  show apply V none {v:=v0,new:=N.map gn,nh:=R.zipIdx.map fun p=>(p.1,fo p.2),gone:=[],io:=true,slot:=some d0}=_;rw[hups];unfold apply;simp only[jV,lq];cases hu:nh with
  | nil=>rfl
  | cons u us=>rfl
 have rY:∀ p∈nh,∃ o,Ac V.mi p.1=some o:=by rintro ⟨t,o⟩ hp;obtain⟨j,hj,_⟩:=(s6 t o).1 hp;exact hR t (iz hj)
 have uX:∀ (l:List (Nm×Ob)) (mi:List lY) (d:Nat),∀ x,mi[d]?=some x->∃ y,(Bp l mi)[d]?=some y/\y.length=x.length:=by
  intro l;induction l with
  | nil=>intro mi d x h;exact⟨x,h,rfl⟩
  | cons p l ih =>
   obtain⟨J,o⟩:=p;intro mi d x O;have:∃ y,(AR mi J o)[d]?=some y/\y.length=x.length:=by unfold AR;split;{rename_i l' si;by_cases pj:J.1=d;{subst pj;rw[O] at si;cases si;exact⟨_,jo (ix.1 O).1,by simp⟩};{exact⟨x,by rw[iI pj];exact O,rfl⟩}};{exact⟨x,O,rfl⟩}
   obtain⟨y,U,H⟩:=this;obtain⟨z,h3,h4⟩:=ih (AR mi J o) d y U;exact⟨z,h3,h4.trans H⟩
 obtain⟨l,g1,g2⟩:=hlen;obtain⟨l',h3,h4⟩:=uX nh V.mi d0 l g1;have mL:d0 < (Bp nh V.mi).length:=(ix.1 h3).1;have se:(Bp nh V.mi).getD d0 []=l':=by rw[ip,h3];rfl
 have key1:∀ (i:Nat) s,N[i]?=some s->Ac st'.mi (d0,i0+i)=some (gn s):=by intro i s hi;rw[nK];show Ac (List.set _ _ _) _=_;rw[Fc _ mL,se,js (by omega),show i0+i - l'.length=i by omega,iC,hi];rfl
 have key2:∀ t:Nm,(∀ (i:Nat) s,N[i]?=some s->t≠(d0,i0+i))->Ac st'.mi t=Ac (Bp nh V.mi) t:=by
  intro t ht;rw[nK];show Ac (List.set _ _ _) _=_;by_cases U:t.1=d0
  ·obtain⟨a,j⟩:=t;simp only at U;subst U;rw[Fc _ mL,se];have hX:Ac (Bp nh V.mi) (a,j)=l'[j]?:=by unfold Ac;rw[h3]
   rw[hX];by_cases hj:j < l'.length;{rw[jd hj]}
   ·rw[js (by omega),iR.2 (by omega:l'.length<=j)];refine iR.2 ?_;rw[iW];apply kb;intro pM;have hlt3:j - l'.length < N.length:=by omega
    exact ht (j - l'.length) _ (iG hlt3) (by rw[show i0+(j - l'.length)=j by omega])
  {rw[EA _ U]}
 have hnoN:∀ (j:Nat) t,R[j]?=some t->∀ (i:Nat) s,N[i]?=some s->t≠(d0,i0+i):=by rintro j t hj i s hi rfl;obtain⟨ob,ho⟩:=hR _ (iz hj);unfold Ac at ho;rw[g1] at ho;have:=(ix.1 ho).1;simp only at this;omega
 refine⟨by rw[nK],by rw[nK],fun j t hj=>?_,key1,fun t U H=>?_⟩;{rw[key2 t (hnoN j t hj)];exact (OI nh V.mi t rY).1 (fo j) (fun o' sf=>by obtain⟨j',hj',rfl⟩:=(s6 _ _).1 sf;rw[rP j j' t hj hj']) ((s6 _ _).2 ⟨j,hj,rfl⟩)};{rw[key2 t H];exact (OI nh V.mi t rY).2 fun o ho=>by obtain⟨j,hj,_⟩:=(s6 _ _).1 ho;exact U j hj}
end V
section back
variable {E:Type} {cx:Cx} {w0:lJ} {I0 F0:Nat->Prop} {O0:BE} {Hd:Nat->Option Obj} {RE:Bs E} {e:E} {ds:List lQ} {F:Nat->Prop}
variable {w:lJ} {I:Nat->Prop} {lp pO tN:Nat->lT} {Ls L':As} {dep:Nat} {R N:lW} {s qi:St} {mN ml tmE wv:List lK} {aN:Nat->Nm} {B:List (Nm×Nm)} {d0 i0:Nat}
theorem Kx (vW:B=(R.zipIdx.map fun p=>(aN p.2,p.1))++N.zipIdx.map fun p=>(p.1,(d0,i0+p.2))) (x t:Nm):(x,t)∈B↔(∃ j:Nat,R[j]?=some t/\x=aN j)\/(∃ i:Nat,N[i]?=some x/\t=(d0,i0+i)):=by rw[vW,iH,ii,ii];constructor;{rintro (⟨⟨a,j⟩,U,H⟩ | ⟨⟨a,i⟩,U,H⟩);{cases H;exact .inl ⟨j,(iY.1 U),rfl⟩};{cases H;exact .inr ⟨i,(iY.1 U),rfl⟩}};{rintro (⟨j,U,rfl⟩ | ⟨i,U,rfl⟩);{exact .inl ⟨(t,j),iY.2 U,rfl⟩};{exact .inr ⟨(x,i),iY.2 U,rfl⟩}}
theorem uniqB (vW:B=(R.zipIdx.map fun p=>(aN p.2,p.1))++N.zipIdx.map fun p=>(p.1,(d0,i0+p.2))) (rP:∀ (i j:Nat) J,R[i]?=some J->R[j]?=some J->i=j)
  (uW:∀ t∈R,∃ p,Ls t=some p) (oo:∀ i:Nat,(∃ x,N[i]?=some x)->Ls (d0,i0+i)=none):∀ x x' t,(x,t)∈B->(x',t)∈B->x=x':=by
 intro x x' t h h';rcases (Kx vW x t).1 h with ⟨j,U,rfl⟩ | ⟨i,U,rfl⟩<;>rcases (Kx vW x' _).1 h' with ⟨j',H,rfl⟩ | ⟨i',H,h3⟩;{rw[rP j j' t U H]}
 {obtain⟨p,hp⟩:=uW t (iz U);rw[h3,oo i' ⟨_,H⟩] at hp;cases hp};{obtain⟨p,hp⟩:=uW _ (iz H);rw[oo i ⟨_,U⟩] at hp;cases hp}
 ·have h4:i0+i=i0+i':=lD Prod.snd h3;have:i=i':=by omega
  subst this;exact ic (U.symm.trans H)
def GR (qi:St) (B:List (Nm×Nm)) (m:Nm):Ob:=(((Ac qi.mi m).getD AP).sub (Dn B)).mz (Di B)
theorem zag {ob:Ob} (h:Ac mi J=some ob):∃ l∈mi,ob∈l:=by unfold Ac at h;split at h;{rename_i l hl;exact⟨l,iz hl,iz h⟩};{cases h}
theorem ZP (J:Nm) (σ:List lY) (n:Nm):(∀ ob,Ac σ n=some ob->Ac (Ms J σ) n=some ob)/\(∀ ob,Ac (Ms J σ) n=some ob->Ac σ n=some ob\/(Ac σ n=none/\ob=AP)):=by
 unfold Ms;cases hs:σ[J.1]? with
 | none=>exact⟨fun _ h=>h,fun _ h=>.inl h⟩
 | some l =>
  have mL:=(ix.1 hs).1;by_cases he:J.1=n.1
  ·have H:(σ.set J.1 (l++List.replicate (J.2+1 - l.length) AP))[n.1]?=some (l++List.replicate (J.2+1 - l.length) AP):=by rw[<-he];simp[mL]
   have U:Ac σ n=l[n.2]?:=by unfold Ac;rw[<-he,hs]
   have h3:Ac (σ.set J.1 (l++List.replicate (J.2+1 - l.length) AP)) n=(l++List.replicate (J.2+1 - l.length) AP)[n.2]?:=by unfold Ac;rw[H]
   simp only[U,h3];refine⟨fun ob h=>?_,fun ob h=>?_⟩;{rw[jd (ix.1 h).1];exact h}
   ·by_cases hl:n.2 < l.length
    {rw[jd hl] at h;exact .inl h};{refine .inr ⟨iR.2 (by omega),?_⟩;rw[js (by omega)] at h;exact kF (iz h)}
  ·have h3:Ac (σ.set J.1 (l++List.replicate (J.2+1 - l.length) AP)) n=Ac σ n:=by unfold Ac;rw[iI he]
   rw[h3];exact⟨fun _ h=>h,fun _ h=>.inl h⟩
theorem pad_ok {L:As} {V:St} (hs:SR lp I L V mN ml w) (J:Nm):∃ L',SR lp I L' {V with mi:=Ms J V.mi} mN ml w/\∀ n b C,L' n=some (some (b,C))↔L n=some (some (b,C)):=by
 let L':As:=fun n=>if Ac V.mi n=none/\(Ac (Ms J V.mi) n).isSome=true then some none else L n
 have hle:MD L L':=by
  intro n p hp;have:¬ (Ac V.mi n=none/\(Ac (Ms J V.mi) n).isSome=true):=fun h=>by rw[hs.pR n h.1] at hp;cases hp
  simp only[L',lr this,hp]
 refine⟨L',⟨hs.tm.oc hle,hs.kp.oc hle,fun n ob ho=>?_,fun n hn=>?_⟩,fun n b C=>⟨fun h=>?_,fun h=>hle _ _ h⟩⟩
 ·rcases (ZP J V.mi n).2 ob ho with h | ⟨h,rfl⟩
  {obtain⟨p,hp,ha⟩:=hs.ob n ob h;exact⟨p,hle _ _ hp,ha.oc hle⟩};{exact⟨none,by simp only[L'];rw[lu ⟨h,by rw[ho];rfl⟩],0,0,rfl⟩}
 ·have U:Ac V.mi n=none:=by
   cases h:Ac V.mi n with
   | none=>rfl
   | some ob=>have:=(ZP J V.mi n).1 ob h;rw[this] at hn;cases hn
  simp only[L'];rw[lr fun h=>by rw[hn] at h;exact lH h.2 (by simp)];exact hs.pR n U
 ·simp only[L'] at h;split at h;·cases h
  {exact h}
theorem vY {R:lW}:∀ {L:As} {V:St},SR lp I L V mN ml w->∃ L',SR lp I L' (PL R V) mN ml w/\∀ n b C,L' n=some (some (b,C))↔L n=some (some (b,C)):=by
 induction R with
 | nil=>intro L V h;exact⟨L,h,fun _ _ _=>Iff.rfl⟩
 | cons J R ih =>
  intro L V h;obtain⟨L1,U,e1⟩:=pad_ok h J;obtain⟨L2,H,e2⟩:=ih U;exact⟨L2,H,fun n b C=>(e2 n b C).trans (e1 n b C)⟩
theorem Zb {R:lW} {s:St} (h:RW R s=true):(∀ J∈R,∃ ob,Ac s.mi J=some ob)/\∀ J ob,Ac s.mi J=some ob->(match ob with | .cells _ _=>true | .map _=>true | ob=>!ob.mV)=true:=by unfold RW at h;rw[ie,iy,iy] at h;obtain⟨U,H⟩:=h;refine⟨fun J hn=>?_,fun J ob hl=>?_⟩;{have:=U J hn;unfold yO at this;split at this;{rename_i hq;exact⟨_,hq⟩};·cases this};{obtain⟨l,g1,g2⟩:=zag hl;exact iy.1 (H l g1) ob g2}
theorem back_sr (hs:SR pO I Ls s mN ml w) (hc:SR tN I L' qi tmE wv w)
  (hY:∀ d l,pO d=some l->(¬ (dep<=d/\d < dep+R.length)->lp d=some l)/\(dep<=d/\d < dep+R.length->∃ b C,l=2*b+1/\BQ Ls L' B (R.getD (d - dep) (0,0))=some (some (b,C))))
  (hmb:RW R s=true) (rP:∀ (i j:Nat) J,R[i]?=some J->R[j]?=some J->i=j) (hlen:∃ l,s.mi[d0]?=some l/\l.length=i0)
  (hB:C0 (B.map (·.1))=true) (vW:B=(R.zipIdx.map fun p=>(aN p.2,p.1))++N.zipIdx.map fun p=>(p.1,(d0,i0+p.2)))
  (hyN:∀ m∈N,(GR qi B m).mV=false) (hyR:∀ (j:Nat) t,R[j]?=some t->(GR qi B (aN j)).mV=false) :
  SR lp I (BQ Ls L' B) (apply (P1 dep R s) none {v:=v0,new:=N.map (GR qi B),nh:=R.zipIdx.map fun p=>(p.1,GR qi B (aN p.2)),gone:=[],io:=true,slot:=some d0}) mN ml w:=by
 obtain⟨hRs,hobY⟩:=Zb hmb;have oo:∀ i:Nat,(∃ x,N[i]?=some x)->Ls (d0,i0+i)=none:=by rintro i _;obtain⟨l,U,H⟩:=hlen;refine hs.pR _ ?_;unfold Ac;rw[U];exact iR.2 (by simp only;omega)
 have uW:∀ t∈R,∃ p,Ls t=some p:=fun t h=>by obtain⟨ob,ho⟩:=hRs t h;obtain⟨p,hp,_⟩:=hs.ob t ob ho;exact⟨p,hp⟩
 have hU:=uniqB vW rP uW oo;have su:∀ x t,(x,t)∈B->BQ Ls L' B t=some ((L' x).getD none):=fun x t h=>LZ hU h;have mC:∀ t,(∀ x,(x,t) ∉ B)->BQ Ls L' B t=Ls t:=fun t h=>Up h;have hnB:∀ t,t ∉ R->∀ p,Ls t=some p->∀ x,(x,t) ∉ B:=by intro t ht p hp x h;rcases (Kx vW x t).1 h with ⟨j,U,rfl⟩ | ⟨i,U,rfl⟩;{exact ht (iz U)};{rw[oo i ⟨_,U⟩] at hp;cases hp}
 have hL:∀ J p,J ∉ R->Ls J=some p->BQ Ls L' B J=some p:=fun J p U H=>by rw[mC J (hnB J U p H)];exact H
 have nq:∀ J,Ac (P1 dep R s).mi J=(Ac s.mi J).map (SQ dep R):=fun J=>Ee _ _ J
 obtain⟨a1,a2,a3,a4,a5⟩:=hZ (R:=R) (N:=N) (d0:=d0) (i0:=i0) (fo:=fun j=>GR qi B (aN j)) (gn:=GR qi B) (v0:=v0) (P1 dep R s) rP (fun J hn=>by obtain⟨ob,ho⟩:=hRs J hn;exact⟨_,by rw[nq,ho];rfl⟩)
  (by obtain⟨l,g1,g2⟩:=hlen;exact⟨l.map (SQ dep R),by show (s.mi.map _)[d0]?=_;rw[iC,g1];rfl,by rw[iW];exact g2⟩)
 have zae:∀ f g,(AP.sub f).mz g=AP:=fun f g=>rfl
 have oN:∀ x t,(x,t)∈B->(GR qi B x).mV=false->∃ p,BQ Ls L' B t=some p/\Ba w I lp (BQ Ls L' B) (GR qi B x) p:=by
  intro x t hxt hy;refine⟨_,su x t hxt,?_⟩;unfold GR at hy |-;cases hl:Ac qi.mi x with
  | none =>
   rw[hc.pR x hl];simp only[Option.getD_none,zae];exact⟨0,0,rfl⟩
  | some ob =>
   obtain⟨p,hp,ha⟩:=hc.ob x ob hl;rw[hl] at hy;rw[hp];simp only[iT] at hy |-;exact (aG hB hU ha).rz hy
 refine⟨by rw[a1];exact Km hY hL hs.tm,by rw[a2];exact Km hY hL hs.kp,fun t ob hl=>?_,fun t hl=>?_⟩
 ·by_cases ht:∃ (i:Nat) (x:Nm),N[i]?=some x/\t=(d0,i0+i)
  {obtain⟨i,x,U,rfl⟩:=ht;rw[a4 i x U] at hl;cases hl;exact oN x _ ((Kx vW _ _).2 (.inr ⟨i,U,rfl⟩)) (hyN x (iz U))}
  ·by_cases hj:∃ j:Nat,R[j]?=some t
   {obtain⟨j,hj⟩:=hj;rw[a3 j t hj] at hl;cases hl;exact oN _ t ((Kx vW _ _).2 (.inl ⟨j,hj,rfl⟩)) (hyR j t hj)}
   ·rw[a5 t (fun j h=>hj ⟨j,h⟩) (fun i x U H=>ht ⟨i,x,U,H⟩),nq] at hl;obtain⟨oZ,h0,rfl⟩:=ij.1 hl;obtain⟨p,hp,ha⟩:=hs.ob t oZ h0;have htR:t ∉ R:=fun hm=>by obtain⟨j,hj2,nM⟩:=kD hm;exact hj ⟨j,by rw[iG hj2,nM]⟩
    exact⟨p,hL t p htR hp,back_ob hY hL (hobY t oZ h0) ha⟩
 ·by_cases ht:∃ (i:Nat) (x:Nm),N[i]?=some x/\t=(d0,i0+i)
  {obtain⟨i,x,U,rfl⟩:=ht;rw[a4 i x U] at hl;cases hl}
  ·by_cases hj:∃ j:Nat,R[j]?=some t
   {obtain⟨j,hj⟩:=hj;rw[a3 j t hj] at hl;cases hl}
   ·rw[a5 t (fun j h=>hj ⟨j,h⟩) (fun i x U H=>ht ⟨i,x,U,H⟩),nq] at hl
    rw[mC t fun x h=>by
     rcases (Kx vW x t).1 h with ⟨j,U,_⟩ | ⟨i,U,H⟩;·exact hj ⟨j,U⟩
     ·exact ht ⟨i,x,U,H⟩]
    exact hs.pR t (by simpa using hl)
theorem WT {wa:lJ} {Ia:Nat->Prop} {L Lz:As}:∀ {qh new:lS} {A:List lK},Ai w I lp (some Lz) new A->Ai wa Ia lp (some L) qh A ->
  (∀ J∈R,∀ v,Am wa Ia lp (some L) (.arr J 1 0 0) v->Am w I lp (some Lz) (.arr J 1 0 0) v)->Ai w I lp (some Lz) (U6 R qh new) A
 | [],new,_,h,_,_=>h
 | _ :: _,[],_,h,_,_=>h
 | o :: os,n :: ns,_,.cons _ v _ A h hs,.cons _ _ _ _ h0 rT,hR=>by
  refine .cons _ _ _ _ ?_ (WT hs rT hR);unfold keep1;split;{split;{rename_i J hc;exact hR J (jl.1 hc) v h0};{exact h}};{exact h}
theorem back_fr (hf:Fr cx w0 I0 F0 O0 Hd RE e ds I F Ls w) (hU:∀ x x' t,(x,t)∈B->(x',t)∈B->x=x') (hB:C0 (B.map (·.1))=true)
  (x8:∀ J b C,L' J=some (some (b,C))->b < w.heap.size/\¬ I b/\¬ F b/\(w0.heap.size<=b\/O0 b)/\(∀ nr C',Ls nr≠some (some (b,C')))/\(∀ ob,Hd b≠some ob)/\∀ d∈ds,d.target≠.collected b)
  (x9:∀ J nr b C C',L' J=some (some (b,C))->L' nr=some (some (b,C'))->J=nr):Fr cx w0 I0 F0 O0 Hd RE e ds I F (BQ Ls L' B) w:=by
 have np:∀ t b C,BQ Ls L' B t=some (some (b,C))->(∃ x,(x,t)∈B/\L' x=some (some (b,C)))\/Ls t=some (some (b,C)):=by
  intro t b C h;by_cases O:∃ x,(x,t)∈B
  ·obtain⟨x,nK⟩:=O;rw[LZ hU nK] at h;refine .inl ⟨x,nK,?_⟩;cases hl:L' x with
   | none=>rw[hl] at h;simp at h
   | some p=>rw[hl] at h;simpa using h
  {rw[Up fun x h=>O ⟨x,h⟩] at h;exact .inr h}
 have mP:∀ t b C,BQ Ls L' B t=some (some (b,C))->(∃ x C,L' x=some (some (b,C)))\/∃ t C,Ls t=some (some (b,C)):=fun t b C h=>by rcases np t b C h with ⟨x,_,h⟩ | h;{exact .inl ⟨x,C,h⟩};{exact .inr ⟨t,C,h⟩}
 refine⟨hf.ext,hf.sep,hf.oF,fun t b C ht=>?_,fun t t' b C C' ht uV=>?_,hf.wd,hf.re,?_,fun b ob hb=>?_⟩
 ·rcases np t b C ht with ⟨x,_,h⟩ | h
  {obtain⟨g1,g2,g3,g4,_⟩:=x8 x b C h;exact⟨g4,g1,g2,g3⟩};{exact hf.lB t b C h}
 ·rcases np t b C ht with ⟨x,hb,h⟩ | h<;>rcases np t' b C' uV with ⟨x',oT,h'⟩ | h'
  {have:=x9 x x' b C C' h h';subst this;exact XR hB hb oT};{exact lH h' ((x8 x b C h).2.2.2.2.1 t' C')};{exact lH h ((x8 x' b C' h').2.2.2.2.1 t C)};{exact hf.inj t t' b C C' h h'}
 ·have key:∀ ds rs,Cg w0.heap.size I F Ls w ds rs->(∀ J b C,L' J=some (some (b,C))->∀ d∈ds,d.target≠.collected b)->Cg w0.heap.size I F (BQ Ls L' B) w ds rs:=by
   intro ds rs hm;induction hm with
   | nil=>intro _;exact .nil
   | call d ds rs hd _ ih=>intro h;exact .call d ds rs hd (ih fun J b C hn d hd=>h J b C hn d (iA _ hd))
   | cons D ds rs U H h3 h4 h5 h6 h7 _ ih =>
    intro h;refine .cons D ds rs U H h3 h4 (fun t C ht=>?_) h6 h7 (ih fun J b C hn d hd=>h J b C hn d (iA _ hd));rcases mP t D C ht with ⟨x,C',O⟩ | ⟨t',C',O⟩;{exact h x D C' O _ iw rfl};{exact h5 t' C' O}
  exact key ds _ hf.rq fun J b C hn=>(x8 J b C hn).2.2.2.2.2.2
 {obtain⟨g1,g2,g3,g4,g5⟩:=hf.ry b ob hb;refine⟨g1,g2,g3,fun t C ht=>?_,g5⟩;rcases mP t b C ht with ⟨x,C',O⟩ | ⟨t',C',O⟩;{exact (x8 x b C' O).2.2.2.2.2.1 ob hb};{exact g4 t' C' O}}
end back
end Go.Ab


namespace Go.Ab
variable{Hd':Nat->Option Obj} {Q:Exit->Act->lJ->Prop} {assign body:Code} {ds:List lQ} {f:lM} {lo:Nat} {ps:Array Nat} {rb:A1} {rf:RX} {ro:lT} {x:Ex}
section
variable {E:Type} {cx:Cx} {w0:lJ} {I0 F0:Nat->Prop} {O0:BE} {Hd:Nat->Option Obj} {R:Bs E} {e e2:E} {F:Nat->Prop} {lp:Nat->lT} {ml:List lK}
variable {I:Nat->Prop} {L:As} {V mM:St} {a:Act} {w:lJ} {dd:DH} {M:AK} {fuel:Nat} {h:AF E} {dep:Nat}
theorem Fr.hold (hf:Fr cx w0 I0 F0 O0 Hd' R e ds I F L w) (hh:∀ b ob,Hd b=some ob->Hd' b=some ob):Fr cx w0 I0 F0 O0 Hd R e ds I F L w :=
 {hf with ry:=fun b ob hb=>hf.ry b ob (hh b ob hb)}
theorem af (o8:∀ l0,ro=some l0->∃ r0,Hd l0=some (.loop r0)) (hf:Fr cx w0 I0 F0 O0 Hd R e ds I F L w) (fn:lL) (tmps:Array lK) (ps:Array Tmp) (assign body:Code) :
  ∃ (l:Nat) (mark:List lQ) (w1:lJ) (rc:Loop),(Instr.enterLoop fn tmps ps assign body ro).run cx.P w=.ok (l,mark) w1/\rc.params=ps/\rc.assign=assign/\rc.body=body/\rc.tmps=tmps /\
   w1.heap[l]?=some (.loop (Bf rc none))/\w.heap.size<=l/\l < w1.heap.size/\w1.os=w.os/\w1.tape=w.tape/\w1.output=w.output/\w.heap.size<=w1.heap.size/\(∀ b,b < w.heap.size->w1.heap[b]?=w.heap[b]?) /\
   (mark=[]\/(mark=[{target:=.collected w.heap.size,args:=#[]}]/\w1.heap[w.heap.size]?=some (.deferred (some []))/\w.heap.size < l)):=by
 cases ro with
 | none =>
  refine⟨_,_,_,{state:=.ready,pending:=none,fn,tmps,params:=ps,assign,body,defers:=w.heap.size},run_enterLoop_outer fn tmps ps assign body,rfl,rfl,rfl,rfl,?_,by omega,by simp,rfl,rfl,rfl,by simp;omega,fun b hb=>?_,.inr ⟨rfl,?_,by omega⟩⟩;{have:=World.alloc_heap_new (w.alloc (.deferred (some []))) (.loop {state:=.ready,pending:=none,fn,tmps,params:=ps,assign,body,defers:=w.heap.size});simpa[Bf] using this};{rw[mv _ _ (by simp;omega),mv _ _ hb]};{rw[mv _ _ (by simp)];exact World.alloc_heap_new _ _}
 | some l0 =>
  obtain⟨r0,p8⟩:=o8 l0 rfl;obtain⟨_,_,_,_,hh⟩:=hf.ry l0 _ p8;refine⟨_,_,_,{state:=.ready,pending:=none,fn,tmps,params:=ps,assign,body,defers:=r0.defers},run_enterLoop_inner hh fn tmps ps assign body,rfl,rfl,rfl,rfl,?_,ik _,by simp,rfl,rfl,rfl,by simp,fun b hb=>mv _ _ hb,.inl rfl⟩;have:=World.alloc_heap_new w (.loop {state:=.ready,pending:=none,fn,tmps,params:=ps,assign,body,defers:=r0.defers});simpa[Bf] using this
theorem Cg.noL {I F:Nat->Prop} {L:As} {w:lJ} {rs:List lQ} (h:Cg lo I F L w ds rs):∀ d∈ds,∀ D,d.target=.collected D->∀ J C,L J≠some (some (D,C)):=by
 induction h with
 | nil=>intro d hd;cases hd
 | call d ds rs hd _ ih =>
  intro d' qq D hD;rcases im.1 qq with rfl | qq;{exact lH hD (hd D)};{exact ih d' qq D hD}
 | cons D0 ds rs _ _ _ _ h5 _ _ _ ih =>
  intro d' qq D hD;rcases im.1 qq with rfl | qq;·cases hD;exact h5
  {exact ih d' qq D hD}
theorem rio_ok (hR:zG cx M.tk) (mS:GB cx lp R h dep w0 I0 F0) (o8:∀ l0,ro=some l0->∃ r0,Hd l0=some (.loop r0)) (hca:JH cx dd M fuel assign) (hcb:DX cx M fuel rb body)
  (hrx:rx cx.G f=some rf) (mo:Ju M (fun h dep=>NL M fuel h dep ps.toList (Bq cx.P cx.G dd assign) rb) h dep (rf.ev V.tmps) V e=some (x,mM,e2))
  (hs:SR lp I L V a.tmps.toList ml w) (hf:Fr cx w0 I0 F0 O0 Hd R e a.defers I F L w) 
  (hQ:∀ a' w' I' F' L',SR lp I' L' mM a'.tmps.toList ml w'->Fr cx w0 I0 F0 O0 Hd R e2 a'.defers I' F' L' w'->Q (CJ x) a' w'):(Code.rangeFunc f ps assign body).wpIn (De ro) 0 cx.P Q a w:=by
 have mG:=Be hs hf.wd hrx;unfold Ju at mo;split at mo
 case h_2=>cases mo
 rename_i g cap rV;rw[rV] at mG;simp only at mo;generalize hRd:Bt (AI (Ac V.mi) AG (Ar cap))=Rn at mo;have rP:∀ (i j:Nat) J,Rn[i]?=some J->Rn[j]?=some J->i=j:=by rw[<-hRd];exact fun i j J=>X0 i j J
 have zah:∀ J∈Ar cap,J∈Rn:=fun J hn=>by rw[<-hRd];exact QU.2 (DI _ _ J hn)
 split at mo
 case h_1=>cases mo
 rename_i ins vZ;obtain⟨hk,mo⟩:=AQ mo;simp only[ie,jt] at hk;obtain⟨mP,hy,zai,hoy⟩:=hk;split at mo
 case h_2=>cases mo
 rename_i qi s0 p e3 hrio;obtain⟨hmb,mo⟩:=AQ mo;split at mo
 case h_2=>cases mo
 rename_i out oX;obtain⟨hgo,mo⟩:=AQ mo;simp only[ie] at hgo;obtain⟨sH,hnewY,hupsY⟩:=hgo;cases mo;generalize v7:PL Rn s0=s at hmb oX hQ;obtain⟨fst,mO,tH,hfk,rZ⟩:=KO mG;obtain⟨m1,m2⟩:=Un Rn ins vZ;refine wpIn_rangeFunc fun fn _=>?_;obtain⟨l,mark,w1,rc,hent,c1,c2,c3,c4,c5,c6,c7,c8,c9,c10,c11,c12,c13⟩:=af (ro:=ro) o8 hf fn a.tmps ps assign body;have pk:∀ b,I b\/F b\/CA L b->b < w.heap.size:=fun b hb=>by rcases hb with hb | hb | ⟨J,C,hb⟩;{exact hf.sep.iB b hb};{exact (hf.sep.fB b hb).1};{exact (hf.lB J b C hb).2.1}
 have hIk:∀ b,I b->w1.heap[b]?=w.heap[b]?:=fun b hb=>c12 b (pk b (.inl hb));have hs1':SR lp I L V a.tmps.toList ml w1:=hs.keeps (fun _ h=>h) hIk fun J b C hn=>c12 b (pk b (.inr (.inr ⟨J,C,hn⟩)))
 have nH:Fr cx w0 I0 F0 O0 Hd R e a.defers I F L w1:=hf.own c8 c9 c10 c11 (fun b hb _=>c12 b hb) (fun _ h=>h) (fun _ h=>.inl h)
  (fun J b C hn=>⟨by have:=(hf.lB J b C hn).2.1;omega,(hf.lB J b C hn).2.2.1,.inr ⟨J,C,hn⟩⟩) hf.inj
 have rG:w0.heap.size<=l:=by have:=hf.ext.size;omega
 let pO:Nat->lT:=fun d=>if dep<=d/\d < dep+Rn.length then (match L (Rn.getD (d - dep) (0,0)) with
  | some (some (b,_))=>some (2*b+1)
  | _=>none) else lp d
 have hlp2:Ib lp pO:=fun d l hd=>by have:=mS.dep d l hd;simp only[pO];rw[lr (by omega)];exact hd
 have hA:∀ J b C,J∈Rn->L J=some (some (b,C))->pO (dep+Rn.idxOf J)=some (2*b+1):=by intro J b C hm hn;have hi:=lg hm;simp only[pO];rw[lu (by omega),show dep+Rn.idxOf J - dep=Rn.idxOf J by omega,ip,Vv hm];simp[hn]
 have hRs:∀ J∈Rn,∃ ob,Ac V.mi J=some ob:=by intro J hn;obtain⟨j,hj,nM⟩:=kD hn;obtain⟨ob,_,H⟩:=m2 j J (by rw[iG hj,nM]);exact⟨ob,H⟩
 have rT:=vX (dep:=dep) hs1' hRs hlp2 hA
 have href2:GB cx pO R (Oz dep Rn.length h) (dep+Rn.length) w0 I0 F0:=by
  obtain⟨⟨Ir,rQ,wr,hand,zE⟩,hdp⟩:=mS;refine⟨⟨Ir,rQ,wr,?_,zE⟩,?_⟩
  ·intro d args e b e' l' hh si;unfold Oz at hh;split at hh;·cases hh
   ·rename_i hd;refine hand d args e b e' l' hh ?_;simp only[pO] at si
    rwa [lr hd] at si
  {intro d l' hd;simp only[pO] at hd;split at hd;{omega};{have:=hdp d l' hd;omega}}
 have sd:BS I0 F0 w0 I (fun b=>F b\/CA L b\/b=l) w1:=⟨nH.ext.os,nH.ext.tape,nH.ext.output,nH.ext.size,nH.ext.mj,nH.ext.pV,nH.ext.py,fun b hb=>by
  rcases hb with hb | ⟨J,C,hb⟩ | rfl;·exact nH.ext.pL b hb
  ·exact (nH.lB J b C hb).1.elim .inr fun ho=>.inl (nH.oF b ho)
  ·exact .inr rG⟩
 have zaj:=ZB (O0:=O0) (M:=M) (fuel:=fuel) (ml:=ml) href2 sd (l:=l) (rc:=rc) c1 c2 c3 rG hca hcb;obtain⟨hen,gone,nt,hvl,tt,v8,hcon⟩:=hR (DU E) _ _ _ _ _ _ _ _ hrio;have hIl:¬ I l:=fun hb=>by have:=hf.sep.iB l hb;omega
 have hFl:¬ F l:=fun hb=>by have:=(hf.sep.fB l hb).1;omega
 have hLl:¬ CA L l:=fun hb=>by have:=pk l (.inr (.inr hb));omega
 have uW:∀ J∈Rn,∃ p ob,L J=some p/\Ac V.mi J=some ob/\Ba w1 I lp L ob p:=by intro J hn;obtain⟨ob,H⟩:=hRs J hn;obtain⟨p,hp,ha⟩:=hs1'.ob J ob H;exact⟨p,ob,hp,H,ha⟩
 let Lc:As:=fun m=>if m.1=0 then (Rn[m.2]?).bind L else none
 let fr:Nm->Nm:=fun m=>(0,Rn.idxOf m)
 let LR:As:=fun m=>if m∈Rn then L m else none
 let tN:Nat->lT:=fun d=>if d=dep+Rn.length then some (2*l) else pO d
 have pf:∀ J p,LR J=some p->Lc (fr J)=some p:=by intro J p hp;simp only[LR] at hp;split at hp;{rename_i hm;simp only[Lc,fr,lq,Vv hm,jT,hp]};{cases hp}
 have hLc:∀ J p,Lc J=some p->∃ t,Rn[J.2]?=some t/\J.1=0/\L t=some p:=by
  intro J p hp;simp only[Lc] at hp;split at hp
  ·rename_i U;cases hr:Rn[J.2]? with
   | none=>rw[hr] at hp;simp at hp
   | some t=>rw[hr] at hp;exact⟨t,rfl,U,by simpa using hp⟩
  {cases hp}
 have hcap2:Ai w1 I tN (some Lc) (AY fr cap) (fst.toList++mO.toList):=by
  have h0:Ai w1 I lp (some L) cap (fst.toList++mO.toList):=Ai.mono (fun _ h=>h) hIk (fun _ _ h=>h) rZ;have U:Ai w1 I tN (some L) cap (fst.toList++mO.toList):=h0.rz hy;have H:Ai w1 I tN (some LR) cap (fst.toList++mO.toList):=U.narrow fun J hn p hp=>by simp only[LR,zah J hn,lq];exact hp
  exact H.rename pf
 have nD:Ai w1 I tN (some Lc) (Bc g [.mF (dep+Rn.length)] (AY fr cap)) (fst.toList++([.func (.yield l) #[] #[]]++mO.toList)) :=
  Q0 hfk hcap2 (.cons _ _ _ _ (by rw[<-RR];exact .mF (dep+Rn.length) (2*l) (by simp[tN])) .nil)
 have hil2:(ins.map (Ob.mz fr)).length=Rn.length:=by rw[iW,m1]
 let wv:List lK:=(List.range nt).map fun j=>match (Rn[j]?).bind L with
  | some (some (b,C))=>.slice (some ⟨b,0,none⟩) 0 C
  | _=>.slice none 0 0
 have hRlen:Rn.length<=nt:=by rw[<-hil2];exact tt
 have hwvj:∀ (j:Nat) J,Rn[j]?=some J->wv.getD j undef=(match L J with
    | some (some (b,C))=>.slice (some ⟨b,0,none⟩) 0 C
    | _=>.slice none 0 0):=by
  intro j J hj;have hjl:j < nt:=by have:=(ix.1 hj).1;omega
  rw[ip,iC,jG hjl];simp only[iu,iT,hj,jT]
 have hwit:Ai w1 I tN (some Lc) (F4 gone nt Rn.length) wv:=by
  refine Ai.z6 (by simp[F4,wv]) fun i y v vA hv=>?_;simp only[F4,iC,ij] at vA;obtain⟨j,hj,rfl⟩:=vA;have mL:i < nt/\j=i:=by obtain⟨U,H⟩:=ix.1 hj;simp at U H;exact⟨U,H.symm⟩
  obtain⟨mL,rfl⟩:=mL;split
  case isFalse=>exact .undef _
  rename_i hjR0;have hjR:=hjR0.1;have ht:Rn[j]?=some Rn[j]:=iG hjR;have qH:=hwvj j _ ht;rw[ip,hv] at qH;simp only[iT] at qH;subst qH;obtain⟨p,ob,hp,_,_⟩:=uW _ (iz ht);have qT:Lc (0,j)=some p:=by simp only[Lc,lq,ht,jT,hp]
  rw[hp];cases p with
  | none=>exact .oz _ _ qT
  | some p =>
   obtain⟨b,C⟩:=p;have:=Am.arr (w:=w1) (I:=I) (lp:=tN) (L:=Lc) (0,j) 1 0 0 C b C qT (by omega) (jP _);simpa using this
 have qA:SR tN I Lc (EQ gone nt (ins.map (Ob.mz fr)) (Bc g [.mF (dep+Rn.length)] (AY fr cap))) ((fst.toList++([.func (.yield l) #[] #[]]++mO.toList))++List.replicate (nt - (fst.toList++([Value.func (.yield l) #[] #[]]++mO.toList)).length) undef) wv w1:=by
  have tP:0 < (List.replicate nt ([]:lY)).length:=by simpa using v8
  have uB:∀ J:Nm,J.1≠0->Ac ((List.replicate nt []).set 0 (ins.map (Ob.mz fr))) J=none:=by
   intro J U;rw[EA _ U];unfold Ac;cases hg:(List.replicate nt ([]:lY))[J.1]? with
   | none=>rfl
   | some l =>
    have:=kF (iz hg);subst this;simp
  refine⟨?_,?_,?_,?_⟩;{have hl:=nD.length;have H:Ai w1 I tN (some Lc) (List.replicate (nt - (Bc g [.mF (dep+Rn.length)] (AY fr cap)).length) PV.undef) (List.replicate (nt - (Bc g [.mF (dep+Rn.length)] (AY fr cap)).length) undef):=Ai.mQ _ _ (by simp);have:=nD.append H;rw[<-hl];exact this};{show Ai w1 I tN (some Lc) (F4 gone nt (ins.map (Ob.mz fr)).length) wv;rw[hil2];exact hwit}
  ·intro J ob hl;have oN:Ac ((List.replicate nt []).set 0 (ins.map (Ob.mz fr))) J=some ob:=hl;by_cases U:J.1=0
   ·obtain⟨a,j⟩:=J;simp only at U;subst U;rw[Fc _ tP,iC] at oN;obtain⟨oZ,ho0,rfl⟩:=ij.1 oN;have hj:j < Rn.length:=by have:=(ix.1 ho0).1;omega
    have hRt:Rn[j]?=some Rn[j]:=iG hj;obtain⟨sG,h3,h4⟩:=m2 j _ hRt;rw[ho0] at h3;cases h3;obtain⟨p,hp,ha⟩:=hs1'.ob _ oZ h4;refine⟨p,by simp only[Lc,lq,hRt,jT,hp],?_⟩;have hyo:oZ.mV=false:=by have:=iy.1 hoy oZ (iz ho0);simpa using this
    have s7:Ba w1 I tN LR oZ p:=(ha.rz hyo).narrow fun m hm q hq=>by have:m∈Rn:=QI zai (iz hRt) h4 m hm;simp only[LR,this,lq];exact hq
    exact s7.mz pf
   {rw[uB J U] at oN;cases oN}
  ·intro J hl;have oN:Ac ((List.replicate nt []).set 0 (ins.map (Ob.mz fr))) J=none:=hl;simp only[Lc];split
   ·rename_i U;obtain⟨a,j⟩:=J;simp only at U;subst U;rw[Fc _ tP,iC] at oN;have H:ins[j]?=none:=by simpa using oN
    have:Rn[j]?=none:=iR.2 (by have:=iR.1 H;omega);rw[this];rfl
   {rfl}
 have hAl:∀ J b C,Iu Rn L J=some (some (b,C))->J ∉ Rn/\L J=some (some (b,C)):=by intro J b C hn;by_cases hm:J∈Rn;{rw[XA hm] at hn;cases hn};{rw[TK hm] at hn;exact⟨hm,hn⟩}
 let zzd:Nat->Prop:=fun b=>∃ J C,J∈Rn/\L J=some (some (b,C))
 have hFc:∀ b,(F b\/CA (Iu Rn L) b\/b=l)->(F b\/CA L b\/b=l):=fun b hb=>by rcases hb with hb | ⟨J,C,hb⟩ | rfl;{exact .inl hb};{exact .inr (.inl ⟨J,C,(hAl J b C hb).2⟩)};{exact .inr (.inr rfl)}
 have tL:Fr cx w1 I (fun b=>F b\/CA L b\/b=l) ⟨zzd,[]⟩ (fun _=>none) (Sn w0 O0 R pO l rc rc.tmps.toList ml) (P2 dep Rn V,none,e) [] I (fun b=>F b\/CA (Iu Rn L) b\/b=l) Lc w1:=by
  refine⟨⟨rfl,rfl,rfl,ik _,fun _ _ _=>rfl,fun _ h=>h,fun _ h=>.inl h,fun b hb=>.inl (hFc b hb)⟩,⟨nH.sep.iB,fun b hb=>?_⟩,fun b hb=>?_,fun J b C hn=>?_,fun J nr b C C' hn nO=>?_,nH.wd,?_,.nil,fun b ob hb=>by cases hb⟩;{rcases hFc b hb with hb | ⟨J,C,hb⟩ | rfl;{exact nH.sep.fB b hb};{exact⟨(nH.lB J b C hb).2.1,(nH.lB J b C hb).2.2.1⟩};{exact⟨c7,hIl⟩}};{obtain⟨J,C,_,hn⟩:=hb;exact .inr (.inl ⟨J,C,hn⟩)}
  ·obtain⟨t,U,_,H⟩:=hLc J _ hn;obtain⟨_,g2,g3,g4⟩:=nH.lB t b C H;refine⟨.inr ⟨t,C,iz U,H⟩,g2,g3,fun hb=>?_⟩;rcases hb with hb | ⟨nr,C',hb⟩ | rfl;{exact g4 hb}
   {obtain⟨q1,q2⟩:=hAl nr b C' hb;have:=nH.inj t nr b C C' H q2;subst this;exact q1 (iz U)};{exact hLl ⟨t,C,H⟩}
  {obtain⟨t,U,h3,H⟩:=hLc J _ hn;obtain⟨t',h1',h3',oH⟩:=hLc nr _ nO;have:=nH.inj t t' b C C' H oH;subst this;exact Prod.ext (h3.trans h3'.symm) (rP _ _ t U h1')};{refine⟨Iu Rn L,F,by rw[c4];exact rT,fun b=>Iff.rfl,fun b hb=>?_,hFl,fun J nr b C C' hn nO=>nH.inj J nr b C C' (hAl J b C hn).2 (hAl nr b C' nO).2,c5,nH.re⟩;obtain⟨J,C,hn⟩:=hb;have hn:=(hAl J b C hn).2;exact⟨(nH.lB J b C hn).2.2.2,fun e=>hLl ⟨J,C,e ▸ hn⟩,(nH.lB J b C hn).1⟩}
 have r5:=hcon (Sn w0 O0 R pO l rc rc.tmps.toList ml) tN w1 I (fun b=>F b\/CA L b\/b=l) _ zzd Lc _ wv zaj (fun d l' hd=>by
  simp only[tN] at hd;split at hd;·omega
  ·have:=href2.dep d l' hd;omega) nD.length.symm qA tL
 refine⟨l,mark,w1,{target:=.fn (.func (AO g)) mO,args:=fst++#[.func (.yield l) #[] #[]]},w1,AO g,fst++#[.func (.yield l) #[] #[]]++mO,w1,hent,?_,fun _ _=>trivial,?_,fun h=>by simp[De] at h,?_⟩;{have hfv':a.eval f=.func (.func (AO g)) fst mO:=tH;have hcv:a.eval (.const (.func (.yield l) #[] #[]))=.func (.yield l) #[] #[]:=rfl;simp only[resolve,rangeCall,hfv',Deferred.ofValue];simp[hcv]}
 ·obtain⟨fn',pY,nU,om⟩:=hen;have hb:¬ fn'.body=none:=by intro h;rw[h] at om;cases om
  have nU:¬ fn'.name = "runtime.NumGoroutine":=by intro h;rw[h] at nU;simp at nU
  simp[invoke,callFunc,pY,nU,hb]
 ·have n7:(fst.toList++([Value.func (.yield l) #[] #[]]++mO.toList)).toArray=fst++#[.func (.yield l) #[] #[]]++mO:=by apply Array.ext';simp
  rw[n7] at r5;refine TP (CallsIn.qp r5 fun en w3 hr=>?_);cases en with
  | panicked chain=>exact hr.elim
  | outgrown=>exact hr.elim
  | returned v =>
   obtain⟨tmvE,I',F',L',hsE,tQ⟩:=hr;obtain⟨Ls0,Fo,g1,g2,g3,g4,g5,g6,g7⟩:=tQ.re;simp only at g1 g6 g7;obtain⟨Ls,g1,hiff⟩:=vY (R:=Rn) g1;rw[v7] at g1;have tK:∀ b,CA Ls0 b=CA Ls b:=fun b=>propext ⟨fun ⟨J,C,h⟩=>⟨J,C,(hiff _ _ _).2 h⟩,fun ⟨J,C,h⟩=>⟨J,C,(hiff _ _ _).1 h⟩⟩;simp only[tK,<-hiff] at g2 g3 g5
   have pz:∀ b,b < w1.heap.size->¬ I b->¬ F b->¬ CA L b->b≠l->¬ I' b/\¬ F' b/\w3.heap[b]?=w1.heap[b]?:=fun b U H h3 h4 h5=>by
    have hF:¬ (F b\/CA L b\/b=l):=fun h=>by rcases h with h | h | h<;>first | exact h3 h | exact h4 h | exact h5 h
    exact⟨fun h=>by rcases tQ.ext.py b h with h | h | h<;>first | exact H h | exact hF h | omega,fun h=>by rcases tQ.ext.pL b h with h | h<;>first | exact hF h | omega,tQ.ext.mj b U hF⟩
   have s8:F' l:=(g2 l).2 (.inr (.inr rfl));have hLl':∀ J C,Ls J≠some (some (l,C)):=fun J C hn=>(g3 l ⟨J,C,hn⟩).2.1 rfl;have o9:∀ b,¬ F' b->¬ Fo b/\∀ J C,Ls J≠some (some (b,C)):=fun b hb=>⟨fun h=>hb ((g2 b).2 (.inl h)),fun J C hn=>hb ((g2 b).2 (.inr (.inl ⟨J,C,hn⟩)))⟩;have oL:=tQ.ext.size
   have hmk:Cg w0.heap.size I' Fo Ls w3 (mark++a.defers) O0.dfs:=by
    have zu:Cg w0.heap.size I' Fo Ls w3 a.defers O0.dfs:=hf.rq.move (by omega) fun D d1 d2 d3 d4 d5=>by obtain⟨q1,q2,q3⟩:=pz D (by omega) d3 d4 (fun ⟨J,C,hn⟩=>d5 J C hn) (by omega);exact⟨q3.trans (c12 D d1),q1,(o9 D q2).1,(o9 D q2).2⟩
    rcases c13 with rfl | ⟨rfl,k1,k2⟩;{exact zu}
    {obtain⟨q1,q2,q3⟩:=pz w.heap.size (by omega) (fun h=>by have:=pk _ (.inl h);omega) (fun h=>by have:=pk _ (.inr (.inl h));omega) (fun h=>by have:=pk _ (.inr (.inr h));omega) (by omega);refine .cons w.heap.size _ _ hf.ext.size (by omega) q1 (o9 _ q2).1 (o9 _ q2).2 (q3.trans k1) (fun d hd he=>?_) zu;have:=hf.rq.lt d.target (ii.2 ⟨d,hd,rfl⟩) _ he;omega}
   have hmne:∀ D,D∈(mark++a.defers).map (·.target)->D≠.collected l:=by
    intro D hD he;rw[jE] at hD;rcases iH.1 hD with hD | hD
    ·rcases c13 with rfl | ⟨rfl,k1,k2⟩;{simp at hD}
     {simp only[iE,jj,iU] at hD;rw[hD] at he;cases he;omega}
    {have:=hf.rq.lt D hD l he;omega}
   have z1:Fr cx w0 I0 F0 O0 (fun b=>if b=l then some (.loop (Bf rc p)) else Hd b) R e2 (mark++a.defers) I' Fo Ls w3:=by
    refine⟨(sd.trans tQ.ext).less fun b hb=>(g2 b).2 (.inl hb),⟨tQ.sep.iB,fun b hb=>tQ.sep.fB b ((g2 b).2 (.inl hb))⟩,hf.oF,fun J b C hn=>?_,g5,tQ.wd,g7,hmk,fun b ob hb=>?_⟩;{have hb:CA Ls b:=⟨J,C,hn⟩;have hF:=tQ.sep.fB b ((g2 b).2 (.inr (.inl hb)));exact⟨(g3 b hb).2.2,hF.1,hF.2,(g3 b hb).1⟩}
    ·by_cases qX:b=l
     {subst qX;simp only[lq,il] at hb;subst hb;exact⟨(tQ.sep.fB b s8).1,(tQ.sep.fB b s8).2,g4,hLl',g6⟩};{simp only[qX,lm] at hb;obtain⟨d1,d2,d3,d4,d5⟩:=hf.ry b ob hb;obtain⟨q1,q2,q3⟩:=pz b (by omega) d2 d3 (fun ⟨J,C,hn⟩=>d4 J C hn) qX;exact⟨by omega,q1,(o9 b q2).1,(o9 b q2).2,(q3.trans (c12 b d1)).trans d5⟩}
   have zak:(Bf rc p).state≠.busy:=by cases p<;>simp[Bf]
   have zal:=run_endLoop (P:=cx.P) g6 zak;have rI:=z1.q7 (qm:=.loop {Bf rc p with state:=.exhausted}) (l:=l) (ob:=.loop (Bf rc p)) (by simp) (.inl rG) hmne
   have hf5:Fr cx w0 I0 F0 O0 Hd R e2 (mark++a.defers) I' Fo Ls (w3.putObj l (.loop {Bf rc p with state:=.exhausted})):=rI.hold fun b ob hb=>by
    have mL:=(hf.ry b ob hb).1;have qX:b≠l:=by omega
    simp[qX,hb]
   have hs5:SR pO I' Ls s a.tmps.toList ml (w3.putObj l (.loop {Bf rc p with state:=.exhausted})):=by rw[c4] at g1;exact g1.q7 _ (tQ.sep.fB l s8).2 hLl'
   have hsE5:SR tN I' L' qi tmvE wv (w3.putObj l (.loop {Bf rc p with state:=.exhausted})):=hsE.q7 _ (tQ.sep.fB l s8).2 fun J C hn=>(tQ.lB J l C hn).2.2.2 s8;obtain⟨hRs2,hobY⟩:=Zb hmb
   obtain⟨r,p8⟩:∃ r rs,Rn=r :: rs:=by
    cases Rn with
    | nil=>simp at mP
    | cons r rs=>exact⟨r,rs,rfl⟩
   obtain⟨rs,p8⟩:=p8;have pa:∃ i1,Gj (some r.1) r.1 i1 Rn qi (.mn [])=some out/\Hx (Ac s.mi) r.1=some i1:=by unfold G4 at oX;rw[p8] at oX |-;simp only at oX;split at oX;{rename_i i1 hi1;exact⟨i1,oX,hi1⟩};·cases oX
   obtain⟨i1,oX,hi1⟩:=pa;obtain⟨N,B,hB,hBn,mC⟩:=QZ oX;have hlen:∃ l,s.mi[r.1]?=some l/\l.length=i1:=by obtain⟨ob,ho⟩:=hRs2 r (by rw[p8];exact iw);exact Xi (d:=r.1) (j:=r.2) ho hi1
   have oo:∀ i:Nat,(∃ x,N[i]?=some x)->Ls (r.1,i1+i)=none:=by rintro i _;obtain⟨l,U,H⟩:=hlen;refine hs5.pR _ ?_;unfold Ac;rw[U];exact iR.2 (by simp only;omega)
   have hRLs:∀ t∈Rn,∃ p,Ls t=some p:=fun t h=>by obtain⟨ob,ho⟩:=hRs2 t h;obtain⟨p,hp,_⟩:=hs5.ob t ob ho;exact⟨p,hp⟩
   have hU:=uniqB (aN:=fun k=>(CO (qi.mj.getD k .undef)).getD (0,k)) hB rP hRLs oo;have zam:ID Rn qi.mj=[]:=by rw[mC] at sH;exact iS.1 sH
   have rR:∀ (j:Nat) J,Rn[j]?=some J->Am (w3.putObj l (.loop {Bf rc p with state:=.exhausted})) I' tN (some L') (.arr ((CO (qi.mj.getD j .undef)).getD (0,j)) 1 0 0) (match L J with
    | some (some (b,C))=>.slice (some ⟨b,0,none⟩) 0 C
    | _=>.slice none 0 0):=by
    intro j J hj
    have oK:(CO (qi.mj.getD j .undef)).isSome=true:=by
     cases hw:CO (qi.mj.getD j .undef) with
     | some q=>rfl
     | none =>
      have:J∈ID Rn qi.mj:=ii.2 ⟨(J,j),ju.2 ⟨iY.2 hj,by simp only[hw];rfl⟩,rfl⟩;rw[zam] at this;cases this
    obtain⟨q,hq⟩:=jR.1 oK;simp only[hq,iT];have nG:=hsE5.kp.getD j undef;have qj:=hwvj j J hj;have zan:qi.mj.getD j .undef=.arr q 1 0 0:=by unfold CO at hq;split at hq;{rename_i nr heq;cases hq;exact heq};·cases hq
    rw[zan,qj] at nG;exact nG
   have qx:∀ (j:Nat) J b C,Rn[j]?=some J->L J=some (some (b,C))->∃ C',C<=C'/\L' ((CO (qi.mj.getD j .undef)).getD (0,j))=some (some (b,C')):=by
    intro j J b C hj hp;have nG:=rR j J hj;rw[hp] at nG;rcases G5 nG with ⟨b',C',cap,h,hv,hC,hn⟩ | ⟨h,hv,_,_⟩
    {simp only[Value.slice.injEq,il,Addr.mk.injEq] at hv;obtain⟨⟨rfl,_,_⟩,_,rfl⟩:=hv;exact⟨C',by omega,h⟩};{simp at hv}
   have hgeN:∀ (j:Nat) J,Rn[j]?=some J->L J=some none->L' ((CO (qi.mj.getD j .undef)).getD (0,j))=some none:=by intro j J hj hp;have nG:=rR j J hj;rw[hp] at nG;rcases G5 nG with ⟨b',C',cap,h,hv,hC,hn⟩ | ⟨h,hv,_,_⟩;{simp at hv};{exact h}
   have hY:∀ d l,pO d=some l->(¬ (dep<=d/\d < dep+Rn.length)->lp d=some l)/\(dep<=d/\d < dep+Rn.length->∃ b C,l=2*b+1/\BQ Ls L' B (Rn.getD (d - dep) (0,0))=some (some (b,C))):=by
    intro d l' hd;simp only[pO] at hd;refine⟨fun hn=>by rwa [lr hn] at hd,fun hn=>?_⟩;rw[lu hn] at hd
    have hj:Rn[d - dep]?=some (Rn.getD (d - dep) (0,0)):=by
     have mL:d - dep < Rn.length:=by omega
     rw[ip,iG mL];rfl
    split at hd;{rename_i b C hLb;cases hd;obtain⟨C',_,hC'⟩:=qx _ _ b C hj hLb;refine⟨b,C',rfl,?_⟩;rw[LZ hU ((Kx (aN:=fun k=>(CO (qi.mj.getD k .undef)).getD (0,k)) hB _ _).2 (.inl ⟨d - dep,hj,rfl⟩)),hC'];rfl};{cases hd}
   have hsF:=back_sr (aN:=fun k=>(CO (qi.mj.getD k .undef)).getD (0,k)) (v0:=((PV.mn []).sub (Dn B)).mz (Di B)) hs5 hsE5 hY hmb rP hlen hBn hB (fun m hm=>by
     rw[mC] at hnewY;have:=iy.1 hnewY _ (ii.2 ⟨m,hm,rfl⟩);simpa[GR] using this) (fun j t hj=>by
     rw[mC] at hupsY;have:=iy.1 hupsY _ (ii.2 ⟨(t,j),iY.2 hj,rfl⟩);simpa[GR] using this)
   have hfF:=back_fr (L':=L') hf5 hU hBn (fun J b C hn=>by
     obtain⟨q1,q2,q3,q4⟩:=tQ.lB J b C hn
     have hO:(w0.heap.size<=b\/O0 b)/\(∀ ob,Hd b≠some ob)/\∀ d∈mark++a.defers,d.target≠.collected b:=by
      rcases q1 with q1 | ⟨t,C',ht,hLt⟩
      ·have h00:=hf.ext.size;refine⟨.inl (by omega),fun ob hb=>by have:=(hf.ry b ob hb).1;omega,fun d hd he=>?_⟩;rcases iH.1 hd with hd | hd
       ·rcases c13 with rfl | ⟨rfl,k1,k2⟩;·cases hd
        ·rw[iU.1 hd] at he;cases he;omega
       ·have:=hf.rq.lt d.target (ii.2 ⟨d,hd,rfl⟩) b he;omega
      ·refine⟨(hf.lB t b C' hLt).1,fun ob hb=>(hf.ry b ob hb).2.2.2.1 t C' hLt,fun d hd he=>?_⟩;rcases iH.1 hd with hd | hd
       ·rcases c13 with rfl | ⟨rfl,k1,k2⟩;·cases hd
        ·rw[iU.1 hd] at he;cases he;have:=(hf.lB t _ C' hLt).2.1;omega
       ·exact hf.rq.noL d hd b he t C' hLt
     exact⟨by rw[World.putObj_size];exact q2,q3,(o9 b q4).1,hO.1,(o9 b q4).2,hO.2.1,hO.2.2⟩) tQ.inj
   have rU:out={v:=((PV.mn []).sub (Dn B)).mz (Di B),new:=N.map (GR qi B),nh:=Rn.zipIdx.map fun p=>(p.1,GR qi B ((CO (qi.mj.getD p.2 .undef)).getD (0,p.2))),gone:=[],io:=true,slot:=some r.1}:=by rw[mC,zam];rfl
   rw[<-rU] at hsF
   have hsK:SR lp I' (BQ Ls L' B) (av Rn V.mj (apply (P1 dep Rn s) none out)) a.tmps.toList ml (w3.putObj l (.loop {Bf rc p with state:=.exhausted})):=by
    refine⟨hsF.tm,WT hsF.kp hs.kp fun J hm v hv=>?_,hsF.ob,hsF.pR⟩;obtain⟨j,hj,nM⟩:=kD hm;have hjR:Rn[j]?=some J:=by rw[iG hj,nM]
    have su:=(Kx (aN:=fun k=>(CO (qi.mj.getD k .undef)).getD (0,k)) hB _ _).2 (.inl ⟨j,hjR,rfl⟩);rcases G5 hv with ⟨b,C,cap,h,hv,hC,hn⟩ | ⟨h,hv,_,_⟩
    {obtain⟨C',hCC,hC'⟩:=qx j J b C hjR h;rw[hv];exact .arr J 1 0 0 cap b C' (by rw[LZ hU su,hC'];rfl) (by omega) hn};{rw[hv];exact .oz J 1 (by rw[LZ hU su,hgeN j J hjR h];rfl)}
   refine⟨(Bf rc p).pending,_,zal,?_⟩;have hq:=hQ {a with defers:=mark++a.defers} _ I' Fo _ hsK hfF;cases p with
   | none=>exact hq
   | some x =>
    cases x with
    | normal=>exact hq
    | exit id =>
     generalize w3.putObj l (.loop {Bf rc (some (.exit id)) with state:=.exhausted})=wz at hq |-;simp only[iT,CJ] at hq;simp only[Bf,KM];by_cases hid:id < B4;{simp only[hid,lq] at hq |-;exact wpIn_exit hq};{simp only[hid,lm] at hq |-;exact wpIn_goto hq}
    | ret=>exact wpIn_ret hq
theorem ZF (hM:D4 cx M.call) (ny:GC cx M) (mS:GB cx lp R h dep w0 I0 F0) (o8:∀ l0,ro=some l0->∃ r0,Hd l0=some (.loop r0)) (hca:JH cx dd M fuel assign) (hcb:DX cx M fuel rb body)
  (hrx:rx cx.G f=some rf) (mo:Az M fuel (.rangeFunc rf ps.toList (Bq cx.P cx.G dd assign) rb) h dep V e=some (x,mM,e2))
  (hs:SR lp I L V a.tmps.toList ml w) (hf:Fr cx w0 I0 F0 O0 Hd R e a.defers I F L w) 
  (hQ:∀ a' w' I' F' L',SR lp I' L' mM a'.tmps.toList ml w'->Fr cx w0 I0 F0 O0 Hd R e2 a'.defers I' F' L' w'->Q (CJ x) a' w'):(Code.rangeFunc f ps assign body).wpIn (De ro) 0 cx.P Q a w:=by
 rw[eG] at mo;split at mo;{exact rio_ok ny.tk mS o8 hca hcb hrx mo hs hf hQ};split at mo
 case h_2=>cases mo
 rename_i g cap uu tq;split at mo
 case h_2=>cases mo
 rename_i r obs s p e3 pC;cases mo;obtain⟨I1,L1,pI,oM,mG⟩:=gN hs hf (Be hs hf.wd hrx) tq;obtain⟨fst,mO,tH,hfk,rZ⟩:=KO mG;refine wpIn_rangeFunc fun fn _=>?_;obtain⟨l,mark,w1,rc,hent,c1,c2,c3,c4,c5,c6,c7,c8,c9,c10,c11,c12,c13⟩:=af (ro:=ro) o8 oM fn a.tmps ps assign body;have pk:∀ b,I1 b\/F b\/CA L1 b->b < w.heap.size:=fun b hb=>by rcases hb with hb | hb | ⟨J,C,hb⟩;{exact oM.sep.iB b hb};{exact (oM.sep.fB b hb).1};{exact (oM.lB J b C hb).2.1}
 have hs1':SR lp I1 L1 uu a.tmps.toList ml w1:=pI.keeps (fun _ h=>h) (fun b hb=>c12 b (pk b (.inl hb))) fun J b C hn=>c12 b (pk b (.inr (.inr ⟨J,C,hn⟩)))
 have nH:Fr cx w0 I0 F0 O0 Hd R e a.defers I1 F L1 w1:=oM.own c8 c9 c10 c11 (fun b hb _=>c12 b hb) (fun _ h=>h) (fun _ h=>.inl h)
  (fun J b C hn=>⟨by have:=(oM.lB J b C hn).2.1;omega,(oM.lB J b C hn).2.2.1,.inr ⟨J,C,hn⟩⟩) oM.inj
 have rG:w0.heap.size<=l:=by have:=oM.ext.size;omega
 have sd:BS I0 F0 w0 I1 (fun b=>F b\/CA L1 b\/b=l) w1:=⟨nH.ext.os,nH.ext.tape,nH.ext.output,nH.ext.size,nH.ext.mj,nH.ext.pV,nH.ext.py,fun b hb=>by
  rcases hb with hb | ⟨J,C,hb⟩ | rfl;·exact nH.ext.pL b hb
  ·exact (nH.lB J b C hb).1.elim .inr fun ho=>.inl (nH.oF b ho)
  ·exact .inr rG⟩
 have zaj:=ZB (O0:=O0) (M:=M) (fuel:=fuel) (ml:=ml) mS sd (l:=l) (rc:=rc) c1 c2 c3 rG hca hcb
 obtain⟨hen,hcon⟩:=hM (DU E) _ _ (dep+1) (fun d=>if d=dep then some (2*l) else lp d) _ _ w1 (AO g) (Bc g [.mF dep] cap) (uu,none,e) r obs (mM,p,e2) pC zaj (fun d l' hd=>by
  by_cases uU:d=dep
  ·omega
  ·simp only[uU,lm] at hd;have:=mS.dep d l' hd;omega)
 have hll:Ib lp (fun d=>if d=dep then some (2*l) else lp d):=fun d l' hd=>by
  have:=mS.dep d l' hd;have mP:d≠dep:=by omega
  simp[mP,hd]
 have hIl:¬ I1 l:=fun hb=>by have:=oM.sep.iB l hb;omega
 have hFl:¬ F l:=fun hb=>by have:=(oM.sep.fB l hb).1;omega
 have hLl:¬ CA L1 l:=fun hb=>by have:=pk l (.inr (.inr hb));omega
 have r5:=hcon I1 (fun b=>F b\/CA L1 b\/b=l) w1 (fst.toList++([.func (.yield l) #[] #[]]++mO.toList)) (BS.refl _ _ _) ⟨nH.sep.iB,fun b hb=>by
   rcases hb with hb | ⟨J,C,hb⟩ | rfl;·exact nH.sep.fB b hb
   ·exact⟨(nH.lB J b C hb).2.1,(nH.lB J b C hb).2.2.1⟩
   ·exact⟨c7,hIl⟩⟩ nH.wd ⟨L1,F,by rw[c4];exact hs1',fun b=>Iff.rfl,fun b hb=>by
   obtain⟨J,C,hn⟩:=hb;exact⟨(nH.lB J b C hn).2.2.2,fun e=>hLl ⟨J,C,e ▸ hn⟩,(nH.lB J b C hn).1⟩,hFl,nH.inj,c5,nH.re⟩
  (Q0 hfk (Ai.mono (fun _ h=>h) (fun b hb=>c12 b (pk b (.inl hb))) hll rZ) (.cons _ _ _ _ (by rw[<-RR];exact .mF dep (2*l) (by simp)) .nil))
 refine⟨l,mark,w1,{target:=.fn (.func (AO g)) mO,args:=fst++#[.func (.yield l) #[] #[]]},w1,AO g,fst++#[.func (.yield l) #[] #[]]++mO,w1,hent,?_,fun _ _=>trivial,?_,fun h=>by simp[De] at h,?_⟩;{have hfv':a.eval f=.func (.func (AO g)) fst mO:=tH;have hcv:a.eval (.const (.func (.yield l) #[] #[]))=.func (.yield l) #[] #[]:=rfl;simp only[resolve,rangeCall,hfv',Deferred.ofValue];simp[hcv]}
 ·obtain⟨fn',pY,nU,om⟩:=hen;have hb:¬ fn'.body=none:=by intro h;rw[h] at om;cases om
  have nU:¬ fn'.name = "runtime.NumGoroutine":=by intro h;rw[h] at nU;simp at nU
  simp[invoke,callFunc,pY,nU,hb]
 ·have n7:(fst.toList++([Value.func (.yield l) #[] #[]]++mO.toList)).toArray=fst++#[.func (.yield l) #[] #[]]++mO:=by apply Array.ext';simp
  rw[n7] at r5;refine TP (CallsIn.qp r5 fun en w3 hr=>?_);cases en with
  | panicked chain=>exact hr.elim
  | outgrown=>exact hr.elim
  | returned v =>
   obtain⟨I',F',ps',ov⟩:=hr;obtain⟨L',Fo,g1,g2,g3,g4,g5,g6,g7⟩:=ov.re;simp only at g1 g6 g7
   have pz:∀ b,b < w1.heap.size->¬ I1 b->¬ F b->¬ CA L1 b->b≠l->¬ I' b/\¬ F' b/\w3.heap[b]?=w1.heap[b]?:=fun b U H h3 h4 h5=>by
    have hF:¬ (F b\/CA L1 b\/b=l):=fun h=>by rcases h with h | h | h<;>first | exact h3 h | exact h4 h | exact h5 h
    exact⟨fun h=>by rcases ov.ext.py b h with h | h | h<;>first | exact H h | exact hF h | omega,fun h=>by rcases ov.ext.pL b h with h | h<;>first | exact hF h | omega,ov.ext.mj b U hF⟩
   have s8:F' l:=(g2 l).2 (.inr (.inr rfl));have hLl':∀ J C,L' J≠some (some (l,C)):=fun J C hn=>(g3 l ⟨J,C,hn⟩).2.1 rfl;have o9:∀ b,¬ F' b->¬ Fo b/\∀ J C,L' J≠some (some (b,C)):=fun b hb=>⟨fun h=>hb ((g2 b).2 (.inl h)),fun J C hn=>hb ((g2 b).2 (.inr (.inl ⟨J,C,hn⟩)))⟩;have oL:=ov.ext.size
   have hmk:Cg w0.heap.size I' Fo L' w3 (mark++a.defers) O0.dfs:=by
    have zu:Cg w0.heap.size I' Fo L' w3 a.defers O0.dfs:=oM.rq.move (by omega) fun D d1 d2 d3 d4 d5=>by obtain⟨q1,q2,q3⟩:=pz D (by omega) d3 d4 (fun ⟨J,C,hn⟩=>d5 J C hn) (by omega);exact⟨q3.trans (c12 D d1),q1,(o9 D q2).1,(o9 D q2).2⟩
    rcases c13 with rfl | ⟨rfl,k1,k2⟩;{exact zu}
    {obtain⟨q1,q2,q3⟩:=pz w.heap.size (by omega) (fun h=>by have:=pk _ (.inl h);omega) (fun h=>by have:=pk _ (.inr (.inl h));omega) (fun h=>by have:=pk _ (.inr (.inr h));omega) (by omega);refine .cons w.heap.size _ _ oM.ext.size (by omega) q1 (o9 _ q2).1 (o9 _ q2).2 (q3.trans k1) (fun d hd he=>?_) zu;have:=oM.rq.lt d.target (ii.2 ⟨d,hd,rfl⟩) _ he;omega}
   have hmne:∀ D,D∈(mark++a.defers).map (·.target)->D≠.collected l:=by
    intro D hD he;rw[jE] at hD;rcases iH.1 hD with hD | hD
    ·rcases c13 with rfl | ⟨rfl,k1,k2⟩;{simp at hD}
     {simp only[iE,jj,iU] at hD;rw[hD] at he;cases he;omega}
    {have:=oM.rq.lt D hD l he;omega}
   have z1:Fr cx w0 I0 F0 O0 (fun b=>if b=l then some (.loop (Bf rc p)) else Hd b) R e2 (mark++a.defers) I' Fo L' w3:=by
    refine⟨(sd.trans ov.ext).less fun b hb=>(g2 b).2 (.inl hb),⟨ov.sep.iB,fun b hb=>ov.sep.fB b ((g2 b).2 (.inl hb))⟩,oM.oF,fun J b C hn=>?_,g5,ov.wd,g7,hmk,fun b ob hb=>?_⟩;{have hb:CA L' b:=⟨J,C,hn⟩;have hF:=ov.sep.fB b ((g2 b).2 (.inr (.inl hb)));exact⟨(g3 b hb).2.2,hF.1,hF.2,(g3 b hb).1⟩}
    ·by_cases qX:b=l
     {subst qX;simp only[lq,il] at hb;subst hb;exact⟨(ov.sep.fB b s8).1,(ov.sep.fB b s8).2,g4,hLl',g6⟩};{simp only[qX,lm] at hb;obtain⟨d1,d2,d3,d4,d5⟩:=oM.ry b ob hb;obtain⟨q1,q2,q3⟩:=pz b (by omega) d2 d3 (fun ⟨J,C,hn⟩=>d4 J C hn) qX;exact⟨by omega,q1,(o9 b q2).1,(o9 b q2).2,(q3.trans (c12 b d1)).trans d5⟩}
   have zak:(Bf rc p).state≠.busy:=by cases p<;>simp[Bf]
   have oX:=run_endLoop (P:=cx.P) g6 zak;have rI:=z1.q7 (qm:=.loop {Bf rc p with state:=.exhausted}) (l:=l) (ob:=.loop (Bf rc p)) (by simp) (.inl rG) hmne
   have hf5:Fr cx w0 I0 F0 O0 Hd R e2 (mark++a.defers) I' Fo L' (w3.putObj l (.loop {Bf rc p with state:=.exhausted})):=rI.hold fun b ob hb=>by
    have mL:=(oM.ry b ob hb).1;have qX:b≠l:=by omega
    simp[qX,hb]
   have hs5:SR lp I' L' mM a.tmps.toList ml (w3.putObj l (.loop {Bf rc p with state:=.exhausted})):=by rw[c4] at g1;exact g1.q7 _ (ov.sep.fB l s8).2 hLl'
   refine⟨(Bf rc p).pending,_,oX,?_⟩;have hq:=hQ {a with defers:=mark++a.defers} _ I' Fo L' hs5 hf5;cases p with
   | none=>exact hq
   | some x =>
    cases x with
    | normal=>exact hq
    | exit id =>
     generalize w3.putObj l (.loop {Bf rc (some (.exit id)) with state:=.exhausted})=wz at hq |-;simp only[iT,CJ] at hq;simp only[Bf,KM];by_cases hid:id < B4;{simp only[hid,lq] at hq |-;exact wpIn_exit hq};{simp only[hid,lm] at hq |-;exact wpIn_goto hq}
    | ret=>exact wpIn_ret hq
end
end Go.Ab


namespace Go.Ab
variable{E:Type} {F:Fence} {P:lO} {Q:Exit->Act->lJ->Prop} {a:Act} {b:Frame} {c c1 c2:Code} {cs:List Frame} {dep l m n:Nat} {g:List (Nat×Nat)} {k:List Item} {r:A1} {w:lJ} {x:Ex} {e:E} {h:AF E}
theorem Kc:step P (lone (b.atR a (.code (.scope c) :: k)) cs w)=.next (lone (b.atR a (.code c :: .inScope c :: k)) cs w) :=
 step_lone_go (by simp[Go.stepG,Go.stepG.exec,Frame.atR])
theorem Wm:step P (lone (b.atR a (.inScope c :: k)) cs w)=.next (lone (b.atR a k) cs w) :=
 step_lone_go (by simp[Go.stepG,Go.stepG.exec,Frame.atR])
def Mb:Ex->Prop
 | .exit id=>id < B4
 | _=>True
theorem WK (O:Mb x) (h:c.wpIn F n P (fun e a w=>e=CJ x/\Q e a w) a w):(Code.scope c).wpIn F n P Q a w:=by
 intro b k cs o8 hb hr;have h0:(lone (b.atR a (.code (.scope c) :: k)) cs w).fenced P F:=fenced_calm hb hr rfl;obtain⟨e,a₁,w₁,⟨rfl,hq⟩,n7⟩:=h b (.inScope c :: k) cs o8 hb hr;cases x with
 | normal=>exact⟨.normal,a₁,w₁,hq,.head h0 Kc (StepsIn.trans n7 (.one (fenced_calm hb hr rfl) Wm))⟩
 | exit id =>
  simp only[Mb] at O;simp only[CJ,O,lq] at hq n7;have O:exitTo id (.inScope c :: k)=exitTo id k:=by simp[exitTo]
  exact⟨.exit id,a₁,w₁,hq,fun k' hk=>.head h0 Kc (n7.1 k' (by rw[O];exact hk)),
   fun wb hk=>let ⟨k₁,U,H⟩:=n7.2 wb (by rw[O];exact hk);⟨k₁,U,.head h0 Kc H⟩⟩
 | ret=>exact⟨.ret,a₁,w₁,hq,.of_steps (.one h0 Kc) n7⟩
theorem cX {rest:Code} (hl:findLabel c l=some rest) (O:Mb x)
  (h:c.wpIn F n P (fun e a w=>e=.goto l/\rest.wpIn F n P (fun e a w=>e=CJ x/\Q e a w) a w) a w):(Code.scope c).wpIn F n P Q a w:=by
 intro b k cs o8 hb hr;have h0:(lone (b.atR a (.code (.scope c) :: k)) cs w).fenced P F:=fenced_calm hb hr rfl;have hg:gotoIn l (.inScope c :: k)=some (.code rest :: .inScope c :: k):=by simp[gotoIn,hl]
 obtain⟨e,a₁,w₁,⟨rfl,hq⟩,n7⟩:=h b (.inScope c :: k) cs o8 hb hr;have U:=n7.1 _ hg;obtain⟨e,a₂,w₂,⟨rfl,hq⟩,n7⟩:=hq b (.inScope c :: k) cs o8 hb hr;cases x with
 | normal=>exact⟨.normal,a₂,w₂,hq,.head h0 Kc (StepsIn.trans U (StepsIn.trans n7 (.one (fenced_calm hb hr rfl) Wm)))⟩
 | exit id =>
  simp only[Mb] at O;simp only[CJ,O,lq] at hq n7;have O:exitTo id (.inScope c :: k)=exitTo id k:=by simp[exitTo]
  exact⟨.exit id,a₂,w₂,hq,fun k' hk=>.head h0 Kc (U.trans (n7.1 k' (by rw[O];exact hk))),
   fun wb hk=>let ⟨k₁,g1,g2⟩:=n7.2 wb (by rw[O];exact hk);⟨k₁,g1,.head h0 Kc (U.trans g2)⟩⟩
 | ret=>exact⟨.ret,a₂,w₂,hq,.of_steps (.head h0 Kc U) n7⟩
theorem WL (K:Nat->Act->lJ->Prop) (round:∀ m a w,K m a w->∃ m',m=m'+1/\c.wpIn F n P (Exit.then (K m') Q) a w) (h:K m a w) :
  (Code.loop c).wpIn F n P Q a w:=by
 classical
 have least:∀ a w,(∃ m,K m a w)->∃ m,K m a w/\∀ j,K j a w->m<=j:=by
  intro a w ⟨m,hm⟩;induction m using Nat.strongRecOn with
  | _ m ih =>
   by_cases hj:∃ j,j < m/\K j a w;{obtain⟨j,hj1,hj2⟩:=hj;exact ih j hj1 hj2};{exact⟨m,hm,fun j hk=>Nat.le_of_not_lt fun mL=>hj ⟨j,mL,hk⟩⟩}
 refine wpIn_loop (fun a w=>∃ m,K m a w) (fun a w=>if h:∃ m,K m a w then Classical.choose (least a w h) else 0) ⟨m,h⟩ fun a w hk=>?_;obtain⟨q1,q2⟩:=Classical.choose_spec (least a w hk);obtain⟨m',qn,hwp⟩:=round _ a w q1;refine wpIn_mono hwp fun e a' w' hq=>?_;cases e<;>simp only[Exit.then] at hq |-<;>first | exact hq | skip
 refine⟨⟨m',hq⟩,?_⟩;have hex:∃ m,K m a' w':=⟨m',hq⟩;have hle:=(Classical.choose_spec (least a' w' hex)).2 m' hq;simp only[dif_pos hex,dif_pos hk];omega
section
variable {cx:Cx} {dd:DH} {M:AK} {fuel:Nat}
def PF (cx:Cx) (dd:DH) (M:AK) (fuel:Nat) (c:Code):Prop :=
 ∀ (l:Nat) (y z:A1),DZ l c (Bq cx.P cx.G dd c)=some (y,z)->DX cx M fuel (.seq y z) c/\∃ rest,findLabel c l=some rest/\DX cx M fuel z rest
theorem RU {r1 r2:A1} (U:DX cx M fuel r1 c1) (H:DX cx M fuel r2 c2):DX cx M fuel (.seq r1 r2) (.seq c1 c2):=by
 intro E h dep R lp w0 I0 F0 O0 Hd ml ro V e x mM e2 mo mS o8 a w I F L Q hs hf hQ;simp only[Az] at mo;refine wpIn_seq ?_;split at mo
 ·rename_i oO e3 g1
  exact U E h dep R lp w0 I0 F0 O0 Hd ml ro V e .normal oO e3 g1 mS o8 a w I F L _ hs hf fun a' w' I' F' L' nT nx =>
   H E h dep R lp w0 I0 F0 O0 Hd ml ro oO e3 x mM e2 mo mS o8 a' w' I' F' L' Q nT nx hQ
 ·rename_i mP;refine U E h dep R lp w0 I0 F0 O0 Hd ml ro V e x mM e2 mo mS o8 a w I F L _ hs hf fun a' w' I' F' L' nT nx=>?_;have:=hQ a' w' I' F' L' nT nx;cases x with
  | normal=>exact (mP _ _ mo).elim
  | exit id =>
   simp only[CJ] at this |-;split<;>rename_i hid;{simp only[hid,lq] at this;exact this};{simp only[hid,lm] at this;exact this}
  | ret=>exact this
theorem eW (l:Nat):∀ c:Code,DZ l c (Bq cx.P cx.G dd c)=none->findLabel c l=none:=by
 intro c;induction c with
 | seq c1 c2 yF ih2 =>
  intro h;simp only[Bq,DZ] at h;split at h;·cases h
  ·rename_i g1;split at h;·cases h
   {rename_i g2;simp[findLabel,yF g1,ih2 g2]}
 | label l' =>
  intro h;simp only[DZ] at h;split at h;·cases h
  {rename_i hl;simp[findLabel,hl]}
 | _=>intro _;simp[findLabel]
theorem W2 {y z:A1} {V:St}:Az M fuel (.seq y (.seq z r)) h dep V e=Az M fuel (.seq (.seq y z) r) h dep V e:=by
 simp only[Az];cases Az M fuel y h dep V e with
 | none=>rfl
 | some p =>
  obtain⟨x,s,e⟩:=p;cases x<;>rfl
theorem wc (U:JH cx dd M fuel c1) (s1:PF cx dd M fuel c1) (H:JH cx dd M fuel c2) (s2:PF cx dd M fuel c2):PF cx dd M fuel (.seq c1 c2):=by
 intro l y z h;simp only[Bq,DZ] at h;split at h;{rename_i x' y' g1;cases h;obtain⟨q1,rest,q2,q3⟩:=s1 l _ _ g1;refine⟨?_,.seq rest c2,by simp[findLabel,q2],RU q3 H⟩;have:=RU q1 H;intro E h dep R lp w0 I0 F0 O0 Hd ml ro V e x mM e2 mo;rw[W2] at mo;exact this E h dep R lp w0 I0 F0 O0 Hd ml ro V e x mM e2 mo}
 ·rename_i g1;split at h
  case h_2=>cases h
  rename_i x' y' g2;cases h;obtain⟨q1,rest,q2,q3⟩:=s2 l _ _ g2;refine⟨?_,rest,by simp[findLabel,eW l c1 g1,q2],q3⟩;have:=RU (cx:=cx) (M:=M) (fuel:=fuel) U q1;intro E h dep R lp w0 I0 F0 O0 Hd ml ro V e x mM e2 mo;rw[<-W2] at mo;exact this E h dep R lp w0 I0 F0 O0 Hd ml ro V e x mM e2 mo
theorem zao (h:JH cx dd M fuel c) (s:PF cx dd M fuel c):JH cx dd M fuel (.scope c):=by
 have plain:∀ (r:A1),DX cx M fuel r c->DX cx M fuel (.scope r) (.scope c):=by
  intro r h E hd dep R lp w0 I0 F0 O0 Hd ml ro V e x mM e2 mo mS o8 a w I F L Q hs hf hQ;simp only[Az] at mo
  have key:Az M fuel r hd dep V e=some (x,mM,e2)/\Mb x:=by
   split at mo;{rename_i id s3 e3 hq;split at mo;{rename_i hid;cases mo;exact⟨hq,hid⟩};·cases mo}
   ·rename_i mP;refine⟨mo,?_⟩;cases x with
    | exit id=>exact (mP _ _ _ mo).elim
    | _=>trivial
  exact WK key.2 (h E hd dep R lp w0 I0 F0 O0 Hd ml ro V e x mM e2 key.1 mS o8 a w I F L _ hs hf fun a' w' I' F' L' nT nx=>⟨rfl,hQ a' w' I' F' L' nT nx⟩)
 show DX cx M fuel (PK c (Bq cx.P cx.G dd c)) (.scope c);unfold PK;split;{exact plain _ h};rename_i l hl;split
 case h_2=>exact plain _ h
 rename_i y z ny;obtain⟨q1,rest,q2,q3⟩:=s l y z ny;intro E hd dep R lp w0 I0 F0 O0 Hd ml ro V e x mM e2 mo mS o8 a w I F L Q hs hf hQ;cases hy:Az M fuel y hd dep V e with
 | none=>simp[Az,hy] at mo
 | some p =>
  obtain⟨xy,sy,ey⟩:=p;by_cases hj:xy=.exit (B4+l)
  ·subst hj
   have hz:Az M fuel z hd dep sy ey=some (x,mM,e2)/\Mb x:=by
    simp only[Az,hy,lq] at mo;split at mo;{rename_i id s3 e3 hq;split at mo;{rename_i hid;cases mo;exact⟨hq,hid⟩};·cases mo}
    ·rename_i mP;refine⟨mo,?_⟩;cases x with
     | exit id=>exact (mP _ _ _ mo).elim
     | _=>trivial
   have hyz:Az M fuel (.seq y z) hd dep V e=some (.exit (B4+l),sy,ey):=by simp[Az,hy]
   refine cX q2 hz.2 (q1 E hd dep R lp w0 I0 F0 O0 Hd ml ro V e _ _ _ hyz mS o8 a w I F L _ hs hf fun a' w' I' F' L' nT nx=>⟨?_,?_⟩)
   ·have:¬ B4+l < B4:=by omega
    simp[CJ,this]
   {exact q3 E hd dep R lp w0 I0 F0 O0 Hd ml ro sy ey x mM e2 hz.1 mS o8 a' w' I' F' L' _ nT nx fun a2 w2 I2 F2 L2 pJ ql=>⟨rfl,hQ a2 w2 I2 F2 L2 pJ ql⟩}
  ·refine plain _ q1 E hd dep R lp w0 I0 F0 O0 Hd ml ro V e x mM e2 ?_ mS o8 a w I F L Q hs hf hQ;rw[<-mo];simp only[Az,hy];cases xy with
   | normal=>rfl
   | ret=>rfl
   | exit id =>
    have:id≠B4+l:=fun h=>hj (by rw[h]);simp[this]
theorem Zs (h:DX cx M fuel r c):DX cx M fuel (.seq r (.norm g)) c:=by
 intro E hh dep R lp w0 I0 F0 O0 Hd ml ro V e x mM e2 mo mS o8 a w I F L Q hs hf hQ;simp only[Az] at mo;cases hq:Az M fuel r hh dep V e with
 | none=>rw[hq] at mo;cases mo
 | some p =>
  obtain⟨y,s,e3⟩:=p;rw[hq] at mo;refine h E hh dep R lp w0 I0 F0 O0 Hd ml ro V e y s e3 hq mS o8 a w I F L Q hs hf fun a' w' I' F' L' nT nx=>?_;cases y with
  | normal =>
   cases mo;obtain⟨L1,pI,oM⟩:=Vg nT nx;obtain⟨L2,pJ,ql⟩:=Pu [] g pI oM;exact hQ a' w' I' F' L2 pJ ql
  | exit id=>cases mo;exact hQ a' w' I' F' L' nT nx
  | ret=>cases mo;exact hQ a' w' I' F' L' nT nx
theorem zap {l:Option lU} (h:DX cx M fuel r c):DX cx M fuel (.seq r (.region [] none l)) c:=by
 intro E hh dep R lp w0 I0 F0 O0 Hd ml ro V e x mM e2 mo mS o8 a w I F L Q hs hf hQ;simp only[Az] at mo;cases hq:Az M fuel r hh dep V e with
 | none=>rw[hq] at mo;cases mo
 | some p =>
  obtain⟨y,s,e3⟩:=p;rw[hq] at mo;refine h E hh dep R lp w0 I0 F0 O0 Hd ml ro V e y s e3 hq mS o8 a w I F L Q hs hf fun a' w' I' F' L' nT nx=>?_;cases y with
  | normal =>
   cases mo;obtain⟨L1,pI,oM⟩:=RS l nT nx;exact hQ a' w' I' F' L1 pI oM
  | exit id=>cases mo;exact hQ a' w' I' F' L' nT nx
  | ret=>cases mo;exact hQ a' w' I' F' L' nT nx
theorem zaq {b:A1} (p:Bool) (mT:lU) (grow:List (Nat×Nat)) (ih:DX cx M fuel b c):DX cx M fuel (S6 p mT grow b) (.loop c):=by
 intro E h dep R lp w0 I0 F0 O0 Hd ml ro V e x mM e2 mo mS o8 a w I F L Q hs hf hQ
 let K (ds:lU) (m:Nat) (a:Act) (w:lJ):Prop:=∃ V e I F L,SR lp I L V a.tmps.toList ml w/\Fr cx w0 I0 F0 O0 Hd R e a.defers I F L w/\Dx (fun (s:St×E)=>match Az M fuel b h dep s.1 s.2 with
  | some (.normal,V,e)=>some (.inl (norm mT grow (drop ds V),e))
  | some (x,V,e)=>some (.inr (x,V,e))
  | none=>none) m (V,e)=some (x,mM,e2)
 have hzero:∀ ds a w,¬ K ds 0 a w:=by rintro ds a w ⟨V,e,I,F,L,hs,hf,mG⟩;simp[Dx] at mG
 have sR:∀ ds m a w,K ds (m+1) a w->c.wpIn (De ro) 0 cx.P (Exit.then (K ds m) Q) a w:=by
  rintro ds m a w ⟨V,e,I,F,L,hs,hf,mG⟩;simp only[Dx] at mG;cases hb:Az M fuel b h dep V e with
  | none=>rw[hb] at mG;simp at mG
  | some r =>
   obtain⟨xb,stb,eb⟩:=r;rw[hb] at mG;refine ih E h dep R lp w0 I0 F0 O0 Hd ml ro V e xb stb eb hb mS o8 a w I F L _ hs hf fun a' w' I' F' L' nT nx=>?_;cases xb with
   | normal =>
    simp only at mG;obtain⟨L2,pJ,ql⟩:=bF ds nT nx;obtain⟨L3,zZ,z1⟩:=Pu mT grow pJ ql;exact⟨_,eb,I',F',L3,zZ,z1,mG⟩
   | exit id =>
    simp only[il,iP] at mG;obtain⟨rfl,rfl,rfl⟩:=mG;have:=hQ a' w' I' F' L' nT nx;simp only[CJ] at this |-;split<;>rename_i hid;{simp only[hid,lq] at this;exact this};{simp only[hid,lm] at this;exact this}
   | ret =>
    simp only[il,iP] at mG;obtain⟨rfl,rfl,rfl⟩:=mG;exact hQ a' w' I' F' L' nT nx
 have hloop:∀ {V:St} {e:E},Az M fuel (.loop mT grow b) h dep V e=some (x,mM,e2)->∃ ds,∀ a w I F L,SR lp I L V a.tmps.toList ml w->Fr cx w0 I0 F0 O0 Hd R e a.defers I F L w->K ds fuel a w:=by
  intro V e mo;simp only[Az] at mo;split at mo
  case h_2=>cases mo
  rename_i x' oO e3 hr;cases mo;refine⟨mQ (norm mT grow V),fun a w I F L hs hf=>?_⟩;obtain⟨L1,pI,oM⟩:=Pu mT grow hs hf;exact⟨_,_,I,F,L1,pI,oM,hr⟩
 cases p with
 | false =>
  obtain⟨ds,hk⟩:=hloop mo;refine WL (K ds) (fun m a w hm=>?_) (hk a w I F L hs hf);cases m with
  | zero=>exact (hzero ds a w hm).elim
  | succ m=>exact⟨m,rfl,sR ds m a w hm⟩
 | true =>
  simp only[S6,lq,Az] at mo;cases hb:Az M fuel b h dep V e with
  | none=>rw[hb] at mo;cases mo
  | some r =>
   obtain⟨xb,stb,eb⟩:=r;rw[hb] at mo
   have key:∀ (ds:lU),(∀ a' w' I' F' L',SR lp I' L' stb a'.tmps.toList ml w'->Fr cx w0 I0 F0 O0 Hd R eb a'.defers I' F' L' w'->(Exit.then (K ds fuel) Q) (CJ xb) a' w')->(Code.loop c).wpIn (De ro) 0 cx.P Q a w:=by
    intro ds hq;refine WL (fun m a' w'=>(m=fuel+1/\a'=a/\w'=w)\/(m<=fuel/\K ds m a' w')) (fun m a' w' hm=>?_) (.inl ⟨rfl,rfl,rfl⟩);rcases hm with ⟨rfl,rfl,rfl⟩ | ⟨hle,hm⟩
    {refine⟨fuel,rfl,ih E h dep R lp w0 I0 F0 O0 Hd ml ro V e xb stb eb hb mS o8 a' w' I F L _ hs hf fun a2 w2 I2 F2 L2 pJ ql=>?_⟩;have:=hq a2 w2 I2 F2 L2 pJ ql;revert this;cases CJ xb<;>intro this<;>first | exact this | exact .inr ⟨ik _,this⟩}
    ·cases m with
     | zero=>exact (hzero ds a' w' hm).elim
     | succ m =>
      refine⟨m,rfl,wpIn_mono (sR ds m a' w' hm) fun e2 a2 w2 H=>?_⟩;revert H;cases e2<;>intro H<;>first | exact H | exact .inr ⟨by omega,H⟩
   cases xb with
   | normal =>
    obtain⟨ds,hk⟩:=hloop mo;exact key ds hk
   | exit id =>
    cases mo;refine key [] fun a' w' I' F' L' nT nx=>?_;have:=hQ a' w' I' F' L' nT nx;simp only[CJ] at this |-;split<;>rename_i hid;{simp only[hid,lq] at this;exact this};{simp only[hid,lm] at this;exact this}
   | ret =>
    cases mo;exact key [] fun a' w' I' F' L' nT nx=>hQ a' w' I' F' L' nT nx
theorem zar {g:Option (List (Nat×Nat))} (h:DX cx M fuel r c):DX cx M fuel (Od g r) c:=by
 cases g with
 | none=>exact h
 | some g=>exact Zs h
theorem zas (hM:D4 cx M.call) (ny:GC cx M) (oW:E8 M):∀ c:Code,JH cx dd M fuel c/\PF cx dd M fuel c:=by
 intro c;induction c with
 | skip =>
  refine⟨?_,fun l0 y z oY=>by simp[DZ] at oY⟩;intro E h dep R lp w0 I0 F0 O0 Hd ml ro V e x mM e2 mo mS o8 a w I F L Q hs hf hQ;simp only[Bq,Az,il,iP] at mo;obtain⟨rfl,rfl,rfl⟩:=mo;exact wpIn_skip (hQ a w I F L hs hf)
 | region id ops draw =>
  refine⟨?_,fun l0 y z oY=>by simp[DZ] at oY⟩;refine zar (g:=(dd id).grow) ?_;intro E h dep R lp w0 I0 F0 O0 Hd ml ro V e x mM e2 mo mS o8 a w I F L Q hs hf hQ;cases draw with
  | false =>
   simp only[iq,lm,Sq] at mo;split at mo;{simp[Az] at mo};simp only[Az] at mo;split at mo;{rename_i oO e3 hr;cases mo;exact dy hM ny mS hr hs hf fun a' w' I' F' L' nT nx=>let ⟨L2,U,H⟩:=RS (dd id).lv nT nx;hQ a' w' I' F' L2 U H};{cases mo}
  | true =>
   simp only[lq] at mo;split at mo;{rename_i l hb;simp only[Az] at mo;split at mo;{rename_i oO e3 hr;cases mo;exact ec hM ny oW mS hb hr hs hf fun a' w' I' F' L' nT nx=>let ⟨L2,U,H⟩:=RS (dd id).lv nT nx;hQ a' w' I' F' L2 U H};{cases mo}};{simp[Az] at mo}
 | seq c1 c2 yF ih2=>exact⟨RU yF.1 ih2.1,wc yF.1 yF.2 ih2.1 ih2.2⟩
 | cond c c1 c2 yF ih2 =>
  refine⟨?_,fun l0 y z oY=>by simp[DZ] at oY⟩;intro E h dep R lp w0 I0 F0 O0 Hd ml ro V e x mM e2 mo mS o8 a w I F L Q hs hf hQ;simp only[Bq] at mo;split at mo;{rename_i rc hrc;simp only[Az] at mo;have hc:=Be hs hf.wd hrc;split at mo;{rename_i hb;rw[hb] at hc;exact wpIn_cond_true (Fd hc) (yF.1 E h dep R lp w0 I0 F0 O0 Hd ml ro V e x mM e2 mo mS o8 a w I F L Q hs hf hQ)};{rename_i hb;rw[hb] at hc;exact wpIn_cond_false (Fd hc) (ih2.1 E h dep R lp w0 I0 F0 O0 Hd ml ro V e x mM e2 mo mS o8 a w I F L Q hs hf hQ)};{cases mo}};{simp[Az] at mo}
 | block id c ih =>
  refine⟨?_,fun l0 y z oY=>by simp[DZ] at oY⟩;intro E h dep R lp w0 I0 F0 O0 Hd ml ro V e x mM e2 mo mS o8 a w I F L Q hs hf hQ;simp only[Bq] at mo;split at mo
  case isFalse=>simp[Az] at mo
  rename_i hidb;simp only[Az] at mo;refine wpIn_block ?_;split at mo;{rename_i pw oO e3 U;refine ih.1 E h dep R lp w0 I0 F0 O0 Hd ml ro V e (.exit pw) oO e3 U mS o8 a w I F L _ hs hf fun a' w' I' F' L' nT nx=>?_;by_cases hid:pw=id;{rw[lu hid] at mo;cases mo;subst hid;simp only[CJ,hidb,Exit.inBlock,lq];exact hQ a' w' I' F' L' nT nx};{rw[lr hid] at mo;cases mo;have:=hQ a' w' I' F' L' nT nx;simp only[CJ] at this |-;split<;>rename_i hid2;{simp only[hid2,lq] at this;simp only[Exit.inBlock,hid,lm];exact this};{simp only[hid2,lm] at this;exact this}}}
  ·rename_i mP;refine ih.1 E h dep R lp w0 I0 F0 O0 Hd ml ro V e x mM e2 mo mS o8 a w I F L _ hs hf fun a' w' I' F' L' nT nx=>?_;have:=hQ a' w' I' F' L' nT nx;cases x with
   | normal=>exact this
   | exit id=>exact (mP _ _ _ mo).elim
   | ret=>exact this
 | loop c ih =>
  refine⟨?_,fun l0 y z oY=>by simp[DZ] at oY⟩;exact zaq _ _ _ ih.1
 | rangeFunc f ps assign body qV qW =>
  refine⟨?_,fun l0 y z oY=>by simp[DZ] at oY⟩;intro E h dep R lp w0 I0 F0 O0 Hd ml ro V e x mM e2 mo mS o8 a w I F L Q hs hf hQ;simp only[Bq] at mo;split at mo;{rename_i rf v7;unfold VP at mo;split at mo;{exact ZF hM ny mS o8 qV.1 qW.1 v7 mo hs hf hQ};{simp only[Az] at mo;obtain⟨L0,rT,hf0⟩:=Vg hs hf;obtain⟨L1,pI,oM⟩:=Pu [] (My (HK (Bq cx.P cx.G dd body))) rT hf0;exact ZF hM ny mS o8 qV.1 (Zs (zap qW.1)) v7 mo pI oM hQ}};{simp[Az] at mo}
 | exit id =>
  refine⟨?_,fun l0 y z oY=>by simp[DZ] at oY⟩;intro E h dep R lp w0 I0 F0 O0 Hd ml ro V e x mM e2 mo mS o8 a w I F L Q hs hf hQ;simp only[Bq] at mo;split at mo
  case isFalse=>simp[Az] at mo
  rename_i hid;simp only[Az,il,iP] at mo;obtain⟨rfl,rfl,rfl⟩:=mo;have:=hQ a w I F L hs hf;simp only[CJ,hid,lq] at this;exact wpIn_exit this
 | scope c ih=>exact⟨zao ih.1 ih.2,fun l y z h=>by simp[DZ] at h⟩
 | label l =>
  refine⟨?_,?_⟩
  rotate_left
  intro l0 y z oY;simp only[DZ] at oY;split at oY
  case isFalse=>cases oY
  rename_i hl;cases oY;have hk:DX cx M fuel .skip .skip:=by intro E h dep R lp w0 I0 F0 O0 Hd ml ro V e x mM e2 mo mS o8 a w I F L Q hs hf hQ;simp only[Az,il,iP] at mo;obtain⟨rfl,rfl,rfl⟩:=mo;exact wpIn_skip (hQ a w I F L hs hf)
  refine⟨?_,.skip,by simp[findLabel,hl],hk⟩;intro E h dep R lp w0 I0 F0 O0 Hd ml ro V e x mM e2 mo mS o8 a w I F L Q hs hf hQ;simp only[Az,il,iP] at mo;obtain⟨rfl,rfl,rfl⟩:=mo;exact wpIn_label (hQ a w I F L hs hf);intro E h dep R lp w0 I0 F0 O0 Hd ml ro V e x mM e2 mo mS o8 a w I F L Q hs hf hQ;simp only[Bq,Az,il,iP] at mo;obtain⟨rfl,rfl,rfl⟩:=mo;exact wpIn_label (hQ a w I F L hs hf)
 | goto l =>
  refine⟨?_,fun l0 y z oY=>by simp[DZ] at oY⟩;intro E h dep R lp w0 I0 F0 O0 Hd ml ro V e x mM e2 mo mS o8 a w I F L Q hs hf hQ;simp only[Bq,Az,il,iP] at mo;obtain⟨rfl,rfl,rfl⟩:=mo;have hn:¬ B4+l < B4:=by omega
  have:=hQ a w I F L hs hf;simp only[CJ,hn,lm,kd] at this;exact wpIn_goto this
 | ret =>
  refine⟨?_,fun l0 y z oY=>by simp[DZ] at oY⟩;intro E h dep R lp w0 I0 F0 O0 Hd ml ro V e x mM e2 mo mS o8 a w I F L Q hs hf hQ;simp only[Bq,Az,il,iP] at mo;obtain⟨rfl,rfl,rfl⟩:=mo;exact wpIn_ret (hQ a w I F L hs hf)
 | refuse r =>
  refine⟨?_,fun l0 y z oY=>by simp[DZ] at oY⟩;intro E h dep R lp w0 I0 F0 O0 Hd ml ro V e x mM e2 mo;simp[Bq,Az] at mo
theorem R9 (hM:D4 cx M.call) (ny:GC cx M) (oW:E8 M):∀ c:Code,JH cx dd M fuel c:=fun c=>(zas hM ny oW c).1
end
end Go.Ab


namespace Go.Ab
variable{M:AK} {P:lO} {Rr:Ending->lJ->Prop} {dd:lL->DH} {fn:Func} {g:lL} {obs:lY} {p:Option (Nat×Nat)} {rf:Ah} {mq:lL->l6} {tmps:Array lK} {u:lK} {us:List lK} {A:lS}
section
variable {E:Type} {cx:Cx} {w0:lJ} {I0 F0:Nat->Prop} {O0:BE} {Hd:Nat->Option Obj} {R:Bs E} {e:E} {F:Nat->Prop} {lp:Nat->lT} {ml mN:List lK}
variable {I:Nat->Prop} {L:As} {V:St} {w:lJ} {ds:List lQ}
theorem VO (hs:SR lp I L V mN ml w):∀ (rv:List ResultVar) (rs:List F7) (A:lS),NC P rv=some rs->Dl V rs=some A ->
  ∃ us,(rv.mapM fun (r:ResultVar)=>(match r with
   | .tmp t=>pure (mN.toArray.getD t undef)
   | .cell a t=>do loadVar t (<-asAddr (mN.toArray.getD a undef)):Sem lK)).run P w=.ok us w/\Ai w I lp (some L) A us:=by
 intro rv;induction rv with
 | nil =>
  intro rs A U H;simp only[NC,il] at U;subst U;simp only[Dl,il] at H;subst H;exact⟨[],rfl,.nil⟩
 | cons r rv ih =>
  intro rs A U H;simp only[NC] at U;split at U
  case h_2=>cases U
  rename_i x Z O n6;cases U;simp only[Dl] at H;split at H
  case h_2=>cases H
  rename_i v yL hv qz;cases H;obtain⟨us,q1,q2⟩:=ih Z yL n6 qz
  have key:∃ u,(match r with
   | .tmp t=>pure (mN.toArray.getD t undef)
   | .cell a t=>do loadVar t (<-asAddr (mN.toArray.getD a undef)):Sem lK).run P w=.ok u w/\Am w I lp (some L) v u:=by
   cases r with
   | tmp t =>
    simp only[il] at O;subst O;simp only[HW,il] at hv;subst hv;refine⟨mN.toArray.getD t undef,rfl,?_⟩;rw[Ve];exact hs.tm.getD t undef
   | cell a t =>
    simp only[ij] at O;obtain⟨⟨n,ag⟩,oD,rfl⟩:=O;simp only[HW] at hv;split at hv
    case h_2=>cases hv
    rename_i J o hr;split at hv
    case h_2=>cases hv
    rename_i cs nq;have mG:=hs.tm.getD a undef;rw[hr] at mG;obtain⟨b,C,hL,hbv⟩:=FJ mG;obtain⟨p,hp,ha⟩:=hs.ob J _ nq;rw[hL] at hp;cases hp;obtain⟨c,E',hb,hC,nk,s9⟩:=ha;obtain⟨u,hu,rM⟩:=Pp s9 nk.1 hv;refine⟨u,?_,rM⟩
    have ry:=QB (P:=P) oD (off:=o) hb (v:=u) (by
     cases ag;·simpa using hu
     ·simp only[lq] at hu |-;refine⟨by simpa using hu.1,?_⟩;rw[hu.2,OF,kd])
    show (do loadVar t (<-asAddr (mN.toArray.getD a undef)):Sem lK).run P w=_;rw[Ve];have hbv':mN.toArray.toList.getD a undef=.pointer (some ⟨b,o,none⟩):=hbv;rw[hbv'];simpa[Instr.loadAt,Instr.sureAddr,asAddr] using ry
  obtain⟨u,k1,k2⟩:=key;refine⟨u :: us,?_,.cons _ _ _ _ k2 q2⟩;rw[jv,Sem.run_bind,k1,Result.andThen_ok,Sem.run_bind,q1,Result.andThen_ok];rfl
theorem aU (h:Ai w I lp (some L) A us):Am w I lp (some L) (EL A) (if h:us.toArray.size=1 then us.toArray[0] else .tuple us.toArray):=by
 match A,us,h with
 | [],[],.nil=>exact .mn [] #[] .nil
 | [v],[u],.cons _ _ _ _ h .nil=>exact h
 | v :: v' :: A,u :: u' :: us,h =>
  have:¬ (u :: u' :: us).toArray.size=1:=by simp
  rw[dif_neg this];exact .mn _ _ (by simpa using h)
theorem fF:∀ {S:lW},C0 S=true->∀ (i j:Nat) (J:Nm),S[i]?=some J->S[j]?=some J->i=j:=by
 intro S;induction S with
 | nil=>intro _ i j J h;simp at h
 | cons x S ih =>
  intro h i j J hi hj;simp only[C0,ie,jt] at h;obtain⟨U,H⟩:=h;have O:x ∉ S:=by simpa using U
  cases i with
  | zero =>
   cases j with
   | zero=>rfl
   | succ j=>simp at hi hj;subst hi;exact lH (iz hj) O
  | succ i =>
   cases j with
   | zero=>simp at hi hj;subst hj;exact lH (iz hi) O
   | succ j=>simp at hi hj;rw[ih H i j J hi hj]
theorem gI {ob:Ob} (h:JU ob=true):JU ob.bare=true:=by cases ob<;>first | exact h | rfl
theorem Ba.bare {w:lJ} {I:Nat->Prop} {lp:Nat->lT} {L:As} {ob:Ob} (h:Ba w I lp L ob p):Ba w I lp L ob.bare p:=by
 cases p with
 | none=>obtain⟨k,kt,rfl⟩:=h;exact⟨k,0,rfl⟩
 | some p =>
  cases ob with
  | arr k kt Z=>obtain⟨c,E,U,H,h3,h4⟩:=h;exact⟨c,E,U,H,⟨h3.1,.inl rfl⟩,h4⟩
  | cells ty cs=>exact h
  | map es=>exact h
  | mD s p=>exact h
theorem hand_ok {shut:Bool} (hs:SR lp I L V mN ml w) (hf:Fr cx w0 I0 F0 ⟨fun _=>False,[]⟩ Hd R e ds I F L w) {v v':PV} (hv:Am w I lp (some L) v u) (h:Jp shut V v=some (v',obs)) :
  ∃ I' ps,NG cx R lp I0 F0 w0 v' obs e u w I' F ps:=by
 simp only[Jp] at h;generalize hS:(if (C0 (HF shut v)&&(HF shut v).all fun J=>!(AI (Ac V.mi) AG (v.names.filter fun J=>!(HF shut v).contains J)).contains J)=true then HF shut v else [])=S at h;generalize rP:AI (Ac V.mi) AG (v.names.filter fun J=>!S.contains J)=Rn at h;split at h
 case h_2=>cases h
 rename_i uA hm;obtain⟨hk,h⟩:=AQ h;cases h;simp only[ie] at hk;obtain⟨hR,n7⟩:=hk;obtain⟨m1,m2⟩:=Un S uA hm;have hSnd:C0 S=true/\∀ J∈S,J ∉ Rn:=by by_cases hc:(C0 (HF shut v)&&(HF shut v).all fun J=>!(AI (Ac V.mi) AG (v.names.filter fun J=>!(HF shut v).contains J)).contains J)=true;{rw[lu hc] at hS;subst hS;rw[ie] at hc;refine⟨hc.1,fun J hn=>?_⟩;have:=iy.1 hc.2 J hn;rw[rP] at this;simpa using this};{rw[lr hc] at hS;subst hS;exact⟨rfl,fun J hn=>by cases hn⟩}
 obtain⟨pj,hdis⟩:=hSnd;have oW:∀ (j:Nat) (J:Nm),S[j]?=some J->∃ p ob,L J=some p/\uA[j]?=some ob/\Ba w I lp L ob p:=by intro j J hj;obtain⟨ob,U,H⟩:=m2 j J hj;obtain⟨p,hp,ha⟩:=hs.ob J ob H;exact⟨p,ob,hp,U,ha⟩
 refine⟨CW I L Rn,S.map (fun J=>(L J).getD none),?_⟩;have tq:=hf.freeze Rn;have yD:∀ (j:Nat) (p:Option (Nat×Nat)),(S.map fun J=>(L J).getD none)[j]?=some p->∃ J,S[j]?=some J/\L J=some p:=by intro j p hj;rw[iC,ij] at hj;obtain⟨J,U,H⟩:=hj;obtain⟨q,ob,hq,_,_⟩:=oW j J U;rw[hq] at H;simp only[iT] at H;subst H;exact⟨J,U,hq⟩
 refine⟨tq.ext,tq.sep,tq.wd,tq.re,by rw[iW,iW,m1],?_,?_,?_,?_,by rw[List.all_map];exact iy.2 fun ob ho=>gI (iy.1 n7 ob ho)⟩;{intro j ob p hj hp;obtain⟨J,U,H⟩:=yD j p hp;obtain⟨q,qm,hq,ho,ha⟩:=oW j J U;rw[H] at hq;cases hq;rw[iC,ho] at hj;cases hj;have hj:=ho;refine Ba.bare ?_;exact (ha.mono (I':=CW I L Rn) (fun _ h=>.inl h) (fun _ _=>rfl) (fun _ _ h=>h) fun _ _ _=>rfl).ofArr (iy.1 n7 _ (iz hj))};{intro j b C hj;obtain⟨J,U,H⟩:=yD j _ hj;obtain⟨g1,g2,g3,g4⟩:=hf.lB J b C H;refine⟨g1.elim id fun h=>h.elim,g2,?_,g4⟩;rintro (hb | ⟨nr,qn,C',tD⟩);{exact g3 hb};{have:=hf.inj J nr b C C' H tD;subst this;exact hdis J (iz U) qn}};{intro j j' b C C' U H;obtain⟨J,a1,a2⟩:=yD j _ U;obtain⟨nr,b1,b2⟩:=yD j' _ H;have:=hf.inj J nr b C C' a2 b2;subst this;exact fF pj j j' J a1 b1}
 ·have pA:DR w (CW I L Rn) lp L (some fun J=>if J∈S then L J else none) (fun J=>J∈S\/J∈Rn) (fun J=>if S.contains J then none else A7 (Ac V.mi) J):=by
   intro J p hn hp;by_cases hm:J∈S
   ·have:S.contains J=true:=by simpa using hm
    simp only[this,lq];exact⟨_,rfl,by simp[hm,hp]⟩
   ·have:S.contains J=false:=by simpa using hm
    simp only[this,iq,lm];have:=O6 hs hR (none) J p (hn.resolve_left hm) hp;cases oi:A7 (Ac V.mi) J with
    | none=>simp[A7] at oi
    | some q =>
     rw[oi] at this;cases q with
     | none=>trivial
     | some ob=>exact this
  have U:=Am.subst (I':=CW I L Rn) (fun b hb=>.inl hb) pA hv (fun J hn=>by
   by_cases hm:J∈S
   ·exact .inl hm
   ·refine .inr ?_;rw[<-rP];exact DI _ _ _ (ju.2 ⟨hn,by simpa using hm⟩))
  refine Am.rename (fun J p hp=>?_) U;split at hp
  ·rename_i hm;have o7:=lg hm;have nM:S[S.idxOf J]?=some J:=by rw[iG o7];simp
   simp[JM,Qj,Ck,nM,hp]
  {cases hp}
theorem YL:∀ {ds:List lQ} {w:lJ} {lo:Nat} {I F:Nat->Prop} {L:As},Cg lo I F L w ds []->(∀ w':lJ,w'.os=w.os->w'.tape=w.tape->w'.output=w.output->w'.heap.size=w.heap.size ->
   (∀ b,(b < lo\/I b\/F b\/∃ J C,L J=some (some (b,C)))->w'.heap[b]?=w.heap[b]?)->∃ v,(results fn tmps).run P w'=.ok v w'/\Rr (.returned v) w') ->
  LeavesInM Fence.wide 0 P fn tmps Rr ds .returning w:=by
 intro ds;induction ds with
 | nil =>
  intro w lo I F L _ h;obtain⟨v,U,H⟩:=h w rfl rfl rfl rfl fun _ _=>rfl;exact⟨v,U,H⟩
 | cons d ds ih =>
  intro w lo I F L hm h;cases hm with
  | cons D _ _ U H h3 h4 h5 h6 h7 hr =>
   refine⟨by simp,.inl ⟨D,_,rfl,run_takeDeferred h6,?_⟩⟩;have hk:∀ b,b≠D->(w.putObj D (.deferred none)).heap[b]?=w.heap[b]?:=fun b hb=>World.putObj_heap_other hb;have oL:(w.putObj D (.deferred none)).heap.size=w.heap.size:=World.putObj_size
   have wb:Cg lo I F L (w.putObj D (.deferred none)) ds []:=by
    have key:∀ ds rs,Cg lo I F L w ds rs->(∀ d∈ds,d.target≠.collected D)->Cg lo I F L (w.putObj D (.deferred none)) ds rs:=by
     intro ds rs hm;induction hm with
     | call d' ds rs hd _ ih=>intro mP;exact .call d' ds rs hd (ih fun d hd=>mP d (iA _ hd))
     | nil=>intro _;exact .nil
     | cons D' ds rs g1 g2 g3 g4 g5 g6 g7 _ ih =>
      intro mP;have hDD:D'≠D:=fun e=>mP {target:=.collected D',args:=#[]} iw (by rw[e]);exact .cons D' ds rs g1 (by rw[oL];exact g2) g3 g4 g5 ((hk D' hDD).trans g6) g7 (ih fun d hd=>mP d (iA _ hd))
    exact key ds _ hr h7
   refine ih wb fun w' e1 e2 e3 e4 e5=>h w' e1 e2 e3 (by rw[e4,oL]) fun b hb=>?_;have mP:b≠D:=by rintro rfl;rcases hb with hb | hb | hb | ⟨J,C,hb⟩;{omega};{exact h3 hb};{exact h4 hb};{exact h5 J C hb}
   exact (e5 b hb).trans (hk b mP)
end
def Ll (cx:Cx) (mq:lL->l6) (dd:lL->DH):Prop:=∀ f fn,mq f=some fn->Lj cx.P cx.G (dd f) f=some {fn with io:=false,shut:=false,nC:=false,gone:=[],mX:=false}
theorem VI {cx:Cx} (pn:Ll cx mq dd) (v7:mq g=some rf):∃ fn c,cx.P.funcs[g]?=some fn/\fn.body=some c/\NC cx.P fn.results.toList=some rf.res/\¬ (fn.name == "runtime.NumGoroutine")=true/\rf.nt=fn.ntmps/\rf.code=Bq cx.P cx.G (dd g) c:=by
 have hcf:=pn g rf v7;unfold Lj at hcf;split at hcf
 case h_2=>cases hcf
 rename_i fn pY;split at hcf
 case h_2=>cases hcf
 rename_i c rs om uC;split at hcf
 case isTrue=>cases hcf
 rename_i nU;obtain⟨nt,code,res,io⟩:=rf;simp only[il,Ah.mk.injEq,and_true] at hcf;obtain⟨rfl,rfl,rfl⟩:=hcf;exact⟨fn,c,pY,om,uC,nU,rfl,rfl⟩
theorem we {cx:Cx} (hM:D4 cx M.call) (ny:GC cx M) (oW:E8 M) (pn:Ll cx mq dd) (n:Nat):D4 cx (HN M n mq):=by
  intro E h R dep lp Ir rQ wr g args e r obs e' hc hand hdep;simp only[HN] at hc;split at hc;·cases hc
  rename_i rf v7;obtain⟨fn,c,pY,om,uC,nU,qU,sI⟩:=VI pn v7;rw[qU,sI] at hc;split at hc
  case h_2=>cases hc
  rename_i x mM e2 mo;refine⟨⟨fn,pY,by simpa using nU,by rw[om];rfl⟩,fun I F w A O uz hwd sF mG=>?_⟩;have oX:x≠.normal->x=.ret\/∃ id,x=.exit id:=by cases x<;>simp
  have rE:∀ id,x≠.exit id:=by rintro id rfl;simp at hc
  have uq:(match Dl mM rf.res with
     | some A=>match Jp rf.shut mM (EL A) with
      | some (v,obs)=>some (v,obs,e2)
      | none=>none
     | none=>none)=some (r,obs,e'):=by
   cases x with
   | normal=>exact hc
   | ret=>exact hc
   | exit id=>exact lH rfl (rE id)
  split at uq
  case h_2=>cases uq
  rename_i rvs hrvs;split at uq
  case h_2=>cases uq
  rename_i v' uA hho;cases uq;refine callsIn_of_wp_marks pY om trivial ?_;have hlen:=mG.length
  have qA:SR lp I (fun _=>none) {tmps:=args++List.replicate (fn.ntmps - args.length) .undef,mi:=List.replicate fn.ntmps [],mj:=[]} (A.toArray++Array.replicate (fn.ntmps - A.toArray.size) undef).toList [] w:=by
   refine⟨?_,.nil,fun J ob hl=>?_,fun J _=>rfl⟩;{have H:Ai w I lp (some fun _=>none) (List.replicate (fn.ntmps - args.length) PV.undef) (List.replicate (fn.ntmps - args.length) undef):=Ai.mQ _ _ (by simp);have:=(mG.lift (some fun _=>none)).append H;simpa[hlen] using this}
   ·exfalso
    have hnone:Ac (List.replicate fn.ntmps []) J=none:=by
     unfold Ac;cases hg:(List.replicate fn.ntmps ([]:lY))[J.1]? with
     | none=>rfl
     | some l =>
      have:=kF (iz hg);subst this;simp
    rw[hnone] at hl;cases hl
  have tL:Fr cx w I F ⟨fun _=>False,[]⟩ (fun _=>none) R e [] I F (fun _=>none) w :=
   ⟨BS.refl _ _ _,uz,fun b hb=>hb.elim,fun J b C hn=>(by cases hn),fun J nr b C C' hn=>(by cases hn),hwd,sF,.nil,fun b ob hb=>(by cases hb)⟩
  refine R9 (dd:=dd g) (M:=M) hM ny oW c E h dep R lp w I F ⟨fun _=>False,[]⟩ (fun _=>none) [] none _ e x mM e' mo ⟨⟨Ir,rQ,wr,hand,O⟩,hdep⟩ (fun l0 he=>by cases he) {tmps:=_,defers:=[]} w I F _ _ qA tL ?_;rintro a' w' I' F' L' nT nx
  have rX:LeavesInM Fence.wide 0 cx.P fn a'.tmps (aD cx R lp I F w r obs e') a'.defers .returning w':=by
   refine YL nx.rq fun w2 e1 e3 e4 e5 e6=>?_;have uR:∀ b,I' b->w2.heap[b]?=w'.heap[b]?:=fun b hb=>e6 b (.inr (.inl hb));have hkF:∀ b,F' b->w2.heap[b]?=w'.heap[b]?:=fun b hb=>e6 b (.inr (.inr (.inl hb)));have pJ:SR lp I' L' mM a'.tmps.toList [] w2:=nT.keeps (fun _ h=>h) uR fun J b C hn=>e6 b (.inr (.inr (.inr ⟨J,C,hn⟩)))
   have ql:Fr cx w I F ⟨fun _=>False,[]⟩ (fun _=>none) R e' [] I' F' L' w2:=by
    refine⟨⟨e1.trans nx.ext.os,e3.trans nx.ext.tape,e4.trans nx.ext.output,by rw[e5];exact nx.ext.size,fun b hb hF=>(e6 b (.inl hb)).trans (nx.ext.mj b hb hF),nx.ext.pV,nx.ext.py,nx.ext.pL⟩,
     ⟨fun b hb=>by rw[e5];exact nx.sep.iB b hb,fun b hb=>⟨by rw[e5];exact (nx.sep.fB b hb).1,(nx.sep.fB b hb).2⟩⟩,fun b hb=>hb.elim,fun J b C hn=>?_,nx.inj,?_,?_,.nil,fun b ob hb=>by cases hb⟩
    {obtain⟨q1,q2,q3,q4⟩:=nx.lB J b C hn;exact⟨q1,by rw[e5];exact q2,q3,q4⟩};{exact cx.pW I' I' w' w2 nx.wd (fun _ h=>h) uR (by rw[e5];exact ik _)};{exact R.pW e' I' I' F' w' w2 nx.re (fun _ h=>h) (fun b hb=>hb.elim (uR b) (hkF b)) (by rw[e5];exact ik _)}
   obtain⟨us,q1,q2⟩:=VO pJ (P:=cx.P) fn.results.toList rf.res rvs uC hrvs;obtain⟨I3,ps,ov⟩:=hand_ok pJ ql (aU q2) hho;refine⟨_,?_,⟨I3,F',ps,ov⟩⟩;unfold results;rw[Sem.run_bind,kV,Sem.run_map];rw[jx] at q1;exact (lD (fun r:Result (List lK)=>(r.andThen fun a w'=>Result.ok a.toArray w').andThen fun a w'=>Sem.run cx.P (pure (if h:a.size=1 then a[0] else Value.tuple a)) w') q1).trans rfl
  cases x with
  | normal=>exact rX
  | ret=>exact rX
  | exit id=>exact lH rfl (rE id)
theorem zat {cx:Cx} (hM:D4 cx M.call) (ny:GC cx M) (oW:E8 M) (pn:Ll cx mq dd) (n:Nat):zG cx (JO M n mq):=by
 intro E h dep g ins A e mM e2 hc;unfold JO at hc;split at hc;·cases hc
 rename_i rf v7;obtain⟨fn,c,pY,om,uC,nU,qU,sI⟩:=VI pn v7;obtain⟨hk,hc⟩:=AQ hc;simp only[ie,lw,iS] at hk;obtain⟨sF,⟨hvl,tt⟩,v8⟩:=hk
 have O:∃ x,(∀ id,x≠.exit id)/\Az M n rf.code h dep (EQ rf.gone rf.nt ins A) e=some (x,mM,e2):=by
  split at hc;·cases hc
  {rename_i hq;cases hc;exact⟨.normal,by simp,hq⟩};{rename_i hq;cases hc;exact⟨.ret,by simp,hq⟩};·cases hc
 obtain⟨x,rE,mo⟩:=O;refine⟨⟨fn,pY,by simpa using nU,by rw[om];rfl⟩,rf.gone,rf.nt,hvl,tt,v8,?_⟩;intro R lp w I F0 F zzd L us wv hand hdep hul rT hf0;rw[sI] at mo;refine callsIn_of_wp_marks pY om trivial ?_;have qA:SR lp I L (EQ rf.gone rf.nt ins A) (us.toArray++Array.replicate (fn.ntmps - us.toArray.size) undef).toList wv w:=by simpa[qU] using rT
 refine R9 (dd:=dd g) (M:=M) hM ny oW c E h dep R lp w I F0 ⟨zzd,[]⟩ (fun _=>none) wv none _ e x mM e2 mo ⟨⟨I,F0,w,hand,BS.refl _ _ _⟩,hdep⟩ (fun l0 he=>by cases he) {tmps:=_,defers:=[]} w I F L _ qA hf0 ?_;rintro a' w' I' F' L' nT nx
 have rX:LeavesInM Fence.wide 0 cx.P fn a'.tmps (fun
   | .returned _,w'=>∃ mN I' F' L',SR lp I' L' mM mN wv w'/\Fr cx w I F0 ⟨zzd,[]⟩ (fun _=>none) R e2 [] I' F' L' w'
   | _,_=>False) a'.defers .returning w':=by
  refine YL nx.rq fun w2 e1 e3 e4 e5 e6=>?_;have uR:∀ b,I' b->w2.heap[b]?=w'.heap[b]?:=fun b hb=>e6 b (.inr (.inl hb));have hkF:∀ b,F' b->w2.heap[b]?=w'.heap[b]?:=fun b hb=>e6 b (.inr (.inr (.inl hb)));have pJ:SR lp I' L' mM a'.tmps.toList wv w2:=nT.keeps (fun _ h=>h) uR fun J b C hn=>e6 b (.inr (.inr (.inr ⟨J,C,hn⟩)))
  have ql:Fr cx w I F0 ⟨zzd,[]⟩ (fun _=>none) R e2 [] I' F' L' w2:=by
   refine⟨⟨e1.trans nx.ext.os,e3.trans nx.ext.tape,e4.trans nx.ext.output,by rw[e5];exact nx.ext.size,fun b hb hF=>(e6 b (.inl hb)).trans (nx.ext.mj b hb hF),nx.ext.pV,nx.ext.py,nx.ext.pL⟩,
    ⟨fun b hb=>by rw[e5];exact nx.sep.iB b hb,fun b hb=>⟨by rw[e5];exact (nx.sep.fB b hb).1,(nx.sep.fB b hb).2⟩⟩,nx.oF,fun J b C hn=>?_,nx.inj,?_,?_,.nil,fun b ob hb=>by cases hb⟩
   {obtain⟨q1,q2,q3,q4⟩:=nx.lB J b C hn;exact⟨q1,by rw[e5];exact q2,q3,q4⟩};{exact cx.pW I' I' w' w2 nx.wd (fun _ h=>h) uR (by rw[e5];exact ik _)};{exact R.pW e2 I' I' F' w' w2 nx.re (fun _ h=>h) (fun b hb=>hb.elim (uR b) (hkF b)) (by rw[e5];exact ik _)}
  obtain⟨qb,q1,q2⟩:=VO pJ (P:=cx.P) fn.results.toList rf.res [] uC (by rw[sF];rfl);refine⟨if h:qb.toArray.size=1 then qb.toArray[0] else .tuple qb.toArray,?_,a'.tmps.toList,I',F',L',pJ,ql⟩;unfold results;rw[Sem.run_bind,kV,Sem.run_map];rw[jx] at q1;exact (lD (fun r:Result (List lK)=>(r.andThen fun a w'=>Result.ok a.toArray w').andThen fun a w'=>Sem.run cx.P (pure (if h:a.size=1 then a[0] else Value.tuple a)) w') q1).trans rfl
 cases x with
 | normal=>exact rX
 | ret=>exact rX
 | exit id=>exact lH rfl (rE id)
end Go.Ab


namespace Go.Ab
variable{E:Type} {D dep k n:Nat} {F:Fence} {G:EO} {Hd:Nat->Option Obj} {L:As} {O0:BE} {P:lO} {R Rr:Ending->lJ->Prop} {args:md} {c:Code} {cs:List Frame} {ds:List lQ} {f:RX} {fn:Func} {g:Option (List (Nat×Nat))} {l:lU} {lp:Nat->lT} {r:A1} {mM:St} {ml:List lK} {tmps:Array lK} {u:FrameMode} {w w0:lJ} {x:Ex} {e:E} {h:AF E}
inductive Hn (nt:Nat):lU->List lK->List lQ->Prop
 | nil:Hn nt [] [] []
 | cons (k:Nat) (l:lU) (us pad:List lK) (rs:List lQ) (fn:Fn) (fst mO:Array lK) (args:List lK) (hk:args.length=k) (hn:1+k+pad.length=nt) (h:Hn nt l us rs) :
   Hn nt (k :: l) (.func fn fst mO :: (args++pad)++us) ({target:=.fn fn mO,args:=fst++args.toArray} :: rs)
theorem Hn.append {nt:Nat} {l':lU} {us qb:List lK} {rs q8:List lQ} (h:Hn nt l us rs) (h':Hn nt l' qb q8):Hn nt (l++l') (us++qb) (rs++q8):=by
 induction h with
 | nil=>exact h'
 | cons k l us pad rs fn fst mO args hk hn _ ih =>
  have:=Hn.cons k _ _ pad _ fn fst mO args hk hn ih;simpa[iX] using this
theorem IS.more {M:AK} {r1 r2:l8} {V:St} {e2:E} (hr:IS M h dep r1 l V e mM e2):IS M h dep (r1++r2) l V e mM e2:=by
 induction hr with
 | nil V e=>exact .nil V e
 | cons i rest o V uu mM e e1 e2 ho hs _ ih =>
  have hi:i < r1.length:=(ix.1 ho).1;refine .cons i rest o V uu mM e e1 e2 (by rw[jd hi];exact ho) ?_ ih
  have hw:∀ b,BO r1 o V.tmps=some b->BO (r1++r2) o V.tmps=some b:=by
   intro b hb;unfold BO at hb |-;split at hb;{exact hb}
   ·rename_i j want hg;cases hj:r1[j]? with
    | none=>rw[hj] at hb;cases hb
    | some p =>
     have mL:j < r1.length:=(ix.1 hj).1;rw[hj] at hb;rw[jd mL,hj];exact hb
  unfold stepG at hs |-;cases hq:BO r1 o V.tmps with
  | none=>rw[hq] at hs;cases hs
  | some b =>
   rw[hq] at hs;rw[hw b hq];cases b<;>exact hs
section
variable {cx:Cx} {dd:DH} {M:AK} {fuel nt:Nat}
theorem zau (g:List (Nat×Nat)) (f:RX) (ps:lU) (a b:A1) (V:St):AX M fuel nt (.seq (.norm g) (.rangeFunc f ps a b)) V=FS (Az M fuel (.seq (.norm g) (.rangeFunc f ps a b)) AL 0 V ()):=by
 have e2:Az M fuel (.seq (.norm g) (.rangeFunc f ps a b)) AL 0 V ()=Az M fuel (.rangeFunc f ps a b) AL 0 (norm [] g (trim V)) ():=rfl;rw[e2]
 show (match AX M fuel nt (.rangeFunc f ps a b) (norm [] g (trim V)) with
  | some (x,V,l')=>some (x,V,l'++[])
  | none=>none)=_
 rw[show AX M fuel nt (.rangeFunc f ps a b) (norm [] g (trim V))=FS (Az M fuel (.rangeFunc f ps a b) AL 0 (norm [] g (trim V)) ()) from rfl];cases Az M fuel (.rangeFunc f ps a b) AL 0 (norm [] g (trim V)) () with
 | none=>rfl
 | some p=>rfl
theorem UY:∀ (c:A1) (V:St) (r:Ex×St×lU),CU c=true->AX M fuel nt c V=some r->FS (Az M fuel c AL 0 V ())=some r:=by
 intro c;induction c with
 | seq a b qV qW =>
  intro V r hn mo;simp only[CU,ie] at hn;simp only[AX] at mo;cases ha:AX M fuel nt a V with
  | none=>rw[ha] at mo;cases mo
  | some q =>
   obtain⟨x,s1,l1⟩:=q;have U:=qV V _ hn.1 ha;rw[ha] at mo;simp only[Az];cases hc:Az M fuel a AL 0 V () with
   | none=>rw[hc] at U;cases U
   | some q2 =>
    obtain⟨x2,s2,u⟩:=q2;rw[hc] at U;cases U;cases x with
    | normal =>
     simp only at mo |-;cases hb:AX M fuel nt b s1 with
     | none=>rw[hb] at mo;cases mo
     | some q3 =>
      obtain⟨x3,s3,l3⟩:=q3;rw[hb] at mo;simp only[j6] at mo;rw[<-mo];exact qW s1 _ hn.2 hb
    | exit id=>exact mo
    | ret=>exact mo
 | cond c a b qV qW =>
  intro V r hn mo;simp only[CU,ie] at hn;simp only[AX] at mo;simp only[Az];split at mo;{exact qV V r hn.1 mo};{exact qW V r hn.2 mo};·cases mo
 | block id b ih =>
  intro V r hn mo;simp only[CU] at hn;simp only[AX] at mo;cases ha:AX M fuel nt b V with
  | none=>rw[ha] at mo;cases mo
  | some q =>
   obtain⟨x,s1,l1⟩:=q;have U:=ih V _ hn ha;rw[ha] at mo;simp only[Az];cases hc:Az M fuel b AL 0 V () with
   | none=>rw[hc] at U;cases U
   | some q2 =>
    obtain⟨x2,s2,u⟩:=q2;rw[hc] at U;cases U;cases x with
    | exit pw =>
     simp only at mo |-;split at mo<;>rename_i hid;{rw[lu hid];exact mo};{rw[lr hid];exact mo}
    | normal=>exact mo
    | ret=>exact mo
 | scope b ih =>
  intro V r hn mo;simp only[CU] at hn;simp only[AX] at mo;split at mo;·cases mo
  cases ha:AX M fuel nt b V with
  | none=>rw[ha] at mo;cases mo
  | some q =>
   obtain⟨x,s1,l1⟩:=q;have U:=ih V _ hn ha;rw[ha] at mo;simp only[Az];cases hc:Az M fuel b AL 0 V () with
   | none=>rw[hc] at U;cases U
   | some q2 =>
    obtain⟨x2,s2,u⟩:=q2;rw[hc] at U;cases U;cases x with
    | exit pw =>
     simp only at mo |-;split at mo<;>rename_i hid;{rw[lu hid];exact mo};·cases mo
    | normal=>exact mo
    | ret=>exact mo
 | pZ=>intro V r hn;cases hn
 | _=>intro V r _ mo;exact mo
theorem eF {V:St} (h:AX M fuel nt (Od g r) V=some (x,mM,l)) :
  ∃ st4,AX M fuel nt r V=some (x,st4,l)/\(mM=st4\/x=.normal/\∃ g,mM=norm [] g (trim st4)):=by
 cases g with
 | none=>exact⟨mM,h,.inl rfl⟩
 | some g =>
  simp only[Od,AX] at h;cases ha:AX M fuel nt r V with
  | none=>rw[ha] at h;cases h
  | some q =>
   obtain⟨y,s1,l1⟩:=q;rw[ha] at h;cases y with
   | normal =>
    simp only[Az,FS,jz,il,iP] at h;obtain⟨rfl,rfl,rfl⟩:=h;exact⟨s1,rfl,.inr ⟨rfl,g,rfl⟩⟩
   | exit id=>cases h;exact⟨_,rfl,.inl rfl⟩
   | ret=>cases h;exact⟨_,rfl,.inl rfl⟩
theorem YH (h:CU r=true):CU (Od g r)=true:=by
 cases g with
 | none=>exact h
 | some g=>simp[Od,CU,h]
theorem dO {o:Oper} (h:R8 G o=some (f,args)) :
  ∃ c fo,o.op=.defer c/\o.guard=none/\o.dst=none/\c.callee=.value fo/\rx G fo=some f/\DT G c.args.toList=some args:=by
 unfold R8 at h;split at h;{rename_i c U H h3;split at h;{rename_i fo hc;split at h;{rename_i f' as h4 h5;cases h;exact⟨c,fo,U,H,h3,hc,h4,h5⟩};{cases h}};{cases h}};{cases h}
theorem zav (hM:D4 cx M.call) (ny:GC cx M) (oW:E8 M):∀ (c:Code) (lp:Nat->lT) (w0:lJ) (I0 F0 own:Nat->Prop) (rs:List lQ) (ml:List lK) (V:St) (x:Ex) (mM:St) (l:lU),
  AX M fuel nt (Bq cx.P cx.G dd c) V=some (x,mM,l)->GB cx lp DW AL 0 w0 I0 F0 ->
  ∀ (a:Act) (w:lJ) (I F:Nat->Prop) (L:As) (Q:Exit->Act->lJ->Prop),SR lp I L V a.tmps.toList ml w->Fr cx w0 I0 F0 ⟨own,rs⟩ (fun _=>none) DW () a.defers I F L w ->
   (∀ a' w' I' F' L' us q8,SR lp I' L' mM a'.tmps.toList (us++ml) w'->Fr cx w0 I0 F0 ⟨own,q8++rs⟩ (fun _=>none) DW () a'.defers I' F' L' w'->Hn nt l us q8->Q (CJ x) a' w') ->
   c.wpIn (De none) 0 cx.P Q a w:=by
 have leaf:∀ (c:Code) (lp:Nat->lT) (w0:lJ) (I0 F0 own:Nat->Prop) (rs:List lQ) (ml:List lK) (V:St) (x:Ex) (mM:St) (l:lU),
   FS (Az M fuel (Bq cx.P cx.G dd c) AL 0 V ())=some (x,mM,l)->GB cx lp DW AL 0 w0 I0 F0 ->
   ∀ (a:Act) (w:lJ) (I F:Nat->Prop) (L:As) (Q:Exit->Act->lJ->Prop),SR lp I L V a.tmps.toList ml w->Fr cx w0 I0 F0 ⟨own,rs⟩ (fun _=>none) DW () a.defers I F L w ->
    (∀ a' w' I' F' L' us q8,SR lp I' L' mM a'.tmps.toList (us++ml) w'->Fr cx w0 I0 F0 ⟨own,q8++rs⟩ (fun _=>none) DW () a'.defers I' F' L' w'->Hn nt l us q8->Q (CJ x) a' w') ->
    c.wpIn (De none) 0 cx.P Q a w:=by
  intro c lp w0 I0 F0 own rs ml V x mM l mo mS a w I F L Q hs hf hQ;unfold FS at mo;split at mo;{rename_i x' st' u hq;cases mo;exact R9 hM ny oW c Unit AL 0 DW lp w0 I0 F0 ⟨own,rs⟩ (fun _=>none) ml none V () x mM u hq mS (fun _ h=>by cases h) a w I F L Q hs hf fun a' w' I' F' L' g1 g2=>hQ a' w' I' F' L' [] [] g1 g2 .nil};{cases mo}
 intro c;induction c with
 | seq c1 c2 yF ih2 =>
  intro lp w0 I0 F0 own rs ml V x mM l mo mS a w I F L Q hs hf hQ;simp only[Bq,AX] at mo;refine wpIn_seq ?_;split at mo
  ·rename_i oO l1 g1;split at mo
   case h_2=>cases mo
   rename_i x' st4 l2 g2;cases mo
   exact yF lp w0 I0 F0 own rs ml V .normal oO l1 g1 mS a w I F L _ hs hf fun a' w' I' F' L' us q8 nT nx hp =>
    ih2 lp w0 I0 F0 own (q8++rs) (us++ml) oO x mM l2 g2 mS a' w' I' F' L' Q nT nx fun a2 w2 I2 F2 L2 us2 rs2 pJ ql hp2 =>
     hQ a2 w2 I2 F2 L2 (us2++us) (rs2++q8) (by rw[iX];exact pJ) (by rw[iX];exact ql) (hp2.append hp)
  ·rename_i mP;refine yF lp w0 I0 F0 own rs ml V x mM l mo mS a w I F L _ hs hf fun a' w' I' F' L' us q8 nT nx hp=>?_;have:=hQ a' w' I' F' L' us q8 nT nx hp;cases x with
   | normal=>exact (mP _ _ mo).elim
   | exit id =>
    simp only[CJ] at this |-;split<;>rename_i hid;{simp only[hid,lq] at this;exact this};{simp only[hid,lm] at this;exact this}
   | ret=>exact this
 | cond c c1 c2 yF ih2 =>
  intro lp w0 I0 F0 own rs ml V x mM l mo mS a w I F L Q hs hf hQ;simp only[Bq] at mo;split at mo;{rename_i rc hrc;simp only[AX] at mo;have hc:=Be hs hf.wd hrc;split at mo;{rename_i hb;rw[hb] at hc;exact wpIn_cond_true (Fd hc) (yF lp w0 I0 F0 own rs ml V x mM l mo mS a w I F L Q hs hf hQ)};{rename_i hb;rw[hb] at hc;exact wpIn_cond_false (Fd hc) (ih2 lp w0 I0 F0 own rs ml V x mM l mo mS a w I F L Q hs hf hQ)};{cases mo}};{simp[AX,Az,FS] at mo}
 | block id c ih =>
  intro lp w0 I0 F0 own rs ml V x mM l mo mS a w I F L Q hs hf hQ;simp only[Bq] at mo;split at mo
  case isFalse=>simp[AX,Az,FS] at mo
  rename_i hidb;simp only[AX] at mo;refine wpIn_block ?_;split at mo;{rename_i pw oO l3 U;refine ih lp w0 I0 F0 own rs ml V (.exit pw) oO l3 U mS a w I F L _ hs hf fun a' w' I' F' L' us q8 nT nx hp=>?_;by_cases hid:pw=id;{rw[lu hid] at mo;cases mo;subst hid;simp only[CJ,hidb,Exit.inBlock,lq];exact hQ a' w' I' F' L' us q8 nT nx hp};{rw[lr hid] at mo;cases mo;have:=hQ a' w' I' F' L' us q8 nT nx hp;simp only[CJ] at this |-;split<;>rename_i hid2;{simp only[hid2,lq] at this;simp only[Exit.inBlock,hid,lm];exact this};{simp only[hid2,lm] at this;exact this}}}
  ·rename_i mP;refine ih lp w0 I0 F0 own rs ml V x mM l mo mS a w I F L _ hs hf fun a' w' I' F' L' us q8 nT nx hp=>?_;have:=hQ a' w' I' F' L' us q8 nT nx hp;cases x with
   | normal=>exact this
   | exit id=>exact (mP _ _ _ mo).elim
   | ret=>exact this
 | scope c ih =>
  intro lp w0 I0 F0 own rs ml V x mM l mo mS a w I F L Q hs hf hQ;have mo:AX M fuel nt (.scope (Bq cx.P cx.G dd c)) V=some (x,mM,l):=by have h:AX M fuel nt (PK c (Bq cx.P cx.G dd c)) V=some (x,mM,l):=mo;unfold PK at h;split at h;{exact h};{split at h;{exfalso;simp[AX,RG] at h};{exact h}}
  simp only[AX] at mo;split at mo;·cases mo
  have key:AX M fuel nt (Bq cx.P cx.G dd c) V=some (x,mM,l)/\Mb x:=by
   split at mo;{rename_i id s3 e3 hq;split at mo;{rename_i hid;cases mo;exact⟨hq,hid⟩};·cases mo}
   ·rename_i mP;refine⟨mo,?_⟩;cases x with
    | exit id=>exact (mP _ _ _ mo).elim
    | _=>trivial
  exact WK key.2 (ih lp w0 I0 F0 own rs ml V x mM l key.1 mS a w I F L _ hs hf fun a' w' I' F' L' us q8 nT nx hp=>⟨rfl,hQ a' w' I' F' L' us q8 nT nx hp⟩)
 | region id ops draw =>
  intro lp w0 I0 F0 own rs ml V x mM l mo mS a w I F L Q hs hf hQ;cases draw with
  | true =>
   refine leaf (.region id ops true) lp w0 I0 F0 own rs ml V x mM l ?_ mS a w I F L Q hs hf hQ;refine UY _ V _ ?_ mo;simp only[Bq,lq];refine YH ?_;split<;>rfl
  | false =>
   cases hd:ops.toList.getLast?.bind (R8 cx.G) with
   | none =>
    refine leaf (.region id ops false) lp w0 I0 F0 own rs ml V x mM l ?_ mS a w I F L Q hs hf hQ;refine UY _ V _ ?_ mo;simp only[Bq,iq,lm,Sq,hd];exact YH rfl
   | some p =>
    obtain⟨f,args⟩:=p;simp only[Bq,iq,lm,Sq,hd] at mo;obtain⟨st4,mo,nK⟩:=eF mo;simp only[AX] at mo;split at mo
    case h_2=>cases mo
    rename_i oO u hr;obtain⟨hchk,hev2⟩:=AQ mo;clear mo;cases hev2;simp only[ie,lw] at hchk;obtain⟨o,ho,hdo⟩:=jh.1 hd;obtain⟨c,fo,q1,q2,q3,q4,q5,q6⟩:=dO hdo
    have uD:ops.toList=ops.toList.dropLast++[o]:=by
     have mP:ops.toList≠[]:=fun e=>by rw[e] at ho;cases ho
     obtain⟨l0,rG⟩:=List.getLast?_eq_some_iff.1 ho;rw[rG];simp
    have hm:ops.toList.length=ops.toList.dropLast.length+1:=by rw[uD];simp
    obtain⟨L',nT,nx⟩:=Pm (BI (ops.toList.dropLast.map (Cw cx.P cx.G))) hs hf;refine wpIn_region ?_;have p8:Dy M AL 0 (ops.toList.dropLast.map (Cw cx.P cx.G)) ((ops.toList.dropLast.map (Cw cx.P cx.G)).drop 0) (Cf (BI (ops.toList.dropLast.map (Cw cx.P cx.G))) V) ()=some (oO,u):=by rw[j8];exact hr
    have ng:=(WO 0 p8).more (r2:=[Cw cx.P cx.G o]);rw[j8,iW] at ng
    have sq:ops.toList.dropLast.map (Cw cx.P cx.G)++[Cw cx.P cx.G o]=ops.toList.map (Cw cx.P cx.G):=by
     conv=>rhs;rw[uD]
     simp
    rw[sq] at ng;have qc:List.range ops.size=List.range ops.toList.dropLast.length++[ops.toList.dropLast.length]:=by rw[<-jQ,hm,List.range_succ]
    rw[qc];refine TU hM ny mS ng nT nx fun a1 w1 I1 F1 L1 pI oM=>?_;have nM:ops[ops.toList.dropLast.length]?=some o:=by rw[<-j3,uD];simp
    simp only[wpOpsIn,nM];have hwant:Region.wanted o (yielded ops a1.tmps)=true:=by simp[Region.wanted,q2]
    rw[lu hwant];have tH:=Be pI oM.wd q5;have nD:=R6 pI oM.wd q6;obtain⟨g,cap,pY⟩:∃ g cap,f.ev oO.tmps=.fn g cap:=by have:=hchk.2;unfold isFn at this;split at this;{rename_i g cap hq;exact⟨g,cap,hq⟩};·cases this
    have hfv2:=tH;rw[pY] at tH;obtain⟨fst,mO,hv,_,_⟩:=KO tH
    have hrunD:(execOp a1.eval o).run cx.P w1=.ok (.defer {target:=.fn (.func (AO g)) mO,args:=fst++(c.args.toList.map a1.eval).toArray}) w1:=by
     have n7:(c.args.toList.map a1.eval).toArray=c.args.map a1.eval:=by rw[<-kW,jx]
     simp[execOp,q1,resolve,q4,hv,Deferred.ofValue,n7]
    refine⟨fun _ _=>trivial,?_⟩;show o.uponIn (De none) 0 cx.P a1 _ Q ((execOp a1.eval o).run cx.P w1);rw[hrunD,Oper.uponIn_defer,q3];show wpOpsIn (De none) 0 cx.P ops Q [] _ w1;simp only[wpOpsIn];have hal:(c.args.toList.map a1.eval).length=args.length:=by have:=nD.length;simpa using this.symm
    have tM:Ai w1 I1 lp (some L1) (f.ev oO.tmps :: args.map (RX.ev oO.tmps)++List.replicate (nt - (f.ev oO.tmps :: args.map (RX.ev oO.tmps)).length) .undef++oO.mj)
      (.func (.func (AO g)) fst mO :: (c.args.toList.map a1.eval++List.replicate (nt - (f.ev oO.tmps :: args.map (RX.ev oO.tmps)).length) undef)++ml):=by
     have U:Ai w1 I1 lp (some L1) (f.ev oO.tmps :: args.map (RX.ev oO.tmps)) (.func (.func (AO g)) fst mO :: c.args.toList.map a1.eval):=.cons _ _ _ _ (by rw[<-hv];exact hfv2) nD;have H:=(U.append (Ai.mQ (nt - (f.ev oO.tmps :: args.map (RX.ev oO.tmps)).length) (List.replicate (nt - (f.ev oO.tmps :: args.map (RX.ev oO.tmps)).length) undef) (by simp))).append pI.kp;simpa[iX] using H
    have pJ:SR lp I1 L1 (Oc nt (f.ev oO.tmps :: args.map (RX.ev oO.tmps)) oO) a1.tmps.toList (.func (.func (AO g)) fst mO :: (c.args.toList.map a1.eval++List.replicate (nt - (f.ev oO.tmps :: args.map (RX.ev oO.tmps)).length) undef)++ml) w1 :=
     ⟨pI.tm,tM,pI.ob,pI.pR⟩
    have ql:Fr cx w0 I0 F0 ⟨own,[{target:=.fn (.func (AO g)) mO,args:=fst++(c.args.toList.map a1.eval).toArray}]++rs⟩ (fun _=>none) DW () ({target:=.fn (.func (AO g)) mO,args:=fst++(c.args.toList.map a1.eval).toArray} :: a1.defers) I1 F1 L1 w1 :=
     ⟨oM.ext,oM.sep,oM.oF,oM.lB,oM.inj,oM.wd,oM.re,.call _ _ _ (fun D h=>by cases h) oM.rq,oM.ry⟩
    obtain⟨L2,t1,t2⟩:∃ L2,SR lp I1 L2 mM a1.tmps.toList (.func (.func (AO g)) fst mO :: (c.args.toList.map a1.eval++List.replicate (nt - (f.ev oO.tmps :: args.map (RX.ev oO.tmps)).length) undef)++ml) w1 /\
      Fr cx w0 I0 F0 ⟨own,[{target:=.fn (.func (AO g)) mO,args:=fst++(c.args.toList.map a1.eval).toArray}]++rs⟩ (fun _=>none) DW () ({target:=.fn (.func (AO g)) mO,args:=fst++(c.args.toList.map a1.eval).toArray} :: a1.defers) I1 F1 L2 w1:=by
     obtain⟨L2,t1,t2⟩:=RS (dd id).lv pJ ql;rcases nK with rfl | ⟨_,g',rfl⟩;{exact⟨L2,t1,t2⟩}
     {obtain⟨L3,t3,t4⟩:=Vg t1 t2;exact Pu [] g' t3 t4}
    refine hQ _ w1 I1 F1 L2 (.func (.func (AO g)) fst mO :: (c.args.toList.map a1.eval++List.replicate (nt - (f.ev oO.tmps :: args.map (RX.ev oO.tmps)).length) undef)) [_] t1 t2 ?_;have hp:=Hn.cons (nt:=nt) args.length [] [] (List.replicate (nt - (f.ev oO.tmps :: args.map (RX.ev oO.tmps)).length) undef) [] (.func (AO g)) fst mO (c.args.toList.map a1.eval) hal (by simp;omega) .nil;simpa using hp
 | skip=>intro lp w0 I0 F0 own rs ml V x mM l mo;exact leaf .skip lp w0 I0 F0 own rs ml V x mM l mo
 | loop c _ =>
  intro lp w0 I0 F0 own rs ml V x mM l mo;refine leaf (.loop c) lp w0 I0 F0 own rs ml V x mM l (UY _ V _ ?_ mo);simp only[Bq,S6];split;{rename_i hp;simp only[ie] at hp;simp[CU,hp.2]};{rfl}
 | rangeFunc f ps mT b _ _ =>
  intro lp w0 I0 F0 own rs ml V x mM l mo
  exact leaf (.rangeFunc f ps mT b) lp w0 I0 F0 own rs ml V x mM l (by
   rw[<-mo];simp only[Bq];split
   ·unfold VP;split;·rfl
    ·exact (zau _ _ _ _ _ _).symm
   ·rfl)
 | exit id=>intro lp w0 I0 F0 own rs ml V x mM l mo;exact leaf (.exit id) lp w0 I0 F0 own rs ml V x mM l (by rw[<-mo];simp only[Bq];split<;>rfl)
 | label n=>intro lp w0 I0 F0 own rs ml V x mM l mo;exact leaf (.label n) lp w0 I0 F0 own rs ml V x mM l mo
 | goto n=>intro lp w0 I0 F0 own rs ml V x mM l mo;exact leaf (.goto n) lp w0 I0 F0 own rs ml V x mM l mo
 | ret=>intro lp w0 I0 F0 own rs ml V x mM l mo;exact leaf .ret lp w0 I0 F0 own rs ml V x mM l mo
 | refuse s=>intro lp w0 I0 F0 own rs ml V x mM l mo;exact leaf (.refuse s) lp w0 I0 F0 own rs ml V x mM l mo
theorem Ws:∀ (ds:List lQ) (w:lJ) (fr:Frame),
  fr.mode=.returning->fr.defers=ds->F.fn fr.fn->F.room (cs.length+1+k)->(∀ d∈ds,∃ r,d.target=.collected r)->LeavesInM F k P fn tmps R ds .returning w ->
  ∃ v w',StepsIn (Machine.fenced P F) P (lone fr cs w) (lone {fr with defers:=[]} cs w')/\(results fn tmps).run P w'=.ok v w'/\R (.returned v) w':=by
 intro ds;induction ds with
 | nil =>
  intro w fr hm hd _ _ _ h;obtain⟨v,U,H⟩:=h;refine⟨v,w,?_,U,H⟩;have:({fr with defers:=[]}:Frame)=fr:=by rw[<-hd]
  rw[this];exact StepsIn.refl _
 | cons d ds ih =>
  intro w fr hm hd hb uT nX h;obtain⟨ng,h⟩:=h;obtain⟨r,hr⟩:=nX d iw;rcases h with ⟨r',w',htar,zaw,zax⟩ | ⟨_,fv,cap,f,args,htar,_⟩
  ·have qn:fr.mode≠.run:=by rw[hm];simp
   have U:=step_collected (cs:=cs) qn hd htar zaw;have i1:(lone fr cs w).fenced P F:=fenced_out hb uT qn hd (fun g hg=>by rw[htar] at hg;simp[Target.leads] at hg);obtain⟨v,w'',g1,g2,g3⟩:=ih w' {fr with defers:=[]++ds} hm rfl hb uT (fun d hd=>nX d (iA _ hd)) zax;exact⟨v,w'',.head i1 U g1,g2,g3⟩
  {rw[hr] at htar;cases htar}
def g9 (F:Fence) (n:Nat) (P:lO) (fn:Func) (R:Ending->lJ->Prop):Exit->Act->lJ->Prop
 | .normal,a,w | .ret,a,w=>(∀ d∈a.defers,∃ r,d.target=.collected r)/\LeavesInM F n P fn a.tmps R a.defers .returning w
 | _,_,_=>False
theorem cV {f:lL} {args:Array lK} 
  (hf:P.funcs[f]?=some fn) (hb:fn.body=some c) (hF:F.fn f)
  (h:c.wpIn F n P (g9 F n P fn R) {tmps:=args++Array.replicate (fn.ntmps - args.size) undef,defers:=[]} w) (o8:F.round=none:=by rfl) :
  CallsDIn F n P f args u w fun e u' w'=>u'=u/\R e w':=by
 refine⟨hF,fun c₀ cs hu hr=>?_⟩
 let b:Frame:={(default:Frame) with fn:=f,kind:=.deferred,roundOf:=none}
 have henter:Frame.enter P f args .deferred =
   b.atR {tmps:=args++Array.replicate (fn.ntmps - args.size) undef,defers:=[]} [.code c]:=by
  simp[Frame.enter,Frame.atR,hf,hb,b]
 have hc:({c₀ with mode:=u}:Frame)=c₀:=by subst hu;rfl
 obtain⟨e,a',w',hq,n7⟩:=h b [] (c₀ :: cs) o8.symm hF hr;rw[<-henter] at n7;cases e with
 | normal =>
  obtain⟨hm,hl⟩:=hq;obtain⟨v,w'',g1,g2,g3⟩:=Ws a'.defers w' {b.atR a' [] with mode:=.returning} rfl rfl hF hr hm hl;exact⟨.returned v,u,w'',_,⟨rfl,g3⟩,(by rw[hc];exact StepsIn.trans (StepsIn.trans n7 (.one (fenced_calm (fr:=b.atR a' []) hF hr rfl) (stepR_end rfl))) g1),rfl,rfl,rfl,rfl,fn,hf,g2⟩
 | ret =>
  obtain⟨hm,hl⟩:=hq;obtain⟨todo,hs⟩:=n7.1 rfl;obtain⟨v,w'',g1,g2,g3⟩:=Ws a'.defers w' {b.atR a' todo with mode:=.returning} rfl rfl hF hr hm hl;exact⟨.returned v,u,w'',_,⟨rfl,g3⟩,(by rw[hc];exact StepsIn.trans hs g1),rfl,rfl,rfl,rfl,fn,hf,g2⟩
 | panic chain=>exact hq.elim
 | exit id=>exact hq.elim
 | goto l=>exact hq.elim
 | outgrown=>exact hq.elim
def Tt (cx:Cx) (M:AK):Prop :=
 ∀ (g:lL) (d0:Nat) (V:St) (A:lS) (out:Al),M.flat g=true->M.io g d0 (Ac V.mi) A=some out->Bw cx.P g /\
  ∀ (E:Type) (w0:lJ) (I0 F0:Nat->Prop) (O0:BE) (Hd:Nat->Option Obj) (R:Bs E) (e:E) (ds:List lQ) (I F:Nat->Prop) (lp:Nat->lT) (L:As) (mN ml us:List lK) (w:lJ) (u:FrameMode),
   SR lp I L V mN ml w->Fr cx w0 I0 F0 O0 Hd R e ds I F L w->Ai w I lp (some L) A us->(out.new=[]\/out.slot.isSome=true) ->
   CallsDIn Fence.wide 0 cx.P g us.toArray u w fun en u' w'=>u'=u/\match en with
    | .returned _=>∃ I' L',SR lp I' L' (apply V none out) mN ml w'/\Fr cx w0 I0 F0 O0 Hd R e ds I' F L' w'
    | _=>False
theorem Fr.unmark {I0 F0 I F:Nat->Prop} {R:Bs E} (hHd:∀ b,Hd b=none)
  (hf:Fr cx w0 I0 F0 O0 Hd R e ({target:=.collected D,args:=#[]} :: ds) I F L w) :
  w.heap[D]?=some (.deferred (some []))/\¬ I D/\(∀ J C,L J≠some (some (D,C)))/\Fr cx w0 I0 F0 O0 Hd R e ds I F L (w.putObj D (.deferred none)):=by
 obtain⟨rs,uj⟩:∃ rs,rs=O0.dfs:=⟨_,rfl⟩;have hm:=hf.rq;rw[<-uj] at hm;cases hm with
 | call d ds rs hd h=>exact lH rfl (hd D)
 | cons D' ds' q8 U H h3 h4 h5 h6 h7 hr =>
  have hk:∀ b,b≠D->(w.putObj D (.deferred none)).heap[b]?=w.heap[b]?:=fun b hb=>World.putObj_heap_other hb;have oL:(w.putObj D (.deferred none)).heap.size=w.heap.size:=World.putObj_size
  refine⟨h6,h3,h5,⟨hf.ext.os,hf.ext.tape,hf.ext.output,by rw[oL];exact hf.ext.size,fun b hb hF=>?_,hf.ext.pV,hf.ext.py,hf.ext.pL⟩,⟨fun b hb=>by rw[oL];exact hf.sep.iB b hb,fun b hb=>⟨by rw[oL];exact (hf.sep.fB b hb).1,(hf.sep.fB b hb).2⟩⟩,hf.oF,
   fun J b C hn=>⟨(hf.lB J b C hn).1,by rw[oL];exact (hf.lB J b C hn).2.1,(hf.lB J b C hn).2.2⟩,hf.inj,?_,?_,?_,?_⟩
  ·have mP:b≠D:=fun e=>by omega
   exact (hk b mP).trans (hf.ext.mj b hb hF)
  {exact cx.pW I I w _ hf.wd (fun _ h=>h) (fun b hb=>hk b fun e=>h3 (e ▸ hb)) (by rw[oL];exact ik _)};{exact R.pW e I I F w _ hf.re (fun _ h=>h) (fun b hb=>hk b fun e=>hb.elim (fun h=>h3 (e ▸ h)) fun h=>h4 (e ▸ h)) (by rw[oL];exact ik _)}
  ·have key:∀ ds rs,Cg w0.heap.size I F L w ds rs->(∀ d∈ds,d.target≠.collected D)->Cg w0.heap.size I F L (w.putObj D (.deferred none)) ds rs:=by
    intro ds rs hm;induction hm with
    | nil=>intro _;exact .nil
    | call d' ds rs hd _ ih=>intro mP;exact .call d' ds rs hd (ih fun d hd=>mP d (iA _ hd))
    | cons D' ds rs g1 g2 g3 g4 g5 g6 g7 _ ih =>
     intro mP;have hDD:D'≠D:=fun e=>mP {target:=.collected D',args:=#[]} iw (by rw[e]);exact .cons D' ds rs g1 (by rw[oL];exact g2) g3 g4 g5 ((hk D' hDD).trans g6) g7 (ih fun d hd=>mP d (iA _ hd))
   rw[<-uj];exact key ds _ hr h7
  {intro b ob hb;rw[hHd b] at hb;cases hb}
theorem XB (wg:Tt cx M) {I0 F0 own:Nat->Prop}:∀ (ds:List lQ) (rs:List lQ) (l:lU) (us:List lK) (V:St) (w:lJ) (I F:Nat->Prop) (L:As),
  SR lp I L V tmps.toList (us++ml) w->Fr cx w0 I0 F0 ⟨own,rs⟩ (fun _=>none) DW () ds I F L w->Hn nt l us rs->Gz M nt l V=some mM ->
  (∀ w2 I2 F2 L2,SR lp I2 L2 mM tmps.toList ml w2->Fr cx w0 I0 F0 ⟨own,[]⟩ (fun _=>none) DW () [] I2 F2 L2 w2->∃ v,(results fn tmps).run cx.P w2=.ok v w2/\Rr (.returned v) w2) ->
  LeavesInM Fence.wide 0 cx.P fn tmps Rr ds .returning w:=by
 intro ds;induction ds with
 | nil =>
  intro rs l us V w I F L hs hf hp hd h;have hm:=hf.rq;cases hm;cases hp;cases hd;exact h w I F L hs hf
 | cons d ds ih =>
  intro rs l us V w I F L hs hf hp hd h;cases hm:hf.rq with
  | cons D _ _ U H h3 h4 h5 h6 h7 hr =>
   obtain⟨q1,q2,q3,q4⟩:=hf.unmark fun _=>rfl;exact⟨by simp,.inl ⟨D,_,rfl,run_takeDeferred q1,ih rs l us V _ I F L (hs.q7 _ q2 q3) q4 hp hd h⟩⟩
  | call _ _ q8 hdt hr =>
   cases hp with
   | cons k l' qb pad _ fv fst mO args hk hn hp' =>
    unfold Gz at hd;have tM:=hs.kp;have h0:=tM.getD 0 undef;split at hd
    case h_2=>cases hd
    rename_i f cap tH;rw[tH] at h0;have e0:(Value.func fv fst mO :: (args++pad)++qb++ml).getD 0 undef=.func fv fst mO:=rfl;rw[e0] at h0;obtain⟨us0,vs0,hv,hfk,qJ⟩:=KO h0;cases hv;split at hd;·cases hd
    split at hd
    case isFalse=>cases hd
    rename_i uZ
    simp only[ie] at uZ
    split at hd
    case h_2=>cases hd
    rename_i out mC;obtain⟨nP,hd⟩:=AQ hd
    have nD:Ai w I lp (some L) ((V.mj.drop 1).take k) args:=by
     have:=(tM.drop 1).take k;have e:((Value.func (.func (AO f)) fst mO :: (args++pad)++qb++ml).drop 1).take k=args:=by simp[iX,<-hk]
     rwa [e] at this
    have nX:=Q0 hfk qJ nD
    have nG:Ai w I lp (some L) (V.mj.drop nt) (qb++ml):=by
     have:=tM.drop nt
     have e:(Value.func (.func (AO f)) fst mO :: (args++pad)++qb++ml).drop nt=qb++ml:=by
      have e2:(Value.func (.func (AO f)) fst mO :: (args++pad)++qb++ml)=(Value.func (.func (AO f)) fst mO :: (args++pad))++(qb++ml):=by simp[iX]
      rw[e2,List.drop_append_of_le_length (by simp;omega),j7 (by simp;omega)];rfl
     rwa [e] at this
    have pI:SR lp I L {V with mj:=V.mj.drop nt} tmps.toList (qb++ml) w:=⟨hs.tm,nG,hs.ob,hs.pR⟩;have oM:Fr cx w0 I0 F0 ⟨own,q8⟩ (fun _=>none) DW () ds I F L w:=⟨hf.ext,hf.sep,hf.oF,hf.lB,hf.inj,hf.wd,hf.re,hr,hf.ry⟩;obtain⟨q1,q2⟩:=wg (AO f) 0 {V with mj:=V.mj.drop nt} _ out uZ.2 mC;have nP:out.new=[]\/out.slot.isSome=true:=by simpa using nP
    have pC:=q2 Unit w0 I0 F0 ⟨own,q8⟩ (fun _=>none) DW () ds I F lp L tmps.toList (qb++ml) _ w .returning pI oM nX nP;obtain⟨fnG,e1,e2,e3⟩:=q1;have hb:¬ fnG.body=none:=by intro h;rw[h] at e3;cases e3
    have nU:¬ fnG.name = "runtime.NumGoroutine":=by intro h;rw[h] at e2;simp at e2
    have n7:(fst.toList++(args++mO.toList)).toArray=fst++args.toArray++mO:=by simp[Array.append_assoc]
    refine⟨by simp,.inr ⟨fun h=>by simp[Fence.wide] at h,.func (AO f),mO,AO f,fst++args.toArray++mO,rfl,by simp[invoke,callFunc,e1,nU,hb],fun _ _=>trivial,?_⟩⟩;rw[n7] at pC;refine pC.mono fun en u' w' hq=>?_;obtain⟨rfl,hq⟩:=hq;cases en with
    | returned v =>
     obtain⟨I',L',g1,g2⟩:=hq;exact ih q8 l' qb _ w' I' F L' g1 g2 hp' hd h
    | panicked chain=>exact hq.elim
    | outgrown=>exact hq.elim
end
end Go.Ab


namespace Go.Ab
variable{E:Type} {Hd:Nat->Option Obj} {L:As} {M:AK} {O0:BE} {R:lW} {cx:Cx} {dd:lL->DH} {ds:List lQ} {dst sl:lT} {fn:Ah} {g:lL} {io:lL->Nat->(Nm->lV)->lS->l5} {lp:Nat->lT} {sp:lL->(Nm->lV)->lS->l5} {ml mN:List lK} {mq:lL->l6} {v:lK} {A:lS} {w w0:lJ} {σ σ':Nm->lV} {e:E}
theorem zay {I0 F0:Nat->Prop} {R:Bs E} {I F:Nat->Prop} {V mM:St} {v0 v2:PV} 
  (hs:SR lp I L V mN ml w) (hf:Fr cx w0 I0 F0 O0 Hd R e ds I F L w) (hv:Am w I lp (some L) v0 v) (h:JC fn (V,v0)=some (mM,v2)) :
  ∃ I2 L2,SR lp I2 L2 mM mN ml w/\Fr cx w0 I0 F0 O0 Hd R e ds I2 F L2 w/\Am w I2 lp (some L2) v2 v:=by
 unfold JC at h;split at h;{obtain⟨hk,h⟩:=AQ h;cases h;have oD:=hk;exact⟨_,_,hs.freeze oD,hf.freeze _,(Xj hs oD hv fun J hn=>DI _ _ J hn).lift _⟩};{cases h;exact⟨I,L,hs,hf,hv⟩}
theorem Vt (hM:D4 cx M.call) (ny:GC cx M) (oW:E8 M) (wg:Tt cx M) (pn:Ll cx mq dd) (n:Nat) (g:lL) (d0:Nat) (V:St) (A:lS) (out:Al) (hc:F6 M n mq g d0 (Ac V.mi) A=some out):Bw cx.P g /\
  ∀ (E:Type) (w0:lJ) (I0 F0:Nat->Prop) (O0:BE) (Hd:Nat->Option Obj) (R:Bs E) (e:E) (ds:List lQ) (I F:Nat->Prop) (lp:Nat->lT) (L:As) (mN ml us:List lK) (w:lJ) (dst:lT),
   SR lp I L V mN ml w->Fr cx w0 I0 F0 O0 Hd R e ds I F L w->Ai w I lp (some L) A us->(∀ d,dst=some d->d=d0/\V.mi[d]?=some [])->(dst=none->out.new=[]\/out.slot.isSome=true) ->
   (CallsIn Fence.wide 0 cx.P g us.toArray w fun
    | .returned v,w'=>∃ I' L',SR lp I' L' (apply V dst out) (F5 mN dst v) ml w'/\Fr cx w0 I0 F0 O0 Hd R e ds I' F L' w'
    | _,_=>False) /\
   (Kt mq g=true->∀ u,CallsDIn Fence.wide 0 cx.P g us.toArray u w fun en u' w'=>u'=u/\match en with
    | .returned v=>∃ I' L',SR lp I' L' (apply V dst out) (F5 mN dst v) ml w'/\Fr cx w0 I0 F0 O0 Hd R e ds I' F L' w'
    | _=>False):=by
 unfold F6 at hc;split at hc
 case h_1=>cases hc
 rename_i rf v7;obtain⟨fn,c,pY,om,uC,nU,qU,sI⟩:=VI pn v7;simp only at hc;generalize hRd:Bt (AI (Ac V.mi) AG (Ar A))=R at hc;have rP:∀ (i j:Nat) J,R[i]?=some J->R[j]?=some J->i=j:=by rw[<-hRd];exact fun i j J=>X0 i j J
 have zah:∀ J∈Ar A,J∈R:=fun J hn=>by rw[<-hRd];exact QU.2 (DI _ _ J hn)
 split at hc
 case h_1=>cases hc
 rename_i ins vZ;obtain⟨hk,hc⟩:=AQ hc;simp only[ie,jt,lw] at hk;obtain⟨⟨⟨hy,zai⟩,hoy⟩,⟨hlen,hRlen⟩,v8⟩:=hk;split at hc
 case h_2=>cases hc
 rename_i p0 q9;split at hc
 case h_2=>cases hc
 rename_i mM v0 hshu;obtain⟨tR,v0r⟩:=p0
 have pa:∃ sl d1 i1,Gj sl d1 i1 R mM v0=some out/\((sl=none/\d1=d0/\i1=0/\R=[])\/(sl=some d1/\∃ j,(d1,j)∈R/\Hx (Ac V.mi) d1=some i1)):=by
  unfold G4 at hc;cases R with
  | nil=>exact⟨none,d0,0,hc,.inl ⟨rfl,rfl,rfl,rfl⟩⟩
  | cons r rs =>
   simp only at hc;split at hc;{rename_i i1 hi1;exact⟨some r.1,r.1,i1,hc,.inr ⟨rfl,r.2,iw,hi1⟩⟩};{cases hc}
 obtain⟨sl,d1,i1,hc,pa⟩:=pa;obtain⟨N,B,hB,hBn,mC⟩:=QZ hc
 have ng:∃ x oO l rs,((CU rf.code=true/\Az M n rf.code AL 0 (EQ rf.gone rf.nt (ins.map (Ob.mz fun m=>(0,R.idxOf m))) (AY (fun m=>(0,R.idxOf m)) A)) ()=some (x,oO,())/\tR=oO) \/
   (CU rf.code=false/\AX M n rf.nt rf.code (EQ rf.gone rf.nt (ins.map (Ob.mz fun m=>(0,R.idxOf m))) (AY (fun m=>(0,R.idxOf m)) A))=some (x,oO,l)/\Gz M rf.nt l oO=some tR))/\(∀ id,x≠.exit id)/\Dl tR rf.res=some rs/\v0r=EL rs:=by
  unfold Db at q9;split at q9
  ·rename_i hq;split at q9
   case h_2=>cases q9
   rename_i x oO u mo;have rE:∀ id,x≠.exit id:=by rintro id rfl;simp at q9
   have qO:(match Dl oO rf.res with
     | some rs=>some (oO,EL rs)
     | none=>none)=some (tR,v0r):=by
    cases x with
    | normal=>exact q9
    | ret=>exact q9
    | exit id=>exact lH rfl (rE id)
   split at qO
   case h_2=>cases qO
   rename_i rs uj;cases qO;exact⟨x,_,[],rs,.inl ⟨hq,mo,rfl⟩,rE,uj,rfl⟩
  ·rename_i hq;split at q9
   case h_2=>cases q9
   rename_i x oO l mo;have rE:∀ id,x≠.exit id:=by rintro id rfl;simp at q9
   have qO:(match Gz M rf.nt l oO with
     | some V=>match Dl V rf.res with
      | some rs=>some (V,EL rs)
      | none=>none
     | none=>none)=some (tR,v0r):=by
    cases x with
    | normal=>exact q9
    | ret=>exact q9
    | exit id=>exact lH rfl (rE id)
   split at qO
   case h_2=>cases qO
   rename_i st4 hd;split at qO
   case h_2=>cases qO
   rename_i rs uj;cases qO;exact⟨x,oO,l,rs,.inr ⟨by simpa using hq,mo,hd⟩,rE,uj,rfl⟩
 obtain⟨x,oO,l,rs,mo,rE,uj,rfl⟩:=ng;obtain⟨m1,m2⟩:=Un R ins vZ;refine⟨⟨fn,pY,by simpa using nU,by rw[om];rfl⟩,?_⟩;intro E w0 I0 F0 O0 Hd RE e ds I F lp L mN ml us w dst hs hf mG hd nP;have uW:∀ J∈R,∃ p ob,L J=some p/\Ac V.mi J=some ob/\Ba w I lp L ob p:=by intro J hn;obtain⟨j,hj,nM⟩:=kD hn;obtain⟨ob,_,H⟩:=m2 j J (by rw[iG hj,nM]);obtain⟨p,hp,ha⟩:=hs.ob J ob H;exact⟨p,ob,hp,H,ha⟩
 let Lc:As:=fun m=>if m.1=0 then (R[m.2]?).bind L else none
 let fr:Nm->Nm:=fun m=>(0,R.idxOf m)
 let LR:As:=fun m=>if m∈R then L m else none
 have pf:∀ J p,LR J=some p->Lc (fr J)=some p:=by intro J p hp;simp only[LR] at hp;split at hp;{rename_i hm;simp only[Lc,fr,lq,Vv hm,jT,hp]};{cases hp}
 have hLc:∀ J p,Lc J=some p->∃ t,R[J.2]?=some t/\J.1=0/\L t=some p:=by
  intro J p hp;simp only[Lc] at hp;split at hp
  ·rename_i U;cases hr:R[J.2]? with
   | none=>rw[hr] at hp;simp at hp
   | some t=>rw[hr] at hp;exact⟨t,rfl,U,by simpa using hp⟩
  {cases hp}
 let pH:Nat->lT:=fun _=>none
 have nD:Ai w I pH (some Lc) (AY fr A) us:=by
  have U:Ai w I pH (some L) A us:=mG.rz hy;have H:Ai w I pH (some LR) A us:=U.narrow fun J hn p hp=>by simp only[LR,zah J hn,lq];exact hp
  exact H.rename pf
 have tt:(ins.map (Ob.mz fr)).length=R.length:=by rw[iW,m1]
 let wv:List lK:=(List.range rf.nt).map fun j=>match (R[j]?).bind L with
  | some (some (b,C))=>.slice (some ⟨b,0,none⟩) 0 C
  | _=>.slice none 0 0
 have hwvj:∀ (j:Nat) J,R[j]?=some J->wv.getD j undef=(match L J with
    | some (some (b,C))=>.slice (some ⟨b,0,none⟩) 0 C
    | _=>.slice none 0 0):=by
  intro j J hj;have hjl:j < rf.nt:=by have:=(ix.1 hj).1;omega
  rw[ip,iC,jG hjl];simp only[iu,iT,hj,jT]
 have hwit:Ai w I pH (some Lc) (F4 rf.gone rf.nt R.length) wv:=by
  refine Ai.z6 (by simp[F4,wv]) fun i y v vA hv=>?_;simp only[F4,iC,ij] at vA;obtain⟨j,hj,rfl⟩:=vA;have mL:i < rf.nt/\j=i:=by obtain⟨U,H⟩:=ix.1 hj;simp at U H;exact⟨U,H.symm⟩
  obtain⟨mL,rfl⟩:=mL;split
  case isFalse=>exact .undef _
  rename_i hjR0;have hjR:=hjR0.1;have ht:R[j]?=some R[j]:=iG hjR;have qH:=hwvj j _ ht;rw[ip,hv] at qH;simp only[iT] at qH;subst qH;obtain⟨p,ob,hp,_,_⟩:=uW _ (iz ht);have qT:Lc (0,j)=some p:=by simp only[Lc,lq,ht,jT,hp]
  rw[hp];cases p with
  | none=>exact .oz _ _ qT
  | some p =>
   obtain⟨b,C⟩:=p;have:=Am.arr (w:=w) (I:=I) (lp:=pH) (L:=Lc) (0,j) 1 0 0 C b C qT (by omega) (jP _);simpa using this
 have qA:SR pH I Lc (EQ rf.gone rf.nt (ins.map (Ob.mz fr)) (AY fr A)) (us.toArray++Array.replicate (fn.ntmps - us.toArray.size) undef).toList wv w:=by
  have tP:0 < (List.replicate rf.nt ([]:lY)).length:=by simpa using v8
  have uB:∀ J:Nm,J.1≠0->Ac ((List.replicate rf.nt []).set 0 (ins.map (Ob.mz fr))) J=none:=by
   intro J U;rw[EA _ U];unfold Ac;cases hg:(List.replicate rf.nt ([]:lY))[J.1]? with
   | none=>rfl
   | some l =>
    have:=kF (iz hg);subst this;simp
  refine⟨?_,?_,?_,?_⟩;{have hl:=nD.length;have H:Ai w I pH (some Lc) (List.replicate (rf.nt - (AY fr A).length) PV.undef) (List.replicate (rf.nt - (AY fr A).length) undef):=Ai.mQ _ _ (by simp);have:=nD.append H;show Ai w I pH (some Lc) (AY fr A++List.replicate (rf.nt - (AY fr A).length) .undef) _;rw[hl] at this |-;simpa[qU] using this};{show Ai w I pH (some Lc) (F4 rf.gone rf.nt (ins.map (Ob.mz fr)).length) wv;rw[tt];exact hwit}
  ·intro J ob hl;have oN:Ac ((List.replicate rf.nt []).set 0 (ins.map (Ob.mz fr))) J=some ob:=hl;by_cases U:J.1=0
   ·obtain⟨a,j⟩:=J;simp only at U;subst U;rw[Fc _ tP,iC] at oN;obtain⟨oZ,ho0,rfl⟩:=ij.1 oN;have hj:j < R.length:=by have:=(ix.1 ho0).1;omega
    have hRt:R[j]?=some R[j]:=iG hj;obtain⟨sG,h3,h4⟩:=m2 j _ hRt;rw[ho0] at h3;cases h3;obtain⟨p,hp,ha⟩:=hs.ob _ oZ h4;refine⟨p,by simp only[Lc,lq,hRt,jT,hp],?_⟩;have hyo:oZ.mV=false:=by have:=iy.1 hoy oZ (iz ho0);simpa using this
    have s7:Ba w I pH LR oZ p:=(ha.rz hyo).narrow fun m hm q hq=>by have:m∈R:=QI zai (iz hRt) h4 m hm;simp only[LR,this,lq];exact hq
    exact s7.mz pf
   {rw[uB J U] at oN;cases oN}
  ·intro J hl;have oN:Ac ((List.replicate rf.nt []).set 0 (ins.map (Ob.mz fr))) J=none:=hl;simp only[Lc];split
   ·rename_i U;obtain⟨a,j⟩:=J;simp only at U;subst U;rw[Fc _ tP,iC] at oN;have H:ins[j]?=none:=by simpa using oN
    have:R[j]?=none:=iR.2 (by have:=iR.1 H;omega);rw[this];rfl
   {rfl}
 let zzd:Nat->Prop:=fun b=>∃ J C,J∈R/\L J=some (some (b,C))
 have tL:Fr cx w I zzd ⟨zzd,[]⟩ (fun _=>none) DW () [] I (fun _=>False) Lc w:=by refine⟨⟨rfl,rfl,rfl,ik _,fun _ _ _=>rfl,fun _ h=>h,fun _ h=>.inl h,fun b h=>h.elim⟩,⟨hf.sep.iB,fun b h=>h.elim⟩,fun b h=>h,fun J b C hn=>?_,fun J nr b C C' hn nO=>?_,hf.wd,trivial,.nil,fun b ob hb=>by cases hb⟩;{obtain⟨t,U,_,H⟩:=hLc J _ hn;obtain⟨_,g2,g3,_⟩:=hf.lB t b C H;exact⟨.inr ⟨t,C,iz U,H⟩,g2,g3,fun h=>h⟩};{obtain⟨t,U,h3,H⟩:=hLc J _ hn;obtain⟨t',h1',h3',oH⟩:=hLc nr _ nO;have:=hf.inj t t' b C C' H oH;subst this;exact Prod.ext (h3.trans h3'.symm) (rP _ _ t U h1')}
 have tail:∀ (tm:Array lK) (w2:lJ) (I' F':Nat->Prop) (L':As),SR pH I' L' tR tm.toList wv w2->Fr cx w I zzd ⟨zzd,[]⟩ (fun _=>none) DW () [] I' F' L' w2 ->
   ∃ v,(results fn tm).run cx.P w2=.ok v w2/\∃ I' L',SR lp I' L' (apply V dst out) (F5 mN dst v) ml w2/\Fr cx w0 I0 F0 O0 Hd RE e ds I' F L' w2:=by
  intro tm w2 I1 F' L1 hs2r oM;obtain⟨qb,q1,q2⟩:=VO hs2r (P:=cx.P) fn.results.toList rf.res rs uC uj;obtain⟨I',L',pJ,nx,hv⟩:=zay hs2r oM (aU q2) hshu;have sS:=nx.ext
  have qx:∀ (j:Nat) J,R[j]?=some J->J ∉ ID R mM.mj->∀ p,L J=some p->∃ p',L' ((fun k=>(CO (mM.mj.getD k .undef)).getD (0,k)) j)=some p'/\GeP p p':=by
   intro j J hj hng p hp
   have oK:(CO (mM.mj.getD j .undef)).isSome=true:=by
    cases hw:CO (mM.mj.getD j .undef) with
    | some q=>rfl
    | none =>
     refine lH ?_ hng;unfold ID;exact ii.2 ⟨(J,j),ju.2 ⟨iY.2 hj,by simp only[hw];rfl⟩,rfl⟩
   obtain⟨q,hq⟩:=jR.1 oK;simp only[hq,iT];have nG:=pJ.kp.getD j undef;have qj:=hwvj j J hj;have zan:mM.mj.getD j .undef=.arr q 1 0 0:=by unfold CO at hq;split at hq;{rename_i nr heq;cases hq;exact heq};·cases hq
   rw[zan,qj,hp] at nG;cases p with
   | none =>
    simp only at nG;cases nG with
    | oz _ _ h=>exact⟨none,h,trivial⟩
   | some p =>
    obtain⟨b,C⟩:=p;simp only at nG;generalize hvv:(Value.slice (some ⟨b,0,none⟩) 0 C)=vv at nG;cases nG with
    | arr _ _ _ _ cap b' C' h hC hn =>
     simp only[Value.slice.injEq,il,Addr.mk.injEq] at hvv;obtain⟨⟨rfl,_,_⟩,_,rfl⟩:=hvv;exact⟨some (b,C'),h,rfl,by omega⟩
    | oz _ _ h=>simp at hvv
  have hOb:∀ b,b < w.heap.size->(∀ J C,J∈R->L J≠some (some (b,C)))->w2.heap[b]?=w.heap[b]?:=fun b hb hn=>sS.mj b hb fun ⟨J,C,U,H⟩=>hn J C U H
  have htk:=zab (d0:=d1) (i0:=i1) (sl:=sl) (dst:=dst) (R:=R) (N:=N) (aN:=fun k=>(CO (mM.mj.getD k .undef)).getD (0,k)) (gone:=ID R mM.mj) hs hf (pH:=pH) (fun d l h=>by cases h)
   (fun d uU=>⟨(hd d uU).2,fun h=>by
    rcases pa with ⟨_,U,_,_⟩ | ⟨U,_⟩;·rw[U];exact (hd d uU).1
    ·rw[h] at U;cases U⟩)
   (fun r hr=>by
    rcases pa with ⟨U,_⟩ | ⟨U,_⟩;·rw[hr] at U;cases U
    ·rw[hr] at U;cases U;rfl)
   (fun hN=>by
    rcases pa with ⟨U,H,h3,h4⟩ | ⟨U,j,H,h3⟩
    ·cases ur:dst with
     | none =>
      rcases nP ur with h5 | h5;·rw[mC] at h5;exact lH (by simpa using h5) hN
      ·rw[mC,U] at h5;cases h5
     | some d =>
      obtain⟨g1,g2⟩:=hd d ur;exact⟨[],by rw[H,<-g1];exact g2,by rw[h3];rfl⟩
    ·obtain⟨p,ob,hp,hl,_⟩:=uW _ H;exact Xi hl h3)
   (fun U hn=>by
    rcases nP hn with h5 | h5;·rw[mC] at h5;simpa using h5
    ·rw[mC,U] at h5;cases h5) (fun J hn=>let ⟨p,_,hp,_⟩:=uW J hn;⟨p,hp⟩) rP pJ hv
   sS.os sS.tape sS.output sS.size hOb sS.pV
   (fun b hb=>by
    rcases sS.py b hb with h | h | h;·exact .inl h
    ·exact .inr ⟨nx.sep.iB b hb,.inr h⟩
    ·exact .inr ⟨nx.sep.iB b hb,.inl h⟩)
   (fun J b C hn=>by obtain⟨g1,g2,g3,_⟩:=nx.lB J b C hn;exact⟨g2,g3,g1⟩) nx.inj (by rw[<-hB];exact hBn) qx hB
  refine⟨if h:qb.toArray.size=1 then qb.toArray[0] else .tuple qb.toArray,?_,I',BQ L L' B,?_⟩;{unfold results;rw[Sem.run_bind,kV,Sem.run_map];rw[jx] at q1;exact (lD (fun r:Result (List lK)=>(r.andThen fun a w'=>Result.ok a.toArray w').andThen fun a w'=>Sem.run cx.P (pure (if h:a.size=1 then a[0] else Value.tuple a)) w') q1).trans rfl};{rw[mC];exact htk}
 have body:∀ (Q:Exit->Act->lJ->Prop),(∀ a' w',(CU rf.code=true->∀ d∈a'.defers,∃ r,d.target=.collected r)->LeavesInM Fence.wide 0 cx.P fn a'.tmps (fun
    | .returned v,w'=>∃ I' L',SR lp I' L' (apply V dst out) (F5 mN dst v) ml w'/\Fr cx w0 I0 F0 O0 Hd RE e ds I' F L' w'
    | _,_=>False) a'.defers .returning w'->Q .normal a' w'/\Q .ret a' w')->c.wpIn (De none) 0 cx.P Q {tmps:=us.toArray++Array.replicate (fn.ntmps - us.toArray.size) undef,defers:=[]} w:=by
  intro Q hQ
  have O:∀ a' w',Q .normal a' w'/\Q .ret a' w'->Q (CJ x) a' w':=by
   intro a' w' h;cases x with
   | normal=>exact h.1
   | ret=>exact h.2
   | exit id=>exact lH rfl (rE id)
  rcases mo with ⟨hq,mo,rfl⟩ | ⟨hq,mo,hd⟩
  ·rw[sI] at mo;refine R9 (dd:=dd g) (M:=M) hM ny oW c Unit AL 0 DW pH w I zzd ⟨zzd,[]⟩ (fun _=>none) wv none _ () x tR () mo ⟨⟨I,zzd,w,Rh cx _ _ _ _,BS.refl _ _ _⟩,fun d l h=>by cases h⟩ (fun l0 he=>by cases he) _ w I (fun _=>False) _ _ qA tL fun a' w' I' F' L' nT nx=>O a' w' (hQ a' w' (fun _ d hd=>?_) ?_)
   ·have key:∀ ds rs,Cg w.heap.size I' F' L' w' ds rs->rs=[]->∀ d∈ds,∃ r,d.target=.collected r:=by
     intro ds rs hm;induction hm with
     | nil=>intro _ d hd;cases hd
     | cons D ds rs _ _ _ _ _ _ _ _ ih =>
      intro h0 d hd;rcases im.1 hd with rfl | hd;{exact⟨D,rfl⟩};{exact ih h0 d hd}
     | call d ds rs _ _ _=>intro h0;cases h0
    exact key _ _ nx.rq rfl d hd
   {exact XB (nt:=rf.nt) (M:=M) wg a'.defers [] [] [] tR w' I' F' L' nT nx .nil rfl fun w2 I2 F2 L2 g1 g2=>tail a'.tmps w2 I2 F2 L2 g1 g2}
  {rw[sI] at mo;refine zav (dd:=dd g) (M:=M) hM ny oW c pH w I zzd zzd [] wv _ x oO l mo ⟨⟨I,zzd,w,Rh cx _ _ _ _,BS.refl _ _ _⟩,fun d l h=>by cases h⟩ _ w I (fun _=>False) _ _ qA tL fun a' w' I' F' L' qb q8 nT nx hp=>O a' w' (hQ a' w' (fun h=>by rw[hq] at h;cases h) ?_);rw[j6] at nx;exact XB (nt:=rf.nt) (M:=M) wg a'.defers q8 l qb oO w' I' F' L' nT nx hp hd fun w2 I2 F2 L2 g1 g2=>tail a'.tmps w2 I2 F2 L2 g1 g2}
 refine⟨callsIn_of_wp_marks pY om trivial (body _ fun a' w' _ h=>⟨h,h⟩),fun uP u=>?_⟩;have pj:CU rf.code=true:=by unfold Kt at uP;rw[v7] at uP;exact uP
 refine (cV (R:=fun
    | .returned v,w'=>∃ I' L',SR lp I' L' (apply V dst out) (F5 mN dst v) ml w'/\Fr cx w0 I0 F0 O0 Hd RE e ds I' F L' w'
    | _,_=>False) pY om trivial (body _ fun a' w' hm h=>⟨⟨hm pj,h⟩,⟨hm pj,h⟩⟩)).mono fun en u' w' hq=>⟨hq.1,?_⟩
 cases en<;>exact hq.2
theorem io_ok (hM:D4 cx M.call) (ny:GC cx M) (oW:E8 M) (wg:Tt cx M) (pn:Ll cx mq dd) (n:Nat):IoOK cx (F6 M n mq):=by intro g d0 V A out hc;obtain⟨U,H⟩:=Vt hM ny oW wg pn n g d0 V A out hc;exact⟨U,fun E w0 I0 F0 O0 Hd R e ds I F lp L mN ml us w dst hs hf hr hd hn=>(H E w0 I0 F0 O0 Hd R e ds I F lp L mN ml us w dst hs hf hr hd hn).1⟩
theorem fO:∀ (l:lW),(∀ J∈l,σ J=σ' J)->l.mapM σ=l.mapM σ':=by
 intro l;induction l with
 | nil=>intro _;rfl
 | cons x l ih =>
  intro h;rw[jv,jv,h x iw,ih fun J hn=>h J (iA _ hn)]
theorem fb (h:∀ J∈R,σ J=σ' J):B3 σ R=B3 σ' R:=by unfold B3;rw[jN];simp only[iy];exact⟨fun g J hn=>by rw[<-h J hn];exact g J hn,fun g J hn=>by rw[h J hn];exact g J hn⟩
theorem io_loc (M:AK) (n:Nat) (mq:lL->l6):Sd (F6 M n mq):=by
 intro g d σ σ' A out hσ h nK;unfold F6 at h |-;cases ht:mq g with
 | none=>rw[ht] at h;cases h
 | some fn =>
  rw[ht] at h;simp only at h |-;rw[<-LL _ _ hσ];have hc:∀ J∈Bt (AI σ AG (Ar A)),σ J=σ' J:=fun J hn=>hσ J (QU.1 hn);rw[<-fO _ hc,<-fb hc];cases hm:(Bt (AI σ AG (Ar A))).mapM σ with
  | none=>rw[hm] at h;cases h
  | some ins =>
   rw[hm] at h;simp only at h |-;generalize Bt (AI σ AG (Ar A))=R at h |-;obtain⟨U,H⟩:=AQ h;simp only[Av,U,lq];split at H
   case h_2=>cases H
   rename_i p0 q9;split at H
   case h_2=>cases H
   rename_i V v hshu;unfold G4 at H |-;cases R with
   | nil=>exact H
   | cons r rs =>
    simp only at H |-;split at H
    ·rename_i i0 hi0;have h3:=H;obtain⟨N,B,_,_,rfl⟩:=QZ H;rcases nK with nK | ⟨_,nK⟩;{simp[Bb,CM] at nK}
     ·have sn:Hx σ' r.1=Hx σ r.1:=by unfold Hx;congr 1;funext j;exact (nK r.1 rfl j).symm
      rw[sn,hi0];exact h3
    {cases H}
theorem ZZ {d0 i0:Nat} {V:St} {v:PV} {out:Al} (h:Gj sl d0 i0 R V v=some out):out.io=true:=by obtain⟨_,_,_,_,rfl⟩:=QZ h;rfl
theorem Vs (M:AK) (n:Nat) (mq:lL->l6) (g:lL) (d:Nat) (σ:Nm->lV) (A:lS) (out:Al) (h:F6 M n mq g d σ A=some out):out.io=true:=by
 unfold F6 at h;split at h
 case h_1=>cases h
 simp only at h;split at h
 case h_1=>cases h
 obtain⟨_,h⟩:=AQ h;split at h
 case h_2=>cases h
 split at h
 case h_2=>cases h
 unfold G4 at h;split at h;{exact ZZ h};{split at h;{exact ZZ h};·cases h}
theorem bv (V:St) (R:lW):frzS (Ac V.mi) R=Ac (B7 (Ac V.mi) R V).mi:=by funext J;show frzS (Ac V.mi) R J=Ac (R.foldl (fun mi J=>AR mi J AP) (V.mi.map (·.map (Ob.sub fun m=>if R.contains m then A7 (Ac V.mi) m else none)))) J;rw[OZ,Ee];rfl
theorem bt {I:Nat->Prop} {V:St} {yL:List lK} (h:SR lp I L V mN ml w) (hR:B3 (Ac V.mi) R=true) (hv:Ai w I lp (some L) A yL) :
  Ai w (CW I L R) lp (some (EJ L R)) (AM (LD (Ac V.mi) R) A) yL:=by
 have hs:DR w (CW I L R) lp L (some (EJ L R)) (fun _=>True) (LD (Ac V.mi) R):=by intro m p _ hp;by_cases hm:m∈R;{have:=O6 h hR (some (EJ L R)) m p hm hp;simpa[LD,hm] using this};{simp[LD,hm,EJ,hp]}
 exact Ai.subst (fun _ hb=>.inl hb) hs hv fun _ _=>trivial
theorem Z5 {V:St} {out:Al} (mP:R≠[]) (sM:out.mX=[]) (sN:out.nf=none) (qK:out.kill=none) :
  apply V dst {out with mX:=R}=apply (B7 (Ac V.mi) R V) dst out:=by
 cases R with
 | nil=>exact lH rfl mP
 | cons r rs=>simp[apply,sM,sN,qK]
theorem QY {dst:Nat} {out:Al} (h:Gx mq io g dst σ A=some out) :
  io g dst σ A=some out\/∃ R pb,R≠[]/\B3 σ R=true/\io g dst (frzS σ R) (AM (LD σ R) A)=some pb/\out={pb with mX:=R}/\pb.io=true/\pb.mX=[]/\pb.nf=none/\pb.kill=none:=by
 unfold Gx at h;split at h;{exact .inl h}
 ·rename_i r rs hr;obtain⟨U,h⟩:=AQ h;split at h
  case h_2=>cases h
  rename_i pb hq;obtain⟨H,h⟩:=AQ h;cases h;simp only[ie,iS,jY] at H;exact .inr ⟨r :: rs,pb,by simp,U,hq,rfl,H.1.1.1,H.2,H.1.1.2,H.1.2⟩
theorem ioFz_ok (mq:lL->l6) (h:IoOK cx io):IoOK cx (Gx mq io):=by
 intro g d0 V A out hc;rcases QY hc with hc | ⟨R,pb,mP,hR,hq,rfl,oV,sM,sN,qK⟩;{exact h g d0 V A out hc}
 {rw[bv] at hq;obtain⟨U,H⟩:=h g d0 (B7 (Ac V.mi) R V) _ pb hq;refine⟨U,fun E w0 I0 F0 O0 Hd RE e ds I F lp L mN ml us w dst hs hf hr hd hn=>?_⟩;rw[Z5 mP sM sN qK];exact H E w0 I0 F0 O0 Hd RE e ds (CW I L R) F lp (EJ L R) mN ml us w dst (hs.freeze hR) (hf.freeze R) (bt hs hR hr) (fun d qq=>⟨(hd d qq).1,WC (hd d qq).2⟩) hn}
theorem zaz (mq:lL->l6) (h:Sd io):Sd (Gx mq io):=by
 intro g d σ σ' A out hσ hc nK;rcases QY hc with hc' | ⟨R,pb,mP,hR,hq,rfl,oV,sM,sN,qK⟩
 ·unfold Gx at hc |-;have pA:∀ J∈bu A,J∈Ar A:=by intro J hn;obtain⟨v,hv,hn⟩:=ji.1 hn;refine OQ.2 ⟨v,hv,?_⟩;split at hn;{rw[iU.1 hn];simp[PV.names]};·cases hn
  have he:KP mq g σ' A=KP mq g σ A:=by unfold KP;rw[LL _ _ fun J hn=>hσ J (Kg _ _ _ pA J hn)]
  rw[he];generalize KP mq g σ A=Rz at hc |-;cases Rz with
  | nil=>exact h g d σ σ' A out hσ hc nK
  | cons r rs =>
   simp only at hc;obtain⟨_,hc⟩:=AQ hc;split at hc
   case h_2=>cases hc
   obtain⟨H,hc⟩:=AQ hc;cases hc;simp only[ie] at H;simp[P4,Bb,CM,H.1.1.1] at nK
 ·cases R with
  | nil=>exact lH rfl mP
  | cons r rs=>simp[P4,Bb,CM,oV] at nK
theorem wh (h:∀ g d σ A out,io g d σ A=some out->out.io=true) (g:lL) (d:Nat) (σ:Nm->lV) (A:lS) (out:Al) (hc:Gx mq io g d σ A=some out):out.io=true:=by rcases QY hc with hc | ⟨R,pb,mP,hR,hq,rfl,oV,sM,sN,qK⟩;{exact h g d σ A out hc};{exact oV}
theorem zaA (ny:SpOK cx sp) (oW:Sc sp) (pn:Ll cx mq dd):∀ n,D4 cx (Cb sp mq n).call/\GC cx (Cb sp mq n)/\E8 (Cb sp mq n)/\Tt cx (Cb sp mq n):=by
 intro n;induction n with
 | zero=>exact⟨fun E h R dep lp Ir rQ wr g args e r obs e' hc=>(by cases hc),⟨ny,fun g d V A out h=>(by cases h),fun g d σ A out h=>(by cases h),fun E h dep g ins A e mM e2 hc=>(by cases hc)⟩,⟨oW,fun _ _ _ _ _ _ _ h _=>h⟩,fun g d V A out _ h=>(by cases h)⟩
 | succ n ih =>
  obtain⟨i1,i2,i3,i4⟩:=ih;refine⟨we i1 i2 i3 pn n,⟨ny,ioFz_ok mq (io_ok i1 i2 i3 i4 pn n),wh (Vs _ n mq),zat i1 i2 i3 pn n⟩,⟨oW,zaz mq (io_loc _ n mq)⟩,fun g d V A out uP hc=>?_⟩;rcases QY hc with hc | ⟨Rz,pb,mP,hR,hq,rfl,oV,sM,sN,qK⟩
  {obtain⟨U,H⟩:=Vt i1 i2 i3 i4 pn n g d V A out hc;exact⟨U,fun E w0 I0 F0 O0 Hd R e ds I F lp L mN ml us w u hs hf hr hn=>(H E w0 I0 F0 O0 Hd R e ds I F lp L mN ml us w none hs hf hr (fun d h=>by cases h) fun _=>hn).2 uP u⟩};{rw[bv] at hq;obtain⟨U,H⟩:=Vt i1 i2 i3 i4 pn n g d (B7 (Ac V.mi) Rz V) _ pb hq;refine⟨U,fun E w0 I0 F0 O0 Hd R e ds I F lp L mN ml us w u hs hf hr hn=>?_⟩;rw[Z5 mP sM sN qK];exact (H E w0 I0 F0 O0 Hd R e ds (CW I L Rz) F lp (EJ L Rz) mN ml us w none (hs.freeze hR) (hf.freeze Rz) (bt hs hR hr) (fun d h=>by cases h) fun _=>hn).2 uP u}
theorem fn_ok (ny:SpOK cx sp) (oW:Sc sp) (pn:Ll cx mq dd) (n:Nat):D4 cx (Ei sp mq n):=(zaA ny oW pn n).1
end Go.Ab


namespace Go.Ab
variable{args:lS} {b:Bool} {cx:Cx} {g:lL} {may:MemPlace->Prop} {obs:lY} {A:List lK} {w:lJ}
theorem cY {w':lJ} (U:w'.os=w.os) (H:w'.output=w.output) (h3:∀ b,b < w.heap.size->w'.heap[b]?=w.heap[b]?):w.keptBut w' may:=by
 refine⟨U,H,fun i hi=>?_⟩;rw[h3 i hi];cases O:w.heap[i]? with
 | none=>rfl
 | some o=>cases o<;>first | rfl | exact⟨rfl,rfl,rfl,fun _ _=>rfl⟩ | exact .inr ⟨rfl,rfl⟩
structure nR (w w':lJ):Prop where
 os:w'.os=w.os
 tape:w'.tape=w.tape
 output:w'.output=w.output
 size:w.heap.size<=w'.heap.size
 same:∀ b,b < w.heap.size->w'.heap[b]?=w.heap[b]?
theorem wi {call:Ha} (hM:D4 cx call) (mo:call Unit AL 0 g args ()=some (.bool b,obs,())) {I:Nat->Prop} 
  (hI:∀ b,I b->b < w.heap.size) (hw:cx.Wd I w) (mG:Ai w I (fun _=>none) none args A) :
  Calls cx.P g A.toArray w fun e w'=>e=.returned (.bool b)/\nR w w':=by
 obtain⟨_,h⟩:=hM Unit AL DW 0 (fun _=>none) I (fun _=>False) w g args () (.bool b) obs () mo (Rh cx _ _ _ _) (fun d l h=>by cases h);have:=h I (fun _=>False) w A (BS.refl _ _ _) ⟨hI,fun b hb=>hb.elim⟩ hw trivial mG;refine callsIn_wide.1 (CallsIn.qp this fun e w' hr=>?_);cases e with
 | returned v =>
  obtain⟨I',F',ps,ov⟩:=hr;exact⟨by rw[Fd ov.rep],ov.ext.os,ov.ext.tape,ov.ext.output,ov.ext.size,fun b hb=>ov.ext.mj b hb fun h=>h⟩
 | panicked chain=>exact hr.elim
 | outgrown=>exact hr.elim
end Go.Ab


namespace Go.Ab
variable{E σ:Type} {P Q:Nat->Prop} {f1 n nt:Nat} {inf:Bk} {io1:lL->Nat->(Nm->lV)->lS->l5} {io2:Nat->lL->Nat->(Nm->lV)->lS->l5} {l:lU} {obs:lY} {r:PV} {sp:lL->(Nm->lV)->lS->l5} {st':St} {mq:lL->l6} {u:Unit} {x:Ex}
def AZ (P:Nat->Prop):Prop:=∃ m,∀ k,m<=k->P k
theorem AZ.of (h:∀ k,P k):AZ P:=⟨0,fun k _=>h k⟩
theorem AZ.and (h:AZ P) (h':AZ Q):AZ fun k=>P k/\Q k:=by obtain⟨a,ha⟩:=h;obtain⟨b,hb⟩:=h';exact⟨max a b,fun k hk=>⟨ha k (by omega),hb k (by omega)⟩⟩
theorem AZ.mono (h:AZ P) (f:∀ k,P k->Q k):AZ Q:=by obtain⟨a,ha⟩:=h;exact⟨a,fun k hk=>f k (ha k hk)⟩
theorem AZ.oP {S:Nat->Prop} (h:AZ P) (h':AZ Q) (f:∀ k,P k->Q k->S k):AZ S:=(h.and h').mono fun k ⟨a,b⟩=>f k a b
def GA {E1 E2:Type} (RE:E1->E2->Prop) (U:AF E1) (H:Nat->AF E2):Prop :=
 ∀ l args e1 e2,RE e1 e2->∀ b nW,U l args e1=some (b,nW)->∃ nF,RE nW nF/\AZ fun k=>H k l args e2=some (b,nF)
def Wj (c1:Ha) (c2:Nat->Ha):Prop :=
 ∀ (E1 E2:Type) (RE:E1->E2->Prop) (U:AF E1) (H:Nat->AF E2),GA RE U H ->
  ∀ dep g args e1 e2,RE e1 e2->∀ r obs nW,c1 E1 U dep g args e1=some (r,obs,nW)->∃ nF,RE nW nF/\AZ fun k=>c2 k E2 (H k) dep g args e2=some (r,obs,nF)
def RioT:Type 1:=(E:Type)->AF E->Nat->lL->lY->lS->E->Option (St×E)
def RioLe (c1:RioT) (c2:Nat->RioT):Prop :=
 ∀ (E1 E2:Type) (RE:E1->E2->Prop) (U:AF E1) (H:Nat->AF E2),GA RE U H ->
  ∀ dep g ins A e1 e2,RE e1 e2->∀ V nW,c1 E1 U dep g ins A e1=some (V,nW)->∃ nF,RE nW nF/\AZ fun k=>c2 k E2 (H k) dep g ins A e2=some (V,nF)
structure ER (M1:AK) (M2:Nat->AK):Prop where
 sp:∀ k,M1.sp=(M2 k).sp
 call:Wj M1.call fun k=>(M2 k).call
 ow:∀ k,M1.ow=(M2 k).ow
 nC:∀ k,M1.nC=(M2 k).nC
 flat:∀ k,M1.flat=(M2 k).flat
 io:∀ g dst σ A out,M1.io g dst σ A=some out->AZ fun k=>(M2 k).io g dst σ A=some out
 tk:RioLe M1.tk fun k=>(M2 k).tk
section par
variable {M1:AK} {M2:Nat->AK} (hM:ER M1 M2) {E1 E2:Type} {RE:E1->E2->Prop} {U:AF E1} {H:Nat->AF E2} (hh:GA RE U H)
include hM
theorem Q3 (g:lL) (args:lS) (h:M1.call Unit AL 0 g args ()=some (r,obs,u)):AZ fun k=>(M2 k).call Unit AL 0 g args ()=some (r,obs,()):=by obtain⟨_,_,h'⟩:=hM.call Unit Unit (fun _ _=>True) AL (fun _=>AL) (fun _ _ _ _ _ _ _ h=>by cases h) 0 g args () () trivial r obs u h;exact h'
include hh
theorem dM (dep dst:Nat) (σ:Nm->lV) (tm:lS) (f:RX) (args:md) {e1:E1} {e2:E2} (he:RE e1 e2) {out:Al} {nW:E1}
  (h:Cj M1 U dep dst σ tm f args e1=some (out,nW)):∃ nF,RE nW nF/\AZ fun k=>Cj (M2 k) (H k) dep dst σ tm f args e2=some (out,nF):=by
 unfold Cj at h |-;cases hf:f.ev tm with
 | mF d =>
  simp only[hf] at h |-;by_cases hS:(Ar (args.map (RX.ev tm))).isEmpty=true
  ·simp only[hS,lq] at h |-;unfold Av at h |-;split at h
   ·rename_i hy;simp only[hy,lq];cases hq:U d (args.map (RX.ev tm)) e1 with
    | none=>rw[hq] at h;cases h
    | some p =>
     obtain⟨b,e⟩:=p;rw[hq] at h;cases h;obtain⟨nF,hr,oH⟩:=hh _ _ _ _ he _ _ hq;exact⟨nF,hr,oH.mono fun k hk=>by rw[hk]⟩
   {cases h}
  ·simp only[hS] at h |-;unfold Av at h |-;simp only[iq,lm] at h |-;split at h
   ·rename_i hy;simp only[hy,lq];cases hq:U d (AM (A7 σ) (args.map (RX.ev tm))) e1 with
    | none=>rw[hq] at h;cases h
    | some p =>
     obtain⟨b,e⟩:=p;rw[hq] at h;cases h;obtain⟨nF,hr,oH⟩:=hh _ _ _ _ he _ _ hq;exact⟨nF,hr,oH.mono fun k hk=>by rw[hk]⟩
   {cases h}
 | fn g cap =>
  simp only[hf] at h |-;simp only[<-hM.sp,<-hM.ow,<-hM.nC];cases hs:M1.sp (AO g) σ (Bc g (args.map (RX.ev tm)) cap) with
  | some o=>simp only[hs] at h |-;cases h;exact⟨e2,he,.of fun _=>rfl⟩
  | none =>
   simp only[hs] at h |-;cases oV:M1.ow (AO g) with
   | true =>
    simp only[oV,lq] at h |-;cases hq:M1.io (AO g) dst σ (Bc g (args.map (RX.ev tm)) cap) with
    | none=>rw[hq] at h;cases h
    | some o=>rw[hq] at h;cases h;exact⟨e2,he,(hM.io _ _ _ _ _ hq).mono fun k hk=>by rw[hk]⟩
   | false =>
   simp only[oV,iq,lm] at h |-;by_cases hS:(Ar (Bc g (args.map (RX.ev tm)) cap)).isEmpty=true
   ·simp only[hS,lq] at h |-;by_cases hy:A5 (Bc g (args.map (RX.ev tm)) cap)=true
    ·simp only[hy,lq] at h |-;cases hq:M1.call E1 U dep (AO g) (Bc g (args.map (RX.ev tm)) cap) e1 with
     | none=>rw[hq] at h;cases h
     | some p =>
      obtain⟨r,obs,e⟩:=p;rw[hq] at h;cases h;obtain⟨nF,hr,oH⟩:=hM.call E1 E2 RE U H hh _ _ _ _ _ he _ _ _ hq;exact⟨nF,hr,oH.mono fun k hk=>by simp only at hk;rw[hk]⟩
    ·simp only[hy] at h |-;simp only[iq,lm] at h |-;cases hq:M1.call Unit AL 0 (AO g) (Bc g (args.map (RX.ev tm)) cap) () with
     | none=>rw[hq] at h;cases h
     | some p =>
      obtain⟨r,obs,e⟩:=p;rw[hq] at h;cases h;exact⟨e2,he,(Q3 hM _ _ hq).mono fun k hk=>by rw[hk]⟩
   ·simp only[hS] at h |-;unfold Av at h |-;simp only[iq,lm] at h |-;split at h
    ·rename_i hy;simp only[hy,lq];cases hq:M1.call Unit AL 0 (AO g) (AM (A7 σ) (Bc g (args.map (RX.ev tm)) cap)) () with
     | none=>rw[hq] at h;cases h
     | some p =>
      obtain⟨r,obs,e⟩:=p;rw[hq] at h;cases h;exact⟨e2,he,(Q3 hM _ _ hq).mono fun k hk=>by rw[hk]⟩
    {cases h}
 | _=>simp only[hf] at h;cases h
theorem YB (dep:Nat) (o:AD) (V:St) {e1:E1} {e2:E2} (he:RE e1 e2) {out:Al} {nW:E1} (h:By M1 U dep o V e1=some (out,nW)) :
  ∃ nF,RE nW nF/\AZ fun k=>By (M2 k) (H k) dep o V e2=some (out,nF):=by
 unfold By Av at h |-;split at h
 ·rename_i hf;simp only[hf,lq];cases qk:o.op with
  | call f args =>
   simp only[qk] at h |-;cases hq:Cj M1 U dep (o.dst.getD 0) (Ac V.mi) V.tmps f args e1 with
   | none=>rw[hq] at h;cases h
   | some p =>
    obtain⟨out1,e3⟩:=p;rw[hq] at h;simp only[Av] at h;split at h;{rename_i hg;cases h;obtain⟨nF,hr,oH⟩:=dM hM hh dep _ _ _ f args he hq;exact⟨nF,hr,oH.mono fun k hk=>by rw[hk];simp only[hg,lq]⟩};{cases h}
  | _ =>
   simp only[qk] at h |-;split at h;·cases h;exact⟨e2,he,.of fun _=>rfl⟩
   {cases h}
 {cases h}
theorem eV (dep:Nat) (o:AD) (V:St) {e1:E1} {e2:E2} (he:RE e1 e2) {nW:E1} (h:IA M1 U dep o V e1=some (st',nW)) :
  ∃ nF,RE nW nF/\AZ fun k=>IA (M2 k) (H k) dep o V e2=some (st',nF):=by
 unfold IA at h |-;cases hq:By M1 U dep o V e1 with
 | none=>rw[hq] at h;cases h
 | some p =>
  obtain⟨out,e⟩:=p;rw[hq] at h;cases h;obtain⟨nF,hr,oH⟩:=YB hM hh dep o V he hq;exact⟨nF,hr,oH.mono fun k hk=>by rw[hk]⟩
theorem wj (dep:Nat) (ops:l8) (o:AD) (V:St) {e1:E1} {e2:E2} (he:RE e1 e2) {nW:E1} (h:stepG M1 U dep ops o V e1=some (st',nW)) :
  ∃ nF,RE nW nF/\AZ fun k=>stepG (M2 k) (H k) dep ops o V e2=some (st',nF):=by
 unfold stepG at h |-;cases hw:BO ops o V.tmps with
 | none=>rw[hw] at h;cases h
 | some b =>
  rw[hw] at h;cases b with
  | true=>exact eV hM hh dep o V he h
  | false=>cases h;exact⟨e2,he,.of fun _=>rfl⟩
theorem Xl (dep:Nat) (ops:l8):∀ (l:l8) (V:St) {e1:E1} {e2:E2} (_:RE e1 e2) {st':St} {nW:E1} (_:Dy M1 U dep ops l V e1=some (st',nW)),
  ∃ nF,RE nW nF/\AZ fun k=>Dy (M2 k) (H k) dep ops l V e2=some (st',nF):=by
 intro l;induction l with
 | nil=>intro V e1 e2 he st' nW h;cases h;exact⟨e2,he,.of fun _=>rfl⟩
 | cons o rest ih =>
  intro V e1 e2 he st' nW h;unfold Dy at h |-;cases hq:stepG M1 U dep ops o V e1 with
  | none=>rw[hq] at h;cases h
  | some p =>
   obtain⟨s,e⟩:=p;rw[hq] at h;obtain⟨nF,hr,oH⟩:=wj hM hh dep ops o V he hq;obtain⟨e3',uk,h3'⟩:=ih s hr h;exact⟨e3',uk,oH.oP h3' fun k hk qv=>by rw[hk];exact qv⟩
theorem zaB (dep:Nat) (ops:l8) (i:Nat) (o:AD) (V:St) {e1:E1} {e2:E2} (he:RE e1 e2) {out:Al} {nW:E1} (h:A3 M1 U dep ops i o V e1=some (out,nW,inf)) :
  ∃ nF,RE nW nF/\AZ fun k=>A3 (M2 k) (H k) dep ops i o V e2=some (out,nF,inf):=by
 unfold A3 at h |-;cases hw:BO ops o V.tmps with
 | none=>rw[hw] at h;cases h
 | some b =>
  rw[hw] at h;cases b with
  | true =>
   simp only at h |-;cases hq:By M1 U dep o V e1 with
   | none=>rw[hq] at h;cases h
   | some p =>
    obtain⟨out,e⟩:=p;rw[hq] at h;cases h;obtain⟨nF,hr,oH⟩:=YB hM hh dep o V he hq;exact⟨nF,hr,oH.mono fun k hk=>by rw[hk]⟩
  | false=>cases h;exact⟨e2,he,.of fun _=>rfl⟩
theorem zaC (dep:Nat) (ops:l8):∀ (l:List (Nat×Nat)) (infos:List Bk) (V:St) {e1:E1} {e2:E2} (_:RE e1 e2) {st':St} {nW:E1} (_:FA M1 U dep ops l infos V e1=some (st',nW)),
  ∃ nF,RE nW nF/\AZ fun k=>FA (M2 k) (H k) dep ops l infos V e2=some (st',nF):=by
 intro l;induction l with
 | nil=>intro infos V e1 e2 he st' nW h;cases h;exact⟨e2,he,.of fun _=>rfl⟩
 | cons p rest ih =>
  obtain⟨i,pr⟩:=p;intro infos V e1 e2 he st' nW h;unfold FA at h |-;cases hi:ops[i]? with
  | none=>rw[hi] at h;cases h
  | some o =>
   simp only[hi] at h |-;unfold IL at h |-;cases hq:A3 M1 U dep ops i o V e1 with
   | none=>rw[hq] at h;cases h
   | some p =>
    obtain⟨out,e,inf⟩:=p;simp only[hq] at h |-;obtain⟨nF,hr,oH⟩:=zaB hM hh dep ops i o V he hq;unfold Av at h |-;split at h;{rename_i hc;obtain⟨e3',uk,h3'⟩:=ih _ _ hr h;exact⟨e3',uk,oH.oP h3' fun k hk qv=>by rw[hk];simp only[hc,lq];exact qv⟩};{cases h}
end par
def HH (M:AK) (fuel:Nat) (mT b:A1) (h:AF E) (dep:Nat) (ps:lU):AF (DU E):=fun l args r =>
 if l=dep then
  match r with
  |(s,none,e) =>
   if args.length=ps.length then
    match Az M fuel mT h (dep+1) {s with tmps:=GM ps args s.tmps,mj:=s.tmps++s.mj} e with
    | some (.normal,s',e)=>match Az M fuel b h (dep+1) s' e with
     | some (x,s',e)=>some (x==.normal,({s' with tmps:=s'.mj.take s.tmps.length,mj:=s'.mj.drop s.tmps.length},(if x=.normal then none else some x),e))
     | none=>none
    | _=>none
   else none
  | _=>none
 else
  match r with
  |(s,p,e)=>match h l args e with
   | some (b,e)=>some (b,(s,p,e))
   | none=>none
theorem WF (M:AK) (fuel:Nat) (f:RX) (ps:lU) (mT b:A1) (h:AF E) (dep:Nat) (V:St) (e:E) :
  Az M fuel (.rangeFunc f ps mT b) h dep V e=(if JT M (f.ev V.tmps) then Ju M (fun h dep=>HH M fuel mT b h dep ps) h dep (f.ev V.tmps) V e else match KA V (f.ev V.tmps) with
   | some (.fn g cap,V)=>match M.call (DU E) (HH M fuel mT b h dep ps) (dep+1) (AO g) (Bc g [.mF dep] cap) (V,none,e) with
    | some (_,_,s,p,e)=>some (p.getD .normal,s,e)
    | none=>none
   | _=>none):=rfl
def relR {E1 E2:Type} (RE:E1->E2->Prop) (a:DU E1) (b:DU E2):Prop:=a.1=b.1/\a.2.1=b.2.1/\RE a.2.2 b.2.2
theorem zaD {E1 E2:Type} {RE:E1->E2->Prop} {U:AF E1} {H:Nat->AF E2} (hh:GA RE U H) (dep k:Nat):GA RE (Oz dep k U) fun n=>Oz dep k (H n):=by
 intro l args e1 e2 he b nW h;unfold Oz at h |-;split at h;·cases h
 {rename_i hl;obtain⟨nF,hr,hv⟩:=hh l args e1 e2 he b nW h;exact⟨nF,hr,hv.mono fun n hn=>by show (if dep<=l/\l < dep+k then none else H n l args e2)=_;rw[lr hl];exact hn⟩}
theorem wk {M1:AK} {M2:Nat->AK} (hM:ER M1 M2) (v:PV) (k:Nat):JT (M2 k) v=JT M1 v:=by unfold JT;rw[hM.ow k]
theorem d7 {M1:AK} {M2:Nat->AK} (hM:ER M1 M2) {E1 E2:Type} {RE:E1->E2->Prop} {U:AF E1} {H:Nat->AF E2} (hh:GA RE U H)
  {rnd1:AF E1->Nat->AF (DU E1)} {rnd2:Nat->AF E2->Nat->AF (DU E2)} (hr:∀ g1 g2,GA RE g1 g2->∀ dep,GA (relR RE) (rnd1 g1 dep) fun k=>rnd2 k (g2 k) dep)
  (dep:Nat) (f:PV) (V:St) {e1:E1} {e2:E2} (he:RE e1 e2) {nW:E1} (h:Ju M1 rnd1 U dep f V e1=some (x,st',nW)) :
  ∃ nF,RE nW nF/\AZ fun k=>Ju (M2 k) (rnd2 k) (H k) dep f V e2=some (x,st',nF):=by
 unfold Ju at h |-;cases f with
 | fn g cap =>
  simp only at h |-;cases hm:(Bt (AI (Ac V.mi) AG (Ar cap))).mapM (Ac V.mi) with
  | none=>rw[hm] at h;cases h
  | some ins =>
   rw[hm] at h;simp only at h |-;obtain⟨hk,h⟩:=ND h;simp only[hk,Rt];split at h
   case h_2=>cases h
   rename_i qi s p e hq;obtain⟨⟨s2,p2,nF⟩,⟨q1,q2,q3⟩,hv⟩:=hM.tk _ _ _ _ _ (hr _ _ (zaD hh dep _) _) _ _ _ _ _ (P2 dep (Bt (AI (Ac V.mi) AG (Ar cap))) V,none,e2) ⟨rfl,rfl,he⟩ _ _ hq;simp only at q1 q2 q3;subst q1;subst q2;obtain⟨pX,h⟩:=ND h;split at h
   case h_2=>cases h
   rename_i out ho;obtain⟨hk3,h⟩:=ND h;cases h;refine⟨nF,q3,hv.mono fun k hk=>?_⟩;simp only at hk;rw[hk];simp only[pX,ho,hk3,Rt]
 | _=>cases h
def Ge (M:AK) (fuel:Nat) (mT:lU) (grow:List (Nat×Nat)) (b:A1) (h:AF E) (dep:Nat) (ds:lU) (s:St×E):Option (Sum (St×E) (Ex×(St×E))) :=
 match Az M fuel b h dep s.1 s.2 with
 | some (.normal,V,e)=>some (.inl (norm mT grow (drop ds V),e))
 | some (x,V,e)=>some (.inr (x,V,e))
 | none=>none
theorem XW (M:AK) (fuel:Nat) (mT:lU) (grow:List (Nat×Nat)) (b:A1) (h:AF E) (dep:Nat) (V:St) (e:E) :
  Az M fuel (.loop mT grow b) h dep V e=(match Dx (Ge M fuel mT grow b h dep (mQ (norm mT grow V))) fuel (norm mT grow V,e) with
   | some (x,V,e)=>some (x,V,e)
   | none=>none):=rfl
def KH {ρ τ:Type} (f:σ->Option τ) (g:ρ->Option τ):Option (Sum σ ρ)->Option τ
 | some (.inl s)=>f s
 | some (.inr r)=>g r
 | none=>none
theorem fp {σ1 σ2 ρ1 ρ2:Type} {R:σ1->σ2->Prop} {Q:ρ1->ρ2->Prop} {s1:σ1->Option (Sum σ1 ρ1)} {s2:Nat->σ2->Option (Sum σ2 ρ2)}
  (rep1:Nat->σ1->Option ρ1) (vl:∀ s,rep1 0 s=none) (pI:∀ n s,rep1 (n+1) s=KH (rep1 n) some (s1 s))
  (rep2:Nat->Nat->σ2->Option ρ2) (pJ:∀ k n s,rep2 k (n+1) s=KH (rep2 k n) some (s2 k s))
  (hs:∀ a b,R a b->(∀ a',s1 a=some (.inl a')->∃ b',R a' b'/\AZ fun k=>s2 k b=some (.inl b'))/\(∀ r,s1 a=some (.inr r)->∃ r',Q r r'/\AZ fun k=>s2 k b=some (.inr r'))) :
  ∀ (n:Nat) a b,R a b->∀ r,rep1 n a=some r->∃ r',Q r r'/\AZ fun k=>∀ j,n<=j->rep2 k j b=some r':=by
 intro n;induction n with
 | zero=>intro a b _ r h;rw[vl] at h;cases h
 | succ n ih =>
  intro a b hr r h;rw[pI] at h;cases hq:s1 a with
  | none=>rw[hq] at h;cases h
  | some q =>
   rw[hq] at h;cases q with
   | inl a1 =>
    obtain⟨b1,yB,H⟩:=(hs a b hr).1 a1 hq;obtain⟨r',hq',h3⟩:=ih a1 b1 yB r h;exact⟨r',hq',H.oP h3 fun k hk qv j hj=>by obtain⟨j,rfl⟩:∃ i,j=i+1:=⟨j - 1,by omega⟩;rw[pJ,hk];exact qv j (by omega)⟩
   | inr p =>
    cases h;obtain⟨r',yB,H⟩:=(hs a b hr).2 r hq;exact⟨r',yB,H.mono fun k hk j hj=>by obtain⟨j,rfl⟩:∃ i,j=i+1:=⟨j - 1,by omega⟩;rw[pJ,hk];rfl⟩
theorem QR (step:σ->Option (Sum σ (Ex×σ))) (n:Nat) (s:σ) :
  Dx step (n+1) s=KH (Dx step n) some (step s):=by
 rw[Dx];rcases step s with _ | (_ | _)<;>rfl
theorem AZ.diag {P:Nat->Nat->Prop} (h:AZ fun k=>∀ j,n<=j->P k j):AZ fun k=>P k k:=by obtain⟨a,ha⟩:=h;exact⟨max a n,fun k hk=>ha k (by omega) k (by omega)⟩
theorem Rl {M1:AK} {M2:Nat->AK} (hM:ER M1 M2):∀ (c:A1) {E1 E2:Type} {RE:E1->E2->Prop} {U:AF E1} {H:Nat->AF E2} (_:GA RE U H) (dep:Nat) (V:St) {e1:E1} {e2:E2} (_:RE e1 e2)
  {x:Ex} {st':St} {nW:E1} (_:Az M1 f1 c U dep V e1=some (x,st',nW)),∃ nF,RE nW nF/\AZ fun k=>Az (M2 k) k c (H k) dep V e2=some (x,st',nF):=by
 intro c;induction c with
 | skip=>intro E1 E2 RE U H hh dep V e1 e2 he x st' nW h;cases h;exact⟨e2,he,.of fun _=>rfl⟩
 | region ops dr lv =>
  intro E1 E2 RE U H hh dep V e1 e2 he x st' nW h;cases dr with
  | none =>
   simp only[Az] at h |-;cases hq:Dy M1 U dep ops ops (Cf (BI ops) V) e1 with
   | none=>rw[hq] at h;cases h
   | some p =>
    obtain⟨s,e⟩:=p;rw[hq] at h;cases h;obtain⟨nF,hr,oH⟩:=Xl hM hh dep ops ops _ he hq;exact⟨nF,hr,oH.mono fun k hk=>by rw[hk]⟩
  | some pr =>
   simp only[Az] at h |-;cases hq:FA M1 U dep ops pr [] (Cf (BI ops) V) e1 with
   | none=>rw[hq] at h;cases h
   | some p =>
    obtain⟨s,e⟩:=p;rw[hq] at h;cases h;obtain⟨nF,hr,oH⟩:=zaC hM hh dep ops pr [] _ he hq;exact⟨nF,hr,oH.mono fun k hk=>by rw[hk]⟩
 | seq a b qV qW =>
  intro E1 E2 RE U H hh dep V e1 e2 he x st' nW h;simp only[Az] at h |-;cases hq:Az M1 f1 a U dep V e1 with
  | none=>rw[hq] at h;cases h
  | some p =>
   obtain⟨y,s,e⟩:=p;rw[hq] at h;obtain⟨nF,hr,oH⟩:=qV hh dep V he hq;cases y with
   | normal =>
    obtain⟨e3',uk,h3'⟩:=qW hh dep s hr h;exact⟨e3',uk,oH.oP h3' fun k hk qv=>by rw[hk];exact qv⟩
   | exit id=>cases h;exact⟨nF,hr,oH.mono fun k hk=>by rw[hk]⟩
   | ret=>cases h;exact⟨nF,hr,oH.mono fun k hk=>by rw[hk]⟩
 | cond c a b qV qW =>
  intro E1 E2 RE U H hh dep V e1 e2 he x st' nW h;simp only[Az] at h |-;cases hc:c.ev V.tmps with
  | bool v =>
   rw[hc] at h;cases v with
   | true=>exact qV hh dep V he h
   | false=>exact qW hh dep V he h
  | _=>rw[hc] at h;cases h
 | block id b ih =>
  intro E1 E2 RE U H hh dep V e1 e2 he x st' nW h;simp only[Az] at h |-;cases hq:Az M1 f1 b U dep V e1 with
  | none=>rw[hq] at h;cases h
  | some p =>
   obtain⟨y,s,e⟩:=p;rw[hq] at h;obtain⟨nF,hr,oH⟩:=ih hh dep V he hq;cases y with
   | normal=>cases h;exact⟨nF,hr,oH.mono fun k hk=>by rw[hk]⟩
   | ret=>cases h;exact⟨nF,hr,oH.mono fun k hk=>by rw[hk]⟩
   | exit pw =>
    simp only at h |-;split at h<;>rename_i hid;·cases h;exact⟨nF,hr,oH.mono fun k hk=>by rw[hk];simp only[hid,lq]⟩
    {cases h;exact⟨nF,hr,oH.mono fun k hk=>by rw[hk];simp only[hid,lm]⟩}
 | loop mT grow b ih =>
  intro E1 E2 RE U H hh dep V e1 e2 he x st' nW h;simp only[XW] at h |-;generalize norm mT grow V=z0 at h |-;cases hq:Dx (Ge M1 f1 mT grow b U dep (mQ z0)) f1 (z0,e1) with
  | none=>rw[hq] at h;cases h
  | some q =>
   obtain⟨x0,st0,e0⟩:=q;rw[hq] at h;cases h
   obtain⟨⟨x2,s2,nF⟩,hr,oH⟩:=fp (R:=fun (a:St×E1) (b:St×E2)=>a.1=b.1/\RE a.2 b.2) (Q:=fun (a:Ex×St×E1) (b:Ex×St×E2)=>a.1=b.1/\a.2.1=b.2.1/\RE a.2.2 b.2.2)
    (s1:=Ge M1 f1 mT grow b U dep (mQ z0)) (s2:=fun k=>Ge (M2 k) k mT grow b (H k) dep (mQ z0))
    (Dx (Ge M1 f1 mT grow b U dep (mQ z0))) (fun _=>rfl) (fun n s=>QR _ n s) (fun k=>Dx (Ge (M2 k) k mT grow b (H k) dep (mQ z0))) (fun k n s=>QR (Ge (M2 k) k mT grow b (H k) dep (mQ z0)) n s) (by
     rintro ⟨a,ea⟩ ⟨b',eb⟩ ⟨h01,sF⟩;simp only at h01 sF;subst h01;refine⟨fun a' ha=>?_,fun r ha=>?_⟩
     ·unfold Ge at ha |-;simp only at ha |-;cases hb:Az M1 f1 b U dep a ea with
      | none=>rw[hb] at ha;cases ha
      | some p =>
       obtain⟨y,s,e⟩:=p;rw[hb] at ha;obtain⟨e3,uk,h3⟩:=ih hh dep a sF hb;cases y with
       | normal=>cases ha;exact⟨(_,e3),⟨rfl,uk⟩,h3.mono fun k hk=>by rw[hk]⟩
       | exit id=>cases ha
       | ret=>cases ha
     ·unfold Ge at ha |-;simp only at ha |-;cases hb:Az M1 f1 b U dep a ea with
      | none=>rw[hb] at ha;cases ha
      | some p =>
       obtain⟨y,s,e⟩:=p;rw[hb] at ha;obtain⟨e3,uk,h3⟩:=ih hh dep a sF hb;cases y with
       | normal=>cases ha
       | exit id=>cases ha;exact⟨(_,_,e3),⟨rfl,rfl,uk⟩,h3.mono fun k hk=>by rw[hk]⟩
       | ret=>cases ha;exact⟨(_,_,e3),⟨rfl,rfl,uk⟩,h3.mono fun k hk=>by rw[hk]⟩) f1 (z0,e1) (z0,e2) ⟨rfl,he⟩ _ hq
   simp only at hr;obtain⟨h00,h01,sF⟩:=hr;subst h00;subst h01;exact⟨nF,sF,oH.diag.mono fun k hk=>by rw[hk]⟩
 | rangeFunc f ps mT b qV qW =>
  intro E1 E2 RE U H hh dep V e1 e2 he x st' nW h
  have hrel:∀ (g1:AF E1) (g2:Nat->AF E2),GA RE g1 g2->∀ dep,GA (relR RE) (HH M1 f1 mT b g1 dep ps) fun k=>HH (M2 k) k mT b (g2 k) dep ps:=by
   intro g1 g2 hh1 dep;rintro l args ⟨s,p,e⟩ ⟨s2,p2,e2⟩ ⟨h01,h02,sF⟩ bb ⟨s',p',e'⟩ hq;simp only at h01 h02 sF;subst h01;subst h02;unfold HH at hq |-;by_cases hl:l=dep
   ·simp only[hl,lq] at hq |-;cases p with
    | some x=>cases hq
    | none =>
     simp only at hq |-;by_cases hlen:args.length=ps.length
     ·simp only[hlen,lq] at hq |-;cases ha:Az M1 f1 mT g1 (dep+1) {s with tmps:=GM ps args s.tmps,mj:=s.tmps++s.mj} e with
      | none=>rw[ha] at hq;cases hq
      | some q =>
       obtain⟨y,s3,e3⟩:=q;rw[ha] at hq;obtain⟨e4,hr4,h4⟩:=qV hh1 (dep+1) _ sF ha;cases y with
       | normal =>
        simp only at hq |-;cases hb:Az M1 f1 b g1 (dep+1) s3 e3 with
        | none=>rw[hb] at hq;cases hq
        | some q =>
         obtain⟨y,s5,e5⟩:=q;rw[hb] at hq;obtain⟨e6,hr6,h6⟩:=qW hh1 (dep+1) _ hr4 hb;cases hq;exact⟨(_,_,e6),⟨rfl,rfl,hr6⟩,h4.oP h6 fun k hk qv=>by simp only[hk,qv]<;>rfl⟩
       | exit id=>cases hq
       | ret=>cases hq
     {simp only[hlen,lm] at hq;cases hq}
   ·simp only[hl,lm] at hq |-;cases ha:g1 l args e with
    | none=>rw[ha] at hq;cases hq
    | some q =>
     obtain⟨y,e3⟩:=q;rw[ha] at hq;cases hq;obtain⟨e4,hr4,h4⟩:=hh1 l args _ _ sF _ _ ha;exact⟨(_,_,e4),⟨rfl,rfl,hr4⟩,h4.mono fun k hk=>by rw[hk]⟩
  simp only[WF,wk hM] at h |-;by_cases oV:JT M1 (f.ev V.tmps)=true;{simp only[oV,lq] at h |-;exact d7 hM hh (rnd2:=fun k h dep=>HH (M2 k) k mT b h dep ps) hrel dep _ V he h};simp only[oV] at h |-;simp only[iq,lm] at h |-;cases hz:KA V (f.ev V.tmps) with
  | none=>rw[hz] at h;cases h
  | some p =>
   obtain⟨v,s0⟩:=p;rw[hz] at h;cases v with
   | fn g cap =>
    simp only at h |-;cases hq:M1.call (DU E1) (HH M1 f1 mT b U dep ps) (dep+1) (AO g) (Bc g [.mF dep] cap) (s0,none,e1) with
    | none=>rw[hq] at h;cases h
    | some q =>
     obtain⟨r,obs,s,p,e⟩:=q;rw[hq] at h;cases h;obtain⟨⟨s2,p2,nF⟩,hr,oH⟩:=hM.call (DU E1) (DU E2) (relR RE) (HH M1 f1 mT b U dep ps) (fun k=>HH (M2 k) k mT b (H k) dep ps) (hrel U H hh dep) (dep+1) (AO g) (Bc g [.mF dep] cap) (s0,none,e1) (s0,none,e2) ⟨rfl,rfl,he⟩ r obs _ hq;obtain⟨h01,h02,sF⟩:=hr;subst h01;subst h02;exact⟨nF,sF,oH.mono fun k hk=>by simp only at hk;rw[hk]⟩
   | _=>cases h
 | exit id=>intro E1 E2 RE U H hh dep V e1 e2 he x st' nW h;cases h;exact⟨e2,he,.of fun _=>rfl⟩
 | norm g=>intro E1 E2 RE U H hh dep V e1 e2 he x st' nW h;cases h;exact⟨e2,he,.of fun _=>rfl⟩
 | scope b ih =>
  intro E1 E2 RE U H hh dep V e1 e2 he x st' nW h;simp only[Az] at h |-;cases hq:Az M1 f1 b U dep V e1 with
  | none=>rw[hq] at h;cases h
  | some p =>
   obtain⟨y,s,e⟩:=p;rw[hq] at h;obtain⟨nF,hr,oH⟩:=ih hh dep V he hq;cases y with
   | normal=>cases h;exact⟨nF,hr,oH.mono fun k hk=>by rw[hk]⟩
   | ret=>cases h;exact⟨nF,hr,oH.mono fun k hk=>by rw[hk]⟩
   | exit pw =>
    simp only at h |-;split at h<;>rename_i hid;·cases h;exact⟨nF,hr,oH.mono fun k hk=>by rw[hk];simp only[hid,lq]⟩
    {cases h}
 | ret=>intro E1 E2 RE U H hh dep V e1 e2 he x st' nW h;cases h;exact⟨e2,he,.of fun _=>rfl⟩
 | pZ=>intro E1 E2 RE U H hh dep V e1 e2 he x st' nW h;cases h
 | bad=>intro E1 E2 RE U H hh dep V e1 e2 he x st' nW h;cases h
theorem AZ.shift (h:AZ P):AZ fun k=>∃ j,k=j+1/\P j:=by obtain⟨a,ha⟩:=h;exact⟨a+1,fun k hk=>⟨k - 1,by omega,ha _ (by omega)⟩⟩
theorem GA.shift {E1 E2:Type} {RE:E1->E2->Prop} {U:AF E1} {H:Nat->AF E2} (hh:GA RE U H):GA RE U fun k=>H (k+1):=by intro l args e1 e2 he b nW h;obtain⟨nF,hr,a,ha⟩:=hh l args e1 e2 he b nW h;exact⟨nF,hr,a,fun k hk=>ha _ (by omega)⟩
theorem X7 {M1:AK} {M2:Nat->AK} (hM:ER M1 M2) (n:Nat) (mq:lL->l6):Wj (HN M1 n mq) (fun k=>HN (M2 k) k mq):=by
 intro E1 E2 RE U H hh dep g args e1 e2 he r obs nW h;simp only[HN] at h |-;cases ht:mq g with
 | none=>rw[ht] at h;cases h
 | some fn =>
  rw[ht] at h;simp only at h |-;cases hq:Az M1 n fn.code U dep {tmps:=args++List.replicate (fn.nt - args.length) .undef,mi:=List.replicate fn.nt [],mj:=[]} e1 with
  | none=>rw[hq] at h;cases h
  | some p =>
   obtain⟨x,s,e⟩:=p;rw[hq] at h;obtain⟨nF,hr,oH⟩:=Rl hM fn.code hh dep _ he hq;cases x with
   | exit id=>cases h
   | normal =>
    simp only at h;cases h3:Dl s fn.res with
    | none=>rw[h3] at h;cases h
    | some A =>
     rw[h3] at h;simp only at h;cases h4:Jp fn.shut s (EL A) with
     | none=>rw[h4] at h;cases h
     | some q =>
      obtain⟨v,uA⟩:=q;rw[h4] at h;cases h;exact⟨nF,hr,oH.mono fun k hk=>by simp only[hk,h3,h4]⟩
   | ret =>
    simp only at h;cases h3:Dl s fn.res with
    | none=>rw[h3] at h;cases h
    | some A =>
     rw[h3] at h;simp only at h;cases h4:Jp fn.shut s (EL A) with
     | none=>rw[h4] at h;cases h
     | some q =>
      obtain⟨v,uA⟩:=q;rw[h4] at h;cases h;exact⟨nF,hr,oH.mono fun k hk=>by simp only[hk,h3,h4]⟩
theorem fR {r:Option (Ex×St×Unit)} {V:St} (h:FS r=some (x,V,l)):r=some (x,V,())/\l=[]:=by
 unfold FS at h;split at h;·cases h;exact⟨rfl,rfl⟩
 {cases h}
theorem wm {M1:AK} {M2:Nat->AK} (hM:ER M1 M2):∀ (c:A1) (V:St) {x:Ex} {st':St} {l:lU},AX M1 n nt c V=some (x,st',l)->AZ fun k=>AX (M2 k) k nt c V=some (x,st',l):=by
 have leaf:∀ (c:A1) (V:St) {x:Ex} {st':St} {l:lU},FS (Az M1 n c AL 0 V ())=some (x,st',l)->AZ fun k=>FS (Az (M2 k) k c AL 0 V ())=some (x,st',l):=by intro c V x st' l h;obtain⟨U,rfl⟩:=fR h;obtain⟨nF,_,oH⟩:=Rl (RE:=fun (_ _:Unit)=>True) (U:=AL) (H:=fun _=>AL) hM c (fun _ _ _ _ _ _ _ h=>by cases h) 0 _ (e1:=()) (e2:=()) trivial U;exact oH.mono fun k hk=>by rw[hk];rfl
 intro c;induction c with
 | pZ ops f args live =>
  intro V x st' l h;simp only[AX] at h |-;cases hq:Dy M1 AL 0 ops ops (Cf (BI ops) V) () with
  | none=>rw[hq] at h;cases h
  | some p =>
   obtain⟨s,u⟩:=p;rw[hq] at h;obtain⟨nF,_,oH⟩:=Xl (RE:=fun (_ _:Unit)=>True) (U:=AL) (H:=fun _=>AL) hM (fun _ _ _ _ _ _ _ h=>by cases h) 0 ops ops _ (e1:=()) (e2:=()) trivial hq;exact oH.mono fun k hk=>by rw[hk];exact h
 | seq a b qV qW =>
  intro V x st' l h;simp only[AX] at h |-;cases hq:AX M1 n nt a V with
  | none=>rw[hq] at h;cases h
  | some p =>
   obtain⟨y,s,l1⟩:=p;rw[hq] at h;have U:=qV _ hq;cases y with
   | normal =>
    simp only at h;cases hb:AX M1 n nt b s with
    | none=>rw[hb] at h;cases h
    | some q =>
     obtain⟨z,s2,l2⟩:=q;rw[hb] at h;exact U.oP (qW _ hb) fun k g1 g2=>by rw[g1];simp only;rw[g2];exact h
   | exit id=>exact U.mono fun k g1=>by rw[g1];exact h
   | ret=>exact U.mono fun k g1=>by rw[g1];exact h
 | cond c a b qV qW =>
  intro V x st' l h;simp only[AX] at h |-;split at h;{exact qV _ h};{exact qW _ h};·cases h
 | block id b ih =>
  intro V x st' l h;simp only[AX] at h |-;cases hq:AX M1 n nt b V with
  | none=>rw[hq] at h;cases h
  | some p =>
   rw[hq] at h;exact (ih _ hq).mono fun k g=>by rw[g];exact h
 | scope b ih =>
  intro V x st' l h;simp only[AX] at h |-;split at h;·cases h
  rename_i hl;simp only[hl,iq,lm];cases hq:AX M1 n nt b V with
  | none=>rw[hq] at h;cases h
  | some p =>
   rw[hq] at h;exact (ih _ hq).mono fun k g=>by rw[g];exact h
 | skip=>intro V x st' l h;exact leaf _ V h
 | region ops d lv=>intro V x st' l h;exact leaf _ V h
 | loop a g b _=>intro V x st' l h;exact leaf _ V h
 | rangeFunc f ps a b _ _=>intro V x st' l h;exact leaf _ V h
 | exit id=>intro V x st' l h;exact leaf _ V h
 | ret=>intro V x st' l h;exact leaf _ V h
 | norm g=>intro V x st' l h;exact leaf _ V h
 | bad=>intro V x st' l h;exact leaf _ V h
theorem ah {M1:AK} {M2:Nat->AK} (hM:ER M1 M2):∀ (l:lU) (V:St) {st':St},Gz M1 nt l V=some st'->AZ fun k=>Gz (M2 k) nt l V=some st':=by
 intro l;induction l with
 | nil=>intro V st' h;exact .of fun _=>h
 | cons n l ih =>
  intro V st' h;unfold Gz at h |-;split at h
  case h_2=>cases h
  rename_i f cap hf;split at h;·cases h
  rename_i ny;split at h
  case isFalse=>cases h
  rename_i uP;split at h
  case h_2=>cases h
  rename_i out mC;unfold Av at h;split at h
  case isFalse=>cases h
  rename_i hn;refine (hM.io _ _ _ _ _ mC).oP (ih _ h) fun k g1 g2=>?_;rw[<-hM.sp k,ny,<-hM.ow k,<-hM.flat k];simp only[uP,lq,g1,Av,hn];exact g2
theorem M9 {M1:AK} {M2:Nat->AK} (hM:ER M1 M2) (n:Nat) (fn:Ah) (ins:lY) (A:lS) {r:St×PV} (h:Db M1 n fn ins A=some r):AZ fun k=>Db (M2 k) k fn ins A=some r:=by
 unfold Db at h |-;cases hd:CU fn.code with
 | true =>
  simp only[hd,lq] at h |-;cases hq:Az M1 n fn.code AL 0 (EQ fn.gone fn.nt ins A) () with
  | none=>rw[hq] at h;cases h
  | some p =>
   obtain⟨x,s,e⟩:=p;rw[hq] at h;obtain⟨nF,_,oH⟩:=Rl (RE:=fun (_ _:Unit)=>True) (U:=AL) (H:=fun _=>AL) hM fn.code (fun _ _ _ _ _ _ _ h=>by cases h) 0 _ (e1:=()) (e2:=()) trivial hq;refine oH.mono fun k hk=>?_;rw[hk];exact h
 | false =>
  simp only[hd,iq,lm] at h |-;cases hq:AX M1 n fn.nt fn.code (EQ fn.gone fn.nt ins A) with
  | none=>rw[hq] at h;cases h
  | some p =>
   obtain⟨x,s,l⟩:=p;rw[hq] at h;have U:=wm hM fn.code _ hq;cases x with
   | exit id=>cases h
   | normal =>
    simp only at h;cases sQ:Gz M1 fn.nt l s with
    | none=>rw[sQ] at h;cases h
    | some s2 =>
     rw[sQ] at h;exact U.oP (ah hM l s sQ) fun k g1 g2=>by rw[g1];simp only;rw[g2];exact h
   | ret =>
    simp only at h;cases sQ:Gz M1 fn.nt l s with
    | none=>rw[sQ] at h;cases h
    | some s2 =>
     rw[sQ] at h;exact U.oP (ah hM l s sQ) fun k g1 g2=>by rw[g1];simp only;rw[g2];exact h
theorem zaE {M1:AK} {M2:Nat->AK} (hM:ER M1 M2) (n:Nat) (mq:lL->l6) (g:lL) (dst:Nat) (σ:Nm->lV) (A:lS) (out:Al) (h:F6 M1 n mq g dst σ A=some out) :
  AZ fun k=>F6 (M2 k) k mq g dst σ A=some out:=by
 unfold F6 at h |-;cases ht:mq g with
 | none=>rw[ht] at h;cases h
 | some fn =>
  rw[ht] at h;simp only at h |-;cases hm:(Bt (AI σ AG (Ar A))).mapM σ with
  | none=>rw[hm] at h;cases h
  | some ins =>
   rw[hm] at h;simp only at h |-;unfold Av at h |-;split at h
   case isFalse=>cases h
   rename_i hc;simp only[hc,lq];cases hq:Db M1 n fn (ins.map (Ob.mz fun m=>(0,(Bt (AI σ AG (Ar A))).idxOf m))) (AY (fun m=>(0,(Bt (AI σ AG (Ar A))).idxOf m)) A) with
   | none=>rw[hq] at h;cases h
   | some p =>
    rw[hq] at h;refine (M9 hM n fn _ _ hq).mono fun k hk=>?_;rw[hk];exact h
theorem Ys {M1:AK} {M2:Nat->AK} (hM:ER M1 M2) (n:Nat) (mq:lL->l6):RioLe (JO M1 n mq) fun k=>JO (M2 k) k mq:=by
 intro E1 E2 RE U H hh dep g ins A e1 e2 he V nW h;unfold JO at h |-;cases ht:mq g with
 | none=>rw[ht] at h;cases h
 | some fn =>
  simp only[ht] at h |-;obtain⟨hk,h⟩:=ND h;simp only[hk,Rt];cases hq:Az M1 n fn.code U dep (EQ fn.gone fn.nt ins A) e1 with
  | none=>rw[hq] at h;cases h
  | some q =>
   obtain⟨x,s,e⟩:=q;rw[hq] at h;obtain⟨nF,hr,hv⟩:=Rl hM fn.code hh dep _ he hq;cases x with
   | exit id=>cases h
   | normal=>cases h;exact⟨nF,hr,hv.mono fun k hk=>by rw[hk]⟩
   | ret=>cases h;exact⟨nF,hr,hv.mono fun k hk=>by rw[hk]⟩
theorem ER.u0 {M1:AK} {M2:Nat->AK} (h:ER M1 fun k=>M2 (k+1)) (h0:M1.sp=(M2 0).sp) (U:M1.ow=(M2 0).ow) (H:M1.nC=(M2 0).nC) (h3:M1.flat=(M2 0).flat):ER M1 M2 where
 sp k:=by cases k with | zero=>exact h0 | succ k=>exact h.sp k
 call:=by intro E1 E2 RE g1 g2 hh dep g args e1 e2 he r obs nW hq;obtain⟨nF,hr,H⟩:=h.call E1 E2 RE g1 (fun k=>g2 (k+1)) hh.shift dep g args e1 e2 he r obs nW hq;exact⟨nF,hr,H.shift.mono fun k ⟨j,hj,hp⟩=>by subst hj;exact hp⟩
 ow k:=by cases k with | zero=>exact U | succ k=>exact h.ow k
 nC k:=by cases k with | zero=>exact H | succ k=>exact h.nC k
 flat k:=by cases k with | zero=>exact h3 | succ k=>exact h.flat k
 io g dst σ A out hq:=(h.io g dst σ A out hq).shift.mono fun k ⟨j,hj,hp⟩=>by subst hj;exact hp
 tk:=by intro E1 E2 RE g1 g2 hh dep g ins A e1 e2 he V nW hq;obtain⟨nF,hr,H⟩:=h.tk E1 E2 RE g1 (fun k=>g2 (k+1)) hh.shift dep g ins A e1 e2 he V nW hq;exact⟨nF,hr,H.shift.mono fun k ⟨j,hj,hp⟩=>by subst hj;exact hp⟩
theorem U9 (sp:lL->(Nm->lV)->lS->l5) (mq:lL->l6) (n:Nat):(Cb sp mq n).sp=sp:=by cases n<;>rfl
theorem T4 (sp:lL->(Nm->lV)->lS->l5) (mq:lL->l6) (n:Nat):(Cb sp mq n).ow=E0 mq:=by cases n<;>rfl
theorem TN (sp:lL->(Nm->lV)->lS->l5) (mq:lL->l6) (n:Nat):(Cb sp mq n).nC=Nj mq:=by cases n<;>rfl
theorem ZY (mq:lL->l6) (h:∀ g dst σ A out,io1 g dst σ A=some out->AZ fun k=>io2 k g dst σ A=some out)
  (g:lL) (dst:Nat) (σ:Nm->lV) (A:lS) (out:Al) (hc:Gx mq io1 g dst σ A=some out):AZ fun k=>Gx mq (io2 k) g dst σ A=some out:=by
 unfold Gx at hc |-;generalize KP mq g σ A=Rz at hc |-;cases Rz with
 | nil=>exact h _ _ _ _ _ hc
 | cons r rs =>
  simp only at hc |-;obtain⟨U,hc⟩:=ND hc;split at hc
  case h_2=>cases hc
  rename_i pb hq;obtain⟨H,hc⟩:=ND hc;cases hc;refine (h _ _ _ _ _ hq).mono fun k hk=>?_;rw[U,hk];simp only[Rt,H]
theorem T5 (sp:lL->(Nm->lV)->lS->l5) (mq:lL->l6) (n:Nat):(Cb sp mq n).flat=Kt mq:=by cases n<;>rfl
theorem Va:∀ (n:Nat),ER (Cb sp mq n) (Cb sp mq):=by
 intro n;induction n with
 | zero=>exact {sp:=fun k=>(by rw[U9,U9]),call:=fun E1 E2 RE U H hh dep g args e1 e2 he r obs nW h=>(by cases h),ow:=fun k=>(by rw[T4,T4]),nC:=fun k=>(by rw[TN,TN]),flat:=fun k=>(by rw[T5,T5]),io:=fun g dst σ A out h=>(by cases h),tk:=fun E1 E2 RE U H hh dep g ins A e1 e2 he V nW h=>(by cases h)}
 | succ n ih =>
  refine ER.u0 ⟨fun k=>rfl,?_,fun k=>rfl,fun k=>rfl,fun k=>rfl,fun g dst σ A out h=>ZY mq (fun g dst σ A out h=>zaE ih n mq g dst σ A out h) g dst σ A out h,Ys ih n mq⟩ rfl rfl rfl rfl;exact X7 ih n mq
theorem T6 (n:Nat):Wj (Ei sp mq n) (Ei sp mq):=(Va n).call
end Go.Ab

