/- Part 3 of a proof: laws of a machine. -/
import Derived.Test.YtpkicjjenbdejaaGreatDoorK02
import Derived.Test.YtpkicjjenbdejaaGreatDoorK01
set_option linter.all false

namespace Go.Ab
variable{R gone l:fh} {aN:Nat->Nm} {d0 i0:Nat} {m J s x:Nm} {fA:List fg} {p:Option (Nat×Nat)} {sl:fb} {v:eT} {v0:PV} {A:List eT}
section
variable {w:eS} {I:Nat->Prop} {lp jT:Nat->fb}
theorem Ae.narrow {L L':Am} {Z:fa} (h:Ae w I lp (some L) Z A) (hn:∀ J∈Al Z,∀ p,L J=some p->L' J=some p):Ae w I lp (some L') Z A:=by
 have hs:Dg w I lp L (some L') (fun J=>J∈Al Z) (fun _=>none):=fun J p hS hp=>⟨L',rfl,hn J hS p hp⟩;have:=Ae.subst (fun _ h=>h) hs h fun _ h=>h
 rwa [Go.Ab.ir] at this
theorem A5.narrow {L L':Am} {ob:Ob} (h:A5 w I lp L ob p) (hn:∀ J∈ob.names,∀ p,L J=some p->L' J=some p):A5 w I lp L' ob p:=by
 have hs:Dg w I lp L (some L') (fun J=>J∈ob.names) (fun _=>none):=fun J p hS hp=>⟨L',rfl,hn J hS p hp⟩;have:=A5.subst h (fun _ h=>h) (fun _ _=>rfl) hs (fun _ h=>h) fun _ _ _=>rfl
 rwa [Ob.iW] at this
theorem A5.lR {L:Am} {ob:Ob} (h:A5 w I lp L ob p) (hy:ob.gq=false):A5 w I jT L ob p:=by
 cases p with
 | none=>exact h
 | some p =>
  cases ob with
  | cells ty cs=>obtain⟨c,E,U,O,h4,h3⟩:=h;exact⟨c,E,U,O,h4,h3.lR hy⟩
  | arr k kt Z=>obtain⟨c,E,U,O,h3,h4,h6,h5⟩:=h;exact⟨c,E,U,O,h3,h4,h6,h5.lR (Ms (w:=w) (I:=I) (lp:=lp) (jT:=jT) Z hy)⟩
  | map es=>obtain⟨c,E,U,O⟩:=h;exact⟨c,E,U,O.lR hy⟩
  | fW s pos=>exact h
def GeP:Option (Nat×Nat)->Option (Nat×Nat)->Prop
 | none,none=>True
 | some (b,C),some (b',C')=>b'=b/\C<=C'
 | _,_=>False
def Jv (L L':Am):Prop:=∀ J p,L J=some p->∃ p',L' J=some p'/\GeP p p'
theorem GeP.refl (p:Option (Nat×Nat)):GeP p p:=by
 cases p with
 | none=>trivial
 | some p=>exact⟨rfl,bD _⟩
theorem Jv.at {L L':Am} (h:Jv L L') {b C:Nat} (hn:L J=some (some (b,C))):∃ C',L' J=some (some (b,C'))/\C<=C':=by
 obtain⟨p,U,O⟩:=h J _ hn;cases p with
 | none=>exact O.elim
 | some p=>obtain⟨b',C'⟩:=p;obtain⟨rfl,h3⟩:=O;exact⟨C',U,h3⟩
theorem Jv.atN {L L':Am} (h:Jv L L') (hn:L J=some none):L' J=some none:=by
 obtain⟨p,U,O⟩:=h J _ hn;cases p with
 | none=>exact U
 | some p=>exact O.elim
mutual
theorem Aj.ge {L L':Am} {x:PV} {v:eT}:Aj w I lp (some L) x v->Jv L L'->Aj w I lp (some L') x v
 | .undef v,_=>.undef v
 | .bool b,_=>.bool b
 | .int k n,_=>.int k n
 | .str s,_=>.str s
 | .fF,_=>.fF
 | .gh,_=>.gh
 | .gH,_=>.gH
 | .fR,_=>.fR
 | .gF,_=>.gF
 | .lx k full a cap hf,_=>.lx k full a cap hf
 | .sl k Z full b off cap c E fr U O h3 h4 h5 h6 h8 h7,_=>.sl k Z full b off cap c E fr U O h3 h4 h5 h6 h8 h7
 | .ptr cs o b off c E fr U O h3 h4 h8 h5,_=>.ptr cs o b off c E fr U O h3 h4 h8 h5
 | .agg cs A U h,e=>.agg cs A U (h.ge e)
 | .iface t x v h,e=>.iface t x v (h.ge e)
 | .fn f cs us A hk h,e=>.fn f cs us A hk (h.ge e)
 | .fT d l h,_=>.fT d l h
 | .fM Z A h,e=>.fM Z A (h.ge e)
 | .gz es r gD clock U O h3,_=>.gz es r gD clock U O h3
 | .gw g t x c E fr U O h3,_=>.gw g t x c E fr U O h3
 | .ref J o b C h,e=>let ⟨C',h',_⟩:=e.at h;.ref J o b C' h'
 | .fO J k i o b C h,e=>let ⟨C',h',_⟩:=e.at h;.fO J k i o b C' h'
 | .arr J k o n cap b C h hC hn,e=>let ⟨C',h',hle⟩:=e.at h;.arr J k o n cap b C' h' (dD hC hle) hn
 | .iL J k h,e=>.iL J k (e.atN h)
 | .mp J b C h,e=>let ⟨C',h',_⟩:=e.at h;.mp J b C' h'
 | .it J b C h,e=>let ⟨C',h',_⟩:=e.at h;.it J b C' h'
theorem Ae.ge {L L':Am} {Z:fa} {A:List eT}:Ae w I lp (some L) Z A->Jv L L'->Ae w I lp (some L') Z A
 | .nil,_=>.nil
 | .cons x v Z A h hs,e=>.cons x v Z A (h.ge e) (hs.ge e)
end
theorem A5.ge {L L':Am} {ob:Ob} (h:A5 w I lp L ob p) (e:Jv L L'):A5 w I lp L' ob p:=by
 cases p with
 | none=>exact h
 | some p =>
  cases ob with
  | cells ty cs=>obtain⟨c,E,U,O,h4,h3⟩:=h;exact⟨c,E,U,O,h4,h3.ge e⟩
  | arr k kt Z=>exact h
  | map es=>obtain⟨c,E,U,O⟩:=h;exact⟨c,E,U,O.ge e⟩
  | fW s pos=>exact h
theorem Ae.ur {L:fm}:∀ {Z:fa} {A:List eT},Z.length=A.length->(∀ (i:Nat) (x:PV) (v:eT),Z[i]?=some x->A[i]?=some v->Aj w I lp L x v)->Ae w I lp L Z A:=by
 intro Z;induction Z with
 | nil=>intro A h _;cases A with | nil=>exact .nil | cons v A=>simp at h
 | cons x Z ih =>
  intro A h hg;cases A with
  | nil=>simp at h
  | cons v A=>exact .cons _ _ _ _ (hg 0 x v rfl rfl) (ih (by simpa using h) fun i y u hy hu=>hg (i+1) y u (by simpa using hy) (by simpa using hu))
end
theorem OA:∀ {l:fh} {x:Nm},x∈Bm l↔x∈l:=by
 intro l;induction l with
 | nil=>intro x;simp[Bm]
 | cons y l ih =>
  intro x;simp only[Bm];split
  ·rename_i h;have hy:y∈l:=by simpa using h
   rw[ih,bE];exact⟨.inr,fun h=>h.elim (fun e=>e ▸ hy) id⟩
  {rw[bE,bE,ih]}
theorem VR:∀ {l:fh} (i j:Nat) (x:Nm),(Bm l)[i]?=some x->(Bm l)[j]?=some x->i=j:=by
 intro l;induction l with
 | nil=>intro i j x h;simp[Bm] at h
 | cons y l ih =>
  intro i j x hi hj;simp only[Bm] at hi hj;split at hi;{rename_i h;rw[eH h] at hj;exact ih i j x hi hj}
  ·rename_i h;rw[eG h] at hj;have hy:y ∉ Bm l:=fun hm=>h (by simpa using OA.1 hm);cases i with
   | zero =>
    cases j with
    | zero=>rfl
    | succ j=>simp at hi hj;subst hi;exact eQ (bJ hj) hy
   | succ i =>
    cases j with
    | zero=>simp at hi hj;subst hj;exact eQ (bJ hi) hy
    | succ j=>simp at hi hj;rw[ih i j x hi hj]
theorem Tx (h:x∈l):l[l.idxOf x]?=some x:=by have oZ:=eD h;rw[bQ oZ];simp
theorem Sz:∀ {B:List (Nm×Nm)} {s t:Nm},Cy (B.map (·.1))=true->(s,t)∈B->B.lookup s=some t:=by
 intro B;induction B with
 | nil=>intro s t _ h;cases h
 | cons p B ih =>
  obtain⟨a,b⟩:=p;intro s t hn h;simp only[bP,Cy,bz,cK] at hn;rcases bE.1 h with O | O;·cases O;simp
  ·have gj:s≠a:=by
    rintro rfl;have:(B.map (·.1)).contains s=true:=by rw[cy];exact bA.2 ⟨(s,t),O,rfl⟩
    rw[this] at hn;cases hn.1
   have hb:(s==a)=false:=by simpa using gj
   rw[ed,hb];exact ih hn.2 O
theorem VI {B:List (Nm×Nm)} (hn:Cy (B.map (·.1))=true) {t t':Nm} (h:(s,t)∈B) (h':(s,t')∈B):t=t':=by have:=(Sz hn h).symm.trans (Sz hn h');exact bw this
theorem Mr:∀ (l:List (Nm×Ob)) (fA:List fg) (t:Nm),(∀ p∈l,∃ o,Aa fA p.1=some o) ->
  (∀ o,(∀ o',(t,o')∈l->o'=o)->(t,o)∈l->Aa (Bj l fA) t=some o)/\((∀ o,(t,o) ∉ l)->Aa (Bj l fA) t=Aa fA t):=by
 intro l;induction l with
 | nil=>intro fA t _;exact⟨fun o _ h=>(by cases h),fun _=>rfl⟩
 | cons p l ih =>
  obtain⟨J,ob⟩:=p;intro fA t H
  have kb:∀ p∈l,∃ o,Aa (AM fA J ob) p.1=some o:=by
   intro p hp;cases hl:Aa (AM fA J ob) p.1 with
   | some o=>exact⟨o,rfl⟩
   | none =>
    obtain⟨o,ho⟩:=H p (bM _ hp);rw[Iy] at hl;rw[ho] at hl;cases hl
  obtain⟨i1,i2⟩:=ih (AM fA J ob) t kb;refine⟨fun o hu ho=>?_,fun nz=>?_⟩
  ·by_cases hl:∃ o',(t,o')∈l
   {obtain⟨o',mJ⟩:=hl;have:=hu o' (bM _ mJ);subst this;exact i1 o' (fun o2 O=>hu o2 (bM _ O)) mJ}
   ·have hnl:∀ o',(t,o') ∉ l:=fun o' h=>hl ⟨o',h⟩;rcases bE.1 ho with he | he
    {have e1:t=J:=eM Prod.fst he;have e2:o=ob:=eM Prod.snd he;subst e1;subst e2;obtain⟨o0,h0⟩:=H (t,o) bN;have:=i2 hnl;exact this.trans (Ix o h0)};{exact eQ he (hnl o)}
  ·have gj:t≠J:=by rintro rfl;exact nz ob bN
   show Aa (Bj l (AM fA J ob)) t=Aa fA t;rw[i2 fun o h=>nz o (bM _ h),EG ob gj]
noncomputable def BC (L L':Am) (B:List (Nm×Nm)):Am:=fun t =>
 open Classical in if h:∃ s,(s,t)∈B then some ((L' h.choose).getD none) else L t
theorem JU {L L':Am} {B:List (Nm×Nm)} (hU:∀ s s' t,(s,t)∈B->(s',t)∈B->s=s') {t:Nm} (h:(s,t)∈B):BC L L' B t=some ((L' s).getD none):=by unfold BC;have H:∃ s,(s,t)∈B:=⟨s,h⟩;rw[dif_pos H,hU _ _ t H.choose_spec h]
theorem SA {L L':Am} {B:List (Nm×Nm)} {t:Nm} (h:∀ s,(s,t) ∉ B):BC L L' B t=L t:=by unfold BC;rw[dif_neg fun ⟨s,hs⟩=>h s hs]
def CN (B:List (Nm×Nm)) (m:Nm):Option fe:=if (B.map (·.1)).contains m then none else some none
def CI (B:List (Nm×Nm)) (m:Nm):Nm:=(B.lookup m).getD m
theorem qw {B:List (Nm×Nm)}:(B.map (·.1)).contains m=true↔∃ t,(m,t)∈B:=by rw[cy,bA];constructor;{rintro ⟨⟨a,b⟩,U,rfl⟩;exact⟨b,U⟩};{rintro ⟨t,h⟩;exact⟨(m,t),h,rfl⟩}
section take
variable {w:eS} {I:Nat->Prop} {lp:Nat->fb} {L L':Am} {B:List (Nm×Nm)}
theorem uu (hn:Cy (B.map (·.1))=true) (hU:∀ s s' t,(s,t)∈B->(s',t)∈B->s=s'):Dg w I lp L' (some fun m=>if (B.map (·.1)).contains m then L' m else none) (fun _=>True) (CN B):=by intro J p _ hp;by_cases h:(B.map (·.1)).contains J=true;{simp only[CN,h,eF];exact⟨_,rfl,by simp only[h,eF];exact hp⟩};{simp only[CN,h];trivial}
theorem Yl (hn:Cy (B.map (·.1))=true) (hU:∀ s s' t,(s,t)∈B->(s',t)∈B->s=s') (J:Nm) (p:Option (Nat×Nat)) (hp:(fun m=>if (B.map (·.1)).contains m then L' m else none) J=some p):BC L L' B (CI B J)=some p:=by
 simp only at hp;split at hp
 ·rename_i h;obtain⟨t,ht⟩:=qw.1 h;have hl:CI B J=t:=by unfold CI;rw[Sz hn ht];rfl
  rw[hl,JU hU ht,hp];rfl
 {cases hp}
theorem uv (hn:Cy (B.map (·.1))=true) (hU:∀ s s' t,(s,t)∈B->(s',t)∈B->s=s') {x:PV} (h:Aj w I lp (some L') x v):Aj w I lp (some (BC L L' B)) ((x.sub (CN B)).fQ (CI B)) v :=
 Aj.rename (Yl hn hU) (Aj.subst (fun _ h=>h) (uu hn hU) h fun _ _=>trivial)
theorem X4 (hn:Cy (B.map (·.1))=true) (hU:∀ s s' t,(s,t)∈B->(s',t)∈B->s=s') {ob:Ob} (h:A5 w I lp L' ob p):A5 w I lp (BC L L' B) ((ob.sub (CN B)).fQ (CI B)) p :=
 A5.fQ (A5.subst h (fun _ h=>h) (fun _ _=>rfl) (uu hn hU) (fun _ _=>trivial) fun _ _ _=>rfl) (Yl hn hU)
end take
def putP (tm:fa) (dst:fb) (v:PV):fa :=
 match dst with
 | some d=>tm.set d v
 | none=>tm
section done
variable {E:Type} {cx:Cx} {w0:eS} {I0 F0:Nat->Prop} {O0:Bu} {Hd:Nat->Option Obj} {RE:Bl E} {e:E} {ds:List eZ} {I F I':Nat->Prop} {lp jT:Nat->fb} {L L':Am} {V fZ:St} {gf tmv2 fE wv:List eT} {w w2:eS}
theorem uw {dst:fb} {N:fh} 
  (hs:SR lp I L V gf fE w) (hf:Fr cx w0 I0 F0 O0 Hd RE e ds I F L w) (mL:G9 jT lp)
  (hd:∀ d,dst=some d->V.fA[d]?=some []/\(sl=none->d=d0)) (nx:∀ r,sl=some r->r=d0) (hlen:N≠[]->∃ l,V.fA[d0]?=some l/\l.length=i0) (iu:sl=none->dst=none->N=[])
  (hR:∀ J∈R,∃ p,L J=some p) (mg:∀ (i j:Nat) J,R[i]?=some J->R[j]?=some J->i=j)
  (jV:SR jT I' L' fZ tmv2 wv w2) (hv:Aj w2 I' jT (some L') v0 v)
  (x1:w2.os=w.os) (x2:w2.tape=w.tape) (x3:w2.output=w.output) (x4:w.heap.size<=w2.heap.size)
  (x5:∀ b,b < w.heap.size->(∀ J C,J∈R->L J≠some (some (b,C)))->w2.heap[b]?=w.heap[b]?) (x6:∀ b,I b->I' b)
  (x7:∀ b,I' b->I b\/(b < w2.heap.size/\(w.heap.size<=b\/∃ J C,J∈R/\L J=some (some (b,C)))))
  (x8:∀ J b C,L' J=some (some (b,C))->b < w2.heap.size/\¬ I' b/\(w.heap.size<=b\/∃ gP C',gP∈R/\L gP=some (some (b,C'))))
  (x9:∀ J gP b C C',L' J=some (some (b,C))->L' gP=some (some (b,C'))->J=gP)
  (hB:Cy (((R.zipIdx.map fun p=>(aN p.2,p.1))++N.zipIdx.map fun p=>(p.1,(d0,i0+p.2))).map (·.1))=true)
  (kK:∀ (j:Nat) J,R[j]?=some J->J ∉ gone->∀ p,L J=some p->∃ p',L' (aN j)=some p'/\GeP p p') {B:List (Nm×Nm)} (qx:B=(R.zipIdx.map fun p=>(aN p.2,p.1))++N.zipIdx.map fun p=>(p.1,(d0,i0+p.2))) :
  SR lp I' (BC L L' B) (apply V dst {v:=(v0.sub (CN B)).fQ (CI B),new:=N.map fun m=>(((Aa fZ.fA m).getD AH).sub (CN B)).fQ (CI B),gC:=(R.zipIdx.map fun p=>(p.1,(((Aa fZ.fA (aN p.2)).getD AH).sub (CN B)).fQ (CI B))),gone:=gone,io:=true,slot:=sl}) (EE gf dst v) fE w2 /\
   Fr cx w0 I0 F0 O0 Hd RE e ds I' F (BC L L' B) w2:=by
 rw[<-qx] at hB;have nD:∀ s t,(s,t)∈B↔(∃ j:Nat,R[j]?=some t/\s=aN j)\/(∃ i:Nat,N[i]?=some s/\t=(d0,i0+i)):=by intro s t;rw[qx,bS,bA,bA];constructor;{rintro (⟨⟨a,j⟩,U,O⟩ | ⟨⟨a,i⟩,U,O⟩);{cases O;exact .inl ⟨j,(cd.1 U),rfl⟩};{cases O;exact .inr ⟨i,(cd.1 U),rfl⟩}};{rintro (⟨j,U,rfl⟩ | ⟨i,U,rfl⟩);{exact .inl ⟨(t,j),cd.2 U,rfl⟩};{exact .inr ⟨(s,i),cd.2 U,rfl⟩}}
 have iJ:∀ i:Nat,(∃ s,N[i]?=some s)->L (d0,i0+i)=none:=by
  rintro i ⟨s,im⟩;obtain⟨l,U,O⟩:=hlen fun h=>by rw[h] at im;simp at im
  refine hs.j6 _ ?_;unfold Aa;rw[U];exact bY.2 (by simp only;omega)
 have pC:∀ (j:Nat) t,R[j]?=some t->∃ p,L t=some p:=fun j t h=>hR t (bJ h)
 have hU:∀ s s' t,(s,t)∈B->(s',t)∈B->s=s':=by
  intro s s' t h h';rcases (nD s t).1 h with ⟨j,U,rfl⟩ | ⟨i,U,rfl⟩<;>rcases (nD s' _).1 h' with ⟨j',O,rfl⟩ | ⟨i',O,h3⟩;{rw[mg j j' t U O]}
  {obtain⟨p,hp⟩:=pC j t U;rw[h3,iJ i' ⟨_,O⟩] at hp;cases hp};{obtain⟨p,hp⟩:=pC j' _ O;rw[iJ i ⟨_,U⟩] at hp;cases hp}
  ·have h4:i0+i=i0+i':=eM Prod.snd h3;have:i=i':=by omega
   subst this;exact bw (U.symm.trans O)
 have mS:∀ s t,(s,t)∈B->BC L L' B t=some ((L' s).getD none):=fun s t h=>JU hU h;have fU:∀ t,(∀ s,(s,t) ∉ B)->BC L L' B t=L t:=fun t h=>SA h
 have kC:Fr cx w0 I0 F0 O0 Hd RE e ds I' F (BC L L' B) w2:=by
  have gJ:∀ t b C,BC L L' B t=some (some (b,C))->(∃ s,(s,t)∈B/\L' s=some (some (b,C)))\/((∀ s,(s,t) ∉ B)/\L t=some (some (b,C))):=by
   intro t b C h;by_cases H:∃ s,(s,t)∈B
   ·obtain⟨s,hH⟩:=H;rw[mS s t hH] at h;refine .inl ⟨s,hH,?_⟩;cases hl:L' s with
    | none=>rw[hl] at h;simp at h
    | some p=>rw[hl] at h;simpa using h
   {have kb:∀ s,(s,t) ∉ B:=fun s h=>H ⟨s,h⟩;rw[fU t kb] at h;exact .inr ⟨kb,h⟩}
  have ux:∀ t,(∀ s,(s,t) ∉ B)->t ∉ R:=by intro t h hm;obtain⟨j,hj,hT⟩:=dM hm;exact h (aN j) ((nD _ _).2 (.inl ⟨j,by rw[bQ hj,hT],rfl⟩))
  refine hf.own x1 x2 x3 x4 (fun b hb hn=>x5 b hb fun J C _=>hn J C) x6 (fun b hb=>(x7 b hb).imp id fun h=>⟨h.1,h.2.imp id fun ⟨J,C,_,h⟩=>⟨J,C,h⟩⟩) (fun t b C ht=>?_) (fun t t' b C C' ht pB=>?_)
  ·rcases gJ t b C ht with ⟨s,_,h⟩ | ⟨H,h⟩
   {obtain⟨g1,g2,g3⟩:=x8 s b C h;exact⟨g1,g2,g3.imp id fun ⟨J,C,_,h⟩=>⟨J,C,h⟩⟩}
   ·obtain⟨g1,g2,g3,g4⟩:=hf.lB t b C h;refine⟨by omega,fun hi=>?_,.inr ⟨t,C,h⟩⟩;rcases x7 b hi with U | ⟨_,U | ⟨J,C',U,O⟩⟩;{exact g3 U};{omega}
    {have:=hf.inj t J b C C' h O;subst this;exact ux t H U}
  ·rcases gJ t b C ht with ⟨s,hb,h⟩ | ⟨H,h⟩<;>rcases gJ t' b C' pB with ⟨s',jh,h'⟩ | ⟨kb,h'⟩
   {have:=x9 s s' b C C' h h';subst this;exact VI hB hb jh}
   ·obtain⟨_,_,g3⟩:=x8 s b C h;rcases g3 with g3 | ⟨J,C2,g3,g4⟩;{have:=(hf.lB t' b C' h').2.1;omega}
    {have:=hf.inj t' J b C' C2 h' g4;subst this;exact eQ g3 (ux t' kb)}
   ·obtain⟨_,_,g3⟩:=x8 s' b C' h';rcases g3 with g3 | ⟨J,C2,g3,g4⟩;{have:=(hf.lB t b C h).2.1;omega}
    {have:=hf.inj t J b C C2 h g4;subst this;exact eQ g3 (ux t H)}
   {exact hf.inj t t' b C C' h h'}
 refine⟨?_,kC⟩;have hIk:∀ b,I b->w2.heap[b]?=w.heap[b]?:=fun b hb=>x5 b (hf.sep.iB b hb) fun J C _ hn=>(hf.lB J b C hn).2.2.1 hb
 let L1:Am:=fun t=>if t∈R/\t ∉ gone then BC L L' B t else L t
 have hnB:∀ t,t ∉ R->∀ p,L t=some p->∀ s,(s,t) ∉ B:=by intro t ht p hp s h;rcases (nD s t).1 h with ⟨j,U,rfl⟩ | ⟨i,U,rfl⟩;{exact ht (bJ U)};{rw[iJ i ⟨_,U⟩] at hp;cases hp}
 have hge1:Jv L L1:=by
  intro t p hp;by_cases ht:t∈R/\t ∉ gone
  ·obtain⟨j,hj,hT⟩:=dM ht.1;have hj':R[j]?=some t:=by rw[bQ hj,hT]
   obtain⟨p',U,O⟩:=kK j t hj' ht.2 p hp;refine⟨p',?_,O⟩;simp only[L1,ht,eP,and_self,eF];rw[mS (aN j) t ((nD _ _).2 (.inl ⟨j,hj',rfl⟩)),U];rfl
  {exact⟨p,by simp only[L1,ht,eE];exact hp,GeP.refl p⟩}
 let f1:Nm->Option fe:=fun m=>if gone.contains m then some none else none
 have uy:Dg w2 I' lp L1 (some (BC L L' B)) (fun _=>True) f1:=by
  intro t p _ hp;by_cases hg:gone.contains t=true;{simp only[f1,hg,eF]}
  ·simp only[f1,hg];refine⟨_,rfl,?_⟩;have sL:t ∉ gone:=by simpa using hg
   by_cases ht:t∈R;{have:t∈R/\t ∉ gone:=⟨ht,sL⟩;simpa only [L1,this,eP,and_self,eF] using hp};{have:¬ (t∈R/\t ∉ gone):=fun h=>ht h.1;simp only[L1,this,eE] at hp;rw[fU t (hnB t ht p hp)];exact hp}
 have htm:Ae w2 I' lp (some (BC L L' B)) (AE f1 V.tmps) gf:=Ae.subst (fun _ h=>h) uy ((Ae.mono x6 hIk (fun _ _ h=>h) hs.tm).ge hge1) fun _ _=>trivial;have oe:Ae w2 I' lp (some (BC L L' B)) (AE f1 V.fD) fE:=Ae.subst (fun _ h=>h) uy ((Ae.mono x6 hIk (fun _ _ h=>h) hs.kp).ge hge1) fun _ _=>trivial;generalize hups:(R.zipIdx.map fun p=>(p.1,(((Aa fZ.fA (aN p.2)).getD AH).sub (CN B)).fQ (CI B)))=gC;have nF:∀ t o,(t,o)∈gC↔∃ j:Nat,R[j]?=some t/\o=(((Aa fZ.fA (aN j)).getD AH).sub (CN B)).fQ (CI B):=by intro t o;rw[<-hups,bA];constructor;{rintro ⟨⟨a,j⟩,U,O⟩;cases O;exact⟨j,cd.1 U,rfl⟩};{rintro ⟨j,U,rfl⟩;exact⟨(t,j),cd.2 U,rfl⟩}
 have uz:∀ f g,(AH.sub f).fQ g=AH:=fun f g=>rfl
 have jc:∀ s t,(s,t)∈B->∃ p,BC L L' B t=some p/\A5 w2 I' lp (BC L L' B) ((((Aa fZ.fA s).getD AH).sub (CN B)).fQ (CI B)) p:=by
  intro s t hH;refine⟨_,mS s t hH,?_⟩;cases hl:Aa fZ.fA s with
  | none =>
   rw[jV.j6 s hl];simp only[Option.getD_none,uz];exact⟨0,0,rfl⟩
  | some ob =>
   obtain⟨p,hp,ha⟩:=jV.ob s ob hl;rw[hp];simp only[b7];exact X4 hB hU (ha.mono (fun _ h=>h) (fun _ _=>rfl) mL fun _ _ _=>rfl)
 have uA:∀ t,Aa (V.fA.map (·.map (Ob.sub f1))) t=(Aa V.fA t).map (Ob.sub f1):=fun t=>DA _ _ t;have mq:∀ p∈gC,∃ o,Aa (V.fA.map (·.map (Ob.sub f1))) p.1=some o:=by rintro ⟨t,o⟩ hp;obtain⟨j,hj,_⟩:=(nF t o).1 hp;obtain⟨p,hL⟩:=pC j t hj;obtain⟨ob,iT,_⟩:=hs.kf hL;exact⟨_,by rw[uA,iT];rfl⟩
 have hlu:∀ t,((∃ j:Nat,R[j]?=some t)->∃ s,(s,t)∈B/\Aa (Bj gC (V.fA.map (·.map (Ob.sub f1)))) t=some ((((Aa fZ.fA s).getD AH).sub (CN B)).fQ (CI B))) /\
   ((∀ j:Nat,R[j]?≠some t)->Aa (Bj gC (V.fA.map (·.map (Ob.sub f1)))) t=(Aa V.fA t).map (Ob.sub f1)):=by
  intro t;obtain⟨U,O⟩:=Mr gC (V.fA.map (·.map (Ob.sub f1))) t mq;refine⟨?_,fun nz=>?_⟩;{rintro ⟨j,hj⟩;refine⟨aN j,(nD _ _).2 (.inl ⟨j,hj,rfl⟩),U _ (fun o' mJ=>?_) ((nF _ _).2 ⟨j,hj,rfl⟩)⟩;obtain⟨j',hj',rfl⟩:=(nF _ _).1 mJ;rw[mg j j' t hj hj']};{rw[O fun o ho=>by obtain⟨j,hj,_⟩:=(nF _ _).1 ho;exact nz j hj,uA]}
 have kO:∀ t ob,(∀ s,(s,t) ∉ B)->Aa V.fA t=some ob->∃ p,BC L L' B t=some p/\A5 w2 I' lp (BC L L' B) (ob.sub f1) p:=by
  intro t ob H hl;obtain⟨p,hp,ha⟩:=hs.ob t ob hl;refine⟨p,by rw[fU t H];exact hp,?_⟩;have ha2:A5 w2 I' lp L ob p:=ha.mono x6 hIk (fun _ _ h=>h) fun b C hpb=>by subst hpb;refine x5 b (hf.lB t b C hp).2.1 fun J C' hm hn=>?_;have:=hf.inj t J b C C' hp hn;subst this;obtain⟨j,hj,hT⟩:=dM hm;exact H (aN j) ((nD _ _).2 (.inl ⟨j,by rw[bQ hj,hT],rfl⟩))
  exact A5.subst (ha2.ge hge1) (fun _ h=>h) (fun _ _=>rfl) uy (fun _ _=>trivial) fun _ _ _=>rfl
 have pD:∀ (l:List (Nm×Ob)) (fA:List fg) (d:Nat),(Bj l fA).length=fA.length/\∀ x,fA[d]?=some x->∃ y,(Bj l fA)[d]?=some y/\y.length=x.length:=by
  intro l;induction l with
  | nil=>intro fA d;exact⟨rfl,fun x h=>⟨x,h,rfl⟩⟩
  | cons p l ih =>
   obtain⟨J,o⟩:=p;intro fA d;obtain⟨q1,q2⟩:=ih (AM fA J o) d;have hp:(AM fA J o).length=fA.length:=by unfold AM;split<;>simp
   refine⟨q1.trans hp,fun x H=>?_⟩;have:∃ y,(AM fA J o)[d]?=some y/\y.length=x.length:=by unfold AM;split;{rename_i l' mN;by_cases jB:J.1=d;{subst jB;rw[H] at mN;cases mN;exact⟨_,cB (bH.1 H).1,by simp⟩};{exact⟨x,by rw[bR jB];exact H,rfl⟩}};{exact⟨x,H,rfl⟩}
   obtain⟨y,U,O⟩:=this;obtain⟨z,h3,h4⟩:=q2 y U;exact⟨z,h3,h4.trans O⟩
 generalize hXd:Bj gC (V.fA.map (·.map (Ob.sub f1)))=X at hlu;have hX1:X.length=V.fA.length:=by rw[<-hXd,(pD gC _ 0).1,cf]
 have hX2:∀ (d:Nat) (l:fg),V.fA[d]?=some l->∃ l',X[d]?=some l'/\l'.length=l.length:=by intro d l h;obtain⟨y,U,O⟩:=(pD gC (V.fA.map (·.map (Ob.sub f1))) d).2 (l.map (Ob.sub f1)) (by rw[bK,h];rfl);exact⟨y,by rw[<-hXd];exact U,by rw[O,cf]⟩
 generalize pE:(N.map fun m=>(((Aa fZ.fA m).getD AH).sub (CN B)).fQ (CI B))=news;have hnn:news.length=N.length:=by rw[<-pE,cf]
 have nn:∀ (X:List fg) (d:Nat),X.set d (X.getD d []++[])=X:=by intro X d;rw[dv];apply cj;intro i;by_cases hi:i=d;{subst hi;by_cases gI:i < X.length;{rw[cB gI,bF,bQ gI];rfl};{rw[bY.2 (by simpa using gI),bY.2 (by simpa using gI)]}};{rw[bR (bW hi)]}
 have hH:apply V dst {v:=(v0.sub (CN B)).fQ (CI B),new:=news,gC:=gC,gone:=gone,io:=true,slot:=sl} =
   {tmps:=putP (AE f1 V.tmps) dst ((v0.sub (CN B)).fQ (CI B)),fA:=X.set d0 (X.getD d0 []++news),fD:=AE f1 V.fD}:=by
  have e1:(if gone.isEmpty=true then V else Cd f1 V)={tmps:=AE f1 V.tmps,fA:=V.fA.map (·.map (Ob.sub f1)),fD:=AE f1 V.fD}:=by
   split
   ·rename_i hg;have sL:f1=fun _=>none:=by funext m;simp only[f1];rw[bZ.1 hg];rfl
    rw[sL,ir,ir];have:(fun l:fg=>l.map (Ob.sub fun _=>none))=id:=by funext l;rw[show (Ob.sub fun _=>none)=id from funext Ob.iW,List.map_id];rfl
    rw[this,List.map_id]
   {rfl}
  have e2:∀ s:St,(if gC.isEmpty=true then s else {s with fA:=Bj gC s.fA})={s with fA:=Bj gC s.fA}:=by intro s;split;{rename_i hu;rw[bZ.1 hu];rfl};{rfl}
  unfold apply;simp only[dg,eF];rw[e1,e2];simp only[hXd];cases sl with
  | some r =>
   have:=nx r rfl;subst this;cases dst with
   | none=>rfl
   | some d=>rfl
  | none =>
   cases oS:dst with
   | none =>
    have hN:=iu rfl oS;have:news=[]:=by rw[<-pE,hN];rfl
    rw[this,nn];rfl
   | some d =>
    obtain⟨iG,h0⟩:=hd d oS;have h0:=h0 rfl;subst h0;simp only[ep,dC];obtain⟨l',U,O⟩:=hX2 d [] iG;have h3:l'=[]:=ej.1 O;subst h3;cases hn0:news with
    | nil=>simp only[dg,eF,nn];rfl
    | cons n ns =>
     have:X.getD d []=[]:=by rw[bF,U];rfl
     simp only[List.isEmpty_cons,bL,eE,this,dp];rfl
 have key1:∀ (i:Nat) s,N[i]?=some s->Aa (X.set d0 (X.getD d0 []++news)) (d0,i0+i)=some ((((Aa fZ.fA s).getD AH).sub (CN B)).fQ (CI B)):=by
  intro i s hi;obtain⟨l,U,O⟩:=hlen fun h=>by rw[h] at hi;simp at hi
  obtain⟨l',h3,h4⟩:=hX2 d0 l U;have gI:d0 < X.length:=(bH.1 h3).1;rw[Ep _ gI,bF,h3];simp only[b7];rw[cD (by omega),show i0+i - l'.length=i by omega,<-pE,bK,hi];rfl
 have uB:∀ t:Nm,(∀ (i:Nat) s,N[i]?=some s->t≠(d0,i0+i))->Aa (X.set d0 (X.getD d0 []++news)) t=Aa X t:=by
  intro t ht;by_cases U:t.1=d0
  ·obtain⟨a,j⟩:=t;simp only at U;subst U;by_cases hN:N=[]
   ·have:news=[]:=by rw[<-pE,hN];rfl
    rw[this,nn]
   ·obtain⟨l,g1,g2⟩:=hlen hN;obtain⟨l',h3,h4⟩:=hX2 a l g1;have gI:a < X.length:=(bH.1 h3).1;rw[Ep _ gI,bF,h3];simp only[b7];have hX:Aa X (a,j)=l'[j]?:=by unfold Aa;rw[h3]
    rw[hX];by_cases hj:j < l'.length;{rw[ck hj]}
    ·rw[cD (by omega),bY.2 (by omega:l'.length<=j)];refine bY.2 ?_;apply dw;intro oP;have hlt3:j - l'.length < N.length:=by omega
     exact ht (j - l'.length) _ (bQ hlt3) (by rw[show i0+(j - l'.length)=j by omega])
  {rw[DO _ U]}
 rw[hH];have hnotB:∀ t:Nm,(∀ (i:Nat) s,N[i]?=some s->t≠(d0,i0+i))->(¬ ∃ j:Nat,R[j]?=some t)->∀ s,(s,t) ∉ B:=by intro t ht hj s h;rcases (nD s t).1 h with ⟨j,U,_⟩ | ⟨i,U,O⟩;{exact hj ⟨j,U⟩};{exact ht i s U O}
 have htmf:Ae w2 I' lp (some (BC L L' B)) (putP (AE f1 V.tmps) dst ((v0.sub (CN B)).fQ (CI B))) (EE gf dst v):=by
  cases dst with
  | none=>exact htm
  | some d=>exact htm.set d (uv hB hU (Aj.mono (fun _ h=>h) (fun _ _=>rfl) mL hv))
 refine⟨htmf,oe,fun t ob hl=>?_,fun t hl=>?_⟩;{simp only at hl;by_cases ht:∃ (i:Nat) (s:Nm),N[i]?=some s/\t=(d0,i0+i);{obtain⟨i,s,U,rfl⟩:=ht;rw[key1 i s U] at hl;cases hl;exact jc s _ ((nD _ _).2 (.inr ⟨i,U,rfl⟩))};{have pB:∀ (i:Nat) s,N[i]?=some s->t≠(d0,i0+i):=fun i s U O=>ht ⟨i,s,U,O⟩;rw[uB t pB] at hl;by_cases hj:∃ j:Nat,R[j]?=some t;{obtain⟨s,U,O⟩:=(hlu t).1 hj;rw[O] at hl;cases hl;exact jc s t U};{rw[(hlu t).2 fun j h=>hj ⟨j,h⟩] at hl;obtain⟨jo,h0,rfl⟩:=bB.1 hl;exact kO t jo (hnotB t pB hj) h0}}};{simp only at hl;by_cases ht:∃ (i:Nat) (s:Nm),N[i]?=some s/\t=(d0,i0+i);{obtain⟨i,s,U,rfl⟩:=ht;rw[key1 i s U] at hl;cases hl};{have pB:∀ (i:Nat) s,N[i]?=some s->t≠(d0,i0+i):=fun i s U O=>ht ⟨i,s,U,O⟩;rw[uB t pB] at hl;by_cases hj:∃ j:Nat,R[j]?=some t;{obtain⟨s,U,O⟩:=(hlu t).1 hj;rw[O] at hl;cases hl};{rw[(hlu t).2 fun j h=>hj ⟨j,h⟩] at hl;rw[fU t (hnotB t pB hj)];exact hs.j6 t (by simpa using hl)}}}
end done
theorem OE {V:St} {v:PV} {out:Ai} (h:Fi sl d0 i0 R V v=some out) :
  ∃ (N:fh) (B:List (Nm×Nm)),B=(R.zipIdx.map fun p=>((Cm (V.fD.getD p.2 .undef)).getD (0,p.2),p.1))++N.zipIdx.map (fun p=>(p.1,(d0,i0+p.2)))/\Cy (B.map (·.1))=true /\
   out={v:=(v.sub (CN B)).fQ (CI B),new:=N.map fun m=>(((Aa V.fA m).getD AH).sub (CN B)).fQ (CI B),gC:=(R.zipIdx.map fun p=>(p.1,(((Aa V.fA ((Cm (V.fD.getD p.2 .undef)).getD (0,p.2))).getD AH).sub (CN B)).fQ (CI B))),gone:=Hx R V.fD,io:=true,slot:=sl}:=by
 unfold Fi at h;obtain⟨U,O⟩:=AK h;refine⟨_,_,rfl,U,?_⟩;cases O;simp only[EJ,bV];rfl
theorem Vc {d j:Nat} {o:Ob} (hj:Aa fA (d,j)=some o) (h:GL (Aa fA) d=some i0):∃ l,fA[d]?=some l/\l.length=i0:=by
 unfold GL at h;rw[List.find?_eq_some_iff_append] at h;obtain⟨U,as,bs,O,h3⟩:=h;cases hl:fA[d]? with
 | none=>unfold Aa at hj;simp only[hl] at hj;cases hj
 | some l =>
  have j8:∀ j,Aa fA (d,j)=l[j]?:=fun j=>by unfold Aa;simp only[hl]
  refine⟨l,rfl,?_⟩;have hle:l.length<=i0:=by rw[j8] at U;simpa using U
  have hlen:as.length=i0/\∀ k,k < as.length->as[k]?=some k:=by
   have hr:=O;have pY:(List.range 64)[as.length]?=some i0:=by rw[hr];simp
   obtain⟨q1,q2⟩:=bH.1 pY;simp at q2;refine⟨q2,fun k hk=>?_⟩;have:(List.range 64)[k]?=as[k]?:=by rw[hr,ck hk]
   rw[<-this];simp at q1;exact cN (by omega)
  rcases cZ l.length i0 with gI | kK
  {have hm:=hlen.2 l.length (by omega);have:=h3 _ (bJ hm);rw[j8] at this;simp at this};{omega}
end Go.Ab


namespace Go.Ab
variable{J:Nm} {fA:List fg} {p:Option (Nat×Nat)} {v0:PV} {σ:Nm->fe}
theorem Sy:∀ (S:fh) (obs:fg),S.mapM σ=some obs->obs.length=S.length/\∀ (j:Nat) (J:Nm),S[j]?=some J->∃ ob,obs[j]?=some ob/\σ J=some ob:=by
 intro S;induction S with
 | nil=>intro obs h;simp at h;subst h;exact⟨rfl,fun j J h=>by simp at h⟩
 | cons x S ih =>
  intro obs h;rw[cH] at h;simp only[dE,co,dO,bC] at h;obtain⟨ob,ho,o5,hos,rfl⟩:=h;obtain⟨q1,q2⟩:=ih o5 hos;refine⟨by simp[q1],fun j J hj=>?_⟩;cases j with
  | zero=>simp at hj;subst hj;exact⟨ob,rfl,ho⟩
  | succ j=>simp at hj;obtain⟨o,U,O⟩:=q2 j J hj;exact⟨o,by simpa using U,O⟩
section away
variable {w:eS} {I:Nat->Prop} {lp jZ:Nat->fb} {L L0:Am} {dep:Nat} {R:fh}
mutual
theorem XW (mL:G9 lp jZ) (hL:∀ J p,J ∉ R->L J=some p->L0 J=some p) (hA:∀ J b C,J∈R->L J=some (some (b,C))->jZ (dep+R.idxOf J)=some (2*b+1)) {x:PV} {v:eT} :
  Aj w I lp (some L) x v->Aj w I jZ (some L0) (Io dep R x) v
 | .undef v=>.undef v
 | .bool b=>.bool b
 | .int k n=>.int k n
 | .str s=>.str s
 | .fF=>.fF
 | .gh=>.gh
 | .gH=>.gH
 | .fR=>.fR
 | .gF=>.gF
 | .lx k full a cap hf=>.lx k full a cap hf
 | .sl k Z full b off cap c E fr U O h3 h4 h5 h6 h8 h7=>.sl k Z full b off cap c E fr U O h3 h4 h5 h6 h8 (Ae.mono (fun _ h=>h) (fun _ _=>rfl) mL h7)
 | .ptr cs o b off c E fr U O h3 h4 h8 h5=>.ptr cs o b off c E fr U O h3 h4 h8 (Ae.mono (fun _ h=>h) (fun _ _=>rfl) mL h5)
 | .agg cs A U h=>.agg _ A U (IL mL hL hA h)
 | .iface t x v h=>.iface t _ v (XW mL hL hA h)
 | .fn f cs us A hk h=>.fn f _ us A hk (IL mL hL hA h)
 | .fT d l h=>.fT d l (mL d l h)
 | .fM Z A h=>.fM _ A (IL mL hL hA h)
 | .gz es r gD clock U O h3=>.gz es r gD clock U O (Ae.mono (fun _ h=>h) (fun _ _=>rfl) mL h3)
 | .gw g t x c E fr U O h3=>.gw g t x c E fr U O h3
 | .ref J o b C h=>by
  unfold Io;by_cases hm:J∈R;{rw[eH (by simpa using hm)];split;{rename_i ho;subst ho;rw[<-s9];exact .fT _ _ (hA J b C hm h)};{exact .undef _}};{rw[eG (by simpa using hm)];exact .ref J o b C (hL J _ hm h)}
 | .fO J k i o b C h=>by
  unfold Io;by_cases hm:J∈R;{rw[eH (by simpa using hm)];exact .undef _};{rw[eG (by simpa using hm)];exact .fO J k i o b C (hL J _ hm h)}
 | .arr J k o n cap b C h hC hn=>by
  unfold Io;by_cases hm:J∈R;{rw[eH (by simpa using hm)];exact .undef _};{rw[eG (by simpa using hm)];exact .arr J k o n cap b C (hL J _ hm h) hC hn}
 | .iL J k h=>by
  unfold Io;by_cases hm:J∈R;{rw[eH (by simpa using hm)];exact .undef _};{rw[eG (by simpa using hm)];exact .iL J k (hL J _ hm h)}
 | .mp J b C h=>by
  unfold Io;by_cases hm:J∈R;{rw[eH (by simpa using hm)];exact .undef _};{rw[eG (by simpa using hm)];exact .mp J b C (hL J _ hm h)}
 | .it J b C h=>by
  unfold Io;by_cases hm:J∈R;{rw[eH (by simpa using hm)];exact .undef _};{rw[eG (by simpa using hm)];exact .it J b C (hL J _ hm h)}
theorem IL (mL:G9 lp jZ) (hL:∀ J p,J ∉ R->L J=some p->L0 J=some p) (hA:∀ J b C,J∈R->L J=some (some (b,C))->jZ (dep+R.idxOf J)=some (2*b+1)) {Z:fa} {A:List eT} :
  Ae w I lp (some L) Z A->Ae w I jZ (some L0) (Ip dep R Z) A
 | .nil=>.nil
 | .cons x v Z A h hs=>.cons _ v _ A (XW mL hL hA h) (IL mL hL hA hs)
end
theorem away_ob (mL:G9 lp jZ) (hL:∀ J p,J ∉ R->L J=some p->L0 J=some p) (hA:∀ J b C,J∈R->L J=some (some (b,C))->jZ (dep+R.idxOf J)=some (2*b+1)) {ob:Ob} 
  (h:A5 w I lp L ob p):A5 w I jZ L0 (Uc dep R ob) p:=by
 have hm:∀ {Z:fa} {A:List eT},Ae w I lp none Z A->Ae w I jZ none Z A:=fun h=>Ae.mono (fun _ h=>h) (fun _ _=>rfl) mL h;cases p with
 | none=>obtain⟨k,kt,rfl⟩:=h;exact⟨k,kt,rfl⟩
 | some p =>
  cases ob with
  | cells ty cs =>
   obtain⟨c,E,U,O,h4,h3⟩:=h;exact⟨c,E,U,O,h4,IL mL hL hA h3⟩
  | arr k kt Z=>obtain⟨c,E,U,O,h3,h4,h6,h5⟩:=h;exact⟨c,E,U,O,h3,h4,h6,hm h5⟩
  | map es=>obtain⟨c,E,U,O⟩:=h;exact⟨c,E,U,IL mL hL hA O⟩
  | fW s pos=>exact h
variable {Lf:Am}
mutual
theorem XU (hY:∀ d l,jZ d=some l->(¬ (dep<=d/\d < dep+R.length)->lp d=some l)/\(dep<=d/\d < dep+R.length->∃ b C,l=2*b+1/\Lf (R.getD (d - dep) (0,0))=some (some (b,C))))
  (hL:∀ J p,J ∉ R->L J=some p->Lf J=some p) {x:PV} {v:eT}:Aj w I jZ (some L) x v->Aj w I lp (some Lf) (Fl dep R x) v
 | .undef v=>.undef v
 | .bool b=>.bool b
 | .int k n=>.int k n
 | .str s=>.str s
 | .fF=>.fF
 | .gh=>.gh
 | .gH=>.gH
 | .fR=>.fR
 | .gF=>.gF
 | .lx k full a cap hf=>by
  unfold Fl;split;{exact .undef _};{exact .lx k full a cap hf}
 | .sl k Z full b off cap c E fr U O h3 h4 h5 h6 h8 h7=>by
  unfold Fl;split;{exact .undef _};{rename_i hy;exact .sl k Z full b off cap c E fr U O h3 h4 h5 h6 h8 (Ae.lR h7 (Ms (w:=w) (I:=I) (lp:=jZ) (jT:=lp) Z (by simpa using hy)))}
 | .ptr cs o b off c E fr U O h3 h4 h8 h5=>by
  unfold Fl;split;{exact .undef _};{rename_i hy;exact .ptr cs o b off c E fr U O h3 h4 h8 (h5.lR (by simpa using hy))}
 | .agg cs A U h=>.agg _ A U (IK hY hL h)
 | .iface t x v h=>.iface t _ v (XU hY hL h)
 | .fn f cs us A hk h=>.fn f _ us A hk (IK hY hL h)
 | .fT d l h=>by
  unfold Fl;obtain⟨U,O⟩:=hY d l h;split;{rename_i hd;obtain⟨b,C,rfl,hl⟩:=O hd;rw[s9];exact .ref _ 0 b C hl};{rename_i hd;exact .fT d l (U hd)}
 | .fM Z A h=>.fM _ A (IK hY hL h)
 | .gz es r gD clock U O h3=>by
  unfold Fl;split;{exact .undef _};{rename_i hy;exact .gz es r gD clock U O (h3.lR (by simpa using hy))}
 | .gw g t x c E fr U O h3=>.gw g t x c E fr U O h3
 | .ref J o b C h=>by
  unfold Fl;by_cases hm:J∈R;{rw[eH (by simpa using hm)];exact .undef _};{rw[eG (by simpa using hm)];exact .ref J o b C (hL J _ hm h)}
 | .fO J k i o b C h=>by
  unfold Fl;by_cases hm:J∈R;{rw[eH (by simpa using hm)];exact .undef _};{rw[eG (by simpa using hm)];exact .fO J k i o b C (hL J _ hm h)}
 | .arr J k o n cap b C h hC hn=>by
  unfold Fl;by_cases hm:J∈R;{rw[eH (by simpa using hm)];exact .undef _};{rw[eG (by simpa using hm)];exact .arr J k o n cap b C (hL J _ hm h) hC hn}
 | .iL J k h=>by
  unfold Fl;by_cases hm:J∈R;{rw[eH (by simpa using hm)];exact .undef _};{rw[eG (by simpa using hm)];exact .iL J k (hL J _ hm h)}
 | .mp J b C h=>by
  unfold Fl;by_cases hm:J∈R;{rw[eH (by simpa using hm)];exact .undef _};{rw[eG (by simpa using hm)];exact .mp J b C (hL J _ hm h)}
 | .it J b C h=>by
  unfold Fl;by_cases hm:J∈R;{rw[eH (by simpa using hm)];exact .undef _};{rw[eG (by simpa using hm)];exact .it J b C (hL J _ hm h)}
theorem IK (hY:∀ d l,jZ d=some l->(¬ (dep<=d/\d < dep+R.length)->lp d=some l)/\(dep<=d/\d < dep+R.length->∃ b C,l=2*b+1/\Lf (R.getD (d - dep) (0,0))=some (some (b,C))))
  (hL:∀ J p,J ∉ R->L J=some p->Lf J=some p) {Z:fa} {A:List eT}:Ae w I jZ (some L) Z A->Ae w I lp (some Lf) (In dep R Z) A
 | .nil=>.nil
 | .cons x v Z A h hs=>.cons _ v _ A (XU hY hL h) (IK hY hL hs)
end
theorem back_ob (hY:∀ d l,jZ d=some l->(¬ (dep<=d/\d < dep+R.length)->lp d=some l)/\(dep<=d/\d < dep+R.length->∃ b C,l=2*b+1/\Lf (R.getD (d - dep) (0,0))=some (some (b,C))))
  (hL:∀ J p,J ∉ R->L J=some p->Lf J=some p) {ob:Ob} (hy:(match ob with | .cells _ _=>true | .map _=>true | ob=>!ob.gq)=true) (h:A5 w I jZ L ob p):A5 w I lp Lf (Q1 dep R ob) p:=by
 cases p with
 | none=>obtain⟨k,kt,rfl⟩:=h;exact⟨k,kt,rfl⟩
 | some p =>
  cases ob with
  | cells ty cs =>
   obtain⟨c,E,U,O,h4,h3⟩:=h;exact⟨c,E,U,O,h4,IK hY hL h3⟩
  | arr k kt Z =>
   obtain⟨c,E,U,O,h3,h4,h6,h5⟩:=h;exact⟨c,E,U,O,h3,h4,h6,h5.lR (Ms (w:=w) (I:=I) (lp:=jZ) (jT:=lp) Z (by simpa[Ob.gq] using hy))⟩
  | map es=>obtain⟨c,E,U,O⟩:=h;exact⟨c,E,U,IK hY hL O⟩
  | fW s pos=>exact h
end away
section V
variable {w:eS} {I:Nat->Prop} {lp jZ:Nat->fb} {L:Am} {dep:Nat} {R:fh} {V:St} {gf fE:List eT}
open Classical in
noncomputable def Hp (R:fh) (L:Am):Am:=fun J=>if J∈R then some none else L J
theorem Vs {R:fh} {L:Am} (h:J∈R):Hp R L J=some none:=by unfold Hp;rw[eH h]
theorem RV {R:fh} {L:Am} (h:J ∉ R):Hp R L J=L J:=by unfold Hp;rw[eG h]
theorem qy (hs:SR lp I L V gf fE w) (hR:∀ J∈R,∃ ob,Aa V.fA J=some ob) (mL:G9 lp jZ) (hA:∀ J b C,J∈R->L J=some (some (b,C))->jZ (dep+R.idxOf J)=some (2*b+1)) :
  SR jZ I (Hp R L) (NJ dep R V) gf fE w:=by
 have hL:∀ J p,J ∉ R->L J=some p->Hp R L J=some p:=fun J p U O=>by rw[RV U];exact O
 have gK:∀ J,Aa (NJ dep R V).fA J=(Aa (Bj (R.map fun J=>(J,AH)) V.fA) J).map (Uc dep R):=fun J=>DA _ _ J;have mq:∀ p∈R.map (fun J=>(J,AH)),∃ o,Aa V.fA p.1=some o:=by intro p hp;obtain⟨J,hn,rfl⟩:=bA.1 hp;exact hR J hn
 refine⟨IL mL hL hA hs.tm,IL mL hL hA hs.kp,fun J ob hl=>?_,fun J hl=>?_⟩;{rw[gK] at hl;obtain⟨U,O⟩:=Mr (R.map fun J=>(J,AH)) V.fA J mq;by_cases hm:J∈R;{rw[U AH (fun o' mJ=>by obtain⟨m,_,he⟩:=bA.1 mJ;cases he;rfl) (bA.2 ⟨J,hm,rfl⟩)] at hl;cases hl;exact⟨none,Vs hm,0,0,rfl⟩};{rw[O fun o ho=>by obtain⟨m,hm2,he⟩:=bA.1 ho;cases he;exact hm hm2] at hl;obtain⟨jo,h3,rfl⟩:=bB.1 hl;obtain⟨p,hp,ha⟩:=hs.ob J jo h3;exact⟨p,hL J p hm hp,away_ob mL hL hA ha⟩}};{rw[gK] at hl;obtain⟨U,O⟩:=Mr (R.map fun J=>(J,AH)) V.fA J mq;by_cases hm:J∈R;{rw[U AH (fun o' mJ=>by obtain⟨m,_,he⟩:=bA.1 mJ;cases he;rfl) (bA.2 ⟨J,hm,rfl⟩)] at hl;cases hl};{rw[O fun o ho=>by obtain⟨m,hm2,he⟩:=bA.1 ho;cases he;exact hm hm2] at hl;rw[RV hm];exact hs.j6 J (by simpa using hl)}}
theorem bv {R N:fh} {d0 i0:Nat} {fo:Nat->Ob} {gn:Nm->Ob} {v0:PV} (V:St) (mg:∀ (i j:Nat) J,R[i]?=some J->R[j]?=some J->i=j) (hR:∀ J∈R,∃ ob,Aa V.fA J=some ob)
  (hlen:∃ l,V.fA[d0]?=some l/\l.length=i0) :
  let st':=apply V none {v:=v0,new:=N.map gn,gC:=R.zipIdx.map fun p=>(p.1,fo p.2),gone:=[],io:=true,slot:=some d0}
  st'.tmps=V.tmps/\st'.fD=V.fD/\(∀ (j:Nat) t,R[j]?=some t->Aa st'.fA t=some (fo j))/\(∀ (i:Nat) s,N[i]?=some s->Aa st'.fA (d0,i0+i)=some (gn s)) /\
   ∀ t,(∀ j:Nat,R[j]?≠some t)->(∀ (i:Nat) s,N[i]?=some s->t≠(d0,i0+i))->Aa st'.fA t=Aa V.fA t:=by
 intro st';obtain⟨gC,hups⟩:∃ gC,(R.zipIdx.map fun p=>(p.1,fo p.2))=gC:=⟨_,rfl⟩;have nF:∀ t o,(t,o)∈gC↔∃ j:Nat,R[j]?=some t/\o=fo j:=by intro t o;rw[<-hups,bA];constructor;{rintro ⟨⟨a,j⟩,U,O⟩;cases O;exact⟨j,cd.1 U,rfl⟩};{rintro ⟨j,U,rfl⟩;exact⟨(t,j),cd.2 U,rfl⟩}
 have hH:st'={V with fA:=(Bj gC V.fA).set d0 ((Bj gC V.fA).getD d0 []++N.map gn)}:=by
  show apply V none {v:=v0,new:=N.map gn,gC:=R.zipIdx.map fun p=>(p.1,fo p.2),gone:=[],io:=true,slot:=some d0}=_;rw[hups];unfold apply;simp only[dg,eF];cases hu:gC with
  | nil=>rfl
  | cons u us=>rfl
 have mq:∀ p∈gC,∃ o,Aa V.fA p.1=some o:=by rintro ⟨t,o⟩ hp;obtain⟨j,hj,_⟩:=(nF t o).1 hp;exact hR t (bJ hj)
 have pD:∀ (l:List (Nm×Ob)) (fA:List fg) (d:Nat),∀ x,fA[d]?=some x->∃ y,(Bj l fA)[d]?=some y/\y.length=x.length:=by
  intro l;induction l with
  | nil=>intro fA d x h;exact⟨x,h,rfl⟩
  | cons p l ih =>
   obtain⟨J,o⟩:=p;intro fA d x H;have:∃ y,(AM fA J o)[d]?=some y/\y.length=x.length:=by unfold AM;split;{rename_i l' mN;by_cases jB:J.1=d;{subst jB;rw[H] at mN;cases mN;exact⟨_,cB (bH.1 H).1,by simp⟩};{exact⟨x,by rw[bR jB];exact H,rfl⟩}};{exact⟨x,H,rfl⟩}
   obtain⟨y,U,O⟩:=this;obtain⟨z,h3,h4⟩:=ih (AM fA J o) d y U;exact⟨z,h3,h4.trans O⟩
 obtain⟨l,g1,g2⟩:=hlen;obtain⟨l',h3,h4⟩:=pD gC V.fA d0 l g1;have gI:d0 < (Bj gC V.fA).length:=(bH.1 h3).1;have mH:(Bj gC V.fA).getD d0 []=l':=by rw[bF,h3];rfl
 have key1:∀ (i:Nat) s,N[i]?=some s->Aa st'.fA (d0,i0+i)=some (gn s):=by intro i s hi;rw[hH];show Aa (List.set _ _ _) _=_;rw[Ep _ gI,mH,cD (by omega),show i0+i - l'.length=i by omega,bK,hi];rfl
 have uB:∀ t:Nm,(∀ (i:Nat) s,N[i]?=some s->t≠(d0,i0+i))->Aa st'.fA t=Aa (Bj gC V.fA) t:=by
  intro t ht;rw[hH];show Aa (List.set _ _ _) _=_;by_cases U:t.1=d0
  ·obtain⟨a,j⟩:=t;simp only at U;subst U;rw[Ep _ gI,mH];have hX:Aa (Bj gC V.fA) (a,j)=l'[j]?:=by unfold Aa;rw[h3]
   rw[hX];by_cases hj:j < l'.length;{rw[ck hj]}
   ·rw[cD (by omega),bY.2 (by omega:l'.length<=j)];refine bY.2 ?_;rw[cf];apply dw;intro oP;have hlt3:j - l'.length < N.length:=by omega
    exact ht (j - l'.length) _ (bQ hlt3) (by rw[show i0+(j - l'.length)=j by omega])
  {rw[DO _ U]}
 have hnoN:∀ (j:Nat) t,R[j]?=some t->∀ (i:Nat) s,N[i]?=some s->t≠(d0,i0+i):=by rintro j t hj i s hi rfl;obtain⟨ob,ho⟩:=hR _ (bJ hj);unfold Aa at ho;rw[g1] at ho;have:=(bH.1 ho).1;simp only at this;omega
 refine⟨by rw[hH],by rw[hH],fun j t hj=>?_,key1,fun t U O=>?_⟩;{rw[uB t (hnoN j t hj)];exact (Mr gC V.fA t mq).1 (fo j) (fun o' mJ=>by obtain⟨j',hj',rfl⟩:=(nF _ _).1 mJ;rw[mg j j' t hj hj']) ((nF _ _).2 ⟨j,hj,rfl⟩)};{rw[uB t O];exact (Mr gC V.fA t mq).2 fun o ho=>by obtain⟨j,hj,_⟩:=(nF _ _).1 ho;exact U j hj}
end V
section back
variable {E:Type} {cx:Cx} {w0:eS} {I0 F0:Nat->Prop} {O0:Bu} {Hd:Nat->Option Obj} {RE:Bl E} {e:E} {ds:List eZ} {F:Nat->Prop}
variable {w:eS} {I:Nat->Prop} {lp jZ og:Nat->fb} {Ls L':Am} {dep:Nat} {R N:fh} {s kx:St} {gf fE tmE wv:List eT} {aN:Nat->Nm} {B:List (Nm×Nm)} {d0 i0:Nat}
theorem IU (qx:B=(R.zipIdx.map fun p=>(aN p.2,p.1))++N.zipIdx.map fun p=>(p.1,(d0,i0+p.2))) (x t:Nm):(x,t)∈B↔(∃ j:Nat,R[j]?=some t/\x=aN j)\/(∃ i:Nat,N[i]?=some x/\t=(d0,i0+i)):=by rw[qx,bS,bA,bA];constructor;{rintro (⟨⟨a,j⟩,U,O⟩ | ⟨⟨a,i⟩,U,O⟩);{cases O;exact .inl ⟨j,(cd.1 U),rfl⟩};{cases O;exact .inr ⟨i,(cd.1 U),rfl⟩}};{rintro (⟨j,U,rfl⟩ | ⟨i,U,rfl⟩);{exact .inl ⟨(t,j),cd.2 U,rfl⟩};{exact .inr ⟨(x,i),cd.2 U,rfl⟩}}
theorem uniqB (qx:B=(R.zipIdx.map fun p=>(aN p.2,p.1))++N.zipIdx.map fun p=>(p.1,(d0,i0+p.2))) (mg:∀ (i j:Nat) J,R[i]?=some J->R[j]?=some J->i=j)
  (pC:∀ t∈R,∃ p,Ls t=some p) (iJ:∀ i:Nat,(∃ x,N[i]?=some x)->Ls (d0,i0+i)=none):∀ x x' t,(x,t)∈B->(x',t)∈B->x=x':=by
 intro x x' t h h';rcases (IU qx x t).1 h with ⟨j,U,rfl⟩ | ⟨i,U,rfl⟩<;>rcases (IU qx x' _).1 h' with ⟨j',O,rfl⟩ | ⟨i',O,h3⟩;{rw[mg j j' t U O]}
 {obtain⟨p,hp⟩:=pC t (bJ U);rw[h3,iJ i' ⟨_,O⟩] at hp;cases hp};{obtain⟨p,hp⟩:=pC _ (bJ O);rw[iJ i ⟨_,U⟩] at hp;cases hp}
 ·have h4:i0+i=i0+i':=eM Prod.snd h3;have:i=i':=by omega
  subst this;exact bw (U.symm.trans O)
def FY (kx:St) (B:List (Nm×Nm)) (m:Nm):Ob:=(((Aa kx.fA m).getD AH).sub (CN B)).fQ (CI B)
theorem uC {ob:Ob} (h:Aa fA J=some ob):∃ l∈fA,ob∈l:=by unfold Aa at h;split at h;{rename_i l hl;exact⟨l,bJ hl,bJ h⟩};{cases h}
theorem Xr (J:Nm) (σ:List fg) (n:Nm):(∀ ob,Aa σ n=some ob->Aa (Kg J σ) n=some ob)/\(∀ ob,Aa (Kg J σ) n=some ob->Aa σ n=some ob\/(Aa σ n=none/\ob=AH)):=by
 unfold Kg;cases hs:σ[J.1]? with
 | none=>exact⟨fun _ h=>h,fun _ h=>.inl h⟩
 | some l =>
  have gI:=(bH.1 hs).1;by_cases he:J.1=n.1
  ·have O:(σ.set J.1 (l++List.replicate (J.2+1 - l.length) AH))[n.1]?=some (l++List.replicate (J.2+1 - l.length) AH):=by rw[<-he];simp[gI]
   have U:Aa σ n=l[n.2]?:=by unfold Aa;rw[<-he,hs]
   have h3:Aa (σ.set J.1 (l++List.replicate (J.2+1 - l.length) AH)) n=(l++List.replicate (J.2+1 - l.length) AH)[n.2]?:=by unfold Aa;rw[O]
   simp only[U,h3];refine⟨fun ob h=>?_,fun ob h=>?_⟩;{rw[ck (bH.1 h).1];exact h}
   ·by_cases hl:n.2 < l.length
    {rw[ck hl] at h;exact .inl h};{refine .inr ⟨bY.2 (by omega),?_⟩;rw[cD (by omega)] at h;exact dQ (bJ h)}
  ·have h3:Aa (σ.set J.1 (l++List.replicate (J.2+1 - l.length) AH)) n=Aa σ n:=by unfold Aa;rw[bR he]
   rw[h3];exact⟨fun _ h=>h,fun _ h=>.inl h⟩
theorem pad_ok {L:Am} {V:St} (hs:SR lp I L V gf fE w) (J:Nm):∃ L',SR lp I L' {V with fA:=Kg J V.fA} gf fE w/\∀ n b C,L' n=some (some (b,C))↔L n=some (some (b,C)):=by
 let L':Am:=fun n=>if Aa V.fA n=none/\(Aa (Kg J V.fA) n).isSome=true then some none else L n
 have hle:Kp L L':=by
  intro n p hp;have:¬ (Aa V.fA n=none/\(Aa (Kg J V.fA) n).isSome=true):=fun h=>by rw[hs.j6 n h.1] at hp;cases hp
  simp only[L',eG this,hp]
 refine⟨L',⟨hs.tm.iD hle,hs.kp.iD hle,fun n ob ho=>?_,fun n hn=>?_⟩,fun n b C=>⟨fun h=>?_,fun h=>hle _ _ h⟩⟩
 ·rcases (Xr J V.fA n).2 ob ho with h | ⟨h,rfl⟩
  {obtain⟨p,hp,ha⟩:=hs.ob n ob h;exact⟨p,hle _ _ hp,ha.iD hle⟩};{exact⟨none,by simp only[L'];rw[eH ⟨h,by rw[ho];rfl⟩],0,0,rfl⟩}
 ·have U:Aa V.fA n=none:=by
   cases h:Aa V.fA n with
   | none=>rfl
   | some ob=>have:=(Xr J V.fA n).1 ob h;rw[this] at hn;cases hn
  simp only[L'];rw[eG fun h=>by rw[hn] at h;exact eQ h.2 (by simp)];exact hs.j6 n U
 ·simp only[L'] at h;split at h;·cases h
  {exact h}
theorem qz {R:fh}:∀ {L:Am} {V:St},SR lp I L V gf fE w->∃ L',SR lp I L' (Nt R V) gf fE w/\∀ n b C,L' n=some (some (b,C))↔L n=some (some (b,C)):=by
 induction R with
 | nil=>intro L V h;exact⟨L,h,fun _ _ _=>Iff.rfl⟩
 | cons J R ih =>
  intro L V h;obtain⟨L1,U,e1⟩:=pad_ok h J;obtain⟨L2,O,e2⟩:=ih U;exact⟨L2,O,fun n b C=>(e2 n b C).trans (e1 n b C)⟩
theorem WU {R:fh} {s:St} (h:Ps R s=true):(∀ J∈R,∃ ob,Aa s.fA J=some ob)/\∀ J ob,Aa s.fA J=some ob->(match ob with | .cells _ _=>true | .map _=>true | ob=>!ob.gq)=true:=by unfold Ps at h;rw[bz,bI,bI] at h;obtain⟨U,O⟩:=h;refine⟨fun J hn=>?_,fun J ob hl=>?_⟩;{have:=U J hn;unfold sZ at this;split at this;{rename_i hq;exact⟨_,hq⟩};·cases this};{obtain⟨l,g1,g2⟩:=uC hl;exact bI.1 (O l g1) ob g2}
theorem back_sr (hs:SR jZ I Ls s gf fE w) (hc:SR og I L' kx tmE wv w)
  (hY:∀ d l,jZ d=some l->(¬ (dep<=d/\d < dep+R.length)->lp d=some l)/\(dep<=d/\d < dep+R.length->∃ b C,l=2*b+1/\BC Ls L' B (R.getD (d - dep) (0,0))=some (some (b,C))))
  (hmb:Ps R s=true) (mg:∀ (i j:Nat) J,R[i]?=some J->R[j]?=some J->i=j) (hlen:∃ l,s.fA[d0]?=some l/\l.length=i0)
  (hB:Cy (B.map (·.1))=true) (qx:B=(R.zipIdx.map fun p=>(aN p.2,p.1))++N.zipIdx.map fun p=>(p.1,(d0,i0+p.2)))
  (hyN:∀ m∈N,(FY kx B m).gq=false) (hyR:∀ (j:Nat) t,R[j]?=some t->(FY kx B (aN j)).gq=false) :
  SR lp I (BC Ls L' B) (apply (NI dep R s) none {v:=v0,new:=N.map (FY kx B),gC:=R.zipIdx.map fun p=>(p.1,FY kx B (aN p.2)),gone:=[],io:=true,slot:=some d0}) gf fE w:=by
 obtain⟨hRs,hobY⟩:=WU hmb;have iJ:∀ i:Nat,(∃ x,N[i]?=some x)->Ls (d0,i0+i)=none:=by rintro i _;obtain⟨l,U,O⟩:=hlen;refine hs.j6 _ ?_;unfold Aa;rw[U];exact bY.2 (by simp only;omega)
 have pC:∀ t∈R,∃ p,Ls t=some p:=fun t h=>by obtain⟨ob,ho⟩:=hRs t h;obtain⟨p,hp,_⟩:=hs.ob t ob ho;exact⟨p,hp⟩
 have hU:=uniqB qx mg pC iJ;have mS:∀ x t,(x,t)∈B->BC Ls L' B t=some ((L' x).getD none):=fun x t h=>JU hU h;have fU:∀ t,(∀ x,(x,t) ∉ B)->BC Ls L' B t=Ls t:=fun t h=>SA h;have hnB:∀ t,t ∉ R->∀ p,Ls t=some p->∀ x,(x,t) ∉ B:=by intro t ht p hp x h;rcases (IU qx x t).1 h with ⟨j,U,rfl⟩ | ⟨i,U,rfl⟩;{exact ht (bJ U)};{rw[iJ i ⟨_,U⟩] at hp;cases hp}
 have hL:∀ J p,J ∉ R->Ls J=some p->BC Ls L' B J=some p:=fun J p U O=>by rw[fU J (hnB J U p O)];exact O
 have gK:∀ J,Aa (NI dep R s).fA J=(Aa s.fA J).map (Q1 dep R):=fun J=>DA _ _ J
 obtain⟨a1,a2,a3,a4,a5⟩:=bv (R:=R) (N:=N) (d0:=d0) (i0:=i0) (fo:=fun j=>FY kx B (aN j)) (gn:=FY kx B) (v0:=v0) (NI dep R s) mg (fun J hn=>by obtain⟨ob,ho⟩:=hRs J hn;exact⟨_,by rw[gK,ho];rfl⟩)
  (by obtain⟨l,g1,g2⟩:=hlen;exact⟨l.map (Q1 dep R),by show (s.fA.map _)[d0]?=_;rw[bK,g1];rfl,by rw[cf];exact g2⟩)
 have uz:∀ f g,(AH.sub f).fQ g=AH:=fun f g=>rfl
 have jc:∀ x t,(x,t)∈B->(FY kx B x).gq=false->∃ p,BC Ls L' B t=some p/\A5 w I lp (BC Ls L' B) (FY kx B x) p:=by
  intro x t hxt hy;refine⟨_,mS x t hxt,?_⟩;unfold FY at hy |-;cases hl:Aa kx.fA x with
  | none =>
   rw[hc.j6 x hl];simp only[Option.getD_none,uz];exact⟨0,0,rfl⟩
  | some ob =>
   obtain⟨p,hp,ha⟩:=hc.ob x ob hl;rw[hl] at hy;rw[hp];simp only[b7] at hy |-;exact (X4 hB hU ha).lR hy
 refine⟨by rw[a1];exact IK hY hL hs.tm,by rw[a2];exact IK hY hL hs.kp,fun t ob hl=>?_,fun t hl=>?_⟩
 ·by_cases ht:∃ (i:Nat) (x:Nm),N[i]?=some x/\t=(d0,i0+i)
  {obtain⟨i,x,U,rfl⟩:=ht;rw[a4 i x U] at hl;cases hl;exact jc x _ ((IU qx _ _).2 (.inr ⟨i,U,rfl⟩)) (hyN x (bJ U))}
  ·by_cases hj:∃ j:Nat,R[j]?=some t
   {obtain⟨j,hj⟩:=hj;rw[a3 j t hj] at hl;cases hl;exact jc _ t ((IU qx _ _).2 (.inl ⟨j,hj,rfl⟩)) (hyR j t hj)}
   ·rw[a5 t (fun j h=>hj ⟨j,h⟩) (fun i x U O=>ht ⟨i,x,U,O⟩),gK] at hl;obtain⟨jo,h0,rfl⟩:=bB.1 hl;obtain⟨p,hp,ha⟩:=hs.ob t jo h0;have htR:t ∉ R:=fun hm=>by obtain⟨j,hj2,hT⟩:=dM hm;exact hj ⟨j,by rw[bQ hj2,hT]⟩
    exact⟨p,hL t p htR hp,back_ob hY hL (hobY t jo h0) ha⟩
 ·by_cases ht:∃ (i:Nat) (x:Nm),N[i]?=some x/\t=(d0,i0+i)
  {obtain⟨i,x,U,rfl⟩:=ht;rw[a4 i x U] at hl;cases hl}
  ·by_cases hj:∃ j:Nat,R[j]?=some t
   {obtain⟨j,hj⟩:=hj;rw[a3 j t hj] at hl;cases hl}
   ·rw[a5 t (fun j h=>hj ⟨j,h⟩) (fun i x U O=>ht ⟨i,x,U,O⟩),gK] at hl
    rw[fU t fun x h=>by
     rcases (IU qx x t).1 h with ⟨j,U,_⟩ | ⟨i,U,O⟩;·exact hj ⟨j,U⟩
     ·exact ht ⟨i,x,U,O⟩]
    exact hs.j6 t (by simpa using hl)
theorem UN {wa:eS} {Ia:Nat->Prop} {L Lz:Am}:∀ {lu new:fa} {A:List eT},Ae w I lp (some Lz) new A->Ae wa Ia lp (some L) lu A ->
  (∀ J∈R,∀ v,Aj wa Ia lp (some L) (.arr J 1 0 0) v->Aj w I lp (some Lz) (.arr J 1 0 0) v)->Ae w I lp (some Lz) (Ta R lu new) A
 | [],new,_,h,_,_=>h
 | _ :: _,[],_,h,_,_=>h
 | o :: os,n :: ns,_,.cons _ v _ A h hs,.cons _ _ _ _ h0 lZ,hR=>by
  refine .cons _ _ _ _ ?_ (UN hs lZ hR);unfold keep1;split;{split;{rename_i J hc;exact hR J (cy.1 hc) v h0};{exact h}};{exact h}
theorem back_fr (hf:Fr cx w0 I0 F0 O0 Hd RE e ds I F Ls w) (hU:∀ x x' t,(x,t)∈B->(x',t)∈B->x=x') (hB:Cy (B.map (·.1))=true)
  (x8:∀ J b C,L' J=some (some (b,C))->b < w.heap.size/\¬ I b/\¬ F b/\(w0.heap.size<=b\/O0 b)/\(∀ gP C',Ls gP≠some (some (b,C')))/\(∀ ob,Hd b≠some ob)/\∀ d∈ds,d.target≠.collected b)
  (x9:∀ J gP b C C',L' J=some (some (b,C))->L' gP=some (some (b,C'))->J=gP):Fr cx w0 I0 F0 O0 Hd RE e ds I F (BC Ls L' B) w:=by
 have gJ:∀ t b C,BC Ls L' B t=some (some (b,C))->(∃ x,(x,t)∈B/\L' x=some (some (b,C)))\/Ls t=some (some (b,C)):=by
  intro t b C h;by_cases H:∃ x,(x,t)∈B
  ·obtain⟨x,hH⟩:=H;rw[JU hU hH] at h;refine .inl ⟨x,hH,?_⟩;cases hl:L' x with
   | none=>rw[hl] at h;simp at h
   | some p=>rw[hl] at h;simpa using h
  {rw[SA fun x h=>H ⟨x,h⟩] at h;exact .inr h}
 have gj:∀ t b C,BC Ls L' B t=some (some (b,C))->(∃ x C,L' x=some (some (b,C)))\/∃ t C,Ls t=some (some (b,C)):=fun t b C h=>by rcases gJ t b C h with ⟨x,_,h⟩ | h;{exact .inl ⟨x,C,h⟩};{exact .inr ⟨t,C,h⟩}
 refine⟨hf.ext,hf.sep,hf.oF,fun t b C ht=>?_,fun t t' b C C' ht pB=>?_,hf.wd,hf.re,?_,fun b ob hb=>?_⟩
 ·rcases gJ t b C ht with ⟨x,_,h⟩ | h
  {obtain⟨g1,g2,g3,g4,_⟩:=x8 x b C h;exact⟨g4,g1,g2,g3⟩};{exact hf.lB t b C h}
 ·rcases gJ t b C ht with ⟨x,hb,h⟩ | h<;>rcases gJ t' b C' pB with ⟨x',jh,h'⟩ | h'
  {have:=x9 x x' b C C' h h';subst this;exact VI hB hb jh};{exact eQ h' ((x8 x b C h).2.2.2.2.1 t' C')};{exact eQ h ((x8 x' b C' h').2.2.2.2.1 t C)};{exact hf.inj t t' b C C' h h'}
 ·have key:∀ ds rs,BS w0.heap.size I F Ls w ds rs->(∀ J b C,L' J=some (some (b,C))->∀ d∈ds,d.target≠.collected b)->BS w0.heap.size I F (BC Ls L' B) w ds rs:=by
   intro ds rs hm;induction hm with
   | nil=>intro _;exact .nil
   | call d ds rs hd _ ih=>intro h;exact .call d ds rs hd (ih fun J b C hn d hd=>h J b C hn d (bM _ hd))
   | cons D ds rs U O h3 h4 h5 h6 h7 _ ih =>
    intro h;refine .cons D ds rs U O h3 h4 (fun t C ht=>?_) h6 h7 (ih fun J b C hn d hd=>h J b C hn d (bM _ hd));rcases gj t D C ht with ⟨x,C',H⟩ | ⟨t',C',H⟩;{exact h x D C' H _ bN rfl};{exact h5 t' C' H}
  exact key ds _ hf.lO fun J b C hn=>(x8 J b C hn).2.2.2.2.2.2
 {obtain⟨g1,g2,g3,g4,g5⟩:=hf.lP b ob hb;refine⟨g1,g2,g3,fun t C ht=>?_,g5⟩;rcases gj t b C ht with ⟨x,C',H⟩ | ⟨t',C',H⟩;{exact (x8 x b C' H).2.2.2.2.2.1 ob hb};{exact g4 t' C' H}}
end back
end Go.Ab


namespace Go.Ab
variable{Hd':Nat->Option Obj} {Q:Exit->Act->eS->Prop} {assign body:Code} {ds:List eZ} {f:eV} {lo:Nat} {ps:Array Nat} {rb:AU} {rf:RX} {ro:fb} {x:Ex}
section
variable {E:Type} {cx:Cx} {w0:eS} {I0 F0:Nat->Prop} {O0:Bu} {Hd:Nat->Option Obj} {R:Bl E} {e e2:E} {F:Nat->Prop} {lp:Nat->fb} {fE:List eT}
variable {I:Nat->Prop} {L:Am} {V fZ:St} {a:Act} {w:eS} {dd:C4} {M:AC} {fuel:Nat} {h:AB E} {dep:Nat}
theorem Fr.hold (hf:Fr cx w0 I0 F0 O0 Hd' R e ds I F L w) (hh:∀ b ob,Hd b=some ob->Hd' b=some ob):Fr cx w0 I0 F0 O0 Hd R e ds I F L w :=
 {hf with lP:=fun b ob hb=>hf.lP b ob (hh b ob hb)}
theorem XL (jr:∀ l0,ro=some l0->∃ r0,Hd l0=some (.loop r0)) (hf:Fr cx w0 I0 F0 O0 Hd R e ds I F L w) (fn:eU) (tmps:Array eT) (ps:Array Tmp) (assign body:Code) :
  ∃ (l:Nat) (mark:List eZ) (w1:eS) (rc:Loop),(Instr.enterLoop fn tmps ps assign body ro).run cx.P w=.ok (l,mark) w1/\rc.params=ps/\rc.assign=assign/\rc.body=body/\rc.tmps=tmps /\
   w1.heap[l]?=some (.loop (Ba rc none))/\w.heap.size<=l/\l < w1.heap.size/\w1.os=w.os/\w1.tape=w.tape/\w1.output=w.output/\w.heap.size<=w1.heap.size/\(∀ b,b < w.heap.size->w1.heap[b]?=w.heap[b]?) /\
   (mark=[]\/(mark=[{target:=.collected w.heap.size,args:=#[]}]/\w1.heap[w.heap.size]?=some (.deferred (some []))/\w.heap.size < l)):=by
 cases ro with
 | none =>
  refine⟨_,_,_,{state:=.ready,pending:=none,fn,tmps,params:=ps,assign,body,defers:=w.heap.size},run_enterLoop_outer fn tmps ps assign body,rfl,rfl,rfl,rfl,?_,by omega,by simp,rfl,rfl,rfl,by simp;omega,fun b hb=>?_,.inr ⟨rfl,?_,by omega⟩⟩;{have:=World.alloc_heap_new (w.alloc (.deferred (some []))) (.loop {state:=.ready,pending:=none,fn,tmps,params:=ps,assign,body,defers:=w.heap.size});simpa[Ba] using this};{rw[fJ _ _ (by simp;omega),fJ _ _ hb]};{rw[fJ _ _ (by simp)];exact World.alloc_heap_new _ _}
 | some l0 =>
  obtain⟨r0,kg⟩:=jr l0 rfl;obtain⟨_,_,_,_,hh⟩:=hf.lP l0 _ kg;refine⟨_,_,_,{state:=.ready,pending:=none,fn,tmps,params:=ps,assign,body,defers:=r0.defers},run_enterLoop_inner hh fn tmps ps assign body,rfl,rfl,rfl,rfl,?_,bD _,by simp,rfl,rfl,rfl,by simp,fun b hb=>fJ _ _ hb,.inl rfl⟩;have:=World.alloc_heap_new w (.loop {state:=.ready,pending:=none,fn,tmps,params:=ps,assign,body,defers:=r0.defers});simpa[Ba] using this
theorem BS.noL {I F:Nat->Prop} {L:Am} {w:eS} {rs:List eZ} (h:BS lo I F L w ds rs):∀ d∈ds,∀ D,d.target=.collected D->∀ J C,L J≠some (some (D,C)):=by
 induction h with
 | nil=>intro d hd;cases hd
 | call d ds rs hd _ ih =>
  intro d' kF D hD;rcases bE.1 kF with rfl | kF;{exact eQ hD (hd D)};{exact ih d' kF D hD}
 | cons D0 ds rs _ _ _ _ h5 _ _ _ ih =>
  intro d' kF D hD;rcases bE.1 kF with rfl | kF;·cases hD;exact h5
  {exact ih d' kF D hD}
theorem rio_ok (hR:tS cx M.nP) (gk:Fu cx lp R h dep w0 I0 F0) (jr:∀ l0,ro=some l0->∃ r0,Hd l0=some (.loop r0)) (hca:H8 cx dd M fuel assign) (hcb:Dn cx M fuel rb body)
  (hrx:rx cx.G f=some rf) (fG:HW M (fun h dep=>Ll M fuel h dep ps.toList (Bk cx.P cx.G dd assign) rb) h dep (rf.ev V.tmps) V e=some (x,fZ,e2))
  (hs:SR lp I L V a.tmps.toList fE w) (hf:Fr cx w0 I0 F0 O0 Hd R e a.defers I F L w) 
  (hQ:∀ a' w' I' F' L',SR lp I' L' fZ a'.tmps.toList fE w'->Fr cx w0 I0 F0 O0 Hd R e2 a'.defers I' F' L' w'->Q (Ch x) a' w'):(Code.rangeFunc f ps assign body).wpIn (CF ro) 0 cx.P Q a w:=by
 have fX:=A9 hs hf.wd hrx;unfold HW at fG;split at fG
 case h_2=>cases fG
 rename_i g cap mm;rw[mm] at fX;simp only at fG;generalize hRd:Bm (AA (Aa V.fA) Ax (Al cap))=Rn at fG;have mg:∀ (i j:Nat) J,Rn[i]?=some J->Rn[j]?=some J->i=j:=by rw[<-hRd];exact fun i j J=>VR i j J
 have uD:∀ J∈Al cap,J∈Rn:=fun J hn=>by rw[<-hRd];exact OA.2 (C9 _ _ J hn)
 split at fG
 case h_1=>cases fG
 rename_i ins qA;obtain⟨hk,fG⟩:=AK fG;simp only[bz,cK] at hk;obtain⟨gj,hy,uF,hoy⟩:=hk;split at fG
 case h_2=>cases fG
 rename_i kx s0 p e3 hrio;obtain⟨hmb,fG⟩:=AK fG;split at fG
 case h_2=>cases fG
 rename_i out jl;obtain⟨hgo,fG⟩:=AK fG;simp only[bz] at hgo;obtain⟨nc,hnewY,hupsY⟩:=hgo;cases fG;generalize qB:Nt Rn s0=s at hmb jl hQ;obtain⟨fst,gg,n6,hfk,mr⟩:=Jc fX;obtain⟨m1,m2⟩:=Sy Rn ins qA;refine wpIn_rangeFunc fun fn _=>?_;obtain⟨l,mark,w1,rc,hent,c1,c2,c3,c4,c5,c6,c7,c8,c9,c10,c11,c12,c13⟩:=XL (ro:=ro) jr hf fn a.tmps ps assign body;have jC:∀ b,I b\/F b\/B9 L b->b < w.heap.size:=fun b hb=>by rcases hb with hb | hb | ⟨J,C,hb⟩;{exact hf.sep.iB b hb};{exact (hf.sep.fB b hb).1};{exact (hf.lB J b C hb).2.1}
 have hIk:∀ b,I b->w1.heap[b]?=w.heap[b]?:=fun b hb=>c12 b (jC b (.inl hb));have uG:SR lp I L V a.tmps.toList fE w1:=hs.keeps (fun _ h=>h) hIk fun J b C hn=>c12 b (jC b (.inr (.inr ⟨J,C,hn⟩)))
 have gY:Fr cx w0 I0 F0 O0 Hd R e a.defers I F L w1:=hf.own c8 c9 c10 c11 (fun b hb _=>c12 b hb) (fun _ h=>h) (fun _ h=>.inl h)
  (fun J b C hn=>⟨by have:=(hf.lB J b C hn).2.1;omega,(hf.lB J b C hn).2.2.1,.inr ⟨J,C,hn⟩⟩) hf.inj
 have lQ:w0.heap.size<=l:=by have:=hf.ext.size;omega
 let jZ:Nat->fb:=fun d=>if dep<=d/\d < dep+Rn.length then (match L (Rn.getD (d - dep) (0,0)) with
  | some (some (b,_))=>some (2*b+1)
  | _=>none) else lp d
 have hlp2:G9 lp jZ:=fun d l hd=>by have:=gk.dep d l hd;simp only[jZ];rw[eG (by omega)];exact hd
 have hA:∀ J b C,J∈Rn->L J=some (some (b,C))->jZ (dep+Rn.idxOf J)=some (2*b+1):=by intro J b C hm hn;have hi:=eD hm;simp only[jZ];rw[eH (by omega),show dep+Rn.idxOf J - dep=Rn.idxOf J by omega,bF,Tx hm];simp[hn]
 have hRs:∀ J∈Rn,∃ ob,Aa V.fA J=some ob:=by intro J hn;obtain⟨j,hj,hT⟩:=dM hn;obtain⟨ob,_,O⟩:=m2 j J (by rw[bQ hj,hT]);exact⟨ob,O⟩
 have lZ:=qy (dep:=dep) uG hRs hlp2 hA
 have href2:Fu cx jZ R (Mi dep Rn.length h) (dep+Rn.length) w0 I0 F0:=by
  obtain⟨⟨Ir,mh,wr,hand,tQ⟩,hdp⟩:=gk;refine⟨⟨Ir,mh,wr,?_,tQ⟩,?_⟩
  ·intro d args e b e' l' hh mN;unfold Mi at hh;split at hh;·cases hh
   ·rename_i hd;refine hand d args e b e' l' hh ?_;simp only[jZ] at mN
    rwa [eG hd] at mN
  {intro d l' hd;simp only[jZ] at hd;split at hd;{omega};{have:=hdp d l' hd;omega}}
 have mG:BA I0 F0 w0 I (fun b=>F b\/B9 L b\/b=l) w1:=⟨gY.ext.os,gY.ext.tape,gY.ext.output,gY.ext.size,gY.ext.fD,gY.ext.j9,gY.ext.jJ,fun b hb=>by
  rcases hb with hb | ⟨J,C,hb⟩ | rfl;·exact gY.ext.jX b hb
  ·exact (gY.lB J b C hb).1.elim .inr fun ho=>.inl (gY.oF b ho)
  ·exact .inr lQ⟩
 have uH:=Xi (O0:=O0) (M:=M) (fuel:=fuel) (fE:=fE) href2 mG (l:=l) (rc:=rc) c1 c2 c3 lQ hca hcb;obtain⟨hen,gone,nt,hvl,hil,qC,hcon⟩:=hR (Dj E) _ _ _ _ _ _ _ _ hrio;have hIl:¬ I l:=fun hb=>by have:=hf.sep.iB l hb;omega
 have hFl:¬ F l:=fun hb=>by have:=(hf.sep.fB l hb).1;omega
 have hLl:¬ B9 L l:=fun hb=>by have:=jC l (.inr (.inr hb));omega
 have pC:∀ J∈Rn,∃ p ob,L J=some p/\Aa V.fA J=some ob/\A5 w1 I lp L ob p:=by intro J hn;obtain⟨ob,O⟩:=hRs J hn;obtain⟨p,hp,ha⟩:=uG.ob J ob O;exact⟨p,ob,hp,O,ha⟩
 let Lc:Am:=fun m=>if m.1=0 then (Rn[m.2]?).bind L else none
 let fr:Nm->Nm:=fun m=>(0,Rn.idxOf m)
 let LR:Am:=fun m=>if m∈Rn then L m else none
 let og:Nat->fb:=fun d=>if d=dep+Rn.length then some (2*l) else jZ d
 have jy:∀ J p,LR J=some p->Lc (fr J)=some p:=by intro J p hp;simp only[LR] at hp;split at hp;{rename_i hm;simp only[Lc,fr,eF,Tx hm,dc,hp]};{cases hp}
 have hLc:∀ J p,Lc J=some p->∃ t,Rn[J.2]?=some t/\J.1=0/\L t=some p:=by
  intro J p hp;simp only[Lc] at hp;split at hp
  ·rename_i U;cases hr:Rn[J.2]? with
   | none=>rw[hr] at hp;simp at hp
   | some t=>rw[hr] at hp;exact⟨t,rfl,U,by simpa using hp⟩
  {cases hp}
 have hcap2:Ae w1 I og (some Lc) (AR fr cap) (fst.toList++gg.toList):=by
  have h0:Ae w1 I lp (some L) cap (fst.toList++gg.toList):=Ae.mono (fun _ h=>h) hIk (fun _ _ h=>h) mr;have U:Ae w1 I og (some L) cap (fst.toList++gg.toList):=h0.lR hy;have O:Ae w1 I og (some LR) cap (fst.toList++gg.toList):=U.narrow fun J hn p hp=>by simp only[LR,uD J hn,eF];exact hp
  exact O.rename jy
 have gV:Ae w1 I og (some Lc) (A7 g [.fT (dep+Rn.length)] (AR fr cap)) (fst.toList++([.func (.yield l) #[] #[]]++gg.toList)) :=
  OF hfk hcap2 (.cons _ _ _ _ (by rw[<-Pn];exact .fT (dep+Rn.length) (2*l) (by simp[og])) .nil)
 have hil2:(ins.map (Ob.fQ fr)).length=Rn.length:=by rw[cf,m1]
 let wv:List eT:=(List.range nt).map fun j=>match (Rn[j]?).bind L with
  | some (some (b,C))=>.slice (some ⟨b,0,none⟩) 0 C
  | _=>.slice none 0 0
 have hRlen:Rn.length<=nt:=by rw[<-hil2];exact hil
 have uI:∀ (j:Nat) J,Rn[j]?=some J->wv.getD j undef=(match L J with
    | some (some (b,C))=>.slice (some ⟨b,0,none⟩) 0 C
    | _=>.slice none 0 0):=by
  intro j J hj;have hjl:j < nt:=by have:=(bH.1 hj).1;omega
  rw[bF,bK,cN hjl];simp only[bG,b7,hj,dc]
 have hwit:Ae w1 I og (some Lc) (E0 gone nt Rn.length) wv:=by
  refine Ae.ur (by simp[E0,wv]) fun i y v qb hv=>?_;simp only[E0,bK,bB] at qb;obtain⟨j,hj,rfl⟩:=qb;have gI:i < nt/\j=i:=by obtain⟨U,O⟩:=bH.1 hj;simp at U O;exact⟨U,O.symm⟩
  obtain⟨gI,rfl⟩:=gI;split
  case isFalse=>exact .undef _
  rename_i hjR0;have hjR:=hjR0.1;have ht:Rn[j]?=some Rn[j]:=bQ hjR;have kD:=uI j _ ht;rw[bF,hv] at kD;simp only[b7] at kD;subst kD;obtain⟨p,ob,hp,_,_⟩:=pC _ (bJ ht);have lC:Lc (0,j)=some p:=by simp only[Lc,eF,ht,dc,hp]
  rw[hp];cases p with
  | none=>exact .iL _ _ lC
  | some p =>
   obtain⟨b,C⟩:=p;have:=Aj.arr (w:=w1) (I:=I) (lp:=og) (L:=Lc) (0,j) 1 0 0 C b C lC (by omega) (cX _);simpa using this
 have kN:SR og I Lc (D4 gone nt (ins.map (Ob.fQ fr)) (A7 g [.fT (dep+Rn.length)] (AR fr cap))) ((fst.toList++([.func (.yield l) #[] #[]]++gg.toList))++List.replicate (nt - (fst.toList++([Value.func (.yield l) #[] #[]]++gg.toList)).length) undef) wv w1:=by
  have oh:0 < (List.replicate nt ([]:fg)).length:=by simpa using qC
  have o6:∀ J:Nm,J.1≠0->Aa ((List.replicate nt []).set 0 (ins.map (Ob.fQ fr))) J=none:=by
   intro J U;rw[DO _ U];unfold Aa;cases hg:(List.replicate nt ([]:fg))[J.1]? with
   | none=>rfl
   | some l =>
    have:=dQ (bJ hg);subst this;simp
  refine⟨?_,?_,?_,?_⟩;{have hl:=gV.length;have O:Ae w1 I og (some Lc) (List.replicate (nt - (A7 g [.fT (dep+Rn.length)] (AR fr cap)).length) PV.undef) (List.replicate (nt - (A7 g [.fT (dep+Rn.length)] (AR fr cap)).length) undef):=Ae.gi _ _ (by simp);have:=gV.append O;rw[<-hl];exact this};{show Ae w1 I og (some Lc) (E0 gone nt (ins.map (Ob.fQ fr)).length) wv;rw[hil2];exact hwit}
  ·intro J ob hl;have jc:Aa ((List.replicate nt []).set 0 (ins.map (Ob.fQ fr))) J=some ob:=hl;by_cases U:J.1=0
   ·obtain⟨a,j⟩:=J;simp only at U;subst U;rw[Ep _ oh,bK] at jc;obtain⟨jo,ho0,rfl⟩:=bB.1 jc;have hj:j < Rn.length:=by have:=(bH.1 ho0).1;omega
    have hRt:Rn[j]?=some Rn[j]:=bQ hj;obtain⟨nb,h3,h4⟩:=m2 j _ hRt;rw[ho0] at h3;cases h3;obtain⟨p,hp,ha⟩:=uG.ob _ jo h4;refine⟨p,by simp only[Lc,eF,hRt,dc,hp],?_⟩;have uJ:jo.gq=false:=by have:=bI.1 hoy jo (bJ ho0);simpa using this
    have nG:A5 w1 I og LR jo p:=(ha.lR uJ).narrow fun m hm q hq=>by have:m∈Rn:=Ol uF (bJ hRt) h4 m hm;simp only[LR,this,eF];exact hq
    exact nG.fQ jy
   {rw[o6 J U] at jc;cases jc}
  ·intro J hl;have jc:Aa ((List.replicate nt []).set 0 (ins.map (Ob.fQ fr))) J=none:=hl;simp only[Lc];split
   ·rename_i U;obtain⟨a,j⟩:=J;simp only at U;subst U;rw[Ep _ oh,bK] at jc;have O:ins[j]?=none:=by simpa using jc
    have:Rn[j]?=none:=bY.2 (by have:=bY.1 O;omega);rw[this];rfl
   {rfl}
 have hAl:∀ J b C,Hp Rn L J=some (some (b,C))->J ∉ Rn/\L J=some (some (b,C)):=by intro J b C hn;by_cases hm:J∈Rn;{rw[Vs hm] at hn;cases hn};{rw[RV hm] at hn;exact⟨hm,hn⟩}
 let zzc:Nat->Prop:=fun b=>∃ J C,J∈Rn/\L J=some (some (b,C))
 have hFc:∀ b,(F b\/B9 (Hp Rn L) b\/b=l)->(F b\/B9 L b\/b=l):=fun b hb=>by rcases hb with hb | ⟨J,C,hb⟩ | rfl;{exact .inl hb};{exact .inr (.inl ⟨J,C,(hAl J b C hb).2⟩)};{exact .inr (.inr rfl)}
 have od:Fr cx w1 I (fun b=>F b\/B9 L b\/b=l) ⟨zzc,[]⟩ (fun _=>none) (PM w0 O0 R jZ l rc rc.tmps.toList fE) (NJ dep Rn V,none,e) [] I (fun b=>F b\/B9 (Hp Rn L) b\/b=l) Lc w1:=by
  refine⟨⟨rfl,rfl,rfl,bD _,fun _ _ _=>rfl,fun _ h=>h,fun _ h=>.inl h,fun b hb=>.inl (hFc b hb)⟩,⟨gY.sep.iB,fun b hb=>?_⟩,fun b hb=>?_,fun J b C hn=>?_,fun J gP b C C' hn ik=>?_,gY.wd,?_,.nil,fun b ob hb=>by cases hb⟩;{rcases hFc b hb with hb | ⟨J,C,hb⟩ | rfl;{exact gY.sep.fB b hb};{exact⟨(gY.lB J b C hb).2.1,(gY.lB J b C hb).2.2.1⟩};{exact⟨c7,hIl⟩}};{obtain⟨J,C,_,hn⟩:=hb;exact .inr (.inl ⟨J,C,hn⟩)}
  ·obtain⟨t,U,_,O⟩:=hLc J _ hn;obtain⟨_,g2,g3,g4⟩:=gY.lB t b C O;refine⟨.inr ⟨t,C,bJ U,O⟩,g2,g3,fun hb=>?_⟩;rcases hb with hb | ⟨gP,C',hb⟩ | rfl;{exact g4 hb}
   {obtain⟨q1,q2⟩:=hAl gP b C' hb;have:=gY.inj t gP b C C' O q2;subst this;exact q1 (bJ U)};{exact hLl ⟨t,C,O⟩}
  {obtain⟨t,U,h3,O⟩:=hLc J _ hn;obtain⟨t',h1',h3',iX⟩:=hLc gP _ ik;have:=gY.inj t t' b C C' O iX;subst this;exact Prod.ext (h3.trans h3'.symm) (mg _ _ t U h1')};{refine⟨Hp Rn L,F,by rw[c4];exact lZ,fun b=>Iff.rfl,fun b hb=>?_,hFl,fun J gP b C C' hn ik=>gY.inj J gP b C C' (hAl J b C hn).2 (hAl gP b C' ik).2,c5,gY.re⟩;obtain⟨J,C,hn⟩:=hb;have hn:=(hAl J b C hn).2;exact⟨(gY.lB J b C hn).2.2.2,fun e=>hLl ⟨J,C,e ▸ hn⟩,(gY.lB J b C hn).1⟩}
 have mu:=hcon (PM w0 O0 R jZ l rc rc.tmps.toList fE) og w1 I (fun b=>F b\/B9 L b\/b=l) _ zzc Lc _ wv uH (fun d l' hd=>by
  simp only[og] at hd;split at hd;·omega
  ·have:=href2.dep d l' hd;omega) gV.length.symm kN od
 refine⟨l,mark,w1,{target:=.fn (.func (AG g)) gg,args:=fst++#[.func (.yield l) #[] #[]]},w1,AG g,fst++#[.func (.yield l) #[] #[]]++gg,w1,hent,?_,fun _ _=>trivial,?_,fun h=>by simp[CF] at h,?_⟩;{have hfv':a.eval f=.func (.func (AG g)) fst gg:=n6;have hcv:a.eval (.const (.func (.yield l) #[] #[]))=.func (.yield l) #[] #[]:=rfl;simp only[resolve,rangeCall,hfv',Deferred.ofValue];simp[hcv]}
 ·obtain⟨fn',kV,iq,iI⟩:=hen;have hb:¬ fn'.body=none:=by intro h;rw[h] at iI;cases iI
  have iq:¬ fn'.name = "runtime.NumGoroutine":=by intro h;rw[h] at iq;simp at iq
  simp[invoke,callFunc,kV,iq,hb]
 ·have iC:(fst.toList++([Value.func (.yield l) #[] #[]]++gg.toList)).toArray=fst++#[.func (.yield l) #[] #[]]++gg:=by apply Array.ext';simp
  rw[iC] at mu;refine R1 (CallsIn.kE mu fun en w3 hr=>?_);cases en with
  | panicked chain=>exact hr.elim
  | outgrown=>exact hr.elim
  | returned v =>
   obtain⟨tmvE,I',F',L',hsE,oi⟩:=hr;obtain⟨Ls0,Fo,g1,g2,g3,g4,g5,g6,g7⟩:=oi.re;simp only at g1 g6 g7;obtain⟨Ls,g1,hiff⟩:=qz (R:=Rn) g1;rw[qB] at g1;have oc:∀ b,B9 Ls0 b=B9 Ls b:=fun b=>propext ⟨fun ⟨J,C,h⟩=>⟨J,C,(hiff _ _ _).2 h⟩,fun ⟨J,C,h⟩=>⟨J,C,(hiff _ _ _).1 h⟩⟩;simp only[oc,<-hiff] at g2 g3 g5
   have jL:∀ b,b < w1.heap.size->¬ I b->¬ F b->¬ B9 L b->b≠l->¬ I' b/\¬ F' b/\w3.heap[b]?=w1.heap[b]?:=fun b U O h3 h4 h5=>by
    have hF:¬ (F b\/B9 L b\/b=l):=fun h=>by rcases h with h | h | h<;>first | exact h3 h | exact h4 h | exact h5 h
    exact⟨fun h=>by rcases oi.ext.jJ b h with h | h | h<;>first | exact O h | exact hF h | omega,fun h=>by rcases oi.ext.jX b h with h | h<;>first | exact hF h | omega,oi.ext.fD b U hF⟩
   have nH:F' l:=(g2 l).2 (.inr (.inr rfl));have uK:∀ J C,Ls J≠some (some (l,C)):=fun J C hn=>(g3 l ⟨J,C,hn⟩).2.1 rfl;have js:∀ b,¬ F' b->¬ Fo b/\∀ J C,Ls J≠some (some (b,C)):=fun b hb=>⟨fun h=>hb ((g2 b).2 (.inl h)),fun J C hn=>hb ((g2 b).2 (.inr (.inl ⟨J,C,hn⟩)))⟩;have iQ:=oi.ext.size
   have hmk:BS w0.heap.size I' Fo Ls w3 (mark++a.defers) O0.dfs:=by
    have tJ:BS w0.heap.size I' Fo Ls w3 a.defers O0.dfs:=hf.lO.move (by omega) fun D d1 d2 d3 d4 d5=>by obtain⟨q1,q2,q3⟩:=jL D (by omega) d3 d4 (fun ⟨J,C,hn⟩=>d5 J C hn) (by omega);exact⟨q3.trans (c12 D d1),q1,(js D q2).1,(js D q2).2⟩
    rcases c13 with rfl | ⟨rfl,k1,k2⟩;{exact tJ}
    {obtain⟨q1,q2,q3⟩:=jL w.heap.size (by omega) (fun h=>by have:=jC _ (.inl h);omega) (fun h=>by have:=jC _ (.inr (.inl h));omega) (fun h=>by have:=jC _ (.inr (.inr h));omega) (by omega);refine .cons w.heap.size _ _ hf.ext.size (by omega) q1 (js _ q2).1 (js _ q2).2 (q3.trans k1) (fun d hd he=>?_) tJ;have:=hf.lO.lt d.target (bA.2 ⟨d,hd,rfl⟩) _ he;omega}
   have hmne:∀ D,D∈(mark++a.defers).map (·.target)->D≠.collected l:=by
    intro D hD he;rw[cU] at hD;rcases bS.1 hD with hD | hD
    ·rcases c13 with rfl | ⟨rfl,k1,k2⟩;{simp at hD}
     {simp only[bP,cq,cc] at hD;rw[hD] at he;cases he;omega}
    {have:=hf.lO.lt D hD l he;omega}
   have uq:Fr cx w0 I0 F0 O0 (fun b=>if b=l then some (.loop (Ba rc p)) else Hd b) R e2 (mark++a.defers) I' Fo Ls w3:=by
    refine⟨(mG.trans oi.ext).less fun b hb=>(g2 b).2 (.inl hb),⟨oi.sep.iB,fun b hb=>oi.sep.fB b ((g2 b).2 (.inl hb))⟩,hf.oF,fun J b C hn=>?_,g5,oi.wd,g7,hmk,fun b ob hb=>?_⟩;{have hb:B9 Ls b:=⟨J,C,hn⟩;have hF:=oi.sep.fB b ((g2 b).2 (.inr (.inl hb)));exact⟨(g3 b hb).2.2,hF.1,hF.2,(g3 b hb).1⟩}
    ·by_cases lG:b=l
     {subst lG;simp only[eF,bC] at hb;subst hb;exact⟨(oi.sep.fB b nH).1,(oi.sep.fB b nH).2,g4,uK,g6⟩};{simp only[lG,eE] at hb;obtain⟨d1,d2,d3,d4,d5⟩:=hf.lP b ob hb;obtain⟨q1,q2,q3⟩:=jL b (by omega) d2 d3 (fun ⟨J,C,hn⟩=>d4 J C hn) lG;exact⟨by omega,q1,(js b q2).1,(js b q2).2,(q3.trans (c12 b d1)).trans d5⟩}
   have uL:(Ba rc p).state≠.busy:=by cases p<;>simp[Ba]
   have uM:=run_endLoop (P:=cx.P) g6 uL;have l7:=uq.lJ (ky:=.loop {Ba rc p with state:=.exhausted}) (l:=l) (ob:=.loop (Ba rc p)) (by simp) (.inl lQ) hmne
   have hf5:Fr cx w0 I0 F0 O0 Hd R e2 (mark++a.defers) I' Fo Ls (w3.putObj l (.loop {Ba rc p with state:=.exhausted})):=l7.hold fun b ob hb=>by
    have gI:=(hf.lP b ob hb).1;have lG:b≠l:=by omega
    simp[lG,hb]
   have hs5:SR jZ I' Ls s a.tmps.toList fE (w3.putObj l (.loop {Ba rc p with state:=.exhausted})):=by rw[c4] at g1;exact g1.lJ _ (oi.sep.fB l nH).2 uK
   have hsE5:SR og I' L' kx tmvE wv (w3.putObj l (.loop {Ba rc p with state:=.exhausted})):=hsE.lJ _ (oi.sep.fB l nH).2 fun J C hn=>(oi.lB J l C hn).2.2.2 nH;obtain⟨hRs2,hobY⟩:=WU hmb
   obtain⟨r,kg⟩:∃ r rs,Rn=r :: rs:=by
    cases Rn with
    | nil=>simp at gj
    | cons r rs=>exact⟨r,rs,rfl⟩
   obtain⟨rs,kg⟩:=kg;have jt:∃ i1,Fi (some r.1) r.1 i1 Rn kx (.fM [])=some out/\GL (Aa s.fA) r.1=some i1:=by unfold Gh at jl;rw[kg] at jl |-;simp only at jl;split at jl;{rename_i i1 hi1;exact⟨i1,jl,hi1⟩};·cases jl
   obtain⟨i1,jl,hi1⟩:=jt;obtain⟨N,B,hB,hBn,fU⟩:=OE jl;have hlen:∃ l,s.fA[r.1]?=some l/\l.length=i1:=by obtain⟨ob,ho⟩:=hRs2 r (by rw[kg];exact bN);exact Vc (d:=r.1) (j:=r.2) ho hi1
   have iJ:∀ i:Nat,(∃ x,N[i]?=some x)->Ls (r.1,i1+i)=none:=by rintro i _;obtain⟨l,U,O⟩:=hlen;refine hs5.j6 _ ?_;unfold Aa;rw[U];exact bY.2 (by simp only;omega)
   have hRLs:∀ t∈Rn,∃ p,Ls t=some p:=fun t h=>by obtain⟨ob,ho⟩:=hRs2 t h;obtain⟨p,hp,_⟩:=hs5.ob t ob ho;exact⟨p,hp⟩
   have hU:=uniqB (aN:=fun k=>(Cm (kx.fD.getD k .undef)).getD (0,k)) hB mg hRLs iJ;have uN:Hx Rn kx.fD=[]:=by rw[fU] at nc;exact bZ.1 nc
   have mi:∀ (j:Nat) J,Rn[j]?=some J->Aj (w3.putObj l (.loop {Ba rc p with state:=.exhausted})) I' og (some L') (.arr ((Cm (kx.fD.getD j .undef)).getD (0,j)) 1 0 0) (match L J with
    | some (some (b,C))=>.slice (some ⟨b,0,none⟩) 0 C
    | _=>.slice none 0 0):=by
    intro j J hj
    have ja:(Cm (kx.fD.getD j .undef)).isSome=true:=by
     cases hw:Cm (kx.fD.getD j .undef) with
     | some q=>rfl
     | none =>
      have:J∈Hx Rn kx.fD:=bA.2 ⟨(J,j),cE.2 ⟨cd.2 hj,by simp only[hw];rfl⟩,rfl⟩;rw[uN] at this;cases this
    obtain⟨q,hq⟩:=df.1 ja;simp only[hq,b7];have gX:=hsE5.kp.getD j undef;have kz:=uI j J hj;have uO:kx.fD.getD j .undef=.arr q 1 0 0:=by unfold Cm at hq;split at hq;{rename_i gP heq;cases hq;exact heq};·cases hq
    rw[uO,kz] at gX;exact gX
   have kK:∀ (j:Nat) J b C,Rn[j]?=some J->L J=some (some (b,C))->∃ C',C<=C'/\L' ((Cm (kx.fD.getD j .undef)).getD (0,j))=some (some (b,C')):=by
    intro j J b C hj hp;have gX:=mi j J hj;rw[hp] at gX;rcases Gi gX with ⟨b',C',cap,h,hv,hC,hn⟩ | ⟨h,hv,_,_⟩
    {simp only[Value.slice.injEq,bC,Addr.mk.injEq] at hv;obtain⟨⟨rfl,_,_⟩,_,rfl⟩:=hv;exact⟨C',by omega,h⟩};{simp at hv}
   have hgeN:∀ (j:Nat) J,Rn[j]?=some J->L J=some none->L' ((Cm (kx.fD.getD j .undef)).getD (0,j))=some none:=by intro j J hj hp;have gX:=mi j J hj;rw[hp] at gX;rcases Gi gX with ⟨b',C',cap,h,hv,hC,hn⟩ | ⟨h,hv,_,_⟩;{simp at hv};{exact h}
   have hY:∀ d l,jZ d=some l->(¬ (dep<=d/\d < dep+Rn.length)->lp d=some l)/\(dep<=d/\d < dep+Rn.length->∃ b C,l=2*b+1/\BC Ls L' B (Rn.getD (d - dep) (0,0))=some (some (b,C))):=by
    intro d l' hd;simp only[jZ] at hd;refine⟨fun hn=>by rwa [eG hn] at hd,fun hn=>?_⟩;rw[eH hn] at hd
    have hj:Rn[d - dep]?=some (Rn.getD (d - dep) (0,0)):=by
     have gI:d - dep < Rn.length:=by omega
     rw[bF,bQ gI];rfl
    split at hd;{rename_i b C hLb;cases hd;obtain⟨C',_,hC'⟩:=kK _ _ b C hj hLb;refine⟨b,C',rfl,?_⟩;rw[JU hU ((IU (aN:=fun k=>(Cm (kx.fD.getD k .undef)).getD (0,k)) hB _ _).2 (.inl ⟨d - dep,hj,rfl⟩)),hC'];rfl};{cases hd}
   have hsF:=back_sr (aN:=fun k=>(Cm (kx.fD.getD k .undef)).getD (0,k)) (v0:=((PV.fM []).sub (CN B)).fQ (CI B)) hs5 hsE5 hY hmb mg hlen hBn hB (fun m hm=>by
     rw[fU] at hnewY;have:=bI.1 hnewY _ (bA.2 ⟨m,hm,rfl⟩);simpa[FY] using this) (fun j t hj=>by
     rw[fU] at hupsY;have:=bI.1 hupsY _ (bA.2 ⟨(t,j),cd.2 hj,rfl⟩);simpa[FY] using this)
   have hfF:=back_fr (L':=L') hf5 hU hBn (fun J b C hn=>by
     obtain⟨q1,q2,q3,q4⟩:=oi.lB J b C hn
     have hO:(w0.heap.size<=b\/O0 b)/\(∀ ob,Hd b≠some ob)/\∀ d∈mark++a.defers,d.target≠.collected b:=by
      rcases q1 with q1 | ⟨t,C',ht,hLt⟩
      ·have h00:=hf.ext.size;refine⟨.inl (by omega),fun ob hb=>by have:=(hf.lP b ob hb).1;omega,fun d hd he=>?_⟩;rcases bS.1 hd with hd | hd
       ·rcases c13 with rfl | ⟨rfl,k1,k2⟩;·cases hd
        ·rw[cc.1 hd] at he;cases he;omega
       ·have:=hf.lO.lt d.target (bA.2 ⟨d,hd,rfl⟩) b he;omega
      ·refine⟨(hf.lB t b C' hLt).1,fun ob hb=>(hf.lP b ob hb).2.2.2.1 t C' hLt,fun d hd he=>?_⟩;rcases bS.1 hd with hd | hd
       ·rcases c13 with rfl | ⟨rfl,k1,k2⟩;·cases hd
        ·rw[cc.1 hd] at he;cases he;have:=(hf.lB t _ C' hLt).2.1;omega
       ·exact hf.lO.noL d hd b he t C' hLt
     exact⟨by rw[World.putObj_size];exact q2,q3,(js b q4).1,hO.1,(js b q4).2,hO.2.1,hO.2.2⟩) oi.inj
   have ml:out={v:=((PV.fM []).sub (CN B)).fQ (CI B),new:=N.map (FY kx B),gC:=Rn.zipIdx.map fun p=>(p.1,FY kx B ((Cm (kx.fD.getD p.2 .undef)).getD (0,p.2))),gone:=[],io:=true,slot:=some r.1}:=by rw[fU,uN];rfl
   rw[<-ml] at hsF
   have hsK:SR lp I' (BC Ls L' B) (XV Rn V.fD (apply (NI dep Rn s) none out)) a.tmps.toList fE (w3.putObj l (.loop {Ba rc p with state:=.exhausted})):=by
    refine⟨hsF.tm,UN hsF.kp hs.kp fun J hm v hv=>?_,hsF.ob,hsF.j6⟩;obtain⟨j,hj,hT⟩:=dM hm;have hjR:Rn[j]?=some J:=by rw[bQ hj,hT]
    have mS:=(IU (aN:=fun k=>(Cm (kx.fD.getD k .undef)).getD (0,k)) hB _ _).2 (.inl ⟨j,hjR,rfl⟩);rcases Gi hv with ⟨b,C,cap,h,hv,hC,hn⟩ | ⟨h,hv,_,_⟩
    {obtain⟨C',hCC,hC'⟩:=kK j J b C hjR h;rw[hv];exact .arr J 1 0 0 cap b C' (by rw[JU hU mS,hC'];rfl) (by omega) hn};{rw[hv];exact .iL J 1 (by rw[JU hU mS,hgeN j J hjR h];rfl)}
   refine⟨(Ba rc p).pending,_,uM,?_⟩;have hq:=hQ {a with defers:=mark++a.defers} _ I' Fo _ hsK hfF;cases p with
   | none=>exact hq
   | some x =>
    cases x with
    | normal=>exact hq
    | exit id =>
     generalize w3.putObj l (.loop {Ba rc (some (.exit id)) with state:=.exhausted})=wz at hq |-;simp only[b7,Ch] at hq;simp only[Ba,Ja];by_cases hid:id < BK;{simp only[hid,eF] at hq |-;exact wpIn_exit hq};{simp only[hid,eE] at hq |-;exact wpIn_goto hq}
    | ret=>exact wpIn_ret hq
theorem Xk (hM:Dq cx M.call) (gR:Fv cx M) (gk:Fu cx lp R h dep w0 I0 F0) (jr:∀ l0,ro=some l0->∃ r0,Hd l0=some (.loop r0)) (hca:H8 cx dd M fuel assign) (hcb:Dn cx M fuel rb body)
  (hrx:rx cx.G f=some rf) (fG:At M fuel (.rangeFunc rf ps.toList (Bk cx.P cx.G dd assign) rb) h dep V e=some (x,fZ,e2))
  (hs:SR lp I L V a.tmps.toList fE w) (hf:Fr cx w0 I0 F0 O0 Hd R e a.defers I F L w) 
  (hQ:∀ a' w' I' F' L',SR lp I' L' fZ a'.tmps.toList fE w'->Fr cx w0 I0 F0 O0 Hd R e2 a'.defers I' F' L' w'->Q (Ch x) a' w'):(Code.rangeFunc f ps assign body).wpIn (CF ro) 0 cx.P Q a w:=by
 rw[ZT] at fG;split at fG;{exact rio_ok gR.nP gk jr hca hcb hrx fG hs hf hQ};split at fG
 case h_2=>cases fG
 rename_i g cap oT nS;split at fG
 case h_2=>cases fG
 rename_i r obs s p e3 jN;cases fG;obtain⟨I1,L1,jU,jb,fX⟩:=aY hs hf (A9 hs hf.wd hrx) nS;obtain⟨fst,gg,n6,hfk,mr⟩:=Jc fX;refine wpIn_rangeFunc fun fn _=>?_;obtain⟨l,mark,w1,rc,hent,c1,c2,c3,c4,c5,c6,c7,c8,c9,c10,c11,c12,c13⟩:=XL (ro:=ro) jr jb fn a.tmps ps assign body;have jC:∀ b,I1 b\/F b\/B9 L1 b->b < w.heap.size:=fun b hb=>by rcases hb with hb | hb | ⟨J,C,hb⟩;{exact jb.sep.iB b hb};{exact (jb.sep.fB b hb).1};{exact (jb.lB J b C hb).2.1}
 have uG:SR lp I1 L1 oT a.tmps.toList fE w1:=jU.keeps (fun _ h=>h) (fun b hb=>c12 b (jC b (.inl hb))) fun J b C hn=>c12 b (jC b (.inr (.inr ⟨J,C,hn⟩)))
 have gY:Fr cx w0 I0 F0 O0 Hd R e a.defers I1 F L1 w1:=jb.own c8 c9 c10 c11 (fun b hb _=>c12 b hb) (fun _ h=>h) (fun _ h=>.inl h)
  (fun J b C hn=>⟨by have:=(jb.lB J b C hn).2.1;omega,(jb.lB J b C hn).2.2.1,.inr ⟨J,C,hn⟩⟩) jb.inj
 have lQ:w0.heap.size<=l:=by have:=jb.ext.size;omega
 have mG:BA I0 F0 w0 I1 (fun b=>F b\/B9 L1 b\/b=l) w1:=⟨gY.ext.os,gY.ext.tape,gY.ext.output,gY.ext.size,gY.ext.fD,gY.ext.j9,gY.ext.jJ,fun b hb=>by
  rcases hb with hb | ⟨J,C,hb⟩ | rfl;·exact gY.ext.jX b hb
  ·exact (gY.lB J b C hb).1.elim .inr fun ho=>.inl (gY.oF b ho)
  ·exact .inr lQ⟩
 have uH:=Xi (O0:=O0) (M:=M) (fuel:=fuel) (fE:=fE) gk mG (l:=l) (rc:=rc) c1 c2 c3 lQ hca hcb
 obtain⟨hen,hcon⟩:=hM (Dj E) _ _ (dep+1) (fun d=>if d=dep then some (2*l) else lp d) _ _ w1 (AG g) (A7 g [.fT dep] cap) (oT,none,e) r obs (fZ,p,e2) jN uH (fun d l' hd=>by
  by_cases pA:d=dep
  ·omega
  ·simp only[pA,eE] at hd;have:=gk.dep d l' hd;omega)
 have hll:G9 lp (fun d=>if d=dep then some (2*l) else lp d):=fun d l' hd=>by
  have:=gk.dep d l' hd;have gj:d≠dep:=by omega
  simp[gj,hd]
 have hIl:¬ I1 l:=fun hb=>by have:=jb.sep.iB l hb;omega
 have hFl:¬ F l:=fun hb=>by have:=(jb.sep.fB l hb).1;omega
 have hLl:¬ B9 L1 l:=fun hb=>by have:=jC l (.inr (.inr hb));omega
 have mu:=hcon I1 (fun b=>F b\/B9 L1 b\/b=l) w1 (fst.toList++([.func (.yield l) #[] #[]]++gg.toList)) (BA.refl _ _ _) ⟨gY.sep.iB,fun b hb=>by
   rcases hb with hb | ⟨J,C,hb⟩ | rfl;·exact gY.sep.fB b hb
   ·exact⟨(gY.lB J b C hb).2.1,(gY.lB J b C hb).2.2.1⟩
   ·exact⟨c7,hIl⟩⟩ gY.wd ⟨L1,F,by rw[c4];exact uG,fun b=>Iff.rfl,fun b hb=>by
   obtain⟨J,C,hn⟩:=hb;exact⟨(gY.lB J b C hn).2.2.2,fun e=>hLl ⟨J,C,e ▸ hn⟩,(gY.lB J b C hn).1⟩,hFl,gY.inj,c5,gY.re⟩
  (OF hfk (Ae.mono (fun _ h=>h) (fun b hb=>c12 b (jC b (.inl hb))) hll mr) (.cons _ _ _ _ (by rw[<-Pn];exact .fT dep (2*l) (by simp)) .nil))
 refine⟨l,mark,w1,{target:=.fn (.func (AG g)) gg,args:=fst++#[.func (.yield l) #[] #[]]},w1,AG g,fst++#[.func (.yield l) #[] #[]]++gg,w1,hent,?_,fun _ _=>trivial,?_,fun h=>by simp[CF] at h,?_⟩;{have hfv':a.eval f=.func (.func (AG g)) fst gg:=n6;have hcv:a.eval (.const (.func (.yield l) #[] #[]))=.func (.yield l) #[] #[]:=rfl;simp only[resolve,rangeCall,hfv',Deferred.ofValue];simp[hcv]}
 ·obtain⟨fn',kV,iq,iI⟩:=hen;have hb:¬ fn'.body=none:=by intro h;rw[h] at iI;cases iI
  have iq:¬ fn'.name = "runtime.NumGoroutine":=by intro h;rw[h] at iq;simp at iq
  simp[invoke,callFunc,kV,iq,hb]
 ·have iC:(fst.toList++([Value.func (.yield l) #[] #[]]++gg.toList)).toArray=fst++#[.func (.yield l) #[] #[]]++gg:=by apply Array.ext';simp
  rw[iC] at mu;refine R1 (CallsIn.kE mu fun en w3 hr=>?_);cases en with
  | panicked chain=>exact hr.elim
  | outgrown=>exact hr.elim
  | returned v =>
   obtain⟨I',F',ps',iM⟩:=hr;obtain⟨L',Fo,g1,g2,g3,g4,g5,g6,g7⟩:=iM.re;simp only at g1 g6 g7
   have jL:∀ b,b < w1.heap.size->¬ I1 b->¬ F b->¬ B9 L1 b->b≠l->¬ I' b/\¬ F' b/\w3.heap[b]?=w1.heap[b]?:=fun b U O h3 h4 h5=>by
    have hF:¬ (F b\/B9 L1 b\/b=l):=fun h=>by rcases h with h | h | h<;>first | exact h3 h | exact h4 h | exact h5 h
    exact⟨fun h=>by rcases iM.ext.jJ b h with h | h | h<;>first | exact O h | exact hF h | omega,fun h=>by rcases iM.ext.jX b h with h | h<;>first | exact hF h | omega,iM.ext.fD b U hF⟩
   have nH:F' l:=(g2 l).2 (.inr (.inr rfl));have uK:∀ J C,L' J≠some (some (l,C)):=fun J C hn=>(g3 l ⟨J,C,hn⟩).2.1 rfl;have js:∀ b,¬ F' b->¬ Fo b/\∀ J C,L' J≠some (some (b,C)):=fun b hb=>⟨fun h=>hb ((g2 b).2 (.inl h)),fun J C hn=>hb ((g2 b).2 (.inr (.inl ⟨J,C,hn⟩)))⟩;have iQ:=iM.ext.size
   have hmk:BS w0.heap.size I' Fo L' w3 (mark++a.defers) O0.dfs:=by
    have tJ:BS w0.heap.size I' Fo L' w3 a.defers O0.dfs:=jb.lO.move (by omega) fun D d1 d2 d3 d4 d5=>by obtain⟨q1,q2,q3⟩:=jL D (by omega) d3 d4 (fun ⟨J,C,hn⟩=>d5 J C hn) (by omega);exact⟨q3.trans (c12 D d1),q1,(js D q2).1,(js D q2).2⟩
    rcases c13 with rfl | ⟨rfl,k1,k2⟩;{exact tJ}
    {obtain⟨q1,q2,q3⟩:=jL w.heap.size (by omega) (fun h=>by have:=jC _ (.inl h);omega) (fun h=>by have:=jC _ (.inr (.inl h));omega) (fun h=>by have:=jC _ (.inr (.inr h));omega) (by omega);refine .cons w.heap.size _ _ jb.ext.size (by omega) q1 (js _ q2).1 (js _ q2).2 (q3.trans k1) (fun d hd he=>?_) tJ;have:=jb.lO.lt d.target (bA.2 ⟨d,hd,rfl⟩) _ he;omega}
   have hmne:∀ D,D∈(mark++a.defers).map (·.target)->D≠.collected l:=by
    intro D hD he;rw[cU] at hD;rcases bS.1 hD with hD | hD
    ·rcases c13 with rfl | ⟨rfl,k1,k2⟩;{simp at hD}
     {simp only[bP,cq,cc] at hD;rw[hD] at he;cases he;omega}
    {have:=jb.lO.lt D hD l he;omega}
   have uq:Fr cx w0 I0 F0 O0 (fun b=>if b=l then some (.loop (Ba rc p)) else Hd b) R e2 (mark++a.defers) I' Fo L' w3:=by
    refine⟨(mG.trans iM.ext).less fun b hb=>(g2 b).2 (.inl hb),⟨iM.sep.iB,fun b hb=>iM.sep.fB b ((g2 b).2 (.inl hb))⟩,jb.oF,fun J b C hn=>?_,g5,iM.wd,g7,hmk,fun b ob hb=>?_⟩;{have hb:B9 L' b:=⟨J,C,hn⟩;have hF:=iM.sep.fB b ((g2 b).2 (.inr (.inl hb)));exact⟨(g3 b hb).2.2,hF.1,hF.2,(g3 b hb).1⟩}
    ·by_cases lG:b=l
     {subst lG;simp only[eF,bC] at hb;subst hb;exact⟨(iM.sep.fB b nH).1,(iM.sep.fB b nH).2,g4,uK,g6⟩};{simp only[lG,eE] at hb;obtain⟨d1,d2,d3,d4,d5⟩:=jb.lP b ob hb;obtain⟨q1,q2,q3⟩:=jL b (by omega) d2 d3 (fun ⟨J,C,hn⟩=>d4 J C hn) lG;exact⟨by omega,q1,(js b q2).1,(js b q2).2,(q3.trans (c12 b d1)).trans d5⟩}
   have uL:(Ba rc p).state≠.busy:=by cases p<;>simp[Ba]
   have jl:=run_endLoop (P:=cx.P) g6 uL;have l7:=uq.lJ (ky:=.loop {Ba rc p with state:=.exhausted}) (l:=l) (ob:=.loop (Ba rc p)) (by simp) (.inl lQ) hmne
   have hf5:Fr cx w0 I0 F0 O0 Hd R e2 (mark++a.defers) I' Fo L' (w3.putObj l (.loop {Ba rc p with state:=.exhausted})):=l7.hold fun b ob hb=>by
    have gI:=(jb.lP b ob hb).1;have lG:b≠l:=by omega
    simp[lG,hb]
   have hs5:SR lp I' L' fZ a.tmps.toList fE (w3.putObj l (.loop {Ba rc p with state:=.exhausted})):=by rw[c4] at g1;exact g1.lJ _ (iM.sep.fB l nH).2 uK
   refine⟨(Ba rc p).pending,_,jl,?_⟩;have hq:=hQ {a with defers:=mark++a.defers} _ I' Fo L' hs5 hf5;cases p with
   | none=>exact hq
   | some x =>
    cases x with
    | normal=>exact hq
    | exit id =>
     generalize w3.putObj l (.loop {Ba rc (some (.exit id)) with state:=.exhausted})=wz at hq |-;simp only[b7,Ch] at hq;simp only[Ba,Ja];by_cases hid:id < BK;{simp only[hid,eF] at hq |-;exact wpIn_exit hq};{simp only[hid,eE] at hq |-;exact wpIn_goto hq}
    | ret=>exact wpIn_ret hq
end
end Go.Ab


namespace Go.Ab
variable{E:Type} {F:Fence} {P:eX} {Q:Exit->Act->eS->Prop} {a:Act} {b:Frame} {c c1 c2:Code} {cs:List Frame} {dep l m n:Nat} {g:List (Nat×Nat)} {k:List Item} {r:AU} {w:eS} {x:Ex} {e:E} {h:AB E}
theorem Iz:step P (lone (b.atR a (.code (.scope c) :: k)) cs w)=.next (lone (b.atR a (.code c :: .inScope c :: k)) cs w) :=
 step_lone_go (by simp[Go.stepG,Go.stepG.exec,Frame.atR])
theorem Uh:step P (lone (b.atR a (.inScope c :: k)) cs w)=.next (lone (b.atR a k) cs w) :=
 step_lone_go (by simp[Go.stepG,Go.stepG.exec,Frame.atR])
def J1:Ex->Prop
 | .exit id=>id < BK
 | _=>True
theorem UE (H:J1 x) (h:c.wpIn F n P (fun e a w=>e=Ch x/\Q e a w) a w):(Code.scope c).wpIn F n P Q a w:=by
 intro b k cs jr hb hr;have h0:(lone (b.atR a (.code (.scope c) :: k)) cs w).fenced P F:=fenced_calm hb hr rfl;obtain⟨e,a₁,w₁,⟨rfl,hq⟩,iC⟩:=h b (.inScope c :: k) cs jr hb hr;cases x with
 | normal=>exact⟨.normal,a₁,w₁,hq,.head h0 Iz (StepsIn.trans iC (.one (fenced_calm hb hr rfl) Uh))⟩
 | exit id =>
  simp only[J1] at H;simp only[Ch,H,eF] at hq iC;have H:exitTo id (.inScope c :: k)=exitTo id k:=by simp[exitTo]
  exact⟨.exit id,a₁,w₁,hq,fun k' hk=>.head h0 Iz (iC.1 k' (by rw[H];exact hk)),
   fun qD hk=>let ⟨k₁,U,O⟩:=iC.2 qD (by rw[H];exact hk);⟨k₁,U,.head h0 Iz O⟩⟩
 | ret=>exact⟨.ret,a₁,w₁,hq,.of_steps (.one h0 Iz) iC⟩
theorem YP {rest:Code} (hl:findLabel c l=some rest) (H:J1 x)
  (h:c.wpIn F n P (fun e a w=>e=.goto l/\rest.wpIn F n P (fun e a w=>e=Ch x/\Q e a w) a w) a w):(Code.scope c).wpIn F n P Q a w:=by
 intro b k cs jr hb hr;have h0:(lone (b.atR a (.code (.scope c) :: k)) cs w).fenced P F:=fenced_calm hb hr rfl;have hg:gotoIn l (.inScope c :: k)=some (.code rest :: .inScope c :: k):=by simp[gotoIn,hl]
 obtain⟨e,a₁,w₁,⟨rfl,hq⟩,iC⟩:=h b (.inScope c :: k) cs jr hb hr;have U:=iC.1 _ hg;obtain⟨e,a₂,w₂,⟨rfl,hq⟩,iC⟩:=hq b (.inScope c :: k) cs jr hb hr;cases x with
 | normal=>exact⟨.normal,a₂,w₂,hq,.head h0 Iz (StepsIn.trans U (StepsIn.trans iC (.one (fenced_calm hb hr rfl) Uh)))⟩
 | exit id =>
  simp only[J1] at H;simp only[Ch,H,eF] at hq iC;have H:exitTo id (.inScope c :: k)=exitTo id k:=by simp[exitTo]
  exact⟨.exit id,a₂,w₂,hq,fun k' hk=>.head h0 Iz (U.trans (iC.1 k' (by rw[H];exact hk))),
   fun qD hk=>let ⟨k₁,g1,g2⟩:=iC.2 qD (by rw[H];exact hk);⟨k₁,g1,.head h0 Iz (U.trans g2)⟩⟩
 | ret=>exact⟨.ret,a₂,w₂,hq,.of_steps (.head h0 Iz U) iC⟩
theorem UF (K:Nat->Act->eS->Prop) (round:∀ m a w,K m a w->∃ m',m=m'+1/\c.wpIn F n P (Exit.then (K m') Q) a w) (h:K m a w) :
  (Code.loop c).wpIn F n P Q a w:=by
 classical
 have least:∀ a w,(∃ m,K m a w)->∃ m,K m a w/\∀ j,K j a w->m<=j:=by
  intro a w ⟨m,hm⟩;induction m using Nat.strongRecOn with
  | _ m ih =>
   by_cases hj:∃ j,j < m/\K j a w;{obtain⟨j,hj1,hj2⟩:=hj;exact ih j hj1 hj2};{exact⟨m,hm,fun j hk=>Nat.le_of_not_lt fun gI=>hj ⟨j,gI,hk⟩⟩}
 refine wpIn_loop (fun a w=>∃ m,K m a w) (fun a w=>if h:∃ m,K m a w then Classical.choose (least a w h) else 0) ⟨m,h⟩ fun a w hk=>?_;obtain⟨q1,q2⟩:=Classical.choose_spec (least a w hk);obtain⟨m',ly,hwp⟩:=round _ a w q1;refine wpIn_mono hwp fun e a' w' hq=>?_;cases e<;>simp only[Exit.then] at hq |-<;>first | exact hq | skip
 refine⟨⟨m',hq⟩,?_⟩;have hex:∃ m,K m a' w':=⟨m',hq⟩;have hle:=(Classical.choose_spec (least a' w' hex)).2 m' hq;simp only[dif_pos hex,dif_pos hk];omega
section
variable {cx:Cx} {dd:C4} {M:AC} {fuel:Nat}
def Nn (cx:Cx) (dd:C4) (M:AC) (fuel:Nat) (c:Code):Prop :=
 ∀ (l:Nat) (y z:AU),Dp l c (Bk cx.P cx.G dd c)=some (y,z)->Dn cx M fuel (.seq y z) c/\∃ rest,findLabel c l=some rest/\Dn cx M fuel z rest
theorem Pq {r1 r2:AU} (U:Dn cx M fuel r1 c1) (O:Dn cx M fuel r2 c2):Dn cx M fuel (.seq r1 r2) (.seq c1 c2):=by
 intro E h dep R lp w0 I0 F0 O0 Hd fE ro V e x fZ e2 fG gk jr a w I F L Q hs hf hQ;simp only[At] at fG;refine wpIn_seq ?_;split at fG
 ·rename_i jd e3 g1
  exact U E h dep R lp w0 I0 F0 O0 Hd fE ro V e .normal jd e3 g1 gk jr a w I F L _ hs hf fun a' w' I' F' L' im gQ =>
   O E h dep R lp w0 I0 F0 O0 Hd fE ro jd e3 x fZ e2 fG gk jr a' w' I' F' L' Q im gQ hQ
 ·rename_i gj;refine U E h dep R lp w0 I0 F0 O0 Hd fE ro V e x fZ e2 fG gk jr a w I F L _ hs hf fun a' w' I' F' L' im gQ=>?_;have:=hQ a' w' I' F' L' im gQ;cases x with
  | normal=>exact (gj _ _ fG).elim
  | exit id =>
   simp only[Ch] at this |-;split<;>rename_i hid;{simp only[hid,eF] at this;exact this};{simp only[hid,eE] at this;exact this}
  | ret=>exact this
theorem Z9 (l:Nat):∀ c:Code,Dp l c (Bk cx.P cx.G dd c)=none->findLabel c l=none:=by
 intro c;induction c with
 | seq c1 c2 sM uP =>
  intro h;simp only[Bk,Dp] at h;split at h;·cases h
  ·rename_i g1;split at h;·cases h
   {rename_i g2;simp[findLabel,sM g1,uP g2]}
 | label l' =>
  intro h;simp only[Dp] at h;split at h;·cases h
  {rename_i hl;simp[findLabel,hl]}
 | _=>intro _;simp[findLabel]
theorem UV {y z:AU} {V:St}:At M fuel (.seq y (.seq z r)) h dep V e=At M fuel (.seq (.seq y z) r) h dep V e:=by
 simp only[At];cases At M fuel y h dep V e with
 | none=>rfl
 | some p =>
  obtain⟨x,s,e⟩:=p;cases x<;>rfl
theorem qE (U:H8 cx dd M fuel c1) (s1:Nn cx dd M fuel c1) (O:H8 cx dd M fuel c2) (s2:Nn cx dd M fuel c2):Nn cx dd M fuel (.seq c1 c2):=by
 intro l y z h;simp only[Bk,Dp] at h;split at h;{rename_i x' y' g1;cases h;obtain⟨q1,rest,q2,q3⟩:=s1 l _ _ g1;refine⟨?_,.seq rest c2,by simp[findLabel,q2],Pq q3 O⟩;have:=Pq q1 O;intro E h dep R lp w0 I0 F0 O0 Hd fE ro V e x fZ e2 fG;rw[UV] at fG;exact this E h dep R lp w0 I0 F0 O0 Hd fE ro V e x fZ e2 fG}
 ·rename_i g1;split at h
  case h_2=>cases h
  rename_i x' y' g2;cases h;obtain⟨q1,rest,q2,q3⟩:=s2 l _ _ g2;refine⟨?_,rest,by simp[findLabel,Z9 l c1 g1,q2],q3⟩;have:=Pq (cx:=cx) (M:=M) (fuel:=fuel) U q1;intro E h dep R lp w0 I0 F0 O0 Hd fE ro V e x fZ e2 fG;rw[<-UV] at fG;exact this E h dep R lp w0 I0 F0 O0 Hd fE ro V e x fZ e2 fG
theorem uQ (h:H8 cx dd M fuel c) (s:Nn cx dd M fuel c):H8 cx dd M fuel (.scope c):=by
 have plain:∀ (r:AU),Dn cx M fuel r c->Dn cx M fuel (.scope r) (.scope c):=by
  intro r h E hd dep R lp w0 I0 F0 O0 Hd fE ro V e x fZ e2 fG gk jr a w I F L Q hs hf hQ;simp only[At] at fG
  have key:At M fuel r hd dep V e=some (x,fZ,e2)/\J1 x:=by
   split at fG;{rename_i id s3 e3 hq;split at fG;{rename_i hid;cases fG;exact⟨hq,hid⟩};·cases fG}
   ·rename_i gj;refine⟨fG,?_⟩;cases x with
    | exit id=>exact (gj _ _ _ fG).elim
    | _=>trivial
  exact UE key.2 (h E hd dep R lp w0 I0 F0 O0 Hd fE ro V e x fZ e2 key.1 gk jr a w I F L _ hs hf fun a' w' I' F' L' im gQ=>⟨rfl,hQ a' w' I' F' L' im gQ⟩)
 show Dn cx M fuel (Ns c (Bk cx.P cx.G dd c)) (.scope c);unfold Ns;split;{exact plain _ h};rename_i l hl;split
 case h_2=>exact plain _ h
 rename_i y z gR;obtain⟨q1,rest,q2,q3⟩:=s l y z gR;intro E hd dep R lp w0 I0 F0 O0 Hd fE ro V e x fZ e2 fG gk jr a w I F L Q hs hf hQ;cases hy:At M fuel y hd dep V e with
 | none=>simp[At,hy] at fG
 | some p =>
  obtain⟨xy,sy,ey⟩:=p;by_cases hj:xy=.exit (BK+l)
  ·subst hj
   have hz:At M fuel z hd dep sy ey=some (x,fZ,e2)/\J1 x:=by
    simp only[At,hy,eF] at fG;split at fG;{rename_i id s3 e3 hq;split at fG;{rename_i hid;cases fG;exact⟨hq,hid⟩};·cases fG}
    ·rename_i gj;refine⟨fG,?_⟩;cases x with
     | exit id=>exact (gj _ _ _ fG).elim
     | _=>trivial
   have hyz:At M fuel (.seq y z) hd dep V e=some (.exit (BK+l),sy,ey):=by simp[At,hy]
   refine YP q2 hz.2 (q1 E hd dep R lp w0 I0 F0 O0 Hd fE ro V e _ _ _ hyz gk jr a w I F L _ hs hf fun a' w' I' F' L' im gQ=>⟨?_,?_⟩)
   ·have:¬ BK+l < BK:=by omega
    simp[Ch,this]
   {exact q3 E hd dep R lp w0 I0 F0 O0 Hd fE ro sy ey x fZ e2 hz.1 gk jr a' w' I' F' L' _ im gQ fun a2 w2 I2 F2 L2 jV kB=>⟨rfl,hQ a2 w2 I2 F2 L2 jV kB⟩}
  ·refine plain _ q1 E hd dep R lp w0 I0 F0 O0 Hd fE ro V e x fZ e2 ?_ gk jr a w I F L Q hs hf hQ;rw[<-fG];simp only[At,hy];cases xy with
   | normal=>rfl
   | ret=>rfl
   | exit id =>
    have:id≠BK+l:=fun h=>hj (by rw[h]);simp[this]
theorem W9 (h:Dn cx M fuel r c):Dn cx M fuel (.seq r (.norm g)) c:=by
 intro E hh dep R lp w0 I0 F0 O0 Hd fE ro V e x fZ e2 fG gk jr a w I F L Q hs hf hQ;simp only[At] at fG;cases hq:At M fuel r hh dep V e with
 | none=>rw[hq] at fG;cases fG
 | some p =>
  obtain⟨y,s,e3⟩:=p;rw[hq] at fG;refine h E hh dep R lp w0 I0 F0 O0 Hd fE ro V e y s e3 hq gk jr a w I F L Q hs hf fun a' w' I' F' L' im gQ=>?_;cases y with
  | normal =>
   cases fG;obtain⟨L1,jU,jb⟩:=Tk im gQ;obtain⟨L2,jV,kB⟩:=Nc [] g jU jb;exact hQ a' w' I' F' L2 jV kB
  | exit id=>cases fG;exact hQ a' w' I' F' L' im gQ
  | ret=>cases fG;exact hQ a' w' I' F' L' im gQ
theorem uR {l:Option fc} (h:Dn cx M fuel r c):Dn cx M fuel (.seq r (.region [] none l)) c:=by
 intro E hh dep R lp w0 I0 F0 O0 Hd fE ro V e x fZ e2 fG gk jr a w I F L Q hs hf hQ;simp only[At] at fG;cases hq:At M fuel r hh dep V e with
 | none=>rw[hq] at fG;cases fG
 | some p =>
  obtain⟨y,s,e3⟩:=p;rw[hq] at fG;refine h E hh dep R lp w0 I0 F0 O0 Hd fE ro V e y s e3 hq gk jr a w I F L Q hs hf fun a' w' I' F' L' im gQ=>?_;cases y with
  | normal =>
   cases fG;obtain⟨L1,jU,jb⟩:=Po l im gQ;exact hQ a' w' I' F' L1 jU jb
  | exit id=>cases fG;exact hQ a' w' I' F' L' im gQ
  | ret=>cases fG;exact hQ a' w' I' F' L' im gQ
theorem uS {b:AU} (p:Bool) (gp:fc) (grow:List (Nat×Nat)) (ih:Dn cx M fuel b c):Dn cx M fuel (Q8 p gp grow b) (.loop c):=by
 intro E h dep R lp w0 I0 F0 O0 Hd fE ro V e x fZ e2 fG gk jr a w I F L Q hs hf hQ
 let K (ds:fc) (m:Nat) (a:Act) (w:eS):Prop:=∃ V e I F L,SR lp I L V a.tmps.toList fE w/\Fr cx w0 I0 F0 O0 Hd R e a.defers I F L w/\CW (fun (s:St×E)=>match At M fuel b h dep s.1 s.2 with
  | some (.normal,V,e)=>some (.inl (norm gp grow (drop ds V),e))
  | some (x,V,e)=>some (.inr (x,V,e))
  | none=>none) m (V,e)=some (x,fZ,e2)
 have hzero:∀ ds a w,¬ K ds 0 a w:=by rintro ds a w ⟨V,e,I,F,L,hs,hf,fX⟩;simp[CW] at fX
 have nr:∀ ds m a w,K ds (m+1) a w->c.wpIn (CF ro) 0 cx.P (Exit.then (K ds m) Q) a w:=by
  rintro ds m a w ⟨V,e,I,F,L,hs,hf,fX⟩;simp only[CW] at fX;cases hb:At M fuel b h dep V e with
  | none=>rw[hb] at fX;simp at fX
  | some r =>
   obtain⟨xb,stb,eb⟩:=r;rw[hb] at fX;refine ih E h dep R lp w0 I0 F0 O0 Hd fE ro V e xb stb eb hb gk jr a w I F L _ hs hf fun a' w' I' F' L' im gQ=>?_;cases xb with
   | normal =>
    simp only at fX;obtain⟨L2,jV,kB⟩:=YF ds im gQ;obtain⟨L3,uo,uq⟩:=Nc gp grow jV kB;exact⟨_,eb,I',F',L3,uo,uq,fX⟩
   | exit id =>
    simp only[bC,b8] at fX;obtain⟨rfl,rfl,rfl⟩:=fX;have:=hQ a' w' I' F' L' im gQ;simp only[Ch] at this |-;split<;>rename_i hid;{simp only[hid,eF] at this;exact this};{simp only[hid,eE] at this;exact this}
   | ret =>
    simp only[bC,b8] at fX;obtain⟨rfl,rfl,rfl⟩:=fX;exact hQ a' w' I' F' L' im gQ
 have hloop:∀ {V:St} {e:E},At M fuel (.loop gp grow b) h dep V e=some (x,fZ,e2)->∃ ds,∀ a w I F L,SR lp I L V a.tmps.toList fE w->Fr cx w0 I0 F0 O0 Hd R e a.defers I F L w->K ds fuel a w:=by
  intro V e fG;simp only[At] at fG;split at fG
  case h_2=>cases fG
  rename_i x' jd e3 hr;cases fG;refine⟨gi (norm gp grow V),fun a w I F L hs hf=>?_⟩;obtain⟨L1,jU,jb⟩:=Nc gp grow hs hf;exact⟨_,_,I,F,L1,jU,jb,hr⟩
 cases p with
 | false =>
  obtain⟨ds,hk⟩:=hloop fG;refine UF (K ds) (fun m a w hm=>?_) (hk a w I F L hs hf);cases m with
  | zero=>exact (hzero ds a w hm).elim
  | succ m=>exact⟨m,rfl,nr ds m a w hm⟩
 | true =>
  simp only[Q8,eF,At] at fG;cases hb:At M fuel b h dep V e with
  | none=>rw[hb] at fG;cases fG
  | some r =>
   obtain⟨xb,stb,eb⟩:=r;rw[hb] at fG
   have key:∀ (ds:fc),(∀ a' w' I' F' L',SR lp I' L' stb a'.tmps.toList fE w'->Fr cx w0 I0 F0 O0 Hd R eb a'.defers I' F' L' w'->(Exit.then (K ds fuel) Q) (Ch xb) a' w')->(Code.loop c).wpIn (CF ro) 0 cx.P Q a w:=by
    intro ds hq;refine UF (fun m a' w'=>(m=fuel+1/\a'=a/\w'=w)\/(m<=fuel/\K ds m a' w')) (fun m a' w' hm=>?_) (.inl ⟨rfl,rfl,rfl⟩);rcases hm with ⟨rfl,rfl,rfl⟩ | ⟨hle,hm⟩
    {refine⟨fuel,rfl,ih E h dep R lp w0 I0 F0 O0 Hd fE ro V e xb stb eb hb gk jr a' w' I F L _ hs hf fun a2 w2 I2 F2 L2 jV kB=>?_⟩;have:=hq a2 w2 I2 F2 L2 jV kB;revert this;cases Ch xb<;>intro this<;>first | exact this | exact .inr ⟨bD _,this⟩}
    ·cases m with
     | zero=>exact (hzero ds a' w' hm).elim
     | succ m =>
      refine⟨m,rfl,wpIn_mono (nr ds m a' w' hm) fun e2 a2 w2 O=>?_⟩;revert O;cases e2<;>intro O<;>first | exact O | exact .inr ⟨by omega,O⟩
   cases xb with
   | normal =>
    obtain⟨ds,hk⟩:=hloop fG;exact key ds hk
   | exit id =>
    cases fG;refine key [] fun a' w' I' F' L' im gQ=>?_;have:=hQ a' w' I' F' L' im gQ;simp only[Ch] at this |-;split<;>rename_i hid;{simp only[hid,eF] at this;exact this};{simp only[hid,eE] at this;exact this}
   | ret =>
    cases fG;exact key [] fun a' w' I' F' L' im gQ=>hQ a' w' I' F' L' im gQ
theorem uT {g:Option (List (Nat×Nat))} (h:Dn cx M fuel r c):Dn cx M fuel (LL g r) c:=by
 cases g with
 | none=>exact h
 | some g=>exact W9 h
theorem uU (hM:Dq cx M.call) (gR:Fv cx M) (jk:Em M):∀ c:Code,H8 cx dd M fuel c/\Nn cx dd M fuel c:=by
 intro c;induction c with
 | skip =>
  refine⟨?_,fun l0 y z jm=>by simp[Dp] at jm⟩;intro E h dep R lp w0 I0 F0 O0 Hd fE ro V e x fZ e2 fG gk jr a w I F L Q hs hf hQ;simp only[Bk,At,bC,b8] at fG;obtain⟨rfl,rfl,rfl⟩:=fG;exact wpIn_skip (hQ a w I F L hs hf)
 | region id ops draw =>
  refine⟨?_,fun l0 y z jm=>by simp[Dp] at jm⟩;refine uT (g:=(dd id).grow) ?_;intro E h dep R lp w0 I0 F0 O0 Hd fE ro V e x fZ e2 fG gk jr a w I F L Q hs hf hQ;cases draw with
  | false =>
   simp only[bL,eE,PO] at fG;split at fG;{simp[At] at fG};simp only[At] at fG;split at fG;{rename_i jd e3 hr;cases fG;exact Y6 hM gR gk hr hs hf fun a' w' I' F' L' im gQ=>let ⟨L2,U,O⟩:=Po (dd id).lv im gQ;hQ a' w' I' F' L2 U O};{cases fG}
  | true =>
   simp only[eF] at fG;split at fG;{rename_i l hb;simp only[At] at fG;split at fG;{rename_i jd e3 hr;cases fG;exact Zy hM gR jk gk hb hr hs hf fun a' w' I' F' L' im gQ=>let ⟨L2,U,O⟩:=Po (dd id).lv im gQ;hQ a' w' I' F' L2 U O};{cases fG}};{simp[At] at fG}
 | seq c1 c2 sM uP=>exact⟨Pq sM.1 uP.1,qE sM.1 sM.2 uP.1 uP.2⟩
 | cond c c1 c2 sM uP =>
  refine⟨?_,fun l0 y z jm=>by simp[Dp] at jm⟩;intro E h dep R lp w0 I0 F0 O0 Hd fE ro V e x fZ e2 fG gk jr a w I F L Q hs hf hQ;simp only[Bk] at fG;split at fG;{rename_i rc hrc;simp only[At] at fG;have hc:=A9 hs hf.wd hrc;split at fG;{rename_i hb;rw[hb] at hc;exact wpIn_cond_true (Er hc) (sM.1 E h dep R lp w0 I0 F0 O0 Hd fE ro V e x fZ e2 fG gk jr a w I F L Q hs hf hQ)};{rename_i hb;rw[hb] at hc;exact wpIn_cond_false (Er hc) (uP.1 E h dep R lp w0 I0 F0 O0 Hd fE ro V e x fZ e2 fG gk jr a w I F L Q hs hf hQ)};{cases fG}};{simp[At] at fG}
 | block id c ih =>
  refine⟨?_,fun l0 y z jm=>by simp[Dp] at jm⟩;intro E h dep R lp w0 I0 F0 O0 Hd fE ro V e x fZ e2 fG gk jr a w I F L Q hs hf hQ;simp only[Bk] at fG;split at fG
  case isFalse=>simp[At] at fG
  rename_i hidb;simp only[At] at fG;refine wpIn_block ?_;split at fG;{rename_i jH jd e3 U;refine ih.1 E h dep R lp w0 I0 F0 O0 Hd fE ro V e (.exit jH) jd e3 U gk jr a w I F L _ hs hf fun a' w' I' F' L' im gQ=>?_;by_cases hid:jH=id;{rw[eH hid] at fG;cases fG;subst hid;simp only[Ch,hidb,Exit.inBlock,eF];exact hQ a' w' I' F' L' im gQ};{rw[eG hid] at fG;cases fG;have:=hQ a' w' I' F' L' im gQ;simp only[Ch] at this |-;split<;>rename_i uV;{simp only[uV,eF] at this;simp only[Exit.inBlock,hid,eE];exact this};{simp only[uV,eE] at this;exact this}}}
  ·rename_i gj;refine ih.1 E h dep R lp w0 I0 F0 O0 Hd fE ro V e x fZ e2 fG gk jr a w I F L _ hs hf fun a' w' I' F' L' im gQ=>?_;have:=hQ a' w' I' F' L' im gQ;cases x with
   | normal=>exact this
   | exit id=>exact (gj _ _ _ fG).elim
   | ret=>exact this
 | loop c ih =>
  refine⟨?_,fun l0 y z jm=>by simp[Dp] at jm⟩;exact uS _ _ _ ih.1
 | rangeFunc f ps assign body lE lF =>
  refine⟨?_,fun l0 y z jm=>by simp[Dp] at jm⟩;intro E h dep R lp w0 I0 F0 O0 Hd fE ro V e x fZ e2 fG gk jr a w I F L Q hs hf hQ;simp only[Bk] at fG;split at fG;{rename_i rf qB;unfold TL at fG;split at fG;{exact Xk hM gR gk jr lE.1 lF.1 qB fG hs hf hQ};{simp only[At] at fG;obtain⟨L0,lZ,hf0⟩:=Tk hs hf;obtain⟨L1,jU,jb⟩:=Nc [] (Kl (GW (Bk cx.P cx.G dd body))) lZ hf0;exact Xk hM gR gk jr lE.1 (W9 (uR lF.1)) qB fG jU jb hQ}};{simp[At] at fG}
 | exit id =>
  refine⟨?_,fun l0 y z jm=>by simp[Dp] at jm⟩;intro E h dep R lp w0 I0 F0 O0 Hd fE ro V e x fZ e2 fG gk jr a w I F L Q hs hf hQ;simp only[Bk] at fG;split at fG
  case isFalse=>simp[At] at fG
  rename_i hid;simp only[At,bC,b8] at fG;obtain⟨rfl,rfl,rfl⟩:=fG;have:=hQ a w I F L hs hf;simp only[Ch,hid,eF] at this;exact wpIn_exit this
 | scope c ih=>exact⟨uQ ih.1 ih.2,fun l y z h=>by simp[Dp] at h⟩
 | label l =>
  refine⟨?_,?_⟩
  rotate_left
  intro l0 y z jm;simp only[Dp] at jm;split at jm
  case isFalse=>cases jm
  rename_i hl;cases jm;have hk:Dn cx M fuel .skip .skip:=by intro E h dep R lp w0 I0 F0 O0 Hd fE ro V e x fZ e2 fG gk jr a w I F L Q hs hf hQ;simp only[At,bC,b8] at fG;obtain⟨rfl,rfl,rfl⟩:=fG;exact wpIn_skip (hQ a w I F L hs hf)
  refine⟨?_,.skip,by simp[findLabel,hl],hk⟩;intro E h dep R lp w0 I0 F0 O0 Hd fE ro V e x fZ e2 fG gk jr a w I F L Q hs hf hQ;simp only[At,bC,b8] at fG;obtain⟨rfl,rfl,rfl⟩:=fG;exact wpIn_label (hQ a w I F L hs hf);intro E h dep R lp w0 I0 F0 O0 Hd fE ro V e x fZ e2 fG gk jr a w I F L Q hs hf hQ;simp only[Bk,At,bC,b8] at fG;obtain⟨rfl,rfl,rfl⟩:=fG;exact wpIn_label (hQ a w I F L hs hf)
 | goto l =>
  refine⟨?_,fun l0 y z jm=>by simp[Dp] at jm⟩;intro E h dep R lp w0 I0 F0 O0 Hd fE ro V e x fZ e2 fG gk jr a w I F L Q hs hf hQ;simp only[Bk,At,bC,b8] at fG;obtain⟨rfl,rfl,rfl⟩:=fG;have hn:¬ BK+l < BK:=by omega
  have:=hQ a w I F L hs hf;simp only[Ch,hn,eE,dy] at this;exact wpIn_goto this
 | ret =>
  refine⟨?_,fun l0 y z jm=>by simp[Dp] at jm⟩;intro E h dep R lp w0 I0 F0 O0 Hd fE ro V e x fZ e2 fG gk jr a w I F L Q hs hf hQ;simp only[Bk,At,bC,b8] at fG;obtain⟨rfl,rfl,rfl⟩:=fG;exact wpIn_ret (hQ a w I F L hs hf)
 | refuse r =>
  refine⟨?_,fun l0 y z jm=>by simp[Dp] at jm⟩;intro E h dep R lp w0 I0 F0 O0 Hd fE ro V e x fZ e2 fG;simp[Bk,At] at fG
theorem PC (hM:Dq cx M.call) (gR:Fv cx M) (jk:Em M):∀ c:Code,H8 cx dd M fuel c:=fun c=>(uU hM gR jk c).1
end
end Go.Ab


namespace Go.Ab
variable{M:AC} {P:eX} {Rr:Ending->eS->Prop} {dd:eU->C4} {fn:Func} {g:eU} {obs:fg} {p:Option (Nat×Nat)} {rf:Ad} {fK:eU->fk} {tmps:Array eT} {u:eT} {us:List eT} {A:fa}
section
variable {E:Type} {cx:Cx} {w0:eS} {I0 F0:Nat->Prop} {O0:Bu} {Hd:Nat->Option Obj} {R:Bl E} {e:E} {F:Nat->Prop} {lp:Nat->fb} {fE gf:List eT}
variable {I:Nat->Prop} {L:Am} {V:St} {w:eS} {ds:List eZ}
theorem TK (hs:SR lp I L V gf fE w):∀ (rv:List ResultVar) (rs:List E5) (A:fa),Lb P rv=some rs->CK V rs=some A ->
  ∃ us,(rv.mapM fun (r:ResultVar)=>(match r with
   | .tmp t=>pure (gf.toArray.getD t undef)
   | .cell a t=>do loadVar t (<-asAddr (gf.toArray.getD a undef)):Sem eT)).run P w=.ok us w/\Ae w I lp (some L) A us:=by
 intro rv;induction rv with
 | nil =>
  intro rs A U O;simp only[Lb,bC] at U;subst U;simp only[CK,bC] at O;subst O;exact⟨[],rfl,.nil⟩
 | cons r rv ih =>
  intro rs A U O;simp only[Lb] at U;split at U
  case h_2=>cases U
  rename_i x Z H iA;cases U;simp only[CK] at O;split at O
  case h_2=>cases O
  rename_i v sW hv kM;cases O;obtain⟨us,q1,q2⟩:=ih Z sW iA kM
  have key:∃ u,(match r with
   | .tmp t=>pure (gf.toArray.getD t undef)
   | .cell a t=>do loadVar t (<-asAddr (gf.toArray.getD a undef)):Sem eT).run P w=.ok u w/\Aj w I lp (some L) v u:=by
   cases r with
   | tmp t =>
    simp only[bC] at H;subst H;simp only[G7,bC] at hv;subst hv;refine⟨gf.toArray.getD t undef,rfl,?_⟩;rw[Th];exact hs.tm.getD t undef
   | cell a t =>
    simp only[bB] at H;obtain⟨⟨n,ag⟩,iR,rfl⟩:=H;simp only[G7] at hv;split at hv
    case h_2=>cases hv
    rename_i J o hr;split at hv
    case h_2=>cases hv
    rename_i cs gK;have fX:=hs.tm.getD a undef;rw[hr] at fX;obtain⟨b,C,hL,hbv⟩:=EK fX;obtain⟨p,hp,ha⟩:=hs.ob J _ gK;rw[hL] at hp;cases hp;obtain⟨c,E',hb,hC,gL,hrl⟩:=ha;obtain⟨u,hu,hru⟩:=M8 hrl gL.1 hv;refine⟨u,?_,hru⟩
    have lP:=Od (P:=P) iR (off:=o) hb (v:=u) (by
     cases ag;·simpa using hu
     ·simp only[eF] at hu |-;refine⟨by simpa using hu.1,?_⟩;rw[hu.2,Mo,dy])
    show (do loadVar t (<-asAddr (gf.toArray.getD a undef)):Sem eT).run P w=_;rw[Th];have hbv':gf.toArray.toList.getD a undef=.pointer (some ⟨b,o,none⟩):=hbv;rw[hbv'];simpa[Instr.loadAt,Instr.sureAddr,asAddr] using lP
  obtain⟨u,k1,k2⟩:=key;refine⟨u :: us,?_,.cons _ _ _ _ k2 q2⟩;rw[cH,Sem.run_bind,k1,Result.andThen_ok,Sem.run_bind,q1,Result.andThen_ok];rfl
theorem Yf (h:Ae w I lp (some L) A us):Aj w I lp (some L) (DW A) (if h:us.toArray.size=1 then us.toArray[0] else .tuple us.toArray):=by
 match A,us,h with
 | [],[],.nil=>exact .fM [] #[] .nil
 | [v],[u],.cons _ _ _ _ h .nil=>exact h
 | v :: v' :: A,u :: u' :: us,h =>
  have:¬ (u :: u' :: us).toArray.size=1:=by simp
  rw[dif_neg this];exact .fM _ _ (by simpa using h)
theorem aB:∀ {S:fh},Cy S=true->∀ (i j:Nat) (J:Nm),S[i]?=some J->S[j]?=some J->i=j:=by
 intro S;induction S with
 | nil=>intro _ i j J h;simp at h
 | cons x S ih =>
  intro h i j J hi hj;simp only[Cy,bz,cK] at h;obtain⟨U,O⟩:=h;have H:x ∉ S:=by simpa using U
  cases i with
  | zero =>
   cases j with
   | zero=>rfl
   | succ j=>simp at hi hj;subst hi;exact eQ (bJ hj) H
  | succ i =>
   cases j with
   | zero=>simp at hi hj;subst hj;exact eQ (bJ hi) H
   | succ j=>simp at hi hj;rw[ih O i j J hi hj]
theorem aT {ob:Ob} (h:Ii ob=true):Ii ob.bare=true:=by cases ob<;>first | exact h | rfl
theorem A5.bare {w:eS} {I:Nat->Prop} {lp:Nat->fb} {L:Am} {ob:Ob} (h:A5 w I lp L ob p):A5 w I lp L ob.bare p:=by
 cases p with
 | none=>obtain⟨k,kt,rfl⟩:=h;exact⟨k,0,rfl⟩
 | some p =>
  cases ob with
  | arr k kt Z=>obtain⟨c,E,U,O,h3,h4⟩:=h;exact⟨c,E,U,O,⟨h3.1,.inl rfl⟩,h4⟩
  | cells ty cs=>exact h
  | map es=>exact h
  | fW s p=>exact h
theorem hand_ok {shut:Bool} (hs:SR lp I L V gf fE w) (hf:Fr cx w0 I0 F0 ⟨fun _=>False,[]⟩ Hd R e ds I F L w) {v v':PV} (hv:Aj w I lp (some L) v u) (h:HQ shut V v=some (v',obs)) :
  ∃ I' ps,Lh cx R lp I0 F0 w0 v' obs e u w I' F ps:=by
 simp only[HQ] at h;generalize hS:(if (Cy (GR shut v)&&(GR shut v).all fun J=>!(AA (Aa V.fA) Ax (v.names.filter fun J=>!(GR shut v).contains J)).contains J)=true then GR shut v else [])=S at h;generalize mg:AA (Aa V.fA) Ax (v.names.filter fun J=>!S.contains J)=Rn at h;split at h
 case h_2=>cases h
 rename_i o5 hm;obtain⟨hk,h⟩:=AK h;cases h;simp only[bz] at hk;obtain⟨hR,iC⟩:=hk;obtain⟨m1,m2⟩:=Sy S o5 hm;have hSnd:Cy S=true/\∀ J∈S,J ∉ Rn:=by by_cases hc:(Cy (GR shut v)&&(GR shut v).all fun J=>!(AA (Aa V.fA) Ax (v.names.filter fun J=>!(GR shut v).contains J)).contains J)=true;{rw[eH hc] at hS;subst hS;rw[bz] at hc;refine⟨hc.1,fun J hn=>?_⟩;have:=bI.1 hc.2 J hn;rw[mg] at this;simpa using this};{rw[eG hc] at hS;subst hS;exact⟨rfl,fun J hn=>by cases hn⟩}
 obtain⟨jB,uW⟩:=hSnd;have jk:∀ (j:Nat) (J:Nm),S[j]?=some J->∃ p ob,L J=some p/\o5[j]?=some ob/\A5 w I lp L ob p:=by intro j J hj;obtain⟨ob,U,O⟩:=m2 j J hj;obtain⟨p,hp,ha⟩:=hs.ob J ob O;exact⟨p,ob,hp,U,ha⟩
 refine⟨Cs I L Rn,S.map (fun J=>(L J).getD none),?_⟩;have nS:=hf.freeze Rn;have sK:∀ (j:Nat) (p:Option (Nat×Nat)),(S.map fun J=>(L J).getD none)[j]?=some p->∃ J,S[j]?=some J/\L J=some p:=by intro j p hj;rw[bK,bB] at hj;obtain⟨J,U,O⟩:=hj;obtain⟨q,ob,hq,_,_⟩:=jk j J U;rw[hq] at O;simp only[b7] at O;subst O;exact⟨J,U,hq⟩
 refine⟨nS.ext,nS.sep,nS.wd,nS.re,by rw[cf,cf,m1],?_,?_,?_,?_,by rw[List.all_map];exact bI.2 fun ob ho=>aT (bI.1 iC ob ho)⟩;{intro j ob p hj hp;obtain⟨J,U,O⟩:=sK j p hp;obtain⟨q,ky,hq,ho,ha⟩:=jk j J U;rw[O] at hq;cases hq;rw[bK,ho] at hj;cases hj;have hj:=ho;refine A5.bare ?_;exact (ha.mono (I':=Cs I L Rn) (fun _ h=>.inl h) (fun _ _=>rfl) (fun _ _ h=>h) fun _ _ _=>rfl).ofArr (bI.1 iC _ (bJ hj))};{intro j b C hj;obtain⟨J,U,O⟩:=sK j _ hj;obtain⟨g1,g2,g3,g4⟩:=hf.lB J b C O;refine⟨g1.elim id fun h=>h.elim,g2,?_,g4⟩;rintro (hb | ⟨gP,ly,C',nX⟩);{exact g3 hb};{have:=hf.inj J gP b C C' O nX;subst this;exact uW J (bJ U) ly}};{intro j j' b C C' U O;obtain⟨J,a1,a2⟩:=sK j _ U;obtain⟨gP,b1,b2⟩:=sK j' _ O;have:=hf.inj J gP b C C' a2 b2;subst this;exact aB jB j j' J a1 b1}
 ·have jM:Dg w (Cs I L Rn) lp L (some fun J=>if J∈S then L J else none) (fun J=>J∈S\/J∈Rn) (fun J=>if S.contains J then none else A3 (Aa V.fA) J):=by
   intro J p hn hp;by_cases hm:J∈S
   ·have:S.contains J=true:=by simpa using hm
    simp only[this,eF];exact⟨_,rfl,by simp[hm,hp]⟩
   ·have:S.contains J=false:=by simpa using hm
    simp only[this,bL,eE];have:=MO hs hR (none) J p (hn.resolve_left hm) hp;cases iG:A3 (Aa V.fA) J with
    | none=>simp[A3] at iG
    | some q =>
     rw[iG] at this;cases q with
     | none=>trivial
     | some ob=>exact this
  have U:=Aj.subst (I':=Cs I L Rn) (fun b hb=>.inl hb) jM hv (fun J hn=>by
   by_cases hm:J∈S
   ·exact .inl hm
   ·refine .inr ?_;rw[<-mg];exact C9 _ _ _ (cE.2 ⟨hn,by simpa using hm⟩))
  refine Aj.rename (fun J p hp=>?_) U;split at hp
  ·rename_i hm;have oZ:=eD hm;have hT:S[S.idxOf J]?=some J:=by rw[bQ oZ];simp
   simp[H9,NW,BO,hT,hp]
  {cases hp}
theorem Wv:∀ {ds:List eZ} {w:eS} {lo:Nat} {I F:Nat->Prop} {L:Am},BS lo I F L w ds []->(∀ w':eS,w'.os=w.os->w'.tape=w.tape->w'.output=w.output->w'.heap.size=w.heap.size ->
   (∀ b,(b < lo\/I b\/F b\/∃ J C,L J=some (some (b,C)))->w'.heap[b]?=w.heap[b]?)->∃ v,(results fn tmps).run P w'=.ok v w'/\Rr (.returned v) w') ->
  LeavesInM Fence.wide 0 P fn tmps Rr ds .returning w:=by
 intro ds;induction ds with
 | nil =>
  intro w lo I F L _ h;obtain⟨v,U,O⟩:=h w rfl rfl rfl rfl fun _ _=>rfl;exact⟨v,U,O⟩
 | cons d ds ih =>
  intro w lo I F L hm h;cases hm with
  | cons D _ _ U O h3 h4 h5 h6 h7 hr =>
   refine⟨by simp,.inl ⟨D,_,rfl,run_takeDeferred h6,?_⟩⟩;have hk:∀ b,b≠D->(w.putObj D (.deferred none)).heap[b]?=w.heap[b]?:=fun b hb=>World.putObj_heap_other hb;have iQ:(w.putObj D (.deferred none)).heap.size=w.heap.size:=World.putObj_size
   have qD:BS lo I F L (w.putObj D (.deferred none)) ds []:=by
    have key:∀ ds rs,BS lo I F L w ds rs->(∀ d∈ds,d.target≠.collected D)->BS lo I F L (w.putObj D (.deferred none)) ds rs:=by
     intro ds rs hm;induction hm with
     | call d' ds rs hd _ ih=>intro gj;exact .call d' ds rs hd (ih fun d hd=>gj d (bM _ hd))
     | nil=>intro _;exact .nil
     | cons D' ds rs g1 g2 g3 g4 g5 g6 g7 _ ih =>
      intro gj;have hDD:D'≠D:=fun e=>gj {target:=.collected D',args:=#[]} bN (by rw[e]);exact .cons D' ds rs g1 (by rw[iQ];exact g2) g3 g4 g5 ((hk D' hDD).trans g6) g7 (ih fun d hd=>gj d (bM _ hd))
    exact key ds _ hr h7
   refine ih qD fun w' e1 e2 e3 e4 e5=>h w' e1 e2 e3 (by rw[e4,iQ]) fun b hb=>?_;have gj:b≠D:=by rintro rfl;rcases hb with hb | hb | hb | ⟨J,C,hb⟩;{omega};{exact h3 hb};{exact h4 hb};{exact h5 J C hb}
   exact (e5 b hb).trans (hk b gj)
end
def Ju (cx:Cx) (fK:eU->fk) (dd:eU->C4):Prop:=∀ f fn,fK f=some fn->Js cx.P cx.G (dd f) f=some {fn with io:=false,shut:=false,gT:=false,gone:=[],gv:=false}
theorem TG {cx:Cx} (jD:Ju cx fK dd) (qB:fK g=some rf):∃ fn c,cx.P.funcs[g]?=some fn/\fn.body=some c/\Lb cx.P fn.results.toList=some rf.res/\¬ (fn.name == "runtime.NumGoroutine")=true/\rf.nt=fn.ntmps/\rf.code=Bk cx.P cx.G (dd g) c:=by
 have hcf:=jD g rf qB;unfold Js at hcf;split at hcf
 case h_2=>cases hcf
 rename_i fn kV;split at hcf
 case h_2=>cases hcf
 rename_i c rs iI o7;split at hcf
 case isTrue=>cases hcf
 rename_i iq;obtain⟨nt,code,res,io⟩:=rf;simp only[bC,Ad.mk.injEq,and_true] at hcf;obtain⟨rfl,rfl,rfl⟩:=hcf;exact⟨fn,c,kV,iI,o7,iq,rfl,rfl⟩
theorem qF {cx:Cx} (hM:Dq cx M.call) (gR:Fv cx M) (jk:Em M) (jD:Ju cx fK dd) (n:Nat):Dq cx (GZ M n fK):=by
  intro E h R dep lp Ir mh wr g args e r obs e' hc hand hdep;simp only[GZ] at hc;split at hc;·cases hc
  rename_i rf qB;obtain⟨fn,c,kV,iI,o7,iq,lD,nd⟩:=TG jD qB;rw[lD,nd] at hc;split at hc
  case h_2=>cases hc
  rename_i x fZ e2 fG;refine⟨⟨fn,kV,by simpa using iq,by rw[iI];rfl⟩,fun I F w A H oY hwd na fX=>?_⟩;have jl:x≠.normal->x=.ret\/∃ id,x=.exit id:=by cases x<;>simp
  have lX:∀ id,x≠.exit id:=by rintro id rfl;simp at hc
  have oR:(match CK fZ rf.res with
     | some A=>match HQ rf.shut fZ (DW A) with
      | some (v,obs)=>some (v,obs,e2)
      | none=>none
     | none=>none)=some (r,obs,e'):=by
   cases x with
   | normal=>exact hc
   | ret=>exact hc
   | exit id=>exact eQ rfl (lX id)
  split at oR
  case h_2=>cases oR
  rename_i rvs hrvs;split at oR
  case h_2=>cases oR
  rename_i v' o5 hho;cases oR;refine callsIn_of_wp_marks kV iI trivial ?_;have hlen:=fX.length
  have kN:SR lp I (fun _=>none) {tmps:=args++List.replicate (fn.ntmps - args.length) .undef,fA:=List.replicate fn.ntmps [],fD:=[]} (A.toArray++Array.replicate (fn.ntmps - A.toArray.size) undef).toList [] w:=by
   refine⟨?_,.nil,fun J ob hl=>?_,fun J _=>rfl⟩;{have O:Ae w I lp (some fun _=>none) (List.replicate (fn.ntmps - args.length) PV.undef) (List.replicate (fn.ntmps - args.length) undef):=Ae.gi _ _ (by simp);have:=(fX.lift (some fun _=>none)).append O;simpa[hlen] using this}
   ·exfalso
    have hnone:Aa (List.replicate fn.ntmps []) J=none:=by
     unfold Aa;cases hg:(List.replicate fn.ntmps ([]:fg))[J.1]? with
     | none=>rfl
     | some l =>
      have:=dQ (bJ hg);subst this;simp
    rw[hnone] at hl;cases hl
  have od:Fr cx w I F ⟨fun _=>False,[]⟩ (fun _=>none) R e [] I F (fun _=>none) w :=
   ⟨BA.refl _ _ _,oY,fun b hb=>hb.elim,fun J b C hn=>(by cases hn),fun J gP b C C' hn=>(by cases hn),hwd,na,.nil,fun b ob hb=>(by cases hb)⟩
  refine PC (dd:=dd g) (M:=M) hM gR jk c E h dep R lp w I F ⟨fun _=>False,[]⟩ (fun _=>none) [] none _ e x fZ e' fG ⟨⟨Ir,mh,wr,hand,H⟩,hdep⟩ (fun l0 he=>by cases he) {tmps:=_,defers:=[]} w I F _ _ kN od ?_;rintro a' w' I' F' L' im gQ
  have mo:LeavesInM Fence.wide 0 cx.P fn a'.tmps (X1 cx R lp I F w r obs e') a'.defers .returning w':=by
   refine Wv gQ.lO fun w2 e1 e3 e4 e5 e6=>?_;have pw:∀ b,I' b->w2.heap[b]?=w'.heap[b]?:=fun b hb=>e6 b (.inr (.inl hb));have hkF:∀ b,F' b->w2.heap[b]?=w'.heap[b]?:=fun b hb=>e6 b (.inr (.inr (.inl hb)));have jV:SR lp I' L' fZ a'.tmps.toList [] w2:=im.keeps (fun _ h=>h) pw fun J b C hn=>e6 b (.inr (.inr (.inr ⟨J,C,hn⟩)))
   have kB:Fr cx w I F ⟨fun _=>False,[]⟩ (fun _=>none) R e' [] I' F' L' w2:=by
    refine⟨⟨e1.trans gQ.ext.os,e3.trans gQ.ext.tape,e4.trans gQ.ext.output,by rw[e5];exact gQ.ext.size,fun b hb hF=>(e6 b (.inl hb)).trans (gQ.ext.fD b hb hF),gQ.ext.j9,gQ.ext.jJ,gQ.ext.jX⟩,
     ⟨fun b hb=>by rw[e5];exact gQ.sep.iB b hb,fun b hb=>⟨by rw[e5];exact (gQ.sep.fB b hb).1,(gQ.sep.fB b hb).2⟩⟩,fun b hb=>hb.elim,fun J b C hn=>?_,gQ.inj,?_,?_,.nil,fun b ob hb=>by cases hb⟩
    {obtain⟨q1,q2,q3,q4⟩:=gQ.lB J b C hn;exact⟨q1,by rw[e5];exact q2,q3,q4⟩};{exact cx.jK I' I' w' w2 gQ.wd (fun _ h=>h) pw (by rw[e5];exact bD _)};{exact R.jK e' I' I' F' w' w2 gQ.re (fun _ h=>h) (fun b hb=>hb.elim (pw b) (hkF b)) (by rw[e5];exact bD _)}
   obtain⟨us,q1,q2⟩:=TK jV (P:=cx.P) fn.results.toList rf.res rvs o7 hrvs;obtain⟨I3,ps,iM⟩:=hand_ok jV kB (Yf q2) hho;refine⟨_,?_,⟨I3,F',ps,iM⟩⟩;unfold results;rw[Sem.run_bind,ek,Sem.run_map];rw[cI] at q1;exact (eM (fun r:Result (List eT)=>(r.andThen fun a w'=>Result.ok a.toArray w').andThen fun a w'=>Sem.run cx.P (pure (if h:a.size=1 then a[0] else Value.tuple a)) w') q1).trans rfl
  cases x with
  | normal=>exact mo
  | ret=>exact mo
  | exit id=>exact eQ rfl (lX id)
theorem uX {cx:Cx} (hM:Dq cx M.call) (gR:Fv cx M) (jk:Em M) (jD:Ju cx fK dd) (n:Nat):tS cx (Ib M n fK):=by
 intro E h dep g ins A e fZ e2 hc;unfold Ib at hc;split at hc;·cases hc
 rename_i rf qB;obtain⟨fn,c,kV,iI,o7,iq,lD,nd⟩:=TG jD qB;obtain⟨hk,hc⟩:=AK hc;simp only[bz,eI,bZ] at hk;obtain⟨na,⟨hvl,hil⟩,qC⟩:=hk
 have H:∃ x,(∀ id,x≠.exit id)/\At M n rf.code h dep (D4 rf.gone rf.nt ins A) e=some (x,fZ,e2):=by
  split at hc;·cases hc
  {rename_i hq;cases hc;exact⟨.normal,by simp,hq⟩};{rename_i hq;cases hc;exact⟨.ret,by simp,hq⟩};·cases hc
 obtain⟨x,lX,fG⟩:=H;refine⟨⟨fn,kV,by simpa using iq,by rw[iI];rfl⟩,rf.gone,rf.nt,hvl,hil,qC,?_⟩;intro R lp w I F0 F zzc L us wv hand hdep hul lZ hf0;rw[nd] at fG;refine callsIn_of_wp_marks kV iI trivial ?_;have kN:SR lp I L (D4 rf.gone rf.nt ins A) (us.toArray++Array.replicate (fn.ntmps - us.toArray.size) undef).toList wv w:=by simpa[lD] using lZ
 refine PC (dd:=dd g) (M:=M) hM gR jk c E h dep R lp w I F0 ⟨zzc,[]⟩ (fun _=>none) wv none _ e x fZ e2 fG ⟨⟨I,F0,w,hand,BA.refl _ _ _⟩,hdep⟩ (fun l0 he=>by cases he) {tmps:=_,defers:=[]} w I F L _ kN hf0 ?_;rintro a' w' I' F' L' im gQ
 have mo:LeavesInM Fence.wide 0 cx.P fn a'.tmps (fun
   | .returned _,w'=>∃ gf I' F' L',SR lp I' L' fZ gf wv w'/\Fr cx w I F0 ⟨zzc,[]⟩ (fun _=>none) R e2 [] I' F' L' w'
   | _,_=>False) a'.defers .returning w':=by
  refine Wv gQ.lO fun w2 e1 e3 e4 e5 e6=>?_;have pw:∀ b,I' b->w2.heap[b]?=w'.heap[b]?:=fun b hb=>e6 b (.inr (.inl hb));have hkF:∀ b,F' b->w2.heap[b]?=w'.heap[b]?:=fun b hb=>e6 b (.inr (.inr (.inl hb)));have jV:SR lp I' L' fZ a'.tmps.toList wv w2:=im.keeps (fun _ h=>h) pw fun J b C hn=>e6 b (.inr (.inr (.inr ⟨J,C,hn⟩)))
  have kB:Fr cx w I F0 ⟨zzc,[]⟩ (fun _=>none) R e2 [] I' F' L' w2:=by
   refine⟨⟨e1.trans gQ.ext.os,e3.trans gQ.ext.tape,e4.trans gQ.ext.output,by rw[e5];exact gQ.ext.size,fun b hb hF=>(e6 b (.inl hb)).trans (gQ.ext.fD b hb hF),gQ.ext.j9,gQ.ext.jJ,gQ.ext.jX⟩,
    ⟨fun b hb=>by rw[e5];exact gQ.sep.iB b hb,fun b hb=>⟨by rw[e5];exact (gQ.sep.fB b hb).1,(gQ.sep.fB b hb).2⟩⟩,gQ.oF,fun J b C hn=>?_,gQ.inj,?_,?_,.nil,fun b ob hb=>by cases hb⟩
   {obtain⟨q1,q2,q3,q4⟩:=gQ.lB J b C hn;exact⟨q1,by rw[e5];exact q2,q3,q4⟩};{exact cx.jK I' I' w' w2 gQ.wd (fun _ h=>h) pw (by rw[e5];exact bD _)};{exact R.jK e2 I' I' F' w' w2 gQ.re (fun _ h=>h) (fun b hb=>hb.elim (pw b) (hkF b)) (by rw[e5];exact bD _)}
  obtain⟨kW,q1,q2⟩:=TK jV (P:=cx.P) fn.results.toList rf.res [] o7 (by rw[na];rfl);refine⟨if h:kW.toArray.size=1 then kW.toArray[0] else .tuple kW.toArray,?_,a'.tmps.toList,I',F',L',jV,kB⟩;unfold results;rw[Sem.run_bind,ek,Sem.run_map];rw[cI] at q1;exact (eM (fun r:Result (List eT)=>(r.andThen fun a w'=>Result.ok a.toArray w').andThen fun a w'=>Sem.run cx.P (pure (if h:a.size=1 then a[0] else Value.tuple a)) w') q1).trans rfl
 cases x with
 | normal=>exact mo
 | ret=>exact mo
 | exit id=>exact eQ rfl (lX id)
end Go.Ab


namespace Go.Ab
variable{E:Type} {D dep k n:Nat} {F:Fence} {G:DZ} {Hd:Nat->Option Obj} {L:Am} {O0:Bu} {P:eX} {R Rr:Ending->eS->Prop} {args:fu} {c:Code} {cs:List Frame} {ds:List eZ} {f:RX} {fn:Func} {g:Option (List (Nat×Nat))} {l:fc} {lp:Nat->fb} {r:AU} {fZ:St} {fE:List eT} {tmps:Array eT} {u:FrameMode} {w w0:eS} {x:Ex} {e:E} {h:AB E}
inductive GF (nt:Nat):fc->List eT->List eZ->Prop
 | nil:GF nt [] [] []
 | cons (k:Nat) (l:fc) (us pad:List eT) (rs:List eZ) (fn:Fn) (fst gg:Array eT) (args:List eT) (hk:args.length=k) (hn:1+k+pad.length=nt) (h:GF nt l us rs) :
   GF nt (k :: l) (.func fn fst gg :: (args++pad)++us) ({target:=.fn fn gg,args:=fst++args.toArray} :: rs)
theorem GF.append {nt:Nat} {l':fc} {us kW:List eT} {rs lK:List eZ} (h:GF nt l us rs) (h':GF nt l' kW lK):GF nt (l++l') (us++kW) (rs++lK):=by
 induction h with
 | nil=>exact h'
 | cons k l us pad rs fn fst gg args hk hn _ ih =>
  have:=GF.cons k _ _ pad _ fn fst gg args hk hn ih;simpa[cw] using this
theorem HF.more {M:AC} {r1 r2:fq} {V:St} {e2:E} (hr:HF M h dep r1 l V e fZ e2):HF M h dep (r1++r2) l V e fZ e2:=by
 induction hr with
 | nil V e=>exact .nil V e
 | cons i rest o V oT fZ e e1 e2 ho hs _ ih =>
  have hi:i < r1.length:=(bH.1 ho).1;refine .cons i rest o V oT fZ e e1 e2 (by rw[ck hi];exact ho) ?_ ih
  have hw:∀ b,BB r1 o V.tmps=some b->BB (r1++r2) o V.tmps=some b:=by
   intro b hb;unfold BB at hb |-;split at hb;{exact hb}
   ·rename_i j want hg;cases hj:r1[j]? with
    | none=>rw[hj] at hb;cases hb
    | some p =>
     have gI:j < r1.length:=(bH.1 hj).1;rw[hj] at hb;rw[ck gI,hj];exact hb
  unfold stepG at hs |-;cases hq:BB r1 o V.tmps with
  | none=>rw[hq] at hs;cases hs
  | some b =>
   rw[hq] at hs;rw[hw b hq];cases b<;>exact hs
section
variable {cx:Cx} {dd:C4} {M:AC} {fuel nt:Nat}
theorem uY (g:List (Nat×Nat)) (f:RX) (ps:fc) (a b:AU) (V:St):AQ M fuel nt (.seq (.norm g) (.rangeFunc f ps a b)) V=ET (At M fuel (.seq (.norm g) (.rangeFunc f ps a b)) Ar 0 V ()):=by
 have e2:At M fuel (.seq (.norm g) (.rangeFunc f ps a b)) Ar 0 V ()=At M fuel (.rangeFunc f ps a b) Ar 0 (norm [] g (trim V)) ():=rfl;rw[e2]
 show (match AQ M fuel nt (.rangeFunc f ps a b) (norm [] g (trim V)) with
  | some (x,V,l')=>some (x,V,l'++[])
  | none=>none)=_
 rw[show AQ M fuel nt (.rangeFunc f ps a b) (norm [] g (trim V))=ET (At M fuel (.rangeFunc f ps a b) Ar 0 (norm [] g (trim V)) ()) from rfl];cases At M fuel (.rangeFunc f ps a b) Ar 0 (norm [] g (trim V)) () with
 | none=>rfl
 | some p=>rfl
theorem S4:∀ (c:AU) (V:St) (r:Ex×St×fc),Cq c=true->AQ M fuel nt c V=some r->ET (At M fuel c Ar 0 V ())=some r:=by
 intro c;induction c with
 | seq a b lE lF =>
  intro V r hn fG;simp only[Cq,bz] at hn;simp only[AQ] at fG;cases ha:AQ M fuel nt a V with
  | none=>rw[ha] at fG;cases fG
  | some q =>
   obtain⟨x,s1,l1⟩:=q;have U:=lE V _ hn.1 ha;rw[ha] at fG;simp only[At];cases hc:At M fuel a Ar 0 V () with
   | none=>rw[hc] at U;cases U
   | some q2 =>
    obtain⟨x2,s2,u⟩:=q2;rw[hc] at U;cases U;cases x with
    | normal =>
     simp only at fG |-;cases hb:AQ M fuel nt b s1 with
     | none=>rw[hb] at fG;cases fG
     | some q3 =>
      obtain⟨x3,s3,l3⟩:=q3;rw[hb] at fG;simp only[dv] at fG;rw[<-fG];exact lF s1 _ hn.2 hb
    | exit id=>exact fG
    | ret=>exact fG
 | cond c a b lE lF =>
  intro V r hn fG;simp only[Cq,bz] at hn;simp only[AQ] at fG;simp only[At];split at fG;{exact lE V r hn.1 fG};{exact lF V r hn.2 fG};·cases fG
 | block id b ih =>
  intro V r hn fG;simp only[Cq] at hn;simp only[AQ] at fG;cases ha:AQ M fuel nt b V with
  | none=>rw[ha] at fG;cases fG
  | some q =>
   obtain⟨x,s1,l1⟩:=q;have U:=ih V _ hn ha;rw[ha] at fG;simp only[At];cases hc:At M fuel b Ar 0 V () with
   | none=>rw[hc] at U;cases U
   | some q2 =>
    obtain⟨x2,s2,u⟩:=q2;rw[hc] at U;cases U;cases x with
    | exit jH =>
     simp only at fG |-;split at fG<;>rename_i hid;{rw[eH hid];exact fG};{rw[eG hid];exact fG}
    | normal=>exact fG
    | ret=>exact fG
 | scope b ih =>
  intro V r hn fG;simp only[Cq] at hn;simp only[AQ] at fG;split at fG;·cases fG
  cases ha:AQ M fuel nt b V with
  | none=>rw[ha] at fG;cases fG
  | some q =>
   obtain⟨x,s1,l1⟩:=q;have U:=ih V _ hn ha;rw[ha] at fG;simp only[At];cases hc:At M fuel b Ar 0 V () with
   | none=>rw[hc] at U;cases U
   | some q2 =>
    obtain⟨x2,s2,u⟩:=q2;rw[hc] at U;cases U;cases x with
    | exit jH =>
     simp only at fG |-;split at fG<;>rename_i hid;{rw[eH hid];exact fG};·cases fG
    | normal=>exact fG
    | ret=>exact fG
 | kd=>intro V r hn;cases hn
 | _=>intro V r _ fG;exact fG
theorem ZS {V:St} (h:AQ M fuel nt (LL g r) V=some (x,fZ,l)) :
  ∃ st4,AQ M fuel nt r V=some (x,st4,l)/\(fZ=st4\/x=.normal/\∃ g,fZ=norm [] g (trim st4)):=by
 cases g with
 | none=>exact⟨fZ,h,.inl rfl⟩
 | some g =>
  simp only[LL,AQ] at h;cases ha:AQ M fuel nt r V with
  | none=>rw[ha] at h;cases h
  | some q =>
   obtain⟨y,s1,l1⟩:=q;rw[ha] at h;cases y with
   | normal =>
    simp only[At,ET,dp,bC,b8] at h;obtain⟨rfl,rfl,rfl⟩:=h;exact⟨s1,rfl,.inr ⟨rfl,g,rfl⟩⟩
   | exit id=>cases h;exact⟨_,rfl,.inl rfl⟩
   | ret=>cases h;exact⟨_,rfl,.inl rfl⟩
theorem Ws (h:Cq r=true):Cq (LL g r)=true:=by
 cases g with
 | none=>exact h
 | some g=>simp[LL,Cq,h]
theorem Zl {o:Oper} (h:PB G o=some (f,args)) :
  ∃ c fo,o.op=.defer c/\o.guard=none/\o.dst=none/\c.callee=.value fo/\rx G fo=some f/\Di G c.args.toList=some args:=by
 unfold PB at h;split at h;{rename_i c U O h3;split at h;{rename_i fo hc;split at h;{rename_i f' as h4 h5;cases h;exact⟨c,fo,U,O,h3,hc,h4,h5⟩};{cases h}};{cases h}};{cases h}
theorem uZ (hM:Dq cx M.call) (gR:Fv cx M) (jk:Em M):∀ (c:Code) (lp:Nat->fb) (w0:eS) (I0 F0 own:Nat->Prop) (rs:List eZ) (fE:List eT) (V:St) (x:Ex) (fZ:St) (l:fc),
  AQ M fuel nt (Bk cx.P cx.G dd c) V=some (x,fZ,l)->Fu cx lp Dl Ar 0 w0 I0 F0 ->
  ∀ (a:Act) (w:eS) (I F:Nat->Prop) (L:Am) (Q:Exit->Act->eS->Prop),SR lp I L V a.tmps.toList fE w->Fr cx w0 I0 F0 ⟨own,rs⟩ (fun _=>none) Dl () a.defers I F L w ->
   (∀ a' w' I' F' L' us lK,SR lp I' L' fZ a'.tmps.toList (us++fE) w'->Fr cx w0 I0 F0 ⟨own,lK++rs⟩ (fun _=>none) Dl () a'.defers I' F' L' w'->GF nt l us lK->Q (Ch x) a' w') ->
   c.wpIn (CF none) 0 cx.P Q a w:=by
 have leaf:∀ (c:Code) (lp:Nat->fb) (w0:eS) (I0 F0 own:Nat->Prop) (rs:List eZ) (fE:List eT) (V:St) (x:Ex) (fZ:St) (l:fc),
   ET (At M fuel (Bk cx.P cx.G dd c) Ar 0 V ())=some (x,fZ,l)->Fu cx lp Dl Ar 0 w0 I0 F0 ->
   ∀ (a:Act) (w:eS) (I F:Nat->Prop) (L:Am) (Q:Exit->Act->eS->Prop),SR lp I L V a.tmps.toList fE w->Fr cx w0 I0 F0 ⟨own,rs⟩ (fun _=>none) Dl () a.defers I F L w ->
    (∀ a' w' I' F' L' us lK,SR lp I' L' fZ a'.tmps.toList (us++fE) w'->Fr cx w0 I0 F0 ⟨own,lK++rs⟩ (fun _=>none) Dl () a'.defers I' F' L' w'->GF nt l us lK->Q (Ch x) a' w') ->
    c.wpIn (CF none) 0 cx.P Q a w:=by
  intro c lp w0 I0 F0 own rs fE V x fZ l fG gk a w I F L Q hs hf hQ;unfold ET at fG;split at fG;{rename_i x' st' u hq;cases fG;exact PC hM gR jk c Unit Ar 0 Dl lp w0 I0 F0 ⟨own,rs⟩ (fun _=>none) fE none V () x fZ u hq gk (fun _ h=>by cases h) a w I F L Q hs hf fun a' w' I' F' L' g1 g2=>hQ a' w' I' F' L' [] [] g1 g2 .nil};{cases fG}
 intro c;induction c with
 | seq c1 c2 sM uP =>
  intro lp w0 I0 F0 own rs fE V x fZ l fG gk a w I F L Q hs hf hQ;simp only[Bk,AQ] at fG;refine wpIn_seq ?_;split at fG
  ·rename_i jd l1 g1;split at fG
   case h_2=>cases fG
   rename_i x' st4 l2 g2;cases fG
   exact sM lp w0 I0 F0 own rs fE V .normal jd l1 g1 gk a w I F L _ hs hf fun a' w' I' F' L' us lK im gQ hp =>
    uP lp w0 I0 F0 own (lK++rs) (us++fE) jd x fZ l2 g2 gk a' w' I' F' L' Q im gQ fun a2 w2 I2 F2 L2 us2 rs2 jV kB hp2 =>
     hQ a2 w2 I2 F2 L2 (us2++us) (rs2++lK) (by rw[cw];exact jV) (by rw[cw];exact kB) (hp2.append hp)
  ·rename_i gj;refine sM lp w0 I0 F0 own rs fE V x fZ l fG gk a w I F L _ hs hf fun a' w' I' F' L' us lK im gQ hp=>?_;have:=hQ a' w' I' F' L' us lK im gQ hp;cases x with
   | normal=>exact (gj _ _ fG).elim
   | exit id =>
    simp only[Ch] at this |-;split<;>rename_i hid;{simp only[hid,eF] at this;exact this};{simp only[hid,eE] at this;exact this}
   | ret=>exact this
 | cond c c1 c2 sM uP =>
  intro lp w0 I0 F0 own rs fE V x fZ l fG gk a w I F L Q hs hf hQ;simp only[Bk] at fG;split at fG;{rename_i rc hrc;simp only[AQ] at fG;have hc:=A9 hs hf.wd hrc;split at fG;{rename_i hb;rw[hb] at hc;exact wpIn_cond_true (Er hc) (sM lp w0 I0 F0 own rs fE V x fZ l fG gk a w I F L Q hs hf hQ)};{rename_i hb;rw[hb] at hc;exact wpIn_cond_false (Er hc) (uP lp w0 I0 F0 own rs fE V x fZ l fG gk a w I F L Q hs hf hQ)};{cases fG}};{simp[AQ,At,ET] at fG}
 | block id c ih =>
  intro lp w0 I0 F0 own rs fE V x fZ l fG gk a w I F L Q hs hf hQ;simp only[Bk] at fG;split at fG
  case isFalse=>simp[AQ,At,ET] at fG
  rename_i hidb;simp only[AQ] at fG;refine wpIn_block ?_;split at fG;{rename_i jH jd l3 U;refine ih lp w0 I0 F0 own rs fE V (.exit jH) jd l3 U gk a w I F L _ hs hf fun a' w' I' F' L' us lK im gQ hp=>?_;by_cases hid:jH=id;{rw[eH hid] at fG;cases fG;subst hid;simp only[Ch,hidb,Exit.inBlock,eF];exact hQ a' w' I' F' L' us lK im gQ hp};{rw[eG hid] at fG;cases fG;have:=hQ a' w' I' F' L' us lK im gQ hp;simp only[Ch] at this |-;split<;>rename_i uV;{simp only[uV,eF] at this;simp only[Exit.inBlock,hid,eE];exact this};{simp only[uV,eE] at this;exact this}}}
  ·rename_i gj;refine ih lp w0 I0 F0 own rs fE V x fZ l fG gk a w I F L _ hs hf fun a' w' I' F' L' us lK im gQ hp=>?_;have:=hQ a' w' I' F' L' us lK im gQ hp;cases x with
   | normal=>exact this
   | exit id=>exact (gj _ _ _ fG).elim
   | ret=>exact this
 | scope c ih =>
  intro lp w0 I0 F0 own rs fE V x fZ l fG gk a w I F L Q hs hf hQ;have fG:AQ M fuel nt (.scope (Bk cx.P cx.G dd c)) V=some (x,fZ,l):=by have h:AQ M fuel nt (Ns c (Bk cx.P cx.G dd c)) V=some (x,fZ,l):=fG;unfold Ns at h;split at h;{exact h};{split at h;{exfalso;simp[AQ,Pb] at h};{exact h}}
  simp only[AQ] at fG;split at fG;·cases fG
  have key:AQ M fuel nt (Bk cx.P cx.G dd c) V=some (x,fZ,l)/\J1 x:=by
   split at fG;{rename_i id s3 e3 hq;split at fG;{rename_i hid;cases fG;exact⟨hq,hid⟩};·cases fG}
   ·rename_i gj;refine⟨fG,?_⟩;cases x with
    | exit id=>exact (gj _ _ _ fG).elim
    | _=>trivial
  exact UE key.2 (ih lp w0 I0 F0 own rs fE V x fZ l key.1 gk a w I F L _ hs hf fun a' w' I' F' L' us lK im gQ hp=>⟨rfl,hQ a' w' I' F' L' us lK im gQ hp⟩)
 | region id ops draw =>
  intro lp w0 I0 F0 own rs fE V x fZ l fG gk a w I F L Q hs hf hQ;cases draw with
  | true =>
   refine leaf (.region id ops true) lp w0 I0 F0 own rs fE V x fZ l ?_ gk a w I F L Q hs hf hQ;refine S4 _ V _ ?_ fG;simp only[Bk,eF];refine Ws ?_;split<;>rfl
  | false =>
   cases hd:ops.toList.getLast?.bind (PB cx.G) with
   | none =>
    refine leaf (.region id ops false) lp w0 I0 F0 own rs fE V x fZ l ?_ gk a w I F L Q hs hf hQ;refine S4 _ V _ ?_ fG;simp only[Bk,bL,eE,PO,hd];exact Ws rfl
   | some p =>
    obtain⟨f,args⟩:=p;simp only[Bk,bL,eE,PO,hd] at fG;obtain⟨st4,fG,hH⟩:=ZS fG;simp only[AQ] at fG;split at fG
    case h_2=>cases fG
    rename_i jd u hr;obtain⟨hchk,hev2⟩:=AK fG;clear fG;cases hev2;simp only[bz,eI] at hchk;obtain⟨o,ho,hdo⟩:=co.1 hd;obtain⟨c,fo,q1,q2,q3,q4,q5,q6⟩:=Zl hdo
    have o8:ops.toList=ops.toList.dropLast++[o]:=by
     have gj:ops.toList≠[]:=fun e=>by rw[e] at ho;cases ho
     obtain⟨l0,lQ⟩:=List.getLast?_eq_some_iff.1 ho;rw[lQ];simp
    have hm:ops.toList.length=ops.toList.dropLast.length+1:=by rw[o8];simp
    obtain⟨L',im,gQ⟩:=M3 (Bx (ops.toList.dropLast.map (B7 cx.P cx.G))) hs hf;refine wpIn_region ?_;have kg:CX M Ar 0 (ops.toList.dropLast.map (B7 cx.P cx.G)) ((ops.toList.dropLast.map (B7 cx.P cx.G)).drop 0) (BR (Bx (ops.toList.dropLast.map (B7 cx.P cx.G))) V) ()=some (jd,u):=by rw[dU];exact hr
    have gB:=(UI 0 kg).more (r2:=[B7 cx.P cx.G o]);rw[dU,cf] at gB
    have mQ:ops.toList.dropLast.map (B7 cx.P cx.G)++[B7 cx.P cx.G o]=ops.toList.map (B7 cx.P cx.G):=by
     conv=>rhs;rw[o8]
     simp
    rw[mQ] at gB;have kj:List.range ops.size=List.range ops.toList.dropLast.length++[ops.toList.dropLast.length]:=by rw[<-cY,hm,List.range_succ]
    rw[kj];refine R6 hM gR gk gB im gQ fun a1 w1 I1 F1 L1 jU jb=>?_;have hT:ops[ops.toList.dropLast.length]?=some o:=by rw[<-dl,o8];simp
    simp only[wpOpsIn,hT];have hwant:Region.wanted o (yielded ops a1.tmps)=true:=by simp[Region.wanted,q2]
    rw[eH hwant];have n6:=A9 jU jb.wd q5;have gV:=Pz jU jb.wd q6;obtain⟨g,cap,kV⟩:∃ g cap,f.ev jd.tmps=.fn g cap:=by have:=hchk.2;unfold isFn at this;split at this;{rename_i g cap hq;exact⟨g,cap,hq⟩};·cases this
    have hfv2:=n6;rw[kV] at n6;obtain⟨fst,gg,hv,_,_⟩:=Jc n6
    have hrunD:(execOp a1.eval o).run cx.P w1=.ok (.defer {target:=.fn (.func (AG g)) gg,args:=fst++(c.args.toList.map a1.eval).toArray}) w1:=by
     have iC:(c.args.toList.map a1.eval).toArray=c.args.map a1.eval:=by rw[<-eo,cI]
     simp[execOp,q1,resolve,q4,hv,Deferred.ofValue,iC]
    refine⟨fun _ _=>trivial,?_⟩;show o.uponIn (CF none) 0 cx.P a1 _ Q ((execOp a1.eval o).run cx.P w1);rw[hrunD,Oper.uponIn_defer,q3];show wpOpsIn (CF none) 0 cx.P ops Q [] _ w1;simp only[wpOpsIn];have hal:(c.args.toList.map a1.eval).length=args.length:=by have:=gV.length;simpa using this.symm
    have oe:Ae w1 I1 lp (some L1) (f.ev jd.tmps :: args.map (RX.ev jd.tmps)++List.replicate (nt - (f.ev jd.tmps :: args.map (RX.ev jd.tmps)).length) .undef++jd.fD)
      (.func (.func (AG g)) fst gg :: (c.args.toList.map a1.eval++List.replicate (nt - (f.ev jd.tmps :: args.map (RX.ev jd.tmps)).length) undef)++fE):=by
     have U:Ae w1 I1 lp (some L1) (f.ev jd.tmps :: args.map (RX.ev jd.tmps)) (.func (.func (AG g)) fst gg :: c.args.toList.map a1.eval):=.cons _ _ _ _ (by rw[<-hv];exact hfv2) gV;have O:=(U.append (Ae.gi (nt - (f.ev jd.tmps :: args.map (RX.ev jd.tmps)).length) (List.replicate (nt - (f.ev jd.tmps :: args.map (RX.ev jd.tmps)).length) undef) (by simp))).append jU.kp;simpa[cw] using O
    have jV:SR lp I1 L1 (LK nt (f.ev jd.tmps :: args.map (RX.ev jd.tmps)) jd) a1.tmps.toList (.func (.func (AG g)) fst gg :: (c.args.toList.map a1.eval++List.replicate (nt - (f.ev jd.tmps :: args.map (RX.ev jd.tmps)).length) undef)++fE) w1 :=
     ⟨jU.tm,oe,jU.ob,jU.j6⟩
    have kB:Fr cx w0 I0 F0 ⟨own,[{target:=.fn (.func (AG g)) gg,args:=fst++(c.args.toList.map a1.eval).toArray}]++rs⟩ (fun _=>none) Dl () ({target:=.fn (.func (AG g)) gg,args:=fst++(c.args.toList.map a1.eval).toArray} :: a1.defers) I1 F1 L1 w1 :=
     ⟨jb.ext,jb.sep,jb.oF,jb.lB,jb.inj,jb.wd,jb.re,.call _ _ _ (fun D h=>by cases h) jb.lO,jb.lP⟩
    obtain⟨L2,t1,t2⟩:∃ L2,SR lp I1 L2 fZ a1.tmps.toList (.func (.func (AG g)) fst gg :: (c.args.toList.map a1.eval++List.replicate (nt - (f.ev jd.tmps :: args.map (RX.ev jd.tmps)).length) undef)++fE) w1 /\
      Fr cx w0 I0 F0 ⟨own,[{target:=.fn (.func (AG g)) gg,args:=fst++(c.args.toList.map a1.eval).toArray}]++rs⟩ (fun _=>none) Dl () ({target:=.fn (.func (AG g)) gg,args:=fst++(c.args.toList.map a1.eval).toArray} :: a1.defers) I1 F1 L2 w1:=by
     obtain⟨L2,t1,t2⟩:=Po (dd id).lv jV kB;rcases hH with rfl | ⟨_,g',rfl⟩;{exact⟨L2,t1,t2⟩}
     {obtain⟨L3,t3,t4⟩:=Tk t1 t2;exact Nc [] g' t3 t4}
    refine hQ _ w1 I1 F1 L2 (.func (.func (AG g)) fst gg :: (c.args.toList.map a1.eval++List.replicate (nt - (f.ev jd.tmps :: args.map (RX.ev jd.tmps)).length) undef)) [_] t1 t2 ?_;have hp:=GF.cons (nt:=nt) args.length [] [] (List.replicate (nt - (f.ev jd.tmps :: args.map (RX.ev jd.tmps)).length) undef) [] (.func (AG g)) fst gg (c.args.toList.map a1.eval) hal (by simp;omega) .nil;simpa using hp
 | skip=>intro lp w0 I0 F0 own rs fE V x fZ l fG;exact leaf .skip lp w0 I0 F0 own rs fE V x fZ l fG
 | loop c _ =>
  intro lp w0 I0 F0 own rs fE V x fZ l fG;refine leaf (.loop c) lp w0 I0 F0 own rs fE V x fZ l (S4 _ V _ ?_ fG);simp only[Bk,Q8];split;{rename_i hp;simp only[bz] at hp;simp[Cq,hp.2]};{rfl}
 | rangeFunc f ps gp b _ _ =>
  intro lp w0 I0 F0 own rs fE V x fZ l fG
  exact leaf (.rangeFunc f ps gp b) lp w0 I0 F0 own rs fE V x fZ l (by
   rw[<-fG];simp only[Bk];split
   ·unfold TL;split;·rfl
    ·exact (uY _ _ _ _ _ _).symm
   ·rfl)
 | exit id=>intro lp w0 I0 F0 own rs fE V x fZ l fG;exact leaf (.exit id) lp w0 I0 F0 own rs fE V x fZ l (by rw[<-fG];simp only[Bk];split<;>rfl)
 | label n=>intro lp w0 I0 F0 own rs fE V x fZ l fG;exact leaf (.label n) lp w0 I0 F0 own rs fE V x fZ l fG
 | goto n=>intro lp w0 I0 F0 own rs fE V x fZ l fG;exact leaf (.goto n) lp w0 I0 F0 own rs fE V x fZ l fG
 | ret=>intro lp w0 I0 F0 own rs fE V x fZ l fG;exact leaf .ret lp w0 I0 F0 own rs fE V x fZ l fG
 | refuse s=>intro lp w0 I0 F0 own rs fE V x fZ l fG;exact leaf (.refuse s) lp w0 I0 F0 own rs fE V x fZ l fG
theorem Un:∀ (ds:List eZ) (w:eS) (fr:Frame),
  fr.mode=.returning->fr.defers=ds->F.fn fr.fn->F.room (cs.length+1+k)->(∀ d∈ds,∃ r,d.target=.collected r)->LeavesInM F k P fn tmps R ds .returning w ->
  ∃ v w',StepsIn (Machine.fenced P F) P (lone fr cs w) (lone {fr with defers:=[]} cs w')/\(results fn tmps).run P w'=.ok v w'/\R (.returned v) w':=by
 intro ds;induction ds with
 | nil =>
  intro w fr hm hd _ _ _ h;obtain⟨v,U,O⟩:=h;refine⟨v,w,?_,U,O⟩;have:({fr with defers:=[]}:Frame)=fr:=by rw[<-hd]
  rw[this];exact StepsIn.refl _
 | cons d ds ih =>
  intro w fr hm hd hb pz ix h;obtain⟨gB,h⟩:=h;obtain⟨r,hr⟩:=ix d bN;rcases h with ⟨r',w',u0,u5,u6⟩ | ⟨_,fv,cap,f,args,u0,_⟩
  ·have ly:fr.mode≠.run:=by rw[hm];simp
   have U:=step_collected (cs:=cs) ly hd u0 u5;have i1:(lone fr cs w).fenced P F:=fenced_out hb pz ly hd (fun g hg=>by rw[u0] at hg;simp[Target.leads] at hg);obtain⟨v,w'',g1,g2,g3⟩:=ih w' {fr with defers:=[]++ds} hm rfl hb pz (fun d hd=>ix d (bM _ hd)) u6;exact⟨v,w'',.head i1 U g1,g2,g3⟩
  {rw[hr] at u0;cases u0}
def bq (F:Fence) (n:Nat) (P:eX) (fn:Func) (R:Ending->eS->Prop):Exit->Act->eS->Prop
 | .normal,a,w | .ret,a,w=>(∀ d∈a.defers,∃ r,d.target=.collected r)/\LeavesInM F n P fn a.tmps R a.defers .returning w
 | _,_,_=>False
theorem YM {f:eU} {args:Array eT} 
  (hf:P.funcs[f]?=some fn) (hb:fn.body=some c) (hF:F.fn f)
  (h:c.wpIn F n P (bq F n P fn R) {tmps:=args++Array.replicate (fn.ntmps - args.size) undef,defers:=[]} w) (jr:F.round=none:=by rfl) :
  CallsDIn F n P f args u w fun e u' w'=>u'=u/\R e w':=by
 refine⟨hF,fun c₀ cs hu hr=>?_⟩
 let b:Frame:={(default:Frame) with fn:=f,kind:=.deferred,roundOf:=none}
 have henter:Frame.enter P f args .deferred =
   b.atR {tmps:=args++Array.replicate (fn.ntmps - args.size) undef,defers:=[]} [.code c]:=by
  simp[Frame.enter,Frame.atR,hf,hb,b]
 have hc:({c₀ with mode:=u}:Frame)=c₀:=by subst hu;rfl
 obtain⟨e,a',w',hq,iC⟩:=h b [] (c₀ :: cs) jr.symm hF hr;rw[<-henter] at iC;cases e with
 | normal =>
  obtain⟨hm,hl⟩:=hq;obtain⟨v,w'',g1,g2,g3⟩:=Un a'.defers w' {b.atR a' [] with mode:=.returning} rfl rfl hF hr hm hl;exact⟨.returned v,u,w'',_,⟨rfl,g3⟩,(by rw[hc];exact StepsIn.trans (StepsIn.trans iC (.one (fenced_calm (fr:=b.atR a' []) hF hr rfl) (stepR_end rfl))) g1),rfl,rfl,rfl,rfl,fn,hf,g2⟩
 | ret =>
  obtain⟨hm,hl⟩:=hq;obtain⟨todo,hs⟩:=iC.1 rfl;obtain⟨v,w'',g1,g2,g3⟩:=Un a'.defers w' {b.atR a' todo with mode:=.returning} rfl rfl hF hr hm hl;exact⟨.returned v,u,w'',_,⟨rfl,g3⟩,(by rw[hc];exact StepsIn.trans hs g1),rfl,rfl,rfl,rfl,fn,hf,g2⟩
 | panic chain=>exact hq.elim
 | exit id=>exact hq.elim
 | goto l=>exact hq.elim
 | outgrown=>exact hq.elim
def RG (cx:Cx) (M:AC):Prop :=
 ∀ (g:eU) (d0:Nat) (V:St) (A:fa) (out:Ai),M.flat g=true->M.io g d0 (Aa V.fA) A=some out->Bn cx.P g /\
  ∀ (E:Type) (w0:eS) (I0 F0:Nat->Prop) (O0:Bu) (Hd:Nat->Option Obj) (R:Bl E) (e:E) (ds:List eZ) (I F:Nat->Prop) (lp:Nat->fb) (L:Am) (gf fE us:List eT) (w:eS) (u:FrameMode),
   SR lp I L V gf fE w->Fr cx w0 I0 F0 O0 Hd R e ds I F L w->Ae w I lp (some L) A us->(out.new=[]\/out.slot.isSome=true) ->
   CallsDIn Fence.wide 0 cx.P g us.toArray u w fun en u' w'=>u'=u/\match en with
    | .returned _=>∃ I' L',SR lp I' L' (apply V none out) gf fE w'/\Fr cx w0 I0 F0 O0 Hd R e ds I' F L' w'
    | _=>False
theorem Fr.unmark {I0 F0 I F:Nat->Prop} {R:Bl E} (hHd:∀ b,Hd b=none)
  (hf:Fr cx w0 I0 F0 O0 Hd R e ({target:=.collected D,args:=#[]} :: ds) I F L w) :
  w.heap[D]?=some (.deferred (some []))/\¬ I D/\(∀ J C,L J≠some (some (D,C)))/\Fr cx w0 I0 F0 O0 Hd R e ds I F L (w.putObj D (.deferred none)):=by
 obtain⟨rs,oM⟩:∃ rs,rs=O0.dfs:=⟨_,rfl⟩;have hm:=hf.lO;rw[<-oM] at hm;cases hm with
 | call d ds rs hd h=>exact eQ rfl (hd D)
 | cons D' ds' lK U O h3 h4 h5 h6 h7 hr =>
  have hk:∀ b,b≠D->(w.putObj D (.deferred none)).heap[b]?=w.heap[b]?:=fun b hb=>World.putObj_heap_other hb;have iQ:(w.putObj D (.deferred none)).heap.size=w.heap.size:=World.putObj_size
  refine⟨h6,h3,h5,⟨hf.ext.os,hf.ext.tape,hf.ext.output,by rw[iQ];exact hf.ext.size,fun b hb hF=>?_,hf.ext.j9,hf.ext.jJ,hf.ext.jX⟩,⟨fun b hb=>by rw[iQ];exact hf.sep.iB b hb,fun b hb=>⟨by rw[iQ];exact (hf.sep.fB b hb).1,(hf.sep.fB b hb).2⟩⟩,hf.oF,
   fun J b C hn=>⟨(hf.lB J b C hn).1,by rw[iQ];exact (hf.lB J b C hn).2.1,(hf.lB J b C hn).2.2⟩,hf.inj,?_,?_,?_,?_⟩
  ·have gj:b≠D:=fun e=>by omega
   exact (hk b gj).trans (hf.ext.fD b hb hF)
  {exact cx.jK I I w _ hf.wd (fun _ h=>h) (fun b hb=>hk b fun e=>h3 (e ▸ hb)) (by rw[iQ];exact bD _)};{exact R.jK e I I F w _ hf.re (fun _ h=>h) (fun b hb=>hk b fun e=>hb.elim (fun h=>h3 (e ▸ h)) fun h=>h4 (e ▸ h)) (by rw[iQ];exact bD _)}
  ·have key:∀ ds rs,BS w0.heap.size I F L w ds rs->(∀ d∈ds,d.target≠.collected D)->BS w0.heap.size I F L (w.putObj D (.deferred none)) ds rs:=by
    intro ds rs hm;induction hm with
    | nil=>intro _;exact .nil
    | call d' ds rs hd _ ih=>intro gj;exact .call d' ds rs hd (ih fun d hd=>gj d (bM _ hd))
    | cons D' ds rs g1 g2 g3 g4 g5 g6 g7 _ ih =>
     intro gj;have hDD:D'≠D:=fun e=>gj {target:=.collected D',args:=#[]} bN (by rw[e]);exact .cons D' ds rs g1 (by rw[iQ];exact g2) g3 g4 g5 ((hk D' hDD).trans g6) g7 (ih fun d hd=>gj d (bM _ hd))
   rw[<-oM];exact key ds _ hr h7
  {intro b ob hb;rw[hHd b] at hb;cases hb}
theorem Vt (qG:RG cx M) {I0 F0 own:Nat->Prop}:∀ (ds:List eZ) (rs:List eZ) (l:fc) (us:List eT) (V:St) (w:eS) (I F:Nat->Prop) (L:Am),
  SR lp I L V tmps.toList (us++fE) w->Fr cx w0 I0 F0 ⟨own,rs⟩ (fun _=>none) Dl () ds I F L w->GF nt l us rs->Fp M nt l V=some fZ ->
  (∀ w2 I2 F2 L2,SR lp I2 L2 fZ tmps.toList fE w2->Fr cx w0 I0 F0 ⟨own,[]⟩ (fun _=>none) Dl () [] I2 F2 L2 w2->∃ v,(results fn tmps).run cx.P w2=.ok v w2/\Rr (.returned v) w2) ->
  LeavesInM Fence.wide 0 cx.P fn tmps Rr ds .returning w:=by
 intro ds;induction ds with
 | nil =>
  intro rs l us V w I F L hs hf hp hd h;have hm:=hf.lO;cases hm;cases hp;cases hd;exact h w I F L hs hf
 | cons d ds ih =>
  intro rs l us V w I F L hs hf hp hd h;cases hm:hf.lO with
  | cons D _ _ U O h3 h4 h5 h6 h7 hr =>
   obtain⟨q1,q2,q3,q4⟩:=hf.unmark fun _=>rfl;exact⟨by simp,.inl ⟨D,_,rfl,run_takeDeferred q1,ih rs l us V _ I F L (hs.lJ _ q2 q3) q4 hp hd h⟩⟩
  | call _ _ lK hdt hr =>
   cases hp with
   | cons k l' kW pad _ fv fst gg args hk hn hp' =>
    unfold Fp at hd;have oe:=hs.kp;have h0:=oe.getD 0 undef;split at hd
    case h_2=>cases hd
    rename_i f cap n6;rw[n6] at h0;have e0:(Value.func fv fst gg :: (args++pad)++kW++fE).getD 0 undef=.func fv fst gg:=rfl;rw[e0] at h0;obtain⟨us0,vs0,hv,hfk,kY⟩:=Jc h0;cases hv;split at hd;·cases hd
    split at hd
    case isFalse=>cases hd
    rename_i pF
    simp only[bz] at pF
    split at hd
    case h_2=>cases hd
    rename_i out fU;obtain⟨iu,hd⟩:=AK hd
    have gV:Ae w I lp (some L) ((V.fD.drop 1).take k) args:=by
     have:=(oe.drop 1).take k;have e:((Value.func (.func (AG f)) fst gg :: (args++pad)++kW++fE).drop 1).take k=args:=by simp[cw,<-hk]
     rwa [e] at this
    have ix:=OF hfk kY gV
    have gX:Ae w I lp (some L) (V.fD.drop nt) (kW++fE):=by
     have:=oe.drop nt
     have e:(Value.func (.func (AG f)) fst gg :: (args++pad)++kW++fE).drop nt=kW++fE:=by
      have e2:(Value.func (.func (AG f)) fst gg :: (args++pad)++kW++fE)=(Value.func (.func (AG f)) fst gg :: (args++pad))++(kW++fE):=by simp[cw]
      rw[e2,List.drop_append_of_le_length (by simp;omega),eu (by simp;omega)];rfl
     rwa [e] at this
    have jU:SR lp I L {V with fD:=V.fD.drop nt} tmps.toList (kW++fE) w:=⟨hs.tm,gX,hs.ob,hs.j6⟩;have jb:Fr cx w0 I0 F0 ⟨own,lK⟩ (fun _=>none) Dl () ds I F L w:=⟨hf.ext,hf.sep,hf.oF,hf.lB,hf.inj,hf.wd,hf.re,hr,hf.lP⟩;obtain⟨q1,q2⟩:=qG (AG f) 0 {V with fD:=V.fD.drop nt} _ out pF.2 fU;have iu:out.new=[]\/out.slot.isSome=true:=by simpa using iu
    have jN:=q2 Unit w0 I0 F0 ⟨own,lK⟩ (fun _=>none) Dl () ds I F lp L tmps.toList (kW++fE) _ w .returning jU jb ix iu;obtain⟨fnG,e1,e2,e3⟩:=q1;have hb:¬ fnG.body=none:=by intro h;rw[h] at e3;cases e3
    have iq:¬ fnG.name = "runtime.NumGoroutine":=by intro h;rw[h] at e2;simp at e2
    have iC:(fst.toList++(args++gg.toList)).toArray=fst++args.toArray++gg:=by simp[Array.append_assoc]
    refine⟨by simp,.inr ⟨fun h=>by simp[Fence.wide] at h,.func (AG f),gg,AG f,fst++args.toArray++gg,rfl,by simp[invoke,callFunc,e1,iq,hb],fun _ _=>trivial,?_⟩⟩;rw[iC] at jN;refine jN.mono fun en u' w' hq=>?_;obtain⟨rfl,hq⟩:=hq;cases en with
    | returned v =>
     obtain⟨I',L',g1,g2⟩:=hq;exact ih lK l' kW _ w' I' F L' g1 g2 hp' hd h
    | panicked chain=>exact hq.elim
    | outgrown=>exact hq.elim
end
end Go.Ab


namespace Go.Ab
variable{E:Type} {Hd:Nat->Option Obj} {I:Nat->Prop} {L:Am} {M:AC} {O0:Bu} {R:fh} {cx:Cx} {dd:eU->C4} {ds:List eZ} {dst sl:fb} {fn:Ad} {g:eU} {io:eU->Nat->(Nm->fe)->fa->fj} {lp:Nat->fb} {sp:eU->(Nm->fe)->fa->fj} {fE gf:List eT} {fK:eU->fk} {v:eT} {A:fa} {w w0:eS} {σ σ':Nm->fe} {e:E}
theorem u7 {I0 F0:Nat->Prop} {R:Bl E} {F:Nat->Prop} {V fZ:St} {v0 v2:PV} 
  (hs:SR lp I L V gf fE w) (hf:Fr cx w0 I0 F0 O0 Hd R e ds I F L w) (hv:Aj w I lp (some L) v0 v) (h:H4 fn (V,v0)=some (fZ,v2)) :
  ∃ I2 L2,SR lp I2 L2 fZ gf fE w/\Fr cx w0 I0 F0 O0 Hd R e ds I2 F L2 w/\Aj w I2 lp (some L2) v2 v:=by
 unfold H4 at h;split at h;{obtain⟨hk,h⟩:=AK h;cases h;have iR:=hk;exact⟨_,_,hs.freeze iR,hf.freeze _,(Vd hs iR hv fun J hn=>C9 _ _ J hn).lift _⟩};{cases h;exact⟨I,L,hs,hf,hv⟩}
theorem Tv (hM:Dq cx M.call) (gR:Fv cx M) (jk:Em M) (qG:RG cx M) (jD:Ju cx fK dd) (n:Nat) (g:eU) (d0:Nat) (V:St) (A:fa) (out:Ai) (hc:E4 M n fK g d0 (Aa V.fA) A=some out):Bn cx.P g /\
  ∀ (E:Type) (w0:eS) (I0 F0:Nat->Prop) (O0:Bu) (Hd:Nat->Option Obj) (R:Bl E) (e:E) (ds:List eZ) (I F:Nat->Prop) (lp:Nat->fb) (L:Am) (gf fE us:List eT) (w:eS) (dst:fb),
   SR lp I L V gf fE w->Fr cx w0 I0 F0 O0 Hd R e ds I F L w->Ae w I lp (some L) A us->(∀ d,dst=some d->d=d0/\V.fA[d]?=some [])->(dst=none->out.new=[]\/out.slot.isSome=true) ->
   (CallsIn Fence.wide 0 cx.P g us.toArray w fun
    | .returned v,w'=>∃ I' L',SR lp I' L' (apply V dst out) (EE gf dst v) fE w'/\Fr cx w0 I0 F0 O0 Hd R e ds I' F L' w'
    | _,_=>False) /\
   (IR fK g=true->∀ u,CallsDIn Fence.wide 0 cx.P g us.toArray u w fun en u' w'=>u'=u/\match en with
    | .returned v=>∃ I' L',SR lp I' L' (apply V dst out) (EE gf dst v) fE w'/\Fr cx w0 I0 F0 O0 Hd R e ds I' F L' w'
    | _=>False):=by
 unfold E4 at hc;split at hc
 case h_1=>cases hc
 rename_i rf qB;obtain⟨fn,c,kV,iI,o7,iq,lD,nd⟩:=TG jD qB;simp only at hc;generalize hRd:Bm (AA (Aa V.fA) Ax (Al A))=R at hc;have mg:∀ (i j:Nat) J,R[i]?=some J->R[j]?=some J->i=j:=by rw[<-hRd];exact fun i j J=>VR i j J
 have uD:∀ J∈Al A,J∈R:=fun J hn=>by rw[<-hRd];exact OA.2 (C9 _ _ J hn)
 split at hc
 case h_1=>cases hc
 rename_i ins qA;obtain⟨hk,hc⟩:=AK hc;simp only[bz,cK,eI] at hk;obtain⟨⟨⟨hy,uF⟩,hoy⟩,⟨hlen,hRlen⟩,qC⟩:=hk;split at hc
 case h_2=>cases hc
 rename_i p0 lL;split at hc
 case h_2=>cases hc
 rename_i fZ v0 hshu;obtain⟨oj,v0r⟩:=p0
 have jt:∃ sl d1 i1,Fi sl d1 i1 R fZ v0=some out/\((sl=none/\d1=d0/\i1=0/\R=[])\/(sl=some d1/\∃ j,(d1,j)∈R/\GL (Aa V.fA) d1=some i1)):=by
  unfold Gh at hc;cases R with
  | nil=>exact⟨none,d0,0,hc,.inl ⟨rfl,rfl,rfl,rfl⟩⟩
  | cons r rs =>
   simp only at hc;split at hc;{rename_i i1 hi1;exact⟨some r.1,r.1,i1,hc,.inr ⟨rfl,r.2,bN,hi1⟩⟩};{cases hc}
 obtain⟨sl,d1,i1,hc,jt⟩:=jt;obtain⟨N,B,hB,hBn,fU⟩:=OE hc
 have gB:∃ x jd l rs,((Cq rf.code=true/\At M n rf.code Ar 0 (D4 rf.gone rf.nt (ins.map (Ob.fQ fun m=>(0,R.idxOf m))) (AR (fun m=>(0,R.idxOf m)) A)) ()=some (x,jd,())/\oj=jd) \/
   (Cq rf.code=false/\AQ M n rf.nt rf.code (D4 rf.gone rf.nt (ins.map (Ob.fQ fun m=>(0,R.idxOf m))) (AR (fun m=>(0,R.idxOf m)) A))=some (x,jd,l)/\Fp M rf.nt l jd=some oj))/\(∀ id,x≠.exit id)/\CK oj rf.res=some rs/\v0r=DW rs:=by
  unfold Bq at lL;split at lL
  ·rename_i hq;split at lL
   case h_2=>cases lL
   rename_i x jd u fG;have lX:∀ id,x≠.exit id:=by rintro id rfl;simp at lL
   have lj:(match CK jd rf.res with
     | some rs=>some (jd,DW rs)
     | none=>none)=some (oj,v0r):=by
    cases x with
    | normal=>exact lL
    | ret=>exact lL
    | exit id=>exact eQ rfl (lX id)
   split at lj
   case h_2=>cases lj
   rename_i rs oM;cases lj;exact⟨x,_,[],rs,.inl ⟨hq,fG,rfl⟩,lX,oM,rfl⟩
  ·rename_i hq;split at lL
   case h_2=>cases lL
   rename_i x jd l fG;have lX:∀ id,x≠.exit id:=by rintro id rfl;simp at lL
   have lj:(match Fp M rf.nt l jd with
     | some V=>match CK V rf.res with
      | some rs=>some (V,DW rs)
      | none=>none
     | none=>none)=some (oj,v0r):=by
    cases x with
    | normal=>exact lL
    | ret=>exact lL
    | exit id=>exact eQ rfl (lX id)
   split at lj
   case h_2=>cases lj
   rename_i st4 hd;split at lj
   case h_2=>cases lj
   rename_i rs oM;cases lj;exact⟨x,jd,l,rs,.inr ⟨by simpa using hq,fG,hd⟩,lX,oM,rfl⟩
 obtain⟨x,jd,l,rs,fG,lX,oM,rfl⟩:=gB;obtain⟨m1,m2⟩:=Sy R ins qA;refine⟨⟨fn,kV,by simpa using iq,by rw[iI];rfl⟩,?_⟩;intro E w0 I0 F0 O0 Hd RE e ds I F lp L gf fE us w dst hs hf fX hd iu;have pC:∀ J∈R,∃ p ob,L J=some p/\Aa V.fA J=some ob/\A5 w I lp L ob p:=by intro J hn;obtain⟨j,hj,hT⟩:=dM hn;obtain⟨ob,_,O⟩:=m2 j J (by rw[bQ hj,hT]);obtain⟨p,hp,ha⟩:=hs.ob J ob O;exact⟨p,ob,hp,O,ha⟩
 let Lc:Am:=fun m=>if m.1=0 then (R[m.2]?).bind L else none
 let fr:Nm->Nm:=fun m=>(0,R.idxOf m)
 let LR:Am:=fun m=>if m∈R then L m else none
 have jy:∀ J p,LR J=some p->Lc (fr J)=some p:=by intro J p hp;simp only[LR] at hp;split at hp;{rename_i hm;simp only[Lc,fr,eF,Tx hm,dc,hp]};{cases hp}
 have hLc:∀ J p,Lc J=some p->∃ t,R[J.2]?=some t/\J.1=0/\L t=some p:=by
  intro J p hp;simp only[Lc] at hp;split at hp
  ·rename_i U;cases hr:R[J.2]? with
   | none=>rw[hr] at hp;simp at hp
   | some t=>rw[hr] at hp;exact⟨t,rfl,U,by simpa using hp⟩
  {cases hp}
 let jT:Nat->fb:=fun _=>none
 have gV:Ae w I jT (some Lc) (AR fr A) us:=by
  have U:Ae w I jT (some L) A us:=fX.lR hy;have O:Ae w I jT (some LR) A us:=U.narrow fun J hn p hp=>by simp only[LR,uD J hn,eF];exact hp
  exact O.rename jy
 have hil:(ins.map (Ob.fQ fr)).length=R.length:=by rw[cf,m1]
 let wv:List eT:=(List.range rf.nt).map fun j=>match (R[j]?).bind L with
  | some (some (b,C))=>.slice (some ⟨b,0,none⟩) 0 C
  | _=>.slice none 0 0
 have uI:∀ (j:Nat) J,R[j]?=some J->wv.getD j undef=(match L J with
    | some (some (b,C))=>.slice (some ⟨b,0,none⟩) 0 C
    | _=>.slice none 0 0):=by
  intro j J hj;have hjl:j < rf.nt:=by have:=(bH.1 hj).1;omega
  rw[bF,bK,cN hjl];simp only[bG,b7,hj,dc]
 have hwit:Ae w I jT (some Lc) (E0 rf.gone rf.nt R.length) wv:=by
  refine Ae.ur (by simp[E0,wv]) fun i y v qb hv=>?_;simp only[E0,bK,bB] at qb;obtain⟨j,hj,rfl⟩:=qb;have gI:i < rf.nt/\j=i:=by obtain⟨U,O⟩:=bH.1 hj;simp at U O;exact⟨U,O.symm⟩
  obtain⟨gI,rfl⟩:=gI;split
  case isFalse=>exact .undef _
  rename_i hjR0;have hjR:=hjR0.1;have ht:R[j]?=some R[j]:=bQ hjR;have kD:=uI j _ ht;rw[bF,hv] at kD;simp only[b7] at kD;subst kD;obtain⟨p,ob,hp,_,_⟩:=pC _ (bJ ht);have lC:Lc (0,j)=some p:=by simp only[Lc,eF,ht,dc,hp]
  rw[hp];cases p with
  | none=>exact .iL _ _ lC
  | some p =>
   obtain⟨b,C⟩:=p;have:=Aj.arr (w:=w) (I:=I) (lp:=jT) (L:=Lc) (0,j) 1 0 0 C b C lC (by omega) (cX _);simpa using this
 have kN:SR jT I Lc (D4 rf.gone rf.nt (ins.map (Ob.fQ fr)) (AR fr A)) (us.toArray++Array.replicate (fn.ntmps - us.toArray.size) undef).toList wv w:=by
  have oh:0 < (List.replicate rf.nt ([]:fg)).length:=by simpa using qC
  have o6:∀ J:Nm,J.1≠0->Aa ((List.replicate rf.nt []).set 0 (ins.map (Ob.fQ fr))) J=none:=by
   intro J U;rw[DO _ U];unfold Aa;cases hg:(List.replicate rf.nt ([]:fg))[J.1]? with
   | none=>rfl
   | some l =>
    have:=dQ (bJ hg);subst this;simp
  refine⟨?_,?_,?_,?_⟩;{have hl:=gV.length;have O:Ae w I jT (some Lc) (List.replicate (rf.nt - (AR fr A).length) PV.undef) (List.replicate (rf.nt - (AR fr A).length) undef):=Ae.gi _ _ (by simp);have:=gV.append O;show Ae w I jT (some Lc) (AR fr A++List.replicate (rf.nt - (AR fr A).length) .undef) _;rw[hl] at this |-;simpa[lD] using this};{show Ae w I jT (some Lc) (E0 rf.gone rf.nt (ins.map (Ob.fQ fr)).length) wv;rw[hil];exact hwit}
  ·intro J ob hl;have jc:Aa ((List.replicate rf.nt []).set 0 (ins.map (Ob.fQ fr))) J=some ob:=hl;by_cases U:J.1=0
   ·obtain⟨a,j⟩:=J;simp only at U;subst U;rw[Ep _ oh,bK] at jc;obtain⟨jo,ho0,rfl⟩:=bB.1 jc;have hj:j < R.length:=by have:=(bH.1 ho0).1;omega
    have hRt:R[j]?=some R[j]:=bQ hj;obtain⟨nb,h3,h4⟩:=m2 j _ hRt;rw[ho0] at h3;cases h3;obtain⟨p,hp,ha⟩:=hs.ob _ jo h4;refine⟨p,by simp only[Lc,eF,hRt,dc,hp],?_⟩;have uJ:jo.gq=false:=by have:=bI.1 hoy jo (bJ ho0);simpa using this
    have nG:A5 w I jT LR jo p:=(ha.lR uJ).narrow fun m hm q hq=>by have:m∈R:=Ol uF (bJ hRt) h4 m hm;simp only[LR,this,eF];exact hq
    exact nG.fQ jy
   {rw[o6 J U] at jc;cases jc}
  ·intro J hl;have jc:Aa ((List.replicate rf.nt []).set 0 (ins.map (Ob.fQ fr))) J=none:=hl;simp only[Lc];split
   ·rename_i U;obtain⟨a,j⟩:=J;simp only at U;subst U;rw[Ep _ oh,bK] at jc;have O:ins[j]?=none:=by simpa using jc
    have:R[j]?=none:=bY.2 (by have:=bY.1 O;omega);rw[this];rfl
   {rfl}
 let zzc:Nat->Prop:=fun b=>∃ J C,J∈R/\L J=some (some (b,C))
 have od:Fr cx w I zzc ⟨zzc,[]⟩ (fun _=>none) Dl () [] I (fun _=>False) Lc w:=by refine⟨⟨rfl,rfl,rfl,bD _,fun _ _ _=>rfl,fun _ h=>h,fun _ h=>.inl h,fun b h=>h.elim⟩,⟨hf.sep.iB,fun b h=>h.elim⟩,fun b h=>h,fun J b C hn=>?_,fun J gP b C C' hn ik=>?_,hf.wd,trivial,.nil,fun b ob hb=>by cases hb⟩;{obtain⟨t,U,_,O⟩:=hLc J _ hn;obtain⟨_,g2,g3,_⟩:=hf.lB t b C O;exact⟨.inr ⟨t,C,bJ U,O⟩,g2,g3,fun h=>h⟩};{obtain⟨t,U,h3,O⟩:=hLc J _ hn;obtain⟨t',h1',h3',iX⟩:=hLc gP _ ik;have:=hf.inj t t' b C C' O iX;subst this;exact Prod.ext (h3.trans h3'.symm) (mg _ _ t U h1')}
 have tail:∀ (tm:Array eT) (w2:eS) (I' F':Nat->Prop) (L':Am),SR jT I' L' oj tm.toList wv w2->Fr cx w I zzc ⟨zzc,[]⟩ (fun _=>none) Dl () [] I' F' L' w2 ->
   ∃ v,(results fn tm).run cx.P w2=.ok v w2/\∃ I' L',SR lp I' L' (apply V dst out) (EE gf dst v) fE w2/\Fr cx w0 I0 F0 O0 Hd RE e ds I' F L' w2:=by
  intro tm w2 I1 F' L1 hs2r jb;obtain⟨kW,q1,q2⟩:=TK hs2r (P:=cx.P) fn.results.toList rf.res rs o7 oM;obtain⟨I',L',jV,gQ,hv⟩:=u7 hs2r jb (Yf q2) hshu;have nv:=gQ.ext
  have kK:∀ (j:Nat) J,R[j]?=some J->J ∉ Hx R fZ.fD->∀ p,L J=some p->∃ p',L' ((fun k=>(Cm (fZ.fD.getD k .undef)).getD (0,k)) j)=some p'/\GeP p p':=by
   intro j J hj hng p hp
   have ja:(Cm (fZ.fD.getD j .undef)).isSome=true:=by
    cases hw:Cm (fZ.fD.getD j .undef) with
    | some q=>rfl
    | none =>
     refine eQ ?_ hng;unfold Hx;exact bA.2 ⟨(J,j),cE.2 ⟨cd.2 hj,by simp only[hw];rfl⟩,rfl⟩
   obtain⟨q,hq⟩:=df.1 ja;simp only[hq,b7];have gX:=jV.kp.getD j undef;have kz:=uI j J hj;have uO:fZ.fD.getD j .undef=.arr q 1 0 0:=by unfold Cm at hq;split at hq;{rename_i gP heq;cases hq;exact heq};·cases hq
   rw[uO,kz,hp] at gX;cases p with
   | none =>
    simp only at gX;cases gX with
    | iL _ _ h=>exact⟨none,h,trivial⟩
   | some p =>
    obtain⟨b,C⟩:=p;simp only at gX;generalize hvv:(Value.slice (some ⟨b,0,none⟩) 0 C)=vv at gX;cases gX with
    | arr _ _ _ _ cap b' C' h hC hn =>
     simp only[Value.slice.injEq,bC,Addr.mk.injEq] at hvv;obtain⟨⟨rfl,_,_⟩,_,rfl⟩:=hvv;exact⟨some (b,C'),h,rfl,by omega⟩
    | iL _ _ h=>simp at hvv
  have hOb:∀ b,b < w.heap.size->(∀ J C,J∈R->L J≠some (some (b,C)))->w2.heap[b]?=w.heap[b]?:=fun b hb hn=>nv.fD b hb fun ⟨J,C,U,O⟩=>hn J C U O
  have htk:=uw (d0:=d1) (i0:=i1) (sl:=sl) (dst:=dst) (R:=R) (N:=N) (aN:=fun k=>(Cm (fZ.fD.getD k .undef)).getD (0,k)) (gone:=Hx R fZ.fD) hs hf (jT:=jT) (fun d l h=>by cases h)
   (fun d pA=>⟨(hd d pA).2,fun h=>by
    rcases jt with ⟨_,U,_,_⟩ | ⟨U,_⟩;·rw[U];exact (hd d pA).1
    ·rw[h] at U;cases U⟩)
   (fun r hr=>by
    rcases jt with ⟨U,_⟩ | ⟨U,_⟩;·rw[hr] at U;cases U
    ·rw[hr] at U;cases U;rfl)
   (fun hN=>by
    rcases jt with ⟨U,O,h3,h4⟩ | ⟨U,j,O,h3⟩
    ·cases oS:dst with
     | none =>
      rcases iu oS with h5 | h5;·rw[fU] at h5;exact eQ (by simpa using h5) hN
      ·rw[fU,U] at h5;cases h5
     | some d =>
      obtain⟨g1,g2⟩:=hd d oS;exact⟨[],by rw[O,<-g1];exact g2,by rw[h3];rfl⟩
    ·obtain⟨p,ob,hp,hl,_⟩:=pC _ O;exact Vc hl h3)
   (fun U hn=>by
    rcases iu hn with h5 | h5;·rw[fU] at h5;simpa using h5
    ·rw[fU,U] at h5;cases h5) (fun J hn=>let ⟨p,_,hp,_⟩:=pC J hn;⟨p,hp⟩) mg jV hv
   nv.os nv.tape nv.output nv.size hOb nv.j9
   (fun b hb=>by
    rcases nv.jJ b hb with h | h | h;·exact .inl h
    ·exact .inr ⟨gQ.sep.iB b hb,.inr h⟩
    ·exact .inr ⟨gQ.sep.iB b hb,.inl h⟩)
   (fun J b C hn=>by obtain⟨g1,g2,g3,_⟩:=gQ.lB J b C hn;exact⟨g2,g3,g1⟩) gQ.inj (by rw[<-hB];exact hBn) kK hB
  refine⟨if h:kW.toArray.size=1 then kW.toArray[0] else .tuple kW.toArray,?_,I',BC L L' B,?_⟩;{unfold results;rw[Sem.run_bind,ek,Sem.run_map];rw[cI] at q1;exact (eM (fun r:Result (List eT)=>(r.andThen fun a w'=>Result.ok a.toArray w').andThen fun a w'=>Sem.run cx.P (pure (if h:a.size=1 then a[0] else Value.tuple a)) w') q1).trans rfl};{rw[fU];exact htk}
 have body:∀ (Q:Exit->Act->eS->Prop),(∀ a' w',(Cq rf.code=true->∀ d∈a'.defers,∃ r,d.target=.collected r)->LeavesInM Fence.wide 0 cx.P fn a'.tmps (fun
    | .returned v,w'=>∃ I' L',SR lp I' L' (apply V dst out) (EE gf dst v) fE w'/\Fr cx w0 I0 F0 O0 Hd RE e ds I' F L' w'
    | _,_=>False) a'.defers .returning w'->Q .normal a' w'/\Q .ret a' w')->c.wpIn (CF none) 0 cx.P Q {tmps:=us.toArray++Array.replicate (fn.ntmps - us.toArray.size) undef,defers:=[]} w:=by
  intro Q hQ
  have H:∀ a' w',Q .normal a' w'/\Q .ret a' w'->Q (Ch x) a' w':=by
   intro a' w' h;cases x with
   | normal=>exact h.1
   | ret=>exact h.2
   | exit id=>exact eQ rfl (lX id)
  rcases fG with ⟨hq,fG,rfl⟩ | ⟨hq,fG,hd⟩
  ·rw[nd] at fG;refine PC (dd:=dd g) (M:=M) hM gR jk c Unit Ar 0 Dl jT w I zzc ⟨zzc,[]⟩ (fun _=>none) wv none _ () x oj () fG ⟨⟨I,zzc,w,OS cx _ _ _ _,BA.refl _ _ _⟩,fun d l h=>by cases h⟩ (fun l0 he=>by cases he) _ w I (fun _=>False) _ _ kN od fun a' w' I' F' L' im gQ=>H a' w' (hQ a' w' (fun _ d hd=>?_) ?_)
   ·have key:∀ ds rs,BS w.heap.size I' F' L' w' ds rs->rs=[]->∀ d∈ds,∃ r,d.target=.collected r:=by
     intro ds rs hm;induction hm with
     | nil=>intro _ d hd;cases hd
     | cons D ds rs _ _ _ _ _ _ _ _ ih =>
      intro h0 d hd;rcases bE.1 hd with rfl | hd;{exact⟨D,rfl⟩};{exact ih h0 d hd}
     | call d ds rs _ _ _=>intro h0;cases h0
    exact key _ _ gQ.lO rfl d hd
   {exact Vt (nt:=rf.nt) (M:=M) qG a'.defers [] [] [] oj w' I' F' L' im gQ .nil rfl fun w2 I2 F2 L2 g1 g2=>tail a'.tmps w2 I2 F2 L2 g1 g2}
  {rw[nd] at fG;refine uZ (dd:=dd g) (M:=M) hM gR jk c jT w I zzc zzc [] wv _ x jd l fG ⟨⟨I,zzc,w,OS cx _ _ _ _,BA.refl _ _ _⟩,fun d l h=>by cases h⟩ _ w I (fun _=>False) _ _ kN od fun a' w' I' F' L' kW lK im gQ hp=>H a' w' (hQ a' w' (fun h=>by rw[hq] at h;cases h) ?_);rw[dv] at gQ;exact Vt (nt:=rf.nt) (M:=M) qG a'.defers lK l kW jd w' I' F' L' im gQ hp hd fun w2 I2 F2 L2 g1 g2=>tail a'.tmps w2 I2 F2 L2 g1 g2}
 refine⟨callsIn_of_wp_marks kV iI trivial (body _ fun a' w' _ h=>⟨h,h⟩),fun pr u=>?_⟩;have jB:Cq rf.code=true:=by unfold IR at pr;rw[qB] at pr;exact pr
 refine (YM (R:=fun
    | .returned v,w'=>∃ I' L',SR lp I' L' (apply V dst out) (EE gf dst v) fE w'/\Fr cx w0 I0 F0 O0 Hd RE e ds I' F L' w'
    | _,_=>False) kV iI trivial (body _ fun a' w' hm h=>⟨⟨hm jB,h⟩,⟨hm jB,h⟩⟩)).mono fun en u' w' hq=>⟨hq.1,?_⟩
 cases en<;>exact hq.2
theorem io_ok (hM:Dq cx M.call) (gR:Fv cx M) (jk:Em M) (qG:RG cx M) (jD:Ju cx fK dd) (n:Nat):IoOK cx (E4 M n fK):=by intro g d0 V A out hc;obtain⟨U,O⟩:=Tv hM gR jk qG jD n g d0 V A out hc;exact⟨U,fun E w0 I0 F0 O0 Hd R e ds I F lp L gf fE us w dst hs hf hr hd hn=>(O E w0 I0 F0 O0 Hd R e ds I F lp L gf fE us w dst hs hf hr hd hn).1⟩
theorem aH:∀ (l:fh),(∀ J∈l,σ J=σ' J)->l.mapM σ=l.mapM σ':=by
 intro l;induction l with
 | nil=>intro _;rfl
 | cons x l ih =>
  intro h;rw[cH,cH,h x bN,ih fun J hn=>h J (bM _ hn)]
theorem aj (h:∀ J∈R,σ J=σ' J):BJ σ R=BJ σ' R:=by unfold BJ;rw[cW];simp only[bI];exact⟨fun g J hn=>by rw[<-h J hn];exact g J hn,fun g J hn=>by rw[h J hn];exact g J hn⟩
theorem io_loc (M:AC) (n:Nat) (fK:eU->fk):PF (E4 M n fK):=by
 intro g d σ σ' A out hσ h hH;unfold E4 at h |-;cases ht:fK g with
 | none=>rw[ht] at h;cases h
 | some fn =>
  rw[ht] at h;simp only at h |-;rw[<-JI _ _ hσ];have hc:∀ J∈Bm (AA σ Ax (Al A)),σ J=σ' J:=fun J hn=>hσ J (OA.1 hn);rw[<-aH _ hc,<-aj hc];cases hm:(Bm (AA σ Ax (Al A))).mapM σ with
  | none=>rw[hm] at h;cases h
  | some ins =>
   rw[hm] at h;simp only at h |-;generalize Bm (AA σ Ax (Al A))=R at h |-;obtain⟨U,O⟩:=AK h;simp only[Ap,U,eF];split at O
   case h_2=>cases O
   rename_i p0 lL;split at O
   case h_2=>cases O
   rename_i V v hshu;unfold Gh at O |-;cases R with
   | nil=>exact O
   | cons r rs =>
    simp only at O |-;split at O
    ·rename_i i0 hi0;have h3:=O;obtain⟨N,B,_,_,rfl⟩:=OE O;rcases hH with hH | ⟨_,hH⟩;{simp[A6,Ck] at hH}
     ·have nx:GL σ' r.1=GL σ r.1:=by unfold GL;congr 1;funext j;exact (hH r.1 rfl j).symm
      rw[nx,hi0];exact h3
    {cases O}
theorem Xx {d0 i0:Nat} {V:St} {v:PV} {out:Ai} (h:Fi sl d0 i0 R V v=some out):out.io=true:=by obtain⟨_,_,_,_,rfl⟩:=OE h;rfl
theorem Tu (M:AC) (n:Nat) (fK:eU->fk) (g:eU) (d:Nat) (σ:Nm->fe) (A:fa) (out:Ai) (h:E4 M n fK g d σ A=some out):out.io=true:=by
 unfold E4 at h;split at h
 case h_1=>cases h
 simp only at h;split at h
 case h_1=>cases h
 obtain⟨_,h⟩:=AK h;split at h
 case h_2=>cases h
 split at h
 case h_2=>cases h
 unfold Gh at h;split at h;{exact Xx h};{split at h;{exact Xx h};·cases h}
theorem Yx (V:St) (R:fh):frzS (Aa V.fA) R=Aa (BN (Aa V.fA) R V).fA:=by funext J;show frzS (Aa V.fA) R J=Aa (R.foldl (fun fA J=>AM fA J AH) (V.fA.map (·.map (Ob.sub fun m=>if R.contains m then A3 (Aa V.fA) m else none)))) J;rw[MI,DA];rfl
theorem Yv {V:St} {sW:List eT} (h:SR lp I L V gf fE w) (hR:BJ (Aa V.fA) R=true) (hv:Ae w I lp (some L) A sW) :
  Ae w (Cs I L R) lp (some (DV L R)) (AE (JA (Aa V.fA) R) A) sW:=by
 have hs:Dg w (Cs I L R) lp L (some (DV L R)) (fun _=>True) (JA (Aa V.fA) R):=by intro m p _ hp;by_cases hm:m∈R;{have:=MO h hR (some (DV L R)) m p hm hp;simpa[JA,hm] using this};{simp[JA,hm,DV,hp]}
 exact Ae.subst (fun _ hb=>.inl hb) hs hv fun _ _=>trivial
theorem XC {V:St} {out:Ai} (gj:R≠[]) (ni:out.gv=[]) (nj:out.gA=none) (kZ:out.kill=none) :
  apply V dst {out with gv:=R}=apply (BN (Aa V.fA) R V) dst out:=by
 cases R with
 | nil=>exact eQ rfl gj
 | cons r rs=>simp[apply,ni,nj,kZ]
theorem OD {dst:Nat} {out:Ai} (h:Fm fK io g dst σ A=some out) :
  io g dst σ A=some out\/∃ R ju,R≠[]/\BJ σ R=true/\io g dst (frzS σ R) (AE (JA σ R) A)=some ju/\out={ju with gv:=R}/\ju.io=true/\ju.gv=[]/\ju.gA=none/\ju.kill=none:=by
 unfold Fm at h;split at h;{exact .inl h}
 ·rename_i r rs hr;obtain⟨U,h⟩:=AK h;split at h
  case h_2=>cases h
  rename_i ju hq;obtain⟨O,h⟩:=AK h;cases h;simp only[bz,bZ,dj] at O;exact .inr ⟨r :: rs,ju,by simp,U,hq,rfl,O.1.1.1,O.2,O.1.1.2,O.1.2⟩
theorem ioFz_ok (fK:eU->fk) (h:IoOK cx io):IoOK cx (Fm fK io):=by
 intro g d0 V A out hc;rcases OD hc with hc | ⟨R,ju,gj,hR,hq,rfl,jj,ni,nj,kZ⟩;{exact h g d0 V A out hc}
 {rw[Yx] at hq;obtain⟨U,O⟩:=h g d0 (BN (Aa V.fA) R V) _ ju hq;refine⟨U,fun E w0 I0 F0 O0 Hd RE e ds I F lp L gf fE us w dst hs hf hr hd hn=>?_⟩;rw[XC gj ni nj kZ];exact O E w0 I0 F0 O0 Hd RE e ds (Cs I L R) F lp (DV L R) gf fE us w dst (hs.freeze hR) (hf.freeze R) (Yv hs hR hr) (fun d kF=>⟨(hd d kF).1,Ux (hd d kF).2⟩) hn}
theorem u9 (fK:eU->fk) (h:PF io):PF (Fm fK io):=by
 intro g d σ σ' A out hσ hc hH;rcases OD hc with hc' | ⟨R,ju,gj,hR,hq,rfl,jj,ni,nj,kZ⟩
 ·unfold Fm at hc |-;have jM:∀ J∈Yw A,J∈Al A:=by intro J hn;obtain⟨v,hv,hn⟩:=cp.1 hn;refine Mz.2 ⟨v,hv,?_⟩;split at hn;{rw[cc.1 hn];simp[PV.names]};·cases hn
  have he:Jd fK g σ' A=Jd fK g σ A:=by unfold Jd;rw[JI _ _ fun J hn=>hσ J (ID _ _ _ jM J hn)]
  rw[he];generalize Jd fK g σ A=Rz at hc |-;cases Rz with
  | nil=>exact h g d σ σ' A out hσ hc hH
  | cons r rs =>
   simp only at hc;obtain⟨_,hc⟩:=AK hc;split at hc
   case h_2=>cases hc
   obtain⟨O,hc⟩:=AK hc;cases hc;simp only[bz] at O;simp[NL,A6,Ck,O.1.1.1] at hH
 ·cases R with
  | nil=>exact eQ rfl gj
  | cons r rs=>simp[NL,A6,Ck,jj] at hH
theorem qH (h:∀ g d σ A out,io g d σ A=some out->out.io=true) (g:eU) (d:Nat) (σ:Nm->fe) (A:fa) (out:Ai) (hc:Fm fK io g d σ A=some out):out.io=true:=by rcases OD hc with hc | ⟨R,ju,gj,hR,hq,rfl,jj,ni,nj,kZ⟩;{exact h g d σ A out hc};{exact jj}
theorem va (gR:SpOK cx sp) (jk:PE sp) (jD:Ju cx fK dd):∀ n,Dq cx (Be sp fK n).call/\Fv cx (Be sp fK n)/\Em (Be sp fK n)/\RG cx (Be sp fK n):=by
 intro n;induction n with
 | zero=>exact⟨fun E h R dep lp Ir mh wr g args e r obs e' hc=>(by cases hc),⟨gR,fun g d V A out h=>(by cases h),fun g d σ A out h=>(by cases h),fun E h dep g ins A e fZ e2 hc=>(by cases hc)⟩,⟨jk,fun _ _ _ _ _ _ _ h _=>h⟩,fun g d V A out _ h=>(by cases h)⟩
 | succ n ih =>
  obtain⟨i1,i2,i3,i4⟩:=ih;refine⟨qF i1 i2 i3 jD n,⟨gR,ioFz_ok fK (io_ok i1 i2 i3 i4 jD n),qH (Tu _ n fK),uX i1 i2 i3 jD n⟩,⟨jk,u9 fK (io_loc _ n fK)⟩,fun g d V A out pr hc=>?_⟩;rcases OD hc with hc | ⟨Rz,ju,gj,hR,hq,rfl,jj,ni,nj,kZ⟩
  {obtain⟨U,O⟩:=Tv i1 i2 i3 i4 jD n g d V A out hc;exact⟨U,fun E w0 I0 F0 O0 Hd R e ds I F lp L gf fE us w u hs hf hr hn=>(O E w0 I0 F0 O0 Hd R e ds I F lp L gf fE us w none hs hf hr (fun d h=>by cases h) fun _=>hn).2 pr u⟩};{rw[Yx] at hq;obtain⟨U,O⟩:=Tv i1 i2 i3 i4 jD n g d (BN (Aa V.fA) Rz V) _ ju hq;refine⟨U,fun E w0 I0 F0 O0 Hd R e ds I F lp L gf fE us w u hs hf hr hn=>?_⟩;rw[XC gj ni nj kZ];exact (O E w0 I0 F0 O0 Hd R e ds (Cs I L Rz) F lp (DV L Rz) gf fE us w none (hs.freeze hR) (hf.freeze Rz) (Yv hs hR hr) (fun d h=>by cases h) fun _=>hn).2 pr u}
theorem fn_ok (gR:SpOK cx sp) (jk:PE sp) (jD:Ju cx fK dd) (n:Nat):Dq cx (AI sp fK n):=(va gR jk jD n).1
end Go.Ab


namespace Go.Ab
variable{I:Nat->Prop} {args:fa} {b:Bool} {cx:Cx} {g:eU} {may:MemPlace->Prop} {obs:fg} {A:List eT} {w:eS}
theorem YQ {w':eS} (U:w'.os=w.os) (O:w'.output=w.output) (h3:∀ b,b < w.heap.size->w'.heap[b]?=w.heap[b]?):w.keptBut w' may:=by
 refine⟨U,O,fun i hi=>?_⟩;rw[h3 i hi];cases H:w.heap[i]? with
 | none=>rfl
 | some o=>cases o<;>first | rfl | exact⟨rfl,rfl,rfl,fun _ _=>rfl⟩ | exact .inr ⟨rfl,rfl⟩
structure ie (w w':eS):Prop where
 os:w'.os=w.os
 tape:w'.tape=w.tape
 output:w'.output=w.output
 size:w.heap.size<=w'.heap.size
 same:∀ b,b < w.heap.size->w'.heap[b]?=w.heap[b]?
theorem qI {call:Gq} (hM:Dq cx call) (fG:call Unit Ar 0 g args ()=some (.bool b,obs,())) 
  (hI:∀ b,I b->b < w.heap.size) (hw:cx.Wd I w) (fX:Ae w I (fun _=>none) none args A) :
  Calls cx.P g A.toArray w fun e w'=>e=.returned (.bool b)/\ie w w':=by
 obtain⟨_,h⟩:=hM Unit Ar Dl 0 (fun _=>none) I (fun _=>False) w g args () (.bool b) obs () fG (OS cx _ _ _ _) (fun d l h=>by cases h);have:=h I (fun _=>False) w A (BA.refl _ _ _) ⟨hI,fun b hb=>hb.elim⟩ hw trivial fX;refine callsIn_wide.1 (CallsIn.kE this fun e w' hr=>?_);cases e with
 | returned v =>
  obtain⟨I',F',ps,iM⟩:=hr;exact⟨by rw[Er iM.rep],iM.ext.os,iM.ext.tape,iM.ext.output,iM.ext.size,fun b hb=>iM.ext.fD b hb fun h=>h⟩
 | panicked chain=>exact hr.elim
 | outgrown=>exact hr.elim
end Go.Ab


namespace Go.Ab
variable{E σ:Type} {P Q:Nat->Prop} {f1 n nt:Nat} {inf:Bf} {io1:eU->Nat->(Nm->fe)->fa->fj} {io2:Nat->eU->Nat->(Nm->fe)->fa->fj} {l:fc} {obs:fg} {r:PV} {sp:eU->(Nm->fe)->fa->fj} {st':St} {fK:eU->fk} {u:Unit} {x:Ex}
def AS (P:Nat->Prop):Prop:=∃ m,∀ k,m<=k->P k
theorem AS.of (h:∀ k,P k):AS P:=⟨0,fun k _=>h k⟩
theorem AS.and (h:AS P) (h':AS Q):AS fun k=>P k/\Q k:=by obtain⟨a,ha⟩:=h;obtain⟨b,hb⟩:=h';exact⟨max a b,fun k hk=>⟨ha k (by omega),hb k (by omega)⟩⟩
theorem AS.mono (h:AS P) (f:∀ k,P k->Q k):AS Q:=by obtain⟨a,ha⟩:=h;exact⟨a,fun k hk=>f k (ha k hk)⟩
theorem AS.je {S:Nat->Prop} (h:AS P) (h':AS Q) (f:∀ k,P k->Q k->S k):AS S:=(h.and h').mono fun k ⟨a,b⟩=>f k a b
def Fq {E1 E2:Type} (RE:E1->E2->Prop) (U:AB E1) (O:Nat->AB E2):Prop :=
 ∀ l args e1 e2,RE e1 e2->∀ b iw,U l args e1=some (b,iw)->∃ gW,RE iw gW/\AS fun k=>O k l args e2=some (b,gW)
def Ue (c1:Gq) (c2:Nat->Gq):Prop :=
 ∀ (E1 E2:Type) (RE:E1->E2->Prop) (U:AB E1) (O:Nat->AB E2),Fq RE U O ->
  ∀ dep g args e1 e2,RE e1 e2->∀ r obs iw,c1 E1 U dep g args e1=some (r,obs,iw)->∃ gW,RE iw gW/\AS fun k=>c2 k E2 (O k) dep g args e2=some (r,obs,gW)
def RioT:Type 1:=(E:Type)->AB E->Nat->eU->fg->fa->E->Option (St×E)
def RioLe (c1:RioT) (c2:Nat->RioT):Prop :=
 ∀ (E1 E2:Type) (RE:E1->E2->Prop) (U:AB E1) (O:Nat->AB E2),Fq RE U O ->
  ∀ dep g ins A e1 e2,RE e1 e2->∀ V iw,c1 E1 U dep g ins A e1=some (V,iw)->∃ gW,RE iw gW/\AS fun k=>c2 k E2 (O k) dep g ins A e2=some (V,gW)
structure D6 (M1:AC) (M2:Nat->AC):Prop where
 sp:∀ k,M1.sp=(M2 k).sp
 call:Ue M1.call fun k=>(M2 k).call
 iN:∀ k,M1.iN=(M2 k).iN
 gT:∀ k,M1.gT=(M2 k).gT
 flat:∀ k,M1.flat=(M2 k).flat
 io:∀ g dst σ A out,M1.io g dst σ A=some out->AS fun k=>(M2 k).io g dst σ A=some out
 nP:RioLe M1.nP fun k=>(M2 k).nP
section par
variable {M1:AC} {M2:Nat->AC} (hM:D6 M1 M2) {E1 E2:Type} {RE:E1->E2->Prop} {U:AB E1} {O:Nat->AB E2} (hh:Fq RE U O)
include hM
theorem So (g:eU) (args:fa) (h:M1.call Unit Ar 0 g args ()=some (r,obs,u)):AS fun k=>(M2 k).call Unit Ar 0 g args ()=some (r,obs,()):=by obtain⟨_,_,h'⟩:=hM.call Unit Unit (fun _ _=>True) Ar (fun _=>Ar) (fun _ _ _ _ _ _ _ h=>by cases h) 0 g args () () trivial r obs u h;exact h'
include hh
theorem Zj (dep dst:Nat) (σ:Nm->fe) (tm:fa) (f:RX) (args:fu) {e1:E1} {e2:E2} (he:RE e1 e2) {out:Ai} {iw:E1}
  (h:BU M1 U dep dst σ tm f args e1=some (out,iw)):∃ gW,RE iw gW/\AS fun k=>BU (M2 k) (O k) dep dst σ tm f args e2=some (out,gW):=by
 unfold BU at h |-;cases hf:f.ev tm with
 | fT d =>
  simp only[hf] at h |-;by_cases hS:(Al (args.map (RX.ev tm))).isEmpty=true
  ·simp only[hS,eF] at h |-;unfold Ap at h |-;split at h
   ·rename_i hy;simp only[hy,eF];cases hq:U d (args.map (RX.ev tm)) e1 with
    | none=>rw[hq] at h;cases h
    | some p =>
     obtain⟨b,e⟩:=p;rw[hq] at h;cases h;obtain⟨gW,hr,iX⟩:=hh _ _ _ _ he _ _ hq;exact⟨gW,hr,iX.mono fun k hk=>by rw[hk]⟩
   {cases h}
  ·simp only[hS] at h |-;unfold Ap at h |-;simp only[bL,eE] at h |-;split at h
   ·rename_i hy;simp only[hy,eF];cases hq:U d (AE (A3 σ) (args.map (RX.ev tm))) e1 with
    | none=>rw[hq] at h;cases h
    | some p =>
     obtain⟨b,e⟩:=p;rw[hq] at h;cases h;obtain⟨gW,hr,iX⟩:=hh _ _ _ _ he _ _ hq;exact⟨gW,hr,iX.mono fun k hk=>by rw[hk]⟩
   {cases h}
 | fn g cap =>
  simp only[hf] at h |-;simp only[<-hM.sp,<-hM.iN,<-hM.gT];cases hs:M1.sp (AG g) σ (A7 g (args.map (RX.ev tm)) cap) with
  | some o=>simp only[hs] at h |-;cases h;exact⟨e2,he,.of fun _=>rfl⟩
  | none =>
   simp only[hs] at h |-;cases jj:M1.iN (AG g) with
   | true =>
    simp only[jj,eF] at h |-;cases hq:M1.io (AG g) dst σ (A7 g (args.map (RX.ev tm)) cap) with
    | none=>rw[hq] at h;cases h
    | some o=>rw[hq] at h;cases h;exact⟨e2,he,(hM.io _ _ _ _ _ hq).mono fun k hk=>by rw[hk]⟩
   | false =>
   simp only[jj,bL,eE] at h |-;by_cases hS:(Al (A7 g (args.map (RX.ev tm)) cap)).isEmpty=true
   ·simp only[hS,eF] at h |-;by_cases hy:A2 (A7 g (args.map (RX.ev tm)) cap)=true
    ·simp only[hy,eF] at h |-;cases hq:M1.call E1 U dep (AG g) (A7 g (args.map (RX.ev tm)) cap) e1 with
     | none=>rw[hq] at h;cases h
     | some p =>
      obtain⟨r,obs,e⟩:=p;rw[hq] at h;cases h;obtain⟨gW,hr,iX⟩:=hM.call E1 E2 RE U O hh _ _ _ _ _ he _ _ _ hq;exact⟨gW,hr,iX.mono fun k hk=>by simp only at hk;rw[hk]⟩
    ·simp only[hy] at h |-;simp only[bL,eE] at h |-;cases hq:M1.call Unit Ar 0 (AG g) (A7 g (args.map (RX.ev tm)) cap) () with
     | none=>rw[hq] at h;cases h
     | some p =>
      obtain⟨r,obs,e⟩:=p;rw[hq] at h;cases h;exact⟨e2,he,(So hM _ _ hq).mono fun k hk=>by rw[hk]⟩
   ·simp only[hS] at h |-;unfold Ap at h |-;simp only[bL,eE] at h |-;split at h
    ·rename_i hy;simp only[hy,eF];cases hq:M1.call Unit Ar 0 (AG g) (AE (A3 σ) (A7 g (args.map (RX.ev tm)) cap)) () with
     | none=>rw[hq] at h;cases h
     | some p =>
      obtain⟨r,obs,e⟩:=p;rw[hq] at h;cases h;exact⟨e2,he,(So hM _ _ hq).mono fun k hk=>by rw[hk]⟩
    {cases h}
 | _=>simp only[hf] at h;cases h
theorem Wm (dep:Nat) (o:Av) (V:St) {e1:E1} {e2:E2} (he:RE e1 e2) {out:Ai} {iw:E1} (h:Br M1 U dep o V e1=some (out,iw)) :
  ∃ gW,RE iw gW/\AS fun k=>Br (M2 k) (O k) dep o V e2=some (out,gW):=by
 unfold Br Ap at h |-;split at h
 ·rename_i hf;simp only[hf,eF];cases kA:o.op with
  | call f args =>
   simp only[kA] at h |-;cases hq:BU M1 U dep (o.dst.getD 0) (Aa V.fA) V.tmps f args e1 with
   | none=>rw[hq] at h;cases h
   | some p =>
    obtain⟨out1,e3⟩:=p;rw[hq] at h;simp only[Ap] at h;split at h;{rename_i hg;cases h;obtain⟨gW,hr,iX⟩:=Zj hM hh dep _ _ _ f args he hq;exact⟨gW,hr,iX.mono fun k hk=>by rw[hk];simp only[hg,eF]⟩};{cases h}
  | _ =>
   simp only[kA] at h |-;split at h;·cases h;exact⟨e2,he,.of fun _=>rfl⟩
   {cases h}
 {cases h}
theorem Z8 (dep:Nat) (o:Av) (V:St) {e1:E1} {e2:E2} (he:RE e1 e2) {iw:E1} (h:Hv M1 U dep o V e1=some (st',iw)) :
  ∃ gW,RE iw gW/\AS fun k=>Hv (M2 k) (O k) dep o V e2=some (st',gW):=by
 unfold Hv at h |-;cases hq:Br M1 U dep o V e1 with
 | none=>rw[hq] at h;cases h
 | some p =>
  obtain⟨out,e⟩:=p;rw[hq] at h;cases h;obtain⟨gW,hr,iX⟩:=Wm hM hh dep o V he hq;exact⟨gW,hr,iX.mono fun k hk=>by rw[hk]⟩
theorem qJ (dep:Nat) (ops:fq) (o:Av) (V:St) {e1:E1} {e2:E2} (he:RE e1 e2) {iw:E1} (h:stepG M1 U dep ops o V e1=some (st',iw)) :
  ∃ gW,RE iw gW/\AS fun k=>stepG (M2 k) (O k) dep ops o V e2=some (st',gW):=by
 unfold stepG at h |-;cases hw:BB ops o V.tmps with
 | none=>rw[hw] at h;cases h
 | some b =>
  rw[hw] at h;cases b with
  | true=>exact Z8 hM hh dep o V he h
  | false=>cases h;exact⟨e2,he,.of fun _=>rfl⟩
theorem Ve (dep:Nat) (ops:fq):∀ (l:fq) (V:St) {e1:E1} {e2:E2} (_:RE e1 e2) {st':St} {iw:E1} (_:CX M1 U dep ops l V e1=some (st',iw)),
  ∃ gW,RE iw gW/\AS fun k=>CX (M2 k) (O k) dep ops l V e2=some (st',gW):=by
 intro l;induction l with
 | nil=>intro V e1 e2 he st' iw h;cases h;exact⟨e2,he,.of fun _=>rfl⟩
 | cons o rest ih =>
  intro V e1 e2 he st' iw h;unfold CX at h |-;cases hq:stepG M1 U dep ops o V e1 with
  | none=>rw[hq] at h;cases h
  | some p =>
   obtain⟨s,e⟩:=p;rw[hq] at h;obtain⟨gW,hr,iX⟩:=qJ hM hh dep ops o V he hq;obtain⟨e3',oN,h3'⟩:=ih s hr h;exact⟨e3',oN,iX.je h3' fun k hk lf=>by rw[hk];exact lf⟩
theorem vb (dep:Nat) (ops:fq) (i:Nat) (o:Av) (V:St) {e1:E1} {e2:E2} (he:RE e1 e2) {out:Ai} {iw:E1} (h:AX M1 U dep ops i o V e1=some (out,iw,inf)) :
  ∃ gW,RE iw gW/\AS fun k=>AX (M2 k) (O k) dep ops i o V e2=some (out,gW,inf):=by
 unfold AX at h |-;cases hw:BB ops o V.tmps with
 | none=>rw[hw] at h;cases h
 | some b =>
  rw[hw] at h;cases b with
  | true =>
   simp only at h |-;cases hq:Br M1 U dep o V e1 with
   | none=>rw[hq] at h;cases h
   | some p =>
    obtain⟨out,e⟩:=p;rw[hq] at h;cases h;obtain⟨gW,hr,iX⟩:=Wm hM hh dep o V he hq;exact⟨gW,hr,iX.mono fun k hk=>by rw[hk]⟩
  | false=>cases h;exact⟨e2,he,.of fun _=>rfl⟩
theorem vc (dep:Nat) (ops:fq):∀ (l:List (Nat×Nat)) (infos:List Bf) (V:St) {e1:E1} {e2:E2} (_:RE e1 e2) {st':St} {iw:E1} (_:ED M1 U dep ops l infos V e1=some (st',iw)),
  ∃ gW,RE iw gW/\AS fun k=>ED (M2 k) (O k) dep ops l infos V e2=some (st',gW):=by
 intro l;induction l with
 | nil=>intro infos V e1 e2 he st' iw h;cases h;exact⟨e2,he,.of fun _=>rfl⟩
 | cons p rest ih =>
  obtain⟨i,jF⟩:=p;intro infos V e1 e2 he st' iw h;unfold ED at h |-;cases hi:ops[i]? with
  | none=>rw[hi] at h;cases h
  | some o =>
   simp only[hi] at h |-;unfold HB at h |-;cases hq:AX M1 U dep ops i o V e1 with
   | none=>rw[hq] at h;cases h
   | some p =>
    obtain⟨out,e,inf⟩:=p;simp only[hq] at h |-;obtain⟨gW,hr,iX⟩:=vb hM hh dep ops i o V he hq;unfold Ap at h |-;split at h;{rename_i hc;obtain⟨e3',oN,h3'⟩:=ih _ _ hr h;exact⟨e3',oN,iX.je h3' fun k hk lf=>by rw[hk];simp only[hc,eF];exact lf⟩};{cases h}
end par
def GT (M:AC) (fuel:Nat) (gp b:AU) (h:AB E) (dep:Nat) (ps:fc):AB (Dj E):=fun l args r =>
 if l=dep then
  match r with
  |(s,none,e) =>
   if args.length=ps.length then
    match At M fuel gp h (dep+1) {s with tmps:=FG ps args s.tmps,fD:=s.tmps++s.fD} e with
    | some (.normal,s',e)=>match At M fuel b h (dep+1) s' e with
     | some (x,s',e)=>some (x==.normal,({s' with tmps:=s'.fD.take s.tmps.length,fD:=s'.fD.drop s.tmps.length},(if x=.normal then none else some x),e))
     | none=>none
    | _=>none
   else none
  | _=>none
 else
  match r with
  |(s,p,e)=>match h l args e with
   | some (b,e)=>some (b,(s,p,e))
   | none=>none
theorem UA (M:AC) (fuel:Nat) (f:RX) (ps:fc) (gp b:AU) (h:AB E) (dep:Nat) (V:St) (e:E) :
  At M fuel (.rangeFunc f ps gp b) h dep V e=(if Ih M (f.ev V.tmps) then HW M (fun h dep=>GT M fuel gp b h dep ps) h dep (f.ev V.tmps) V e else match IY V (f.ev V.tmps) with
   | some (.fn g cap,V)=>match M.call (Dj E) (GT M fuel gp b h dep ps) (dep+1) (AG g) (A7 g [.fT dep] cap) (V,none,e) with
    | some (_,_,s,p,e)=>some (p.getD .normal,s,e)
    | none=>none
   | _=>none):=rfl
def relR {E1 E2:Type} (RE:E1->E2->Prop) (a:Dj E1) (b:Dj E2):Prop:=a.1=b.1/\a.2.1=b.2.1/\RE a.2.2 b.2.2
theorem vd {E1 E2:Type} {RE:E1->E2->Prop} {U:AB E1} {O:Nat->AB E2} (hh:Fq RE U O) (dep k:Nat):Fq RE (Mi dep k U) fun n=>Mi dep k (O n):=by
 intro l args e1 e2 he b iw h;unfold Mi at h |-;split at h;·cases h
 {rename_i hl;obtain⟨gW,hr,hv⟩:=hh l args e1 e2 he b iw h;exact⟨gW,hr,hv.mono fun n hn=>by show (if dep<=l/\l < dep+k then none else O n l args e2)=_;rw[eG hl];exact hn⟩}
theorem qK {M1:AC} {M2:Nat->AC} (hM:D6 M1 M2) (v:PV) (k:Nat):Ih (M2 k) v=Ih M1 v:=by unfold Ih;rw[hM.iN k]
theorem Zv {M1:AC} {M2:Nat->AC} (hM:D6 M1 M2) {E1 E2:Type} {RE:E1->E2->Prop} {U:AB E1} {O:Nat->AB E2} (hh:Fq RE U O)
  {rnd1:AB E1->Nat->AB (Dj E1)} {rnd2:Nat->AB E2->Nat->AB (Dj E2)} (hr:∀ g1 g2,Fq RE g1 g2->∀ dep,Fq (relR RE) (rnd1 g1 dep) fun k=>rnd2 k (g2 k) dep)
  (dep:Nat) (f:PV) (V:St) {e1:E1} {e2:E2} (he:RE e1 e2) {iw:E1} (h:HW M1 rnd1 U dep f V e1=some (x,st',iw)) :
  ∃ gW,RE iw gW/\AS fun k=>HW (M2 k) (rnd2 k) (O k) dep f V e2=some (x,st',gW):=by
 unfold HW at h |-;cases f with
 | fn g cap =>
  simp only at h |-;cases hm:(Bm (AA (Aa V.fA) Ax (Al cap))).mapM (Aa V.fA) with
  | none=>rw[hm] at h;cases h
  | some ins =>
   rw[hm] at h;simp only at h |-;obtain⟨hk,h⟩:=Ld h;simp only[hk,O3];split at h
   case h_2=>cases h
   rename_i kx s p e hq;obtain⟨⟨s2,p2,gW⟩,⟨q1,q2,q3⟩,hv⟩:=hM.nP _ _ _ _ _ (hr _ _ (vd hh dep _) _) _ _ _ _ _ (NJ dep (Bm (AA (Aa V.fA) Ax (Al cap))) V,none,e2) ⟨rfl,rfl,he⟩ _ _ hq;simp only at q1 q2 q3;subst q1;subst q2;obtain⟨ka,h⟩:=Ld h;split at h
   case h_2=>cases h
   rename_i out ho;obtain⟨hk3,h⟩:=Ld h;cases h;refine⟨gW,q3,hv.mono fun k hk=>?_⟩;simp only at hk;rw[hk];simp only[ka,ho,hk3,O3]
 | _=>cases h
def Fa (M:AC) (fuel:Nat) (gp:fc) (grow:List (Nat×Nat)) (b:AU) (h:AB E) (dep:Nat) (ds:fc) (s:St×E):Option (Sum (St×E) (Ex×(St×E))) :=
 match At M fuel b h dep s.1 s.2 with
 | some (.normal,V,e)=>some (.inl (norm gp grow (drop ds V),e))
 | some (x,V,e)=>some (.inr (x,V,e))
 | none=>none
theorem VN (M:AC) (fuel:Nat) (gp:fc) (grow:List (Nat×Nat)) (b:AU) (h:AB E) (dep:Nat) (V:St) (e:E) :
  At M fuel (.loop gp grow b) h dep V e=(match CW (Fa M fuel gp grow b h dep (gi (norm gp grow V))) fuel (norm gp grow V,e) with
   | some (x,V,e)=>some (x,V,e)
   | none=>none):=rfl
def J2 {ρ τ:Type} (f:σ->Option τ) (g:ρ->Option τ):Option (Sum σ ρ)->Option τ
 | some (.inl s)=>f s
 | some (.inr r)=>g r
 | none=>none
theorem aq {σ1 σ2 ρ1 ρ2:Type} {R:σ1->σ2->Prop} {Q:ρ1->ρ2->Prop} {s1:σ1->Option (Sum σ1 ρ1)} {s2:Nat->σ2->Option (Sum σ2 ρ2)}
  (rep1:Nat->σ1->Option ρ1) (pS:∀ s,rep1 0 s=none) (jU:∀ n s,rep1 (n+1) s=J2 (rep1 n) some (s1 s))
  (rep2:Nat->Nat->σ2->Option ρ2) (jV:∀ k n s,rep2 k (n+1) s=J2 (rep2 k n) some (s2 k s))
  (hs:∀ a b,R a b->(∀ a',s1 a=some (.inl a')->∃ b',R a' b'/\AS fun k=>s2 k b=some (.inl b'))/\(∀ r,s1 a=some (.inr r)->∃ r',Q r r'/\AS fun k=>s2 k b=some (.inr r'))) :
  ∀ (n:Nat) a b,R a b->∀ r,rep1 n a=some r->∃ r',Q r r'/\AS fun k=>∀ j,n<=j->rep2 k j b=some r':=by
 intro n;induction n with
 | zero=>intro a b _ r h;rw[pS] at h;cases h
 | succ n ih =>
  intro a b hr r h;rw[jU] at h;cases hq:s1 a with
  | none=>rw[hq] at h;cases h
  | some q =>
   rw[hq] at h;cases q with
   | inl a1 =>
    obtain⟨b1,sI,O⟩:=(hs a b hr).1 a1 hq;obtain⟨r',hq',h3⟩:=ih a1 b1 sI r h;exact⟨r',hq',O.je h3 fun k hk lf j hj=>by obtain⟨j,rfl⟩:∃ i,j=i+1:=⟨j - 1,by omega⟩;rw[jV,hk];exact lf j (by omega)⟩
   | inr p =>
    cases h;obtain⟨r',sI,O⟩:=(hs a b hr).2 r hq;exact⟨r',sI,O.mono fun k hk j hj=>by obtain⟨j,rfl⟩:∃ i,j=i+1:=⟨j - 1,by omega⟩;rw[jV,hk];rfl⟩
theorem Ow (step:σ->Option (Sum σ (Ex×σ))) (n:Nat) (s:σ) :
  CW step (n+1) s=J2 (CW step n) some (step s):=by
 rw[CW];rcases step s with _ | (_ | _)<;>rfl
theorem AS.diag {P:Nat->Nat->Prop} (h:AS fun k=>∀ j,n<=j->P k j):AS fun k=>P k k:=by obtain⟨a,ha⟩:=h;exact⟨max a n,fun k hk=>ha k (by omega) k (by omega)⟩
theorem OW {M1:AC} {M2:Nat->AC} (hM:D6 M1 M2):∀ (c:AU) {E1 E2:Type} {RE:E1->E2->Prop} {U:AB E1} {O:Nat->AB E2} (_:Fq RE U O) (dep:Nat) (V:St) {e1:E1} {e2:E2} (_:RE e1 e2)
  {x:Ex} {st':St} {iw:E1} (_:At M1 f1 c U dep V e1=some (x,st',iw)),∃ gW,RE iw gW/\AS fun k=>At (M2 k) k c (O k) dep V e2=some (x,st',gW):=by
 intro c;induction c with
 | skip=>intro E1 E2 RE U O hh dep V e1 e2 he x st' iw h;cases h;exact⟨e2,he,.of fun _=>rfl⟩
 | region ops dr lv =>
  intro E1 E2 RE U O hh dep V e1 e2 he x st' iw h;cases dr with
  | none =>
   simp only[At] at h |-;cases hq:CX M1 U dep ops ops (BR (Bx ops) V) e1 with
   | none=>rw[hq] at h;cases h
   | some p =>
    obtain⟨s,e⟩:=p;rw[hq] at h;cases h;obtain⟨gW,hr,iX⟩:=Ve hM hh dep ops ops _ he hq;exact⟨gW,hr,iX.mono fun k hk=>by rw[hk]⟩
  | some jF =>
   simp only[At] at h |-;cases hq:ED M1 U dep ops jF [] (BR (Bx ops) V) e1 with
   | none=>rw[hq] at h;cases h
   | some p =>
    obtain⟨s,e⟩:=p;rw[hq] at h;cases h;obtain⟨gW,hr,iX⟩:=vc hM hh dep ops jF [] _ he hq;exact⟨gW,hr,iX.mono fun k hk=>by rw[hk]⟩
 | seq a b lE lF =>
  intro E1 E2 RE U O hh dep V e1 e2 he x st' iw h;simp only[At] at h |-;cases hq:At M1 f1 a U dep V e1 with
  | none=>rw[hq] at h;cases h
  | some p =>
   obtain⟨y,s,e⟩:=p;rw[hq] at h;obtain⟨gW,hr,iX⟩:=lE hh dep V he hq;cases y with
   | normal =>
    obtain⟨e3',oN,h3'⟩:=lF hh dep s hr h;exact⟨e3',oN,iX.je h3' fun k hk lf=>by rw[hk];exact lf⟩
   | exit id=>cases h;exact⟨gW,hr,iX.mono fun k hk=>by rw[hk]⟩
   | ret=>cases h;exact⟨gW,hr,iX.mono fun k hk=>by rw[hk]⟩
 | cond c a b lE lF =>
  intro E1 E2 RE U O hh dep V e1 e2 he x st' iw h;simp only[At] at h |-;cases hc:c.ev V.tmps with
  | bool v =>
   rw[hc] at h;cases v with
   | true=>exact lE hh dep V he h
   | false=>exact lF hh dep V he h
  | _=>rw[hc] at h;cases h
 | block id b ih =>
  intro E1 E2 RE U O hh dep V e1 e2 he x st' iw h;simp only[At] at h |-;cases hq:At M1 f1 b U dep V e1 with
  | none=>rw[hq] at h;cases h
  | some p =>
   obtain⟨y,s,e⟩:=p;rw[hq] at h;obtain⟨gW,hr,iX⟩:=ih hh dep V he hq;cases y with
   | normal=>cases h;exact⟨gW,hr,iX.mono fun k hk=>by rw[hk]⟩
   | ret=>cases h;exact⟨gW,hr,iX.mono fun k hk=>by rw[hk]⟩
   | exit jH =>
    simp only at h |-;split at h<;>rename_i hid;·cases h;exact⟨gW,hr,iX.mono fun k hk=>by rw[hk];simp only[hid,eF]⟩
    {cases h;exact⟨gW,hr,iX.mono fun k hk=>by rw[hk];simp only[hid,eE]⟩}
 | loop gp grow b ih =>
  intro E1 E2 RE U O hh dep V e1 e2 he x st' iw h;simp only[VN] at h |-;generalize norm gp grow V=z0 at h |-;cases hq:CW (Fa M1 f1 gp grow b U dep (gi z0)) f1 (z0,e1) with
  | none=>rw[hq] at h;cases h
  | some q =>
   obtain⟨x0,st0,e0⟩:=q;rw[hq] at h;cases h
   obtain⟨⟨x2,s2,gW⟩,hr,iX⟩:=aq (R:=fun (a:St×E1) (b:St×E2)=>a.1=b.1/\RE a.2 b.2) (Q:=fun (a:Ex×St×E1) (b:Ex×St×E2)=>a.1=b.1/\a.2.1=b.2.1/\RE a.2.2 b.2.2)
    (s1:=Fa M1 f1 gp grow b U dep (gi z0)) (s2:=fun k=>Fa (M2 k) k gp grow b (O k) dep (gi z0))
    (CW (Fa M1 f1 gp grow b U dep (gi z0))) (fun _=>rfl) (fun n s=>Ow _ n s) (fun k=>CW (Fa (M2 k) k gp grow b (O k) dep (gi z0))) (fun k n s=>Ow (Fa (M2 k) k gp grow b (O k) dep (gi z0)) n s) (by
     rintro ⟨a,ea⟩ ⟨b',eb⟩ ⟨h01,na⟩;simp only at h01 na;subst h01;refine⟨fun a' ha=>?_,fun r ha=>?_⟩
     ·unfold Fa at ha |-;simp only at ha |-;cases hb:At M1 f1 b U dep a ea with
      | none=>rw[hb] at ha;cases ha
      | some p =>
       obtain⟨y,s,e⟩:=p;rw[hb] at ha;obtain⟨e3,oN,h3⟩:=ih hh dep a na hb;cases y with
       | normal=>cases ha;exact⟨(_,e3),⟨rfl,oN⟩,h3.mono fun k hk=>by rw[hk]⟩
       | exit id=>cases ha
       | ret=>cases ha
     ·unfold Fa at ha |-;simp only at ha |-;cases hb:At M1 f1 b U dep a ea with
      | none=>rw[hb] at ha;cases ha
      | some p =>
       obtain⟨y,s,e⟩:=p;rw[hb] at ha;obtain⟨e3,oN,h3⟩:=ih hh dep a na hb;cases y with
       | normal=>cases ha
       | exit id=>cases ha;exact⟨(_,_,e3),⟨rfl,rfl,oN⟩,h3.mono fun k hk=>by rw[hk]⟩
       | ret=>cases ha;exact⟨(_,_,e3),⟨rfl,rfl,oN⟩,h3.mono fun k hk=>by rw[hk]⟩) f1 (z0,e1) (z0,e2) ⟨rfl,he⟩ _ hq
   simp only at hr;obtain⟨h00,h01,na⟩:=hr;subst h00;subst h01;exact⟨gW,na,iX.diag.mono fun k hk=>by rw[hk]⟩
 | rangeFunc f ps gp b lE lF =>
  intro E1 E2 RE U O hh dep V e1 e2 he x st' iw h
  have hrel:∀ (g1:AB E1) (g2:Nat->AB E2),Fq RE g1 g2->∀ dep,Fq (relR RE) (GT M1 f1 gp b g1 dep ps) fun k=>GT (M2 k) k gp b (g2 k) dep ps:=by
   intro g1 g2 hh1 dep;rintro l args ⟨s,p,e⟩ ⟨s2,p2,e2⟩ ⟨h01,h02,na⟩ bb ⟨s',p',e'⟩ hq;simp only at h01 h02 na;subst h01;subst h02;unfold GT at hq |-;by_cases hl:l=dep
   ·simp only[hl,eF] at hq |-;cases p with
    | some x=>cases hq
    | none =>
     simp only at hq |-;by_cases hlen:args.length=ps.length
     ·simp only[hlen,eF] at hq |-;cases ha:At M1 f1 gp g1 (dep+1) {s with tmps:=FG ps args s.tmps,fD:=s.tmps++s.fD} e with
      | none=>rw[ha] at hq;cases hq
      | some q =>
       obtain⟨y,s3,e3⟩:=q;rw[ha] at hq;obtain⟨e4,hr4,h4⟩:=lE hh1 (dep+1) _ na ha;cases y with
       | normal =>
        simp only at hq |-;cases hb:At M1 f1 b g1 (dep+1) s3 e3 with
        | none=>rw[hb] at hq;cases hq
        | some q =>
         obtain⟨y,s5,e5⟩:=q;rw[hb] at hq;obtain⟨e6,hr6,h6⟩:=lF hh1 (dep+1) _ hr4 hb;cases hq;exact⟨(_,_,e6),⟨rfl,rfl,hr6⟩,h4.je h6 fun k hk lf=>by simp only[hk,lf]<;>rfl⟩
       | exit id=>cases hq
       | ret=>cases hq
     {simp only[hlen,eE] at hq;cases hq}
   ·simp only[hl,eE] at hq |-;cases ha:g1 l args e with
    | none=>rw[ha] at hq;cases hq
    | some q =>
     obtain⟨y,e3⟩:=q;rw[ha] at hq;cases hq;obtain⟨e4,hr4,h4⟩:=hh1 l args _ _ na _ _ ha;exact⟨(_,_,e4),⟨rfl,rfl,hr4⟩,h4.mono fun k hk=>by rw[hk]⟩
  simp only[UA,qK hM] at h |-;by_cases jj:Ih M1 (f.ev V.tmps)=true;{simp only[jj,eF] at h |-;exact Zv hM hh (rnd2:=fun k h dep=>GT (M2 k) k gp b h dep ps) hrel dep _ V he h};simp only[jj] at h |-;simp only[bL,eE] at h |-;cases hz:IY V (f.ev V.tmps) with
  | none=>rw[hz] at h;cases h
  | some p =>
   obtain⟨v,s0⟩:=p;rw[hz] at h;cases v with
   | fn g cap =>
    simp only at h |-;cases hq:M1.call (Dj E1) (GT M1 f1 gp b U dep ps) (dep+1) (AG g) (A7 g [.fT dep] cap) (s0,none,e1) with
    | none=>rw[hq] at h;cases h
    | some q =>
     obtain⟨r,obs,s,p,e⟩:=q;rw[hq] at h;cases h;obtain⟨⟨s2,p2,gW⟩,hr,iX⟩:=hM.call (Dj E1) (Dj E2) (relR RE) (GT M1 f1 gp b U dep ps) (fun k=>GT (M2 k) k gp b (O k) dep ps) (hrel U O hh dep) (dep+1) (AG g) (A7 g [.fT dep] cap) (s0,none,e1) (s0,none,e2) ⟨rfl,rfl,he⟩ r obs _ hq;obtain⟨h01,h02,na⟩:=hr;subst h01;subst h02;exact⟨gW,na,iX.mono fun k hk=>by simp only at hk;rw[hk]⟩
   | _=>cases h
 | exit id=>intro E1 E2 RE U O hh dep V e1 e2 he x st' iw h;cases h;exact⟨e2,he,.of fun _=>rfl⟩
 | norm g=>intro E1 E2 RE U O hh dep V e1 e2 he x st' iw h;cases h;exact⟨e2,he,.of fun _=>rfl⟩
 | scope b ih =>
  intro E1 E2 RE U O hh dep V e1 e2 he x st' iw h;simp only[At] at h |-;cases hq:At M1 f1 b U dep V e1 with
  | none=>rw[hq] at h;cases h
  | some p =>
   obtain⟨y,s,e⟩:=p;rw[hq] at h;obtain⟨gW,hr,iX⟩:=ih hh dep V he hq;cases y with
   | normal=>cases h;exact⟨gW,hr,iX.mono fun k hk=>by rw[hk]⟩
   | ret=>cases h;exact⟨gW,hr,iX.mono fun k hk=>by rw[hk]⟩
   | exit jH =>
    simp only at h |-;split at h<;>rename_i hid;·cases h;exact⟨gW,hr,iX.mono fun k hk=>by rw[hk];simp only[hid,eF]⟩
    {cases h}
 | ret=>intro E1 E2 RE U O hh dep V e1 e2 he x st' iw h;cases h;exact⟨e2,he,.of fun _=>rfl⟩
 | kd=>intro E1 E2 RE U O hh dep V e1 e2 he x st' iw h;cases h
 | bad=>intro E1 E2 RE U O hh dep V e1 e2 he x st' iw h;cases h
theorem AS.shift (h:AS P):AS fun k=>∃ j,k=j+1/\P j:=by obtain⟨a,ha⟩:=h;exact⟨a+1,fun k hk=>⟨k - 1,by omega,ha _ (by omega)⟩⟩
theorem Fq.shift {E1 E2:Type} {RE:E1->E2->Prop} {U:AB E1} {O:Nat->AB E2} (hh:Fq RE U O):Fq RE U fun k=>O (k+1):=by intro l args e1 e2 he b iw h;obtain⟨gW,hr,a,ha⟩:=hh l args e1 e2 he b iw h;exact⟨gW,hr,a,fun k hk=>ha _ (by omega)⟩
theorem VY {M1:AC} {M2:Nat->AC} (hM:D6 M1 M2) (n:Nat) (fK:eU->fk):Ue (GZ M1 n fK) (fun k=>GZ (M2 k) k fK):=by
 intro E1 E2 RE U O hh dep g args e1 e2 he r obs iw h;simp only[GZ] at h |-;cases ht:fK g with
 | none=>rw[ht] at h;cases h
 | some fn =>
  rw[ht] at h;simp only at h |-;cases hq:At M1 n fn.code U dep {tmps:=args++List.replicate (fn.nt - args.length) .undef,fA:=List.replicate fn.nt [],fD:=[]} e1 with
  | none=>rw[hq] at h;cases h
  | some p =>
   obtain⟨x,s,e⟩:=p;rw[hq] at h;obtain⟨gW,hr,iX⟩:=OW hM fn.code hh dep _ he hq;cases x with
   | exit id=>cases h
   | normal =>
    simp only at h;cases h3:CK s fn.res with
    | none=>rw[h3] at h;cases h
    | some A =>
     rw[h3] at h;simp only at h;cases h4:HQ fn.shut s (DW A) with
     | none=>rw[h4] at h;cases h
     | some q =>
      obtain⟨v,o5⟩:=q;rw[h4] at h;cases h;exact⟨gW,hr,iX.mono fun k hk=>by simp only[hk,h3,h4]⟩
   | ret =>
    simp only at h;cases h3:CK s fn.res with
    | none=>rw[h3] at h;cases h
    | some A =>
     rw[h3] at h;simp only at h;cases h4:HQ fn.shut s (DW A) with
     | none=>rw[h4] at h;cases h
     | some q =>
      obtain⟨v,o5⟩:=q;rw[h4] at h;cases h;exact⟨gW,hr,iX.mono fun k hk=>by simp only[hk,h3,h4]⟩
theorem aK {r:Option (Ex×St×Unit)} {V:St} (h:ET r=some (x,V,l)):r=some (x,V,())/\l=[]:=by
 unfold ET at h;split at h;·cases h;exact⟨rfl,rfl⟩
 {cases h}
theorem qL {M1:AC} {M2:Nat->AC} (hM:D6 M1 M2):∀ (c:AU) (V:St) {x:Ex} {st':St} {l:fc},AQ M1 n nt c V=some (x,st',l)->AS fun k=>AQ (M2 k) k nt c V=some (x,st',l):=by
 have leaf:∀ (c:AU) (V:St) {x:Ex} {st':St} {l:fc},ET (At M1 n c Ar 0 V ())=some (x,st',l)->AS fun k=>ET (At (M2 k) k c Ar 0 V ())=some (x,st',l):=by intro c V x st' l h;obtain⟨U,rfl⟩:=aK h;obtain⟨gW,_,iX⟩:=OW (RE:=fun (_ _:Unit)=>True) (U:=Ar) (O:=fun _=>Ar) hM c (fun _ _ _ _ _ _ _ h=>by cases h) 0 _ (e1:=()) (e2:=()) trivial U;exact iX.mono fun k hk=>by rw[hk];rfl
 intro c;induction c with
 | kd ops f args live =>
  intro V x st' l h;simp only[AQ] at h |-;cases hq:CX M1 Ar 0 ops ops (BR (Bx ops) V) () with
  | none=>rw[hq] at h;cases h
  | some p =>
   obtain⟨s,u⟩:=p;rw[hq] at h;obtain⟨gW,_,iX⟩:=Ve (RE:=fun (_ _:Unit)=>True) (U:=Ar) (O:=fun _=>Ar) hM (fun _ _ _ _ _ _ _ h=>by cases h) 0 ops ops _ (e1:=()) (e2:=()) trivial hq;exact iX.mono fun k hk=>by rw[hk];exact h
 | seq a b lE lF =>
  intro V x st' l h;simp only[AQ] at h |-;cases hq:AQ M1 n nt a V with
  | none=>rw[hq] at h;cases h
  | some p =>
   obtain⟨y,s,l1⟩:=p;rw[hq] at h;have U:=lE _ hq;cases y with
   | normal =>
    simp only at h;cases hb:AQ M1 n nt b s with
    | none=>rw[hb] at h;cases h
    | some q =>
     obtain⟨z,s2,l2⟩:=q;rw[hb] at h;exact U.je (lF _ hb) fun k g1 g2=>by rw[g1];simp only;rw[g2];exact h
   | exit id=>exact U.mono fun k g1=>by rw[g1];exact h
   | ret=>exact U.mono fun k g1=>by rw[g1];exact h
 | cond c a b lE lF =>
  intro V x st' l h;simp only[AQ] at h |-;split at h;{exact lE _ h};{exact lF _ h};·cases h
 | block id b ih =>
  intro V x st' l h;simp only[AQ] at h |-;cases hq:AQ M1 n nt b V with
  | none=>rw[hq] at h;cases h
  | some p =>
   rw[hq] at h;exact (ih _ hq).mono fun k g=>by rw[g];exact h
 | scope b ih =>
  intro V x st' l h;simp only[AQ] at h |-;split at h;·cases h
  rename_i hl;simp only[hl,bL,eE];cases hq:AQ M1 n nt b V with
  | none=>rw[hq] at h;cases h
  | some p =>
   rw[hq] at h;exact (ih _ hq).mono fun k g=>by rw[g];exact h
 | skip=>intro V x st' l h;exact leaf _ V h
 | region ops d lv=>intro V x st' l h;exact leaf _ V h
 | loop a g b _=>intro V x st' l h;exact leaf _ V h
 | rangeFunc f ps a b _ _=>intro V x st' l h;exact leaf _ V h
 | exit id=>intro V x st' l h;exact leaf _ V h
 | ret=>intro V x st' l h;exact leaf _ V h
 | norm g=>intro V x st' l h;exact leaf _ V h
 | bad=>intro V x st' l h;exact leaf _ V h
theorem XM {M1:AC} {M2:Nat->AC} (hM:D6 M1 M2):∀ (l:fc) (V:St) {st':St},Fp M1 nt l V=some st'->AS fun k=>Fp (M2 k) nt l V=some st':=by
 intro l;induction l with
 | nil=>intro V st' h;exact .of fun _=>h
 | cons n l ih =>
  intro V st' h;unfold Fp at h |-;split at h
  case h_2=>cases h
  rename_i f cap hf;split at h;·cases h
  rename_i gR;split at h
  case isFalse=>cases h
  rename_i pr;split at h
  case h_2=>cases h
  rename_i out fU;unfold Ap at h;split at h
  case isFalse=>cases h
  rename_i hn;refine (hM.io _ _ _ _ _ fU).je (ih _ h) fun k g1 g2=>?_;rw[<-hM.sp k,gR,<-hM.iN k,<-hM.flat k];simp only[pr,eF,g1,Ap,hn];exact g2
theorem MK {M1:AC} {M2:Nat->AC} (hM:D6 M1 M2) (n:Nat) (fn:Ad) (ins:fg) (A:fa) {r:St×PV} (h:Bq M1 n fn ins A=some r):AS fun k=>Bq (M2 k) k fn ins A=some r:=by
 unfold Bq at h |-;cases hd:Cq fn.code with
 | true =>
  simp only[hd,eF] at h |-;cases hq:At M1 n fn.code Ar 0 (D4 fn.gone fn.nt ins A) () with
  | none=>rw[hq] at h;cases h
  | some p =>
   obtain⟨x,s,e⟩:=p;rw[hq] at h;obtain⟨gW,_,iX⟩:=OW (RE:=fun (_ _:Unit)=>True) (U:=Ar) (O:=fun _=>Ar) hM fn.code (fun _ _ _ _ _ _ _ h=>by cases h) 0 _ (e1:=()) (e2:=()) trivial hq;refine iX.mono fun k hk=>?_;rw[hk];exact h
 | false =>
  simp only[hd,bL,eE] at h |-;cases hq:AQ M1 n fn.nt fn.code (D4 fn.gone fn.nt ins A) with
  | none=>rw[hq] at h;cases h
  | some p =>
   obtain⟨x,s,l⟩:=p;rw[hq] at h;have U:=qL hM fn.code _ hq;cases x with
   | exit id=>cases h
   | normal =>
    simp only at h;cases nq:Fp M1 fn.nt l s with
    | none=>rw[nq] at h;cases h
    | some s2 =>
     rw[nq] at h;exact U.je (XM hM l s nq) fun k g1 g2=>by rw[g1];simp only;rw[g2];exact h
   | ret =>
    simp only at h;cases nq:Fp M1 fn.nt l s with
    | none=>rw[nq] at h;cases h
    | some s2 =>
     rw[nq] at h;exact U.je (XM hM l s nq) fun k g1 g2=>by rw[g1];simp only;rw[g2];exact h
theorem ve {M1:AC} {M2:Nat->AC} (hM:D6 M1 M2) (n:Nat) (fK:eU->fk) (g:eU) (dst:Nat) (σ:Nm->fe) (A:fa) (out:Ai) (h:E4 M1 n fK g dst σ A=some out) :
  AS fun k=>E4 (M2 k) k fK g dst σ A=some out:=by
 unfold E4 at h |-;cases ht:fK g with
 | none=>rw[ht] at h;cases h
 | some fn =>
  rw[ht] at h;simp only at h |-;cases hm:(Bm (AA σ Ax (Al A))).mapM σ with
  | none=>rw[hm] at h;cases h
  | some ins =>
   rw[hm] at h;simp only at h |-;unfold Ap at h |-;split at h
   case isFalse=>cases h
   rename_i hc;simp only[hc,eF];cases hq:Bq M1 n fn (ins.map (Ob.fQ fun m=>(0,(Bm (AA σ Ax (Al A))).idxOf m))) (AR (fun m=>(0,(Bm (AA σ Ax (Al A))).idxOf m)) A) with
   | none=>rw[hq] at h;cases h
   | some p =>
    rw[hq] at h;refine (MK hM n fn _ _ hq).mono fun k hk=>?_;rw[hk];exact h
theorem Wh {M1:AC} {M2:Nat->AC} (hM:D6 M1 M2) (n:Nat) (fK:eU->fk):RioLe (Ib M1 n fK) fun k=>Ib (M2 k) k fK:=by
 intro E1 E2 RE U O hh dep g ins A e1 e2 he V iw h;unfold Ib at h |-;cases ht:fK g with
 | none=>rw[ht] at h;cases h
 | some fn =>
  simp only[ht] at h |-;obtain⟨hk,h⟩:=Ld h;simp only[hk,O3];cases hq:At M1 n fn.code U dep (D4 fn.gone fn.nt ins A) e1 with
  | none=>rw[hq] at h;cases h
  | some q =>
   obtain⟨x,s,e⟩:=q;rw[hq] at h;obtain⟨gW,hr,hv⟩:=OW hM fn.code hh dep _ he hq;cases x with
   | exit id=>cases h
   | normal=>cases h;exact⟨gW,hr,hv.mono fun k hk=>by rw[hk]⟩
   | ret=>cases h;exact⟨gW,hr,hv.mono fun k hk=>by rw[hk]⟩
theorem D6.pG {M1:AC} {M2:Nat->AC} (h:D6 M1 fun k=>M2 (k+1)) (h0:M1.sp=(M2 0).sp) (U:M1.iN=(M2 0).iN) (O:M1.gT=(M2 0).gT) (h3:M1.flat=(M2 0).flat):D6 M1 M2 where
 sp k:=by cases k with | zero=>exact h0 | succ k=>exact h.sp k
 call:=by intro E1 E2 RE g1 g2 hh dep g args e1 e2 he r obs iw hq;obtain⟨gW,hr,O⟩:=h.call E1 E2 RE g1 (fun k=>g2 (k+1)) hh.shift dep g args e1 e2 he r obs iw hq;exact⟨gW,hr,O.shift.mono fun k ⟨j,hj,hp⟩=>by subst hj;exact hp⟩
 iN k:=by cases k with | zero=>exact U | succ k=>exact h.iN k
 gT k:=by cases k with | zero=>exact O | succ k=>exact h.gT k
 flat k:=by cases k with | zero=>exact h3 | succ k=>exact h.flat k
 io g dst σ A out hq:=(h.io g dst σ A out hq).shift.mono fun k ⟨j,hj,hp⟩=>by subst hj;exact hp
 nP:=by intro E1 E2 RE g1 g2 hh dep g ins A e1 e2 he V iw hq;obtain⟨gW,hr,O⟩:=h.nP E1 E2 RE g1 (fun k=>g2 (k+1)) hh.shift dep g ins A e1 e2 he V iw hq;exact⟨gW,hr,O.shift.mono fun k ⟨j,hj,hp⟩=>by subst hj;exact hp⟩
theorem Td (sp:eU->(Nm->fe)->fa->fj) (fK:eU->fk) (n:Nat):(Be sp fK n).sp=sp:=by cases n<;>rfl
theorem Sg (sp:eU->(Nm->fe)->fa->fj) (fK:eU->fk) (n:Nat):(Be sp fK n).iN=Ef fK:=by cases n<;>rfl
theorem RZ (sp:eU->(Nm->fe)->fa->fj) (fK:eU->fk) (n:Nat):(Be sp fK n).gT=KT fK:=by cases n<;>rfl
theorem Xw (fK:eU->fk) (h:∀ g dst σ A out,io1 g dst σ A=some out->AS fun k=>io2 k g dst σ A=some out)
  (g:eU) (dst:Nat) (σ:Nm->fe) (A:fa) (out:Ai) (hc:Fm fK io1 g dst σ A=some out):AS fun k=>Fm fK (io2 k) g dst σ A=some out:=by
 unfold Fm at hc |-;generalize Jd fK g σ A=Rz at hc |-;cases Rz with
 | nil=>exact h _ _ _ _ _ hc
 | cons r rs =>
  simp only at hc |-;obtain⟨U,hc⟩:=Ld hc;split at hc
  case h_2=>cases hc
  rename_i ju hq;obtain⟨O,hc⟩:=Ld hc;cases hc;refine (h _ _ _ _ _ hq).mono fun k hk=>?_;rw[U,hk];simp only[O3,O]
theorem Sh (sp:eU->(Nm->fe)->fa->fj) (fK:eU->fk) (n:Nat):(Be sp fK n).flat=IR fK:=by cases n<;>rfl
theorem Te:∀ (n:Nat),D6 (Be sp fK n) (Be sp fK):=by
 intro n;induction n with
 | zero=>exact {sp:=fun k=>(by rw[Td,Td]),call:=fun E1 E2 RE U O hh dep g args e1 e2 he r obs iw h=>(by cases h),iN:=fun k=>(by rw[Sg,Sg]),gT:=fun k=>(by rw[RZ,RZ]),flat:=fun k=>(by rw[Sh,Sh]),io:=fun g dst σ A out h=>(by cases h),nP:=fun E1 E2 RE U O hh dep g ins A e1 e2 he V iw h=>(by cases h)}
 | succ n ih =>
  refine D6.pG ⟨fun k=>rfl,?_,fun k=>rfl,fun k=>rfl,fun k=>rfl,fun g dst σ A out h=>Xw fK (fun g dst σ A out h=>ve ih n fK g dst σ A out h) g dst σ A out h,Wh ih n fK⟩ rfl rfl rfl rfl;exact VY ih n fK
theorem Si (n:Nat):Ue (AI sp fK n) (AI sp fK):=(Te n).call
end Go.Ab

