/-
  Part 4 of a proof: a machine of our own for the given program, its laws, and what it says of the program. Nothing here is a claim by itself.
-/
import Derived.Test.YtgoedlagdbgcbaaGreatDoorK03
import Derived.Test.YtgoedlagdbgcbaaGreatDoorK01
set_option linter.all false

namespace Go.Ab
theorem qc0 {i j:Nat} (h:Nat.beq i j=true):i=j:=Nat.eq_of_beq_eq_true h
theorem qgb {i j:Nat} (h:Nat.beq i j=false):i≠j:=Nat.ne_of_beq_eq_false h
theorem qyy (i:Nat) (v:KV):∀ (l:Sp) (j:Nat),qcn (qkl i v l) j=if j=i then v else qcn l j:=by
 intro l
 induction l with
 | nil =>
  intro j
  simp only[qkl,qcn]
  cases h:Nat.beq j i with
  | true=>simp[qc0 h]
  | false=>simp[qgb h]
 | cons p l ih =>
  obtain⟨k,u⟩:=p
  intro j
  simp only[qkl]
  cases h:Nat.beq i k with
  | true =>
   have:=qc0 h;subst this
   simp only[qcn]
   cases h2:Nat.beq j i with
   | true=>simp[qc0 h2]
   | false=>simp[qgb h2]
  | false =>
   cases h3:Nat.blt i k with
   | true =>
    simp only[qcn]
    cases h2:Nat.beq j i with
    | true=>simp[qc0 h2]
    | false=>simp[qgb h2]
   | false =>
    simp only[qcn]
    cases h2:Nat.beq j k with
    | true =>
     have h4:=qc0 h2;have h5:=qgb h
     subst h4
     simp[Ne.symm h5]
    | false=>exact ih j
theorem spGet_out (i:Nat):∀ (l:Sp) (j:Nat),qcn (Qjl i l) j=if j=i then .un else qcn l j:=by
 intro l
 induction l with
 | nil=>intro j;simp[Qjl,qcn]
 | cons p l ih =>
  obtain⟨k,u⟩:=p
  intro j
  simp only[Qjl]
  cases h:Nat.beq i k with
  | true =>
   have:=qc0 h;subst this
   simp only[qcn]
   rw[ih j]
   cases h2:Nat.beq j i with
   | true=>simp[qc0 h2]
   | false=>simp[qgb h2]
  | false =>
   simp only[qcn]
   cases h2:Nat.beq j k with
   | true =>
    have h4:=qc0 h2;have h5:=qgb h
    subst h4
    simp[Ne.symm h5]
   | false=>exact ih j
theorem spGet_set (i:Nat) (v:KV) (l:Sp) (j:Nat):qcn (spSet i v l) j=if j=i then v else qcn l j:=by
 unfold spSet
 split
 ·exact spGet_out i l j
 ·exact qyy i v l j
theorem spGet_keep (p:Nat→Bool):∀ (l:Sp) (j:Nat),qcn (qlw p l) j=if p j=true then qcn l j else .un:=by
 intro l
 induction l with
 | nil=>intro j;simp[qlw,qcn]
 | cons q l ih =>
  obtain⟨k,u⟩:=q
  intro j
  simp only[qlw]
  cases hp:p k with
  | true =>
   simp only[qcn]
   cases h2:Nat.beq j k with
   | true=>have:=qc0 h2;subst this;simp[hp]
   | false=>exact ih j
  | false =>
   simp only[qcn]
   rw[ih j]
   cases h2:Nat.beq j k with
   | true=>have:=qc0 h2;subst this;simp[hp]
   | false=>rfl
def qsw:KV→Bool
 | .un=>true
 | _=>false
structure qml (nt:Nat) (l:Sp):Prop where
 srt:(l.map (·.1)).Pairwise (· < ·)
 lt:∀ p∈l,p.1 < nt
 ok:∀ p∈l,p.2.ok
 nu:∀ p∈l,qsw p.2=false
theorem qml.nil (nt:Nat):qml nt []:=⟨.nil,by simp,by simp,by simp⟩
theorem qml.tail {nt:Nat} {p:Nat×KV} {l:Sp} (h:qml nt (p :: l)):qml nt l :=
 ⟨(List.pairwise_cons.1 h.srt).2,fun q hq=>h.lt q (by simp[hq]),fun q hq=>h.ok q (by simp[hq]),fun q hq=>h.nu q (by simp[hq])⟩
theorem qyz {l:Sp} {i:Nat} (h:∀ p∈l,p.1≠i):qcn l i=.un:=by
 induction l with
 | nil=>rfl
 | cons p l ih =>
  obtain⟨k,u⟩:=p
  simp only[qcn]
  cases h2:Nat.beq i k with
  | true=>exact absurd (qc0 h2).symm (h (k,u) (by simp))
  | false=>exact ih fun q hq=>h q (by simp[hq])
theorem qml.get_mem {nt:Nat} {l:Sp} (h:qml nt l) {p:Nat×KV} (hp:p∈l):qcn l p.1=p.2:=by
 induction l with
 | nil=>cases hp
 | cons q l ih =>
  obtain⟨k,u⟩:=q
  simp only[qcn]
  rcases List.mem_cons.1 hp with rfl | hp'
  ·simp
  ·have h1:=(List.pairwise_cons.1 h.srt).1 p.1 (List.mem_map.2 ⟨p,hp',rfl⟩)
   simp only at h1
   cases h2:Nat.beq p.1 k with
   | true=>have:=qc0 h2;omega
   | false=>exact ih h.tail hp'
theorem qp8 {l:Sp} {i:Nat} (h:qcn l i≠.un):(i,qcn l i)∈l:=by
 induction l with
 | nil=>exact absurd rfl h
 | cons p l ih =>
  obtain⟨k,u⟩:=p
  simp only[qcn] at h ⊢
  cases h2:Nat.beq i k with
  | true=>have:=qc0 h2;subst this;simp
  | false=>rw[h2] at h;simp only at h ⊢;exact List.mem_cons_of_mem _ (ih h)
theorem Qqb (x:KV):x=.un∨x≠.un:=by cases x<;>simp
theorem qml.get_ok {nt:Nat} {l:Sp} (h:qml nt l) (i:Nat):(qcn l i).ok:=by
 rcases Qqb (qcn l i) with h1 | h1
 ·rw[h1];trivial
 ·exact h.ok _ (qp8 h1)
theorem qml.get_ge {nt:Nat} {l:Sp} (h:qml nt l) {i:Nat} (hi:nt≤i):qcn l i=.un:=by
 rcases Qqb (qcn l i) with h1 | h1
 ·exact h1
 ·have:=h.lt _ (qp8 h1);simp only at this;omega
theorem qth {i:Nat} {v:KV}:∀ {l:Sp} {p:Nat×KV},p∈qkl i v l→p=(i,v)∨p∈l:=by
 intro l
 induction l with
 | nil=>intro p hp;simp[qkl] at hp;exact .inl hp
 | cons q l ih =>
  obtain⟨k,u⟩:=q
  intro p hp
  simp only[qkl] at hp
  cases h:Nat.beq i k with
  | true =>
   rw[h] at hp;simp only[List.mem_cons] at hp ⊢
   rcases hp with rfl | hp
   ·exact .inl rfl
   ·exact .inr (.inr hp)
  | false =>
   rw[h] at hp
   cases h3:Nat.blt i k with
   | true =>
    rw[h3] at hp;simp only[List.mem_cons] at hp ⊢
    rcases hp with rfl | hp | hp
    ·exact .inl rfl
    ·exact .inr (.inl hp)
    ·exact .inr (.inr hp)
   | false =>
    rw[h3] at hp;simp only[List.mem_cons] at hp ⊢
    rcases hp with rfl | hp
    ·exact .inr (.inl rfl)
    ·exact (ih hp).imp id .inr
theorem spPut_srt {i:Nat} {v:KV}:∀ {l:Sp},(l.map (·.1)).Pairwise (· < ·)→((qkl i v l).map (·.1)).Pairwise (· < ·):=by
 intro l
 induction l with
 | nil=>intro _;simp[qkl]
 | cons q l ih =>
  obtain⟨k,u⟩:=q
  intro h
  have h1:=List.pairwise_cons.1 h
  simp only[qkl]
  cases h2:Nat.beq i k with
  | true =>
   have:=qc0 h2;subst this
   exact List.pairwise_cons.2 ⟨h1.1,h1.2⟩
  | false =>
   cases h3:Nat.blt i k with
   | true =>
    have h4:i < k:=by simpa[Nat.blt_eq] using h3
    refine List.pairwise_cons.2 ⟨fun a ha=>?_,h⟩
    simp only[List.map_cons,List.mem_cons] at ha
    rcases ha with rfl | ha
    ·exact h4
    ·exact Nat.lt_trans h4 (h1.1 a ha)
   | false =>
    have h5:=qgb h2
    have h4:¬ i < k:=by intro h6;rw[show Nat.blt i k=true by simpa[Nat.blt_eq] using h6] at h3;cases h3
    refine List.pairwise_cons.2 ⟨fun a ha=>?_,ih h1.2⟩
    obtain⟨p,hp,rfl⟩:=List.mem_map.1 ha
    rcases qth hp with rfl | hp
    ·simp only;omega
    ·exact h1.1 _ (List.mem_map.2 ⟨p,hp,rfl⟩)
theorem qml.put {nt:Nat} {l:Sp} (h:qml nt l) {i:Nat} (hi:i < nt) {v:KV} (hv:v.ok) (hu:qsw v=false):qml nt (qkl i v l) where
 srt:=spPut_srt h.srt
 lt p hp:=(qth hp).elim (fun e=>by rw[e];exact hi) (h.lt p)
 ok p hp:=(qth hp).elim (fun e=>by rw[e];exact hv) (h.ok p)
 nu p hp:=(qth hp).elim (fun e=>by rw[e];exact hu) (h.nu p)
theorem spOut_sub (i:Nat):∀ (l:Sp),(Qjl i l).Sublist l:=by
 intro l
 induction l with
 | nil=>exact .slnil
 | cons q l ih =>
  obtain⟨k,u⟩:=q
  simp only[Qjl]
  cases Nat.beq i k with
  | true=>exact .cons _ ih
  | false=>exact .cons_cons _ ih
theorem spKeep_sub (p:Nat→Bool):∀ (l:Sp),(qlw p l).Sublist l:=by
 intro l
 induction l with
 | nil=>exact .slnil
 | cons q l ih =>
  obtain⟨k,u⟩:=q
  simp only[qlw]
  cases p k with
  | true=>exact .cons_cons _ ih
  | false=>exact .cons _ ih
theorem qml.sub {nt:Nat} {l l':Sp} (h:qml nt l) (hs:l'.Sublist l):qml nt l' :=
 ⟨h.srt.sublist (hs.map _),fun p hp=>h.lt p (hs.subset hp),fun p hp=>h.ok p (hs.subset hp),fun p hp=>h.nu p (hs.subset hp)⟩
theorem qml.set {nt:Nat} {l:Sp} (h:qml nt l) {i:Nat} (hi:i < nt) {v:KV} (hv:v.ok):qml nt (spSet i v l):=by
 unfold spSet
 split
 ·exact h.sub (spOut_sub i l)
 ·rename_i hu
  refine h.put hi hv ?_
  cases v<;>simp_all [qsw]
theorem spMap_keys (f:KV→KV):∀ (l:Sp),((qmm f l).map (·.1)).Sublist (l.map (·.1)):=by
 intro l
 induction l with
 | nil=>exact .slnil
 | cons q l ih =>
  obtain⟨k,u⟩:=q
  simp only[qmm]
  split
  ·exact .cons _ ih
  ·exact .cons_cons _ ih
theorem qti {f:KV→KV}:∀ {l:Sp} {p:Nat×KV},p∈qmm f l→∃ q∈l,p=(q.1,f q.2)∧qsw p.2=false:=by
 intro l
 induction l with
 | nil=>intro p hp;cases hp
 | cons q l ih =>
  obtain⟨k,u⟩:=q
  intro p hp
  simp only[qmm] at hp
  split at hp
  ·obtain⟨q,hq,h⟩:=ih hp;exact⟨q,by simp[hq],h⟩
  ·rename_i hne
   rcases List.mem_cons.1 hp with rfl | hp
   ·exact⟨(k,u),by simp,rfl,by cases hf:f u<;>simp_all [qsw]⟩
   ·obtain⟨q,hq,h⟩:=ih hp;exact⟨q,by simp[hq],h⟩
theorem qml.map {nt:Nat} {l:Sp} (h:qml nt l) {f:KV→KV} (hf:∀ x:KV,x.ok→(f x).ok):qml nt (qmm f l) where
 srt:=h.srt.sublist (spMap_keys f l)
 lt p hp:=by obtain⟨q,hq,rfl,_⟩:=qti hp;exact h.lt q hq
 ok p hp:=by obtain⟨q,hq,rfl,_⟩:=qti hp;exact hf _ (h.ok q hq)
 nu p hp:=by obtain⟨q,hq,_,h⟩:=qti hp;exact h
theorem Qjn {nt:Nat} {f:KV→KV} (hf:f .un=.un):∀ {l:Sp} (_:qml nt l) (i:Nat),qcn (qmm f l) i=f (qcn l i):=by
 intro l
 induction l with
 | nil=>intro _ i;simp[qmm,qcn,hf]
 | cons q l ih =>
  obtain⟨k,u⟩:=q
  intro h i
  have h1:=List.pairwise_cons.1 h.srt
  simp only[qmm,qcn]
  split
  ·rename_i hu
   cases h2:Nat.beq i k with
   | true =>
    have:=qc0 h2;subst this
    simp only
    rw[hu]
    refine qyz fun p hp=>?_
    obtain⟨q,hq,rfl,_⟩:=qti hp
    have:=h1.1 q.1 (List.mem_map.2 ⟨q,hq,rfl⟩)
    simp only at this ⊢;omega
   | false=>exact ih h.tail i
  ·simp only[qcn]
   cases h2:Nat.beq i k with
   | true=>rfl
   | false=>exact ih h.tail i
theorem spHas_iff {l:Sp} {i:Nat}:qtj l i=true↔∃ p∈l,p.1=i:=by
 induction l with
 | nil=>simp[qtj]
 | cons q l ih =>
  obtain⟨k,u⟩:=q
  simp only[qtj]
  cases h2:Nat.beq i k with
  | true=>simp[qc0 h2]
  | false=>simp[ih,Ne.symm (qgb h2)]
theorem Qm6 {l:Sp} {nm:Nm}:nm∈qhk l↔∃ p∈l,nm∈p.2.names:=by
 induction l with
 | nil=>simp[qhk]
 | cons q l ih=>obtain⟨k,u⟩:=q;simp[qhk,ih]
theorem qml.has_iff {nt:Nat} {l:Sp} (h:qml nt l) (i:Nat):qtj l i=true↔qcn l i≠.un:=by
 rw[spHas_iff]
 constructor
 ·rintro ⟨p,hp,rfl⟩ hu
  rw[h.get_mem hp] at hu
  have:=h.nu p hp
  rw[hu] at this;cases this
 ·intro hu;exact⟨_,qp8 hu,rfl⟩
theorem dense_get? (nt:Nat) (l:Sp) (i:Nat):(qd2 nt l)[i]?=if i < nt then some (qcn l i).pv else none:=by
 unfold qd2
 rw[List.getElem?_map]
 split
 ·rename_i h;rw[List.getElem?_range h];rfl
 ·rename_i h;rw[List.getElem?_eq_none (by simpa using h)];rfl
theorem qca (nt:Nat) (l:Sp):(qd2 nt l).length=nt:=by simp[qd2]
theorem qj7 {nt:Nat} {l:Sp} (h:qml nt l) (i:Nat):(qd2 nt l).getD i .undef=(qcn l i).pv:=by
 rw[List.getD_eq_getElem?_getD,dense_get?]
 split
 ·rfl
 ·rename_i hi;rw[h.get_ge (by omega)];rfl
theorem qmc {nt:Nat} {l:Sp} {xs:List PV} (hl:xs.length=nt) (h:∀ i,i < nt→xs[i]?=some (qcn l i).pv):qd2 nt l=xs:=by
 apply List.ext_getElem?
 intro i
 rw[dense_get?]
 split
 ·rename_i hi;exact (h i hi).symm
 ·rename_i hi;rw[List.getElem?_eq_none (by omega)]
theorem Ql7 {nt:Nat} {l:Sp} (d:Nat) (v:KV):qd2 nt (spSet d v l)=(qd2 nt l).set d v.pv:=by
 refine qmc (by simp[qca]) fun i hi=>?_
 rw[List.getElem?_set,qca,dense_get?,spGet_set]
 by_cases h:d=i
 ·subst h;simp[hi]
 ·simp[h,Ne.symm h,hi]
theorem qvk {nt:Nat} {l:Sp} (d:Nat) (v:KV):qd2 nt (qkl d v l)=(qd2 nt l).set d v.pv:=by
 refine qmc (by simp[qca]) fun i hi=>?_
 rw[List.getElem?_set,qca,dense_get?,qyy]
 by_cases h:d=i
 ·subst h;simp[hi]
 ·simp[h,Ne.symm h,hi]
theorem qvl {nt:Nat} {l:Sp} (h:qml nt l) {f:KV→KV} {g:Nm→Option (Option Ob)} (hu:f .un=.un) (hf:∀ x:KV,x.ok→(f x).pv=x.pv.sub g) :
  qd2 nt (qmm f l)=qgc g (qd2 nt l):=by
 refine qmc (by rw[qph,qca]) fun i hi=>?_
 rw[subL_getElem?,dense_get?,Qjn hu h,if_pos hi,hf _ (h.get_ok i)]
 rfl
theorem Qnj (f:Nm→Nm) (xs:List PV):(qjv f xs).length=xs.length:=by
 induction xs with
 | nil=>rfl
 | cons x xs ih=>simp[qjv,ih]
theorem renL_getElem? (f:Nm→Nm) (xs:List PV) (i:Nat):(qjv f xs)[i]?=(xs[i]?).map (PV.ren f):=by
 induction xs generalizing i with
 | nil=>rfl
 | cons x xs ih=>cases i<;>simp[qjv,ih]
theorem qvj {nt:Nat} {l:Sp} (h:qml nt l) (f:Nm→Nm):qd2 nt (qmm (KV.ren f) l)=qjv f (qd2 nt l):=by
 refine qmc (by rw[Qnj,qca]) fun i hi=>?_
 rw[renL_getElem?,dense_get?,Qjn (by simp[KV.ren]) h,if_pos hi,KV.ren_pv f (h.get_ok i)]
 rfl
theorem qpx {nt:Nat} {l:Sp} (h:qml nt l) (nm:Nm):nm∈qbn (qd2 nt l)↔nm∈qhk l:=by
 have hm:∀ (xs:List PV),nm∈qbn xs↔∃ x∈xs,nm∈x.names:=by
  intro xs
  induction xs with
  | nil=>simp[qbn]
  | cons x xs ih=>simp[qbn,ih]
 rw[hm,Qm6]
 constructor
 ·rintro ⟨x,hx,hn⟩
  obtain⟨i,hi⟩:=List.getElem?_of_mem hx
  rw[dense_get?] at hi
  split at hi
  ·cases hi
   rw[KV.pv_names (h.get_ok i)] at hn
   have hne:qcn l i≠.un:=by intro hu;rw[hu] at hn;simp[KV.names] at hn
   exact⟨_,qp8 hne,hn⟩
  ·cases hi
 ·rintro ⟨p,hp,hn⟩
  have:=h.get_mem hp
  refine⟨p.2.pv,List.mem_of_getElem? (i:=p.1) ?_,?_⟩
  ·rw[dense_get?,if_pos (h.lt p hp),this]
  ·rw[KV.pv_names (h.ok p hp)];exact hn
def KOb.ok:KOb→Prop
 | .cells _ cs=>qg2 cs
 | .whole _ v=>okV v=true
 | .arr _ _ xs=>qb8 xs=true
 | .map es=>qb8 es=true
 | .siter _ _=>True
structure qlo (nt:Nat) (l:SpO):Prop where
 srt:(l.map (·.1)).Pairwise (· < ·)
 lt:∀ p∈l,p.1 < nt
 ok:∀ p∈l,∀ o∈p.2,o.ok
theorem qlo.nil (nt:Nat):qlo nt []:=⟨.nil,by simp,by simp⟩
theorem qlo.tail {nt:Nat} {p:Nat×List KOb} {l:SpO} (h:qlo nt (p :: l)):qlo nt l :=
 ⟨(List.pairwise_cons.1 h.srt).2,fun q hq=>h.lt q (by simp[hq]),fun q hq=>h.ok q (by simp[hq])⟩
theorem KOb.ob_names {o:KOb} (h:o.ok):o.ob.names=o.names:=by
 cases o with
 | cells ty cs=>exact qff h
 | whole ty v=>exact (qb9 (qcx h)).1
 | _=>rfl
theorem soGet_put (i:Nat) (v:List KOb):∀ (l:SpO) (j:Nat),qc1 (qpk i v l) j=if j=i then v else qc1 l j:=by
 intro l
 induction l with
 | nil =>
  intro j
  simp only[qpk,qc1]
  cases h:Nat.beq j i with
  | true=>simp[qc0 h]
  | false=>simp[qgb h]
 | cons p l ih =>
  obtain⟨k,u⟩:=p
  intro j
  simp only[qpk]
  cases h:Nat.beq i k with
  | true =>
   have:=qc0 h;subst this
   simp only[qc1]
   cases h2:Nat.beq j i with
   | true=>simp[qc0 h2]
   | false=>simp[qgb h2]
  | false =>
   cases h3:Nat.blt i k with
   | true =>
    simp only[qc1]
    cases h2:Nat.beq j i with
    | true=>simp[qc0 h2]
    | false=>simp[qgb h2]
   | false =>
    simp only[qc1]
    cases h2:Nat.beq j k with
    | true =>
     have h4:=qc0 h2;have h5:=qgb h
     subst h4
     simp[Ne.symm h5]
    | false=>exact ih j
theorem soGet_keep (p:Nat→Bool):∀ (l:SpO) (j:Nat),qc1 (qw7 p l) j=if p j=true then qc1 l j else []:=by
 intro l
 induction l with
 | nil=>intro j;simp[qw7,qc1]
 | cons q l ih =>
  obtain⟨k,u⟩:=q
  intro j
  simp only[qw7]
  cases hp:p k with
  | true =>
   simp only[qc1]
   cases h2:Nat.beq j k with
   | true=>have:=qc0 h2;subst this;simp[hp]
   | false=>exact ih j
  | false =>
   simp only[qc1]
   rw[ih j]
   cases h2:Nat.beq j k with
   | true=>have:=qc0 h2;subst this;simp[hp]
   | false=>rfl
theorem soGet_map (f:KOb→KOb):∀ (l:SpO) (j:Nat),qc1 (qqb f l) j=(qc1 l j).map f:=by
 intro l
 induction l with
 | nil=>intro j;simp[qqb,qc1]
 | cons q l ih =>
  obtain⟨k,u⟩:=q
  intro j
  simp only[qqb,qc1]
  cases h2:Nat.beq j k with
  | true=>rfl
  | false=>exact ih j
theorem qni {l:SpO} {i:Nat} (h:qc1 l i≠[]):(i,qc1 l i)∈l:=by
 induction l with
 | nil=>exact absurd rfl h
 | cons p l ih =>
  obtain⟨k,u⟩:=p
  simp only[qc1] at h ⊢
  cases h2:Nat.beq i k with
  | true=>have:=qc0 h2;subst this;simp
  | false=>rw[h2] at h;simp only at h ⊢;exact List.mem_cons_of_mem _ (ih h)
theorem qlo.get_mem {nt:Nat} {l:SpO} (h:qlo nt l) {p:Nat×List KOb} (hp:p∈l):qc1 l p.1=p.2:=by
 induction l with
 | nil=>cases hp
 | cons q l ih =>
  obtain⟨k,u⟩:=q
  simp only[qc1]
  rcases List.mem_cons.1 hp with rfl | hp'
  ·simp
  ·have h1:=(List.pairwise_cons.1 h.srt).1 p.1 (List.mem_map.2 ⟨p,hp',rfl⟩)
   simp only at h1
   cases h2:Nat.beq p.1 k with
   | true=>have:=qc0 h2;omega
   | false=>exact ih h.tail hp'
theorem qlo.get_ok {nt:Nat} {l:SpO} (h:qlo nt l) {i:Nat} {o:KOb} (ho:o∈qc1 l i):o.ok:=by
 have:qc1 l i≠[]:=by intro h1;rw[h1] at ho;cases ho
 exact h.ok _ (qni this) o ho
theorem qlo.get_ge {nt:Nat} {l:SpO} (h:qlo nt l) {i:Nat} (hi:nt≤i):qc1 l i=[]:=by
 by_cases h1:qc1 l i=[]
 ·exact h1
 ·have:=h.lt _ (qni h1);simp only at this;omega
theorem qy0 {i:Nat} {v:List KOb}:∀ {l:SpO} {p:Nat×List KOb},p∈qpk i v l→p=(i,v)∨p∈l:=by
 intro l
 induction l with
 | nil=>intro p hp;simp[qpk] at hp;exact .inl hp
 | cons q l ih =>
  obtain⟨k,u⟩:=q
  intro p hp
  simp only[qpk] at hp
  cases h:Nat.beq i k with
  | true =>
   rw[h] at hp;simp only[List.mem_cons] at hp ⊢
   rcases hp with rfl | hp
   ·exact .inl rfl
   ·exact .inr (.inr hp)
  | false =>
   rw[h] at hp
   cases h3:Nat.blt i k with
   | true =>
    rw[h3] at hp;simp only[List.mem_cons] at hp ⊢
    rcases hp with rfl | hp | hp
    ·exact .inl rfl
    ·exact .inr (.inl hp)
    ·exact .inr (.inr hp)
   | false =>
    rw[h3] at hp;simp only[List.mem_cons] at hp ⊢
    rcases hp with rfl | hp
    ·exact .inr (.inl rfl)
    ·exact (ih hp).imp id .inr
theorem soPut_srt {i:Nat} {v:List KOb}:∀ {l:SpO},(l.map (·.1)).Pairwise (· < ·)→((qpk i v l).map (·.1)).Pairwise (· < ·):=by
 intro l
 induction l with
 | nil=>intro _;simp[qpk]
 | cons q l ih =>
  obtain⟨k,u⟩:=q
  intro h
  have h1:=List.pairwise_cons.1 h
  simp only[qpk]
  cases h2:Nat.beq i k with
  | true =>
   have:=qc0 h2;subst this
   exact List.pairwise_cons.2 ⟨h1.1,h1.2⟩
  | false =>
   cases h3:Nat.blt i k with
   | true =>
    have h4:i < k:=by simpa[Nat.blt_eq] using h3
    refine List.pairwise_cons.2 ⟨fun a ha=>?_,h⟩
    simp only[List.map_cons,List.mem_cons] at ha
    rcases ha with rfl | ha
    ·exact h4
    ·exact Nat.lt_trans h4 (h1.1 a ha)
   | false =>
    have h5:=qgb h2
    have h4:¬ i < k:=by intro h6;rw[show Nat.blt i k=true by simpa[Nat.blt_eq] using h6] at h3;cases h3
    refine List.pairwise_cons.2 ⟨fun a ha=>?_,ih h1.2⟩
    obtain⟨p,hp,rfl⟩:=List.mem_map.1 ha
    rcases qy0 hp with rfl | hp
    ·simp only;omega
    ·exact h1.1 _ (List.mem_map.2 ⟨p,hp,rfl⟩)
theorem qlo.put {nt:Nat} {l:SpO} (h:qlo nt l) {i:Nat} (hi:i < nt) {v:List KOb} (hv:∀ o∈v,o.ok):qlo nt (qpk i v l) where
 srt:=soPut_srt h.srt
 lt p hp:=(qy0 hp).elim (fun e=>by rw[e];exact hi) (h.lt p)
 ok p hp:=(qy0 hp).elim (fun e=>by rw[e];exact hv) (h.ok p)
theorem soKeep_sub (p:Nat→Bool):∀ (l:SpO),(qw7 p l).Sublist l:=by
 intro l
 induction l with
 | nil=>exact .slnil
 | cons q l ih =>
  obtain⟨k,u⟩:=q
  simp only[qw7]
  cases p k with
  | true=>exact .cons_cons _ ih
  | false=>exact .cons _ ih
theorem qlo.sub {nt:Nat} {l l':SpO} (h:qlo nt l) (hs:l'.Sublist l):qlo nt l' :=
 ⟨h.srt.sublist (hs.map _),fun p hp=>h.lt p (hs.subset hp),fun p hp=>h.ok p (hs.subset hp)⟩
theorem soMap_keys (f:KOb→KOb):∀ (l:SpO),(qqb f l).map (·.1)=l.map (·.1):=by
 intro l
 induction l with
 | nil=>rfl
 | cons q l ih=>obtain⟨k,u⟩:=q;simp[qqb,ih]
theorem Qjo {f:KOb→KOb}:∀ {l:SpO} {p:Nat×List KOb},p∈qqb f l→∃ q∈l,p=(q.1,q.2.map f):=by
 intro l
 induction l with
 | nil=>intro p hp;cases hp
 | cons q l ih =>
  obtain⟨k,u⟩:=q
  intro p hp
  rcases List.mem_cons.1 hp with rfl | hp
  ·exact⟨(k,u),by simp,rfl⟩
  ·obtain⟨q,hq,h⟩:=ih hp;exact⟨q,by simp[hq],h⟩
theorem qlo.map {nt:Nat} {l:SpO} (h:qlo nt l) {f:KOb→KOb} (hf:∀ x:KOb,x.ok→(f x).ok):qlo nt (qqb f l) where
 srt:=by rw[soMap_keys];exact h.srt
 lt p hp:=by obtain⟨q,hq,rfl⟩:=Qjo hp;exact h.lt q hq
 ok p hp o ho:=by
  obtain⟨q,hq,rfl⟩:=Qjo hp
  obtain⟨o',ho',rfl⟩:=List.mem_map.1 ho
  exact hf _ (h.ok q hq o' ho')
theorem Qm8 {l:SpO} {nm:Nm}:nm∈qlx l↔∃ p∈l,∃ o∈p.2,nm∈o.names:=by
 induction l with
 | nil=>simp[qlx]
 | cons q l ih=>obtain⟨k,u⟩:=q;simp[qlx,ih]
theorem denseO_get? (nt:Nat) (l:SpO) (i:Nat):(qfx nt l)[i]?=if i < nt then some ((qc1 l i).map KOb.ob) else none:=by
 unfold qfx
 rw[List.getElem?_map]
 split
 ·rename_i h;rw[List.getElem?_range h];rfl
 ·rename_i h;rw[List.getElem?_eq_none (by simpa using h)];rfl
theorem qdz (nt:Nat) (l:SpO):(qfx nt l).length=nt:=by simp[qfx]
theorem qj9 {nt:Nat} {l:SpO} {xs:List (List Ob)} (hl:xs.length=nt) (h:∀ i,i < nt→xs[i]?=some ((qc1 l i).map KOb.ob)):qfx nt l=xs:=by
 apply List.ext_getElem?
 intro i
 rw[denseO_get?]
 split
 ·rename_i hi;exact (h i hi).symm
 ·rename_i hi;rw[List.getElem?_eq_none (by omega)]
theorem qj8 {nt:Nat} {l:SpO} (d:Nat) (v:List KOb):qfx nt (qpk d v l)=(qfx nt l).set d (v.map KOb.ob):=by
 refine qj9 (by simp[qdz]) fun i hi=>?_
 rw[List.getElem?_set,qdz,denseO_get?,soGet_put]
 by_cases h:d=i
 ·subst h;simp[hi]
 ·simp[h,Ne.symm h,hi]
theorem qrv {nt:Nat} {l:SpO} (h:qlo nt l) {f:KOb→KOb} {g:Ob→Ob} (hf:∀ x:KOb,x.ok→(f x).ob=g x.ob):qfx nt (qqb f l)=(qfx nt l).map (·.map g):=by
 refine qj9 (by simp[qdz]) fun i hi=>?_
 rw[List.getElem?_map,denseO_get?,if_pos hi,soGet_map]
 simp only[Option.map_some,List.map_map,Option.some.injEq]
 apply List.map_congr_left
 intro o ho
 simp[hf o (h.get_ok ho)]
theorem Qpr {nt:Nat} {l:SpO} (h:qlo nt l) (nm:Nm):qbq (qfx nt l) nm=(qdg l nm).map KOb.ob:=by
 unfold qbq qdg
 rw[denseO_get?]
 split
 ·rename_i x hx
  split at hx
  ·cases hx;rw[List.getElem?_map]
  ·cases hx
 ·rename_i hx
  split at hx
  ·cases hx
  ·rw[h.get_ge (by omega)];rfl
theorem qye {nt:Nat} {l:SpO} (h:qlo nt l) {nm:Nm} {o:KOb} (ho:qdg l nm=some o):nm.1 < nt:=by
 apply Classical.byContradiction
 intro hn
 unfold qdg at ho
 rw[h.get_ge (by omega)] at ho
 cases ho
theorem qds {nt:Nat} {l:SpO} (h:qlo nt l) {nm:Nm} {o:KOb} (ho:qdg l nm=some o):o.ok:=h.get_ok (List.mem_of_getElem? ho)
theorem qmd {nt:Nat} {l:SpO} (h:qlo nt l) (nm:Nm) (o:KOb):qfx nt (kput l nm o)=qdc (qfx nt l) nm o.ob:=by
 unfold kput qdc
 cases hk:qdg l nm with
 | some o' =>
  have hlt:=qye h hk
  simp only
  rw[qj8,denseO_get?,if_pos hlt]
  simp[List.map_set]
 | none =>
  simp only
  rw[denseO_get?]
  split
  ·rename_i x hx
   split at hx
   ·cases hx
    have h1:((qc1 l nm.1).map KOb.ob).set nm.2 o.ob=(qc1 l nm.1).map KOb.ob:=by
     rw[List.set_eq_of_length_le]
     have:=List.getElem?_eq_none_iff.1 hk
     simpa using this
    rw[h1]
    refine qj9 (by simp[qdz]) fun i hi=>?_
    rw[List.getElem?_set,qdz,denseO_get?]
    by_cases h2:nm.1=i
    ·subst h2;simp[hi]
    ·simp[h2,hi]
   ·cases hx
  ·rfl
theorem qlo.kput {nt:Nat} {l:SpO} (h:qlo nt l) (nm:Nm) {o:KOb} (ho:o.ok):qlo nt (kput l nm o):=by
 unfold Go.Ab.kput
 cases hk:qdg l nm with
 | some o' =>
  refine h.put (qye h hk) fun x hx=>?_
  rcases List.mem_or_eq_of_mem_set hx with h1 | rfl
  ·exact h.get_ok h1
  ·exact ho
 | none=>exact h
theorem qxt {nt:Nat} {l:SpO} (h:qlo nt l) (nm:Nm):nm∈(qfx nt l).flatMap (fun l=>l.flatMap Ob.names)↔nm∈qlx l:=by
 rw[Qm8]
 simp only[List.mem_flatMap]
 constructor
 ·rintro ⟨x,hx,ob,hob,hn⟩
  obtain⟨i,hi⟩:=List.getElem?_of_mem hx
  rw[denseO_get?] at hi
  split at hi
  ·cases hi
   obtain⟨o,ho,rfl⟩:=List.mem_map.1 hob
   rw[KOb.ob_names (h.get_ok ho)] at hn
   have:qc1 l i≠[]:=by intro h1;rw[h1] at ho;cases ho
   exact⟨_,qni this,o,ho,hn⟩
  ·cases hi
 ·rintro ⟨p,hp,o,ho,hn⟩
  have:=h.get_mem hp
  refine⟨p.2.map KOb.ob,List.mem_of_getElem? (i:=p.1) ?_,o.ob,List.mem_map.2 ⟨o,ho,rfl⟩,?_⟩
  ·rw[denseO_get?,if_pos (h.lt p hp),this]
  ·rw[KOb.ob_names (h.ok p hp o ho)];exact hn
end Go.Ab


namespace Go.Ab
mutual
theorem Qbk {R:Type}:∀ (x:KV) (K:KV→R),qxo x K=K x
 | .un,_ | .sk,_ | .nils,_ | .cv _,_ | .yld _,_=>rfl
 | .lit b,K=>by cases b<;>rfl
 | .ref nm _,_ | .aref nm _ _ _,_ | .arr nm _ _ _,_ | .mp nm,_ | .it nm,_ | .wit nm,_=>by cases nm;rfl
 | .agg cs,K=>by simp only[qxo];rw[qqt cs]
 | .iface t x,K=>by simp only[qxo];rw[Qbk x]
 | .fn f cap,K=>by simp only[qxo];rw[qqt cap]
 | .tup xs,K=>by simp only[qxo];rw[qqt xs]
theorem qqt {R:Type}:∀ (xs:List KV) (K:List KV→R),Qbn xs K=K xs
 | [],_=>rfl
 | x :: xs,K=>by simp only[Qbn];rw[Qbk x,qqt xs]
end
theorem forceOb_eq {R:Type} (x:KOb) (K:KOb→R):Qpf x K=K x:=by cases x<;>simp[Qpf,qqt]
theorem Qbm {R:Type}:∀ (xs:List KOb) (K:List KOb→R),qyh xs K=K xs
 | [],_=>rfl
 | x :: xs,K=>by simp only[qyh];rw[forceOb_eq x,Qbm xs]
theorem qwm {R:Type}:∀ (xs:Sp) (K:Sp→R),Qbl xs K=K xs
 | [],_=>rfl
 |(j,x) :: xs,K=>by simp only[Qbl];rw[Qbk x,qwm xs]
theorem Qff {R:Type}:∀ (xs:SpO) (K:SpO→R),Qhg xs K=K xs
 | [],_=>rfl
 |(j,x) :: xs,K=>by simp only[Qhg];rw[Qbm x,Qff xs]
theorem Qfg {R:Type}:∀ (xs:List Sp) (K:List Sp→R),Qhh xs K=K xs
 | [],_=>rfl
 | x :: xs,K=>by simp only[Qhh];rw[qwm x,Qfg xs]
theorem qdm {R:Type} (ks:KSt) (K:KSt→R):qj5 ks K=K ks:=by
 cases ks;simp only[qj5];rw[qwm,Qff,Qfg]
structure KSt.Ok (ks:KSt):Prop where
 tm:qml ks.nt ks.tmps
 ob:qlo ks.nt ks.objs
 kp:∀ sp∈ks.keep,qml ks.nt sp
theorem cstK_pv (v:PV):(cstK v).pv=v:=by
 unfold cstK
 split<;>simp[KV.pv,pvL]
theorem cstK_ok {v:PV} (h:okV v=true):(cstK v).ok:=by
 unfold cstK
 split
 ·trivial
 ·trivial
 ·trivial
 ·exact h
variable {ks:KSt}
theorem qvz (h:ks.Ok) (x:RX):x.ev ks.st.tmps=(x.kv ks.tmps).pv:=by
 cases x with
 | t i=>exact qj7 h.tm i
 | c v=>exact (cstK_pv v).symm
theorem kv_ok (h:ks.Ok) {x:RX} (hx:okX x=true):(x.kv ks.tmps).ok:=by
 cases x with
 | t i=>exact h.tm.get_ok i
 | c v=>exact cstK_ok hx
theorem qk3 (h:ks.Ok) (nm:Nm):qbq ks.st.objs nm=(qdg ks.objs nm).map KOb.ob:=Qpr h.ob nm
theorem qd8 (h:ks.Ok):qbq ks.st.objs=fun nm=>(qdg ks.objs nm).map KOb.ob:=funext (qk3 h)
theorem KOb.off_ob (p:Nm→Bool) {o:KOb} (h:o.ok):(o.off p).ob=o.ob.sub (qr4 p):=by
 cases o with
 | cells ty cs=>simp[KOb.off,KOb.ob,Ob.sub,qzo p h]
 | whole ty v =>
  have:=(qb9 (qcx h)).1
  simp only[KOb.off,KOb.ob,Ob.sub,qg0]
  rw[subL_none this]
 | _=>rfl
where
 subL_none {xs:List PV} (h:qbn xs=[]):qgc (qr4 p) xs=xs:=by
  induction xs with
  | nil=>rfl
  | cons x xs ih =>
   simp[qbn] at h
   simp[qgc,qms h.1,ih h.2]
theorem KOb.off_ok (p:Nm→Bool) {o:KOb} (h:o.ok):(o.off p).ok:=by
 cases o with
 | cells ty cs=>exact qzp p h
 | _=>exact h
theorem qyw (f:Nm→Option (Option Ob)) (xs ys:List PV):qgc f (xs++ys)=qgc f xs++qgc f ys:=by
 induction xs with
 | nil=>rfl
 | cons x xs ih=>simp[qgc,ih]
theorem qyi {nt:Nat} {l:List Sp} {f:KV→KV} {g:List PV→List PV} (hg:g []=[]) (ha:∀ xs ys,g (xs++ys)=g xs++g ys) (h:∀ sp∈l,qd2 nt (qmm f sp)=g (qd2 nt sp)) :
  (l.map (qmm f)).flatMap (qd2 nt)=g (l.flatMap (qd2 nt)):=by
 induction l with
 | nil=>simp[hg]
 | cons x l ih =>
  simp only[List.map_cons,List.flatMap_cons,ha]
  rw[h x (by simp),ih fun sp hsp=>h sp (by simp[hsp])]
theorem Qn3 (p:Nm→Bool) (h:ks.Ok):(Qd3 p ks).st=qlv (qr4 p) ks.st:=by
 unfold Qd3 KSt.st qlv
 simp only
 rw[qvl h.tm (by simp[KV.off]) (fun x hx=>KV.off_pv p hx),qrv h.ob (fun o ho=>KOb.off_ob p ho),
  qyi (g:=qgc (qr4 p)) rfl (qyw _) fun sp hsp=>qvl (h.kp sp hsp) (by simp[KV.off]) fun x hx=>KV.off_pv p hx]
theorem Qn4 (p:Nm→Bool) (h:ks.Ok):(Qd3 p ks).Ok where
 tm:=h.tm.map fun x hx=>KV.off_ok p hx
 ob:=h.ob.map fun x hx=>KOb.off_ok p hx
 kp sp hsp:=by
  obtain⟨q,hq,rfl⟩:=List.mem_map.1 hsp
  exact (h.kp q hq).map fun x hx=>KV.off_ok p hx
theorem KOb.close_ob (g:Nm→Option Ob) {o:KOb} (h:o.ok):o.close g=o.ob.sub (qpi g):=by
 cases o with
 | cells ty cs=>simp[KOb.close,KOb.ob,Ob.sub,qpc g h]
 | whole ty v =>
  have:=(qb9 (qcx h)).1
  simp only[KOb.close,KOb.ob,Ob.sub,qg0]
  rw[subL_none this]
 | _=>rfl
where
 subL_none {xs:List PV} (h:qbn xs=[]):qgc (qpi g) xs=xs:=by
  induction xs with
  | nil=>rfl
  | cons x xs ih =>
   simp[qbn] at h
   simp[qgc,qms h.1,ih h.2]
theorem qwf {σ:Nm→Option KOb} (hσ:∀ nm o,σ nm=some o→o.ok):∀ (d:Nat) (nm:Nm),qd6 σ d nm=(σ nm).map fun o=>qne (fun nm=>(σ nm).map KOb.ob) d o.ob:=by
 intro d
 induction d with
 | zero =>
  intro nm
  unfold qd6
  cases h:σ nm with
  | none=>rfl
  | some o=>simp only[Option.map_some];rw[KOb.close_ob _ (hσ _ _ h)];rfl
 | succ d ih =>
  intro nm
  unfold qd6
  cases h:σ nm with
  | none=>rfl
  | some o =>
   simp only[Option.map_some]
   rw[KOb.close_ob _ (hσ _ _ h)]
   congr 1
   unfold qne
   congr 1
   funext m
   unfold qpi
   rw[ih m,Option.map_map]
   rfl
def Qqp (σ:Nm→Option KOb):Prop:=∀ nm ty cs,σ nm=some (.cells ty cs)→qle cs=false
theorem qjd {σ:Nm→Option KOb} (hσ:∀ nm o,σ nm=some o→o.ok) (hq:Qqp σ):∀ (d:Nat) (nm:Nm) (ob:Ob),qd6 σ d nm=some ob→ob.shut:=by
 intro d
 induction d with
 | zero =>
  intro nm ob h
  unfold qd6 at h
  cases ho:σ nm with
  | none=>rw[ho] at h;cases h
  | some o =>
   rw[ho] at h;cases h
   have hok:=hσ _ _ ho
   cases o with
   | cells ty cs=>exact (qk1 (fun _ _ h=>by cases h) hok (hq _ _ _ ho))
   | whole ty v=>exact (qcx hok)
   | arr k kt xs=>exact hok
   | map es=>exact hok
   | siter s pos=>trivial
 | succ d ih =>
  intro nm ob h
  unfold qd6 at h
  cases ho:σ nm with
  | none=>rw[ho] at h;cases h
  | some o =>
   rw[ho] at h;cases h
   have hok:=hσ _ _ ho
   cases o with
   | cells ty cs=>exact (qk1 ih hok (hq _ _ _ ho))
   | whole ty v=>exact (qcx hok)
   | arr k kt xs=>exact hok
   | map es=>exact hok
   | siter s pos=>trivial
theorem KOb.frz_ob (p:Nm→Bool) (g:Nm→Option Ob) {o:KOb} (h:o.ok):(o.frz p g).ob=o.ob.sub (qh7 p g):=by
 cases o with
 | cells ty cs=>simp[KOb.frz,KOb.ob,Ob.sub,Qbh p g h]
 | whole ty v =>
  have:=(qb9 (qcx h)).1
  simp only[KOb.frz,KOb.ob,Ob.sub,qg0]
  rw[subL_none this]
 | _=>rfl
where
 subL_none {xs:List PV} (h:qbn xs=[]):qgc (qh7 p g) xs=xs:=by
  induction xs with
  | nil=>rfl
  | cons x xs ih =>
   simp[qbn] at h
   simp[qgc,qms h.1,ih h.2]
theorem KOb.frz_ok {p:Nm→Bool} {g:Nm→Option Ob} (hg:∀ nm ob,g nm=some ob→ob.shut) {o:KOb} (h:o.ok):(o.frz p g).ok:=by
 cases o with
 | cells ty cs=>exact Qbi hg h
 | _=>exact h
theorem kputs_ok {nt:Nat}:∀ (R:List Nm) {l:SpO},qlo nt l→qlo nt (R.foldl (fun objs nm=>kput objs nm qrz) l):=by
 intro R
 induction R with
 | nil=>intro l h;exact h
 | cons nm R ih=>intro l h;exact ih (h.kput nm (o:=qrz) rfl)
theorem kputs_st {nt:Nat}:∀ (R:List Nm) {l:SpO},qlo nt l→qfx nt (R.foldl (fun objs nm=>kput objs nm qrz) l)=R.foldl (fun objs nm=>qdc objs nm qjj) (qfx nt l):=by
 intro R
 induction R with
 | nil=>intro l _;rfl
 | cons nm R ih =>
  intro l h
  simp only[List.foldl_cons]
  rw[ih (h.kput nm (o:=qrz) rfl),qmd h]
  rfl
theorem qcs (h:ks.Ok):∀ nm o,qdg ks.objs nm=some o→o.ok:=fun _ _ ho=>qds h.ob ho
theorem kclosed_st (h:ks.Ok) (nm:Nm):qpi (qd6 (qdg ks.objs) qbp) nm=qcp (qbq ks.st.objs) nm:=by
 unfold qpi qcp
 rw[qwf (qcs h),qd8 h,Option.map_map]
 rfl
theorem kquiet_ok {l:SpO} (h:qkq l=true):∀ p∈l,∀ ty cs,KOb.cells ty cs∈p.2→qle cs=false:=by
 induction l with
 | nil=>intro p hp;cases hp
 | cons q l ih =>
  obtain⟨k,u⟩:=q
  simp only[qkq,Bool.and_eq_true] at h
  intro p hp ty cs hcs
  rcases List.mem_cons.1 hp with rfl | hp
  ·have:=List.all_eq_true.1 h.1 _ hcs
   simpa using this
  ·exact ih h.2 p hp ty cs hcs
theorem qnm {l:SpO} (h:qkq l=true):Qqp (qdg l):=by
 intro nm ty cs ho
 have hm:qc1 l nm.1≠[]:=by intro h1;unfold qdg at ho;rw[h1] at ho;cases ho
 exact kquiet_ok h _ (qni hm) ty cs (List.mem_of_getElem? ho)
theorem Qn6 {l:KSt} (hl:l.Ok) {σ:Nm→Option KOb} (hσ:∀ nm o,σ nm=some o→o.ok) (hq:Qqp σ) (R:List Nm) :
  (Qha σ R l).st=qch (fun nm=>(σ nm).map KOb.ob) R l.st:=by
 have hf:qh7 (fun m=>R.contains m) (qd6 σ qbp)=fun m=>if R.contains m=true then qcp (fun nm=>(σ nm).map KOb.ob) m else none:=by
  funext m
  unfold qh7 qcp
  rw[qwf hσ,Option.map_map]
  rfl
 unfold Qha qch qlv KSt.st
 simp only
 rw[qvl hl.tm (g:=qh7 (fun m=>R.contains m) (qd6 σ qbp)) (by simp[KV.frz]) (fun x hx=>KV.frz_pv _ _ hx),
  kputs_st R (hl.ob.map fun x hx=>KOb.frz_ok (qjd hσ hq qbp) hx),qrv hl.ob (fun o ho=>KOb.frz_ob _ _ ho),
  qyi (g:=qgc (qh7 (fun m=>R.contains m) (qd6 σ qbp))) rfl (qyw _) fun sp hsp=>qvl (hl.kp sp hsp) (by simp[KV.frz]) fun x hx=>KV.frz_pv _ _ hx,hf]
theorem kfreeze_ok {l:KSt} (hl:l.Ok) {σ:Nm→Option KOb} (hσ:∀ nm o,σ nm=some o→o.ok) (hq:Qqp σ) (R:List Nm):(Qha σ R l).Ok where
 tm:=hl.tm.map fun x hx=>KV.frz_ok (qjd hσ hq qbp) hx
 ob:=kputs_ok R (hl.ob.map fun x hx=>KOb.frz_ok (qjd hσ hq qbp) hx)
 kp sp hsp:=by
  obtain⟨q,hq',rfl⟩:=List.mem_map.1 hsp
  exact (hl.kp q hq').map fun x hx=>KV.frz_ok (qjd hσ hq qbp) hx
structure qcd.Ok (o:qcd):Prop where
 v:o.v.ok
 new:∀ x∈o.new,x.ok
 upd:∀ nm x,o.upd=some (nm,x)→x.ok
 ups:∀ p∈o.ups,p.2.ok:=by simp
def qcd.out (o:qcd):Out:={v:=o.v.pv,new:=o.new.map KOb.ob,upd:=o.upd.map fun p=>(p.1,p.2.ob),kill:=o.kill,frz:=o.frz,gone:=o.gone,ups:=o.ups.map fun p=>(p.1,p.2.ob),io:=o.io,slot:=o.slot}
def bupd (u:Option (Nm×Ob)) (st:St):St :=
 match u with
 | some (nm,ob)=>{st with objs:=qdc st.objs nm ob}
 | none=>st
def Qp0 (k:Option Nm) (st:St):St :=
 match k with
 | some nm=>qlv (fun m=>if m=nm then some none else none) st
 | none=>st
def bset (dst:Option Nat) (v:PV) (new:List Ob) (st:St):St :=
 match dst with
 | some d=>{st with tmps:=st.tmps.set d v,objs:=if new.isEmpty then st.objs else st.objs.set d new}
 | none=>st
def bgone (l:List Nm) (st:St):St:=if l.isEmpty then st else qlv (fun m=>if l.contains m then some none else none) st
def Qpz (l:List (Nm×Ob)) (st:St):St:=if l.isEmpty then st else {st with objs:=qlb l st.objs}
def bext (sl:Option Nat) (new:List Ob) (st:St):St :=
 match sl with
 | some r=>{st with objs:=st.objs.set r (st.objs.getD r []++new)}
 | none=>st
def Qkg (sl:Option Nat) (new:List Ob):List Ob :=
 match sl with
 | some _=>[]
 | none=>new
theorem Qh8 (st:St) (dst:Option Nat) (o:Out):apply st dst o=bset dst o.v (Qkg o.slot o.new) (bext o.slot o.new<|Qpz o.ups (bgone o.gone (if o.frz.isEmpty then Qp0 o.kill (bupd o.upd st) else qch (qbq st.objs) o.frz (Qp0 o.kill (bupd o.upd st))))):=by
 unfold apply bset Qp0 bupd bgone Qpz bext Qkg
 cases dst<;>cases o.upd<;>cases o.kill<;>cases o.slot<;>rfl
theorem kups_ok {nt:Nat}:∀ (l:List (Nm×KOb)) {σ:SpO},(∀ p∈l,p.2.ok)→qlo nt σ→qlo nt (kups l σ):=by
 intro l
 induction l with
 | nil=>intro σ _ h;exact h
 | cons p l ih =>
  obtain⟨nm,o⟩:=p
  intro σ hl h
  exact ih (fun q hq=>hl q (List.mem_cons_of_mem _ hq)) (h.kput nm (hl (nm,o) List.mem_cons_self))
theorem kups_st {nt:Nat}:∀ (l:List (Nm×KOb)) {σ:SpO},(∀ p∈l,p.2.ok)→qlo nt σ→qfx nt (kups l σ)=qlb (l.map fun p=>(p.1,p.2.ob)) (qfx nt σ):=by
 intro l
 induction l with
 | nil=>intro σ _ h;rfl
 | cons p l ih =>
  obtain⟨nm,o⟩:=p
  intro σ hl h
  show qfx nt (kups l (kput σ nm o))=qlb (l.map fun p=>(p.1,p.2.ob)) (qdc (qfx nt σ) nm o.ob)
  rw[ih (fun q hq=>hl q (List.mem_cons_of_mem _ hq)) (h.kput nm (hl (nm,o) List.mem_cons_self)),qmd h]
theorem qsv (h:ks.Ok) {o:qcd} (hq:(o.frz.isEmpty||qkq ks.objs)=true) (dst:Option Nat) (ho:o.Ok):(qny ks dst o).st=apply ks.st dst o.out∧(qny ks dst o).Ok:=by
 rw[Qh8]
 unfold qny qcd.out
 simp only
 have h1:(kupd o.upd ks).Ok∧(kupd o.upd ks).st=bupd (o.upd.map fun p=>(p.1,p.2.ob)) ks.st:=by
  cases hu:o.upd with
  | none=>exact⟨h,rfl⟩
  | some p =>
   obtain⟨nm,ob⟩:=p
   refine⟨⟨h.tm,h.ob.kput nm (ho.upd _ _ hu),h.kp⟩,?_⟩
   simp only[Option.map_some,kupd,bupd,KSt.st]
   rw[qmd h.ob]
 rw[←h1.2]
 generalize kupd o.upd ks=k1 at h1 ⊢
 have h2:(kkill o.kill k1).Ok∧(kkill o.kill k1).st=Qp0 o.kill k1.st:=by
  cases hu:o.kill with
  | none=>exact⟨h1.1,rfl⟩
  | some nm =>
   refine⟨Qn4 _ h1.1,?_⟩
   simp only[kkill,Qp0]
   rw[Qn3 _ h1.1]
   congr 1
   funext m
   unfold qr4
   by_cases hm:m=nm
   ·simp[hm]
   ·simp[hm]
 rw[←h2.2]
 generalize kkill o.kill k1=k2 at h2 ⊢
 have h3:(kfrzs (qdg ks.objs) o.frz k2).Ok∧(kfrzs (qdg ks.objs) o.frz k2).st=(if o.frz.isEmpty=true then k2.st else qch (qbq ks.st.objs) o.frz k2.st):=by
  cases hf:o.frz with
  | nil=>exact⟨h2.1,rfl⟩
  | cons nm R =>
   have hq:qkq ks.objs=true:=by rw[hf] at hq;simpa using hq
   refine⟨kfreeze_ok h2.1 (qcs h) (qnm hq) _,?_⟩
   rw[qd8 h]
   exact Qn6 h2.1 (qcs h) (qnm hq) _
 rw[←h3.2]
 generalize kfrzs (qdg ks.objs) o.frz k2=k4 at h3 ⊢
 have h5:(kgone o.gone k4).Ok∧(kgone o.gone k4).st=bgone o.gone k4.st:=by
  cases hg:o.gone with
  | nil=>exact⟨h3.1,rfl⟩
  | cons nm l =>
   refine⟨Qn4 _ h3.1,?_⟩
   simp only[kgone,bgone,List.isEmpty_cons,Bool.false_eq_true,if_false]
   rw[Qn3 _ h3.1]
   congr 1
 rw[←h5.2]
 generalize kgone o.gone k4=k5 at h5 ⊢
 have h6:(kturn o.ups k5).Ok∧(kturn o.ups k5).st=Qpz (o.ups.map fun p=>(p.1,p.2.ob)) k5.st:=by
  refine⟨⟨h5.1.tm,kups_ok _ ho.ups h5.1.ob,h5.1.kp⟩,?_⟩
  have:∀ (l:List (Nm×Ob)) (s:St),Qpz l s={s with objs:=qlb l s.objs}:=by
   intro l s
   unfold Qpz
   split
   ·rename_i hl;rw[List.isEmpty_iff.1 hl];rfl
   ·rfl
  rw[this]
  simp only[kturn,KSt.st]
  rw[kups_st _ ho.ups h5.1.ob]
 rw[←h6.2]
 generalize kturn o.ups k5=k6 at h6 ⊢
 have h7:(kext o.slot o.new k6).Ok∧(kext o.slot o.new k6).st=bext o.slot (o.new.map KOb.ob) k6.st:=by
  cases hs:o.slot with
  | none=>exact⟨h6.1,rfl⟩
  | some r =>
   simp only[kext,bext]
   cases hr:Nat.blt r k6.nt with
   | true =>
    have hr':r < k6.nt:=by simpa[Nat.blt_eq] using hr
    refine⟨⟨h6.1.tm,h6.1.ob.put hr' fun x hx=>?_,h6.1.kp⟩,?_⟩
    ·rcases List.mem_append.1 hx with hx | hx
     ·exact h6.1.ob.get_ok hx
     ·exact ho.new x hx
    ·unfold KSt.st
     simp only
     rw[qj8,List.map_append]
     congr 3
     rw[List.getD_eq_getElem?_getD,denseO_get?,if_pos hr']
     rfl
   | false =>
    have hr':¬ r < k6.nt:=by intro h;rw[show Nat.blt r k6.nt=true by simpa[Nat.blt_eq] using h] at hr;cases hr
    refine⟨h6.1,?_⟩
    unfold KSt.st
    simp only
    rw[List.set_eq_of_length_le (by rw[qdz];omega)]
 rw[←h7.2]
 have hnew2:Qkg o.slot (o.new.map KOb.ob)=(newAt o.slot o.new).map KOb.ob:=by cases o.slot<;>rfl
 rw[hnew2]
 have honew:∀ x∈newAt o.slot o.new,x.ok:=by
  cases o.slot with
  | none=>exact ho.new
  | some r=>intro x hx;cases hx
 generalize newAt o.slot o.new=nw at honew ⊢
 generalize kext o.slot o.new k6=k3 at h7 ⊢
 obtain⟨ok3,_⟩:=h7
 cases dst with
 | none=>exact⟨rfl,ok3⟩
 | some d =>
  simp only[kset,bset]
  cases hd:Nat.blt d k3.nt with
  | true =>
   have hd':d < k3.nt:=by simpa[Nat.blt_eq] using hd
   refine⟨?_,?_⟩
   ·unfold KSt.st
    simp only
    rw[Ql7]
    cases hn:nw with
    | nil=>simp
    | cons x xs=>simp[qj8]
   ·refine⟨ok3.tm.set hd' ho.v,?_,ok3.kp⟩
    simp only
    cases hn:nw with
    | nil=>exact ok3.ob
    | cons x xs=>rw[hn] at honew;exact ok3.ob.put hd' honew
  | false =>
   have hd':¬ d < k3.nt:=by intro h;rw[show Nat.blt d k3.nt=true by simpa[Nat.blt_eq] using h] at hd;cases hd
   refine⟨?_,ok3⟩
   unfold KSt.st
   simp only
   rw[List.set_eq_of_length_le (by rw[qca];omega)]
   split
   ·rfl
   ·rw[List.set_eq_of_length_le (by rw[qdz];omega)]
end Go.Ab


namespace Go.Ab
theorem Qr9 (T:List PV):∀ (ps:List (Nat×Nat×RX)) (z:List PV),qkw [] z (ps.map fun p=>(p.1,p.2.1,.c (p.2.2.ev T)))=qkw T z ps:=by
 intro ps
 induction ps with
 | nil=>intro z;rfl
 | cons p ps ih =>
  obtain⟨off,n,x⟩:=p
  intro z
  simp only[List.map_cons,qkw]
  rw[ih]
  rfl
theorem qnc (T:List PV) (x:Option RX):evO [] (x.map fun y=>.c (y.ev T))=evO T x:=by cases x<;>rfl
theorem exec_inst (d:Nat) (σ:Nm→Option Ob) (T:List PV) (op:ROp) (hg:isG op=true):exec d σ [] (op.mapX fun x=>.c (x.ev T))=exec d σ T op:=by
 cases op with
 | build z ps=>simp only[ROp.mapX,exec];rw[Qr9 T]
 | slice k x lo hi mx=>simp only[ROp.mapX,exec];rw[qnc,qnc,qnc];rfl
 | strSlice x lo hi=>simp only[ROp.mapX,exec];rw[qnc,qnc];rfl
 | minmax mx xs=>simp only[ROp.mapX,exec,List.map_map];rfl
 | mov | pick | box | alloc | mkSl | store | mkI | mkF | mkMap | insert | mkS | append | copy | call | iter | next | bad=>simp[isG] at hg
 | _=>rfl
theorem qko {f g:RX→RX} {o:Option RX} (h:∀ a∈o.toList,f a=g a):o.map f=o.map g:=by
 cases o with
 | none=>rfl
 | some a=>simp[h a (by simp)]
theorem mapX_congr {f g:RX→RX} (op:ROp) (hg:isG op=true) (h:∀ x∈op.xs,f x=g x):op.mapX f=op.mapX g:=by
 cases op with
 | build z ps =>
  simp only[ROp.mapX]
  congr 1
  apply List.map_congr_left
  intro p hp
  rw[h p.2.2 (List.mem_map.2 ⟨p,hp,rfl⟩)]
 | slice k x lo hi mx =>
  simp only[ROp.mapX,ROp.xs] at h ⊢
  rw[h x (by simp),qko (o:=lo) fun a ha=>h a (by simp[ha]),qko (o:=hi) fun a ha=>h a (by simp[ha]),qko (o:=mx) fun a ha=>h a (by simp[ha])]
 | strSlice x lo hi =>
  simp only[ROp.mapX,ROp.xs] at h ⊢
  rw[h x (by simp),qko (o:=lo) fun a ha=>h a (by simp[ha]),qko (o:=hi) fun a ha=>h a (by simp[ha])]
 | minmax mx xs=>simp only[ROp.mapX];congr 1;exact List.map_congr_left h
 | mov | pick | box | alloc | mkSl | store | mkI | mkF | mkMap | insert | mkS | append | copy | call | iter | next | bad=>simp[isG] at hg
 | bin op c cst x y=>simp only[ROp.mapX,ROp.xs] at h ⊢;rw[h x (by simp),h y (by simp)]
 | lookup c z ok x k=>simp only[ROp.mapX,ROp.xs] at h ⊢;rw[h x (by simp),h k (by simp)]
 | idxAddr k x i=>simp only[ROp.mapX,ROp.xs] at h ⊢;rw[h x (by simp),h i (by simp)]
 | idxAddrA k l x i=>simp only[ROp.mapX,ROp.xs] at h ⊢;rw[h x (by simp),h i (by simp)]
 | strIdx x i=>simp only[ROp.mapX,ROp.xs] at h ⊢;rw[h x (by simp),h i (by simp)]
 | load n ag x | nilck x | un op x | conv k x | toBytes x | ofBytes x | ofRune x | strId x | fieldAddr off x | field off n ag x | extract j x | len c x | tassert t z ok x=>simp only[ROp.mapX,ROp.xs] at h ⊢;rw[h x (by simp)]
theorem reach_nil' (σ:Nm→Option Ob):∀ d,qcv σ d []=[]:=by
 intro d;induction d with
 | zero=>rfl
 | succ d ih=>simp[qcv,ih]
theorem Qlz {d:Nat} {σ:Nm→Option Ob} {T:List PV} {op:ROp} (hg:isG op=true) (hx:∀ x∈op.xs,okV (x.ev T)=true):exec d σ T op=exec 0 (fun _=>none) T op:=by
 have h1:exec d σ T op=exec 0 σ T op:=by cases op<;>simp[isG] at hg<;>rfl
 rw[h1]
 refine Qfm op (fun _ _=>rfl) ?_
 have:qbn (op.xs.map (RX.ev T))=[]:=(qb9 (qfl.2 fun v hv=>by
  obtain⟨x,hx',rfl⟩:=List.mem_map.1 hv
  exact hx x hx')).1
 rw[this]
 intro nm hnm
 rw[reach_nil'] at hnm;cases hnm
theorem okV_fill {T:List PV}:∀ (ps:List (Nat×Nat×RX)) (z cs:List PV),qb8 z=true→(∀ x∈ps.map (·.2.2),okV (x.ev T)=true)→qkw T z ps=some cs→qb8 cs=true:=by
 intro ps
 induction ps with
 | nil=>intro z cs hz _ h;simp[qkw] at h;subst h;exact hz
 | cons p ps ih =>
  obtain⟨off,n,y⟩:=p
  intro z cs hz hp h
  simp only[qkw] at h
  obtain⟨_,h⟩:=qfj h
  refine ih _ cs ?_ (fun x hx=>hp x (by simp only[List.map_cons,List.mem_cons];exact .inr hx)) h
  exact qd4 (qd4 (qg7 hz _) (qcx (hp y (by simp)))) (qjk hz _)
theorem qzg {cs:List PV} (h:qb8 cs=true) {o n:Nat} {ag:Bool} {v:PV} (hs:sel cs o n ag=some v):okV v=true:=by
 unfold sel at hs
 split at hs
 ·obtain⟨_,hs⟩:=qfj hs
  cases hs
  simpa[okV] using qg7 (qjk h o) n
 ·exact qkh h hs
theorem Qgk {k:PV}:∀ {es:List PV} {v:PV},qr0 k es=some (some v)→qb8 es=true→okV v=true
 | [],v,h,_=>by simp[qr0] at h
 | [_],v,h,_=>by simp[qr0] at h
 | a :: u :: es,v,h,he=>by
  simp only[qb8,Bool.and_eq_true] at he
  simp only[qr0] at h
  split at h
  ·cases h;exact he.2.1
  ·exact Qgk h he.2.2
  ·cases h
theorem Qno {k:Nat} {x v:PV} {lo hi mx:Option PV} (hx:okV x=true) (h:qhy k x lo hi mx=some v):okV v=true:=by
 cases x with
 | sl k' xs full =>
  simp only[qhy] at h
  split at h
  ·cases h
  split at h
  ·cases h
  split at h
  ·cases h
  obtain⟨_,h⟩:=qfj h
  cases h
  simp only[okV] at hx ⊢
  exact qjk (qg7 hx _) _
 | nilS =>
  simp only[qhy] at h
  split at h
  ·cases h
  split at h
  ·cases h
  split at h
  ·cases h
  obtain⟨_,h⟩:=qfj h
  cases h;rfl
 | arr nm k' o n=>simp[okV] at hx
 | _=>simp[qhy] at h
theorem Qka (s:List UInt8):qb8 (qcl s)=true:=qfl.2 fun x hx=>by
 obtain⟨b,_,rfl⟩:=List.mem_map.1 hx
 rfl
theorem okV_binPV {op:BinOp} {c:TC} {cst:Bool} {x y v:PV} (h:qnf op c cst x y=some v):okV v=true:=by
 have hI:∀ {op k a b v},qm6 op k a b=some v→okV v=true:=by
  intro op k a b v h
  unfold qm6 at h
  split at h
  all_goals first
   |(cases h;rfl)
   |(obtain⟨_,h⟩:=qfj h;cases h;rfl)
   |(obtain⟨b,_,rfl⟩:=Option.map_eq_some_iff.1 h;rfl)
 have hS:∀ {op a b v},qxx op a b=some v→okV v=true:=by
  intro op a b v h
  unfold qxx at h
  split at h
  all_goals first
   |(cases h;rfl)
   |(obtain⟨_,h⟩:=qfj h;cases h;rfl)
   | cases h
 unfold qnf at h
 split at h
 ·split at h
  ·obtain⟨_,h⟩:=qfj h;cases h;rfl
  ·obtain⟨_,h⟩:=qfj h;cases h;rfl
  ·obtain⟨_,h⟩:=qfj h;exact hI h
 ·exact hS h
 ·split at h
  ·obtain⟨b,_,rfl⟩:=Option.map_eq_some_iff.1 h;rfl
  ·obtain⟨b,_,rfl⟩:=Option.map_eq_some_iff.1 h;rfl
  ·cases h
structure Plain (o:Out):Prop where
 eq:o={v:=o.v}
 ok:okV o.v=true
theorem Plain.mk' {v:PV} (h:okV v=true):Plain {v:=v}:=⟨rfl,h⟩
theorem qtq {x:Option PV} {out:Out} (h:(x.map fun v=>({v:=v}:Out))=some out) (hv:∀ v,x=some v→okV v=true):Plain out:=by
 obtain⟨v,hx,rfl⟩:=Option.map_eq_some_iff.1 h
 exact .mk' (hv v hx)
theorem exec_plain {T:List PV} {op:ROp} (hg:isG op=true) (hx:∀ x∈op.xs,okV (x.ev T)=true) (hz:∀ z ps,op=.build z ps→qb8 z=true) (hl:∀ c z ok x k,op=.lookup c z ok x k→okV z=true)
  (ht:∀ t z ok x,op=.tassert t z ok x→okV z=true) {out:Out} (h:exec 0 (fun _=>none) T op=some out):Plain out:=by
 cases op with
 | mov | pick | box | alloc | mkSl | store | mkI | mkF | mkMap | insert | mkS | append | copy | call | iter | next | bad=>simp[isG] at hg
 | build z ps =>
  simp only[exec] at h
  split at h
  ·rename_i cs hc
   cases h
   exact .mk' (by simpa[okV] using okV_fill ps z cs (hz z ps rfl) hx hc)
  ·cases h
 | load n ag x =>
  have hv:=hx x (by simp[ROp.xs])
  simp only[exec] at h
  split at h
  ·rename_i e;rw[e] at hv;simp[okV] at hv
  ·rename_i e;rw[e] at hv
   exact qtq h fun v hs=>qzg (by simpa[okV] using hv) hs
  ·rename_i e;rw[e] at hv;simp[okV] at hv
  ·cases h
 | nilck x =>
  have hv:=hx x (by simp[ROp.xs])
  simp only[exec] at h
  split at h
  all_goals first
   |(rename_i e;rw[e] at hv;cases h;exact .mk' hv)
   | cases h
 | bin op c cst x y=>simp only[exec] at h;exact qtq h fun v=>okV_binPV
 | un op x =>
  simp only[exec] at h
  split at h
  ·cases h;exact .mk' rfl
  ·cases h;exact .mk' rfl
  ·cases h
 | conv k x=>simp only[exec] at h;split at h;(cases h;exact .mk' rfl);cases h
 | toBytes x =>
  simp only[exec] at h;split at h
  ·obtain⟨_,h⟩:=qfj h;cases h;exact .mk' (by simpa[okV] using Qka _)
  ·cases h
 | ofBytes x =>
  simp only[exec] at h;split at h
  ·split at h
   ·cases h;exact .mk' rfl
   ·cases h
  ·cases h
 | ofRune x=>simp only[exec] at h;split at h;(cases h;exact .mk' rfl);cases h
 | strId x=>simp only[exec] at h;split at h;(cases h;exact .mk' rfl);cases h
 | lookup c z ok x k =>
  have hv:=hx x (by simp[ROp.xs])
  have hz:=hl c z ok x k rfl
  simp only[exec] at h
  have hes:∀ es,(match x.ev T with | .mp nm=>(none:Option (List PV)) | .imap es=>some es | .nilM=>some [] | _=>none)=some es→qb8 es=true:=by
   intro es he
   cases hq:x.ev T<;>rw[hq] at he hv<;>simp only[reduceCtorEq,Option.some.injEq] at he
   ·subst he;rfl
   ·subst he;simpa[okV] using hv
  split at h
  ·cases h
  ·rename_i es he
   split at h
   ·cases h
   ·rename_i r hr
    obtain⟨_,h⟩:=qfj h
    cases h
    have hes':qb8 es=true:=hes es (by revert he;cases x.ev T<;>exact id)
    have hrz:okV (r.getD z)=true:=by
     cases r with
     | none=>exact hz
     | some v=>exact Qgk hr hes'
    refine .mk' ?_
    split
    ·simp[okV,qb8,hrz]
    ·exact hrz
 | slice k x lo hi mx=>simp only[exec] at h;exact qtq h fun v hs=>Qno (hx x (by simp[ROp.xs])) hs
 | strSlice x lo hi =>
  simp only[exec] at h
  split at h
  ·split at h
   ·cases h
   ·split at h
    ·cases h
    ·cases h;exact .mk' rfl
  ·cases h
 | fieldAddr off x =>
  have hv:=hx x (by simp[ROp.xs])
  simp only[exec] at h
  split at h
  ·rename_i e;rw[e] at hv;simp[okV] at hv
  ·rename_i e;rw[e] at hv;obtain⟨_,h⟩:=qfj h;cases h;exact .mk' (by simpa[okV] using hv)
  ·rename_i e;rw[e] at hv;simp[okV] at hv
  ·cases h
 | field off n ag x =>
  have hv:=hx x (by simp[ROp.xs])
  simp only[exec] at h
  split at h
  ·rename_i e;rw[e] at hv;exact qtq h fun v hs=>qzg (by simpa[okV] using hv) hs
  ·cases h
 | idxAddr k x i =>
  have hv:=hx x (by simp[ROp.xs])
  simp only[exec] at h
  split at h
  ·rename_i e;rw[e] at hv
   split at h
   ·rename_i y hy
    obtain⟨_,h⟩:=qfj h;cases h
    exact .mk' (by simpa[okV] using qcx (qkh (by simpa[okV] using hv) hy))
   ·cases h
  ·rename_i e;rw[e] at hv;simp[okV] at hv
  ·cases h
 | idxAddrA k l x i =>
  have hv:=hx x (by simp[ROp.xs])
  simp only[exec] at h
  split at h
  ·rename_i e;rw[e] at hv;obtain⟨_,h⟩:=qfj h;cases h;exact .mk' (by simpa[okV] using hv)
  ·rename_i e;rw[e] at hv;simp[okV] at hv
  ·cases h
 | strIdx x i =>
  simp only[exec] at h
  split at h
  ·split at h
   ·cases h;exact .mk' rfl
   ·cases h
  ·cases h
 | extract j x =>
  have hv:=hx x (by simp[ROp.xs])
  simp only[exec] at h
  split at h
  ·rename_i e;rw[e] at hv
   split at h
   ·rename_i v hg'
    cases h;exact .mk' (qkh (by simpa[okV] using hv) hg')
   ·cases h
  ·cases h
 | len c x=>simp only[exec] at h;obtain⟨n,_,rfl⟩:=Option.map_eq_some_iff.1 h;exact .mk' rfl
 | minmax mx xs =>
  simp only[exec] at h
  split at h
  ·obtain⟨n,_,rfl⟩:=Option.map_eq_some_iff.1 h;exact .mk' rfl
  ·cases h
 | tassert t z ok x =>
  have hv:=hx x (by simp[ROp.xs])
  have hz:=ht t z ok x rfl
  simp only[exec] at h
  split at h
  ·rename_i e;rw[e] at hv
   split at h
   ·cases h
    refine .mk' ?_
    simp only[okV] at hv
    split
    ·simp[okV,qb8,hv]
    ·exact hv
   ·obtain⟨_,h⟩:=qfj h;cases h;exact .mk' (by simp[okV,qb8,hz])
  ·obtain⟨_,h⟩:=qfj h;cases h;exact .mk' (by simp[okV,qb8,hz])
  ·cases h
end Go.Ab


namespace Go.Ab
theorem qcb {α β:Type} {x:Option α} {f:α→Option β} {r:β} (h:qbb x f=some r):∃ a,x=some a∧f a=some r:=by
 cases x with
 | none=>cases h
 | some a=>exact⟨a,rfl,h⟩
theorem qbr {β:Type} {b:Bool} {a:Option β} {r:β} (h:qbw b a=some r):b=true∧a=some r:=by
 cases b with
 | false=>cases h
 | true=>exact⟨rfl,h⟩
theorem ql6 {β:Type} {b:Bool} {x y:Option β} {r:β} (h:iteB b x y=some r):(b=true∧x=some r)∨(b=false∧y=some r):=by
 cases b with
 | false=>exact .inr ⟨rfl,h⟩
 | true=>exact .inl ⟨rfl,h⟩
theorem qt3 {β:Type} {v:PV} {x y:Option β} {r:β} (h:qdu v x y=some r):(v=.bool true∧x=some r)∨(v=.bool false∧y=some r):=by
 unfold qdu at h
 split at h
 ·exact .inl ⟨rfl,h⟩
 ·exact .inr ⟨rfl,h⟩
 ·cases h
theorem qz1 {a b:Nat}:leN a b=true↔a≤b:=by unfold leN;rw[Nat.ble_eq]
theorem qwc {a b:Nat}:ltN a b=true↔a < b:=by unfold ltN;rw[Nat.blt_eq]
theorem Qb7 {a b:Nat}:eqN a b=true↔a=b:=by unfold eqN;rw[Nat.beq_eq]
def Tells {R:Type} (K:qcd→Option R) (r:R) (x:Option Out):Prop:=∃ out:qcd,K out=some r∧out.Ok∧x=some out.out
theorem qcd.plain {v:KV} (h:v.ok):qcd.Ok {v}:=⟨h,by simp,by simp,by simp⟩
theorem qcd.one {v:KV} {o:KOb} (h:v.ok) (ho:o.ok):qcd.Ok {v,new:=[o]}:=⟨h,by simpa using ho,by simp,by simp⟩
theorem qcd.turn {v:KV} {nm:Nm} {o:KOb} (h:v.ok) (ho:o.ok):qcd.Ok {v,upd:=some (nm,o)}:=⟨h,by simp,fun _ _ e=>(by cases e;exact ho),by simp⟩
variable {ks:KSt} {d:Nat} {R:Type} {K:qcd→Option R} {r:R}
theorem ops_ok (h:ks.Ok) {xs:List RX} (hx:xs.all okX=true) {x:RX} (hm:x∈xs):(x.kv ks.tmps).ok:=kv_ok h (List.all_eq_true.1 hx x hm)
theorem cl_ev (h:ks.Ok) {x:RX} {v:PV} (hv:(x.kv ks.tmps).cl=some v):x.ev ks.st.tmps=v:=by rw[qvz h,KV.cl_pv hv]
theorem ql9 (h:ks.Ok) {op:ROp} (hx:op.xs.all okX=true) (hk:gO ks.tmps op K=some r):Tells K r (exec d (qbq ks.st.objs) ks.st.tmps op):=by
 unfold gO at hk
 split at hk
 ·rename_i hc
  simp only[Bool.and_eq_true] at hc
  obtain⟨⟨hg,hop⟩,hcl⟩:=hc
  obtain⟨z,hz,hk⟩:=qcb hk
  have hall:∀ x∈op.xs,∃ v,(x.kv ks.tmps).cl=some v:=fun x hm=>Option.isSome_iff_exists.1 (List.all_eq_true.1 hcl x hm)
  have hev:∀ x∈op.xs,okV (x.ev ks.st.tmps)=true:=fun x hm=>by
   obtain⟨v,hv⟩:=hall x hm
   rw[cl_ev h hv];exact KV.cl_ok (ops_ok h hx hm) hv
  have hmap:op.mapX (instX ks.tmps)=op.mapX (fun x=>.c (x.ev ks.st.tmps)):=mapX_congr op hg fun x hm=>by
   obtain⟨v,hv⟩:=hall x hm
   unfold instX;rw[hv,cl_ev h hv];rfl
  unfold qbd at hz
  rw[hmap,exec_inst _ _ _ _ hg] at hz
  split at hz
  ·rename_i out ho
   cases hz
   have hp:=exec_plain hg hev (fun z ps e=>by subst e;exact hop) (fun c z ok x k e=>by subst e;exact hop) (fun t z ok x e=>by subst e;exact hop) ho
   refine⟨{v:=.cv out.v},hk,qcd.plain hp.ok,?_⟩
   rw[Qlz hg hev,ho,hp.eq]
   rfl
  ·cases hz
 ·cases hk
theorem Qmj {n:Nat} {x:KV} (hx:x.ok) {K:List KV→Option R} (hk:Qso n x K=some r):∃ cs,K cs=some r∧qg2 cs∧pvL cs=x.pv.cells∧cs.length=n∧x.pv.isVal=true:=by
 unfold Qso at hk
 split at hk
 ·split at hk
  ·rename_i hn;exact⟨_,hk,hx,rfl,hn,rfl⟩
  ·cases hk
 ·rename_i v
  obtain⟨h1,h2⟩:=qbr hk
  unfold qcu at h1
  simp only[Bool.and_eq_true,beq_iff_eq] at h1
  refine⟨_,h2,?_,?_,by simp,h1.1⟩
  ·refine qdl.2 fun y hy=>?_
   obtain⟨i,hi,rfl⟩:=List.mem_map.1 hy
   have hv:okV v=true:=hx
   show okV (qbl v i)=true
   unfold qbl
   rw[List.getD_eq_getElem?_getD]
   cases hg:v.cells[i]? with
   | none=>rfl
   | some c=>exact qkh (qcx hv) hg
  ·rw[qg5,List.map_map]
   show _=v.cells
   apply List.ext_getElem?
   intro i
   rw[List.getElem?_map]
   by_cases hi:i < n
   ·rw[List.getElem?_range hi]
    show some (qbl v i)=_
    unfold qbl
    rw[List.getD_eq_getElem?_getD]
    have:i < v.cells.length:=by omega
    simp[List.getElem?_eq_getElem this]
   ·rw[List.getElem?_eq_none (by simpa using hi),List.getElem?_eq_none (by omega)];rfl
 ·cases hk
 ·cases hk
 ·cases hk
 ·rename_i h1 h2 h3 h4 h5
  split at hk
  ·rename_i hn
   refine⟨_,hk,⟨hx,trivial⟩,?_,by simp[hn],?_⟩
   ·simp only[pvL]
    cases x<;>simp_all [KV.pv,PV.cells]
   ·cases x<;>simp_all [KV.pv,PV.isVal]
  ·cases hk
theorem qqi {l:List KV} (h:qg2 l) (n:Nat):qg2 (l.take n):=qdl.2 fun x hx=>qdl.1 h x (List.mem_of_mem_take hx)
theorem qqj {l:List KV} (h:qg2 l) (n:Nat):qg2 (l.drop n):=qdl.2 fun x hx=>qdl.1 h x (List.mem_of_mem_drop hx)
theorem qh0 {l m:List KV} (h:qg2 l) (h':qg2 m):qg2 (l++m):=qdl.2 fun x hx=>(List.mem_append.1 hx).elim (qdl.1 h x) (qdl.1 h' x)
theorem qra (l:List KV) (n:Nat):pvL (l.take n)=(pvL l).take n:=by rw[qg5,qg5,List.map_take]
theorem qrb (l:List KV) (n:Nat):pvL (l.drop n)=(pvL l).drop n:=by rw[qg5,qg5,List.map_drop]
theorem qrc (l m:List KV):pvL (l++m)=pvL l++pvL m:=by rw[qg5,qg5,qg5,List.map_append]
theorem qfo (l:List KV):(pvL l).length=l.length:=by rw[qg5,List.length_map]
theorem pvL_get? (l:List KV) (i:Nat):(pvL l)[i]?=(l[i]?).map KV.pv:=by rw[qg5,List.getElem?_map]
theorem kfill_ok (h:ks.Ok):∀ (ps:List (Nat×Nat×RX)) {z:List KV} {K:List KV→Option R},(∀ x∈ps.map (·.2.2),okX x=true)→qg2 z→kfill ks.tmps z ps K=some r→∃ cs,K cs=some r∧qg2 cs∧qkw ks.st.tmps (pvL z) ps=some (pvL cs):=by
 intro ps
 induction ps with
 | nil=>intro z K _ hz hk;exact⟨z,hk,hz,rfl⟩
 | cons p ps ih =>
  obtain⟨off,n,x⟩:=p
  intro z K hx hz hk
  simp only[kfill] at hk
  obtain⟨cs,hk,hcs,hpv,hlen,hval⟩:=Qmj (kv_ok h (hx x (by simp))) hk
  split at hk
  ·rename_i hle
   obtain⟨cs',h1,h2,h3⟩:=ih (fun y hy=>hx y (by simp only[List.map_cons,List.mem_cons];exact .inr hy)) (qh0 (qh0 (qqi hz _) hcs) (qqj hz _)) hk
   refine⟨cs',h1,h2,?_⟩
   have hl2:(pvL cs).length=n:=by rw[qfo,hlen]
   have hval':(x.ev ks.st.tmps).isVal=true:=by rw[qvz h];exact hval
   have hcl':(x.ev ks.st.tmps).cells=pvL cs:=by rw[qvz h];exact hpv.symm
   simp only[qkw]
   rw[hcl']
   unfold chk splice
   simp only[hval',hl2,qfo,decide_true,Bool.and_self,Bool.true_and,hle,if_true]
   rw[qrc,qrc,qra,qrb] at h3
   exact h3
  ·cases hk
theorem Qb8 (h:ks.Ok) {k:Nat} {x:KV} (hx:x.ok) {K:List PV→Option R} (hk:Ql6 (qdg ks.objs) k x K=some r):∃ ys,K ys=some r∧qb8 ys=true∧qk8 (qbq ks.st.objs) k x.pv=some ys:=by
 unfold Ql6 at hk
 split at hk
 ·rename_i nm k' o n
  split at hk
  ·rename_i k'' kt xs hl
   split at hk
   ·rename_i hkk
    obtain⟨h1,h2⟩:=qbr hk
    rw[qz1] at h1
    have hok:qb8 xs=true:=qds h.ob hl
    refine⟨_,h2,qg7 (qjk hok _) _,?_⟩
    have hl':qbq ks.st.objs nm=some (.arr k'' kt xs):=by rw[qk3 h,hl];rfl
    unfold qcq qbs at h1
    simp[KV.pv,qk8,hl',chk,hkk.1,hkk.2,h1,qbu,qb4]
   ·cases hk
  ·cases hk
 ·split at hk
  ·rename_i v hv
   obtain⟨ys,h1,h2⟩:=qcb hk
   have hok:=KV.cl_ok hx hv
   have hpv:=KV.cl_pv hv
   unfold qjr at h1
   have h3:qk8 (qbq ks.st.objs) k v=some ys:=by
    rw[←h1]
    exact qpw (by rw[(qgu hok).1];simp)
   refine⟨ys,h2,?_,by rw[hpv];exact h3⟩
   cases v with
   | sl k' xs f=>simp only[qk8] at h1;obtain⟨_,h1⟩:=qfj h1;cases h1;simpa[okV] using hok
   | nilS=>cases h1;rfl
   | str s=>simp only[qk8] at h1;obtain⟨_,h1⟩:=qfj h1;cases h1;exact Qka _
   | arr nm k' o n=>simp[okV] at hok
   | _=>simp[qk8] at h1
  ·cases hk
theorem Qb9 {xs:List KV} (hx:qg2 xs):(qbn (pvL xs)).isEmpty=(qd5 xs).isEmpty:=by rw[qff hx]
theorem qg8 {σ:Nm→Option KOb} (hσ:∀ nm o,σ nm=some o→o.ok):∀ (d:Nat) (l:List Nm),qnu σ d l=qcv (fun nm=>(σ nm).map KOb.ob) d l:=by
 intro d
 induction d with
 | zero=>intro l;rfl
 | succ d ih =>
  intro l
  simp only[qnu,qcv]
  have e:(l.flatMap fun nm=>((σ nm).map KOb.names).getD [])=l.flatMap fun nm=>(((σ nm).map KOb.ob).map Ob.names).getD []:=by
   congr 1
   funext nm
   cases ho:σ nm with
   | none=>rfl
   | some o=>simp[KOb.ob_names (hσ _ _ ho)]
  rw[ih,e]
theorem names_eq {σ:Nm→Option KOb} (hσ:∀ nm o,σ nm=some o→o.ok) (nm:Nm):((σ nm).map KOb.names).getD []=(((σ nm).map KOb.ob).map Ob.names).getD []:=by
 cases ho:σ nm with
 | none=>rfl
 | some o=>simp[KOb.ob_names (hσ _ _ ho)]
theorem qrn {σ:Nm→Option KOb} (hσ:∀ nm o,σ nm=some o→o.ok) (R:List Nm):Qku σ R=qkm (fun nm=>(σ nm).map KOb.ob) R:=by
 unfold Qku qkm
 congr 1
 funext nm
 simp only
 rw[names_eq hσ]
theorem qqy (h:ks.Ok) {xs:List KV} (hx:qg2 xs):qmf (qd6 (qdg ks.objs) qbp) xs=qgc (qcp (qbq ks.st.objs)) (pvL xs):=by
 rw[qpc _ hx]
 congr 1
 funext nm
 exact kclosed_st h nm
theorem qql (h:ks.Ok) (ps:List RX):ps.map (RX.ev ks.st.tmps)=pvL (ps.map (RX.kv ks.tmps)):=by
 rw[qg5,List.map_map]
 exact List.map_congr_left fun x _=>qvz h x
theorem qzv (h:ks.Ok) {ps:List RX} (hx:ps.all okX=true):qg2 (ps.map (RX.kv ks.tmps)):=qdl.2 fun v hv=>by
 obtain⟨x,hm,rfl⟩:=List.mem_map.1 hv
 exact ops_ok h hx hm
theorem Qcs {z:PV} (hz:okV z=true) (n:Nat):qb8 (List.replicate n z)=true:=qfl.2 fun x hx=>by rw[(List.mem_replicate.1 hx).2];exact hz
theorem Qq3 {z:List PV} (hz:qb8 z=true):qg2 (z.map cstK):=qdl.2 fun v hv=>by
 obtain⟨x,hm,rfl⟩:=List.mem_map.1 hv
 exact cstK_ok (qfl.1 hz x hm)
theorem pvL_cst (z:List PV):pvL (z.map cstK)=z:=by
 rw[qg5,List.map_map]
 have:KV.pv∘cstK=id:=funext fun v=>cstK_pv v
 rw[this,List.map_id]
theorem qzi {k v:PV}:∀ {es es':List PV},Qnc k v es=some es'→qb8 es=true→okV k=true→okV v=true→qb8 es'=true
 | [],es',h,_,hk,hv=>by simp[Qnc] at h;subst h;simp[qb8,hk,hv]
 | [_],es',h,_,_,_=>by simp[Qnc] at h
 | a :: u :: es,es',h,he,hk,hv=>by
  simp only[qb8,Bool.and_eq_true] at he
  simp only[Qnc] at h
  split at h
  ·cases h;simp[qb8,hk,hv,he.2.2]
  ·obtain⟨l,hl,rfl⟩:=Option.map_eq_some_iff.1 h
   simp[qb8,he.1,he.2.1,qzi hl he.2.2 hk hv]
  ·cases h
end Go.Ab


namespace Go.Ab
variable {ks:KSt} {d:Nat} {R:Type} {K:qcd→Option R} {r:R}
theorem cells_agg (cs:List PV):(PV.agg cs).cells=cs:=rfl
theorem execK_ok {cfg:Qcm} (h:ks.Ok) {op:ROp} (hq:(qkq ks.objs||calmX cfg op ks.tmps)=true) (hx:op.xs.all okX=true) (hk:qjq d (qdg ks.objs) ks.tmps op K=some r):Tells K r (exec d (qbq ks.st.objs) ks.st.tmps op):=by
 have ev:=qvz h
 have lk:=qk3 h
 have hkv:∀ {x:RX},x∈op.xs→(x.kv ks.tmps).ok:=fun hm=>ops_ok h hx hm
 cases op with
 | mov x =>
  refine⟨_,hk,qcd.plain (hkv (by simp[ROp.xs])),?_⟩
  simp[exec,qcd.out,ev]
 | pick c a b =>
  have ha:=hkv (x:=a) (by simp[ROp.xs])
  have hb:=hkv (x:=b) (by simp[ROp.xs])
  simp only[qjq] at hk
  split at hk
  ·rename_i hc
   exact⟨_,hk,qcd.plain ha,by simp[exec,qcd.out,ev,hc,KV.pv]⟩
  ·rename_i hc
   exact⟨_,hk,qcd.plain hb,by simp[exec,qcd.out,ev,hc,KV.pv]⟩
  ·rename_i v hc
   rcases qt3 hk with ⟨rfl,hk⟩ | ⟨rfl,hk⟩
   ·exact⟨_,hk,qcd.plain ha,by simp[exec,qcd.out,ev,hc,KV.pv]⟩
   ·exact⟨_,hk,qcd.plain hb,by simp[exec,qcd.out,ev,hc,KV.pv]⟩
  ·cases hk
 | box x =>
  have ha:=hkv (x:=x) (by simp[ROp.xs])
  simp only[qjq] at hk
  split at hk
  ·rename_i v hv
   obtain⟨h1,hk⟩:=qbr hk
   rw[hv] at ha
   unfold valO at h1
   exact⟨_,hk,qcd.one (o:=.whole 0 v) trivial ha,by simp[exec,qcd.out,ev,hv,KV.pv,chk,h1,KOb.ob,qg0]⟩
  ·rename_i cs hv
   rw[hv] at ha
   exact⟨_,hk,qcd.one (o:=.cells 0 cs) trivial ha,by simp[exec,qcd.out,ev,hv,KV.pv,chk,PV.isVal,KOb.ob,PV.cells]⟩
  ·cases hk
  ·cases hk
  ·cases hk
  ·refine⟨_,hk,qcd.one (v:=.ref (d,0) 0) (o:=.cells 0 [x.kv ks.tmps]) trivial ⟨ha,trivial⟩,?_⟩
   simp only[exec,qcd.out,ev]
   cases hy:x.kv ks.tmps<;>simp_all [KV.pv,chk,PV.isVal,KOb.ob,PV.cells,pvL]
 | alloc ty z =>
  simp only[qjq] at hk
  split at hk
  ·rename_i hz
   exact⟨_,hk,qcd.one (o:=.cells _ (z.map cstK)) trivial (Qq3 hz),by simp[exec,qcd.out,KV.pv,KOb.ob,pvL_cst]⟩
  ·cases hk
 | build z ps =>
  simp only[qjq] at hk
  split at hk
  ·exact ql9 h hx hk
  ·split at hk
   ·rename_i hz
    obtain⟨cs,h1,h2,h3⟩:=kfill_ok h ps (fun x hm=>List.all_eq_true.1 hx x hm) (Qq3 hz) hk
    rw[pvL_cst] at h3
    exact⟨_,h1,qcd.plain (v:=.agg cs) h2,by simp[exec,qcd.out,h3,KV.pv]⟩
   ·cases hk
 | mkSl k ps =>
  have hok:=qzv h (ps:=ps) hx
  simp only[qjq] at hk
  split at hk
  ·rename_i vs hv
   obtain⟨h1,hk⟩:=qbr hk
   have hpv:=qxv hv
   refine⟨_,hk,qcd.one (o:=.arr k 0 vs) trivial (qvo hok hv),?_⟩
   have hn:(qbn vs).isEmpty=true:=by rw[(qb9 (qvo hok hv)).1];rfl
   unfold qdd at h1
   simp only[exec,qql h,hpv,hn,if_true,qcd.out,KV.pv,KOb.ob,chk,h1,qbs,List.map_cons,List.map_nil,Option.map_none]
  ·split at hk
   ·cases hk
   ·rename_i hne
    split at hk
    ·rename_i hc
     obtain⟨h1,hk⟩:=qbr hk
     refine⟨_,hk,⟨trivial,?_,by simp,by simp⟩,?_⟩
     ·intro o ho
      simp only[List.mem_singleton] at ho
      subst ho
      exact qk1 (qjd (qcs h) (qnm (by simpa[calmX] using hq)) qbp) hok hc.2
     ·have hne':(qbn (pvL (ps.map (RX.kv ks.tmps)))).isEmpty=false:=by rw[Qb9 hok];simpa using hne
      unfold qdd at h1
      rw[qqy h hok] at h1
      have hsh:=hc.1
      rw[qg8 (qcs h),qrn (qcs h),←qd8 h,←qff hok] at hsh
      simp only[exec,qql h,hne',Bool.false_eq_true,if_false,qcd.out,KV.pv,KOb.ob,qbs,List.map_cons,List.map_nil,Option.map_none]
      rw[qqy h hok,qg8 (qcs h),←qd8 h,←qff hok]
      unfold chk
      rw[h1,hsh]
      rfl
    ·cases hk
 | load n ag x =>
  have ha:=hkv (x:=x) (by simp[ROp.xs])
  simp only[qjq] at hk
  split at hk
  ·rename_i nm o hv
   split at hk
   ·rename_i cs hl
    have hcs:qg2 cs:=qds h.ob hl
    split at hk
    ·rename_i hag
     split at hk
     ·rename_i hle
      refine⟨_,hk,qcd.plain (v:=.agg ((cs.drop o).take n)) (qqi (qqj hcs _) _),?_⟩
      simp[exec,ev,hv,KV.pv,lk,hl,KOb.ob,sel,hag,chk,qfo,hle,qcd.out,qra,qrb]
     ·cases hk
    ·rename_i hag
     split at hk
     ·rename_i c hc
      refine⟨_,hk,qcd.plain (qdl.1 hcs c (List.mem_of_getElem? hc)),?_⟩
      simp[exec,ev,hv,KV.pv,lk,hl,KOb.ob,sel,hag,pvL_get?,hc,qcd.out]
     ·cases hk
   ·rename_i v hl
    obtain⟨z,hz,hk⟩:=qcb hk
    have hv':okV v=true:=qds h.ob hl
    unfold Qmy at hz
    refine⟨_,hk,qcd.plain (v:=.cv z) (qzg (qcx hv') hz),?_⟩
    simp[exec,ev,hv,KV.pv,lk,hl,KOb.ob,qg0,hz,qcd.out]
   ·cases hk
  ·rename_i nm k i o hv
   split at hk
   ·rename_i k' kt xs hl
    split at hk
    ·rename_i hkk
     obtain⟨z,hz,hk⟩:=qcb hk
     have hxs:qb8 xs=true:=qds h.ob hl
     unfold qkz at hz
     split at hz
     ·rename_i e he
      refine⟨_,hk,qcd.plain (v:=.cv z) (qzg (qcx (qkh hxs he)) hz),?_⟩
      simp[exec,ev,hv,KV.pv,lk,hl,KOb.ob,he,hz,chk,hkk,qcd.out]
     ·cases hz
    ·cases hk
   ·cases hk
  ·exact ql9 h hx hk
 | store n x v =>
  have ha:=hkv (x:=x) (by simp[ROp.xs])
  have hb:=hkv (x:=v) (by simp[ROp.xs])
  simp only[qjq] at hk
  split at hk
  ·rename_i nm o hv
   split at hk
   ·rename_i cs hl
    have hcs:qg2 cs:=qds h.ob hl
    obtain⟨vs,hk,hvs,hpv,hlen,hval⟩:=Qmj hb hk
    split at hk
    ·rename_i hle
     refine⟨_,hk,qcd.turn (o:=.cells _ (cs.take o++vs++cs.drop (o+n))) trivial (qh0 (qh0 (qqi hcs _) hvs) (qqj hcs _)),?_⟩
     have hl2:(pvL vs).length=n:=by rw[qfo,hlen]
     simp[exec,ev,hv,KV.pv,lk,hl,KOb.ob,←hpv,hval,hl2,chk,qfo,hle,qcd.out,splice,qrc,qra,qrb]
    ·cases hk
   ·rename_i w hl
    split at hk
    ·rename_i u hu
     obtain⟨h1,hk⟩:=qbr hk
     have hw:okV w=true:=qds h.ob hl
     have huo:=KV.cl_ok hb hu
     unfold okSto at h1
     simp only[Bool.and_eq_true,decide_eq_true_eq] at h1
     refine⟨_,hk,qcd.turn (o:=.whole _ (stoP u w o)) trivial ?_,?_⟩
     ·show okV (stoP u w o)=true
      simpa[stoP,okV,splice] using qd4 (qg7 (qcx hw) o) (qd4 (qcx huo) (qjk (qcx hw) _))
     ·have hpv:=KV.cl_pv hu
      simp[exec,ev,hv,KV.pv,lk,hl,KOb.ob,qg0,hpv,h1.1.1,h1.1.2,h1.2,chk,qcd.out,stoP,cells_agg]
    ·cases hk
   ·cases hk
  ·rename_i nm k i o hv
   split at hk
   ·rename_i k' kt xs hl
    split at hk
    ·rename_i u hu
     split at hk
     ·rename_i hkk
      obtain⟨ys,hys,hk⟩:=qcb hk
      have hxs:qb8 xs=true:=qds h.ob hl
      have huo:=KV.cl_ok hb hu
      have hpv:=KV.cl_pv hu
      unfold setO at hys
      split at hys
      ·rename_i es he
       obtain⟨h1,h2⟩:=qbr hys
       cases h2
       simp only[Bool.and_eq_true,decide_eq_true_eq] at h1
       have heo:qb8 es=true:=by simpa[okV] using qkh hxs he
       refine⟨_,hk,qcd.turn (o:=.arr k kt _) trivial ?_,?_⟩
       ·refine Qqy hxs i ?_
        simpa[okV,splice] using qd4 (qg7 heo o) (qd4 (qcx huo) (qjk heo _))
       ·have hn:(qbn u.cells).isEmpty=true:=by rw[(qb9 (qcx huo)).1];rfl
        simp[exec,ev,hv,KV.pv,lk,hl,KOb.ob,he,hpv,h1.1.1,h1.1.2,h1.2,chk,hkk,qcd.out]
        rw[(qb9 (qcx huo)).1]
      ·rename_i e hne he
       obtain⟨h1,h2⟩:=qbr hys
       cases h2
       simp only[Bool.and_eq_true,beq_iff_eq] at h1
       refine⟨_,hk,qcd.turn (o:=.arr k kt _) trivial (Qqy hxs i huo),?_⟩
       have hn:u.names=[]:=(qgu huo).1
       simp only[exec,ev,hv,KV.pv,lk,hl,Option.map_some,KOb.ob,he,hpv]
       subst hkk
       simp[chk,h1.1.1.1,h1.1.1.2,h1.1.2,h1.2,hn,qcd.out,KOb.ob,KV.pv]
      ·cases hys
     ·cases hk
    ·cases hk
   ·cases hk
  ·cases hk
 | nilck x =>
  have ha:=hkv (x:=x) (by simp[ROp.xs])
  simp only[qjq] at hk
  split at hk
  ·rename_i hv;exact⟨_,hk,qcd.plain (by trivial),by simp[exec,ev,hv,KV.pv,qcd.out]⟩
  ·rename_i hv;exact⟨_,hk,qcd.plain (by trivial),by simp[exec,ev,hv,KV.pv,qcd.out]⟩
  ·rename_i hv;rw[hv] at ha;exact⟨_,hk,qcd.plain ha,by simp[exec,ev,hv,KV.pv,qcd.out]⟩
  ·rename_i hv;exact⟨_,hk,qcd.plain (by trivial),by simp[exec,ev,hv,KV.pv,qcd.out]⟩
  ·exact ql9 h hx hk
 | bin o c cst x y =>
  simp only[qjq] at hk
  split at hk
  ·rename_i nm o' v h1 h2
   split at hk
   ·rcases ql6 hk with ⟨hc,hk⟩ | ⟨_,hk⟩
    ·split at hc
     ·refine⟨_,hk,qcd.plain (v:=.lit false) trivial,?_⟩
      simp[exec,ev,h1,h2,KV.pv,qnf,Qhq,qcd.out]
     ·cases hc
    ·cases hk
   ·rcases ql6 hk with ⟨hc,hk⟩ | ⟨_,hk⟩
    ·split at hc
     ·refine⟨_,hk,qcd.plain (v:=.lit true) trivial,?_⟩
      simp[exec,ev,h1,h2,KV.pv,qnf,Qhq,qcd.out]
     ·cases hc
    ·cases hk
   ·cases hk
  ·exact ql9 h hx hk
 | un o x =>
  cases o with
  | not =>
   simp only[qjq] at hk
   split at hk
   ·rename_i b hv
    exact⟨_,hk,qcd.plain (v:=.lit (!b)) trivial,by simp[exec,ev,hv,KV.pv,qcd.out]⟩
   ·exact ql9 h hx hk
  | _=>exact ql9 h hx hk
 | mkI t x =>
  have ha:=hkv (x:=x) (by simp[ROp.xs])
  simp only[qjq] at hk
  split at hk
  ·rename_i v hv
   refine⟨_,hk,qcd.plain (v:=.cv (.iface t v)) ?_,?_⟩
   ·show okV (.iface t v)=true
    simpa[okV] using KV.cl_ok ha hv
   ·simp[exec,ev,KV.cl_pv hv,KV.pv,qcd.out]
  ·split at hk
   ·cases hk
   ·cases hk
   ·cases hk
   ·cases hk
   ·exact⟨_,hk,qcd.plain (v:=.iface t (x.kv ks.tmps)) ha,by simp[exec,ev,KV.pv,qcd.out]⟩
 | mkF f cap =>
  simp only[qjq] at hk
  split at hk
  ·refine⟨_,hk,qcd.plain (v:=.fn f (cap.map (RX.kv ks.tmps))) (qzv h hx),?_⟩
   simp[exec,qcd.out,KV.pv,qql h]
  ·cases hk
 | mkMap=>exact⟨_,hk,qcd.one (o:=.map []) trivial rfl,by simp[exec,qcd.out,KV.pv,KOb.ob]⟩
 | insert c x k v =>
  have hb:=hkv (x:=k) (by simp[ROp.xs])
  have hc:=hkv (x:=v) (by simp[ROp.xs])
  simp only[qjq] at hk
  split at hk
  ·rename_i nm hv
   split at hk
   ·rename_i es kk vv hl h1 h2
    obtain⟨es',he,hk⟩:=qcb hk
    have hes:qb8 es=true:=qds h.ob hl
    have hko:=KV.cl_ok hb h1
    have hvo:=KV.cl_ok hc h2
    unfold insO at he
    split at he
    ·rename_i es2 hs
     obtain⟨h3,h4⟩:=qbr he
     cases h4
     simp only[Bool.and_eq_true] at h3
     refine⟨_,hk,qcd.turn (o:=.map es') trivial (qzi hs hes hko hvo),?_⟩
     have hn:vv.names=[]:=(qgu hvo).1
     simp[exec,ev,hv,KV.pv,lk,hl,KOb.ob,KV.cl_pv h1,KV.cl_pv h2,hs,chk,h3.1,h3.2,hn,qcd.out]
    ·cases he
   ·rename_i es kk hl h1 h2
    split at hk
    ·cases hk
    ·rename_i hne
     split at hk
     ·rename_i hcond
      obtain⟨hsh,hy,hcn⟩:=hcond
      obtain⟨es',he,hk⟩:=qcb hk
      have hes:qb8 es=true:=qds h.ob hl
      have hko:=KV.cl_ok hb h1
      have hok1:qg2 [v.kv ks.tmps]:=⟨hc,trivial⟩
      have hcl:=qqy h hok1
      have hclo:=qk1 (qjd (qcs h) (qnm (by simpa[calmX] using hq)) qbp) hok1 hy
      have e1:nth (qmf (qd6 (qdg ks.objs) qbp) [v.kv ks.tmps]) 0=((v.kv ks.tmps).pv).sub (qcp (qbq ks.st.objs)):=by
       rw[hcl];simp[pvL,qgc,nth]
      have hvo:okV (((v.kv ks.tmps).pv).sub (qcp (qbq ks.st.objs)))=true:=by
       rw[←e1]
       rw[hcl] at hclo ⊢
       exact (Bool.and_eq_true_iff.1 hclo).1
      rw[e1] at he
      have hn2:((v.kv ks.tmps).pv).names.isEmpty=false:=by
       rw[KV.pv_names hc];simpa[qd5] using hne
      have hrch:qnu (qdg ks.objs) qbp (qd5 [v.kv ks.tmps])=qcv (qbq ks.st.objs) qbp ((v.kv ks.tmps).pv).names:=by
       rw[qg8 (qcs h),←qd8 h,KV.pv_names hc];simp[qd5]
      rw[hrch,qrn (qcs h),←qd8 h] at hsh
      rw[hrch] at hcn hk
      have hcn':¬ nm∈qcv (qbq ks.st.objs) qbp ((v.kv ks.tmps).pv).names:=fun hm=>by rw[List.contains_iff_mem.2 hm] at hcn;cases hcn
      unfold insO at he
      split at he
      ·rename_i es2 hs
       obtain⟨h3,h4⟩:=qbr he
       cases h4
       simp only[Bool.and_eq_true] at h3
       refine⟨_,hk,⟨trivial,by simp,fun m o' e=>by cases e;exact qzi hs hes hko hvo,by simp⟩,?_⟩
       simp[exec,ev,hv,KV.pv,lk,hl,KOb.ob,KV.cl_pv h1,hn2,hs,chk,h3.1,h3.2,hsh,hcn',qcd.out]
      ·cases he
     ·cases hk
   ·cases hk
  ·cases hk
 | lookup c z ok x k =>
  have hb:=hkv (x:=k) (by simp[ROp.xs])
  simp only[qjq] at hk
  split at hk
  ·rename_i nm hv
   split at hk
   ·rename_i es kk hl h1
    split at hk
    case isFalse=>cases hk
    rename_i hz
    obtain⟨u,hu,hk⟩:=qcb hk
    have hes:qb8 es=true:=qds h.ob hl
    unfold Qny at hu
    split at hu
    ·cases hu
    ·rename_i r' hr
     obtain⟨h3,h4⟩:=qbr hu
     cases h4
     have hrz:okV (r'.getD z)=true:=by
      cases r' with
      | none=>exact hz
      | some v=>exact Qgk hr hes
     refine⟨_,hk,qcd.plain (v:=.cv _) ?_,?_⟩
     ·show okV _=true
      split
      ·simp[okV,qb8,hrz]
      ·exact hrz
     ·simp[exec,ev,hv,KV.pv,lk,hl,KOb.ob,KV.cl_pv h1,hr,chk,h3,qcd.out]
   ·cases hk
  ·exact ql9 h hx hk
 | mkS k z l c =>
  simp only[qjq] at hk
  split at hk
  ·rename_i lv cv hl hc
   split at hk
   ·rename_i hz
    obtain⟨n,hn,hk⟩:=qcb hk
    unfold mkSO at hn
    split at hn
    ·rename_i a b h1 h2
     obtain⟨h3,h4⟩:=qbr hn
     cases h4
     refine⟨_,hk,qcd.one (o:=.arr k 0 (qmn _ z)) trivial (Qcs hz.2 _),?_⟩
     simp only[Bool.and_eq_true,decide_eq_true_eq] at h3
     simp[exec,ev,KV.cl_pv hl,KV.cl_pv hc,h1,h2,chk,h3.1,h3.2,hz.1,qcd.out,KV.pv,KOb.ob,qmn]
    ·cases hn
   ·cases hk
  ·cases hk
 | slice k x lo hi mx =>
  simp only[qjq] at hk
  split at hk
  ·rename_i nm k' o n hv
   split at hk
   ·rename_i hc
    obtain⟨hkk,hmx,hall⟩:=hc
    obtain⟨m,hm,hk⟩:=qcb hk
    obtain⟨hh,hhi,hk⟩:=qcb hk
    have hev:∀ (y:Option RX),(∀ z∈y.toList,z∈lo.toList++hi.toList++mx.toList)→(y.map fun z=>((z.kv ks.tmps).cl).getD .undef)=evO ks.st.tmps y:=by
     intro y hy
     cases y with
     | none=>rfl
     | some z =>
      have:=List.all_eq_true.1 hall z (hy z (by simp))
      obtain⟨v,hv⟩:=Option.isSome_iff_exists.1 this
      simp[evO,hv,ev,KV.cl_pv hv]
    rw[hev mx (fun z hz=>by simp only[List.mem_append];exact .inr hz)] at hm
    rw[hev hi (fun z hz=>by simp only[List.mem_append];exact .inl (.inr hz))] at hhi
    unfold qlh at hm hhi
    subst hkk
    have hmx':((mx.map (RX.ev ks.st.tmps)).isNone||(hi.map (RX.ev ks.st.tmps)).isSome)=true:=by
     rcases hmx with e | e
     ·cases mx with
      | none=>rfl
      | some _=>cases e
     ·cases hi with
      | none=>cases e
      | some _=>simp
    have hevO:∀ y:Option RX,evO ks.st.tmps y=y.map (RX.ev ks.st.tmps):=fun y=>by cases y<;>rfl
    rw[hevO] at hm hhi
    cases lo with
    | none =>
     refine⟨_,hk,qcd.plain (v:=.arr nm k o hh) trivial,?_⟩
     have hb0:qkc (none:Option PV) 0 hh=some 0:=rfl
     simp only[exec,ev,hv,KV.pv,qhy,hevO,hm,hhi,Option.map_none,hb0,chk,beq_self_eq_true,Bool.true_and,hmx',if_true,qcd.out]
     simp
    | some lo' =>
     obtain⟨l,hl,hk⟩:=qcb hk
     have hlo:=hev (some lo') (by simp)
     simp only[Option.map_some] at hlo
     rw[hlo] at hl
     unfold qlh at hl
     rw[hevO] at hl
     rcases ql6 hk with ⟨h1,hk⟩ | ⟨h1,hk⟩
     ·unfold qrx at h1
      simp only[Bool.and_eq_true,Qb7,qwc] at h1
      refine⟨_,hk,qcd.plain (v:=.cv (.sl k [] false)) rfl,?_⟩
      have h2:hh=l∧0 < l:=h1
      simp only[exec,ev,hv,KV.pv,qhy,hevO,hm,hhi,hl,chk,beq_self_eq_true,Bool.true_and,hmx',if_true,qcd.out,if_pos h2]
      rfl
     ·unfold qrx at h1
      simp only[Bool.and_eq_false_iff] at h1
      have h2:¬ (hh=l∧0 < l):=by
       rintro ⟨a,b⟩
       rcases h1 with h1 | h1
       ·rw[show eqN hh l=true from Qb7.2 a] at h1;cases h1
       ·rw[show ltN 0 l=true from qwc.2 b] at h1;cases h1
      refine⟨_,hk,qcd.plain (v:=.arr nm k (qcq o l) (subN hh l)) trivial,?_⟩
      simp only[exec,ev,hv,KV.pv,qhy,hevO,hm,hhi,hl,chk,beq_self_eq_true,Bool.true_and,hmx',if_true,qcd.out,if_neg h2,qcq,subN]
      rfl
   ·cases hk
  ·exact ql9 h hx hk
 | fieldAddr off x =>
  simp only[qjq] at hk
  split at hk
  ·rename_i hv;exact⟨_,hk,qcd.plain (by trivial),by simp[exec,ev,hv,KV.pv,qcd.out]⟩
  ·rename_i hv;exact⟨_,hk,qcd.plain (by trivial),by simp[exec,ev,hv,KV.pv,qcd.out]⟩
  ·exact ql9 h hx hk
 | field off n ag x =>
  have ha:=hkv (x:=x) (by simp[ROp.xs])
  simp only[qjq] at hk
  split at hk
  ·rename_i cs hv
   rw[hv] at ha
   have hcs:qg2 cs:=ha
   split at hk
   ·rename_i hag
    split at hk
    ·rename_i hle
     refine⟨_,hk,qcd.plain (v:=.agg ((cs.drop off).take n)) (qqi (qqj hcs _) _),?_⟩
     simp[exec,ev,hv,KV.pv,sel,hag,chk,qfo,hle,qcd.out,qra,qrb]
    ·cases hk
   ·rename_i hag
    split at hk
    ·rename_i c hc
     refine⟨_,hk,qcd.plain (qdl.1 hcs c (List.mem_of_getElem? hc)),?_⟩
     simp[exec,ev,hv,KV.pv,sel,hag,pvL_get?,hc,qcd.out]
    ·cases hk
  ·exact ql9 h hx hk
 | idxAddr k x i =>
  simp only[qjq] at hk
  split at hk
  ·rename_i nm k' o n hv
   split at hk
   ·rename_i iv hi
    split at hk
    ·rename_i hkk
     obtain⟨j,hj,hk⟩:=qcb hk
     obtain⟨h1,hk⟩:=qbr hk
     rw[qwc] at h1
     unfold qr6 at hj
     refine⟨_,hk,qcd.plain (v:=.aref nm k (qcq o j) 0) trivial,?_⟩
     simp[exec,ev,hv,KV.pv,KV.cl_pv hi,hj,chk,hkk,h1,qcd.out,qcq]
    ·cases hk
   ·cases hk
  ·exact ql9 h hx hk
 | extract j x =>
  have ha:=hkv (x:=x) (by simp[ROp.xs])
  simp only[qjq] at hk
  split at hk
  ·rename_i xs hv
   rw[hv] at ha
   have hxs:qg2 xs:=ha
   split at hk
   ·rename_i v hj
    refine⟨_,hk,qcd.plain (qdl.1 hxs v (List.mem_of_getElem? hj)),?_⟩
    simp[exec,ev,hv,KV.pv,pvL_get?,hj,qcd.out]
   ·cases hk
  ·exact ql9 h hx hk
 | len c x =>
  simp only[qjq] at hk
  split at hk
  ·rename_i nm k o n hv
   split at hk
   ·exact⟨_,hk,qcd.plain (v:=.cv (nI n)) rfl,by simp[exec,ev,hv,KV.pv,Qg0,qcd.out,nI]⟩
   ·cases hk
  ·rename_i nm hv
   split at hk
   ·rename_i es hl
    exact⟨_,hk,qcd.plain (v:=.cv (nI (halfN (qbs es)))) rfl,by simp[exec,ev,hv,KV.pv,Qg0,lk,hl,KOb.ob,qcd.out,nI,halfN,qbs]⟩
   ·cases hk
  ·exact ql9 h hx hk
 | append k ty s x =>
  have ha:=hkv (x:=s) (by simp[ROp.xs])
  have hb:=hkv (x:=x) (by simp[ROp.xs])
  simp only[qjq] at hk
  obtain⟨ys,hk,hyo,hys⟩:=Qb8 h hb hk
  split at hk
  ·rename_i nm k' o n hv
   split at hk
   ·rename_i k'' kt xs hl
    split at hk
    ·rename_i hkk
     obtain⟨rfl,rfl,rfl⟩:=hkk
     obtain⟨h1,hk⟩:=qbr hk
     unfold qrx at h1
     simp only[Bool.and_eq_true,qz1,qbs,qcq] at h1
     have hxs:qb8 xs=true:=qds h.ob hl
     refine⟨_,hk,⟨trivial,by simp,?_,by simp⟩,?_⟩
     ·intro m o' e;cases e;exact qd4 (qg7 hxs n) hyo
     ·simp[exec,ev,hys,hv,KV.pv,lk,hl,KOb.ob,chk,h1.1,h1.2,qcd.out,qcq,qbs,qmh,qbu]
    ·cases hk
   ·cases hk
  ·rename_i hv
   obtain⟨h1,hk⟩:=qbr hk
   simp only[qz1,qbs] at h1
   exact⟨_,hk,qcd.one (o:=.arr k ty ys) trivial hyo,by simp[exec,ev,hys,hv,KV.pv,chk,h1,qcd.out,KOb.ob,qbs]⟩
  ·rename_i v hv
   obtain⟨zs,hz,hk2⟩:=qcb hk
   rw[hv] at ha
   have hvo:okV v=true:=ha
   unfold appO at hz
   split at hz
   ·obtain⟨h1,h2⟩:=qbr hz
    cases h2
    exact⟨_,hk2,qcd.one (o:=.arr k ty ys) trivial hyo,by simp at h1;simp[exec,ev,hys,hv,KV.pv,chk,h1,qcd.out,KOb.ob,qbs]⟩
   ·rename_i k' xs
    split at hz
    ·cases hz
    ·rename_i y ys'
     obtain⟨h1,h2⟩:=qbr hz
     cases h2
     simp only[Bool.and_eq_true,beq_iff_eq,decide_eq_true_eq] at h1
     obtain⟨rfl,h1⟩:=h1
     refine⟨_,hk2,qcd.one (o:=.arr k ty (xs++y :: ys')) trivial (qd4 (by simpa[okV] using hvo) hyo),?_⟩
     simp[exec,ev,hys,hv,KV.pv,chk,h1,qcd.out,KOb.ob,qbs]
   ·cases hz
  ·cases hk
 | copy k x s =>
  have ha:=hkv (x:=x) (by simp[ROp.xs])
  have hb:=hkv (x:=s) (by simp[ROp.xs])
  simp only[qjq] at hk
  obtain⟨ys,hk,hyo,hys⟩:=Qb8 h hb hk
  split at hk
  ·rename_i nm k' o n hv
   split at hk
   ·rename_i k'' kt xs hl
    split at hk
    ·rename_i hkk
     obtain⟨rfl,rfl⟩:=hkk
     obtain⟨h1,hk⟩:=qbr hk
     simp only[qz1,qbs,qcq] at h1
     have hxs:qb8 xs=true:=qds h.ob hl
     refine⟨_,hk,qcd.turn (o:=.arr k kt _) rfl (qd4 (qd4 (qg7 hxs o) (qg7 hyo n)) (qjk hxs _)),?_⟩
     simp[exec,ev,hys,hv,KV.pv,lk,hl,KOb.ob,chk,h1,qcd.out,qcq,qbs,qmh,qbu,qb4,nI,minN]
     omega
    ·cases hk
   ·cases hk
  ·rename_i hv
   exact⟨_,hk,qcd.plain (v:=.cv (nI 0)) rfl,by simp[exec,ev,hys,hv,KV.pv,qcd.out,nI]⟩
  ·cases hk
 | iter x =>
  simp only[qjq] at hk
  split at hk
  ·rename_i v hv
   obtain⟨s,hs,hk⟩:=qcb hk
   unfold strO at hs
   split at hs
   ·cases hs
    exact⟨_,hk,qcd.one (o:=.siter s 0) trivial trivial,by simp[exec,ev,KV.cl_pv hv,qcd.out,KV.pv,KOb.ob]⟩
   ·cases hs
  ·cases hk
 | next x =>
  simp only[qjq] at hk
  split at hk
  ·rename_i nm hv
   split at hk
   ·rename_i s pos hl
    rcases ql6 hk with ⟨h1,hk⟩ | ⟨h1,hk⟩
    ·rw[qwc] at h1
     unfold lenS at h1
     refine⟨_,hk,qcd.turn (o:=.siter s (qcq pos (runeN s pos))) (v:=.tup [.lit true,.cv (nI pos),.cv (runeP s pos)]) ⟨trivial,rfl,rfl,trivial⟩ trivial,?_⟩
     simp[exec,ev,hv,KV.pv,lk,hl,KOb.ob,h1,qcd.out,pvL,nI,runeP,runeN,qcq]
    ·have h2:¬ pos < s.length:=by
      intro h3;rw[show ltN pos (lenS s)=true from qwc.2 h3] at h1;cases h1
     refine⟨_,hk,qcd.plain (v:=.tup [.lit false]) ⟨trivial,trivial⟩,?_⟩
     simp[exec,ev,hv,KV.pv,lk,hl,KOb.ob,h2,qcd.out,pvL]
   ·cases hk
  ·cases hk
 | tassert t z ok x =>
  have ha:=hkv (x:=x) (by simp[ROp.xs])
  simp only[qjq] at hk
  split at hk
  ·rename_i u y hv
   rw[hv] at ha
   have hy:y.ok:=ha
   split at hk
   ·rename_i hut
    refine⟨_,hk,qcd.plain ?_,?_⟩
    ·split
     ·exact⟨hy,trivial,trivial⟩
     ·exact hy
    ·simp only[exec,ev,hv,KV.pv,hut,if_true,qcd.out]
     cases ok<;>simp[KV.pv,pvL]
   ·rename_i hut
    split at hk
    ·rename_i hz
     refine⟨_,hk,qcd.plain (v:=.tup [.cv z,.lit false]) ⟨hz.2,trivial,trivial⟩,?_⟩
     simp[exec,ev,hv,KV.pv,hut,chk,hz.1,qcd.out,pvL]
    ·cases hk
  ·exact ql9 h hx hk
 | call f args=>cases hk
 | bad=>cases hk
 | conv k x=>exact ql9 h hx hk
 | toBytes x=>exact ql9 h hx hk
 | ofBytes x =>
  have ha:=hkv (x:=x) (by simp[ROp.xs])
  simp only[qjq] at hk
  split at hk
  ·rename_i nm k o n hv
   rw[hv] at ha
   obtain⟨ys,hk,hyo,hys⟩:=Qb8 h ha hk
   obtain⟨z,hz,hk⟩:=qcb hk
   simp only[qbd,exec,RX.ev,isStr,Bool.not_false,chk,if_true,qk8,beq_self_eq_true] at hz
   cases hb:qhd ys with
   | none=>rw[hb] at hz;cases hz
   | some s =>
    rw[hb] at hz
    cases hz
    refine⟨_,hk,qcd.plain (v:=.cv (.str s)) rfl,?_⟩
    have hys':qk8 (qbq ks.st.objs) 1 (.arr nm k o n)=some ys:=hys
    simp[exec,ev,hv,KV.pv,isStr,chk,hys',hb,qcd.out]
  ·exact ql9 h hx hk
 | ofRune x=>exact ql9 h hx hk
 | strId x=>exact ql9 h hx hk
 | strSlice x lo hi=>exact ql9 h hx hk
 | idxAddrA k l x i=>exact ql9 h hx hk
 | strIdx x i=>exact ql9 h hx hk
 | minmax mx xs=>exact ql9 h hx hk
end Go.Ab


namespace Go.Ab
theorem KOb.ren_ob (f:Nm→Nm) {o:KOb} (h:o.ok):(o.ren f).ob=o.ob.ren f:=by
 cases o with
 | cells ty cs=>simp[KOb.ren,KOb.ob,Ob.ren,qv5 f h]
 | whole ty v =>
  have:=(qb9 (qcx h)).1
  simp only[KOb.ren,KOb.ob,Ob.ren,qg0]
  rw[qqh this]
 | _=>rfl
theorem KOb.ren_ok (f:Nm→Nm) {o:KOb} (h:o.ok):(o.ren f).ok:=by
 cases o with
 | cells ty cs=>exact qro f h
 | _=>exact h
theorem qzb (f:Nm→Nm) (xs ys:List PV):qjv f (xs++ys)=qjv f xs++qjv f ys:=by
 induction xs with
 | nil=>rfl
 | cons x xs ih=>simp[qjv,ih]
def Seg (vs:List PV) (i:Nat) (l:List PV):Prop:=∀ m v,l[m]?=some v→nth vs (i+m)=v
theorem Seg.left {vs:List PV} {i:Nat} {a b:List PV} (h:Seg vs i (a++b)):Seg vs i a:=fun m v hm=>h m v (by
 rw[List.getElem?_append_left (List.getElem?_eq_some_iff.1 hm).1];exact hm)
theorem Seg.right {vs:List PV} {i:Nat} {a b:List PV} (h:Seg vs i (a++b)):Seg vs (i+a.length) b:=fun m v hm=>by
 have:=h (a.length+m) v (by rw[List.getElem?_append_right (by omega)];simpa using hm)
 rw[←this,Nat.add_assoc]
theorem Seg.head {vs:List PV} {i:Nat} {x:PV} {l:List PV} (h:Seg vs i (x :: l)):nth vs i=x:=h 0 x rfl
theorem Seg.all (vs:List PV):Seg vs 0 vs:=fun m v hm=>by
 unfold nth;rw[List.getD_eq_getElem?_getD,Nat.zero_add,hm];rfl
theorem qz0 {x:KV} (hx:x.ok) (hf:x.cl.isSome=true) {vs:List PV} {i:Nat} (h:Seg vs i [x.cl.getD .undef]):(KV.cv (nth vs i)).pv=x.pv∧(KV.cv (nth vs i)).ok:=by
 obtain⟨v,hv⟩:=Option.isSome_iff_exists.1 hf
 have:=h.head
 rw[hv] at this
 simp only[Option.getD_some] at this
 rw[this]
 exact⟨(KV.cl_pv hv).symm,KV.cl_ok hx hv⟩
theorem un_fill {p:KV} {vs:List PV} {i:Nat} (h:qsw p=false):qsw (fill p vs i).1=false:=by
 cases p<;>simp[qsw] at h<;>simp only[fill]<;>first | rfl | (split<;>rfl)
mutual
theorem Qph:∀ (p x:KV),qji p x=true→x.ok→∀ (vs:List PV) (i:Nat),Seg vs i (qd0 p x)→(fill p vs i).1.pv=x.pv∧(fill p vs i).1.ok∧(fill p vs i).2=i+(qd0 p x).length
 | .un,x,h,_,vs,i,_=>by cases x<;>simp[qji] at h;exact⟨rfl,trivial,rfl⟩
 | .sk,x,h,_,vs,i,_=>by cases x<;>simp[qji] at h;exact⟨rfl,trivial,rfl⟩
 | .yld d,x,h,_,vs,i,hs=>by
  cases x with
  | yld d' =>
   have h1:nth vs i=nI d':=hs.head
   simp[fill,KV.pv,h1,nI,qbi,KV.ok,qd0]
  | _=>simp[qji] at h
 | .ref nm o,x,h,_,vs,i,_=>by cases x<;>simp[qji] at h;obtain⟨rfl,rfl⟩:=h;exact⟨rfl,trivial,rfl⟩
 | .aref _ _ _ _,x,h,_,vs,i,_=>by simp[qji] at h
 | .mp nm,x,h,_,vs,i,_=>by cases x<;>simp[qji] at h;subst h;exact⟨rfl,trivial,rfl⟩
 | .it nm,x,h,_,vs,i,_=>by cases x<;>simp[qji] at h;subst h;exact⟨rfl,trivial,rfl⟩
 | .wit nm,x,h,_,vs,i,_=>by cases x<;>simp[qji] at h;subst h;exact⟨rfl,trivial,rfl⟩
 | .arr nm k o n,x,h,_,vs,i,hs=>by
  cases x with
  | arr nm' k' o' n' =>
   simp only[qji,Bool.and_eq_true,beq_iff_eq] at h
   obtain⟨⟨rfl,rfl⟩,ho⟩:=h
   have:=Nat.eq_of_beq_eq_true ho
   subst this
   have h1:nth vs i=nI n':=hs.head
   simp[fill,KV.pv,h1,nI,qbi,KV.ok,qd0]
  | _=>simp[qji] at h
 | .lit b,x,h,hx,vs,i,hs=>by
  have:=qz0 hx (by simpa[qji] using h) (by simpa[qd0] using hs)
  exact⟨this.1,this.2,by simp[fill,qd0]⟩
 | .nils,x,h,hx,vs,i,hs=>by
  have:=qz0 hx (by simpa[qji] using h) (by simpa[qd0] using hs)
  exact⟨this.1,this.2,by simp[fill,qd0]⟩
 | .cv v,x,h,hx,vs,i,hs=>by
  have:=qz0 hx (by simpa[qji] using h) (by simpa[qd0] using hs)
  exact⟨this.1,this.2,by simp[fill,qd0]⟩
 | .fn f cap,x,h,hx,vs,i,hs=>by
  cases x with
  | fn f' cap' =>
   simp only[qji,Bool.and_eq_true,beq_iff_eq] at h
   obtain⟨rfl,h⟩:=h
   obtain⟨a,b,c⟩:=qrt cap cap' h hx vs i (by simpa[qd0] using hs)
   exact⟨by simp[fill,KV.pv,a],b,by simp[fill,qd0,c]⟩
  | _=>simp[qji] at h
 | .tup xs,x,h,hx,vs,i,hs=>by
  cases x with
  | tup ys =>
   simp only[qji] at h
   obtain⟨a,b,c⟩:=qrt xs ys h hx vs i (by simpa[qd0] using hs)
   exact⟨by simp[fill,KV.pv,a],b,by simp[fill,qd0,c]⟩
  | _=>simp[qji] at h
 | .agg cs,x,h,hx,vs,i,hs=>by
  simp only[qji] at h
  simp only[qd0] at hs
  by_cases hc:(clL cs).isSome=true
  ·rw[if_pos hc] at h hs
   have:=qz0 hx h hs
   simp only[fill,hc,if_true]
   exact⟨this.1,this.2,by simp[qd0,hc]⟩
  ·rw[if_neg hc] at h hs
   cases x with
   | agg cs' =>
    obtain⟨a,b,c⟩:=qrt cs cs' h hx vs i hs
    simp only[fill,if_neg hc]
    exact⟨by simp[KV.pv,a],b,by simp[qd0,hc,c]⟩
   | _=>simp at h
 | .iface t y,x,h,hx,vs,i,hs=>by
  simp only[qji] at h
  simp only[qd0] at hs
  by_cases hc:y.cl.isSome=true
  ·rw[if_pos hc] at h hs
   have:=qz0 hx h hs
   simp only[fill,hc,if_true]
   exact⟨this.1,this.2,by simp[qd0,hc]⟩
  ·rw[if_neg hc] at h hs
   cases x with
   | iface t' y' =>
    simp only[Bool.and_eq_true,beq_iff_eq] at h
    obtain⟨rfl,h⟩:=h
    obtain⟨a,b,c⟩:=Qph y y' h hx vs i hs
    simp only[fill,if_neg hc]
    exact⟨by simp[KV.pv,a],b,by simp[qd0,hc,c]⟩
   | _=>simp at h
theorem qrt:∀ (ps xs:List KV),Qcw ps xs=true→qg2 xs→∀ (vs:List PV) (i:Nat),Seg vs i (qjo ps xs)→pvL (qj6 ps vs i).1=pvL xs∧qg2 (qj6 ps vs i).1∧(qj6 ps vs i).2=i+(qjo ps xs).length
 | [],xs,h,_,vs,i,_=>by cases xs<;>simp[Qcw] at h;exact⟨rfl,trivial,rfl⟩
 | p :: ps,xs,h,hx,vs,i,hs=>by
  cases xs with
  | nil=>simp[Qcw] at h
  | cons x xs =>
   simp only[Qcw,Bool.and_eq_true] at h
   simp only[qjo] at hs
   obtain⟨a,b,c⟩:=Qph p x h.1 hx.1 vs i hs.left
   obtain⟨a',b',c'⟩:=qrt ps xs h.2 hx.2 vs (fill p vs i).2 (by rw[c];exact hs.right)
   refine⟨by simp[qj6,pvL,a,a'],⟨b,b'⟩,?_⟩
   simp only[qj6,qjo,List.length_append]
   rw[c',c]
   omega
end
theorem fillOb_ok (p x:KOb) (h:qk7 p x=true) (hx:x.ok) (vs:List PV) (i:Nat) (hs:Seg vs i (qhu p x)):(qfc p vs i).1.ob=x.ob∧(qfc p vs i).1.ok∧(qfc p vs i).2=i+(qhu p x).length:=by
 cases p with
 | cells ty cs =>
  cases x with
  | cells ty' cs' =>
   simp only[qk7,Bool.and_eq_true,beq_iff_eq] at h
   obtain⟨rfl,h⟩:=h
   obtain⟨a,b,c⟩:=qrt cs cs' h hx vs i (by simpa[qhu] using hs)
   exact⟨by simp[qfc,KOb.ob,a],b,by simp[qfc,qhu,c]⟩
  | _=>simp[qk7] at h
 | whole ty w =>
  cases x with
  | whole ty' v =>
   simp only[qk7,beq_iff_eq] at h
   subst h
   have:nth vs i=v:=hs.head
   exact⟨by simp[qfc,KOb.ob,this],by simp only[qfc,this];exact hx,by simp[qfc,qhu]⟩
  | _=>simp[qk7] at h
 | arr k kt ws =>
  cases x with
  | arr k' kt' xs =>
   simp only[qk7,Bool.and_eq_true,beq_iff_eq] at h
   obtain⟨rfl,rfl⟩:=h
   have:nth vs i=.sl k xs false:=hs.head
   exact⟨by simp[qfc,KOb.ob,this,qbc],by simp only[qfc,this,qbc];exact hx,by simp[qfc,qhu]⟩
  | _=>simp[qk7] at h
 | map ws =>
  cases x with
  | map es =>
   have:nth vs i=.imap es:=hs.head
   exact⟨by simp[qfc,KOb.ob,this,qc6],by simp only[qfc,this,qc6];exact hx,by simp[qfc,qhu]⟩
  | _=>simp[qk7] at h
 | siter s0 p0 =>
  cases x with
  | siter s pos =>
   have h1:nth vs i=.str s:=hs.head
   have h2:nth vs (i+1)=nI pos:=hs 1 _ rfl
   exact⟨by simp[qfc,KOb.ob,h1,h2,strP,qbi,nI],trivial,by simp[qfc,qhu]⟩
  | _=>simp[qk7] at h
theorem qwt:∀ (ps xs:List KOb),qjp ps xs=true→(∀ o∈xs,o.ok)→∀ (vs:List PV) (i:Nat),Seg vs i (qjn ps xs)→(qdw ps vs i).1.map KOb.ob=xs.map KOb.ob∧(∀ o∈(qdw ps vs i).1,o.ok)∧(qdw ps vs i).2=i+(qjn ps xs).length
 | [],[],_,_,vs,i,_=>⟨rfl,by simp[qdw],rfl⟩
 | [],_ :: _,h,_,_,_,_=>by simp[qjp] at h
 | _ :: _,[],h,_,_,_,_=>by simp[qjp] at h
 | p :: ps,x :: xs,h,hx,vs,i,hs=>by
  simp only[qjp,Bool.and_eq_true] at h
  simp only[qjn] at hs
  obtain⟨a,b,c⟩:=fillOb_ok p x h.1 (hx x (by simp)) vs i hs.left
  obtain⟨a',b',c'⟩:=qwt ps xs h.2 (fun o ho=>hx o (by simp[ho])) vs (qfc p vs i).2 (by rw[c];exact hs.right)
  refine⟨by simp[qdw,a,a'],?_,?_⟩
  ·intro o ho
   simp only[qdw,List.mem_cons] at ho
   rcases ho with rfl | ho
   ·exact b
   ·exact b' o ho
  ·simp only[qdw,qjn,List.length_append]
   rw[c',c]
   omega
mutual
theorem Qbr:∀ (p:KV) (x:PV) {l:List PV},qrr p x=some l→∀ (vs:List PV) (i:Nat),Seg vs i l→(fill p vs i).1.pv=x∧(fill p vs i).1.ok∧(fill p vs i).2=i+l.length
 | .un,x,l,h,vs,i,_=>by cases x<;>simp[qrr] at h;subst h;exact⟨rfl,trivial,rfl⟩
 | .sk,x,l,h,vs,i,_=>by
  simp only[qrr] at h
  split at h
  ·cases h;exact⟨rfl,trivial,rfl⟩
  ·cases h
 | .yld d,x,l,h,vs,i,hs=>by
  cases x with
  | yld d' =>
   simp only[qrr] at h
   cases h
   have h1:nth vs i=nI d':=hs.head
   simp[fill,KV.pv,h1,nI,qbi,KV.ok]
  | _=>simp[qrr] at h
 | .aref _ _ _ _,x,l,h,vs,i,_=>by simp[qrr] at h
 | .wit nm,x,l,h,vs,i,_=>by
  simp only[qrr] at h
  split at h
  ·obtain⟨h1,h2⟩:=qbr h
   simp at h1 h2;subst h1;subst h2;exact⟨rfl,trivial,rfl⟩
  ·cases h
 | .ref nm o,x,l,h,vs,i,_=>by
  cases x<;>simp[qrr] at h
  obtain⟨h1,h2⟩:=qbr h
  simp at h1 h2;obtain⟨rfl,rfl⟩:=h1;subst h2;exact⟨rfl,trivial,rfl⟩
 | .mp nm,x,l,h,vs,i,_=>by
  cases x<;>simp[qrr] at h
  obtain⟨h1,h2⟩:=qbr h
  simp at h1 h2;subst h1;subst h2;exact⟨rfl,trivial,rfl⟩
 | .it nm,x,l,h,vs,i,_=>by
  cases x<;>simp[qrr] at h
  obtain⟨h1,h2⟩:=qbr h
  simp at h1 h2;subst h1;subst h2;exact⟨rfl,trivial,rfl⟩
 | .arr nm k o n,x,l,h,vs,i,hs=>by
  cases x with
  | arr nm' k' o' n' =>
   simp only[qrr] at h
   obtain⟨h1,h2⟩:=qbr h
   cases h2
   simp only[Bool.and_eq_true,beq_iff_eq] at h1
   obtain⟨⟨rfl,rfl⟩,ho⟩:=h1
   have:=Nat.eq_of_beq_eq_true ho
   subst this
   have h1:nth vs i=nI n':=hs.head
   simp[fill,KV.pv,h1,nI,qbi,KV.ok]
  | _=>simp[qrr] at h
 | .lit b,x,l,h,vs,i,hs=>by
  simp only[qrr] at h
  obtain⟨h1,h2⟩:=qbr h
  cases h2
  have:=hs.head
  exact⟨this,by simp only[fill,KV.ok,this];exact h1,rfl⟩
 | .nils,x,l,h,vs,i,hs=>by
  simp only[qrr] at h
  obtain⟨h1,h2⟩:=qbr h
  cases h2
  have:=hs.head
  exact⟨this,by simp only[fill,KV.ok,this];exact h1,rfl⟩
 | .cv v,x,l,h,vs,i,hs=>by
  simp only[qrr] at h
  obtain⟨h1,h2⟩:=qbr h
  cases h2
  have:=hs.head
  exact⟨this,by simp only[fill,KV.ok,this];exact h1,rfl⟩
 | .fn f cap,x,l,h,vs,i,hs=>by
  cases x with
  | fn f' cap' =>
   simp only[qrr] at h
   split at h
   ·rename_i hf
    subst hf
    obtain⟨a,b,c⟩:=qn1 cap cap' h vs i hs
    exact⟨by simp[fill,KV.pv,a],b,c⟩
   ·cases h
  | _=>simp[qrr] at h
 | .tup xs,x,l,h,vs,i,hs=>by
  cases x with
  | tup ys =>
   simp only[qrr] at h
   obtain⟨a,b,c⟩:=qn1 xs ys h vs i hs
   exact⟨by simp[fill,KV.pv,a],b,c⟩
  | _=>simp[qrr] at h
 | .agg cs,x,l,h,vs,i,hs=>by
  simp only[qrr] at h
  by_cases hc:(clL cs).isSome=true
  ·rw[if_pos hc] at h
   obtain⟨h1,h2⟩:=qbr h
   cases h2
   have:=hs.head
   simp only[fill,hc,if_true]
   exact⟨this,by simp only[KV.ok,this];exact h1,rfl⟩
  ·rw[if_neg hc] at h
   cases x with
   | agg cs' =>
    obtain⟨a,b,c⟩:=qn1 cs cs' h vs i hs
    simp only[fill,if_neg hc]
    exact⟨by simp[KV.pv,a],b,c⟩
   | _=>simp at h
 | .iface t y,x,l,h,vs,i,hs=>by
  simp only[qrr] at h
  by_cases hc:y.cl.isSome=true
  ·rw[if_pos hc] at h
   obtain⟨h1,h2⟩:=qbr h
   cases h2
   have:=hs.head
   simp only[fill,hc,if_true]
   exact⟨this,by simp only[KV.ok,this];exact h1,rfl⟩
  ·rw[if_neg hc] at h
   cases x with
   | iface t' y' =>
    simp only at h
    split at h
    ·rename_i ht
     subst ht
     obtain⟨a,b,c⟩:=Qbr y y' h vs i hs
     simp only[fill,if_neg hc]
     exact⟨by simp[KV.pv,a],b,c⟩
    ·cases h
   | _=>simp at h
theorem qn1:∀ (ps:List KV) (xs:List PV) {l:List PV},Qbs ps xs=some l→∀ (vs:List PV) (i:Nat),Seg vs i l→pvL (qj6 ps vs i).1=xs∧qg2 (qj6 ps vs i).1∧(qj6 ps vs i).2=i+l.length
 | [],xs,l,h,vs,i,_=>by cases xs<;>simp[Qbs] at h;subst h;exact⟨rfl,trivial,rfl⟩
 | p :: ps,xs,l,h,vs,i,hs=>by
  cases xs with
  | nil=>simp[Qbs] at h
  | cons y ys =>
   simp only[Qbs] at h
   split at h
   ·rename_i a b ha hb
    cases h
    obtain⟨a1,a2,a3⟩:=Qbr p y ha vs i hs.left
    obtain⟨b1,b2,b3⟩:=qn1 ps ys hb vs (fill p vs i).2 (by rw[a3];exact hs.right)
    refine⟨by simp[qj6,pvL,a1,b1],⟨a2,b2⟩,?_⟩
    simp only[qj6,List.length_append]
    rw[b3,a3];omega
   ·cases h
end
theorem Qpg (p:KOb) (x:Ob) {l:List PV} (h:qkt p x=some l) (vs:List PV) (i:Nat) (hs:Seg vs i l):(qfc p vs i).1.ob=x∧(qfc p vs i).1.ok∧(qfc p vs i).2=i+l.length:=by
 cases p with
 | cells ty cs =>
  cases x with
  | cells ty' cs' =>
   simp only[qkt] at h
   split at h
   case isFalse=>cases h
   rename_i hty
   subst hty
   obtain⟨a,b,c⟩:=qn1 cs cs' h vs i hs
   exact⟨by simp[qfc,KOb.ob,a],b,c⟩
  | _=>simp[qkt] at h
 | whole ty w =>
  cases x with
  | cells ty' cs' =>
   simp only[qkt] at h
   obtain⟨h1,h2⟩:=qbr h
   cases h2
   simp only[Bool.and_eq_true,beq_iff_eq] at h1
   obtain⟨rfl,h1⟩:=h1
   have:nth vs i=.agg cs':=hs.head
   exact⟨by simp[qfc,KOb.ob,this,qg0,PV.cells],by simp only[qfc,this];simpa[KOb.ok,okV] using h1,rfl⟩
  | _=>simp[qkt] at h
 | arr k kt ws =>
  cases x with
  | arr k' kt' xs =>
   simp only[qkt] at h
   obtain⟨h1,h2⟩:=qbr h
   cases h2
   simp only[Bool.and_eq_true,beq_iff_eq] at h1
   obtain⟨⟨rfl,rfl⟩,h1⟩:=h1
   have:nth vs i=.sl k xs false:=hs.head
   exact⟨by simp[qfc,KOb.ob,this,qbc],by simp only[qfc,this,qbc];exact h1,rfl⟩
  | _=>simp[qkt] at h
 | map ws =>
  cases x with
  | map es =>
   simp only[qkt] at h
   obtain⟨h1,h2⟩:=qbr h
   cases h2
   have:nth vs i=.imap es:=hs.head
   exact⟨by simp[qfc,KOb.ob,this,qc6],by simp only[qfc,this,qc6];exact h1,rfl⟩
  | _=>simp[qkt] at h
 | siter s0 p0 =>
  cases x with
  | siter s pos =>
   simp only[qkt] at h
   cases h
   have h1:nth vs i=.str s:=hs.head
   have h2:nth vs (i+1)=nI pos:=hs 1 _ rfl
   exact⟨by simp[qfc,KOb.ob,h1,h2,strP,qbi,nI],trivial,rfl⟩
  | _=>simp[qkt] at h
theorem qqu:∀ (ps:List KOb) (xs:List Ob) {l:List PV},qpt ps xs=some l→∀ (vs:List PV) (i:Nat),Seg vs i l→(qdw ps vs i).1.map KOb.ob=xs∧(∀ o∈(qdw ps vs i).1,o.ok)∧(qdw ps vs i).2=i+l.length
 | [],xs,l,h,vs,i,_=>by cases xs<;>simp[qpt] at h;subst h;exact⟨rfl,by simp[qdw],rfl⟩
 | p :: ps,xs,l,h,vs,i,hs=>by
  cases xs with
  | nil=>simp[qpt] at h
  | cons y ys =>
   simp only[qpt] at h
   split at h
   ·rename_i a b ha hb
    cases h
    obtain⟨a1,a2,a3⟩:=Qpg p y ha vs i hs.left
    obtain⟨b1,b2,b3⟩:=qqu ps ys hb vs (qfc p vs i).2 (by rw[a3];exact hs.right)
    refine⟨by simp[qdw,a1,b1],?_,?_⟩
    ·intro o ho
     simp only[qdw,List.mem_cons] at ho
     rcases ho with rfl | ho
     ·exact a2
     ·exact b2 o ho
    ·simp only[qdw,List.length_append]
     rw[b3,a3];omega
   ·cases h
mutual
theorem ren_ren (f g:Nm→Nm):∀ (x:PV),(x.ren f).ren g=x.ren fun m=>g (f m)
 | .agg cs=>by simp[PV.ren,qqg f g cs]
 | .iface t x=>by simp[PV.ren,ren_ren f g x]
 | .fn h cap=>by simp[PV.ren,qqg f g cap]
 | .tup xs=>by simp[PV.ren,qqg f g xs]
 | .undef | .bool _ | .int _ _ | .str _ | .nilS | .nilP | .nilF | .nilI | .nilM | .sl _ _ _ | .ptr _ _ | .yld _ | .imap _ | .glob _ _ | .ref _ _ | .aref _ _ _ _ | .arr _ _ _ _ | .mp _ | .it _=>by simp[PV.ren]
theorem qqg (f g:Nm→Nm):∀ (xs:List PV),qjv g (qjv f xs)=qjv (fun m=>g (f m)) xs
 | []=>rfl
 | x :: xs=>by simp[qjv,ren_ren f g x,qqg f g xs]
end
mutual
theorem ren_congr {f g:Nm→Nm}:∀ {x:PV},(∀ m∈x.names,f m=g m)→x.ren f=x.ren g
 | .agg cs,h=>by simp only[PV.ren];rw[qnl (xs:=cs) h]
 | .iface t x,h=>by simp only[PV.ren];rw[ren_congr (x:=x) h]
 | .fn _ cap,h=>by simp only[PV.ren];rw[qnl (xs:=cap) h]
 | .tup xs,h=>by simp only[PV.ren];rw[qnl (xs:=xs) h]
 | .ref nm _,h | .aref nm _ _ _,h | .arr nm _ _ _,h | .mp nm,h | .it nm,h=>by simp only[PV.ren];rw[h nm (by simp[PV.names])]
 | .undef,_ | .bool _,_ | .int _ _,_ | .str _,_ | .nilS,_ | .nilP,_ | .nilF,_ | .nilI,_ | .nilM,_ | .sl _ _ _,_ | .ptr _ _,_ | .yld _,_ | .imap _,_ | .glob _ _,_=>by simp[PV.ren]
theorem qnl {f g:Nm→Nm}:∀ {xs:List PV},(∀ m∈qbn xs,f m=g m)→qjv f xs=qjv g xs
 | [],_=>rfl
 | x :: xs,h=>by
  simp only[qjv]
  rw[ren_congr (x:=x) fun m hm=>h m (List.mem_append_left _ hm),qnl (xs:=xs) fun m hm=>h m (List.mem_append_right _ hm)]
end
mutual
theorem cut_names {p:Nm→Bool}:∀ {x:PV} {m:Nm},m∈(x.sub fun m=>if p m then none else some none).names→p m=true
 | .agg cs,m,h=>qn9 (xs:=cs) (by simpa[PV.sub,PV.names] using h)
 | .iface t x,m,h=>cut_names (x:=x) (by simpa[PV.sub,PV.names] using h)
 | .fn _ cap,m,h=>qn9 (xs:=cap) (by simpa[PV.sub,PV.names] using h)
 | .tup xs,m,h=>qn9 (xs:=xs) (by simpa[PV.sub,PV.names] using h)
 | .ref nm _,m,h | .aref nm _ _ _,m,h | .arr nm _ _ _,m,h | .mp nm,m,h | .it nm,m,h=>by
  simp only[PV.sub] at h
  cases hp:p nm with
  | true=>simp[hp,PV.names] at h;rw[h];exact hp
  | false=>simp[hp,PV.names] at h
 | .undef,m,h | .bool _,m,h | .int _ _,m,h | .str _,m,h | .nilS,m,h | .nilP,m,h | .nilF,m,h | .nilI,m,h | .nilM,m,h | .sl _ _ _,m,h | .ptr _ _,m,h | .yld _,m,h | .imap _,m,h | .glob _ _,m,h=>by simp[PV.sub,PV.names] at h
theorem qn9 {p:Nm→Bool}:∀ {xs:List PV} {m:Nm},m∈qbn (qgc (fun m=>if p m then none else some none) xs)→p m=true
 | [],m,h=>by simp[qgc,qbn] at h
 | x :: xs,m,h=>by
  simp only[qgc,qbn] at h
  rcases List.mem_append.1 h with h | h
  ·exact cut_names h
  ·exact qn9 h
end
theorem Ob.ren_ren (f g:Nm→Nm) (o:Ob):(o.ren f).ren g=o.ren fun m=>g (f m):=by
 cases o<;>simp[Ob.ren,qqg]
theorem Ob.ren_congr {f g:Nm→Nm} {o:Ob} (h:∀ m∈o.names,f m=g m):o.ren f=o.ren g:=by
 cases o with
 | cells ty cs=>simp only[Ob.ren];rw[qnl h]
 | _=>rfl
theorem Ob.cut_names {p:Nm→Bool} {o:Ob} {m:Nm} (h:m∈(o.sub fun m=>if p m then none else some none).names):p m=true:=by
 cases o with
 | cells ty cs=>exact qn9 h
 | _=>simp[Ob.sub,Ob.names] at h
theorem Qnv (g:Nm→Nm):∀ (B:List (Nm×Nm)) (m:Nm),(B.map fun p=>(p.1,g p.2)).lookup m=(B.lookup m).map g:=by
 intro B
 induction B with
 | nil=>intro m;rfl
 | cons p B ih =>
  obtain⟨a,b⟩:=p
  intro m
  simp only[List.map_cons,List.lookup_cons]
  split<;>simp_all
theorem Qnu {B:List (Nm×Nm)}:∀ {m:Nm},(B.map (·.1)).contains m=true→∃ t,B.lookup m=some t:=by
 induction B with
 | nil=>intro m h;simp at h
 | cons p B ih =>
  obtain⟨a,b⟩:=p
  intro m h
  rw[List.lookup_cons]
  split
  ·exact⟨_,rfl⟩
  ·rename_i hne
   refine ih ?_
   simp only[List.map_cons,List.contains_cons,hne,Bool.false_or] at h
   exact h
theorem ioEnd_ren {R:List Nm} {sl:Option Nat} {d i0:Nat} {st:St} {v:PV} {out:Out} (h:qwj none 1 0 (qjs R.length) st v=some out) :
  qwj sl d i0 R st v=some {v:=out.v.ren (qrq R d i0),new:=out.new.map (Ob.ren (qrq R d i0)),gone:=out.gone.map (qrq R d i0),ups:=R.zip (out.ups.map fun p=>p.2.ren (qrq R d i0)),io:=true,slot:=sl}:=by
 have hcl:(qjs R.length).length=R.length:=by simp[qjs]
 have hA:qh3 R st.keep=(qh3 (qjs R.length) st.keep).map fun p=>(p.1,qrq R d i0 p.2):=by
  apply List.ext_getElem?
  intro i
  simp only[qh3,List.getElem?_map,List.getElem?_zipIdx,Nat.zero_add,qjs]
  by_cases hi:i < R.length
  ·rw[List.getElem?_eq_getElem hi,List.getElem?_range hi]
   simp[qrq,List.getD_eq_getElem?_getD,List.getElem?_eq_getElem hi]
  ·rw[List.getElem?_eq_none_iff.2 (by omega),List.getElem?_eq_none_iff.2 (by simp;omega)]
   rfl
 have hF:(qh3 R st.keep).map (·.1)=(qh3 (qjs R.length) st.keep).map (·.1):=by
  rw[hA,List.map_map];rfl
 have hN:Qbd (qbq st.objs) (qh3 R st.keep) v=Qbd (qbq st.objs) (qh3 (qjs R.length) st.keep) v:=by
  unfold Qbd
  rw[hF]
  have:∀ A A':List (Nm×Nm),A.map (·.1)=A'.map (·.1)→(A.flatMap fun p=>((qbq st.objs p.1).map Ob.names).getD [])=A'.flatMap fun p=>((qbq st.objs p.1).map Ob.names).getD []:=by
   intro A A' h
   have e:∀ A:List (Nm×Nm),(A.flatMap fun p=>((qbq st.objs p.1).map Ob.names).getD [])=(A.map (·.1)).flatMap fun m=>((qbq st.objs m).map Ob.names).getD []:=by
    intro A;rw[List.flatMap_map]
   rw[e,e,h]
  rw[this _ _ hF]
 unfold qwj at h ⊢
 simp only at h ⊢
 rw[hN]
 generalize Qbd (qbq st.objs) (qh3 (qjs R.length) st.keep) v=N at h ⊢
 generalize hA0:qh3 (qjs R.length) st.keep=A0 at h hA
 generalize hB0:(A0++N.zipIdx.map fun p=>(p.1,(1,0+p.2)))=B0 at h
 have hB:qh3 R st.keep++N.zipIdx.map (fun p=>(p.1,(d,i0+p.2)))=B0.map fun p=>(p.1,qrq R d i0 p.2):=by
  rw[←hB0,List.map_append,hA,List.map_map]
  congr 1
  exact List.map_congr_left fun p _=>by simp[qrq]
 rw[hB]
 have hBf:(B0.map fun p=>(p.1,qrq R d i0 p.2)).map (·.1)=B0.map (·.1):=by rw[List.map_map];rfl
 rw[hBf]
 obtain⟨h1,h2⟩:=qfj h
 cases h2
 have hnm:∀ m,(B0.map (·.1)).contains m=true→((B0.map fun p=>(p.1,qrq R d i0 p.2)).lookup m).getD m=qrq R d i0 ((B0.lookup m).getD m):=by
  intro m hm
  obtain⟨t,ht⟩:=Qnu hm
  rw[Qnv,ht];rfl
 have hob:∀ nm,ioOb (qbq st.objs) (B0.map fun p=>(p.1,qrq R d i0 p.2)) nm=(ioOb (qbq st.objs) B0 nm).ren (qrq R d i0):=by
  intro nm
  unfold ioOb
  rw[hBf,Ob.ren_ren]
  exact Ob.ren_congr fun m hm=>hnm m (Ob.cut_names hm)
 simp only[chk,h1,if_true,Option.some.injEq,Out.mk.injEq,true_and,and_true]
 refine⟨?_,?_,?_,?_⟩
 ·rw[ren_ren]
  exact ren_congr fun m hm=>hnm m (cut_names hm)
 ·rw[List.map_map]
  exact List.map_congr_left fun m _=>hob m
 ·simp only[qxm]
  apply List.ext_getElem?
  intro i
  have e:(R.zipIdx.filter fun p=>(qr9 (st.keep.getD p.2 .undef)).isNone).map (·.1)=(((qjs R.length).zipIdx.filter fun p=>(qr9 (st.keep.getD p.2 .undef)).isNone).map (·.1)).map (qrq R d i0):=by
   have hz:R.zipIdx=(qjs R.length).zipIdx.map fun p=>(qrq R d i0 p.1,p.2):=by
    apply List.ext_getElem?
    intro i
    simp only[List.getElem?_map,List.getElem?_zipIdx,Nat.zero_add,qjs]
    by_cases hi:i < R.length
    ·rw[List.getElem?_eq_getElem hi,List.getElem?_range hi]
     simp[qrq,List.getD_eq_getElem?_getD,List.getElem?_eq_getElem hi]
    ·rw[List.getElem?_eq_none_iff.2 (by omega),List.getElem?_eq_none_iff.2 (by simp;omega)]
     rfl
   rw[hz,List.filter_map,List.map_map,List.map_map]
   rfl
  rw[e]
 ·have hR2:A0.map (fun p=>qrq R d i0 p.2)=R:=by
   rw[←hA0]
   apply List.ext_getElem?
   intro i
   simp only[qh3,List.getElem?_map,List.getElem?_zipIdx,Nat.zero_add,qjs]
   by_cases hi:i < R.length
   ·rw[List.getElem?_eq_getElem hi,List.getElem?_range hi]
    simp[qrq,List.getD_eq_getElem?_getD,List.getElem?_eq_getElem hi]
   ·rw[List.getElem?_eq_none_iff.2 (by omega:R.length≤i),List.getElem?_eq_none_iff.2 (by simp;omega)]
    rfl
  have hz:∀ (l:List (Nm×Nm)) (f:Nm×Nm→Nm) (g:Nm×Nm→Ob),l.map (fun p=>(f p,g p))=(l.map f).zip (l.map g):=by
   intro l f g
   induction l with
   | nil=>rfl
   | cons p l ih=>simp[ih]
  have e1:(A0.map fun p=>(p.1,qrq R d i0 p.2)).map (fun p=>(p.2,ioOb (qbq st.objs) (B0.map fun p=>(p.1,qrq R d i0 p.2)) p.1))=A0.map fun p=>(qrq R d i0 p.2,(ioOb (qbq st.objs) B0 p.1).ren (qrq R d i0)):=by
   rw[List.map_map]
   exact List.map_congr_left fun p _=>by simp only[Function.comp,hob]
  rw[hA,e1,hz,hR2,List.map_map]
  rfl
end Go.Ab


namespace Go.Ab
noncomputable def limCall (sp:FuncId→(Nm→Option Ob)→List PV→Option Out) (tab:FuncId→Option RFn):qvu:=fun E h dep g args e=>lim fun n=>qbm sp tab n E h dep g args e
def qk6 (sp:FuncId→(Nm→Option Ob)→List PV→Option Out) (tab:FuncId→Option RFn) (n:Nat):qf2:=qmp sp tab n
theorem qmw (sp:FuncId→(Nm→Option Ob)→List PV→Option Out) (tab:FuncId→Option RFn) (n:Nat):(qk6 sp tab n).sp=sp:=Qho sp tab n
theorem qrg (sp:FuncId→(Nm→Option Ob)→List PV→Option Out) (tab:FuncId→Option RFn) (n:Nat):(qk6 sp tab n).isIo=qlf tab:=qwu sp tab n
theorem Qns (sp:FuncId→(Nm→Option Ob)→List PV→Option Out) (tab:FuncId→Option RFn) (n:Nat):(qk6 sp tab n).leans=qpr tab:=qs5 sp tab n
theorem machN_flat (sp:FuncId→(Nm→Option Ob)→List PV→Option Out) (tab:FuncId→Option RFn) (n:Nat):(qk6 sp tab n).flat=qm3 tab:=qwv sp tab n
theorem Qdx (sp:FuncId→(Nm→Option Ob)→List PV→Option Out) (tab:FuncId→Option RFn) (n:Nat):(qk6 sp tab n).call=qbm sp tab n:=rfl
noncomputable def limIo (sp:FuncId→(Nm→Option Ob)→List PV→Option Out) (tab:FuncId→Option RFn) (g:FuncId) (ins:List Ob) (vs:List PV):Option (St×PV) :=
 match tab g with
 | some fn=>lim fun n=>qwh (qk6 sp tab n) n fn ins vs
 | none=>none
structure qpe (cfg:Qcm) (tab:FuncId→Option RFn):Prop where
 L:cfg.b.L=limCall cfg.b.sp tab
 I:cfg.b.I=limIo cfg.b.sp tab
 isIo:cfg.b.isIo=qlf tab
 leans:cfg.b.leans=qpr tab
 flat:∀ g,cfg.flatF g=true→qm3 tab g=true
 ioF:∀ g,(cfg.ioF g).isSome=qlf tab g
 ioP:∀ g P,cfg.ioF g=some P→∃ fn,tab g=some fn∧0 < fn.nt∧∀ xs os,(P xs os).args.length≤fn.nt∧(P xs os).ins.length≤fn.nt
 spF:∀ g,cfg.spF g=false→∀ σ vs,cfg.b.sp g σ vs=none
 loc:∀ g σ vs,qb8 vs=true→cfg.b.sp g σ vs=cfg.b.sp g (fun _=>none) vs
 spK:∀ g s,cfg.spK g=some s→∀ σ xs out,qg2 xs→(∀ nm o,σ nm=some o→o.ok)→s σ xs=some (true,out)→out.Ok∧cfg.b.sp g (fun nm=>(σ nm).map KOb.ob) (pvL xs)=some out.out∧∀ f,out.out.v.ren f=out.out.v
 asOk:∀ g p t n,cfg.asT g p=some (t,n)→∀ σ nm ty cs,σ nm=some (.cells ty cs)→cs.length=n→cfg.b.sp g σ [.nilI,.iface p (.ref nm 0)]=some {v:=.bool false} ∧
  ∀ x,qcu x n=true→cfg.b.sp g σ [.iface t x,.iface p (.ref nm 0)]=some {v:=.bool true,upd:=some (nm,.cells ty x.cells)}
def HOk {E:Type} (h:qbk E) (hn:Nat→qbk E):Prop:=∀ l args e r,h l args e=some r→Evl fun n=>hn n l args e=some r
mutual
theorem Qme (d:Nat) {obs:List Ob}:∀ (sh:RSh) (j:Nat) (v:PV) {u:PV} {j':Nat},sh.fix=true→qjw obs sh j v=some (u,j') →
  (qzd d sh j u).1.pv=v.ren (qkn d)∧(qzd d sh j u).2.1.map KOb.ob=(obs.drop j).take (j' - j)∧(qzd d sh j u).2.2=j'∧(qzd d sh j u).1.ok∧(∀ o∈(qzd d sh j u).2.1,o.ok)∧j≤j'
 | .opt k,j,v,u,j',hf,h=>by cases hf
 | .cl,j,v,u,j',_,h=>by
  simp only[qjw] at h
  obtain⟨h1,h2⟩:=qbr h
  cases h2
  refine⟨?_,by simp[qzd],rfl,h1,by simp[qzd],Nat.le_refl _⟩
  simp only[qzd,KV.pv]
  rw[qpo (qgu h1).1]
 | .own k,j,v,u,j',_,h=>by
  simp only[qjw] at h
  split at h
  ·rename_i nm k' o n k'' kt xs hj
   obtain⟨h1,h2⟩:=qbr h
   cases h2
   simp only[Bool.and_eq_true,beq_iff_eq] at h1
   obtain⟨⟨⟨⟨⟨⟨rfl,rfl⟩,rfl⟩,rfl⟩,rfl⟩,rfl⟩,hok⟩:=h1
   refine⟨by simp[qzd,KV.pv,PV.ren,qkn,qbs,qbc],?_,rfl,trivial,?_,by omega⟩
   ·have hlt:=(List.getElem?_eq_some_iff.1 hj).1
    have hd:obs.drop j=.arr k 0 xs :: obs.drop (j+1):=by
     obtain⟨hi,he⟩:=List.getElem?_eq_some_iff.1 hj
     rw[←he];exact List.drop_eq_getElem_cons hi
    rw[hd,show j+1 - j=1 by omega]
    simp[qzd,KOb.ob,qbc]
   ·intro o ho
    simp only[qzd,List.mem_singleton] at ho
    subst ho;exact hok
  ·cases h
 | .tup l,j,v,u,j',hf,h=>by
  simp only[qjw] at h
  split at h
  ·rename_i vs
   obtain⟨p,hp,he⟩:=Option.map_eq_some_iff.1 h
   cases he
   obtain⟨h1,h2,h3,h4,h5,h6⟩:=qwx d l j vs (us:=p.1) (j':=p.2) hf hp (.tup p.1) 0 (by intro i _;simp[prjP])
   simp only[qzd]
   exact⟨by simp[KV.pv,PV.ren,h1],h2,h3,h4,h5,h6⟩
  ·cases h
 | .agg l,j,v,u,j',hf,h=>by
  simp only[qjw] at h
  split at h
  ·rename_i vs
   obtain⟨p,hp,he⟩:=Option.map_eq_some_iff.1 h
   cases he
   obtain⟨h1,h2,h3,h4,h5,h6⟩:=qwx d l j vs (us:=p.1) (j':=p.2) hf hp (.agg p.1) 0 (by intro i _;simp[prjP])
   simp only[qzd]
   exact⟨by simp[KV.pv,PV.ren,h1],h2,h3,h4,h5,h6⟩
  ·cases h
theorem qwx (d:Nat) {obs:List Ob}:∀ (l:List RSh) (j:Nat) (vs:List PV) {us:List PV} {j':Nat},fixL l=true→qme obs l j vs=some (us,j')→∀ (r:PV) (i:Nat),(∀ m,m < us.length→prjP r (i+m)=us.getD m .undef) →
  pvL (Qcr d l j r i).1=qjv (qkn d) vs∧(Qcr d l j r i).2.1.map KOb.ob=(obs.drop j).take (j' - j)∧(Qcr d l j r i).2.2=j'∧qg2 (Qcr d l j r i).1∧(∀ o∈(Qcr d l j r i).2.1,o.ok)∧j≤j'
 | [],j,vs,us,j',_,h,r,i,_=>by
  cases vs with
  | nil=>simp only[qme] at h;cases h;simp[Qcr,pvL,qjv,qg2]
  | cons v vs=>simp[qme] at h
 | s :: l,j,vs,us,j',hf,h,r,i,hr=>by
  simp only[fixL,Bool.and_eq_true] at hf
  cases vs with
  | nil=>simp[qme] at h
  | cons v vs =>
   simp only[qme] at h
   split at h
   ·rename_i u j1 hu
    obtain⟨p,hp,he⟩:=Option.map_eq_some_iff.1 h
    obtain⟨us',j2⟩:=p
    cases he
    have h0:prjP r i=u:=by have:=hr 0 (by simp);simpa using this
    obtain⟨a1,a2,a3,a4,a5,a6⟩:=Qme d s j v hf.1 hu
    obtain⟨b1,b2,b3,b4,b5,b6⟩:=qwx d l j1 vs hf.2 hp r (i+1) (fun m hm=>by
     have:=hr (m+1) (by simp;omega)
     rw[show i+(m+1)=i+1+m by omega] at this
     simpa using this)
    simp only[Qcr,h0,a3]
    refine⟨by simp[pvL,qjv,a1,b1],?_,b3,⟨a4,b4⟩,?_,by omega⟩
    ·rw[List.map_append,a2,b2]
     have e1:obs.drop j1=(obs.drop j).drop (j1 - j):=by rw[List.drop_drop];congr 1;omega
     rw[e1,show j2 - j=(j1 - j)+(j2 - j1) by omega,List.take_add]
    ·intro o ho
     rcases List.mem_append.1 ho with ho | ho
     ·exact a5 o ho
     ·exact b5 o ho
   ·cases h
end
theorem Qcc (d:Nat) {obs:List Ob} {sh:RSh} {v u:PV} (hf:sh.fix=true) (h:qpa sh v obs=some u):(qzd d sh 0 u).1.pv=v.ren (qkn d)∧(qzd d sh 0 u).2.1.map KOb.ob=obs∧(qzd d sh 0 u).1.ok∧∀ o∈(qzd d sh 0 u).2.1,o.ok:=by
 unfold qpa at h
 split at h
 ·rename_i r j hr
  obtain⟨h1,h2⟩:=qbr h
  cases h2
  simp only[beq_iff_eq] at h1
  obtain⟨a1,a2,a3,a4,a5,a6⟩:=Qme d sh 0 v hf hr
  refine⟨a1,?_,a4,a5⟩
  rw[a2,h1];simp
 ·cases h
mutual
theorem Qc8 {R:Type} {r:R}:∀ (sh:RSh) (u:PV) {K:RSh→Option R},qpj sh u K=some r →
  ∃ sh',sh'.fix=true∧K sh'=some r∧∀ obs j v j',qjw obs sh j v=some (u,j')→qjw obs sh' j v=some (u,j')
 | .cl,u,K,h=>⟨.cl,rfl,h,fun _ _ _ _ h=>h⟩
 | .own k,u,K,h=>⟨.own k,rfl,h,fun _ _ _ _ h=>h⟩
 | .opt k,u,K,h=>by
  simp only[qpj] at h
  unfold nilB at h
  split at h
  ·refine⟨.cl,rfl,h,fun obs j v j' hc=>?_⟩
   simp only[qjw] at hc
   split at hc
   ·cases hc;rfl
   ·obtain⟨_,hc⟩:=qbr hc
    cases hc
   ·cases hc
  ·rename_i hu
   refine⟨.own k,rfl,h,fun obs j v j' hc=>?_⟩
   simp only[qjw] at hc
   split at hc
   ·cases hc;exact absurd rfl hu
   ·rename_i hj
    simp only[qjw,hj];exact hc
   ·cases hc
 | .tup l,u,K,h=>by
  simp only[qpj] at h
  obtain⟨l',h1,h2,h3⟩:=qse l u 0 h
  refine⟨.tup l',h1,h2,fun obs j v j' hc=>?_⟩
  simp only[qjw] at hc ⊢
  split at hc
  ·obtain⟨p,hp,he⟩:=Option.map_eq_some_iff.1 hc
   cases he
   rw[h3 obs j _ p.1 p.2 hp (by intro i _;simp[prjP])]
   rfl
  ·cases hc
 | .agg l,u,K,h=>by
  simp only[qpj] at h
  obtain⟨l',h1,h2,h3⟩:=qse l u 0 h
  refine⟨.agg l',h1,h2,fun obs j v j' hc=>?_⟩
  simp only[qjw] at hc ⊢
  split at hc
  ·obtain⟨p,hp,he⟩:=Option.map_eq_some_iff.1 hc
   cases he
   rw[h3 obs j _ p.1 p.2 hp (by intro i _;simp[prjP])]
   rfl
  ·cases hc
theorem qse {R:Type} {r:R}:∀ (l:List RSh) (u:PV) (i:Nat) {K:List RSh→Option R},qtf l u i K=some r →
  ∃ l',fixL l'=true∧K l'=some r∧∀ obs j vs us j',qme obs l j vs=some (us,j')→(∀ m,m < us.length→prjP u (i+m)=us.getD m .undef)→qme obs l' j vs=some (us,j')
 | [],u,i,K,h=>⟨[],rfl,h,fun _ _ _ _ _ h _=>h⟩
 | s :: l,u,i,K,h=>by
  simp only[qtf] at h
  obtain⟨s',h1,h,h3⟩:=Qc8 s (prjP u i) h
  obtain⟨l',g1,h,g3⟩:=qse l u (i+1) h
  refine⟨s' :: l',by simp[fixL,h1,g1],h,fun obs j vs us j' hc hu=>?_⟩
  cases vs with
  | nil=>simp[qme] at hc
  | cons v vs =>
   simp only[qme] at hc ⊢
   split at hc
   ·rename_i w j1 hw
    obtain⟨p,hp,he⟩:=Option.map_eq_some_iff.1 hc
    obtain⟨us',j2⟩:=p
    cases he
    have h0:prjP u i=w:=by have:=hu 0 (by simp);simpa using this
    rw[h3 obs j v j1 (by rw[h0];exact hw)]
    simp only
    rw[g3 obs j1 vs us' j2 hp (fun m hm=>by
     have:=hu (m+1) (by simp;omega)
     rw[show i+(m+1)=i+1+m by omega] at this
     simpa using this)]
    simp only[Option.map_some,h0]
   ·cases hc
end
theorem qyx {R:Type} {r:R} {sh:RSh} {u:PV} {K:RSh→Option R} (h:qpj sh u K=some r) :
  ∃ sh',sh'.fix=true∧K sh'=some r∧∀ v obs,qpa sh v obs=some u→qpa sh' v obs=some u:=by
 obtain⟨sh',h1,h2,h3⟩:=Qc8 sh u h
 refine⟨sh',h1,h2,fun v obs hc=>?_⟩
 unfold qpa at hc ⊢
 split at hc
 ·rename_i w j hw
  obtain⟨c1,c2⟩:=qbr hc
  cases c2
  rw[h3 obs 0 v j hw]
  simp only[c1,qbw]
 ·cases hc
section
variable {cfg:Qcm} {tab:FuncId→Option RFn} {ks:KSt} {E R:Type} {h:qbk E} {hn:Nat→qbk E} {K:qcd→E→Option R} {r:R} {e:E} {d dep:Nat}
theorem spO_ok (hc:qpe cfg tab) {g:FuncId} {vs:List PV} (hvs:qb8 vs=true) {x:Option (PV×List Ob)} (h:spO cfg.b.sp g vs=some x) (σ:Nm→Option Ob) :
  match x with | some p=>cfg.b.sp g σ vs=some {v:=p.1,new:=p.2} | none=>cfg.b.sp g σ vs=none:=by
 unfold spO at h
 rw[hc.loc g σ vs hvs]
 split at h
 ·rename_i out ho
  obtain⟨h1,h2⟩:=qbr h
  cases h2
  simp only[Bool.and_eq_true,List.isEmpty_iff,Option.isNone_iff_eq_none,Bool.not_eq_true'] at h1
  obtain⟨⟨⟨⟨⟨⟨b,c⟩,f⟩,a2⟩,a3⟩,a4⟩,a5⟩:=h1
  simp only
  rw[ho]
  obtain⟨v,new,upd,kill,frz,gone,ups,io,slot⟩:=out
  simp only at b c f a2 a3 a4 a5
  subst b;subst c;subst f;subst a2;subst a3;subst a4;subst a5
  rfl
 ·rename_i ho;cases h;exact ho
theorem Qsq {sh sh':RSh} {f:PV} {vs:List PV} {u:PV} (hs:∀ v obs,qpa sh v obs=some u→qpa sh' v obs=some u) (h:qb6 cfg.b sh f vs=some u):qb6 cfg.b sh' f vs=some u:=by
 unfold qb6 at h ⊢
 split at h
 ·split at h
  ·exact hs _ _ h
  ·split at h
   ·cases h
   ·rename_i hio
    rw[if_neg hio]
    split at h
    ·exact hs _ _ h
    ·cases h
  ·cases h
 ·cases h
theorem lendO_sh {sh sh':RSh} {fr:Bool} {g:FuncId} {vs:List PV} {u:PV} (hs:∀ v obs,qpa sh v obs=some u→qpa sh' v obs=some u) (h:qh2 cfg.b sh fr g vs=some u):qh2 cfg.b sh' fr g vs=some u:=by
 unfold qh2 at h ⊢
 split at h
 ·cases h
 ·rename_i hy
  rw[if_neg hy]
  split at h
  ·obtain⟨h1,h2⟩:=qbr h
   simp only[h1,qbw]
   exact hs _ _ h2
  ·cases h
theorem Qr5 {g:FuncId}:Nat.blt (qge g) qho=true:=by
 unfold qge
 split
 ·assumption
 ·exact Nat.blt_eq.mpr (Nat.mod_lt _ (by decide))
theorem fnId_id {g:FuncId}:qge (qge g)=qge g:=by
 have h:=Qr5 (g:=g)
 generalize qge g=x at h
 simp[qge,h]
theorem fnArgs_id {g:FuncId} {vs:List PV}:qco (qge g) vs []=vs:=by
 have h:=Qr5 (g:=g)
 simp[qco,h]
theorem Qbo {f:FuncId} {vs cap:List PV} {x:PV} (h:x∈vs∨x∈cap):x∈qco f vs cap:=by
 unfold qco
 split
 ·exact List.mem_append.2 h
 ·rcases h with h | h
  ·exact List.mem_append_right _ (List.mem_append_left _ h)
  ·rw[←List.take_append_drop (fnK f) cap] at h
   rcases List.mem_append.1 h with h | h
   ·exact List.mem_append_left _ h
   ·exact List.mem_append_right _ (List.mem_append_right _ h)
theorem Qd6 (f:FuncId) (vs cap:List KV):pvL (qna f vs cap)=qco f (pvL vs) (pvL cap):=by
 unfold qna qco
 cases Nat.blt f qho<;>simp[qrc,qra,qrb]
theorem Qd7 {f:FuncId} {vs cap:List KV} (h1:qg2 vs) (h2:qg2 cap):qg2 (qna f vs cap):=by
 unfold qna
 split
 ·exact qh0 h1 h2
 ·exact qh0 (qdl.2 fun x hx=>qdl.1 h2 x (List.mem_of_mem_take hx)) (qh0 h1 (qdl.2 fun x hx=>qdl.1 h2 x (List.mem_of_mem_drop hx)))
theorem callO_all {B:KB} {sh:RSh} {f:FuncId} {vs cap:List PV}:qb6 B sh (.fn f cap) vs=qb6 B sh (.fn (qge f) []) (qco f vs cap):=by
 simp only[qb6,fnId_id,fnArgs_id]
theorem Qsr (hc:qpe cfg tab) {sh:RSh} (hfix:sh.fix=true) {f:PV} {vs:List PV} (hvs:qb8 vs=true) (hf:okV f=true) {u:PV} (hu:qb6 cfg.b sh f vs=some u) (σ:Nm→Option Ob) (T:List PV) (fx:RX) (args:List RX) (hfx:fx.ev T=f) (hargs:args.map (RX.ev T)=vs) :
  ∃ out:qcd,out.Ok∧out={v:=(qzd d sh 0 u).1,new:=(qzd d sh 0 u).2.1}∧Evl fun n=>qct (qk6 cfg.b.sp tab n) (hn n) dep d σ T fx args e=some (out.out,e):=by
 unfold qb6 at hu
 split at hu
 ·rename_i g cap
  have hcap:qb8 cap=true:=by simpa[okV] using hf
  have hall:qb8 (qco g vs cap)=true:=qfl.2 fun x hx=>(qwo hx).elim (qfl.1 hvs x) (qfl.1 hcap x)
  have hnm:(qbn (qco g vs cap)).isEmpty=true:=by rw[(qb9 hall).1];rfl
  have hy:qd1 (qco g vs cap)=false:=(qb9 hall).2
  split at hu
  ·rename_i v obs hs
   have h1:=spO_ok hc hall hs σ
   simp only at h1
   obtain⟨a1,a2,a3,a4⟩:=Qcc d hfix hu
   refine⟨_,⟨a3,a4,by simp,by simp⟩,rfl,.of fun n=>?_⟩
   simp only[qct,hfx,hargs,qmw,h1,qcd.out,a1,a2,Option.map_none,List.map_nil]
  ·rename_i hs
   have h1:=spO_ok hc hall hs σ
   split at hu
   ·cases hu
   rename_i hio
   have hio:qlf tab (qge g)=false:=by rw[←hc.isIo];simpa using hio
   split at hu
   ·rename_i rr obs hL
    rw[hc.L] at hL
    have hev:=qty hL
    obtain⟨a1,a2,a3,a4⟩:=Qcc d hfix hu
    refine⟨_,⟨a3,a4,by simp,by simp⟩,rfl,hev.mono fun n hn'=>?_⟩
    simp only at h1
    simp only[qct,hfx,hargs,qmw,qrg,Qdx,hio,h1,hnm,if_true,hy,Bool.false_eq_true,if_false,hn',qcd.out,a1,a2,Option.map_none,List.map_nil]
   ·cases hu
  ·cases hu
 ·cases hu
theorem mapM_mem {α:Type} {σ:Nm→Option α}:∀ {S:List Nm} {l:List α},S.mapM σ=some l→l.length=S.length∧∀ x∈l,∃ nm,σ nm=some x:=by
 intro S
 induction S with
 | nil=>intro l h;simp at h;subst h;exact⟨rfl,fun x h=>by cases h⟩
 | cons y S ih =>
  intro l h
  rw[List.mapM_cons] at h
  simp only[Option.bind_eq_bind,Option.bind_eq_some_iff,Option.pure_def,Option.some.injEq] at h
  obtain⟨o,ho,l',hl,rfl⟩:=h
  obtain⟨q1,q2⟩:=ih hl
  refine⟨by simp[q1],fun x hx=>?_⟩
  rcases List.mem_cons.1 hx with rfl | hx
  ·exact⟨y,ho⟩
  ·exact q2 x hx
theorem mapM_map' {α β:Type} {σ:Nm→Option α} (g:α→β):∀ {S:List Nm} {l:List α},S.mapM σ=some l→S.mapM (fun nm=>(σ nm).map g)=some (l.map g):=by
 intro S
 induction S with
 | nil=>intro l h;simp at h;subst h;rfl
 | cons y S ih =>
  intro l h
  rw[List.mapM_cons] at h
  simp only[Option.bind_eq_bind,Option.bind_eq_some_iff,Option.pure_def,Option.some.injEq] at h
  obtain⟨o,ho,l',hl,rfl⟩:=h
  rw[List.mapM_cons,ih hl,ho]
  rfl
theorem Qfi:∀ {ps xs:List KOb},qjp ps xs=true→ps.length=xs.length
 | [],[],_=>rfl
 | [],_ :: _,h=>by simp[qjp] at h
 | _ :: _,[],h=>by simp[qjp] at h
 | p :: ps,x :: xs,h=>by
  simp only[qjp,Bool.and_eq_true] at h
  simp[Qfi h.2]
theorem Qr7:∀ {ps xs:List KV},Qcw ps xs=true→ps.length=xs.length
 | [],[],_=>rfl
 | [],_ :: _,h=>by simp[Qcw] at h
 | _ :: _,[],h=>by simp[Qcw] at h
 | p :: ps,x :: xs,h=>by
  simp only[Qcw,Bool.and_eq_true] at h
  simp[Qr7 h.2]
theorem ob_noY {o:KOb} (h:o.ok) (hq:∀ ty cs,o=.cells ty cs→qle cs=false):o.ob.hasY=false:=by
 cases o with
 | cells ty cs =>
  have h':qg2 cs:=h
  show qd1 (pvL cs)=false
  rw[qpp h'];exact hq ty cs rfl
 | whole ty v=>exact (qb9 (qcx h)).2
 | arr k kt xs=>exact (qb9 h).2
 | map es=>exact (qb9 h).2
 | siter s p=>rfl
theorem Qd9 (hc:qpe cfg tab) (hk:ks.Ok) (hq:qkq ks.objs=true) {g:FuncId} {xs:List KV} (hxs:qg2 xs)
  {R:Type} {r:R} {K:qcd→Option R} {Pf:List KV→List KOb→qlp} (hPf:cfg.ioF g=some Pf) (hr:qz9 cfg Pf g d (qdg ks.objs) xs K=some r) :
  ∃ out,K out=some r∧out.Ok∧cfg.spF g=false∧Evl fun n=>(qk6 cfg.b.sp tab n).io g d (qbq ks.st.objs) (pvL xs)=some out.out:=by
 unfold qz9 at hr
 simp only at hr
 generalize hS:qgz (qnu (qdg ks.objs) qbp (qd5 xs))=S at hr
 split at hr
 ·cases hr
 rename_i ins hins
 generalize hP:Pf xs ins=P at hr
 split at hr
 case isFalse=>cases hr
 rename_i hcond
 obtain⟨hsh,hy,hsp,hfit⟩:=hcond
 simp only[Bool.and_eq_true] at hfit
 obtain⟨hfa,hfo⟩:=hfit
 obtain⟨rs,hio,hr⟩:=qcb hr
 have hplace:∃ sl d1 i1,K (ioOut P S sl d1 i1 rs)=some r∧∀ st v out,qwj sl d1 i1 S st v=some out→qsy (qbq ks.st.objs) d S st v=some out:=by
  unfold qsy
  cases S with
  | nil=>exact⟨none,d,0,hr,fun st v out h=>h⟩
  | cons s ss =>
   simp only at hr
   split at hr
   ·rename_i i1 hi1
    refine⟨some s.1,s.1,i1,hr,fun st v out h=>?_⟩
    have:qsf (qbq ks.st.objs) s.1=some i1:=by
     rw[qd8 hk,←hi1]
     unfold qsf
     congr 1
     funext j
     show ((qdg ks.objs (s.1,j)).map KOb.ob).isNone=_
     cases qdg ks.objs (s.1,j)<;>rfl
    simp only[this]
    exact h
   ·cases hr
 obtain⟨sl,d1,i1,hr,hplace⟩:=hplace
 have hflag:qlf tab g=true:=by rw[←hc.ioF,hPf];rfl
 obtain⟨fn,htab,hnt,hll⟩:=hc.ioP g Pf hPf
 have hla:=(hll xs ins).1
 have hli:=(hll xs ins).2
 rw[hP] at hla hli
 obtain⟨m1,m2⟩:=mapM_mem hins
 have hinok:∀ o∈ins,o.ok:=fun o ho=>let ⟨nm,h⟩:=m2 o ho;qcs hk nm o h
 have hS':qgz (qcv (qbq ks.st.objs) qbp (qbn (pvL xs)))=S:=by rw[←hS,qg8 (qcs hk),qd8 hk,qff hxs]
 have hmap:S.mapM (qbq ks.st.objs)=some (ins.map KOb.ob):=by rw[qd8 hk];exact mapM_map' KOb.ob hins
 have hysok:qg2 (qry (fun m=>(0,S.idxOf m)) xs):=qro _ hxs
 have hosok:∀ o∈ins.map (KOb.ren fun m=>(0,S.idxOf m)),o.ok:=by
  intro o ho
  obtain⟨o0,h0,rfl⟩:=List.mem_map.1 ho
  exact KOb.ren_ok _ (hinok o0 h0)
 have hlen:P.ins.length=S.length:=by rw[Qfi hfo,List.length_map,m1]
 have hlx:∀ l:List KV,(qry (fun m=>(0,S.idxOf m)) l).length=l.length:=by
  intro l;induction l with | nil=>rfl | cons x l ih=>simp[qry,ih]
 have hlena:(pvL xs).length≤fn.nt:=by
  have h1:=Qr7 hfa
  rw[hlx] at h1
  have h2:(pvL xs).length=xs.length:=by rw[qg5,List.length_map]
  omega
 generalize hlv:qjo P.args (qry (fun m=>(0,S.idxOf m)) xs)++qjn P.ins (ins.map (KOb.ren fun m=>(0,S.idxOf m)))=lv at hio
 have hseg:Seg lv 0 (qjo P.args (qry (fun m=>(0,S.idxOf m)) xs)++qjn P.ins (ins.map (KOb.ren fun m=>(0,S.idxOf m)))):=by rw[hlv];exact Seg.all lv
 obtain⟨p1,p2,p3⟩:=qrt _ _ hfa hysok lv 0 hseg.left
 obtain⟨q1,q2,q3⟩:=qwt _ _ hfo hosok lv (qj6 P.args lv 0).2 (by rw[p3];exact hseg.right)
 have hvs2:pvL (qry (fun m=>(0,S.idxOf m)) xs)=qjv (fun m=>(0,S.idxOf m)) (pvL xs):=qv5 _ hxs
 have hos2:(ins.map (KOb.ren fun m=>(0,S.idxOf m))).map KOb.ob=(ins.map KOb.ob).map (Ob.ren fun m=>(0,S.idxOf m)):=by
  rw[List.map_map,List.map_map]
  exact List.map_congr_left fun o ho=>KOb.ren_ob _ (hinok o ho)
 unfold ioO at hio
 rw[p1,q1,hvs2,hos2] at hio
 split at hio
 case h_2=>cases hio
 rename_i st v hI
 rw[hc.I] at hI
 unfold limIo at hI
 rw[htab] at hI
 have hev:=qty hI
 split at hio
 case h_2=>cases hio
 rename_i out0 hend
 rw[hlen] at hend
 have hend2:=ioEnd_ren (sl:=sl) (d:=d1) (i0:=i1) hend
 unfold ioFit at hio
 split at hio
 case isFalse=>cases hio
 rename_i hgone
 split at hio
 case h_2=>cases hio
 rename_i a b c ha hb hcc
 cases hio
 have hsr:=Seg.all (a++(b++c))
 obtain⟨a1,a2,a3⟩:=Qbr P.res out0.v ha _ 0 hsr.left
 obtain⟨b1,b2,b3⟩:=qqu P.outs _ hb (a++(b++c)) (fill P.res (a++(b++c)) 0).2 (by rw[a3];exact hsr.right.left)
 obtain⟨c1,c2,c3⟩:=qqu P.news _ hcc (a++(b++c)) (qdw P.outs (a++(b++c)) (fill P.res (a++(b++c)) 0).2).2 (by rw[b3,a3];exact hsr.right.right)
 have hout:(ioOut P S sl d1 i1 (a++(b++c))).out={v:=out0.v.ren (qrq S d1 i1),new:=out0.new.map (Ob.ren (qrq S d1 i1)),gone:=out0.gone.map (qrq S d1 i1),ups:=S.zip (out0.ups.map fun p=>p.2.ren (qrq S d1 i1)),io:=true,slot:=sl}:=by
  simp only[ioOut,qcd.out,Option.map_none,Out.mk.injEq,true_and,and_true]
  refine⟨?_,?_,?_,?_⟩
  ·rw[KV.ren_pv _ a2,a1]
  ·rw[List.map_map,←c1,List.map_map]
   exact List.map_congr_left fun o ho=>KOb.ren_ob _ (c2 o ho)
  ·rw[hgone,List.map_map]
   exact List.map_congr_left fun j _=>by simp[qrq]
  ·have e1:out0.ups.map (fun p=>p.2.ren (qrq S d1 i1))=(out0.ups.map (·.2)).map (Ob.ren (qrq S d1 i1)):=by rw[List.map_map];rfl
   rw[e1,←b1,List.map_map]
   have key:∀ (T:List Nm) (l:List KOb),(∀ o∈l,o.ok)→(T.zip (l.map (KOb.ren (qrq S d1 i1)))).map (fun p=>(p.1,p.2.ob))=T.zip (l.map (Ob.ren (qrq S d1 i1)∘KOb.ob)):=by
    intro T
    induction T with
    | nil=>intro l _;rfl
    | cons s T ih =>
     intro l hl
     cases l with
     | nil=>rfl
     | cons o l =>
      simp only[List.map_cons,List.zip_cons_cons,List.map_cons,Function.comp]
      rw[KOb.ren_ob _ (hl o List.mem_cons_self),ih l fun o ho=>hl o (List.mem_cons_of_mem _ ho)]
   exact key S _ b2
 refine⟨_,hr,⟨KV.ren_ok _ a2,?_,by simp[ioOut],?_⟩,hsp,hev.shift.mono ?_⟩
 ·intro o ho
  obtain⟨o0,h0,rfl⟩:=List.mem_map.1 ho
  exact KOb.ren_ok _ (c2 o0 h0)
 ·rintro ⟨s,o⟩ ho
  have:=(List.of_mem_zip ho).2
  obtain⟨o0,h0,rfl⟩:=List.mem_map.1 this
  exact KOb.ren_ok _ (b2 o0 h0)
 ·rintro k ⟨j,rfl,hj⟩
  show Qmz (qmp cfg.b.sp tab j) j tab g d (qbq ks.st.objs) (pvL xs)=_
  unfold Qmz
  rw[htab]
  simp only
  rw[hS',hmap]
  have hcd:(!qd1 (pvL xs)&&qkm (qbq ks.st.objs) S&&(ins.map KOb.ob).all (fun o=>!o.hasY)&&(decide ((pvL xs).length≤fn.nt)&&decide (S.length≤fn.nt)&&decide (0 < fn.nt)))=true:=by
   simp only[Bool.and_eq_true,Bool.not_eq_true',decide_eq_true_eq]
   refine⟨⟨⟨by rw[qpp hxs];exact hy,?_⟩,?_⟩,⟨hlena,by omega⟩,hnt⟩
   ·rw[qd8 hk,←qrn (qcs hk)];exact hsh
   ·rw[List.all_eq_true]
    intro o ho
    obtain⟨o0,h0,rfl⟩:=List.mem_map.1 ho
    obtain⟨nm,hnm⟩:=m2 o0 h0
    have:=ob_noY (hinok o0 h0) fun ty cs hcs=>qnm hq nm ty cs (by rw[hnm,hcs])
    simp[this]
  simp only[chk,hcd,if_true]
  have hj':qwh (qmp cfg.b.sp tab j) j fn ((ins.map KOb.ob).map (Ob.ren fun m=>(0,S.idxOf m))) (qjv (fun m=>(0,S.idxOf m)) (pvL xs))=some (st,v):=hj
  rw[hj']
  simp only
  rw[hout]
  exact hplace _ _ _ hend2
theorem kcallIo_ok (hc:qpe cfg tab) (hk:ks.Ok) (hq:qkq ks.objs=true) {g f0:FuncId} (hg0:qge f0=g) {cap:List PV} {f:RX} {args:List RX} {xs:List KV} (hxs:qg2 xs) (hfe:f.ev ks.st.tmps=.fn f0 cap) (hvs:qco f0 (args.map (RX.ev ks.st.tmps)) cap=pvL xs)
  {Pf:List KV→List KOb→qlp} (hPf:cfg.ioF g=some Pf) (hr:qz9 cfg Pf g d (qdg ks.objs) xs (fun out=>K out e)=some r) :
  ∃ out e',K out e'=some r∧out.Ok∧Evl fun n=>qct (qk6 cfg.b.sp tab n) (hn n) dep d (qbq ks.st.objs) ks.st.tmps f args e=some (out.out,e'):=by
 obtain⟨out,hr,ho,hsp,hev⟩:=Qd9 (K:=fun out=>K out e) hc hk hq hxs hPf hr
 have hflag:qlf tab g=true:=by rw[←hc.ioF,hPf];rfl
 exact⟨out,e,hr,ho,hev.mono fun n hn'=>by simp only[qct,hfe,hg0,hvs,qmw,qrg,hc.spF g hsp,hflag,if_true,hn']⟩
theorem kcall_ok (hc:qpe cfg tab) (hh:HOk h hn) (hk:ks.Ok) {f:RX} {args:List RX} (hq:(qkq ks.objs||calmX cfg (.call f args) ks.tmps)=true) (hx:(f :: args).all okX=true)
  (hr:kcall cfg h d (qdg ks.objs) ks.tmps f args e K=some r) :
  ∃ out e',K out e'=some r∧out.Ok∧Evl fun n=>qct (qk6 cfg.b.sp tab n) (hn n) dep d (qbq ks.st.objs) ks.st.tmps f args e=some (out.out,e'):=by
 have hxf:okX f=true:=List.all_eq_true.1 hx f (by simp)
 have hxa:args.all okX=true:=List.all_eq_true.2 fun x hm=>List.all_eq_true.1 hx x (by simp[hm])
 have hfo:=kv_ok hk hxf
 have hao:=qzv hk hxa
 unfold kcall at hr
 split at hr
 ·rename_i l hf
  have hfe:f.ev ks.st.tmps=.yld l:=by rw[qvz hk,hf];rfl
  simp only at hr
  split at hr
  ·rename_i vs hv
   obtain⟨p,hp,hr⟩:=qcb hr
   have hok:=qvo hao hv
   have hnm:(qbn vs).isEmpty=true:=by rw[(qb9 hok).1];rfl
   refine⟨_,_,hr,qcd.plain (v:=.cv (.bool p.1)) rfl,(hh _ _ _ _ hp).mono fun n hn'=>?_⟩
   simp[qct,hfe,qql hk,qxv hv,hnm,(qb9 hok).2,chk,hn',qcd.out,KV.pv]
  ·split at hr
   ·cases hr
   ·rename_i hne
    split at hr
    ·rename_i hsh
     obtain⟨h1,hr⟩:=qbr hr
     obtain⟨p,hp,hr⟩:=qcb hr
     have hne':(qbn (pvL (args.map (RX.kv ks.tmps)))).isEmpty=false:=by rw[Qb9 hao];simpa using hne
     rw[qg8 (qcs hk),qrn (qcs hk),←qd8 hk,←qff hao] at hsh
     rw[qqy hk hao] at h1 hp
     unfold noYL at h1
     refine⟨_,_,hr,⟨rfl,by simp,by simp,by simp⟩,(hh _ _ _ _ hp).mono fun n hn'=>?_⟩
     simp only[qct,hfe,qql hk,hne',Bool.false_eq_true,if_false,hsh,h1,Bool.and_self,chk,if_true,hn',qcd.out,KV.pv]
     rw[qg8 (qcs hk),←qd8 hk,←qff hao]
     rfl
    ·cases hr
 ·rename_i f0 caps hf
  rw[hf] at hfo
  have hcaps:qg2 caps:=hfo
  have hfe:f.ev ks.st.tmps=.fn f0 (pvL caps):=by rw[qvz hk,hf];rfl
  have hxs:qg2 (qna f0 (args.map (RX.kv ks.tmps)) caps):=Qd7 hao hcaps
  have hvs:qco f0 (args.map (RX.ev ks.st.tmps)) (pvL caps)=pvL (qna f0 (args.map (RX.kv ks.tmps)) caps):=by rw[Qd6,qql hk]
  have hall:∀ sh,qb6 cfg.b sh (.fn f0 (pvL caps)) (args.map (RX.ev ks.st.tmps))=qb6 cfg.b sh (.fn (qge f0) []) (qco f0 (args.map (RX.ev ks.st.tmps)) (pvL caps)):=fun sh=>callO_all
  simp only at hr
  generalize qna f0 (args.map (RX.kv ks.tmps)) caps=xs at hr hxs hvs
  generalize hg:qge f0=g at hr hall
  split at hr
  ·rename_i s hs
   split at hr
   case h_2=>cases hr
   rename_i p hso
   obtain⟨b,out⟩:=p
   obtain⟨hb,hr⟩:=qbr hr
   have hb:b=true:=hb
   subst hb
   obtain⟨a1,a2,a3⟩:=hc.spK g s hs _ xs out hxs (qcs hk) hso
   rw[←qd8 hk] at a2
   exact⟨out,e,hr,a1,.of fun n=>by simp only[qct,hfe,hg,hvs,qmw,a2,a3]⟩
  split at hr
  ·rename_i P hP
   have hq:qkq ks.objs=true:=by
    rcases Bool.or_eq_true_iff.1 hq with h1 | h1
    ·exact h1
    ·unfold calmX at h1
     simp only[hf,hg,hP] at h1
     cases h1
   exact kcallIo_ok hc hk hq hg hxs hfe hvs hP hr
  rename_i hP
  have hio:qlf tab g=false:=by rw[←hc.ioF,hP];rfl
  split at hr
  ·rename_i ex p nm
   split at hr
   ·rename_i t n err ty cs ht herr hlk
    have hq:=qbr hr
    clear hr
    obtain⟨hcs,hr⟩:=hq
    have hcs:cs.length=n:=Nat.eq_of_beq_eq_true hcs
    have hlk':qbq ks.st.objs nm=some (.cells ty (pvL cs)):=by rw[qk3 hk,hlk];rfl
    have hcs':(pvL cs).length=n:=by rw[←hcs,qfo]
    have hero:=KV.cl_ok hxs.1 herr
    have hpv:pvL [ex,.iface p (.ref nm 0)]=[err,.iface p (.ref nm 0)]:=by simp[pvL,KV.pv,KV.cl_pv herr]
    rw[hpv] at hvs
    obtain⟨s1,s2⟩:=hc.asOk g p t n ht (qbq ks.st.objs) nm _ _ hlk' hcs'
    unfold asP at hr
    split at hr
    ·refine⟨_,_,hr,qcd.plain (v:=.lit false) trivial,.of fun n=>?_⟩
     simp only[qct,hfe,hg,hvs,qmw,s1]
     rfl
    ·rename_i t' x
     split at hr
     ·rename_i htt
      subst htt
      have hq:=qbr hr
      clear hr
      obtain⟨hx1,hr⟩:=hq
      refine⟨_,_,hr,qcd.turn (v:=.lit true) (o:=.whole _ x) trivial (show okV x=true by simpa[okV] using hero),.of fun n=>?_⟩
      simp only[qct,hfe,hg,hvs,qmw,s2 x hx1]
      rfl
     ·cases hr
    ·cases hr
   ·cases hr
  ·split at hr
   ·rename_i vs hv
    obtain⟨u,hu,hr⟩:=qcb hr
    have hok:=qvo hxs hv
    rw[qxv hv] at hvs
    have hu':qb6 cfg.b (cfg.rsh g).1 (.fn g []) (qco f0 (args.map (RX.ev ks.st.tmps)) (pvL caps))=some u:=by rw[hvs];exact hu
    have hcv:qb8 (pvL caps)=true:=Qgl (ys:=pvL caps) hok fun y hy=>by rw[←hvs];exact Qbo (.inr hy)
    have hav:qb8 (args.map (RX.ev ks.st.tmps))=true:=Qgl hok fun y hy=>by rw[←hvs];exact Qbo (.inl hy)
    have hu2:qb6 cfg.b (cfg.rsh g).1 (.fn f0 (pvL caps)) (args.map (RX.ev ks.st.tmps))=some u:=by rw[hall];exact hu'
    obtain⟨sh',hfix,hr,hsh⟩:=qyx hr
    have hu2:=Qsq hsh hu2
    obtain⟨out,h1,h2,h3⟩:=Qsr (d:=d) (dep:=dep) (e:=e) (hn:=hn) hc hfix hav (by simpa[okV] using hcv) hu2 (qbq ks.st.objs) ks.st.tmps f args hfe rfl
    subst h2
    exact⟨_,_,hr,h1,h3⟩
   ·split at hr
    ·cases hr
    ·rename_i hne
     split at hr
     ·rename_i hsh
      obtain⟨u,hu,hr⟩:=qcb hr
      have hne1:(qd5 xs).isEmpty=false:=by
       cases hq:(qd5 xs).isEmpty with
       | false=>rfl
       | true=>exact absurd (.inl hq) hne
      have hsp:cfg.spF g=false:=by
       cases hq:cfg.spF g with
       | false=>rfl
       | true=>exact absurd (.inr hq) hne
      have hne':(qbn (pvL xs)).isEmpty=false:=by rw[Qb9 hxs];exact hne1
      rw[qg8 (qcs hk),qrn (qcs hk),←qd8 hk,←qff hxs] at hsh
      rw[qqy hk hxs] at hu
      obtain⟨sh',hfix,hr,hshs⟩:=qyx hr
      have hu:=lendO_sh hshs hu
      unfold qh2 at hu
      split at hu
      ·cases hu
      ·rename_i hy
       split at hu
       ·rename_i rr obs hL
        obtain⟨hfr,hu⟩:=qbr hu
        rw[hc.L] at hL
        have hev:=qty hL
        obtain⟨a1,a2,a3,a4⟩:=Qcc d hfix hu
        refine⟨_,_,hr,⟨a3,a4,by simp,by simp⟩,hev.mono fun n hn'=>?_⟩
        simp only[beq_iff_eq] at hfr
        rw[hc.leans] at hfr
        have hy':qd1 (qgc (qcp (qbq ks.st.objs)) (pvL xs))=false:=by simpa using hy
        simp only[qct,hfe,hg,hvs,qmw,qrg,Qns,Qdx,hio,hc.spF g hsp,hne',Bool.false_eq_true,if_false,hsh,hy',Bool.not_false,Bool.and_self,chk,if_true,hn',qcd.out,a1,a2,hfr,Option.map_none,List.map_nil]
        rw[qg8 (qcs hk),←qd8 hk,←qff hxs]
       ·cases hu
     ·cases hr
 ·rename_i v hf
  rw[hf] at hfo
  have hfe:f.ev ks.st.tmps=v:=by rw[qvz hk,hf];rfl
  split at hr
  ·rename_i vs hv
   obtain⟨u,hu,hr⟩:=qcb hr
   obtain⟨sh',hfix,hr,hsh⟩:=qyx hr
   obtain⟨out,h1,h2,h3⟩:=Qsr (d:=d) (dep:=dep) (e:=e) (hn:=hn) hc hfix (qvo hao hv) hfo (Qsq hsh hu) (qbq ks.st.objs) ks.st.tmps f args hfe (by rw[qql hk,qxv hv])
   subst h2
   exact⟨_,_,hr,h1,h3⟩
  ·cases hr
 ·cases hr
end
end Go.Ab


namespace Go.Ab
variable {cfg:Qcm} {tab:FuncId→Option RFn} {ks:KSt} {E R:Type} {h:qbk E} {hn:Nat→qbk E} {r:R} {e:E} {d dep:Nat}
theorem kfresh_ok (hk:ks.Ok) {o:qb3} (hf:kfresh o ks=true):qgv o ks.st=true:=by
 unfold kfresh at hf
 unfold qgv
 split
 ·rename_i hm
  rw[if_pos hm] at hf
  split
  ·rename_i d' hd
   rw[hd] at hf
   simp only[Bool.and_eq_true,Nat.blt_eq,List.isEmpty_iff] at hf
   have:ks.st.objs[d']?=some []:=by
    show (qfx ks.nt ks.objs)[d']?=_
    rw[denseO_get?,if_pos hf.1,hf.2];rfl
   rw[this]
  ·rename_i hd
   rw[hd] at hf
   exact hf
 ·rfl
theorem Qkw (hc:qpe cfg tab) (hh:HOk h hn) (hk:ks.Ok) {o:qb3} {K:qcd→E→Option R} (hr:Qd2 cfg h o ks e K=some r) :
  ∃ out e',(out.frz.isEmpty||qkq ks.objs)=true∧K out e'=some r∧out.Ok∧Evl fun n=>qj0 (qk6 cfg.b.sp tab n) (hn n) dep o ks.st e=some (out.out,e'):=by
 unfold Qd2 at hr
 split at hr
 ·rename_i hcond
  obtain⟨h1,h2,h3⟩:=hcond
  have hf:=kfresh_ok hk h1
  split at hr
  ·rename_i f args hop
   rw[hop] at h2 h3
   obtain⟨out,e',a1,a2,a3⟩:=kcall_ok (dep:=dep) hc hh hk h3 h2 hr
   split at a1
   case isFalse=>cases a1
   rename_i hgq
   obtain⟨hg,hqq⟩:=Bool.and_eq_true_iff.1 hgq
   have hgd:qqs o.dst out.out=true:=by
    simp only[qqs,qcd.out]
    have:(out.new.map KOb.ob).isEmpty=out.new.isEmpty:=by cases out.new<;>rfl
    rw[this];exact hg
   refine⟨out,e',hqq,a1,a2,a3.mono fun n hn'=>?_⟩
   simp only[qj0,chk,hf,if_true,hop,hn',hgd]
  ·rename_i hop
   obtain⟨out,a1,a2,a3⟩:=execK_ok hk h3 h2 hr
   simp only at a1
   split at a1
   case isFalse=>cases a1
   rename_i hqq
   refine⟨out,e,hqq,a1,a2,.of fun n=>?_⟩
   simp only[qj0,chk,hf,if_true]
   cases hq:o.op with
   | call f args=>exact (hop f args hq).elim
   | _=>rw[hq] at a3;simp only[a3]
 ·cases hr
theorem qtg {i:Nat} {v:PV} {b:Bool} (hk:ks.Ok) (hg:qcn ks.tmps i=.cv v) (hv:v=.bool b):({ks with tmps:=qkl i (.lit b) ks.tmps}:KSt).st=ks.st∧({ks with tmps:=qkl i (.lit b) ks.tmps}:KSt).Ok:=by
 have hlt:i < ks.nt:=by
  apply Classical.byContradiction
  intro hlt
  rw[hk.tm.get_ge (by omega)] at hg;cases hg
 refine⟨?_,hk.tm.put hlt trivial rfl,hk.ob,hk.kp⟩
 unfold KSt.st
 simp only
 rw[qvk]
 congr 1
 apply List.ext_getElem?
 intro j
 rw[List.getElem?_set,qca]
 by_cases hj:i=j
 ·subst hj
  simp only[if_true]
  rw[if_pos hlt,dense_get?,if_pos hlt,hg,hv]
  rfl
 ·rw[if_neg hj]
theorem Qkq (hk:ks.Ok) {ops:List qb3} {o:qb3} {K:Bool→KSt→Option R} (hr:Qrg ops o ks K=some r):∃ b k',K b k'=some r∧k'.Ok∧k'.st=ks.st∧qkk ops o ks.st.tmps=some b ∧
  k'.objs=ks.objs∧(∀ x:RX,(x.kv k'.tmps).names=(x.kv ks.tmps).names∧(x.kv k'.tmps).hasY=(x.kv ks.tmps).hasY):=by
 unfold Qrg at hr
 unfold qkk
 split at hr
 ·rename_i hg;rw[hg];exact⟨_,_,hr,hk,rfl,rfl,rfl,fun _=>⟨rfl,rfl⟩⟩
 ·rename_i j want hg
  rw[hg]
  split at hr
  ·rename_i p hp
   split at hr
   ·rename_i d' hd
    have hget:ks.st.tmps.getD d' .undef=(qcn ks.tmps d').pv:=qj7 hk.tm d'
    simp only[hp,hd,hget]
    split at hr
    ·rename_i b hb;rw[hb];exact⟨_,_,hr,hk,rfl,rfl,rfl,fun _=>⟨rfl,rfl⟩⟩
    ·rename_i hb;rw[hb];exact⟨_,_,hr,hk,rfl,rfl,rfl,fun _=>⟨rfl,rfl⟩⟩
    ·rename_i v hb
     rw[hb]
     have hsame:∀ b,∀ x:RX,(x.kv (qkl d' (.lit b) ks.tmps)).names=(x.kv ks.tmps).names∧(x.kv (qkl d' (.lit b) ks.tmps)).hasY=(x.kv ks.tmps).hasY:=by
      intro b x
      cases x with
      | c v=>exact⟨rfl,rfl⟩
      | t i =>
       simp only[RX.kv,qyy]
       by_cases hi:i=d'
       ·subst hi;rw[if_pos rfl,hb];exact⟨rfl,rfl⟩
       ·rw[if_neg hi];exact⟨rfl,rfl⟩
     rcases qt3 hr with ⟨hv,hr⟩ | ⟨hv,hr⟩
     ·obtain⟨s1,s2⟩:=qtg hk hb hv
      subst hv
      exact⟨_,_,hr,s2,s1,rfl,rfl,hsame true⟩
     ·obtain⟨s1,s2⟩:=qtg hk hb hv
      subst hv
      exact⟨_,_,hr,s2,s1,rfl,rfl,hsame false⟩
    ·cases hr
   ·cases hr
  ·cases hr
theorem Qrh (hc:qpe cfg tab) (hh:HOk h hn) (hk:ks.Ok) {ops:List qb3} {o:qb3} {K:KSt→E→Option R} (hr:kstep cfg h ops o ks e K=some r) :
  ∃ k' e',K k' e'=some r∧k'.Ok∧Evl fun n=>stepG (qk6 cfg.b.sp tab n) (hn n) dep ops o ks.st e=some (k'.st,e'):=by
 unfold kstep at hr
 obtain⟨b,k1,hr,hk1,hst,hw,_,_⟩:=Qkq hk hr
 cases b with
 | true =>
  simp only at hr
  obtain⟨out,e',hq,h1,h2,h3⟩:=Qkw (dep:=dep) hc hh hk1 hr
  rw[qdm] at h1
  obtain⟨s1,s2⟩:=qsv hk1 hq o.dst h2
  refine⟨_,_,h1,s2,h3.mono fun n hn'=>?_⟩
  rw[hst] at hn' s1
  simp only[stepG,hw,qte,hn',s1]
 | false =>
  simp only at hr
  rw[qdm] at hr
  have:(qny k1 o.dst {v:=.sk}).st=apply k1.st o.dst {v:=.tup []}∧(qny k1 o.dst {v:=.sk}).Ok:=by
   exact kapply_sk hk1 o.dst
  refine⟨_,_,hr,this.2,.of fun n=>?_⟩
  simp only[stepG,hw,this.1,hst]
where
 kapply_sk {ks:KSt} (hk:ks.Ok) (dst:Option Nat):(qny ks dst {v:=.sk}).st=apply ks.st dst {v:=.tup []}∧(qny ks dst {v:=.sk}).Ok:=by
  unfold qny
  rw[Qh8]
  simp only[kupd,kkill,kfrzs,bupd,Qp0,List.isEmpty_nil,if_true,bgone,Qpz,kgone]
  have hkt:kturn [] ks=ks:=rfl
  have hke:kext none [] ks=ks:=rfl
  have hkn:newAt none []=[]:=rfl
  rw[hkt,hke,hkn]
  simp only[bext,Qkg]
  cases dst with
  | none=>exact⟨rfl,hk⟩
  | some d =>
   simp only[kset,bset]
   cases hd:Nat.blt d ks.nt with
   | true =>
    have hd':d < ks.nt:=by simpa[Nat.blt_eq] using hd
    refine⟨?_,hk.tm.set (v:=.sk) hd' trivial,hk.ob,hk.kp⟩
    unfold KSt.st
    simp only
    rw[Ql7]
    rfl
   | false =>
    have hd':¬ d < ks.nt:=by intro h;rw[show Nat.blt d ks.nt=true by simpa[Nat.blt_eq] using h] at hd;cases hd
    refine⟨?_,hk⟩
    unfold KSt.st
    simp only
    rw[List.set_eq_of_length_le (by rw[qca];omega)]
    rfl
theorem Qg4 (hc:qpe cfg tab) (hh:HOk h hn) {ops:List qb3}:∀ (l:List qb3) {ks:KSt} {e:E} {K:KSt→E→Option R},ks.Ok→kruns cfg h ops l ks e K=some r →
  ∃ k' e',K k' e'=some r∧k'.Ok∧Evl fun n=>qjb (qk6 cfg.b.sp tab n) (hn n) dep ops l ks.st e=some (k'.st,e'):=by
 intro l
 induction l with
 | nil=>intro ks e K hk hr;exact⟨ks,e,hr,hk,.of fun n=>rfl⟩
 | cons o rest ih =>
  intro ks e K hk hr
  simp only[kruns] at hr
  obtain⟨k1,e1,hr,hk1,h1⟩:=Qrh (dep:=dep) hc hh hk hr
  obtain⟨k2,e2,hr,hk2,h2⟩:=ih hk1 hr
  exact⟨k2,e2,hr,hk2,h1.mono2 h2 fun n a b=>by simp only[qjb,a,b]⟩
theorem Qks (o:qcd):Qkt o=qce o.out:=by
 unfold Qkt qce qcd.out
 cases o.upd<;>cases o.ups<;>rfl
theorem kturns_ok (o:qcd):kturns o=qd3 o.out:=by
 unfold kturns qd3 qcd.out
 cases o.ups<;>rfl
theorem Qkr (o:qcd):qz2 o=qfp o.out:=by
 unfold qz2 qfp qcd.out
 cases o.upd with
 | none=>rfl
 | some p=>rfl
theorem spAt_pv (ks:KSt) (s:Nat):ks.st.tmps.getD s .undef=(spAt ks s).pv:=by
 unfold spAt
 show (qd2 ks.nt ks.tmps).getD s .undef=_
 unfold qd2
 rw[List.getD_eq_getElem?_getD,List.getElem?_map]
 cases hb:Nat.blt s ks.nt with
 | true =>
  have:s < ks.nt:=Nat.blt_eq.mp hb
  rw[List.getElem?_range this];rfl
 | false =>
  have:¬ s < ks.nt:=fun h=>by rw[Nat.blt_eq.mpr h] at hb;cases hb
  rw[List.getElem?_eq_none (by simpa using this)];rfl
theorem Qc9 (hk:ks.Ok) (s:Nat):(ks.st.tmps.getD s .undef).names=(spAt ks s).names:=by
 rw[spAt_pv]
 refine KV.pv_names ?_
 unfold spAt
 cases Nat.blt s ks.nt with
 | true=>exact hk.tm.get_ok s
 | false=>trivial
theorem kheld_eq (hk:ks.Ok) (l:List Nm):kheldN (qdg ks.objs) l=Qhe (qbq ks.st.objs) l:=by
 unfold kheldN Qhe
 congr 1
 funext nm
 rw[qd8 hk]
 cases hq:qdg ks.objs nm with
 | none=>simp[hq]
 | some o =>
  simp only[hq,Option.map_some,Option.getD_some]
  exact (KOb.ob_names (qcs hk nm o hq)).symm
theorem krn_eq (hk:ks.Ok) {o:qb3} (hx:o.op.xs.all okX=true) (out:qcd):krnOf o ks out=Qjx o ks.st out.out:=by
 have hok:=qzv hk hx
 unfold krnOf Qjx
 rw[qql hk,qg8 (qcs hk),←qd8 hk,←qff hok,Qks]
 rfl
theorem kisYld_ok (hk:ks.Ok) {op:ROp} (hx:op.xs.all okX=true):kisYld op ks.tmps=qwg op ks.st.tmps:=by
 cases op<;>try rfl
 rename_i f args
 have hxa:args.all okX=true:=List.all_eq_true.2 fun x hm=>List.all_eq_true.1 hx x (by simp[ROp.xs,hm])
 have hxf:(f.kv ks.tmps).ok:=kv_ok hk (List.all_eq_true.1 hx f (by simp[ROp.xs]))
 unfold kisYld qwg
 simp only
 rw[qvz hk,qql hk,qff (qzv hk hxa)]
 cases hf:f.kv ks.tmps with
 | cv v =>
  rw[hf] at hxf
  simp only[KV.pv]
  cases v<;>first | rfl | (simp[KV.ok,okV] at hxf)
 | _=>rfl
theorem kinfo_ok (hk:ks.Ok) {ops:List qb3} {i:Nat} {o:qb3} (hx:o.op.xs.all okX=true) {out:qcd} (ho:out.Ok):kinfo ops i o ks out=ql8 ops i o ks.st out.out:=by
 unfold kinfo ql8
 have hok:=qzv hk hx
 simp only
 have hn:out.out.new.flatMap Ob.names=out.new.flatMap KOb.names:=by
  show (out.new.map KOb.ob).flatMap Ob.names=_
  rw[List.flatMap_map]
  have:∀ l:List KOb,(∀ x∈l,x.ok)→l.flatMap (fun a=>a.ob.names)=l.flatMap KOb.names:=by
   intro l
   induction l with
   | nil=>intro _;rfl
   | cons x l ih =>
    intro h
    rw[List.flatMap_cons,List.flatMap_cons,KOb.ob_names (h x List.mem_cons_self),ih fun y hy=>h y (List.mem_cons_of_mem _ hy)]
  exact this _ ho.new
 have hv:out.out.v.names=out.v.names:=KV.pv_names ho.v
 simp only[←Qc9 hk]
 rw[krn_eq hk hx,kheld_eq hk,kisYld_ok hk hx,qql hk,←qpp hok,Qks,kturns_ok,Qkr,hn,hv]
 rfl
theorem koutOf_x {o:qb3} {K:qcd→E→Option R} (hr:Qd2 cfg h o ks e K=some r):o.op.xs.all okX=true:=by
 unfold Qd2 at hr
 split at hr
 ·rename_i hcond;exact hcond.2.1
 ·cases hr
theorem kstepD_ok (hc:qpe cfg tab) (hh:HOk h hn) (hk:ks.Ok) {ops:List qb3} {i:Nat} {o:qb3} {K:KSt→E→qta→Option R} (hr:kstepD cfg h ops i o ks e K=some r) :
  ∃ k' e' inf,K k' e' inf=some r∧k'.Ok∧Evl fun n=>Qjk (qk6 cfg.b.sp tab n) (hn n) dep ops i o ks.st e=some (k'.st,e',inf):=by
 unfold kstepD at hr
 obtain⟨b,k1,hr,hk1,hst,hw,_,_⟩:=Qkq hk hr
 cases b with
 | true =>
  simp only at hr
  have hxs:=koutOf_x hr
  obtain⟨out,e',hq,h1,h2,h3⟩:=Qkw (dep:=dep) hc hh hk1 hr
  rw[qdm] at h1
  obtain⟨s1,s2⟩:=qsv hk1 hq o.dst h2
  refine⟨_,_,_,h1,s2,h3.mono fun n hn'=>?_⟩
  rw[hst] at hn' s1
  simp only[Qjk,qpf,hw,hn',s1]
  rw[kinfo_ok hk1 hxs h2,hst]
 | false =>
  simp only at hr
  rw[qdm] at hr
  have:=Qrh.kapply_sk hk1 o.dst
  refine⟨_,_,_,hr,this.2,.of fun n=>?_⟩
  simp only[Qjk,qpf,hw,this.1,hst,←Qc9 hk1]
theorem krunsD_ok (hc:qpe cfg tab) (hh:HOk h hn) {ops:List qb3}:∀ (l:List (Nat×Nat)) (infos:List qta) {ks:KSt} {e:E} {K:KSt→E→Option R},ks.Ok→Qri cfg h ops l infos ks e K=some r →
  ∃ k' e',K k' e'=some r∧k'.Ok∧Evl fun n=>Qql (qk6 cfg.b.sp tab n) (hn n) dep ops l infos ks.st e=some (k'.st,e'):=by
 intro l
 induction l with
 | nil=>intro infos ks e K hk hr;exact⟨ks,e,hr,hk,.of fun n=>rfl⟩
 | cons p rest ih =>
  obtain⟨i,bef⟩:=p
  intro infos ks e K hk hr
  simp only[Qri] at hr
  split at hr
  ·rename_i o ho
   obtain⟨k1,e1,inf,hr,hk1,h1⟩:=kstepD_ok (dep:=dep) hc hh hk hr
   split at hr
   ·rename_i hall
    obtain⟨k2,e2,hr,hk2,h2⟩:=ih _ hk1 hr
    exact⟨k2,e2,hr,hk2,h1.mono2 h2 fun n a b=>by simp only[Qql,ho,a,chk,hall,if_true,b]⟩
   ·cases hr
  ·cases hr
end Go.Ab


namespace Go.Ab
variable {ks:KSt}
theorem qpy {nt:Nat} {l:SpO} (h:qlo nt l) (d:Nat):(qfx nt l).getD d []=(qc1 l d).map KOb.ob:=by
 rw[List.getD_eq_getElem?_getD,denseO_get?]
 split
 ·rfl
 ·rw[h.get_ge (by omega)];rfl
theorem qnx (h:ks.Ok) (ds:List Nat):(qhn ds ks).st=qmg ds ks.st∧(qhn ds ks).Ok∧(qhn ds ks).nt=ks.nt:=by
 have hall:(ds.all fun d=>(ks.st.objs.getD d []).isEmpty)=ds.all fun d=>(qc1 ks.objs d).isEmpty:=by
  congr 1
  funext d
  show ((qfx ks.nt ks.objs).getD d []).isEmpty=_
  rw[qpy h.ob]
  cases qc1 ks.objs d<;>rfl
 unfold qhn qmg
 rw[hall]
 split
 ·exact⟨rfl,h,rfl⟩
 ·have h1:=Qn4 (fun m=>ds.contains m.1) h
  have h2:=Qn3 (fun m=>ds.contains m.1) h
  refine⟨?_,⟨h1.tm,h1.ob.sub (soKeep_sub _ _),h1.kp⟩,rfl⟩
  have e:qr4 (fun m=>ds.contains m.1)=fun m=>if ds.contains m.1=true then some none else none:=rfl
  rw[e] at h2
  simp only
  rw[←h2]
  unfold KSt.st
  simp only
  congr 1
  refine qj9 (by simp[qdz]) fun i hi=>?_
  rw[List.getElem?_map,List.getElem?_zipIdx,denseO_get?,if_pos hi,soGet_keep]
  simp only[Option.map_some,Nat.zero_add]
  cases ds.contains i<;>simp
theorem qs8 {ds ds':List Nat} (h:∀ d,d∈ds↔d∈ds') (st:St):qmg ds st=qmg ds' st:=by
 have h1:∀ p:Nat→Bool,ds.all p=ds'.all p:=fun p=>by
  rw[Bool.eq_iff_iff,List.all_eq_true,List.all_eq_true]
  exact⟨fun a x hx=>a x ((h x).2 hx),fun a x hx=>a x ((h x).1 hx)⟩
 have h2:∀ i,ds.contains i=ds'.contains i:=fun i=>by
  rw[Bool.eq_iff_iff,List.contains_iff_mem,List.contains_iff_mem]
  exact h i
 unfold qmg
 simp only[h1,h2]
theorem qsr {nm:Nm} {xs:List PV}:nm∈qbn xs↔∃ x∈xs,nm∈x.names:=by
 induction xs with
 | nil=>simp[qbn]
 | cons x xs ih=>simp[qbn,ih]
theorem Qd8 (h:ks.Ok) (nm:Nm):nm∈qbn ks.st.keep↔nm∈ks.keep.flatMap qhk:=by
 rw[qsr]
 show (∃ x∈ks.keep.flatMap (qd2 ks.nt),nm∈x.names)↔_
 simp only[List.mem_flatMap]
 constructor
 ·rintro ⟨x,⟨sp,hsp,hx⟩,hn⟩
  exact⟨sp,hsp,(qpx (h.kp sp hsp) nm).1 (qsr.2 ⟨x,hx,hn⟩)⟩
 ·rintro ⟨sp,hsp,hn⟩
  obtain⟨x,hx,hn⟩:=qsr.1 ((qpx (h.kp sp hsp) nm).2 hn)
  exact⟨x,⟨sp,hsp,hx⟩,hn⟩
theorem qqo (h:ks.Ok) (d:Nat):d∈qsa ks.st↔d∈qlk ks:=by
 have hR:∀ p:Nm→Bool,(qbn ks.st.tmps++qbn ks.st.keep++ks.st.objs.flatMap fun l=>l.flatMap Ob.names).all p=(qhk ks.tmps++ks.keep.flatMap qhk++qlx ks.objs).all p:=by
  intro p
  have e1:∀ nm,nm∈qbn ks.st.tmps↔nm∈qhk ks.tmps:=fun nm=>qpx h.tm nm
  have e2:=Qd8 h
  have e3:∀ nm,nm∈(ks.st.objs.flatMap fun l=>l.flatMap Ob.names)↔nm∈qlx ks.objs:=fun nm=>qxt h.ob nm
  rw[Bool.eq_iff_iff,List.all_eq_true,List.all_eq_true]
  refine⟨fun a x hx=>a x ?_,fun a x hx=>a x ?_⟩
  ·simp only[List.mem_append] at hx ⊢
   rw[e1,e2,e3];exact hx
  ·simp only[List.mem_append] at hx ⊢
   rw[←e1,←e2,←e3];exact hx
 unfold qsa qlk
 simp only[List.mem_filter,List.mem_range,List.mem_map,hR,Bool.and_eq_true]
 have hget:ks.st.objs.getD d []=(qc1 ks.objs d).map KOb.ob:=qpy h.ob d
 rw[hget]
 constructor
 ·rintro ⟨_,h1,h2⟩
  have hne:qc1 ks.objs d≠[]:=by intro e;rw[e] at h1;simp at h1
  refine⟨_,⟨qni hne,?_,h2⟩,rfl⟩
  simpa using hne
 ·rintro ⟨p,⟨hp,h1,h2⟩,rfl⟩
  have:=h.ob.get_mem hp
  have hlt:=h.ob.lt p hp
  refine⟨?_,?_,h2⟩
  ·show p.1 < (qfx ks.nt ks.objs).length
   rw[qdz];exact hlt
  ·rw[this];simpa using h1
theorem Qca {R R':List Nm} (h:∀ nm,nm∈R↔nm∈R') (d:Nat):∀ n,Qcb R d n=Qcb R' d n
 | 0=>rfl
 | n+1=>by
  have e:R.contains (d,n)=R'.contains (d,n):=by
   rw[Bool.eq_iff_iff,List.contains_iff_mem,List.contains_iff_mem];exact h _
  simp only[Qcb,e,Qca h d n]
theorem Qda {R:List Nm}:∀ {l:SpO} {p:Nat×List KOb},p∈qqa R l→∃ q∈l,p.1=q.1∧∀ o∈p.2,o∈q.2:=by
 intro l
 induction l with
 | nil=>intro p hp;cases hp
 | cons q l ih =>
  obtain⟨j,u⟩:=q
  intro p hp
  simp only[qqa] at hp
  split at hp
  ·obtain⟨q,hq,h⟩:=ih hp
   exact⟨q,by simp[hq],h⟩
  ·rename_i v vs hv
   rcases List.mem_cons.1 hp with rfl | hp
   ·refine⟨(j,u),by simp,rfl,fun o ho=>?_⟩
    simp only at ho
    rw[←hv] at ho
    exact List.mem_of_mem_take ho
   ·obtain⟨q,hq,h⟩:=ih hp
    exact⟨q,by simp[hq],h⟩
theorem Qm7 {R:List Nm}:∀ (l:SpO),((qqa R l).map (·.1)).Sublist (l.map (·.1)):=by
 intro l
 induction l with
 | nil=>exact .slnil
 | cons q l ih =>
  obtain⟨j,u⟩:=q
  simp only[qqa]
  split
  ·exact .cons _ ih
  ·exact .cons_cons _ ih
theorem qlo.trim {nt:Nat} {R:List Nm} {l:SpO} (h:qlo nt l):qlo nt (qqa R l) where
 srt:=h.srt.sublist (Qm7 l)
 lt p hp:=by
  obtain⟨q,hq,e,_⟩:=Qda hp
  rw[e];exact h.lt q hq
 ok p hp o ho:=by
  obtain⟨q,hq,_,e⟩:=Qda hp
  exact h.ok q hq o (e o ho)
theorem soGet_trim {nt:Nat} {R:List Nm}:∀ {l:SpO},qlo nt l→∀ (i:Nat),qc1 (qqa R l) i=(qc1 l i).take (Qcb R i (qc1 l i).length):=by
 intro l
 induction l with
 | nil=>intro _ i;simp[qqa,qc1]
 | cons q l ih =>
  obtain⟨j,u⟩:=q
  intro h i
  simp only[qqa]
  cases hij:Nat.beq i j with
  | true =>
   have hb:=Nat.eq_of_beq_eq_true hij
   subst hb
   have hrest:qc1 l i=[]:=by
    cases hq:qc1 l i with
    | nil=>rfl
    | cons x xs =>
     have hm:=qni (l:=l) (i:=i) (by rw[hq];simp)
     have h1:=(List.pairwise_cons.1 h.srt).1 i (List.mem_map.2 ⟨_,hm,rfl⟩)
     exact absurd h1 (Nat.lt_irrefl i)
   have hget:qc1 ((i,u) :: l) i=u:=by simp[qc1,hij]
   rw[hget]
   split
   ·rename_i hv
    rw[ih h.tail i,hrest,hv];rfl
   ·rename_i v vs hv
    rw[hv]
    simp[qc1,hij]
  | false =>
   have hget:qc1 ((j,u) :: l) i=qc1 l i:=by simp[qc1,hij]
   rw[hget,←ih h.tail i]
   split
   ·rfl
   ·simp[qc1,hij]
theorem ktrim_st (h:ks.Ok):(ktrim ks).st=trim ks.st∧(ktrim ks).Ok∧(ktrim ks).nt=ks.nt:=by
 refine⟨?_,⟨h.tm,h.ob.trim,h.kp⟩,rfl⟩
 have hR:∀ nm,nm∈(qbn ks.st.tmps++qbn ks.st.keep++ks.st.objs.flatMap fun l=>l.flatMap Ob.names)↔nm∈(qhk ks.tmps++ks.keep.flatMap qhk++qlx ks.objs):=by
  intro nm
  have e1:nm∈qbn ks.st.tmps↔nm∈qhk ks.tmps:=qpx h.tm nm
  have e2:=Qd8 h nm
  have e3:nm∈(ks.st.objs.flatMap fun l=>l.flatMap Ob.names)↔nm∈qlx ks.objs:=qxt h.ob nm
  simp only[List.mem_append]
  rw[e1,e2,e3]
 unfold ktrim trim
 show ({tmps:=_,objs:=qfx ks.nt _,keep:=_}:St)={tmps:=_,objs:=_,keep:=_}
 congr 1
 refine qj9 (by simp[KSt.st,qdz]) fun i hi=>?_
 rw[List.getElem?_map,List.getElem?_zipIdx]
 show (((qfx ks.nt ks.objs)[i]?).map _).map _=_
 rw[denseO_get?,if_pos hi,soGet_trim h.ob]
 simp only[Option.map_some,Nat.zero_add,Option.some.injEq,List.length_map,List.map_take]
 rw[Qca hR]
theorem Qg6 (h:ks.Ok) (p:Nat→Bool):({ks with tmps:=qlw p ks.tmps}:KSt).st={ks.st with tmps:=ks.st.tmps.zipIdx.map fun (v,i)=>if p i then v else .undef}∧({ks with tmps:=qlw p ks.tmps}:KSt).Ok:=by
 refine⟨?_,h.tm.sub (spKeep_sub _ _),h.ob,h.kp⟩
 unfold KSt.st
 simp only
 congr 1
 refine qmc (by simp[qca]) fun i hi=>?_
 rw[List.getElem?_map,List.getElem?_zipIdx,dense_get?,if_pos hi,spGet_keep]
 simp only[Option.map_some,Nat.zero_add]
 cases p i<;>rfl
theorem qyd (h:ks.Ok) (lv:Option (List Nat)):(Qn1 lv ks).st=Qqd lv ks.st∧(Qn1 lv ks).Ok:=by
 cases lv with
 | none=>exact⟨rfl,h⟩
 | some l =>
  unfold Qn1 Qqd qll
  simp only
  obtain⟨h1,h2⟩:=Qg6 h (fun i=>l.contains i)
  obtain⟨h3,h4,_⟩:=qnx h2 (qlk {ks with tmps:=qlw (fun i=>l.contains i) ks.tmps})
  refine⟨?_,h4⟩
  rw[h3,←h1]
  exact qs8 (fun d=>(qqo h2 d).symm) _
theorem Qct {v:PV}:qd0 (.cv v) (.cv v)=[v]:=rfl
theorem Qnr {l:Sp} (h:qbo (qht l l)=true) {i:Nat} {v:PV} (hm:(i,KV.cv v)∈l):qhl v=false:=by
 unfold qbo at h
 induction l with
 | nil=>cases hm
 | cons p l ih =>
  obtain⟨k,u⟩:=p
  simp only[qht,List.all_append,Bool.and_eq_true] at h
  rcases List.mem_cons.1 hm with e | hm
  ·cases e
   have:=h.1
   rw[Qct] at this
   simpa using this
  ·exact ih h.2 hm
theorem undefs_iff {k0:KSt} (h0:k0.Ok) (hu:qbo (qht k0.tmps k0.tmps)=true) {i:Nat} (hi:i < k0.nt):(undefs k0.st).contains i=!qtj k0.tmps i:=by
 have hmem:i∈undefs k0.st↔qhl (qcn k0.tmps i).pv=true:=by
  unfold undefs
  simp only[List.mem_map,List.mem_filter]
  constructor
  ·rintro ⟨⟨v,j⟩,⟨hv,hq⟩,rfl⟩
   have:=List.mem_zipIdx hv
   rw[List.mem_zipIdx_iff_getElem?] at hv
   simp only at hv
   have e:(qd2 k0.nt k0.tmps)[j]?=some v:=hv
   rw[dense_get?,if_pos hi] at e
   cases e
   exact hq
  ·intro hq
   refine⟨((qcn k0.tmps i).pv,i),⟨?_,hq⟩,rfl⟩
   rw[List.mem_zipIdx_iff_getElem?]
   show (qd2 k0.nt k0.tmps)[i]?=_
   rw[dense_get?,if_pos hi]
 rw[Bool.eq_iff_iff,List.contains_iff_mem,hmem]
 cases hh:qtj k0.tmps i with
 | false =>
  have:qcn k0.tmps i=.un:=by
   apply Classical.byContradiction
   intro hne
   rw[(h0.tm.has_iff i).2 hne] at hh;cases hh
  simp[this,KV.pv,qhl]
 | true =>
  have hne:=(h0.tm.has_iff i).1 hh
  have hm:=qp8 hne
  simp only[Bool.not_true,Bool.false_eq_true,iff_false]
  intro hq
  cases hg:qcn k0.tmps i with
  | un=>exact hne hg
  | cv v =>
   rw[hg] at hm hq
   have:=Qnr hu hm
   simp only[KV.pv] at hq
   rw[this] at hq;cases hq
  | _=>rw[hg] at hq;simp[KV.pv,qhl] at hq
theorem kdrop_st {k0:KSt} (h0:k0.Ok) (hu:qbo (qht k0.tmps k0.tmps)=true) (h:ks.Ok) (hnt:ks.nt=k0.nt):(Qk7 k0 ks).st=drop (undefs k0.st) ks.st∧(Qk7 k0 ks).Ok∧(Qk7 k0 ks).nt=ks.nt:=by
 unfold Qk7 drop
 simp only
 obtain⟨h1,h2⟩:=Qg6 h (qtj k0.tmps)
 obtain⟨h3,h4,h5⟩:=qnx h2 (qlk {ks with tmps:=qlw (qtj k0.tmps) ks.tmps})
 refine⟨?_,h4,h5⟩
 have h6:qpg (undefs k0.st) ks.st=({ks with tmps:=qlw (qtj k0.tmps) ks.tmps}:KSt).st:=by
  rw[h1]
  unfold qpg
  congr 1
  apply List.map_congr_left
  rintro ⟨v,i⟩ hm
  have hi:i < k0.nt:=by
   rw[List.mem_zipIdx_iff_getElem?] at hm
   have e:(qd2 ks.nt ks.tmps)[i]?=some v:=hm
   rw[dense_get?] at e
   split at e
   ·omega
   ·cases e
  simp only[undefs_iff h0 hu hi]
  cases qtj k0.tmps i<;>rfl
 rw[h3,h6]
 exact qs8 (fun d=>(qqo h2 d).symm) _
theorem Qk3 (h:ks.Ok) (t:Nat):qs6 ks.st t=qxk ks t:=by
 unfold qs6 qxk
 show (match (qfx ks.nt ks.objs)[t]? with | some []=>true | _=>false)=_
 rw[denseO_get?]
 by_cases ht:t < ks.nt
 ·rw[if_pos ht]
  have:Nat.blt t ks.nt=true:=by simpa[Nat.blt_eq] using ht
  rw[this]
  cases qc1 ks.objs t<;>rfl
 ·rw[if_neg ht]
  have:Nat.blt t ks.nt=false:=by
   cases hb:Nat.blt t ks.nt with
   | false=>rfl
   | true=>exact absurd (by simpa[Nat.blt_eq] using hb) ht
  rw[this];rfl
theorem Qk4 {t:Nat} (h:qxk ks t=true):t < ks.nt:=by
 unfold qxk at h
 simp only[Bool.and_eq_true,Nat.blt_eq] at h
 exact h.1
theorem qxg (h:ks.Ok) (t:Nat) (nm:Nm):(qnt t ks nm).st=(if nm≠(t,0)∧qs6 ks.st t=true then
   match qbq ks.st.objs nm with
   | some ob =>
    let f:Nm→Nm:=fun m=>if m=nm then (t,0) else m
    let objs:=ks.st.objs.map (·.map (Ob.ren f))
    {tmps:=qjv f ks.st.tmps,objs:=(qdc objs nm qjj).set t [ob.ren f],keep:=qjv f ks.st.keep}
   | none=>ks.st
  else ks.st)∧(qnt t ks nm).Ok∧(qnt t ks nm).nt=ks.nt:=by
 unfold qnt
 rw[Qk3 h]
 by_cases hc:nm≠(t,0)∧qxk ks t=true
 ·rw[if_pos hc,if_pos hc,qk3 h]
  cases hl:qdg ks.objs nm with
  | none=>exact⟨rfl,h,rfl⟩
  | some ob =>
   simp only[Option.map_some]
   have hoo:=qds h.ob hl
   have ht:=Qk4 hc.2
   let f:Nm→Nm:=fun m=>if m=nm then (t,0) else m
   have hm:qlo ks.nt (qqb (KOb.ren f) ks.objs):=h.ob.map fun x hx=>KOb.ren_ok f hx
   refine⟨?_,⟨h.tm.map fun x hx=>KV.ren_ok f hx,(hm.kput nm (o:=qrz) rfl).put ht fun o ho=>by
    simp only[List.mem_singleton] at ho;subst ho;exact KOb.ren_ok f hoo,fun sp hsp=>?_⟩,by trivial⟩
   ·unfold KSt.st
    simp only
    rw[qvj h.tm,qj8,qmd hm,qrv h.ob (fun o ho=>KOb.ren_ob f ho),
     qyi (g:=qjv f) rfl (qzb f) fun sp hsp=>qvj (h.kp sp hsp) f]
    have hren:=KOb.ren_ob (fun m=>if m=nm then (t,0) else m) hoo
    simp only[List.map_cons,List.map_nil,hren]
    rfl
   ·obtain⟨q,hq,rfl⟩:=List.mem_map.1 hsp
    exact (h.kp q hq).map fun x hx=>KV.ren_ok f hx
 ·rw[if_neg hc,if_neg hc];exact⟨rfl,h,rfl⟩
theorem krehome_st (h:ks.Ok) (t:Nat):(qmy t ks).st=qk5 t ks.st∧(qmy t ks).Ok∧(qmy t ks).nt=ks.nt:=by
 have hget:ks.st.tmps.getD t .undef=(qcn ks.tmps t).pv:=qj7 h.tm t
 have hokt:=h.tm.get_ok t
 unfold qmy qk5
 rw[hget]
 cases hg:qcn ks.tmps t with
 | arr nm k o n=>exact qxg h t nm
 | wit nm=>exact qxg h t nm
 | cv v =>
  rw[hg] at hokt
  have hv:okV v=true:=hokt
  simp only[KV.pv]
  cases v<;>first | (simp[okV] at hv;done) | exact⟨rfl,h,trivial⟩
 | _=>exact⟨rfl,h,rfl⟩
theorem qw6 (h:ks.Ok) (d:Nat):ks.st.objs.getD d []=(qc1 ks.objs d).map KOb.ob:=qpy h.ob d
theorem Qk1 (h:ks.Ok) {nm:Nm} {ty:Nat} {cs:List KV} (hl:qdg ks.objs nm=some (.cells ty cs)) (i k:Nat):(Qd5 nm ty cs i k ks).Ok∧(Qd5 nm ty cs i k ks).nt=ks.nt∧(Qd5 nm ty cs i k ks).st={ks.st with objs:=ks.st.objs.set nm.1 ((ks.st.objs.getD nm.1 []).set nm.2 (.cells ty ((pvL cs).set i (.arr (nm.1,(ks.st.objs.getD nm.1 []).length) k 0 0)))++[.arr k 0 []])}:=by
 have hlt:=qye h.ob hl
 have hcs:qg2 cs:=qds h.ob hl
 have hset:qg2 (cs.set i (.arr (nm.1,(qc1 ks.objs nm.1).length) k 0 0)):=qdl.2 fun x hx=>by
  rcases List.mem_or_eq_of_mem_set hx with hx | hx
  ·exact qdl.1 hcs x hx
  ·subst hx;trivial
 unfold Qd5
 refine⟨⟨h.tm,h.ob.put hlt fun o ho=>?_,h.kp⟩,rfl,?_⟩
 ·rcases List.mem_append.1 ho with ho | ho
  ·rcases List.mem_or_eq_of_mem_set ho with ho | ho
   ·exact h.ob.get_ok ho
   ·subst ho;exact hset
  ·simp only[List.mem_singleton] at ho;subst ho;rfl
 ·rw[qw6 h]
  unfold KSt.st
  simp only
  rw[qj8,List.map_append,List.map_set]
  simp only[List.map_cons,List.map_nil,KOb.ob,qg5,List.map_set,KV.pv,List.length_map]
theorem qxj (h:ks.Ok) (nm m:Nm) (hlt:nm.1 < ks.nt):(qnw nm m ks).Ok∧(qnw nm m ks).nt=ks.nt∧(qnw nm m ks).st=(if m.1≠nm.1 then
   match qbq ks.st.objs m with
   | some ob =>
    let f:Nm→Nm:=fun x=>if x=m then (nm.1,(ks.st.objs.getD nm.1 []).length) else x
    let objs:=qdc (ks.st.objs.map (·.map (Ob.ren f))) m qjj
    {tmps:=qjv f ks.st.tmps,objs:=objs.set nm.1 (objs.getD nm.1 []++[ob.ren f]),keep:=qjv f ks.st.keep}
   | none=>ks.st
  else ks.st):=by
 unfold qnw
 by_cases hm:m.1≠nm.1
 ·rw[if_pos hm,if_pos hm,qk3 h]
  cases hl:qdg ks.objs m with
  | none=>exact⟨h,rfl,rfl⟩
  | some ob =>
   simp only[Option.map_some]
   have hoo:=qds h.ob hl
   rw[qw6 h,List.length_map]
   generalize hf:(fun x:Nm=>if x=m then (nm.1,(qc1 ks.objs nm.1).length) else x)=f
   have hmp:qlo ks.nt (qqb (KOb.ren f) ks.objs):=h.ob.map fun x hx=>KOb.ren_ok f hx
   have hkp:qlo ks.nt (kput (qqb (KOb.ren f) ks.objs) m qrz):=hmp.kput m (o:=qrz) rfl
   refine⟨⟨h.tm.map fun x hx=>KV.ren_ok f hx,hkp.put hlt fun o ho=>?_,fun sp hsp=>?_⟩,by trivial,?_⟩
   ·rcases List.mem_append.1 ho with ho | ho
    ·exact hkp.get_ok ho
    ·simp only[List.mem_singleton] at ho;subst ho;exact KOb.ren_ok f hoo
   ·obtain⟨q,hq,rfl⟩:=List.mem_map.1 hsp
    exact (h.kp q hq).map fun x hx=>KV.ren_ok f hx
   ·have hobj:qfx ks.nt (kput (qqb (KOb.ren f) ks.objs) m qrz)=qdc (ks.st.objs.map (·.map (Ob.ren f))) m qjj:=by
     rw[qmd hmp,qrv h.ob (fun o ho=>KOb.ren_ob f ho)]
     rfl
    rw[←hobj,qpy hkp]
    unfold KSt.st
    simp only
    rw[qvj h.tm,qj8,qyi (g:=qjv f) rfl (qzb f) fun sp hsp=>qvj (h.kp sp hsp) f]
    have hren:=KOb.ren_ob f hoo
    simp only[List.map_append,List.map_cons,List.map_nil,hren]
 ·rw[if_neg hm,if_neg hm];exact⟨h,rfl,rfl⟩
theorem Qk2 {R:Type} {r:R} (h:ks.Ok) {nm:Nm} {ty:Nat} {cs:List KV} (hl:qdg ks.objs nm=some (.cells ty cs)) {i k:Nat} {K:KSt→Option R} (hr:qz5 nm ty cs i k ks K=some r):∃ k',K k'=some r∧k'.Ok∧k'.nt=ks.nt∧k'.st=qt9 nm ty (pvL cs) i k ks.st:=by
 have hlt:=qye h.ob hl
 have hcs:qg2 cs:=qds h.ob hl
 unfold qz5 at hr
 unfold qt9
 simp only[pvL_get?]
 cases hc:cs[i]? with
 | none=>rw[hc] at hr;exact⟨_,hr,h,rfl,rfl⟩
 | some x =>
  rw[hc] at hr
  cases x with
  | nils =>
   obtain⟨a,b,c⟩:=Qk1 h hl i k
   exact⟨_,hr,a,b,c⟩
  | arr m _ _ _ =>
   obtain⟨a,b,c⟩:=qxj h nm m hlt
   exact⟨_,hr,a,b,c⟩
  | wit m =>
   obtain⟨a,b,c⟩:=qxj h nm m hlt
   exact⟨_,hr,a,b,c⟩
  | cv v =>
   have hv:okV v=true:=qdl.1 hcs _ (List.mem_of_getElem? hc)
   simp only[Option.map_some,KV.pv]
   unfold nilO at hr
   obtain⟨a,b,c⟩:=Qk1 h hl i k
   cases v<;>first | (simp[okV] at hv;done) | exact⟨_,hr,a,b,c⟩ | (cases hr;done)
  | _=>exact⟨_,hr,h,rfl,rfl⟩
theorem kgrowC_st {R:Type} {r:R} (h:ks.Ok) {x off k:Nat} {K:KSt→Option R} (hr:kgrowC x off k ks K=some r):∃ k',K k'=some r∧k'.Ok∧k'.nt=ks.nt∧k'.st=growC x off k ks.st:=by
 have hget:ks.st.tmps.getD x .undef=(qcn ks.tmps x).pv:=qj7 h.tm x
 have hokt:=h.tm.get_ok x
 unfold kgrowC at hr
 unfold growC
 rw[hget]
 cases hg:qcn ks.tmps x with
 | ref nm o =>
  rw[hg] at hr
  simp only[KV.pv] at hr ⊢
  rw[qk3 h]
  cases hl:qdg ks.objs nm with
  | none=>rw[hl] at hr;exact⟨_,hr,h,rfl,rfl⟩
  | some ob =>
   rw[hl] at hr
   cases ob with
   | cells ty cs=>exact Qk2 h hl hr
   | whole ty v =>
    have hv:okV v=true:=qds h.ob hl
    have hvl:qb8 (qg0 v)=true:=qcx hv
    simp only[Option.map_some,KOb.ob] at hr ⊢
    unfold qbw at hr
    cases hn:Qgt v (o+off) with
    | false=>rw[hn] at hr;cases hr
    | true =>
     rw[hn] at hr
     refine⟨_,hr,h,rfl,?_⟩
     unfold Qgt at hn
     unfold qt9
     show ks.st=match (qg0 v)[o+off]? with | some .nilS=>_ | some (.arr m _ _ _)=>_ | _=>_
     have e:qg0 v=v.cells:=rfl
     rw[e] at hvl ⊢
     cases hc:v.cells[o+off]? with
     | none=>rfl
     | some y =>
      rw[hc] at hn
      have hy:=qkh hvl hc
      cases y<;>first | (simp at hn;done) | (simp[okV] at hy;done) | rfl
   | _=>exact⟨_,hr,h,rfl,rfl⟩
 | cv v =>
  rw[hg] at hr hokt
  have hv:okV v=true:=hokt
  simp only[KV.pv]
  cases v<;>first | (simp[okV] at hv;done) | exact⟨_,hr,h,rfl,rfl⟩
 | _=>rw[hg] at hr;exact⟨_,hr,h,rfl,rfl⟩
theorem kgrow_st {R:Type} {r:R} (h:ks.Ok) {t k:Nat} {K:KSt→Option R} (hr:kgrow1 t k ks K=some r):∃ k',K k'=some r∧k'.Ok∧k'.nt=ks.nt∧k'.st=Qhf t k ks.st:=by
 have hget:ks.st.tmps.getD t .undef=(qcn ks.tmps t).pv:=qj7 h.tm t
 unfold kgrow1 at hr
 unfold Qhf
 by_cases hb:qvb≤t
 ·rw[if_pos hb] at hr ⊢
  exact kgrowC_st h hr
 rw[if_neg hb] at hr ⊢
 rw[hget]
 cases hg:qcn ks.tmps t with
 | nils =>
  rw[hg] at hr
  simp only[KV.pv]
  rw[Qk3 h]
  by_cases hc:qxk ks t=true
  ·rw[if_pos hc] at hr
   rw[if_pos hc]
   have ht:=Qk4 hc
   refine⟨_,hr,⟨h.tm.put ht trivial rfl,h.ob.put ht fun o ho=>?_,h.kp⟩,rfl,?_⟩
   ·simp only[List.mem_singleton] at ho;subst ho;rfl
   ·unfold KSt.st
    simp only
    rw[qvk,qj8]
    rfl
  ·rw[if_neg hc] at hr
   rw[if_neg hc]
   exact⟨_,hr,h,rfl,rfl⟩
 | cv v =>
  rw[hg] at hr
  simp only at hr
  unfold notNil at hr
  simp only[KV.pv]
  cases v<;>first | exact⟨_,hr,h,rfl,rfl⟩ | cases hr
 | _=>rw[hg] at hr;exact⟨_,hr,h,rfl,rfl⟩
theorem kgrows_st {R:Type} {r:R}:∀ (l:List (Nat×Nat)) {ks:KSt} {K:KSt→Option R},ks.Ok→Qrn l ks K=some r→∃ k',K k'=some r∧k'.Ok∧k'.nt=ks.nt∧k'.st=l.foldl (fun st (p:Nat×Nat)=>Qhf p.1 p.2 st) ks.st:=by
 intro l
 induction l with
 | nil=>intro ks K h hr;exact⟨ks,hr,h,rfl,rfl⟩
 | cons p l ih =>
  obtain⟨t,k⟩:=p
  intro ks K h hr
  simp only[Qrn] at hr
  obtain⟨k1,hr,h1,n1,s1⟩:=kgrow_st h hr
  obtain⟨k2,hr,h2,n2,s2⟩:=ih h1 hr
  exact⟨k2,hr,h2,n2.trans n1,by rw[s2,s1];rfl⟩
theorem Qn2:∀ (l:List Nat) {ks:KSt},ks.Ok→(l.foldl (fun ks t=>qmy t ks) ks).Ok∧(l.foldl (fun ks t=>qmy t ks) ks).nt=ks.nt∧(l.foldl (fun ks t=>qmy t ks) ks).st=l.foldl (fun st t=>qk5 t st) ks.st:=by
 intro l
 induction l with
 | nil=>intro ks h;exact⟨h,rfl,rfl⟩
 | cons t l ih =>
  intro ks h
  simp only[List.foldl_cons]
  obtain⟨a,b,c⟩:=krehome_st h t
  obtain⟨d,e,f⟩:=ih b
  exact⟨d,e.trans c,by rw[f,a]⟩
theorem Qjf (st:St):qpg (undefs st) st=st:=by
 obtain⟨t,o,k⟩:=st
 unfold qpg
 congr 1
 apply List.ext_getElem?
 intro i
 rw[List.getElem?_map,List.getElem?_zipIdx]
 cases hg:t[i]? with
 | none=>rfl
 | some v =>
  simp only[Option.map_some,Nat.zero_add,Option.some.injEq]
  split
  ·rename_i hc
   rw[List.contains_iff_mem] at hc
   unfold undefs at hc
   simp only[List.mem_map,List.mem_filter] at hc
   obtain⟨⟨u,j⟩,⟨hm,hu⟩,he⟩:=hc
   rw[List.mem_zipIdx_iff_getElem?] at hm
   simp only at he hm hu
   subst he
   rw[hg] at hm
   cases hm
   cases v<;>simp_all [qhl]
  ·rfl
theorem Qg5 {R:Type} {r:R} (h:ks.Ok) {asg:List Nat} {grow:List (Nat×Nat)} {K:KSt→Option R} (hr:knorm asg grow ks K=some r):∃ k',K k'=some r∧k'.Ok∧k'.nt=ks.nt∧k'.st=norm asg grow ks.st:=by
 unfold knorm at hr
 obtain⟨a,b,c⟩:=Qn2 asg h
 obtain⟨k',hr,h1,n1,s1⟩:=kgrows_st grow a hr
 obtain⟨d1,d2,d3⟩:=qnx h1 (qlk k')
 refine⟨_,hr,d2,d3.trans (n1.trans b),?_⟩
 have e:k'.st=norm0 asg grow ks.st:=by rw[s1,c];rfl
 unfold norm drop
 rw[d1,←e,Qjf]
 exact qs8 (fun d=>(qqo h1 d).symm) _
theorem Qbz:∀ {nt:Nat} (ps xs:Sp),Qhi ps xs=true→qml nt ps→qml nt xs→∀ (vs:List PV) (i:Nat),Seg vs i (qht ps xs) →
  (∀ j,(qcn (qkv ps vs i).1 j).pv=(qcn xs j).pv)∧qml nt (qkv ps vs i).1∧(qkv ps vs i).1.map (·.1)=ps.map (·.1)∧(qkv ps vs i).2=i+(qht ps xs).length
 | nt,[],[],_,_,_,vs,i,_=>⟨fun _=>rfl,.nil nt,rfl,rfl⟩
 | _,[],_ :: _,h,_,_,_,_,_=>by simp[Qhi] at h
 | _,_ :: _,[],h,_,_,_,_,_=>by simp[Qhi] at h
 | nt,(j1,p) :: ps,(j2,x) :: xs,h,hp,hx,vs,i,hs=>by
  simp only[Qhi,Bool.and_eq_true] at h
  simp only[qht] at hs
  have hj:=Nat.eq_of_beq_eq_true h.1
  subst hj
  obtain⟨a,b,c⟩:=Qph p x h.2.1 (hx.ok (j1,x) (by simp)) vs i hs.left
  obtain⟨a',b',k',c'⟩:=Qbz ps xs h.2.2 hp.tail hx.tail vs (fill p vs i).2 (by rw[c];exact hs.right)
  refine⟨?_,⟨?_,?_,?_,?_⟩,by simp[qkv,k'],?_⟩
  ·intro j
   simp only[qkv,qcn]
   cases Nat.beq j j1 with
   | true=>exact a
   | false=>exact a' j
  ·simp only[qkv,List.map_cons]
   rw[k']
   exact hp.srt
  ·intro q hq
   simp only[qkv,List.mem_cons] at hq
   rcases hq with rfl | hq
   ·exact hp.lt (j1,p) (by simp)
   ·exact b'.lt q hq
  ·intro q hq
   simp only[qkv,List.mem_cons] at hq
   rcases hq with rfl | hq
   ·exact b
   ·exact b'.ok q hq
  ·intro q hq
   simp only[qkv,List.mem_cons] at hq
   rcases hq with rfl | hq
   ·exact un_fill (hp.nu (j1,p) (by simp))
   ·exact b'.nu q hq
  ·simp only[qkv,qht,List.length_append]
   rw[c',c]
   omega
theorem Qlw:∀ {nt:Nat} (ps xs:SpO),Qlr ps xs=true→qlo nt ps→qlo nt xs→∀ (vs:List PV) (i:Nat),Seg vs i (qrl ps xs) →
  (∀ j,(qc1 (qn3 ps vs i).1 j).map KOb.ob=(qc1 xs j).map KOb.ob)∧qlo nt (qn3 ps vs i).1∧(qn3 ps vs i).1.map (·.1)=ps.map (·.1)∧(qn3 ps vs i).2=i+(qrl ps xs).length
 | nt,[],[],_,_,_,vs,i,_=>⟨fun _=>rfl,.nil nt,rfl,rfl⟩
 | _,[],_ :: _,h,_,_,_,_,_=>by simp[Qlr] at h
 | _,_ :: _,[],h,_,_,_,_,_=>by simp[Qlr] at h
 | nt,(j1,p) :: ps,(j2,x) :: xs,h,hp,hx,vs,i,hs=>by
  simp only[Qlr,Bool.and_eq_true] at h
  simp only[qrl] at hs
  have hj:=Nat.eq_of_beq_eq_true h.1
  subst hj
  obtain⟨a,b,c⟩:=qwt p x h.2.1 (hx.ok (j1,x) (by simp)) vs i hs.left
  obtain⟨a',b',k',c'⟩:=Qlw ps xs h.2.2 hp.tail hx.tail vs (qdw p vs i).2 (by rw[c];exact hs.right)
  refine⟨?_,⟨?_,?_,?_⟩,by simp[qn3,k'],?_⟩
  ·intro j
   simp only[qn3,qc1]
   cases Nat.beq j j1 with
   | true=>exact a
   | false=>exact a' j
  ·simp only[qn3,List.map_cons]
   rw[k']
   exact hp.srt
  ·intro q hq
   simp only[qn3,List.mem_cons] at hq
   rcases hq with rfl | hq
   ·exact hp.lt (j1,p) (by simp)
   ·exact b'.lt q hq
  ·intro q hq
   simp only[qn3,List.mem_cons] at hq
   rcases hq with rfl | hq
   ·exact b
   ·exact b'.ok q hq
  ·simp only[qn3,qrl,List.length_append]
   rw[c',c]
   omega
theorem Qlx:∀ {nt:Nat} (ps xs:List Sp),Qls ps xs=true→(∀ p∈ps,qml nt p)→(∀ x∈xs,qml nt x)→∀ (vs:List PV) (i:Nat),Seg vs i (qyb ps xs) →
  (Qb1 ps vs i).1.flatMap (qd2 nt)=xs.flatMap (qd2 nt)∧(∀ p∈(Qb1 ps vs i).1,qml nt p)
 | nt,[],[],_,_,_,vs,i,_=>⟨rfl,by simp[Qb1]⟩
 | _,[],_ :: _,h,_,_,_,_,_=>by simp[Qls] at h
 | _,_ :: _,[],h,_,_,_,_,_=>by simp[Qls] at h
 | nt,p :: ps,x :: xs,h,hp,hx,vs,i,hs=>by
  simp only[Qls,Bool.and_eq_true] at h
  simp only[qyb] at hs
  obtain⟨a,b,_,c⟩:=Qbz p x h.1 (hp p (by simp)) (hx x (by simp)) vs i hs.left
  obtain⟨a',b'⟩:=Qlx ps xs h.2 (fun q hq=>hp q (by simp[hq])) (fun q hq=>hx q (by simp[hq])) vs (qkv p vs i).2 (by rw[c];exact hs.right)
  refine⟨?_,?_⟩
  ·simp only[Qb1,List.flatMap_cons,a']
   congr 1
   unfold qd2
   exact List.map_congr_left fun j _=>a j
  ·intro q hq
   simp only[Qb1,List.mem_cons] at hq
   rcases hq with rfl | hq
   ·exact b
   ·exact b' q hq
theorem Qcd {β:Type}:∀ {l:List Bool} {a:Option β} {r:β},chks l a=some r→l.all id=true∧a=some r
 | [],_,_,h=>⟨rfl,h⟩
 | b :: l,a,r,h=>by
  obtain⟨h1,h2⟩:=qbr h
  obtain⟨h3,h4⟩:=Qcd h2
  exact⟨by simp[h1,h3],h4⟩
mutual
theorem Qhk:∀ {p x:KV},qn2 p x=true→(qzk p x).all id=true→qji p x=true
 | .un,x,h,_=>by simpa[qn2,qji] using h
 | .sk,x,h,_=>by simpa[qn2,qji] using h
 | .yld _,x,h,_=>by simpa[qn2,qji] using h
 | .ref _ _,x,h,_=>by simpa[qn2,qji] using h
 | .aref _ _ _ _,x,h,_=>by simpa[qn2,qji] using h
 | .mp _,x,h,_=>by simpa[qn2,qji] using h
 | .it _,x,h,_=>by simpa[qn2,qji] using h
 | .wit _,x,h,_=>by simpa[qn2,qji] using h
 | .lit _,x,h,_=>by simpa[qn2,qji] using h
 | .nils,x,h,_=>by simpa[qn2,qji] using h
 | .cv _,x,h,_=>by simpa[qn2,qji] using h
 | .arr nm k o n,x,h,ho=>by
  cases x<;>simp only[qn2,Bool.false_eq_true] at h
  simp only[qzk,List.all_cons,List.all_nil,Bool.and_true,id,eqOff] at ho
  simp only[qji,h,ho,Bool.and_self]
 | .fn f cap,x,h,ho=>by
  cases x<;>simp only[qn2,Bool.false_eq_true,Bool.and_eq_true] at h
  simp only[qji,h.1,qvd h.2 ho,Bool.and_self]
 | .tup xs,x,h,ho=>by
  cases x<;>simp only[qn2,Bool.false_eq_true] at h
  exact qvd h ho
 | .agg cs,x,h,ho=>by
  unfold qn2 at h
  unfold qji
  split
  ·rename_i hc;rw[if_pos hc] at h;exact h
  ·rename_i hc
   rw[if_neg hc] at h
   cases x<;>simp only[Bool.false_eq_true] at h
   exact qvd h ho
 | .iface t y,x,h,ho=>by
  unfold qn2 at h
  unfold qji
  split
  ·rename_i hc;rw[if_pos hc] at h;exact h
  ·rename_i hc
   rw[if_neg hc] at h
   cases x<;>simp only[Bool.false_eq_true,Bool.and_eq_true] at h
   simp only[h.1,Qhk h.2 ho,Bool.and_self]
theorem qvd:∀ {p x:List KV},Qhl p x=true→(Qgo p x).all id=true→Qcw p x=true
 | [],x,h,_=>by cases x<;>simpa[Qhl,Qcw] using h
 | p :: ps,[],h,_=>by simp[Qhl] at h
 | p :: ps,x :: xs,h,ho=>by
  simp only[Qhl,Bool.and_eq_true] at h
  simp only[Qgo,List.all_append,Bool.and_eq_true] at ho
  simp only[Qcw,Qhk h.1 ho.1,qvd h.2 ho.2,Bool.and_self]
end
mutual
theorem qv7:∀ (x:KV),(qzk x x).all id=true
 | .un | .sk | .yld _ | .ref _ _ | .aref _ _ _ _ | .mp _ | .it _ | .wit _ | .lit _ | .nils | .cv _=>rfl
 | .arr nm k o n=>by simp[qzk,eqOff]
 | .fn f cap=>by simp only[qzk];exact qno cap
 | .tup xs=>by simp only[qzk];exact qno xs
 | .agg cs=>by simp only[qzk];exact qno cs
 | .iface t y=>by simp only[qzk];exact qv7 y
theorem qno:∀ (x:List KV),(Qgo x x).all id=true
 | []=>rfl
 | x :: xs=>by simp only[Qgo,List.all_append,qv7 x,qno xs,Bool.and_self]
end
theorem fit0Ob_ok {p x:KOb} (h:fit0Ob p x=true) (ho:(offsOb p x).all id=true):qk7 p x=true:=by
 cases p with
 | cells ty cs =>
  cases x<;>simp only[fit0Ob,Bool.false_eq_true,Bool.and_eq_true] at h
  simp only[qk7,h.1,qvd h.2 ho,Bool.and_self]
 | whole ty v=>exact h
 | arr k t xs=>exact h
 | map es=>exact h
 | siter s p=>exact h
theorem Qnp (x:KOb):(offsOb x x).all id=true:=by cases x<;>first | exact qno _ | rfl
theorem Qfk:∀ {p x:List KOb},qwr p x=true→(qv8 p x).all id=true→qjp p x=true
 | [],[],_,_=>rfl
 | [],_ :: _,h,_=>by simp[qwr] at h
 | _ :: _,[],h,_=>by simp[qwr] at h
 | p :: ps,x :: xs,h,ho=>by
  simp only[qwr,Bool.and_eq_true] at h
  simp only[qv8,List.all_append,Bool.and_eq_true] at ho
  simp only[qjp,fit0Ob_ok h.1 ho.1,Qfk h.2 ho.2,Bool.and_self]
theorem qxc:∀ (x:List KOb),(qv8 x x).all id=true
 | []=>rfl
 | x :: xs=>by simp only[qv8,List.all_append,Qnp x,qxc xs,Bool.and_self]
theorem Qbw:∀ {p x:Sp},Qbx p x=true→(qzl p x).all id=true→Qhi p x=true
 | [],[],_,_=>rfl
 | [],_ :: _,h,_=>by simp[Qbx] at h
 | _ :: _,[],h,_=>by simp[Qbx] at h
 |(i,p) :: ps,(j,x) :: xs,h,ho=>by
  simp only[Qbx,Bool.and_eq_true] at h
  simp only[qzl,List.all_append,Bool.and_eq_true] at ho
  simp only[Qhi,h.1,Qhk h.2.1 ho.1,Qbw h.2.2 ho.2,Bool.and_self]
theorem qsp:∀ (x:Sp),(qzl x x).all id=true
 | []=>rfl
 |(_,x) :: xs=>by simp only[qzl,List.all_append,qv7 x,qsp xs,Bool.and_self]
theorem Qlt:∀ {p x:SpO},Qfj p x=true→(Qdp p x).all id=true→Qlr p x=true
 | [],[],_,_=>rfl
 | [],_ :: _,h,_=>by simp[Qfj] at h
 | _ :: _,[],h,_=>by simp[Qfj] at h
 |(i,p) :: ps,(j,x) :: xs,h,ho=>by
  simp only[Qfj,Bool.and_eq_true] at h
  simp only[Qdp,List.all_append,Bool.and_eq_true] at ho
  simp only[Qlr,h.1,Qfk h.2.1 ho.1,Qlt h.2.2 ho.2,Bool.and_self]
theorem qzm:∀ (x:SpO),(Qdp x x).all id=true
 | []=>rfl
 |(_,x) :: xs=>by simp only[Qdp,List.all_append,qxc x,qzm xs,Bool.and_self]
theorem Qlu:∀ {p x:List Sp},Qfl p x=true→(Qdq p x).all id=true→Qls p x=true
 | [],[],_,_=>rfl
 | [],_ :: _,h,_=>by simp[Qfl] at h
 | _ :: _,[],h,_=>by simp[Qfl] at h
 | p :: ps,x :: xs,h,ho=>by
  simp only[Qfl,Bool.and_eq_true] at h
  simp only[Qdq,List.all_append,Bool.and_eq_true] at ho
  simp only[Qls,Qbw h.1 ho.1,Qlu h.2 ho.2,Bool.and_self]
theorem qzn:∀ (x:List Sp),(Qdq x x).all id=true
 | []=>rfl
 | x :: xs=>by simp only[Qdq,List.all_append,qsp x,qzn xs,Bool.and_self]
theorem Qbu {p x:KSt} (h:Qbv p x=true) (ho:(Qkb p x).all id=true):fitSt p x=true:=by
 unfold Qbv at h
 unfold Qkb at ho
 simp only[Bool.and_eq_true] at h
 simp only[List.all_append,Bool.and_eq_true] at ho
 unfold fitSt
 simp only[h.1,Qbw h.2.1 ho.1,Qlt h.2.2.1 ho.2.1,Qlu h.2.2.2 ho.2.2,Bool.and_self]
theorem Qbt {x:KSt} (h:Qbv x x=true):fitSt x x=true :=
 Qbu h (by unfold Qkb;simp only[List.all_append,qsp,qzm,qzn,Bool.and_self])
theorem qvf {p x:KSt} (h:fitSt p x=true) (hp:p.Ok) (hx:x.Ok):(qfw p (qft p x)).st=x.st∧(qfw p (qft p x)).Ok∧(qfw p (qft p x)).nt=p.nt∧p.nt=x.nt:=by
 unfold fitSt at h
 simp only[Bool.and_eq_true] at h
 obtain⟨h0,h1,h2,h3⟩:=h
 have hnt:=Nat.eq_of_beq_eq_true h0
 have hs:=Seg.all (qft p x)
 unfold qft at hs
 have hx1:qml p.nt x.tmps:=hnt ▸ hx.tm
 have hx2:qlo p.nt x.objs:=hnt ▸ hx.ob
 have hx3:∀ sp∈x.keep,qml p.nt sp:=hnt ▸ hx.kp
 obtain⟨a1,b1,_,c1⟩:=Qbz p.tmps x.tmps h1 hp.tm hx1 _ 0 hs.left.left
 have hs2:=hs.left.right
 obtain⟨a2,b2,_,c2⟩:=Qlw p.objs x.objs h2 hp.ob hx2 (qft p x) (qkv p.tmps (qft p x) 0).2 (by unfold qft;rw[c1];exact hs2)
 have hs3:=hs.right
 obtain⟨a3,b3⟩:=Qlx p.keep x.keep h3 hp.kp hx3 (qft p x) (qn3 p.objs (qft p x) (qkv p.tmps (qft p x) 0).2).2 (by
  unfold qft at c2 ⊢
  rw[c2,c1]
  simp only[List.length_append] at hs3
  rw[Nat.zero_add] at hs3 ⊢
  exact hs3)
 refine⟨?_,⟨b1,b2,b3⟩,rfl,hnt⟩
 unfold KSt.st qfw
 simp only
 rw[←hnt,a3]
 congr 1
 ·unfold qd2;exact List.map_congr_left fun j _=>a1 j
 ·unfold qfx;exact List.map_congr_left fun j _=>a2 j
end Go.Ab


namespace Go.Ab
variable {cfg:Qcm} {tab:FuncId→Option RFn}
theorem exec_pure {d:Nat} {σ:Nm→Option Ob} {T:List PV} {op:ROp} (hp:Qdm op=true) {out:Out} (h:exec d σ T op=some out):out={v:=out.v}:=by
 have hm:∀ {x:Option PV},(x.map fun v=>({v:=v}:Out))=some out→out={v:=out.v}:=by
  intro x hx
  obtain⟨v,_,rfl⟩:=Option.map_eq_some_iff.1 hx
  rfl
 have hcm:∀ {b:Bool} {x:Option PV},chk b (x.map fun v=>({v:=v}:Out))=some out→out={v:=out.v}:=by
  intro b x hx
  exact hm (qfj hx).2
 have hc:∀ {b:Bool} {v:PV},chk b (some ({v:=v}:Out))=some out→out={v:=out.v}:=by
  intro b v hx
  obtain⟨_,hx⟩:=qfj hx
  cases hx;rfl
 cases op with
 | box | alloc | mkSl | store | mkF | mkMap | insert | mkS | append | copy | call | iter | next | bad=>simp[Qdm] at hp
 | mov x=>cases h;rfl
 | mkI t x=>cases h;rfl
 | bin op c cst x y=>exact hm h
 | slice k x lo hi mx=>exact hm h
 | len c x =>
  simp only[exec] at h
  obtain⟨n,_,rfl⟩:=Option.map_eq_some_iff.1 h
  rfl
 | pick c a b | conv k x | ofRune x | strId x | un op x | nilck x=>simp only[exec] at h;split at h<;>first | (cases h;rfl) | cases h
 | build z ps=>simp only[exec] at h;split at h<;>first | (cases h;rfl) | cases h
 | toBytes x=>simp only[exec] at h;split at h<;>first | exact hc h | cases h
 | field off n ag x=>simp only[exec] at h;split at h<;>first | exact hm h | cases h
 | fieldAddr off x=>simp only[exec] at h;split at h<;>first | exact hc h | (cases h;rfl) | cases h
 | idxAddrA k l x i=>simp only[exec] at h;split at h<;>first | exact hc h | cases h
 | ofBytes x | strIdx x i | extract j x | minmax mx xs | idxAddr k x i | strSlice x lo hi =>
  simp only[exec] at h
  split at h
  all_goals first
   |(cases h;done)
   | exact hc h
   |(obtain⟨n,_,rfl⟩:=Option.map_eq_some_iff.1 h;rfl)
   |(split at h<;>first | (cases h;done) | exact hc h | (cases h;rfl) | (split at h<;>first | (cases h;done) | (cases h;rfl)))
 | tassert t z ok x =>
  simp only[exec] at h
  split at h
  ·split at h
   ·cases h;rfl
   ·exact hc h
  ·exact hc h
  ·cases h
 | lookup c z ok x k =>
  simp only[exec] at h
  split at h
  ·cases h
  ·split at h
   ·cases h
   ·exact hc h
 | load n ag x =>
  simp only[exec] at h
  split at h
  ·split at h
   ·exact hm h
   ·cases h
  ·exact hm h
  ·split at h
   ·split at h
    ·exact hcm h
    ·cases h
   ·cases h
  ·cases h
theorem Qci (st:St) (dst:Option Nat) (v:PV):apply st dst {v}=bset dst v [] st:=by
 rw[Qh8];simp[Qp0,bupd,bgone,Qpz,bext,Qkg]
theorem pure_runs {M:qf2} {E:Type} {h:qbk E} {dep:Nat} {ops:List qb3}:∀ (l:List qb3),(∀ o∈l,Qdm o.op=true)→∀ {st st':St} {e e':E},qjb M h dep ops l st e=some (st',e') →
  e'=e∧st'.objs=st.objs∧st'.keep=st.keep∧st'.tmps.length=st.tmps.length∧∀ i,i ∉ l.filterMap (·.dst)→st'.tmps[i]?=st.tmps[i]?:=by
 intro l
 induction l with
 | nil=>intro _ st st' e e' h;cases h;exact⟨rfl,rfl,rfl,rfl,fun _ _=>rfl⟩
 | cons o rest ih =>
  intro hp st st' e e' h
  simp only[qjb] at h
  split at h
  case h_2=>cases h
  rename_i s1 e1 hs
  have hone:e1=e∧∃ v,s1=bset o.dst v [] st:=by
   unfold stepG at hs
   split at hs
   ·unfold qte at hs
    split at hs
    ·rename_i out e2 ho
     cases hs
     unfold qj0 at ho
     obtain⟨_,ho⟩:=qfj ho
     have hpo:=hp o (by simp)
     split at ho
     ·rename_i f args hop;rw[hop] at hpo;simp[Qdm] at hpo
     ·split at ho
      ·rename_i out' hx
       cases ho
       have:=exec_pure hpo hx
       refine⟨rfl,out.v,?_⟩
       rw[this,Qci]
      ·cases ho
    ·cases hs
   ·cases hs;exact⟨rfl,_,Qci _ _ _⟩
   ·cases hs
  obtain⟨rfl,v,rfl⟩:=hone
  obtain⟨a,b,c,d,f⟩:=ih (fun o' ho'=>hp o' (by simp[ho'])) h
  refine⟨a,?_,?_,?_,?_⟩
  ·rw[b];cases o.dst<;>rfl
  ·rw[c];cases o.dst<;>rfl
  ·rw[d];cases o.dst<;>simp[bset]
  ·intro i hi
   have hi':i ∉ rest.filterMap (·.dst):=fun hm=>hi (by
    simp only[List.mem_filterMap] at hm ⊢
    obtain⟨o',ho',hd⟩:=hm
    exact⟨o',by simp[ho'],hd⟩)
   rw[f i hi']
   cases hd:o.dst with
   | none=>rfl
   | some t =>
    have hne:t≠i:=fun e=>hi (by
     simp only[List.mem_filterMap]
     exact⟨o,by simp,by rw[hd,e]⟩)
    simp only[bset]
    rw[List.getElem?_set_ne hne]
theorem tidy_congr {st st':St} (h1:st'.objs=st.objs) (h2:st'.keep=st.keep) (hl:st'.tmps.length=st.tmps.length) {l:List Nat} (h3:∀ i,i∈l→st'.tmps[i]?=st.tmps[i]?):Qqd (some l) st'=Qqd (some l) st:=by
 have:qll l st'=qll l st:=by
  unfold qll
  obtain⟨t',o',k'⟩:=st'
  obtain⟨t,o,k⟩:=st
  simp only at h1 h2 hl h3
  subst h1;subst h2
  have hl:t'.length=t.length:=hl
  congr 1
  show (t'.zipIdx.map fun (x:PV×Nat)=>if l.contains x.2 then x.1 else .undef)=t.zipIdx.map fun (x:PV×Nat)=>if l.contains x.2 then x.1 else .undef
  apply List.ext_getElem?
  intro i
  rw[List.getElem?_map,List.getElem?_map,List.getElem?_zipIdx,List.getElem?_zipIdx]
  by_cases hi:i∈l
  ·rw[h3 i hi]
  ·by_cases hlt:i < t.length
   ·rw[List.getElem?_eq_getElem hlt,List.getElem?_eq_getElem (by omega)]
    simp[hi]
   ·rw[List.getElem?_eq_none (by omega),List.getElem?_eq_none (by omega)]
 unfold Qqd
 simp only[this]
theorem kdrop_ok {k0 ks:KSt} (h:ks.Ok):(Qk7 k0 ks).Ok∧(Qk7 k0 ks).nt=ks.nt:=by
 unfold Qk7
 obtain⟨h1,h2⟩:=Qg6 h (qtj k0.tmps)
 obtain⟨h3,h4,h5⟩:=qnx h2 (qlk {ks with tmps:=qlw (qtj k0.tmps) ks.tmps})
 exact⟨h4,h5⟩
theorem ksetPs_ok {nt:Nat}:∀ (ps:List Nat) (args:List PV) (i:Nat) {tm:Sp},qml nt tm→(∀ p∈ps,p < nt)→qb8 args=true→qml nt (qt0 ps args i tm):=by
 intro ps
 induction ps with
 | nil=>intro args i tm h _ _;exact h
 | cons p ps ih =>
  intro args i tm h hp ha
  simp only[qt0]
  refine ih args (i+1) (h.put (hp p (by simp)) ?_ rfl) (fun q hq=>hp q (by simp[hq])) ha
  show okV (nth args i)=true
  unfold nth
  rw[List.getD_eq_getElem?_getD]
  cases hg:args[i]? with
  | none=>rfl
  | some v=>exact qkh ha hg
theorem ksetPs_st {nt:Nat}:∀ (ps:List Nat) (args:List PV) (i:Nat) {tm:Sp},i+ps.length=args.length→qd2 nt (qt0 ps args i tm)=qx0 ps (args.drop i) (qd2 nt tm):=by
 intro ps
 induction ps with
 | nil=>intro args i tm _;simp[qt0,qx0]
 | cons p ps ih =>
  intro args i tm hl
  simp only[List.length_cons] at hl
  have hd:args.drop i=args[i]'(by omega) :: args.drop (i+1):=List.drop_eq_getElem_cons (by omega)
  rw[hd]
  simp only[qt0,qx0]
  rw[ih args (i+1) (by omega),qvk]
  have:nth args i=args[i]'(by omega):=by
   unfold nth;rw[List.getD_eq_getElem?_getD,List.getElem?_eq_getElem (by omega)];rfl
  rw[←this]
  rfl
theorem konEx_some {R:Type} {r:R} {K:Nat→Option R}:∀ {l:List Nat} {p:Option Ex},konEx l p K=some r→∃ id,p=some (.exit id)∧K id=some r:=by
 intro l
 induction l with
 | nil=>intro p h;cases h
 | cons id l ih =>
  intro p h
  simp only[konEx] at h
  rcases ql6 h with ⟨h1,h2⟩ | ⟨_,h2⟩
  ·refine⟨id,?_,h2⟩
   unfold isExitE at h1
   split at h1
   ·rename_i id';rw[Nat.eq_of_beq_eq_true h1]
   ·cases h1
  ·exact ih h2
def sp_dense (sp:Sp) (k3:KSt):List PV:=qd2 k3.nt sp
theorem Qhp (hc:qpe cfg tab):∀ (c:qdr) {E R:Type} {h:qbk E} {hn:Nat→qbk E} (_:HOk h hn) (dep:Nat) {ks:KSt} {e:E} {K:Ex→KSt→E→Option R} {r:R},ks.Ok→qky cfg c h dep ks e K=some r →
  ∃ x k' e',K x k' e'=some r∧k'.Ok∧Evl fun n=>qbz (qk6 cfg.b.sp tab n) n c (hn n) dep ks.st e=some (x,k'.st,e'):=by
 intro c
 induction c with
 | skip=>intro E R h hn hh dep ks e K r hk hr;exact⟨_,_,_,hr,hk,.of fun n=>rfl⟩
 | region ops dr lv =>
  intro E R h hn hh dep ks e K r hk hr
  obtain⟨c1,c2,_⟩:=qnx hk (qs7 ops)
  cases dr with
  | none =>
   simp only[qky] at hr
   rw[qdm] at hr
   split at hr
   ·rename_i t hslot
    obtain⟨z,hz,hr⟩:=qcb hr
    rw[qdm] at hr
    obtain⟨k1,e1,hz2,hk1,h1⟩:=Qg4 (dep:=dep) hc hh ops c2 hz
    unfold Qsl at hslot
    split at hslot
    case isFalse=>cases hslot
    rename_i hcond
    simp only[Bool.and_eq_true] at hcond
    cases lv with
    | none=>cases hslot
    | some l =>
    simp only at hslot
    split at hslot
    case h_2=>cases hslot
    rename_i t' hfil
    cases hslot
    have hpure:∀ o∈ops,Qdm o.op=true:=List.all_eq_true.1 hcond.2
    have hzok:okV z=true:=KV.cl_ok (hk1.tm.get_ok t) hz2
    have htlt:t < k1.nt:=by
     apply Classical.byContradiction
     intro hlt
     rw[hk1.tm.get_ge (by omega)] at hz2;cases hz2
    obtain⟨m,hm⟩:=h1
    have hm0:=hm m (Nat.le_refl _)
    obtain⟨rfl,p2,p3,p4,p5⟩:=pure_runs ops hpure hm0
    have hnt:k1.nt=(qhn (qs7 ops) ks).nt:=by
     have:k1.st.tmps.length=(qhn (qs7 ops) ks).st.tmps.length:=p4
     have a1:k1.st.tmps.length=k1.nt:=qca _ _
     have a2:(qhn (qs7 ops) ks).st.tmps.length=(qhn (qs7 ops) ks).nt:=qca _ _
     omega
    have hput:({qhn (qs7 ops) ks with tmps:=qkl t (.cv z) (qhn (qs7 ops) ks).tmps}:KSt).Ok:=⟨c2.tm.put (by omega) hzok rfl,c2.ob,c2.kp⟩
    obtain⟨t1,t2⟩:=qyd hput (some l)
    refine⟨_,_,_,hr,t2,⟨m,fun n hn'=>?_⟩⟩
    have hb:=hm n hn'
    rw[c1] at hb
    simp only[qbz,hb,t1]
    have:Qqd (some l) k1.st=Qqd (some l) ({qhn (qs7 ops) ks with tmps:=qkl t (.cv z) (qhn (qs7 ops) ks).tmps}:KSt).st:=by
     refine tidy_congr (st':=k1.st) (st:=({qhn (qs7 ops) ks with tmps:=qkl t (.cv z) (qhn (qs7 ops) ks).tmps}:KSt).st) p2 p3 ?_ fun i hi=>?_
     ·rw[p4]
      show (qd2 _ _).length=(qd2 _ _).length
      rw[qca,qca]
     ·show k1.st.tmps[i]?=(qd2 _ (qkl t (.cv z) _))[i]?
      rw[qvk]
      by_cases hit:i=t
      ·subst hit
       rw[List.getElem?_set_self (by rw[qca];show i < (qhn (qs7 ops) ks).nt;omega)]
       show (qd2 k1.nt k1.tmps)[i]?=_
       rw[dense_get?,if_pos htlt,KV.cl_pv hz2]
       rfl
      ·rw[List.getElem?_set_ne (Ne.symm hit)]
       refine p5 i fun hmem=>hit ?_
       have:i∈l.filter fun t=>(ops.filterMap (·.dst)).contains t:=List.mem_filter.2 ⟨hi,by simpa using hmem⟩
       rw[hfil] at this
       simpa using this
    rw[this]
   ·obtain⟨k1,e1,hr,hk1,h1⟩:=Qg4 (dep:=dep) hc hh ops c2 hr
    rw[qdm] at hr
    obtain⟨t1,t2⟩:=qyd hk1 lv
    rw[c1] at h1
    exact⟨_,_,_,hr,t2,h1.mono fun n hn'=>by simp only[qbz,hn',t1]⟩
  | some bef =>
   simp only[qky] at hr
   rw[qdm] at hr
   obtain⟨k1,e1,hr,hk1,h1⟩:=krunsD_ok (dep:=dep) hc hh bef [] c2 hr
   rw[qdm] at hr
   obtain⟨t1,t2⟩:=qyd hk1 lv
   rw[c1] at h1
   exact⟨_,_,_,hr,t2,h1.mono fun n hn'=>by simp only[qbz,hn',t1]⟩
 | seq a b iha ihb =>
  intro E R h hn hh dep ks e K r hk hr
  simp only[qky] at hr
  obtain⟨x,k1,e1,hr,hk1,h1⟩:=iha hh dep hk hr
  cases x with
  | normal =>
   obtain⟨x2,k2,e2,hr,hk2,h2⟩:=ihb hh dep hk1 hr
   exact⟨_,_,_,hr,hk2,h1.mono2 h2 fun n a b=>by simp only[qbz,a,b]⟩
  | exit id=>exact⟨_,_,_,hr,hk1,h1.mono fun n a=>by simp only[qbz,a]⟩
  | ret=>exact⟨_,_,_,hr,hk1,h1.mono fun n a=>by simp only[qbz,a]⟩
 | cond c a b iha ihb =>
  intro E R h hn hh dep ks e K r hk hr
  simp only[qky] at hr
  have hev:=qvz hk c
  split at hr
  ·rename_i hv
   obtain⟨x,k1,e1,hr,hk1,h1⟩:=iha hh dep hk hr
   exact⟨_,_,_,hr,hk1,h1.mono fun n a=>by simp only[qbz,hev,hv,KV.pv,a]⟩
  ·rename_i hv
   obtain⟨x,k1,e1,hr,hk1,h1⟩:=ihb hh dep hk hr
   exact⟨_,_,_,hr,hk1,h1.mono fun n a=>by simp only[qbz,hev,hv,KV.pv,a]⟩
  ·rename_i v hv
   rcases qt3 hr with ⟨rfl,hr⟩ | ⟨rfl,hr⟩
   ·obtain⟨x,k1,e1,hr,hk1,h1⟩:=iha hh dep hk hr
    exact⟨_,_,_,hr,hk1,h1.mono fun n a=>by simp only[qbz,hev,hv,KV.pv,a]⟩
   ·obtain⟨x,k1,e1,hr,hk1,h1⟩:=ihb hh dep hk hr
    exact⟨_,_,_,hr,hk1,h1.mono fun n a=>by simp only[qbz,hev,hv,KV.pv,a]⟩
  ·cases hr
 | block id b ih =>
  intro E R h hn hh dep ks e K r hk hr
  simp only[qky] at hr
  obtain⟨x,k1,e1,hr,hk1,h1⟩:=ih hh dep hk hr
  cases x with
  | normal=>exact⟨_,_,_,hr,hk1,h1.mono fun n a=>by simp only[qbz,a]⟩
  | ret=>exact⟨_,_,_,hr,hk1,h1.mono fun n a=>by simp only[qbz,a]⟩
  | exit id' =>
   simp only at hr
   split at hr
   ·rename_i hid;exact⟨_,_,_,hr,hk1,h1.mono fun n a=>by simp only[qbz,a,hid,if_true]⟩
   ·rename_i hid;exact⟨_,_,_,hr,hk1,h1.mono fun n a=>by simp only[qbz,a,hid,if_false]⟩
 | loop asg grow b ih =>
  intro E R h hn hh dep ks e K r hk hr
  simp only[qky] at hr
  obtain⟨k0,hr,hk0,hnt0,hst0⟩:=Qg5 hk hr
  rw[qdm] at hr
  obtain⟨hU,hr⟩:=qbr hr
  split at hr
  ·cases hr
  rename_i hself
  have hself:fitSt k0 k0=true:=Qbt (by simpa using hself)
  obtain⟨m,hm⟩:=qrj hr
  have key:∀ (m:Nat) (vs:List PV) (e:E),(qfw k0 vs).Ok→repS (fun s:List PV×E=>qj5 (qfw k0 s.1) fun ks=>qky cfg b h dep ks s.2 (Qqw asg grow k0 K)) m (vs,e)=some r →
    ∃ x k' e',K x k' e'=some r∧k'.Ok∧Evl fun n=>∀ j,m≤j→qhz (qgx (qk6 cfg.b.sp tab n) n asg grow b (hn n) dep (undefs k0.st)) j ((qfw k0 vs).st,e)=some (x,k'.st,e'):=by
   intro m
   induction m with
   | zero=>intro vs e _ h0;cases h0
   | succ m ihm =>
    intro vs e hkv hm
    unfold repS at hm
    simp only at hm
    rw[qdm] at hm
    cases hs:qky cfg b h dep (qfw k0 vs) e (Qqw asg grow k0 K) with
    | none =>
     rw[hs] at hm;cases hm
    | some q =>
     rw[hs] at hm
     obtain⟨x,k1,e1,hq,hk1,h1⟩:=ih hh dep hkv hs
     have hother:∀ y,y≠Ex.normal→x=y→(qbb (K y k1 e1) fun r=>some (Sum.inr r))=some q→∃ x k' e',K x k' e'=some r∧k'.Ok∧Evl fun n=>∀ j,m+1≤j→qhz (qgx (qk6 cfg.b.sp tab n) n asg grow b (hn n) dep (undefs k0.st)) j ((qfw k0 vs).st,e)=some (x,k'.st,e'):=by
      intro y hy hxy hq
      obtain⟨r',hr',hq⟩:=qcb hq
      cases hq
      cases hm
      refine⟨y,k1,e1,hr',hk1,h1.mono fun n hn' j hj=>?_⟩
      obtain⟨j,rfl⟩:∃ i,j=i+1:=⟨j - 1,by omega⟩
      rw[qq9]
      subst hxy
      cases x with
      | normal=>exact absurd rfl hy
      | exit id=>simp only[qgx,hn',qxa]
      | ret=>simp only[qgx,hn',qxa]
     cases x with
     | exit id=>exact hother (.exit id) (by simp) rfl hq
     | ret=>exact hother .ret (by simp) rfl hq
     | normal =>
      unfold Qqw at hq;simp only at hq
      obtain⟨d1,d2⟩:=kdrop_ok (k0:=k0) hk1
      obtain⟨k2,hq,hk2,hnt2,hst2⟩:=Qg5 d1 hq
      rw[qdm] at hq
      split at hq
      ·rename_i hfit0
       obtain⟨hoffs,hq⟩:=Qcd hq
       have hfit:=Qbu hfit0 hoffs
       cases hq
       obtain⟨f1,f2,f3,f4⟩:=qvf hfit hk0 hk2
       obtain⟨g1,_,_⟩:=kdrop_st hk0 hU hk1 (by omega)
       obtain⟨x3,k3,e3,hr3,hk3,h3⟩:=ihm _ _ f2 hm
       refine⟨x3,k3,e3,hr3,hk3,h1.mono2 h3 fun n hn1 hn3 j hj=>?_⟩
       obtain⟨j,rfl⟩:∃ i,j=i+1:=⟨j - 1,by omega⟩
       rw[qq9]
       have:=hn3 j (by omega)
       rw[f1,hst2,g1] at this
       simp only[qgx,hn1,qxa]
       exact this
      ·cases hq
  obtain⟨s1,s2,_,_⟩:=qvf (p:=k0) (x:=k0) hself hk0 hk0
  obtain⟨x,k',e',hr',hk',hev⟩:=key m _ e s2 hm
  refine⟨x,k',e',hr',hk',hev.diag.mono fun n hn'=>?_⟩
  rw[s1,hst0] at hn'
  rw[Qfn,hn']
 | rangeFunc f ps asg b iha ihb =>
  intro E R h hn hh dep ks e K r hk hr
  simp only[qky] at hr
  split at hr
  case h_2=>cases hr
  rename_i fv hfv
  split at hr
  case isFalse=>cases hr
  rename_i hps
  simp only[Bool.and_eq_true] at hps
  obtain⟨⟨hps,hself0⟩,hxf⟩:=hps
  have hself:=Qbt hself0
  have hpslt:∀ p∈ps,p < ks.nt:=fun p hp=>by
   have:=List.all_eq_true.1 hps p hp
   simpa[Nat.blt_eq] using this
  obtain⟨⟨vs,p,e2⟩,hrange,hr2⟩:=qcb hr
  clear hr
  rw[qdm] at hr2
  simp only at hr2
  unfold rangeO at hrange
  split at hrange
  case h_2=>cases hrange
  rename_i g cap
  split at hrange
  case h_2=>cases hrange
  rename_i rv obs rr hL
  cases hrange
  rw[hc.L] at hL
  obtain⟨m,hm⟩:=qty hL
  have hm:=hm m (Nat.le_refl _)
  obtain⟨s1,s2,_,_⟩:=qvf (p:=ks) (x:=ks) hself hk hk
  obtain⟨⟨st2,p2,e2'⟩,hre,hev⟩:=qww (sp:=cfg.b.sp) (tab:=tab) m (KRec E) (Rec E)
   (fun a b=>a.2.1=b.2.1∧a.2.2=b.2.2∧(qfw ks a.1).Ok∧(qfw ks a.1).st=b.1) _ (fun n=>qzc (qk6 cfg.b.sp tab n) n asg b (hn n) dep ps) (by
    rintro l args ⟨vs,p,e⟩ ⟨s,p',e'⟩ ⟨h1,h2,h3,h4⟩ bb ⟨vs',q,e1⟩ hq
    simp only at h1 h2 h3 h4
    subst h1;subst h2;subst h4
    unfold onRound at hq
    unfold qzc
    by_cases hl:l=dep
    ·simp only[hl,if_true] at hq ⊢
     cases p with
     | some x=>cases hq
     | none =>
      simp only at hq ⊢
      obtain⟨hargs,hq⟩:=qbr hq
      unfold okArgs at hargs
      simp only[Bool.and_eq_true,beq_iff_eq] at hargs
      rw[qdm,qdm] at hq
      have hnt:(qfw ks vs).nt=ks.nt:=rfl
      have hk1:({qfw ks vs with tmps:=qt0 ps args 0 (qfw ks vs).tmps,keep:=(qfw ks vs).tmps :: (qfw ks vs).keep}:KSt).Ok :=
       ⟨ksetPs_ok ps args 0 h3.tm hpslt hargs.2,h3.ob,fun sp hsp=>(List.mem_cons.1 hsp).elim (fun e=>e ▸ h3.tm) (h3.kp sp)⟩
      have hk1st:({qfw ks vs with tmps:=qt0 ps args 0 (qfw ks vs).tmps,keep:=(qfw ks vs).tmps :: (qfw ks vs).keep}:KSt).st={(qfw ks vs).st with tmps:=qx0 ps args (qfw ks vs).st.tmps,keep:=(qfw ks vs).st.tmps++(qfw ks vs).st.keep}:=by
       unfold KSt.st
       simp only
       rw[ksetPs_st ps args 0 (by omega)]
       simp
      obtain⟨x1,k2,e3,hq,hk2,ha⟩:=iha hh (dep+1) hk1 hq
      cases x1 with
      | exit id=>cases hq
      | ret=>cases hq
      | normal =>
       simp only at hq
       obtain⟨x2,k3,e4,hq,hk3,hb⟩:=ihb hh (dep+1) hk2 hq
       split at hq
       case h_1=>cases hq
       rename_i sp kp hkeep
       rw[qdm] at hq
       split at hq
       case isFalse=>cases hq
       rename_i hfit0
       obtain⟨hoffs,hq⟩:=Qcd hq
       have hfit:=Qbu hfit0 hoffs
       cases hq
       have hk4:({k3 with tmps:=sp,keep:=kp}:KSt).Ok:=⟨hk3.kp sp (by rw[hkeep];simp),hk3.ob,fun q hq=>hk3.kp q (by rw[hkeep];simp[hq])⟩
       obtain⟨f1,f2,f3,f4⟩:=qvf hfit hk hk4
       have f5:ks.nt=k3.nt:=f4
       refine⟨({tmps:=sp_dense sp k3,objs:=k3.st.objs,keep:=kp.flatMap (qd2 k3.nt)},exitOf x2,e1),⟨rfl,rfl,f2,?_⟩,ha.mono2 hb fun n hn1 hn2=>?_⟩
       ·rw[f1];rfl
       ·simp only[hargs.1,if_true]
        rw[←hk1st,hn1]
        simp only
        rw[hn2]
        simp only
        have hkp:k3.st.keep=qd2 k3.nt sp++kp.flatMap (qd2 k3.nt):=by
         show k3.keep.flatMap (qd2 k3.nt)=_
         rw[hkeep];rfl
        have hlen:(qfw ks vs).st.tmps.length=(qd2 k3.nt sp).length:=by
         show (qd2 ks.nt _).length=_
         rw[qca,qca];exact f5
        rw[hkp,hlen,List.take_left,List.drop_left]
        cases x2<;>rfl
    ·simp only[hl,if_false] at hq ⊢
     split at hq
     ·rename_i b2 e3 h6
      cases hq
      exact⟨_,⟨rfl,rfl,h3,rfl⟩,(hh _ _ _ _ h6).mono fun n hn'=>by rw[hn']⟩
     ·cases hq) (dep+1) (qge g) (qco g [.yld dep] cap) (qft ks ks,none,e) (ks.st,none,e) ⟨rfl,rfl,s2,s1⟩ rv obs _ hm
  simp only at hre
  obtain⟨h1,h2,h3,h4⟩:=hre
  subst h1;subst h2;subst h4
  have hfe:f.ev ks.st.tmps=.fn g cap:=by rw[qvz hk,KV.cl_pv hfv]
  have hcap:(PV.fn g cap).names=[]:=by
   exact (qgu (KV.cl_ok (kv_ok hk hxf) hfv)).1
  have hbase:Evl fun n=>qbz (qk6 cfg.b.sp tab n) n (.rangeFunc f ps asg b) (hn n) dep ks.st e=some (p.getD .normal,(qfw ks vs).st,e2):=hev.mono fun n hn'=>by
   rw[qxr,hfe]
   unfold qs1
   rw[hcap]
   simp only[List.isEmpty_nil,if_true]
   simp only[qk6,qbm] at hn' ⊢
   rw[hn']
  rcases ql6 hr2 with ⟨hp,hr2⟩ | ⟨_,hr2⟩
  ·cases p with
   | some x=>cases hp
   | none=>exact⟨_,_,_,hr2,h3,hbase⟩
  ·rcases ql6 hr2 with ⟨hp,hr2⟩ | ⟨_,hr2⟩
   ·unfold isRetE at hp
    split at hp
    ·exact⟨_,_,_,hr2,h3,hbase⟩
    ·cases hp
   ·obtain⟨id,hpe,hr3⟩:=konEx_some hr2
    subst hpe
    exact⟨_,_,_,hr3,h3,hbase⟩
 | exit id=>intro E R h hn hh dep ks e K r hk hr;exact⟨_,_,_,hr,hk,.of fun n=>rfl⟩
 | scope b ih =>
  intro E R h hn hh dep ks e K r hk hr
  simp only[qky] at hr
  obtain⟨x,k1,e1,hr,hk1,h1⟩:=ih hh dep hk hr
  cases x with
  | normal=>exact⟨_,_,_,hr,hk1,h1.mono fun n a=>by simp only[qbz,a]⟩
  | ret=>exact⟨_,_,_,hr,hk1,h1.mono fun n a=>by simp only[qbz,a]⟩
  | exit id' =>
   simp only at hr
   split at hr
   ·rename_i hid;exact⟨_,_,_,hr,hk1,h1.mono fun n a=>by simp only[qbz,a,hid,if_true]⟩
   ·cases hr
 | ret=>intro E R h hn hh dep ks e K r hk hr;exact⟨_,_,_,hr,hk,.of fun n=>rfl⟩
 | norm g =>
  intro E R h hn hh dep ks e K r hk hr
  simp only[qky] at hr
  obtain⟨t1,t2,_⟩:=ktrim_st hk
  obtain⟨k',hr,hk',_,hst⟩:=Qg5 t2 hr
  rw[qdm] at hr
  exact⟨_,_,_,hr,hk',.of fun n=>by simp only[qbz,hst,t1]⟩
 | bad=>intro E R h hn hh dep ks e K r hk hr;cases hr
 | dreg ops f args lv=>intro E R h hn hh dep ks e K r hk hr;cases hr
end Go.Ab


namespace Go.Ab
variable {cfg:Qcm} {tab:FuncId→Option RFn} {ks:KSt}
theorem kresV_ok {R:Type} {r:R} (h:ks.Ok) {x:RRes} {K:KV→Option R} (hr:kresV ks x K=some r):∃ v,K v=some r∧v.ok∧resV ks.st x=some v.pv:=by
 have hget:∀ t,ks.st.tmps.getD t .undef=(qcn ks.tmps t).pv:=fun t=>qj7 h.tm t
 have lk:=qk3 h
 cases x with
 | tmp t=>exact⟨_,hr,h.tm.get_ok t,by simp only[resV,hget]⟩
 | cell t n ag =>
  simp only[kresV] at hr
  split at hr
  ·rename_i nm o hv
   split at hr
   ·rename_i cs hl
    have hcs:qg2 cs:=qds h.ob hl
    split at hr
    ·rename_i hag
     split at hr
     ·rename_i hle
      refine⟨_,hr,qqi (qqj hcs _) _,?_⟩
      simp only[resV,hget,hv,KV.pv,lk,hl,Option.map_some,KOb.ob,sel,hag,if_true,chk,qfo,hle,decide_true,qra,qrb]
     ·cases hr
    ·rename_i hag
     split at hr
     ·rename_i c hc
      refine⟨_,hr,qdl.1 hcs c (List.mem_of_getElem? hc),?_⟩
      simp only[resV,hget,hv,KV.pv,lk,hl,Option.map_some,KOb.ob,sel,hag,pvL_get?,hc]
      rfl
     ·cases hr
   ·rename_i w hl
    obtain⟨z,hz,hr⟩:=qcb hr
    have hw:okV w=true:=qds h.ob hl
    unfold Qmy at hz
    refine⟨_,hr,qzg (qcx hw) hz,?_⟩
    simp only[resV,hget,hv,KV.pv,lk,hl,Option.map_some,KOb.ob,qg0,hz]
   ·cases hr
  ·cases hr
theorem Qkv {R:Type} {r:R} (h:ks.Ok):∀ (l:List RRes) {K:List KV→Option R},qxf ks l K=some r→∃ vs,K vs=some r∧qg2 vs∧qpn ks.st l=some (pvL vs):=by
 intro l
 induction l with
 | nil=>intro K hr;exact⟨[],hr,trivial,rfl⟩
 | cons x l ih =>
  intro K hr
  simp only[qxf] at hr
  obtain⟨v,hr,hv,h1⟩:=kresV_ok h hr
  obtain⟨vs,hr,hvs,h2⟩:=ih hr
  exact⟨v :: vs,hr,⟨hv,hvs⟩,by simp only[qpn,h1,h2,pvL]⟩
theorem Qkx {vs:List KV} (h:qg2 vs):(qxh vs).ok∧(qxh vs).pv=qso (pvL vs):=by
 match vs,h with
 | [],h=>exact⟨trivial,rfl⟩
 | [v],h=>exact⟨h.1,rfl⟩
 | v :: w :: vs,h=>exact⟨h,rfl⟩
theorem Qfa {o:Nat}:qr7 o=true↔o=0:=by cases o<;>simp[qr7]
def top1:PV→List Nm
 | .arr nm _ 0 _=>[nm]
 | _=>[]
def top2:PV→List Nm
 | .arr nm _ 0 _=>[nm]
 | .agg cs=>cs.flatMap top1
 | _=>[]
def ktop1:KV→List Nm
 | .arr nm _ o _=>if qr7 o then [nm] else []
 | .wit nm=>[nm]
 | _=>[]
def ktop2:KV→List Nm
 | .arr nm _ o _=>if qr7 o then [nm] else []
 | .wit nm=>[nm]
 | .agg cs=>cs.flatMap ktop1
 | _=>[]
theorem ktop1_ok {x:KV} (h:x.ok):ktop1 x=top1 x.pv:=by
 cases x with
 | arr nm k o n=>cases o<;>rfl
 | cv v =>
  have hv:okV v=true:=h
  cases v<;>first | rfl | simp[okV] at hv
 | _=>rfl
theorem Qjg {cs:List PV} (h:qb8 cs=true):cs.flatMap top1=[]:=by
 rw[List.flatMap_eq_nil_iff]
 intro x hx
 have:=qfl.1 h x hx
 cases x<;>first | rfl | simp[okV] at this
theorem Qlp {cs:List KV} (h:qg2 cs):cs.flatMap ktop1=(pvL cs).flatMap top1:=by
 rw[qg5,List.flatMap_map]
 induction cs with
 | nil=>rfl
 | cons x xs ih=>simp only[List.flatMap_cons];rw[ktop1_ok h.1,ih h.2]
theorem Qg3 {x:KV} (h:x.ok):ktop2 x=top2 x.pv:=by
 cases x with
 | arr nm k o n=>cases o<;>rfl
 | agg cs=>exact Qlp h
 | cv v =>
  have hv:okV v=true:=h
  cases v with
  | agg cs=>simp only[okV] at hv;exact (Qjg hv).symm
  | _=>first | rfl | simp[okV] at hv
 | _=>rfl
theorem tops_eq (v:PV):tops v=match v with | .tup xs=>xs.flatMap top2 | v=>top2 v:=by
 have e1:(fun (x:PV)=>match x with | .arr nm _ 0 _=>[nm] | _=>[])=top1:=by
  funext x;cases x<;>first | rfl | (rename_i nm k o n;cases o<;>rfl)
 cases v with
 | arr nm k o n=>cases o<;>rfl
 | agg cs=>simp only[tops,top2];rfl
 | tup xs =>
  simp only[tops]
  congr 1
 | _=>rfl
theorem ktops_eq (v:KV):ktops v=match v with | .tup xs=>xs.flatMap ktop2 | v=>ktop2 v:=by
 cases v<;>first | rfl | (simp only[ktops];congr 1)
theorem ktops_ok {v:KV} (h:v.ok):ktops v=tops v.pv:=by
 rw[ktops_eq,tops_eq]
 cases v with
 | tup xs =>
  have hx:qg2 xs:=h
  simp only[KV.pv]
  rw[qg5,List.flatMap_map]
  clear h
  induction xs with
  | nil=>rfl
  | cons x xs ih=>simp only[List.flatMap_cons];rw[Qg3 hx.1,ih hx.2]
 | cv u =>
  have hu:okV u=true:=h
  simp only[KV.pv,ktop2]
  cases u with
  | tup xs =>
   simp only[okV] at hu
   symm
   rw[List.flatMap_eq_nil_iff]
   intro x hx
   have hx':=qfl.1 hu x hx
   have:=Qg3 (x:=.cv x) hx'
   simpa[ktop2,KV.pv] using this.symm
  | agg cs=>simp only[okV] at hu;exact (Qjg hu).symm
  | _=>first | rfl | simp[okV] at hu
 | _=>exact Qg3 h
theorem Qdt:∀ {l:List Nm},qhh l=true↔l.Nodup
 | []=>by simp[qhh]
 | x :: xs=>by simp[qhh,Qdt (l:=xs)]
theorem mapM_look {σ:Nm→Option Ob}:∀ {S:List Nm},(∀ nm∈S,∃ ob,σ nm=some ob∧Qld ob=true)→∃ obs,S.mapM σ=some obs∧obs.all Qld=true∧obs.length=S.length∧∀ (i:Nat) nm,S[i]?=some nm→obs[i]?=σ nm:=by
 intro S
 induction S with
 | nil=>intro _;exact⟨[],rfl,rfl,rfl,by simp⟩
 | cons nm S ih =>
  intro h
  obtain⟨ob,h1,h2⟩:=h nm (by simp)
  obtain⟨obs,h3,h4,h5,h6⟩:=ih fun m hm=>h m (by simp[hm])
  refine⟨ob :: obs,by simp[List.mapM_cons,h1,h3],by simp[h2,h4],by simp[h5],?_⟩
  intro i m hi
  cases i with
  | zero=>simp at hi;subst hi;simp[h1]
  | succ i=>simp at hi ⊢;exact h6 i m hi
theorem Qlg {pre mid post:List Nm} {nm:Nm} (hnd:(pre++nm :: mid++post).Nodup):(pre++nm :: mid++post).idxOf nm=pre.length:=by
 have hn:nm ∉ pre:=fun hm=>by
  rw[List.append_assoc,List.nodup_append] at hnd
  exact hnd.2.2 nm hm nm (by simp) rfl
 rw[List.append_assoc,List.idxOf_append,if_neg hn]
 simp
section hand
variable {σ:Nm→Option KOb} (hσ:∀ nm o,σ nm=some o→o.ok) {S:List Nm} (hnd:S.Nodup) {obs:List Ob} (hobs:∀ (i:Nat) nm,S[i]?=some nm→obs[i]?=(σ nm).map fun o=>o.ob.bare)
include hσ hnd hobs
def subH (σ:Nm→Option KOb) (S:List Nm):Nm→Option (Option Ob):=fun nm=>if S.contains nm=true then none else qcp (fun nm=>(σ nm).map KOb.ob) nm
omit hnd hobs in
theorem close_subH {x:KV} (hx:x.ok) (hn:(x.names.all fun nm=>!S.contains nm)=true):x.pv.sub (subH σ S)=x.close (qd6 σ qbp):=by
 rw[KV.close_pv _ hx]
 refine PV.sub_congr _ fun nm hm=>?_
 rw[KV.pv_names hx] at hm
 have:=List.all_eq_true.1 hn nm hm
 unfold subH qpi qcp
 simp only[Bool.not_eq_true'] at this
 rw[this,qwf hσ,Option.map_map]
 rfl
omit hσ hnd hobs in
theorem sub_cl {x:KV} {u:PV} (hx:x.ok) (h:x.cl=some u) (f:Nm→Option (Option Ob)) (g:Nm→Nm):(x.pv.sub f).ren g=u:=by
 have hu:=KV.cl_ok hx h
 rw[KV.cl_pv h,qms (qgu hu).1,qpo (qgu hu).1]
mutual
theorem Qrm {R:Type} {r:R}:∀ (sh:RSh) (x:KV),x.ok→∀ {K:PV→Option R},qsu σ S sh x K=some r→∀ (pre post:List Nm),S=pre++qvv sh x++post →
  ∃ u,K u=some r∧qjw obs sh pre.length ((x.pv.sub (subH σ S)).ren (Qjh S))=some (u,pre.length+(qvv sh x).length)
 | .cl,x,hx,K,hr,pre,post,_=>by
  have hclose:(if x.names.all fun nm=>!S.contains nm then qbw (okU (x.close (qd6 σ qbp))) (K (x.close (qd6 σ qbp))) else none)=some r →
    ∃ u,K u=some r∧qjw obs .cl pre.length ((x.pv.sub (subH σ S)).ren (Qjh S))=some (u,pre.length+(qvv .cl x).length):=by
   intro hr
   split at hr
   ·rename_i hn
    obtain⟨h1,hr⟩:=qbr hr
    unfold okU at h1
    refine⟨_,hr,?_⟩
    rw[close_subH hσ hx hn,qpo (qgu h1).1]
    simp[qjw,h1,qbw,qvv]
   ·cases hr
  simp only[qsu] at hr
  cases hu:x.cl with
  | some u =>
   rw[hu] at hr
   refine⟨u,hr,?_⟩
   rw[sub_cl hx hu]
   simp[qjw,KV.cl_ok hx hu,qbw,qvv]
  | none =>
   rw[hu] at hr
   cases x with
   | tup xs =>
    simp only at hr
    cases hus:clL xs with
    | some us =>
     rw[hus] at hr
     have hok:=qvo (xs:=xs) hx hus
     have htup:okV (.tup us)=true:=by simpa[okV] using hok
     refine⟨.tup us,hr,?_⟩
     have:(KV.tup xs).pv=.tup us:=by simp[KV.pv,qxv hus]
     rw[this,qms (qgu htup).1,qpo (qgu htup).1]
     simp[qjw,htup,qbw,qvv]
    | none=>rw[hus] at hr;exact hclose hr
   | _=>exact hclose hr
 | .own k,x,hx,K,hr,pre,post,hS=>by
  simp only[qsu] at hr
  split at hr
  ·rename_i nm k' o n
   split at hr
   ·rename_i k'' kt xs hl
    split at hr
    ·rename_i hc
     obtain⟨rfl,rfl,ho⟩:=hc
     rw[Qfa] at ho
     subst ho
     obtain⟨h1,hr⟩:=qbr hr
     rw[Qb7] at h1
     unfold qbs at h1
     simp only[qvv] at hS
     refine⟨_,hr,?_⟩
     have hmem:S.contains nm=true:=by rw[List.contains_iff_mem,hS];simp
     have hi:S[pre.length]?=some nm:=by rw[hS];simp
     have hidx:S.idxOf nm=pre.length:=by
      have e:S=pre++nm :: []++post:=by rw[hS]
      rw[e];exact Qlg (e ▸ hnd)
     have hob:obs[pre.length]?=some (.arr k 0 xs):=by rw[hobs _ _ hi,hl];rfl
     have hxok:qb8 xs=true:=hσ _ _ hl
     have hsub:(PV.arr nm k 0 n).sub (subH σ S)=.arr nm k 0 n:=by
      simp only[PV.sub,subH,hmem,if_true]
     simp only[KV.pv]
     rw[hsub]
     simp[PV.ren,Qjh,hidx,qjw,hob,qbw,h1,hxok,qvv]
    ·cases hr
   ·cases hr
  ·cases hr
 | .opt k,x,hx,K,hr,pre,post,hS=>by
  simp only[qsu] at hr
  split at hr
  ·rename_i nm k' o n
   split at hr
   ·rename_i k'' kt xs hl
    split at hr
    ·rename_i hc
     obtain⟨rfl,rfl,ho⟩:=hc
     rw[Qfa] at ho
     subst ho
     obtain⟨h1,hr⟩:=qbr hr
     rw[Qb7] at h1
     unfold qbs at h1
     simp only[qvv] at hS
     refine⟨_,hr,?_⟩
     have hmem:S.contains nm=true:=by rw[List.contains_iff_mem,hS];simp
     have hi:S[pre.length]?=some nm:=by rw[hS];simp
     have hidx:S.idxOf nm=pre.length:=by
      have e:S=pre++nm :: []++post:=by rw[hS]
      rw[e];exact Qlg (e ▸ hnd)
     have hob:obs[pre.length]?=some (.arr k 0 xs):=by rw[hobs _ _ hi,hl];rfl
     have hxok:qb8 xs=true:=hσ _ _ hl
     have hsub:(PV.arr nm k 0 n).sub (subH σ S)=.arr nm k 0 n:=by
      simp only[PV.sub,subH,hmem,if_true]
     simp only[KV.pv]
     rw[hsub]
     simp[PV.ren,Qjh,hidx,qjw,hob,qbw,h1,hxok,qvv]
    ·cases hr
   ·cases hr
  ·refine⟨.nilS,hr,?_⟩
   simp[KV.pv,PV.sub,PV.ren,qjw,qvv]
  ·unfold nilO at hr
   split at hr
   ·refine⟨.nilS,hr,?_⟩
    simp[KV.pv,PV.sub,PV.ren,qjw,qvv]
   ·cases hr
  ·cases hr
 | .tup l,x,hx,K,hr,pre,post,hS=>by
  simp only[qsu] at hr
  split at hr
  ·rename_i xs
   simp only[qvv] at hS
   obtain⟨us,h1,h2⟩:=qz4 l xs hx hr pre post hS
   refine⟨_,h1,?_⟩
   simp only[KV.pv,PV.sub,PV.ren,qjw,h2,qvv]
   rfl
  ·cases hr
 | .agg l,x,hx,K,hr,pre,post,hS=>by
  simp only[qsu] at hr
  split at hr
  ·rename_i xs
   simp only[qvv] at hS
   obtain⟨us,h1,h2⟩:=qz4 l xs hx hr pre post hS
   refine⟨_,h1,?_⟩
   simp only[KV.pv,PV.sub,PV.ren,qjw,h2,qvv]
   rfl
  ·cases hr
theorem qz4 {R:Type} {r:R}:∀ (l:List RSh) (xs:List KV),qg2 xs→∀ {K:List PV→Option R},qqp σ S l xs K=some r→∀ (pre post:List Nm),S=pre++qx1 l xs++post →
  ∃ us,K us=some r∧qme obs l pre.length (qjv (Qjh S) (qgc (subH σ S) (pvL xs)))=some (us,pre.length+(qx1 l xs).length)
 | [],[],_,K,hr,pre,post,_=>⟨[],hr,by simp[pvL,qgc,qjv,qme,qx1]⟩
 | [],_ :: _,_,K,hr,_,_,_=>by simp[qqp] at hr
 | _ :: _,[],_,K,hr,_,_,_=>by simp[qqp] at hr
 | s :: l,x :: xs,hx,K,hr,pre,post,hS=>by
  simp only[qqp] at hr
  simp only[qx1] at hS
  obtain⟨u,hr,h1⟩:=Qrm s x hx.1 hr pre (qx1 l xs++post) (by rw[hS];simp[List.append_assoc])
  obtain⟨us,hr,h2⟩:=qz4 l xs hx.2 hr (pre++qvv s x) post (by rw[hS];simp[List.append_assoc])
  refine⟨u :: us,hr,?_⟩
  simp only[pvL,qgc,qjv,qme,h1]
  rw[List.length_append] at h2
  rw[h2]
  simp[qx1,Nat.add_assoc]
end
end hand
theorem own_arr {σ:Nm→Option KOb} {S:List Nm} {R:Type} {r:R}:∀ (sh:RSh) (x:KV) {K:PV→Option R},qsu σ S sh x K=some r→(∀ nm∈qvv sh x,∃ k kt xs,σ nm=some (.arr k kt xs))∧∃ u,K u=some r:=by
 intro sh
 refine RSh.rec (motive_1:=fun sh=>∀ (x:KV) {K:PV→Option R},qsu σ S sh x K=some r→(∀ nm∈qvv sh x,∃ k kt xs,σ nm=some (.arr k kt xs))∧∃ u,K u=some r)
  (motive_2:=fun l=>∀ (xs:List KV) {K:List PV→Option R},qqp σ S l xs K=some r→(∀ nm∈qx1 l xs,∃ k kt ys,σ nm=some (.arr k kt ys))∧∃ us,K us=some r) ?_ ?_ ?_ ?_ ?_ ?_ ?_ sh
 ·intro x K hr
  refine⟨by simp[qvv],?_⟩
  simp only[qsu] at hr
  split at hr
  ·exact⟨_,hr⟩
  ·split at hr
   ·split at hr
    ·exact⟨_,hr⟩
    ·split at hr
     ·exact⟨_,(qbr hr).2⟩
     ·cases hr
   ·split at hr
    ·exact⟨_,(qbr hr).2⟩
    ·cases hr
 ·intro k x K hr
  simp only[qsu] at hr
  split at hr
  ·rename_i nm k' o n
   split at hr
   ·rename_i k'' kt xs hl
    split at hr
    ·exact⟨by simp[qvv,hl],_,(qbr hr).2⟩
    ·cases hr
   ·cases hr
  ·cases hr
 ·intro k x K hr
  simp only[qsu] at hr
  split at hr
  ·rename_i nm k' o n
   split at hr
   ·rename_i k'' kt xs hl
    split at hr
    ·exact⟨by simp[qvv,hl],_,(qbr hr).2⟩
    ·cases hr
   ·cases hr
  ·exact⟨by simp[qvv],_,hr⟩
  ·unfold nilO at hr
   split at hr
   ·exact⟨by simp[qvv],_,hr⟩
   ·cases hr
  ·cases hr
 ·intro l ih x K hr
  simp only[qsu] at hr
  split at hr
  ·rename_i xs
   obtain⟨h1,us,h2⟩:=ih xs hr
   exact⟨by simpa[qvv] using h1,_,h2⟩
  ·cases hr
 ·intro l ih x K hr
  simp only[qsu] at hr
  split at hr
  ·rename_i xs
   obtain⟨h1,us,h2⟩:=ih xs hr
   exact⟨by simpa[qvv] using h1,_,h2⟩
  ·cases hr
 ·intro xs K hr
  cases xs with
  | nil=>exact⟨by simp[qx1],_,hr⟩
  | cons x xs=>simp[qqp] at hr
 ·intro s l ihs ihl xs K hr
  cases xs with
  | nil=>simp[qqp] at hr
  | cons x xs =>
   simp only[qqp] at hr
   obtain⟨h1,u,hr⟩:=ihs x hr
   obtain⟨h2,us,hr⟩:=ihl xs hr
   refine⟨?_,_,hr⟩
   intro nm hm
   simp only[qx1,List.mem_append] at hm
   exact hm.elim (h1 nm) (h2 nm)
theorem qrm (shut:Bool) {v:KV} (h:v.ok):qwd shut v=qr3 shut v.pv:=by
 cases shut with
 | true=>rfl
 | false=>exact ktops_ok h
theorem Qk0 {R:Type} {r:R} (h:ks.Ok) {shut:Bool} {sh:RSh} {v:KV} (hv:v.ok) {K:PV→Option R} (hr:qt2 ks shut sh v K=some r):∃ u rv obs,K u=some r∧qlm shut ks.st v.pv=some (rv,obs)∧qpa sh rv obs=some u:=by
 unfold qt2 at hr
 simp only at hr
 split at hr
 case isFalse=>cases hr
 rename_i hc
 obtain⟨hS,hnd,hdis,hsh⟩:=hc
 have hσ:=qcs h
 obtain⟨harr,_⟩:=own_arr sh v hr
 rw[←hS] at harr
 have hlk:=qd8 h
 obtain⟨obs,hm,hall,hlen,hget⟩:=mapM_look (σ:=qbq ks.st.objs) (S:=qwd shut v) fun nm hm=>by
  obtain⟨k,kt,xs,he⟩:=harr nm hm
  exact⟨.arr k kt xs,by rw[qk3 h,he];rfl,rfl⟩
 have hnd':=Qdt.1 hnd
 obtain⟨u,hu,hconv⟩:=Qrm hσ hnd' (obs:=obs.map Ob.bare) (fun i nm hi=>by rw[List.getElem?_map,hget i nm hi,qk3 h,Option.map_map];rfl) sh v hv hr [] [] (by rw[←hS];simp)
 refine⟨u,(v.pv.sub (subH (qdg ks.objs) (qwd shut v))).ren (Qjh (qwd shut v)),obs.map Ob.bare,hu,?_,?_⟩
 ·have e:(fun nm=>if (qr3 shut v.pv).contains nm=true then none else qcp (qbq ks.st.objs) nm)=subH (qdg ks.objs) (qwd shut v):=by
   funext nm
   unfold subH
   rw[qrm shut hv,hlk]
  rw[qg8 hσ,←hlk] at hdis hsh
  rw[qrn hσ,←hlk] at hsh
  rw[qrm shut hv,←KV.pv_names hv] at hdis hsh
  rw[qrm shut hv] at hnd hm
  unfold qlm
  simp only[hnd,hdis,Bool.and_self,if_true,hm,hsh,hall,chk,e,qrm shut hv]
 ·unfold qpa
  simp only[List.length_nil,Nat.zero_add] at hconv
  rw[hconv]
  simp[qbw,hlen,hS]
theorem Qpa {nt:Nat} {args:List KV} (ha:qg2 args) (hu:∀ x∈args,qsw x=false) (hl:args.length≤nt):({nt,tmps:=args.zipIdx.map fun p=>(p.2,p.1),objs:=[],keep:=[]}:KSt).Ok ∧
  ({nt,tmps:=args.zipIdx.map fun p=>(p.2,p.1),objs:=[],keep:=[]}:KSt).st={tmps:=pvL args++List.replicate (nt - (pvL args).length) .undef,objs:=List.replicate nt [],keep:=[]}:=by
 have hmem:∀ p∈args.zipIdx.map (fun p=>(p.2,p.1)),args[p.1]?=some p.2:=by
  intro p hp
  obtain⟨⟨x,i⟩,hq,rfl⟩:=List.mem_map.1 hp
  rw[List.mem_zipIdx_iff_getElem?] at hq
  exact hq
 have hw:qml nt (args.zipIdx.map fun p=>(p.2,p.1)):=by
  refine⟨?_,?_,?_,?_⟩
  ·rw[List.map_map]
   have:((fun p:Nat×KV=>p.1)∘fun p:KV×Nat=>(p.2,p.1))=Prod.snd:=rfl
   rw[this,List.zipIdx_map_snd]
   exact List.pairwise_lt_range'
  ·intro p hp
   have:=(List.getElem?_eq_some_iff.1 (hmem p hp)).1
   omega
  ·intro p hp;exact qdl.1 ha _ (List.mem_of_getElem? (hmem p hp))
  ·intro p hp;exact hu _ (List.mem_of_getElem? (hmem p hp))
 refine⟨⟨hw,.nil nt,by simp⟩,?_⟩
 unfold KSt.st
 simp only[List.flatMap_nil]
 congr 1
 ·refine qmc (by simp[qfo];omega) fun i hi=>?_
  by_cases hia:i < args.length
  ·rw[List.getElem?_append_left (by rw[qfo];exact hia),pvL_get?,List.getElem?_eq_getElem hia]
   have hp:(i,args[i])∈args.zipIdx.map (fun p=>(p.2,p.1)):=by
    refine List.mem_map.2 ⟨(args[i],i),?_,rfl⟩
    rw[List.mem_zipIdx_iff_getElem?]
    simp[hia]
   rw[show qcn (args.zipIdx.map fun p=>(p.2,p.1)) i=args[i] from hw.get_mem hp]
   rfl
  ·rw[List.getElem?_append_right (by rw[qfo];omega),List.getElem?_replicate,if_pos (by rw[qfo];omega)]
   rw[show qcn (args.zipIdx.map fun p=>(p.2,p.1)) i=.un from qyz fun p hp=>by
    have:=(List.getElem?_eq_some_iff.1 (hmem p hp)).1
    omega]
   rfl
 ·refine qj9 (by simp) fun i hi=>?_
  rw[List.getElem?_replicate,if_pos hi]
  rfl
theorem Qge (hc:qpe cfg tab) {g:FuncId} {fn:RFn} (ht:tab g=some fn) {E:Type} {h:qbk E} {hn:Nat→qbk E} (hh:HOk h hn) {dep:Nat} {sh:RSh} {args:List KV} {e e':E} {u:PV}
  (ha:qg2 args) (hu:∀ x∈args,qsw x=false) (hl:args.length≤fn.nt) (hr:qmk cfg fn sh h dep args e=some (u,e')) :
  ∃ r obs,qpa sh r obs=some u∧Evl fun n=>qbm cfg.b.sp tab n E (hn n) dep g (pvL args) e=some (r,obs,e'):=by
 unfold qmk at hr
 rw[qdm] at hr
 obtain⟨i1,i2⟩:=Qpa ha hu hl
 have hh':HOk h fun n=>hn (n+1):=fun l args e r hq=>by
  obtain⟨a,hb⟩:=hh l args e r hq
  exact⟨a,fun n hn'=>hb (n+1) (by omega)⟩
 obtain⟨x,k1,e1,hr,hk1,hev⟩:=Qhp hc fn.code hh' dep i1 hr
 rw[i2] at hev
 have fin:(qxf k1 fn.res fun vs=>qt2 k1 fn.shut sh (qxh vs) fun v=>some (v,e1))=some (u,e')→(∀ id,x≠.exit id)→∃ r obs,qpa sh r obs=some u∧Evl fun n=>qbm cfg.b.sp tab n E (hn n) dep g (pvL args) e=some (r,obs,e'):=by
  intro hr hx
  obtain⟨vs,hr,hvs,h1⟩:=Qkv hk1 fn.res hr
  obtain⟨o1,o2⟩:=Qkx hvs
  obtain⟨u',rv,obs,hr,h2,h3⟩:=Qk0 hk1 o1 hr
  cases hr
  refine⟨rv,obs,h3,hev.shift.mono ?_⟩
  rintro k ⟨j,rfl,hj⟩
  show qq1 (qmp cfg.b.sp tab j) j tab E (hn (j+1)) dep g (pvL args) e=_
  simp only[qq1,ht]
  simp only[qk6] at hj
  rw[hj]
  cases x with
  | exit id=>exact absurd rfl (hx id)
  | normal=>simp only[h1];rw[←o2,h2]
  | ret=>simp only[h1];rw[←o2,h2]
 cases x with
 | exit id=>cases hr
 | normal=>exact fin hr (by simp)
 | ret=>exact fin hr (by simp)
end Go.Ab


namespace Go.Ab
section
variable {cfg:Qcm} {tab:FuncId→Option RFn}
theorem Ql9:∀ (vs:List PV),pvL (vs.map KV.cv)=vs
 | []=>rfl
 | v :: vs=>by simp[pvL,KV.pv,Ql9 vs]
theorem Qsj {vs:List PV} (h:qb8 vs=true):qg2 (vs.map KV.cv):=qdl.2 fun x hx=>by
 obtain⟨v,hv,rfl⟩:=List.mem_map.1 hx
 exact qfl.1 h v hv
theorem Qsi {vs:List PV}:∀ x∈vs.map KV.cv,qsw x=false:=fun x hx=>by
 obtain⟨v,_,rfl⟩:=List.mem_map.1 hx
 rfl
theorem noH:HOk qbe (fun _=>qbe):=fun _ _ _ _ h=>by cases h
theorem Qpw (hc:qpe cfg tab) {g:FuncId} {fn:RFn} (ht:tab g=some fn) {sh:RSh} {cap args:List PV} {u:PV} (ha:qb8 (args++cap)=true) (hl:(args++cap).length≤fn.nt)
  (hsp:cfg.b.sp g (fun _=>none) (args++cap)=none) (hr:qmk cfg fn sh qbe 0 ((args++cap).map KV.cv) ()=some (u,())) (hio:fn.io=false:=by rfl) (hb:Nat.blt g qho=true:=by rfl):qb6 cfg.b sh (.fn g cap) args=some u:=by
 have hid:qge g=g:=by simp[qge,hb]
 have hfa:qco g args cap=args++cap:=by simp[qco,hb]
 obtain⟨r,obs,h1,h2⟩:=Qge hc ht (hn:=fun _=>qbe) noH (Qsj ha) Qsi (by simpa using hl) hr
 rw[Ql9] at h2
 have hL:cfg.b.L Unit qbe 0 g (args++cap) ()=some (r,obs,()):=by rw[hc.L];exact Qdz h2
 have hfl:cfg.b.isIo g=false:=by rw[hc.isIo];unfold qlf;rw[ht];exact hio
 unfold qb6
 simp only[hid,hfa,spO,hsp,hL,hfl,Bool.false_eq_true,if_false]
 exact h1
theorem Qfu (hc:qpe cfg tab) {g:FuncId} {cap args:List PV} {u:PV} (hsp:cfg.b.sp g (fun _=>none) (args++cap)=some {v:=u}) (hu:okV u=true) (hb:Nat.blt g qho=true:=by rfl):qb6 cfg.b .cl (.fn g cap) args=some u:=by
 have hid:qge g=g:=by simp[qge,hb]
 have hfa:qco g args cap=args++cap:=by simp[qco,hb]
 unfold qb6
 simp[hid,hfa,spO,hsp,hu,qbw,qpa,qjw]
theorem conv_cl {r u:PV} {obs:List Ob} (h:qpa .cl r obs=some u):r=u∧obs=[]∧okV u=true:=by
 unfold qpa at h
 simp only[qjw] at h
 split at h
 ·rename_i r' j hr
  obtain⟨h1,h2⟩:=qbr hr
  cases h2
  obtain⟨h3,h4⟩:=qbr h
  cases h4
  simp only[beq_iff_eq] at h3
  exact⟨rfl,List.length_eq_zero_iff.1 h3.symm,h1⟩
 ·cases h
theorem qgj (hc:qpe cfg tab) {g:FuncId} {fn:RFn} (ht:tab g=some fn) {fr:Bool} {args:List PV} {u:PV} (ha:qb8 args=true) (hl:args.length≤fn.nt)
  (hr:qmk cfg fn .cl qbe 0 (args.map KV.cv) ()=some (u,())) (hfr:(u.free&&!qpr tab g)=fr):qh2 cfg.b .cl fr g args=some u:=by
 obtain⟨r,obs,h1,h2⟩:=Qge hc ht (hn:=fun _=>qbe) noH (Qsj ha) Qsi (by simpa using hl) hr
 rw[Ql9] at h2
 obtain⟨e1,e2,_⟩:=conv_cl h1
 subst e1;subst e2
 have hL:cfg.b.L Unit qbe 0 g args ()=some (r,[],()):=by rw[hc.L];exact Qdz h2
 unfold qh2
 rw[(qb9 ha).2]
 simp only[Bool.false_eq_true,if_false,hL,List.all_nil,Bool.and_true,hc.leans,hfr,beq_self_eq_true,qbw]
 exact h1
theorem law_of_run (hc:qpe cfg tab) {g:FuncId} {fn:RFn} (ht:tab g=some fn) {args:List PV} {b:Bool} (ha:qb8 args=true) (hl:args.length≤fn.nt)
  (hr:qmk cfg fn .cl qbe 0 (args.map KV.cv) ()=some (.bool b,())):∃ n,qbm cfg.b.sp tab n Unit qbe 0 g args ()=some (.bool b,[],()):=by
 obtain⟨r,obs,h1,m,hm⟩:=Qge hc ht (hn:=fun _=>qbe) noH (Qsj ha) Qsi (by simpa using hl) hr
 rw[Ql9] at hm
 obtain⟨e1,e2,_⟩:=conv_cl h1
 subst e1;subst e2
 exact⟨m,hm m (Nat.le_refl _)⟩
end
theorem qrh {σ ρ:Type} {step:σ→Option (Sum σ ρ)} {s0:σ} {r:ρ} (inv:Nat→σ) (N:Nat) (h0:s0=inv 0) (hs:∀ i,i < N→step (inv i)=some (.inl (inv (i+1)))) (he:step (inv N)=some (.inr r)):qcf step s0=some r:=by
 have key:∀ m i,i+m=N→qcf step (inv i)=some r:=by
  intro m
  induction m with
  | zero=>intro i hi;obtain rfl:i=N:=(by omega);exact qc3 he
  | succ m ih=>intro i hi;rw[qc9 (hs i (by omega))];exact ih (i+1) (by omega)
 rw[h0];exact key N 0 (by omega)
@[simp] theorem qba {α β:Type} (a:α) (f:α→Option β):qbb (some a) f=f a:=rfl
@[simp] theorem bindO_none' {α β:Type} (f:α→Option β):qbb none f=none:=rfl
@[simp] theorem qbg {β:Type} (a:Option β):qbw true a=a:=rfl
@[simp] theorem chkO_false {β:Type} (a:Option β):qbw false a=none:=rfl
@[simp] theorem qb1 {β:Type} (b:Bool) (x y:Option β):qdu (.bool b) x y=if b=true then x else y:=by cases b<;>rfl
@[simp] theorem Qla {β:Type} (b:Bool) (x y:Option β):iteB b x y=if b=true then x else y:=by cases b<;>rfl
theorem qb5 {β:Type} (x y:Option β):qdu (.bool true) x y=x:=rfl
theorem qbv {β:Type} (x y:Option β):qdu (.bool false) x y=y:=rfl
section pure
variable {c:TC} {cst:Bool} {k:IntKind}
@[simp] theorem pure_add (a b:Int):qbd (.bin .add c cst (.c (.int k a)) (.c (.int k b)))=some (.int k (k.wrap (a+b))):=by simp[qbd,exec,RX.ev,qnf,chk,qm6]
@[simp] theorem pure_sub (a b:Int):qbd (.bin .sub c cst (.c (.int k a)) (.c (.int k b)))=some (.int k (k.wrap (a - b))):=by simp[qbd,exec,RX.ev,qnf,chk,qm6]
@[simp] theorem pure_mul (a b:Int):qbd (.bin .mul c cst (.c (.int k a)) (.c (.int k b)))=some (.int k (k.wrap (a*b))):=by simp[qbd,exec,RX.ev,qnf,chk,qm6]
@[simp] theorem pure_eql (a b:Int):qbd (.bin .eql c cst (.c (.int k a)) (.c (.int k b)))=some (.bool (a==b)):=by simp[qbd,exec,RX.ev,qnf,chk,qm6,qxu]
@[simp] theorem pure_neq (a b:Int):qbd (.bin .neq c cst (.c (.int k a)) (.c (.int k b)))=some (.bool (a != b)):=by simp[qbd,exec,RX.ev,qnf,chk,qm6,qxu]
@[simp] theorem Qqr (a b:Int):qbd (.bin .lss c cst (.c (.int k a)) (.c (.int k b)))=some (.bool (decide (a < b))):=by simp[qbd,exec,RX.ev,qnf,chk,qm6,qxu]
@[simp] theorem pure_leq (a b:Int):qbd (.bin .leq c cst (.c (.int k a)) (.c (.int k b)))=some (.bool (decide (a≤b))):=by simp[qbd,exec,RX.ev,qnf,chk,qm6,qxu]
@[simp] theorem Qqs (a b:Int):qbd (.bin .gtr c cst (.c (.int k a)) (.c (.int k b)))=some (.bool (decide (b < a))):=by simp[qbd,exec,RX.ev,qnf,chk,qm6,qxu]
@[simp] theorem pure_geq (a b:Int):qbd (.bin .geq c cst (.c (.int k a)) (.c (.int k b)))=some (.bool (decide (b≤a))):=by simp[qbd,exec,RX.ev,qnf,chk,qm6,qxu]
@[simp] theorem pure_eqs (a b:List UInt8):qbd (.bin .eql c cst (.c (.str a)) (.c (.str b)))=some (.bool (a==b)):=by simp[qbd,exec,RX.ev,qnf,qxx]
@[simp] theorem pure_nes (a b:List UInt8):qbd (.bin .neq c cst (.c (.str a)) (.c (.str b)))=some (.bool (!(a==b))):=by simp[qbd,exec,RX.ev,qnf,qxx]
@[simp] theorem pure_eqb (a b:Bool):qbd (.bin .eql .bool cst (.c (.bool a)) (.c (.bool b)))=some (.bool (a==b)):=by simp[qbd,exec,RX.ev,qnf,Qhq]
@[simp] theorem pure_neb (a b:Bool):qbd (.bin .neq .bool cst (.c (.bool a)) (.c (.bool b)))=some (.bool (!(a==b))):=by simp[qbd,exec,RX.ev,qnf,Qhq]
@[simp] theorem qmv (b:Bool):qbd (.un .not (.c (.bool b)))=some (.bool (!b)):=rfl
@[simp] theorem pure_neg (n:Int):qbd (.un .neg (.c (.int k n)))=some (.int k (k.wrap (0 - n))):=rfl
@[simp] theorem pure_conv {k':IntKind} (n:Int):qbd (.conv k (.c (.int k' n)))=some (.int k (k.wrap n)):=rfl
@[simp] theorem qze (s:List UInt8):qbd (.len .str (.c (.str s)))=some (.int .i64 (s.length:Int)):=rfl
@[simp] theorem qg6 {j:Nat} (xs:List PV) (f:Bool):qbd (.len .slice (.c (.sl j xs f)))=some (.int .i64 (xs.length:Int)):=rfl
@[simp] theorem pure_lenn:qbd (.len .slice (.c .nilS))=some (.int .i64 0):=rfl
@[simp] theorem pure_tup (j:Nat) (xs:List PV):qbd (.extract j (.c (.tup xs)))=xs[j]?:=by
 simp only[qbd,exec,RX.ev];cases xs[j]?<;>rfl
@[simp] theorem pure_load {n o:Nat} {ag:Bool} (cs:List PV):qbd (.load n ag (.c (.ptr cs o)))=sel cs o n ag:=by
 simp only[qbd,exec,RX.ev];cases sel cs o n ag<;>rfl
@[simp] theorem pure_field {n o:Nat} {ag:Bool} (cs:List PV):qbd (.field o n ag (.c (.agg cs)))=sel cs o n ag:=by
 simp only[qbd,exec,RX.ev];cases sel cs o n ag<;>rfl
@[simp] theorem pure_nilck (cs:List PV) (o:Nat):qbd (.nilck (.c (.ptr cs o)))=some (.ptr cs o):=rfl
@[simp] theorem pure_nilckf (f:Nat) (cs:List PV):qbd (.nilck (.c (.fn f cs)))=some (.fn f cs):=rfl
@[simp] theorem pure_faddr {off o:Nat} (cs:List PV):qbd (.fieldAddr off (.c (.ptr cs o)))=if o+off < cs.length then some (.ptr cs (o+off)) else none:=by
 by_cases hq:o+off < cs.length<;>simp[qbd,exec,RX.ev,chk,hq]
theorem qhm {xs:List PV} {j n:Nat} {f:Bool} {v:PV} (hn:0 < n) (h:xs[j]?=some v):qbd (.idxAddr n (.c (.sl n xs f)) (.c (.int k (j:Int))))=some (.ptr v.cells 0):=by
 simp[qbd,exec,RX.ev,qj2,h,chk,hn]
theorem pure_ssl2 {s:List UInt8} {h:Nat} (hh:h≤s.length):qbd (.strSlice (.c (.str s)) none (some (.c (.int k (h:Int)))))=some (.str (s.take h)):=by
 simp[qbd,exec,RX.ev,evO,qkc,qj2,chk,hh]
end pure
@[simp] theorem sel_one (v:PV):sel [v] 0 1 false=some v:=rfl
@[simp] theorem cells_int (k:IntKind) (n:Int):(PV.int k n).cells=[.int k n]:=rfl
@[simp] theorem cells_str (s:List UInt8):(PV.str s).cells=[.str s]:=rfl
@[simp] theorem cells_bool (b:Bool):(PV.bool b).cells=[.bool b]:=rfl
@[simp] theorem qpd (cs:List PV):(PV.agg cs).cells=cs:=rfl
@[simp] theorem qdb (a b:Nat):qcq a b=a+b:=rfl
@[simp] theorem subN_eq (a b:Nat):subN a b=a - b:=rfl
@[simp] theorem minN_eq (a b:Nat):minN a b=min a b:=rfl
@[simp] theorem qdq (l:List PV):qbs l=l.length:=rfl
@[simp] theorem qcy (n:Nat) (l:List PV):qbu n l=l.take n:=rfl
@[simp] theorem qdn (n:Nat) (l:List PV):qb4 n l=l.drop n:=rfl
@[simp] theorem qd9 (l m:List PV):qmh l m=l++m:=rfl
@[simp] theorem replL_eq (n:Nat) (v:PV):qmn n v=List.replicate n v:=rfl
@[simp] theorem qby (k:Nat) (xs:List PV) (f:Bool):qbc (.sl k xs f)=xs:=rfl
@[simp] theorem natP_int (k:IntKind) (n:Int):qbi (.int k n)=n.toNat:=rfl
@[simp] theorem nI_eq (n:Nat):nI n=.int .i64 (n:Int):=rfl
@[simp] theorem qfa (a b:Bool):qrx a b=(a&&b):=rfl
@[simp] theorem qgy (a b:Nat):leN a b=decide (a≤b):=by
 rw[Bool.eq_iff_iff,qz1,decide_eq_true_iff]
@[simp] theorem qqm (a b:Nat):ltN a b=decide (a < b):=by
 rw[Bool.eq_iff_iff,qwc,decide_eq_true_iff]
@[simp] theorem eqN_eq (a b:Nat):eqN a b=decide (a=b):=by
 rw[Bool.eq_iff_iff,Qb7,decide_eq_true_iff]
@[simp] theorem qc8 (x:PV) (l:List PV):nth (x :: l) 0=x:=rfl
@[simp] theorem qc4 (a x:PV) (l:List PV):nth (a :: x :: l) 1=x:=rfl
@[simp] theorem qc2 (a b x:PV) (l:List PV):nth (a :: b :: x :: l) 2=x:=rfl
@[simp] theorem qde (a b c x:PV) (l:List PV):nth (a :: b :: c :: x :: l) 3=x:=rfl
@[simp] theorem qfg (a b c d x:PV) (l:List PV):nth (a :: b :: c :: d :: x :: l) 4=x:=rfl
@[simp] theorem qgr (a b c d e x:PV) (l:List PV):nth (a :: b :: c :: d :: e :: x :: l) 5=x:=rfl
@[simp] theorem qh1 (a b c d e f x:PV) (l:List PV):nth (a :: b :: c :: d :: e :: f :: x :: l) 6=x:=rfl
@[simp] theorem qjl (a b c d e f g x:PV) (l:List PV):nth (a :: b :: c :: d :: e :: f :: g :: x :: l) 7=x:=rfl
@[simp] theorem ql3 (a b c d e f g h x:PV) (l:List PV):nth (a :: b :: c :: d :: e :: f :: g :: h :: x :: l) 8=x:=rfl
@[simp] theorem selO_eq (v:PV) (o n:Nat) (ag:Bool):Qmy v o n ag=sel v.cells o n ag:=rfl
@[simp] theorem natO_int (k:IntKind) (n:Nat):qr6 (.int k (n:Int))=some n:=by simp[qr6,qj2]
end Go.Ab


namespace Go.Ab
section
variable {cfg:Qcm} {tab:FuncId→Option RFn}
theorem kisUn_eq {x:KV} (h:kisUn x=false):qsw x=false:=by cases x<;>first | rfl | cases h
theorem evalDK_ok (hc:qpe cfg tab) {nt:Nat}:∀ (c:qdr) {R:Type} {ks:KSt} {K:Ex→KSt→List Nat→Option R} {r:R},ks.Ok→qlg cfg nt c ks K=some r →
  ∃ x k' l,K x k' l=some r∧k'.Ok∧Evl fun n=>qcw (qk6 cfg.b.sp tab n) n nt c ks.st=some (x,k'.st,l):=by
 intro c
 induction c with
 | dreg ops f args lv =>
  intro R ks K r hk hr
  simp only[qlg] at hr
  rw[qdm] at hr
  obtain⟨c1,c2,_⟩:=qnx hk (qs7 ops)
  obtain⟨k1,e1,hr,hk1,h1⟩:=Qg4 (hn:=fun _=>qbe) (dep:=0) hc noH ops c2 hr
  split at hr
  case isFalse=>cases hr
  rename_i hcd
  obtain⟨a1,a2,a3,a4⟩:=hcd
  rw[qdm] at hr
  simp only[Bool.and_eq_true] at a2
  have hle:args.length+1≤nt:=Nat.le_of_ble_eq_true a2.1
  have hnt:k1.nt=nt:=Nat.eq_of_beq_eq_true a2.2
  have hxf:okX f=true:=List.all_eq_true.1 a3 f (by simp)
  have hxa:args.all okX=true:=List.all_eq_true.2 fun x hm=>List.all_eq_true.1 a3 x (by simp[hm])
  have hfo:=kv_ok hk1 hxf
  have hao:=qzv hk1 hxa
  have hfe:=qvz hk1 f
  have hae:args.map (RX.ev k1.st.tmps)=pvL (args.map (RX.kv k1.tmps)):=qql hk1 args
  generalize hxs:f.kv k1.tmps :: args.map (RX.kv k1.tmps)=xs at hr a4
  have hlen:xs.length=args.length+1:=by rw[←hxs];simp
  have hok:qg2 xs:=by rw[←hxs];exact⟨hfo,hao⟩
  have hpv:pvL xs=f.ev k1.st.tmps :: args.map (RX.ev k1.st.tmps):=by rw[←hxs,hfe,hae];rfl
  obtain⟨i1,i2⟩:=Qpa (nt:=nt) hok (fun x hx=>kisUn_eq (by
   rw[List.any_eq_false] at a4
   simpa using a4 x hx)) (by omega)
  have e1:qd2 nt (xs.zipIdx.map fun p=>(p.2,p.1))=pvL xs++List.replicate (nt - (pvL xs).length) .undef:=congrArg St.tmps i2
  have hk2:({k1 with keep:=(xs.zipIdx.map fun p=>(p.2,p.1)) :: k1.keep}:KSt).Ok:=⟨hk1.tm,hk1.ob,fun sp hsp=>by
   rcases List.mem_cons.1 hsp with rfl | hsp
   ·rw[hnt];exact i1.tm
   ·exact hk1.kp sp hsp⟩
  have hst2:({k1 with keep:=(xs.zipIdx.map fun p=>(p.2,p.1)) :: k1.keep}:KSt).st=pushD nt (f.ev k1.st.tmps :: args.map (RX.ev k1.st.tmps)) k1.st:=by
   rw[←hpv]
   unfold pushD KSt.st
   simp only[List.flatMap_cons]
   rw[hnt,e1]
  obtain⟨t1,t2⟩:=qyd hk2 lv
  have hfn:isFn (f.ev k1.st.tmps)=true:=by
   rw[hfe]
   cases hq:f.kv k1.tmps with
   | fn g cap=>rfl
   | _=>rw[hq] at a1;cases a1
  refine⟨_,_,_,hr,t2,h1.mono fun n hn'=>?_⟩
  rw[c1] at hn'
  simp only[qcw,hn',t1,hst2,chk,hfn,Bool.and_true,decide_eq_true_eq,if_pos hle]
 | seq a b iha ihb =>
  intro R ks K r hk hr
  simp only[qlg] at hr
  obtain⟨x,k1,l,hr,hk1,h1⟩:=iha hk hr
  cases x with
  | normal =>
   obtain⟨x2,k2,l2,hr,hk2,h2⟩:=ihb hk1 hr
   exact⟨_,_,_,hr,hk2,h1.mono2 h2 fun n a b=>by simp only[qcw,a,b]⟩
  | exit id=>exact⟨_,_,_,hr,hk1,h1.mono fun n a=>by simp only[qcw,a]⟩
  | ret=>exact⟨_,_,_,hr,hk1,h1.mono fun n a=>by simp only[qcw,a]⟩
 | cond c a b iha ihb =>
  intro R ks K r hk hr
  simp only[qlg] at hr
  have hev:=qvz hk c
  split at hr
  ·rename_i hv
   obtain⟨x,k1,e1,hr,hk1,h1⟩:=iha hk hr
   exact⟨_,_,_,hr,hk1,h1.mono fun n a=>by simp only[qcw,hev,hv,KV.pv,a]⟩
  ·rename_i hv
   obtain⟨x,k1,e1,hr,hk1,h1⟩:=ihb hk hr
   exact⟨_,_,_,hr,hk1,h1.mono fun n a=>by simp only[qcw,hev,hv,KV.pv,a]⟩
  ·rename_i v hv
   rcases qt3 hr with ⟨rfl,hr⟩ | ⟨rfl,hr⟩
   ·obtain⟨x,k1,e1,hr,hk1,h1⟩:=iha hk hr
    exact⟨_,_,_,hr,hk1,h1.mono fun n a=>by simp only[qcw,hev,hv,KV.pv,a]⟩
   ·obtain⟨x,k1,e1,hr,hk1,h1⟩:=ihb hk hr
    exact⟨_,_,_,hr,hk1,h1.mono fun n a=>by simp only[qcw,hev,hv,KV.pv,a]⟩
  ·cases hr
 | block id b ih =>
  intro R ks K r hk hr
  simp only[qlg] at hr
  obtain⟨x,k1,l,hr,hk1,h1⟩:=ih hk hr
  cases x with
  | normal=>exact⟨_,_,_,hr,hk1,h1.mono fun n a=>by simp only[qcw,a]⟩
  | ret=>exact⟨_,_,_,hr,hk1,h1.mono fun n a=>by simp only[qcw,a]⟩
  | exit id' =>
   simp only at hr
   split at hr
   ·rename_i hid;exact⟨_,_,_,hr,hk1,h1.mono fun n a=>by simp only[qcw,a,hid,if_true]⟩
   ·rename_i hid;exact⟨_,_,_,hr,hk1,h1.mono fun n a=>by simp only[qcw,a,hid,if_false]⟩
 | scope b ih =>
  intro R ks K r hk hr
  simp only[qlg] at hr
  split at hr
  ·cases hr
  rename_i hlb
  obtain⟨x,k1,l,hr,hk1,h1⟩:=ih hk hr
  cases x with
  | normal=>exact⟨_,_,_,hr,hk1,h1.mono fun n a=>by simp only[qcw,a,hlb,if_false,Bool.false_eq_true]⟩
  | ret=>exact⟨_,_,_,hr,hk1,h1.mono fun n a=>by simp only[qcw,a,hlb,if_false,Bool.false_eq_true]⟩
  | exit id' =>
   simp only at hr
   split at hr
   ·rename_i hid;exact⟨_,_,_,hr,hk1,h1.mono fun n a=>by simp only[qcw,a,hlb,hid,if_true,if_false,Bool.false_eq_true]⟩
   ·cases hr
 | _ =>
  intro R ks K r hk hr
  simp only[qlg] at hr
  obtain⟨x,k1,e1,hr,hk1,h1⟩:=Qhp hc _ (h:=qbe) (hn:=fun _=>qbe) noH 0 hk hr
  exact⟨_,_,_,hr,hk1,h1.mono fun n a=>by simp only[qcw,a,qst]⟩
theorem dfrsK_ok (hc:qpe cfg tab) {nt:Nat} {R:Type}:∀ (l:List Nat) {ks:KSt} {K:KSt→Option R} {r:R},ks.Ok→dfrsK cfg nt l ks K=some r →
  ∃ k',K k'=some r∧k'.Ok∧Evl fun n=>Qsh (qk6 cfg.b.sp tab n) nt l ks.st=some k'.st:=by
 intro l
 induction l with
 | nil=>intro ks K r hk hr;exact⟨ks,hr,hk,.of fun n=>rfl⟩
 | cons n l ih =>
  intro ks K r hk hr
  simp only[dfrsK] at hr
  split at hr
  ·cases hr
  rename_i sp kp hkeep
  split at hr
  case h_2=>cases hr
  rename_i f caps hget
  split at hr
  case h_2=>cases hr
  rename_i P hP
  split at hr
  case isFalse=>cases hr
  rename_i hcd
  obtain⟨b1,b2,b3⟩:=hcd
  simp only[Bool.and_eq_true] at b2
  have hle:n+1≤nt:=Nat.le_of_ble_eq_true b2.1
  have hnt:ks.nt=nt:=Nat.eq_of_beq_eq_true b2.2
  have hsp:qml nt sp:=by rw[←hnt];exact hk.kp sp (by rw[hkeep];exact List.mem_cons_self)
  have hcaps:qg2 caps:=by
   have:=hsp.get_ok 0
   rw[hget] at this
   exact this
  have hargs:qg2 ((List.range n).map fun j=>qcn sp (j+1)):=qdl.2 fun x hx=>by
   obtain⟨j,_,rfl⟩:=List.mem_map.1 hx
   exact hsp.get_ok _
  obtain⟨out,hr,ho,hspf,hev⟩:=Qd9 hc hk b3 (Qd7 (f:=f) hargs hcaps) hP hr
  split at hr
  case isFalse=>cases hr
  rename_i hnew
  rw[qdm] at hr
  have hk2:({ks with keep:=kp}:KSt).Ok:=⟨hk.tm,hk.ob,fun sp' h=>hk.kp sp' (by rw[hkeep];exact List.mem_cons_of_mem _ h)⟩
  obtain⟨s1,s2⟩:=qsv (ks:={ks with keep:=kp}) hk2 (by show (_||qkq ks.objs)=true;rw[b3];simp) none ho
  obtain⟨k',hr,hk',h2⟩:=ih s2 hr
  have hkp:ks.st.keep=qd2 nt sp++kp.flatMap (qd2 nt):=by
   show ks.keep.flatMap (qd2 ks.nt)=_
   rw[hkeep,hnt];rfl
  have hget0:ks.st.keep.getD 0 .undef=.fn f (pvL caps):=by
   have:(qd2 nt sp)[0]?=some (KV.fn f caps).pv:=by rw[dense_get?,if_pos (by omega),hget]
   rw[hkp,List.getD_eq_getElem?_getD,List.getElem?_append_left (by rw[qca];omega),this]
   rfl
  have htake:(ks.st.keep.drop 1).take n=pvL ((List.range n).map fun j=>qcn sp (j+1)):=by
   rw[hkp,qg5,List.map_map]
   apply List.ext_getElem?
   intro j
   rw[List.getElem?_take,List.getElem?_drop,List.getElem?_map]
   by_cases hj:j < n
   ·rw[if_pos hj,List.getElem?_append_left (by rw[qca];omega),dense_get?,if_pos (by omega),List.getElem?_range hj]
    simp[Nat.add_comm]
   ·rw[if_neg hj,List.getElem?_eq_none (by simp;omega)]
    rfl
  have hdrop:({ks with keep:=kp}:KSt).st={ks.st with keep:=ks.st.keep.drop nt}:=by
   rw[hkp,List.drop_left' (qca nt sp)]
   unfold KSt.st
   simp only[hnt]
  have hvs:qco f ((ks.st.keep.drop 1).take n) (pvL caps)=pvL (qna f ((List.range n).map fun j=>qcn sp (j+1)) caps):=by rw[htake,Qd6]
  have hflag:qlf tab (qge f)=true:=by rw[←hc.ioF,hP];rfl
  have hflat:qm3 tab (qge f)=true:=hc.flat _ b1
  have hnew':(out.out.new.isEmpty||out.out.slot.isSome)=true:=by
   simp only[qcd.out]
   have:(out.new.map KOb.ob).isEmpty=out.new.isEmpty:=by cases out.new<;>rfl
   rw[this];exact hnew
  rw[s1,hdrop] at h2
  refine⟨k',hr,hk',hev.mono2 h2 fun m a b=>?_⟩
  simp only[Qsh,hget0,hvs,qmw,qrg,machN_flat,hc.spF _ hspf,hflag,hflat,Bool.and_true,if_true,a,chk,hnew',b]
end
end Go.Ab

