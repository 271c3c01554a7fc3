/-
  Part 4 of a proof: a machine of our own for the given program, its laws, and what it says of the program. Nothing here is a claim by itself.
-/
import Derived.Test.YtbeonejdegijfaaGreatDoorK03
import Derived.Test.YtbeonejdegijfaaGreatDoorK01
set_option linter.all false

namespace Go.Ab
theorem qcr {i j:Nat} (h:Nat.beq i j=true):i=j:=Nat.eq_of_beq_eq_true h
theorem qfv {i j:Nat} (h:Nat.beq i j=false):i≠j:=Nat.ne_of_beq_eq_false h
theorem qw8 (i:Nat) (v:KV):∀ (l:Sp) (j:Nat),qcg (qjj i v l) j=if j=i then v else qcg l j:=by
 intro l
 induction l with
 | nil =>
  intro j
  simp only[qjj,qcg]
  cases h:Nat.beq j i with
  | true=>simp[qcr h]
  | false=>simp[qfv h]
 | cons p l ih =>
  obtain⟨k,u⟩:=p
  intro j
  simp only[qjj]
  cases h:Nat.beq i k with
  | true =>
   have:=qcr h;subst this
   simp only[qcg]
   cases h2:Nat.beq j i with
   | true=>simp[qcr h2]
   | false=>simp[qfv h2]
  | false =>
   cases h3:Nat.blt i k with
   | true =>
    simp only[qcg]
    cases h2:Nat.beq j i with
    | true=>simp[qcr h2]
    | false=>simp[qfv h2]
   | false =>
    simp only[qcg]
    cases h2:Nat.beq j k with
    | true =>
     have h4:=qcr h2;have h5:=qfv h
     subst h4
     simp[Ne.symm h5]
    | false=>exact ih j
theorem spGet_out (i:Nat):∀ (l:Sp) (j:Nat),qcg (Qfq i l) j=if j=i then .un else qcg l j:=by
 intro l
 induction l with
 | nil=>intro j;simp[Qfq,qcg]
 | cons p l ih =>
  obtain⟨k,u⟩:=p
  intro j
  simp only[Qfq]
  cases h:Nat.beq i k with
  | true =>
   have:=qcr h;subst this
   simp only[qcg]
   rw[ih j]
   cases h2:Nat.beq j i with
   | true=>simp[qcr h2]
   | false=>simp[qfv h2]
  | false =>
   simp only[qcg]
   cases h2:Nat.beq j k with
   | true =>
    have h4:=qcr h2;have h5:=qfv h
    subst h4
    simp[Ne.symm h5]
   | false=>exact ih j
theorem spGet_set (i:Nat) (v:KV) (l:Sp) (j:Nat):qcg (spSet i v l) j=if j=i then v else qcg l j:=by
 unfold spSet
 split
 ·exact spGet_out i l j
 ·exact qw8 i v l j
theorem spGet_keep (p:Nat→Bool):∀ (l:Sp) (j:Nat),qcg (qkr p l) j=if p j=true then qcg l j else .un:=by
 intro l
 induction l with
 | nil=>intro j;simp[qkr,qcg]
 | cons q l ih =>
  obtain⟨k,u⟩:=q
  intro j
  simp only[qkr]
  cases hp:p k with
  | true =>
   simp only[qcg]
   cases h2:Nat.beq j k with
   | true=>have:=qcr h2;subst this;simp[hp]
   | false=>exact ih j
  | false =>
   simp only[qcg]
   rw[ih j]
   cases h2:Nat.beq j k with
   | true=>have:=qcr h2;subst this;simp[hp]
   | false=>rfl
def qn6:KV→Bool
 | .un=>true
 | _=>false
structure qla (nt:Nat) (l:Sp):Prop where
 srt:(l.map (·.1)).Pairwise (· < ·)
 lt:∀ p∈l,p.1 < nt
 ok:∀ p∈l,p.2.ok
 nu:∀ p∈l,qn6 p.2=false
theorem qla.nil (nt:Nat):qla nt []:=⟨.nil,by simp,by simp,by simp⟩
theorem qla.tail {nt:Nat} {p:Nat×KV} {l:Sp} (h:qla nt (p :: l)):qla nt l :=
 ⟨(List.pairwise_cons.1 h.srt).2,fun q hq=>h.lt q (by simp[hq]),fun q hq=>h.ok q (by simp[hq]),fun q hq=>h.nu q (by simp[hq])⟩
theorem qw9 {l:Sp} {i:Nat} (h:∀ p∈l,p.1≠i):qcg l i=.un:=by
 induction l with
 | nil=>rfl
 | cons p l ih =>
  obtain⟨k,u⟩:=p
  simp only[qcg]
  cases h2:Nat.beq i k with
  | true=>exact absurd (qcr h2).symm (h (k,u) (by simp))
  | false=>exact ih fun q hq=>h q (by simp[hq])
theorem qla.get_mem {nt:Nat} {l:Sp} (h:qla nt l) {p:Nat×KV} (hp:p∈l):qcg l p.1=p.2:=by
 induction l with
 | nil=>cases hp
 | cons q l ih =>
  obtain⟨k,u⟩:=q
  simp only[qcg]
  rcases List.mem_cons.1 hp with rfl | hp'
  ·simp
  ·have h1:=(List.pairwise_cons.1 h.srt).1 p.1 (List.mem_map.2 ⟨p,hp',rfl⟩)
   simp only at h1
   cases h2:Nat.beq p.1 k with
   | true=>have:=qcr h2;omega
   | false=>exact ih h.tail hp'
theorem qnm {l:Sp} {i:Nat} (h:qcg l i≠.un):(i,qcg l i)∈l:=by
 induction l with
 | nil=>exact absurd rfl h
 | cons p l ih =>
  obtain⟨k,u⟩:=p
  simp only[qcg] at h ⊢
  cases h2:Nat.beq i k with
  | true=>have:=qcr h2;subst this;simp
  | false=>rw[h2] at h;simp only at h ⊢;exact List.mem_cons_of_mem _ (ih h)
theorem Qmc (x:KV):x=.un∨x≠.un:=by cases x<;>simp
theorem qla.get_ok {nt:Nat} {l:Sp} (h:qla nt l) (i:Nat):(qcg l i).ok:=by
 rcases Qmc (qcg l i) with h1 | h1
 ·rw[h1];trivial
 ·exact h.ok _ (qnm h1)
theorem qla.get_ge {nt:Nat} {l:Sp} (h:qla nt l) {i:Nat} (hi:nt≤i):qcg l i=.un:=by
 rcases Qmc (qcg l i) with h1 | h1
 ·exact h1
 ·have:=h.lt _ (qnm h1);simp only at this;omega
theorem qrr {i:Nat} {v:KV}:∀ {l:Sp} {p:Nat×KV},p∈qjj i v l→p=(i,v)∨p∈l:=by
 intro l
 induction l with
 | nil=>intro p hp;simp[qjj] at hp;exact .inl hp
 | cons q l ih =>
  obtain⟨k,u⟩:=q
  intro p hp
  simp only[qjj] at hp
  cases h:Nat.beq i k with
  | true =>
   rw[h] at hp;simp only[List.mem_cons] at hp ⊢
   rcases hp with rfl | hp
   ·exact .inl rfl
   ·exact .inr (.inr hp)
  | false =>
   rw[h] at hp
   cases h3:Nat.blt i k with
   | true =>
    rw[h3] at hp;simp only[List.mem_cons] at hp ⊢
    rcases hp with rfl | hp | hp
    ·exact .inl rfl
    ·exact .inr (.inl hp)
    ·exact .inr (.inr hp)
   | false =>
    rw[h3] at hp;simp only[List.mem_cons] at hp ⊢
    rcases hp with rfl | hp
    ·exact .inr (.inl rfl)
    ·exact (ih hp).imp id .inr
theorem spPut_srt {i:Nat} {v:KV}:∀ {l:Sp},(l.map (·.1)).Pairwise (· < ·)→((qjj i v l).map (·.1)).Pairwise (· < ·):=by
 intro l
 induction l with
 | nil=>intro _;simp[qjj]
 | cons q l ih =>
  obtain⟨k,u⟩:=q
  intro h
  have h1:=List.pairwise_cons.1 h
  simp only[qjj]
  cases h2:Nat.beq i k with
  | true =>
   have:=qcr h2;subst this
   exact List.pairwise_cons.2 ⟨h1.1,h1.2⟩
  | false =>
   cases h3:Nat.blt i k with
   | true =>
    have h4:i < k:=by simpa[Nat.blt_eq] using h3
    refine List.pairwise_cons.2 ⟨fun a ha=>?_,h⟩
    simp only[List.map_cons,List.mem_cons] at ha
    rcases ha with rfl | ha
    ·exact h4
    ·exact Nat.lt_trans h4 (h1.1 a ha)
   | false =>
    have h5:=qfv h2
    have h4:¬ i < k:=by intro h6;rw[show Nat.blt i k=true by simpa[Nat.blt_eq] using h6] at h3;cases h3
    refine List.pairwise_cons.2 ⟨fun a ha=>?_,ih h1.2⟩
    obtain⟨p,hp,rfl⟩:=List.mem_map.1 ha
    rcases qrr hp with rfl | hp
    ·simp only;omega
    ·exact h1.1 _ (List.mem_map.2 ⟨p,hp,rfl⟩)
theorem qla.put {nt:Nat} {l:Sp} (h:qla nt l) {i:Nat} (hi:i < nt) {v:KV} (hv:v.ok) (hu:qn6 v=false):qla nt (qjj i v l) where
 srt:=spPut_srt h.srt
 lt p hp:=(qrr hp).elim (fun e=>by rw[e];exact hi) (h.lt p)
 ok p hp:=(qrr hp).elim (fun e=>by rw[e];exact hv) (h.ok p)
 nu p hp:=(qrr hp).elim (fun e=>by rw[e];exact hu) (h.nu p)
theorem spOut_sub (i:Nat):∀ (l:Sp),(Qfq i l).Sublist l:=by
 intro l
 induction l with
 | nil=>exact .slnil
 | cons q l ih =>
  obtain⟨k,u⟩:=q
  simp only[Qfq]
  cases Nat.beq i k with
  | true=>exact .cons _ ih
  | false=>exact .cons_cons _ ih
theorem spKeep_sub (p:Nat→Bool):∀ (l:Sp),(qkr p l).Sublist l:=by
 intro l
 induction l with
 | nil=>exact .slnil
 | cons q l ih =>
  obtain⟨k,u⟩:=q
  simp only[qkr]
  cases p k with
  | true=>exact .cons_cons _ ih
  | false=>exact .cons _ ih
theorem qla.sub {nt:Nat} {l l':Sp} (h:qla nt l) (hs:l'.Sublist l):qla nt l' :=
 ⟨h.srt.sublist (hs.map _),fun p hp=>h.lt p (hs.subset hp),fun p hp=>h.ok p (hs.subset hp),fun p hp=>h.nu p (hs.subset hp)⟩
theorem qla.set {nt:Nat} {l:Sp} (h:qla nt l) {i:Nat} (hi:i < nt) {v:KV} (hv:v.ok):qla nt (spSet i v l):=by
 unfold spSet
 split
 ·exact h.sub (spOut_sub i l)
 ·rename_i hu
  refine h.put hi hv ?_
  cases v<;>simp_all [qn6]
theorem spMap_keys (f:KV→KV):∀ (l:Sp),((qlb f l).map (·.1)).Sublist (l.map (·.1)):=by
 intro l
 induction l with
 | nil=>exact .slnil
 | cons q l ih =>
  obtain⟨k,u⟩:=q
  simp only[qlb]
  split
  ·exact .cons _ ih
  ·exact .cons_cons _ ih
theorem qrs {f:KV→KV}:∀ {l:Sp} {p:Nat×KV},p∈qlb f l→∃ q∈l,p=(q.1,f q.2)∧qn6 p.2=false:=by
 intro l
 induction l with
 | nil=>intro p hp;cases hp
 | cons q l ih =>
  obtain⟨k,u⟩:=q
  intro p hp
  simp only[qlb] at hp
  split at hp
  ·obtain⟨q,hq,h⟩:=ih hp;exact⟨q,by simp[hq],h⟩
  ·rename_i hne
   rcases List.mem_cons.1 hp with rfl | hp
   ·exact⟨(k,u),by simp,rfl,by cases hf:f u<;>simp_all [qn6]⟩
   ·obtain⟨q,hq,h⟩:=ih hp;exact⟨q,by simp[hq],h⟩
theorem qla.map {nt:Nat} {l:Sp} (h:qla nt l) {f:KV→KV} (hf:∀ x:KV,x.ok→(f x).ok):qla nt (qlb f l) where
 srt:=h.srt.sublist (spMap_keys f l)
 lt p hp:=by obtain⟨q,hq,rfl,_⟩:=qrs hp;exact h.lt q hq
 ok p hp:=by obtain⟨q,hq,rfl,_⟩:=qrs hp;exact hf _ (h.ok q hq)
 nu p hp:=by obtain⟨q,hq,_,h⟩:=qrs hp;exact h
theorem Qfr {nt:Nat} {f:KV→KV} (hf:f .un=.un):∀ {l:Sp} (_:qla nt l) (i:Nat),qcg (qlb f l) i=f (qcg l i):=by
 intro l
 induction l with
 | nil=>intro _ i;simp[qlb,qcg,hf]
 | cons q l ih =>
  obtain⟨k,u⟩:=q
  intro h i
  have h1:=List.pairwise_cons.1 h.srt
  simp only[qlb,qcg]
  split
  ·rename_i hu
   cases h2:Nat.beq i k with
   | true =>
    have:=qcr h2;subst this
    simp only
    rw[hu]
    refine qw9 fun p hp=>?_
    obtain⟨q,hq,rfl,_⟩:=qrs hp
    have:=h1.1 q.1 (List.mem_map.2 ⟨q,hq,rfl⟩)
    simp only at this ⊢;omega
   | false=>exact ih h.tail i
  ·simp only[qcg]
   cases h2:Nat.beq i k with
   | true=>rfl
   | false=>exact ih h.tail i
theorem spHas_iff {l:Sp} {i:Nat}:qrt l i=true↔∃ p∈l,p.1=i:=by
 induction l with
 | nil=>simp[qrt]
 | cons q l ih =>
  obtain⟨k,u⟩:=q
  simp only[qrt]
  cases h2:Nat.beq i k with
  | true=>simp[qcr h2]
  | false=>simp[ih,Ne.symm (qfv h2)]
theorem Qj3 {l:Sp} {nm:Nm}:nm∈qgv l↔∃ p∈l,nm∈p.2.names:=by
 induction l with
 | nil=>simp[qgv]
 | cons q l ih=>obtain⟨k,u⟩:=q;simp[qgv,ih]
theorem qla.has_iff {nt:Nat} {l:Sp} (h:qla nt l) (i:Nat):qrt l i=true↔qcg l i≠.un:=by
 rw[spHas_iff]
 constructor
 ·rintro ⟨p,hp,rfl⟩ hu
  rw[h.get_mem hp] at hu
  have:=h.nu p hp
  rw[hu] at this;cases this
 ·intro hu;exact⟨_,qnm hu,rfl⟩
theorem dense_get? (nt:Nat) (l:Sp) (i:Nat):(qdk nt l)[i]?=if i < nt then some (qcg l i).pv else none:=by
 unfold qdk
 rw[List.getElem?_map]
 split
 ·rename_i h;rw[List.getElem?_range h];rfl
 ·rename_i h;rw[List.getElem?_eq_none (by simpa using h)];rfl
theorem qb5 (nt:Nat) (l:Sp):(qdk nt l).length=nt:=by simp[qdk]
theorem qh7 {nt:Nat} {l:Sp} (h:qla nt l) (i:Nat):(qdk nt l).getD i .undef=(qcg l i).pv:=by
 rw[List.getD_eq_getElem?_getD,dense_get?]
 split
 ·rfl
 ·rename_i hi;rw[h.get_ge (by omega)];rfl
theorem qk4 {nt:Nat} {l:Sp} {xs:List PV} (hl:xs.length=nt) (h:∀ i,i < nt→xs[i]?=some (qcg l i).pv):qdk nt l=xs:=by
 apply List.ext_getElem?
 intro i
 rw[dense_get?]
 split
 ·rename_i hi;exact (h i hi).symm
 ·rename_i hi;rw[List.getElem?_eq_none (by omega)]
theorem Qh6 {nt:Nat} {l:Sp} (d:Nat) (v:KV):qdk nt (spSet d v l)=(qdk nt l).set d v.pv:=by
 refine qk4 (by simp[qb5]) fun i hi=>?_
 rw[List.getElem?_set,qb5,dense_get?,spGet_set]
 by_cases h:d=i
 ·subst h;simp[hi]
 ·simp[h,Ne.symm h,hi]
theorem qsv {nt:Nat} {l:Sp} (d:Nat) (v:KV):qdk nt (qjj d v l)=(qdk nt l).set d v.pv:=by
 refine qk4 (by simp[qb5]) fun i hi=>?_
 rw[List.getElem?_set,qb5,dense_get?,qw8]
 by_cases h:d=i
 ·subst h;simp[hi]
 ·simp[h,Ne.symm h,hi]
theorem qsw {nt:Nat} {l:Sp} (h:qla nt l) {f:KV→KV} {g:Nm→Option (Option Ob)} (hu:f .un=.un) (hf:∀ x:KV,x.ok→(f x).pv=x.pv.sub g) :
  qdk nt (qlb f l)=qfx g (qdk nt l):=by
 refine qk4 (by rw[qmt,qb5]) fun i hi=>?_
 rw[subL_getElem?,dense_get?,Qfr hu h,if_pos hi,hf _ (h.get_ok i)]
 rfl
theorem Qkc (f:Nm→Nm) (xs:List PV):(qhy f xs).length=xs.length:=by
 induction xs with
 | nil=>rfl
 | cons x xs ih=>simp[qhy,ih]
theorem renL_getElem? (f:Nm→Nm) (xs:List PV) (i:Nat):(qhy f xs)[i]?=(xs[i]?).map (PV.ren f):=by
 induction xs generalizing i with
 | nil=>rfl
 | cons x xs ih=>cases i<;>simp[qhy,ih]
theorem qsu {nt:Nat} {l:Sp} (h:qla nt l) (f:Nm→Nm):qdk nt (qlb (KV.ren f) l)=qhy f (qdk nt l):=by
 refine qk4 (by rw[Qkc,qb5]) fun i hi=>?_
 rw[renL_getElem?,dense_get?,Qfr (by simp[KV.ren]) h,if_pos hi,KV.ren_pv f (h.get_ok i)]
 rfl
theorem qna {nt:Nat} {l:Sp} (h:qla nt l) (nm:Nm):nm∈qbm (qdk nt l)↔nm∈qgv l:=by
 have hm:∀ (xs:List PV),nm∈qbm xs↔∃ x∈xs,nm∈x.names:=by
  intro xs
  induction xs with
  | nil=>simp[qbm]
  | cons x xs ih=>simp[qbm,ih]
 rw[hm,Qj3]
 constructor
 ·rintro ⟨x,hx,hn⟩
  obtain⟨i,hi⟩:=List.getElem?_of_mem hx
  rw[dense_get?] at hi
  split at hi
  ·cases hi
   rw[KV.pv_names (h.get_ok i)] at hn
   have hne:qcg l i≠.un:=by intro hu;rw[hu] at hn;simp[KV.names] at hn
   exact⟨_,qnm hne,hn⟩
  ·cases hi
 ·rintro ⟨p,hp,hn⟩
  have:=h.get_mem hp
  refine⟨p.2.pv,List.mem_of_getElem? (i:=p.1) ?_,?_⟩
  ·rw[dense_get?,if_pos (h.lt p hp),this]
  ·rw[KV.pv_names (h.ok p hp)];exact hn
def KOb.ok:KOb→Prop
 | .cells _ cs=>qf6 cs
 | .whole _ v=>okV v=true
 | .arr _ _ xs=>qb3 xs=true
 | .map es=>qb3 es=true
 | .siter _ _=>True
structure qkl (nt:Nat) (l:SpO):Prop where
 srt:(l.map (·.1)).Pairwise (· < ·)
 lt:∀ p∈l,p.1 < nt
 ok:∀ p∈l,∀ o∈p.2,o.ok
theorem qkl.nil (nt:Nat):qkl nt []:=⟨.nil,by simp,by simp⟩
theorem qkl.tail {nt:Nat} {p:Nat×List KOb} {l:SpO} (h:qkl nt (p :: l)):qkl nt l :=
 ⟨(List.pairwise_cons.1 h.srt).2,fun q hq=>h.lt q (by simp[hq]),fun q hq=>h.ok q (by simp[hq])⟩
theorem KOb.ob_names {o:KOb} (h:o.ok):o.ob.names=o.names:=by
 cases o with
 | cells ty cs=>exact qdy h
 | whole ty v=>exact (qb4 (qco h)).1
 | _=>rfl
theorem soGet_put (i:Nat) (v:List KOb):∀ (l:SpO) (j:Nat),qcs (qmw i v l) j=if j=i then v else qcs l j:=by
 intro l
 induction l with
 | nil =>
  intro j
  simp only[qmw,qcs]
  cases h:Nat.beq j i with
  | true=>simp[qcr h]
  | false=>simp[qfv h]
 | cons p l ih =>
  obtain⟨k,u⟩:=p
  intro j
  simp only[qmw]
  cases h:Nat.beq i k with
  | true =>
   have:=qcr h;subst this
   simp only[qcs]
   cases h2:Nat.beq j i with
   | true=>simp[qcr h2]
   | false=>simp[qfv h2]
  | false =>
   cases h3:Nat.blt i k with
   | true =>
    simp only[qcs]
    cases h2:Nat.beq j i with
    | true=>simp[qcr h2]
    | false=>simp[qfv h2]
   | false =>
    simp only[qcs]
    cases h2:Nat.beq j k with
    | true =>
     have h4:=qcr h2;have h5:=qfv h
     subst h4
     simp[Ne.symm h5]
    | false=>exact ih j
theorem soGet_keep (p:Nat→Bool):∀ (l:SpO) (j:Nat),qcs (qvi p l) j=if p j=true then qcs l j else []:=by
 intro l
 induction l with
 | nil=>intro j;simp[qvi,qcs]
 | cons q l ih =>
  obtain⟨k,u⟩:=q
  intro j
  simp only[qvi]
  cases hp:p k with
  | true =>
   simp only[qcs]
   cases h2:Nat.beq j k with
   | true=>have:=qcr h2;subst this;simp[hp]
   | false=>exact ih j
  | false =>
   simp only[qcs]
   rw[ih j]
   cases h2:Nat.beq j k with
   | true=>have:=qcr h2;subst this;simp[hp]
   | false=>rfl
theorem soGet_map (f:KOb→KOb):∀ (l:SpO) (j:Nat),qcs (qno f l) j=(qcs l j).map f:=by
 intro l
 induction l with
 | nil=>intro j;simp[qno,qcs]
 | cons q l ih =>
  obtain⟨k,u⟩:=q
  intro j
  simp only[qno,qcs]
  cases h2:Nat.beq j k with
  | true=>rfl
  | false=>exact ih j
theorem ql0 {l:SpO} {i:Nat} (h:qcs l i≠[]):(i,qcs l i)∈l:=by
 induction l with
 | nil=>exact absurd rfl h
 | cons p l ih =>
  obtain⟨k,u⟩:=p
  simp only[qcs] at h ⊢
  cases h2:Nat.beq i k with
  | true=>have:=qcr h2;subst this;simp
  | false=>rw[h2] at h;simp only at h ⊢;exact List.mem_cons_of_mem _ (ih h)
theorem qkl.get_mem {nt:Nat} {l:SpO} (h:qkl nt l) {p:Nat×List KOb} (hp:p∈l):qcs l p.1=p.2:=by
 induction l with
 | nil=>cases hp
 | cons q l ih =>
  obtain⟨k,u⟩:=q
  simp only[qcs]
  rcases List.mem_cons.1 hp with rfl | hp'
  ·simp
  ·have h1:=(List.pairwise_cons.1 h.srt).1 p.1 (List.mem_map.2 ⟨p,hp',rfl⟩)
   simp only at h1
   cases h2:Nat.beq p.1 k with
   | true=>have:=qcr h2;omega
   | false=>exact ih h.tail hp'
theorem qkl.get_ok {nt:Nat} {l:SpO} (h:qkl nt l) {i:Nat} {o:KOb} (ho:o∈qcs l i):o.ok:=by
 have:qcs l i≠[]:=by intro h1;rw[h1] at ho;cases ho
 exact h.ok _ (ql0 this) o ho
theorem qkl.get_ge {nt:Nat} {l:SpO} (h:qkl nt l) {i:Nat} (hi:nt≤i):qcs l i=[]:=by
 by_cases h1:qcs l i=[]
 ·exact h1
 ·have:=h.lt _ (ql0 h1);simp only at this;omega
theorem qxb {i:Nat} {v:List KOb}:∀ {l:SpO} {p:Nat×List KOb},p∈qmw i v l→p=(i,v)∨p∈l:=by
 intro l
 induction l with
 | nil=>intro p hp;simp[qmw] at hp;exact .inl hp
 | cons q l ih =>
  obtain⟨k,u⟩:=q
  intro p hp
  simp only[qmw] at hp
  cases h:Nat.beq i k with
  | true =>
   rw[h] at hp;simp only[List.mem_cons] at hp ⊢
   rcases hp with rfl | hp
   ·exact .inl rfl
   ·exact .inr (.inr hp)
  | false =>
   rw[h] at hp
   cases h3:Nat.blt i k with
   | true =>
    rw[h3] at hp;simp only[List.mem_cons] at hp ⊢
    rcases hp with rfl | hp | hp
    ·exact .inl rfl
    ·exact .inr (.inl hp)
    ·exact .inr (.inr hp)
   | false =>
    rw[h3] at hp;simp only[List.mem_cons] at hp ⊢
    rcases hp with rfl | hp
    ·exact .inr (.inl rfl)
    ·exact (ih hp).imp id .inr
theorem soPut_srt {i:Nat} {v:List KOb}:∀ {l:SpO},(l.map (·.1)).Pairwise (· < ·)→((qmw i v l).map (·.1)).Pairwise (· < ·):=by
 intro l
 induction l with
 | nil=>intro _;simp[qmw]
 | cons q l ih =>
  obtain⟨k,u⟩:=q
  intro h
  have h1:=List.pairwise_cons.1 h
  simp only[qmw]
  cases h2:Nat.beq i k with
  | true =>
   have:=qcr h2;subst this
   exact List.pairwise_cons.2 ⟨h1.1,h1.2⟩
  | false =>
   cases h3:Nat.blt i k with
   | true =>
    have h4:i < k:=by simpa[Nat.blt_eq] using h3
    refine List.pairwise_cons.2 ⟨fun a ha=>?_,h⟩
    simp only[List.map_cons,List.mem_cons] at ha
    rcases ha with rfl | ha
    ·exact h4
    ·exact Nat.lt_trans h4 (h1.1 a ha)
   | false =>
    have h5:=qfv h2
    have h4:¬ i < k:=by intro h6;rw[show Nat.blt i k=true by simpa[Nat.blt_eq] using h6] at h3;cases h3
    refine List.pairwise_cons.2 ⟨fun a ha=>?_,ih h1.2⟩
    obtain⟨p,hp,rfl⟩:=List.mem_map.1 ha
    rcases qxb hp with rfl | hp
    ·simp only;omega
    ·exact h1.1 _ (List.mem_map.2 ⟨p,hp,rfl⟩)
theorem qkl.put {nt:Nat} {l:SpO} (h:qkl nt l) {i:Nat} (hi:i < nt) {v:List KOb} (hv:∀ o∈v,o.ok):qkl nt (qmw i v l) where
 srt:=soPut_srt h.srt
 lt p hp:=(qxb hp).elim (fun e=>by rw[e];exact hi) (h.lt p)
 ok p hp:=(qxb hp).elim (fun e=>by rw[e];exact hv) (h.ok p)
theorem soKeep_sub (p:Nat→Bool):∀ (l:SpO),(qvi p l).Sublist l:=by
 intro l
 induction l with
 | nil=>exact .slnil
 | cons q l ih =>
  obtain⟨k,u⟩:=q
  simp only[qvi]
  cases p k with
  | true=>exact .cons_cons _ ih
  | false=>exact .cons _ ih
theorem qkl.sub {nt:Nat} {l l':SpO} (h:qkl nt l) (hs:l'.Sublist l):qkl nt l' :=
 ⟨h.srt.sublist (hs.map _),fun p hp=>h.lt p (hs.subset hp),fun p hp=>h.ok p (hs.subset hp)⟩
theorem soMap_keys (f:KOb→KOb):∀ (l:SpO),(qno f l).map (·.1)=l.map (·.1):=by
 intro l
 induction l with
 | nil=>rfl
 | cons q l ih=>obtain⟨k,u⟩:=q;simp[qno,ih]
theorem Qfs {f:KOb→KOb}:∀ {l:SpO} {p:Nat×List KOb},p∈qno f l→∃ q∈l,p=(q.1,q.2.map f):=by
 intro l
 induction l with
 | nil=>intro p hp;cases hp
 | cons q l ih =>
  obtain⟨k,u⟩:=q
  intro p hp
  rcases List.mem_cons.1 hp with rfl | hp
  ·exact⟨(k,u),by simp,rfl⟩
  ·obtain⟨q,hq,h⟩:=ih hp;exact⟨q,by simp[hq],h⟩
theorem qkl.map {nt:Nat} {l:SpO} (h:qkl nt l) {f:KOb→KOb} (hf:∀ x:KOb,x.ok→(f x).ok):qkl nt (qno f l) where
 srt:=by rw[soMap_keys];exact h.srt
 lt p hp:=by obtain⟨q,hq,rfl⟩:=Qfs hp;exact h.lt q hq
 ok p hp o ho:=by
  obtain⟨q,hq,rfl⟩:=Qfs hp
  obtain⟨o',ho',rfl⟩:=List.mem_map.1 ho
  exact hf _ (h.ok q hq o' ho')
theorem Qj5 {l:SpO} {nm:Nm}:nm∈qks l↔∃ p∈l,∃ o∈p.2,nm∈o.names:=by
 induction l with
 | nil=>simp[qks]
 | cons q l ih=>obtain⟨k,u⟩:=q;simp[qks,ih]
theorem denseO_get? (nt:Nat) (l:SpO) (i:Nat):(qfb nt l)[i]?=if i < nt then some ((qcs l i).map KOb.ob) else none:=by
 unfold qfb
 rw[List.getElem?_map]
 split
 ·rename_i h;rw[List.getElem?_range h];rfl
 ·rename_i h;rw[List.getElem?_eq_none (by simpa using h)];rfl
theorem qde (nt:Nat) (l:SpO):(qfb nt l).length=nt:=by simp[qfb]
theorem qh9 {nt:Nat} {l:SpO} {xs:List (List Ob)} (hl:xs.length=nt) (h:∀ i,i < nt→xs[i]?=some ((qcs l i).map KOb.ob)):qfb nt l=xs:=by
 apply List.ext_getElem?
 intro i
 rw[denseO_get?]
 split
 ·rename_i hi;exact (h i hi).symm
 ·rename_i hi;rw[List.getElem?_eq_none (by omega)]
theorem qh8 {nt:Nat} {l:SpO} (d:Nat) (v:List KOb):qfb nt (qmw d v l)=(qfb nt l).set d (v.map KOb.ob):=by
 refine qh9 (by simp[qde]) fun i hi=>?_
 rw[List.getElem?_set,qde,denseO_get?,soGet_put]
 by_cases h:d=i
 ·subst h;simp[hi]
 ·simp[h,Ne.symm h,hi]
theorem qp6 {nt:Nat} {l:SpO} (h:qkl nt l) {f:KOb→KOb} {g:Ob→Ob} (hf:∀ x:KOb,x.ok→(f x).ob=g x.ob):qfb nt (qno f l)=(qfb nt l).map (·.map g):=by
 refine qh9 (by simp[qde]) fun i hi=>?_
 rw[List.getElem?_map,denseO_get?,if_pos hi,soGet_map]
 simp only[Option.map_some,List.map_map,Option.some.injEq]
 apply List.map_congr_left
 intro o ho
 simp[hf o (h.get_ok ho)]
theorem Qlv {nt:Nat} {l:SpO} (h:qkl nt l) (nm:Nm):qbo (qfb nt l) nm=(qc1 l nm).map KOb.ob:=by
 unfold qbo qc1
 rw[denseO_get?]
 split
 ·rename_i x hx
  split at hx
  ·cases hx;rw[List.getElem?_map]
  ·cases hx
 ·rename_i hx
  split at hx
  ·cases hx
  ·rw[h.get_ge (by omega)];rfl
theorem qwp {nt:Nat} {l:SpO} (h:qkl nt l) {nm:Nm} {o:KOb} (ho:qc1 l nm=some o):nm.1 < nt:=by
 apply Classical.byContradiction
 intro hn
 unfold qc1 at ho
 rw[h.get_ge (by omega)] at ho
 cases ho
theorem qc9 {nt:Nat} {l:SpO} (h:qkl nt l) {nm:Nm} {o:KOb} (ho:qc1 l nm=some o):o.ok:=h.get_ok (List.mem_of_getElem? ho)
theorem qk5 {nt:Nat} {l:SpO} (h:qkl nt l) (nm:Nm) (o:KOb):qfb nt (kput l nm o)=qcz (qfb nt l) nm o.ob:=by
 unfold kput qcz
 cases hk:qc1 l nm with
 | some o' =>
  have hlt:=qwp h hk
  simp only
  rw[qh8,denseO_get?,if_pos hlt]
  simp[List.map_set]
 | none =>
  simp only
  rw[denseO_get?]
  split
  ·rename_i x hx
   split at hx
   ·cases hx
    have h1:((qcs l nm.1).map KOb.ob).set nm.2 o.ob=(qcs l nm.1).map KOb.ob:=by
     rw[List.set_eq_of_length_le]
     have:=List.getElem?_eq_none_iff.1 hk
     simpa using this
    rw[h1]
    refine qh9 (by simp[qde]) fun i hi=>?_
    rw[List.getElem?_set,qde,denseO_get?]
    by_cases h2:nm.1=i
    ·subst h2;simp[hi]
    ·simp[h2,hi]
   ·cases hx
  ·rfl
theorem qkl.kput {nt:Nat} {l:SpO} (h:qkl nt l) (nm:Nm) {o:KOb} (ho:o.ok):qkl nt (kput l nm o):=by
 unfold Go.Ab.kput
 cases hk:qc1 l nm with
 | some o' =>
  refine h.put (qwp h hk) fun x hx=>?_
  rcases List.mem_or_eq_of_mem_set hx with h1 | rfl
  ·exact h.get_ok h1
  ·exact ho
 | none=>exact h
theorem qv2 {nt:Nat} {l:SpO} (h:qkl nt l) (nm:Nm):nm∈(qfb nt l).flatMap (fun l=>l.flatMap Ob.names)↔nm∈qks l:=by
 rw[Qj5]
 simp only[List.mem_flatMap]
 constructor
 ·rintro ⟨x,hx,ob,hob,hn⟩
  obtain⟨i,hi⟩:=List.getElem?_of_mem hx
  rw[denseO_get?] at hi
  split at hi
  ·cases hi
   obtain⟨o,ho,rfl⟩:=List.mem_map.1 hob
   rw[KOb.ob_names (h.get_ok ho)] at hn
   have:qcs l i≠[]:=by intro h1;rw[h1] at ho;cases ho
   exact⟨_,ql0 this,o,ho,hn⟩
  ·cases hi
 ·rintro ⟨p,hp,o,ho,hn⟩
  have:=h.get_mem hp
  refine⟨p.2.map KOb.ob,List.mem_of_getElem? (i:=p.1) ?_,o.ob,List.mem_map.2 ⟨o,ho,rfl⟩,?_⟩
  ·rw[denseO_get?,if_pos (h.lt p hp),this]
  ·rw[KOb.ob_names (h.ok p hp o ho)];exact hn
end Go.Ab


namespace Go.Ab
mutual
theorem qyl {R:Type}:∀ (x:KV) (K:KV→R),qvx x K=K x
 | .un,_ | .sk,_ | .nils,_ | .cv _,_ | .yld _,_=>rfl
 | .lit b,K=>by cases b<;>rfl
 | .ref nm _,_ | .aref nm _ _ _,_ | .arr nm _ _ _,_ | .mp nm,_ | .it nm,_ | .wit nm,_=>by cases nm;rfl
 | .agg cs,K=>by simp only[qvx];rw[qpd cs]
 | .iface t x,K=>by simp only[qvx];rw[qyl x]
 | .fn f cap,K=>by simp only[qvx];rw[qpd cap]
 | .tup xs,K=>by simp only[qvx];rw[qpd xs]
theorem qpd {R:Type}:∀ (xs:List KV) (K:List KV→R),qyo xs K=K xs
 | [],_=>rfl
 | x :: xs,K=>by simp only[qyo];rw[qyl x,qpd xs]
end
theorem forceOb_eq {R:Type} (x:KOb) (K:KOb→R):Qli x K=K x:=by cases x<;>simp[Qli,qpd]
theorem qyn {R:Type}:∀ (xs:List KOb) (K:List KOb→R),qwt xs K=K xs
 | [],_=>rfl
 | x :: xs,K=>by simp only[qwt];rw[forceOb_eq x,qyn xs]
theorem qtv {R:Type}:∀ (xs:Sp) (K:Sp→R),qym xs K=K xs
 | [],_=>rfl
 |(j,x) :: xs,K=>by simp only[qym];rw[qyl x,qtv xs]
theorem Qb2 {R:Type}:∀ (xs:SpO) (K:SpO→R),Qds xs K=K xs
 | [],_=>rfl
 |(j,x) :: xs,K=>by simp only[Qds];rw[qyn x,Qb2 xs]
theorem Qb3 {R:Type}:∀ (xs:List Sp) (K:List Sp→R),Qdt xs K=K xs
 | [],_=>rfl
 | x :: xs,K=>by simp only[Qdt];rw[qtv x,Qb3 xs]
theorem qc2 {R:Type} (ks:KSt) (K:KSt→R):qh5 ks K=K ks:=by
 cases ks;simp only[qh5];rw[qtv,Qb2,Qb3]
structure KSt.Ok (ks:KSt):Prop where
 tm:qla ks.nt ks.tmps
 ob:qkl ks.nt ks.objs
 kp:∀ sp∈ks.keep,qla ks.nt sp
theorem cstK_pv (v:PV):(cstK v).pv=v:=by
 unfold cstK
 split<;>simp[KV.pv,pvL]
theorem cstK_ok {v:PV} (h:okV v=true):(cstK v).ok:=by
 unfold cstK
 split
 ·trivial
 ·trivial
 ·trivial
 ·exact h
variable {ks:KSt}
theorem qs7 (h:ks.Ok) (x:RX):x.ev ks.st.tmps=(x.kv ks.tmps).pv:=by
 cases x with
 | t i=>exact qh7 h.tm i
 | c v=>exact (cstK_pv v).symm
theorem kv_ok (h:ks.Ok) {x:RX} (hx:okX x=true):(x.kv ks.tmps).ok:=by
 cases x with
 | t i=>exact h.tm.get_ok i
 | c v=>exact cstK_ok hx
theorem qjz (h:ks.Ok) (nm:Nm):qbo ks.st.objs nm=(qc1 ks.objs nm).map KOb.ob:=Qlv h.ob nm
theorem qdp (h:ks.Ok):qbo ks.st.objs=fun nm=>(qc1 ks.objs nm).map KOb.ob:=funext (qjz h)
theorem KOb.off_ob (p:Nm→Bool) {o:KOb} (h:o.ok):(o.off p).ob=o.ob.sub (qqe p):=by
 cases o with
 | cells ty cs=>simp[KOb.off,KOb.ob,Ob.sub,qxu p h]
 | whole ty v =>
  have:=(qb4 (qco h)).1
  simp only[KOb.off,KOb.ob,Ob.sub,qfu]
  rw[subL_none this]
 | _=>rfl
where
 subL_none {xs:List PV} (h:qbm xs=[]):qfx (qqe p) xs=xs:=by
  induction xs with
  | nil=>rfl
  | cons x xs ih =>
   simp[qbm] at h
   simp[qfx,qlf h.1,ih h.2]
theorem KOb.off_ok (p:Nm→Bool) {o:KOb} (h:o.ok):(o.off p).ok:=by
 cases o with
 | cells ty cs=>exact qxv p h
 | _=>exact h
theorem qw4 (f:Nm→Option (Option Ob)) (xs ys:List PV):qfx f (xs++ys)=qfx f xs++qfx f ys:=by
 induction xs with
 | nil=>rfl
 | cons x xs ih=>simp[qfx,ih]
theorem qwu {nt:Nat} {l:List Sp} {f:KV→KV} {g:List PV→List PV} (hg:g []=[]) (ha:∀ xs ys,g (xs++ys)=g xs++g ys) (h:∀ sp∈l,qdk nt (qlb f sp)=g (qdk nt sp)) :
  (l.map (qlb f)).flatMap (qdk nt)=g (l.flatMap (qdk nt)):=by
 induction l with
 | nil=>simp[hg]
 | cons x l ih =>
  simp only[List.map_cons,List.flatMap_cons,ha]
  rw[h x (by simp),ih fun sp hsp=>h sp (by simp[hsp])]
theorem Qk3 (p:Nm→Bool) (h:ks.Ok):(Qbs p ks).st=qkq (qqe p) ks.st:=by
 unfold Qbs KSt.st qkq
 simp only
 rw[qsw h.tm (by simp[KV.off]) (fun x hx=>KV.off_pv p hx),qp6 h.ob (fun o ho=>KOb.off_ob p ho),
  qwu (g:=qfx (qqe p)) rfl (qw4 _) fun sp hsp=>qsw (h.kp sp hsp) (by simp[KV.off]) fun x hx=>KV.off_pv p hx]
theorem Qk4 (p:Nm→Bool) (h:ks.Ok):(Qbs p ks).Ok where
 tm:=h.tm.map fun x hx=>KV.off_ok p hx
 ob:=h.ob.map fun x hx=>KOb.off_ok p hx
 kp sp hsp:=by
  obtain⟨q,hq,rfl⟩:=List.mem_map.1 hsp
  exact (h.kp q hq).map fun x hx=>KV.off_ok p hx
theorem KOb.close_ob (g:Nm→Option Ob) {o:KOb} (h:o.ok):o.close g=o.ob.sub (qmu g):=by
 cases o with
 | cells ty cs=>simp[KOb.close,KOb.ob,Ob.sub,qmp g h]
 | whole ty v =>
  have:=(qb4 (qco h)).1
  simp only[KOb.close,KOb.ob,Ob.sub,qfu]
  rw[subL_none this]
 | _=>rfl
where
 subL_none {xs:List PV} (h:qbm xs=[]):qfx (qmu g) xs=xs:=by
  induction xs with
  | nil=>rfl
  | cons x xs ih =>
   simp[qbm] at h
   simp[qfx,qlf h.1,ih h.2]
theorem qtn {σ:Nm→Option KOb} (hσ:∀ nm o,σ nm=some o→o.ok):∀ (d:Nat) (nm:Nm),qdo σ d nm=(σ nm).map fun o=>qlx (fun nm=>(σ nm).map KOb.ob) d o.ob:=by
 intro d
 induction d with
 | zero =>
  intro nm
  unfold qdo
  cases h:σ nm with
  | none=>rfl
  | some o=>simp only[Option.map_some];rw[KOb.close_ob _ (hσ _ _ h)];rfl
 | succ d ih =>
  intro nm
  unfold qdo
  cases h:σ nm with
  | none=>rfl
  | some o =>
   simp only[Option.map_some]
   rw[KOb.close_ob _ (hσ _ _ h)]
   congr 1
   unfold qlx
   congr 1
   funext m
   unfold qmu
   rw[ih m,Option.map_map]
   rfl
def Qms (σ:Nm→Option KOb):Prop:=∀ nm ty cs,σ nm=some (.cells ty cs)→qj9 cs=false
theorem qhg {σ:Nm→Option KOb} (hσ:∀ nm o,σ nm=some o→o.ok) (hq:Qms σ):∀ (d:Nat) (nm:Nm) (ob:Ob),qdo σ d nm=some ob→ob.shut:=by
 intro d
 induction d with
 | zero =>
  intro nm ob h
  unfold qdo at h
  cases ho:σ nm with
  | none=>rw[ho] at h;cases h
  | some o =>
   rw[ho] at h;cases h
   have hok:=hσ _ _ ho
   cases o with
   | cells ty cs=>exact (qjw (fun _ _ h=>by cases h) hok (hq _ _ _ ho))
   | whole ty v=>exact (qco hok)
   | arr k kt xs=>exact hok
   | map es=>exact hok
   | siter s pos=>trivial
 | succ d ih =>
  intro nm ob h
  unfold qdo at h
  cases ho:σ nm with
  | none=>rw[ho] at h;cases h
  | some o =>
   rw[ho] at h;cases h
   have hok:=hσ _ _ ho
   cases o with
   | cells ty cs=>exact (qjw ih hok (hq _ _ _ ho))
   | whole ty v=>exact (qco hok)
   | arr k kt xs=>exact hok
   | map es=>exact hok
   | siter s pos=>trivial
theorem KOb.frz_ob (p:Nm→Bool) (g:Nm→Option Ob) {o:KOb} (h:o.ok):(o.frz p g).ob=o.ob.sub (qha p g):=by
 cases o with
 | cells ty cs=>simp[KOb.frz,KOb.ob,Ob.sub,qyj p g h]
 | whole ty v =>
  have:=(qb4 (qco h)).1
  simp only[KOb.frz,KOb.ob,Ob.sub,qfu]
  rw[subL_none this]
 | _=>rfl
where
 subL_none {xs:List PV} (h:qbm xs=[]):qfx (qha p g) xs=xs:=by
  induction xs with
  | nil=>rfl
  | cons x xs ih =>
   simp[qbm] at h
   simp[qfx,qlf h.1,ih h.2]
theorem KOb.frz_ok {p:Nm→Bool} {g:Nm→Option Ob} (hg:∀ nm ob,g nm=some ob→ob.shut) {o:KOb} (h:o.ok):(o.frz p g).ok:=by
 cases o with
 | cells ty cs=>exact qyk hg h
 | _=>exact h
theorem kputs_ok {nt:Nat}:∀ (R:List Nm) {l:SpO},qkl nt l→qkl nt (R.foldl (fun objs nm=>kput objs nm qsc) l):=by
 intro R
 induction R with
 | nil=>intro l h;exact h
 | cons nm R ih=>intro l h;exact ih (h.kput nm (o:=qsc) rfl)
theorem kputs_st {nt:Nat}:∀ (R:List Nm) {l:SpO},qkl nt l→qfb nt (R.foldl (fun objs nm=>kput objs nm qsc) l)=R.foldl (fun objs nm=>qcz objs nm qhs) (qfb nt l):=by
 intro R
 induction R with
 | nil=>intro l _;rfl
 | cons nm R ih =>
  intro l h
  simp only[List.foldl_cons]
  rw[ih (h.kput nm (o:=qsc) rfl),qk5 h]
  rfl
theorem qcj (h:ks.Ok):∀ nm o,qc1 ks.objs nm=some o→o.ok:=fun _ _ ho=>qc9 h.ob ho
theorem kclosed_st (h:ks.Ok) (nm:Nm):qmu (qdo (qc1 ks.objs) qbn) nm=qci (qbo ks.st.objs) nm:=by
 unfold qmu qci
 rw[qtn (qcj h),qdp h,Option.map_map]
 rfl
theorem kquiet_ok {l:SpO} (h:qjm l=true):∀ p∈l,∀ ty cs,KOb.cells ty cs∈p.2→qj9 cs=false:=by
 induction l with
 | nil=>intro p hp;cases hp
 | cons q l ih =>
  obtain⟨k,u⟩:=q
  simp only[qjm,Bool.and_eq_true] at h
  intro p hp ty cs hcs
  rcases List.mem_cons.1 hp with rfl | hp
  ·have:=List.all_eq_true.1 h.1 _ hcs
   simpa using this
  ·exact ih h.2 p hp ty cs hcs
theorem ql4 {l:SpO} (h:qjm l=true):Qms (qc1 l):=by
 intro nm ty cs ho
 have hm:qcs l nm.1≠[]:=by intro h1;unfold qc1 at ho;rw[h1] at ho;cases ho
 exact kquiet_ok h _ (ql0 hm) ty cs (List.mem_of_getElem? ho)
theorem Qk6 {l:KSt} (hl:l.Ok) {σ:Nm→Option KOb} (hσ:∀ nm o,σ nm=some o→o.ok) (hq:Qms σ) (R:List Nm) :
  (Qdk σ R l).st=qcb (fun nm=>(σ nm).map KOb.ob) R l.st:=by
 have hf:qha (fun m=>R.contains m) (qdo σ qbn)=fun m=>if R.contains m=true then qci (fun nm=>(σ nm).map KOb.ob) m else none:=by
  funext m
  unfold qha qci
  rw[qtn hσ,Option.map_map]
  rfl
 unfold Qdk qcb qkq KSt.st
 simp only
 rw[qsw hl.tm (g:=qha (fun m=>R.contains m) (qdo σ qbn)) (by simp[KV.frz]) (fun x hx=>KV.frz_pv _ _ hx),
  kputs_st R (hl.ob.map fun x hx=>KOb.frz_ok (qhg hσ hq qbn) hx),qp6 hl.ob (fun o ho=>KOb.frz_ob _ _ ho),
  qwu (g:=qfx (qha (fun m=>R.contains m) (qdo σ qbn))) rfl (qw4 _) fun sp hsp=>qsw (hl.kp sp hsp) (by simp[KV.frz]) fun x hx=>KV.frz_pv _ _ hx,hf]
theorem kfreeze_ok {l:KSt} (hl:l.Ok) {σ:Nm→Option KOb} (hσ:∀ nm o,σ nm=some o→o.ok) (hq:Qms σ) (R:List Nm):(Qdk σ R l).Ok where
 tm:=hl.tm.map fun x hx=>KV.frz_ok (qhg hσ hq qbn) hx
 ob:=kputs_ok R (hl.ob.map fun x hx=>KOb.frz_ok (qhg hσ hq qbn) hx)
 kp sp hsp:=by
  obtain⟨q,hq',rfl⟩:=List.mem_map.1 hsp
  exact (hl.kp q hq').map fun x hx=>KV.frz_ok (qhg hσ hq qbn) hx
structure qb8.Ok (o:qb8):Prop where
 v:o.v.ok
 new:∀ x∈o.new,x.ok
 upd:∀ nm x,o.upd=some (nm,x)→x.ok
 ups:∀ p∈o.ups,p.2.ok:=by simp
def qb8.out (o:qb8):Out:={v:=o.v.pv,new:=o.new.map KOb.ob,upd:=o.upd.map fun p=>(p.1,p.2.ob),kill:=o.kill,frz:=o.frz,gone:=o.gone,ups:=o.ups.map fun p=>(p.1,p.2.ob),io:=o.io,slot:=o.slot}
def bupd (u:Option (Nm×Ob)) (st:St):St :=
 match u with
 | some (nm,ob)=>{st with objs:=qcz st.objs nm ob}
 | none=>st
def Ql3 (k:Option Nm) (st:St):St :=
 match k with
 | some nm=>qkq (fun m=>if m=nm then some none else none) st
 | none=>st
def bset (dst:Option Nat) (v:PV) (new:List Ob) (st:St):St :=
 match dst with
 | some d=>{st with tmps:=st.tmps.set d v,objs:=if new.isEmpty then st.objs else st.objs.set d new}
 | none=>st
def bgone (l:List Nm) (st:St):St:=if l.isEmpty then st else qkq (fun m=>if l.contains m then some none else none) st
def Ql2 (l:List (Nm×Ob)) (st:St):St:=if l.isEmpty then st else {st with objs:=qj7 l st.objs}
def bext (sl:Option Nat) (new:List Ob) (st:St):St :=
 match sl with
 | some r=>{st with objs:=st.objs.set r (st.objs.getD r []++new)}
 | none=>st
def Qgk (sl:Option Nat) (new:List Ob):List Ob :=
 match sl with
 | some _=>[]
 | none=>new
theorem Qd7 (st:St) (dst:Option Nat) (o:Out):apply st dst o=bset dst o.v (Qgk o.slot o.new) (bext o.slot o.new<|Ql2 o.ups (bgone o.gone (if o.frz.isEmpty then Ql3 o.kill (bupd o.upd st) else qcb (qbo st.objs) o.frz (Ql3 o.kill (bupd o.upd st))))):=by
 unfold apply bset Ql3 bupd bgone Ql2 bext Qgk
 cases dst<;>cases o.upd<;>cases o.kill<;>cases o.slot<;>rfl
theorem kups_ok {nt:Nat}:∀ (l:List (Nm×KOb)) {σ:SpO},(∀ p∈l,p.2.ok)→qkl nt σ→qkl nt (kups l σ):=by
 intro l
 induction l with
 | nil=>intro σ _ h;exact h
 | cons p l ih =>
  obtain⟨nm,o⟩:=p
  intro σ hl h
  exact ih (fun q hq=>hl q (List.mem_cons_of_mem _ hq)) (h.kput nm (hl (nm,o) List.mem_cons_self))
theorem kups_st {nt:Nat}:∀ (l:List (Nm×KOb)) {σ:SpO},(∀ p∈l,p.2.ok)→qkl nt σ→qfb nt (kups l σ)=qj7 (l.map fun p=>(p.1,p.2.ob)) (qfb nt σ):=by
 intro l
 induction l with
 | nil=>intro σ _ h;rfl
 | cons p l ih =>
  obtain⟨nm,o⟩:=p
  intro σ hl h
  show qfb nt (kups l (kput σ nm o))=qj7 (l.map fun p=>(p.1,p.2.ob)) (qcz (qfb nt σ) nm o.ob)
  rw[ih (fun q hq=>hl q (List.mem_cons_of_mem _ hq)) (h.kput nm (hl (nm,o) List.mem_cons_self)),qk5 h]
theorem qq3 (h:ks.Ok) {o:qb8} (hq:(o.frz.isEmpty||qjm ks.objs)=true) (dst:Option Nat) (ho:o.Ok):(qmb ks dst o).st=apply ks.st dst o.out∧(qmb ks dst o).Ok:=by
 rw[Qd7]
 unfold qmb qb8.out
 simp only
 have h1:(kupd o.upd ks).Ok∧(kupd o.upd ks).st=bupd (o.upd.map fun p=>(p.1,p.2.ob)) ks.st:=by
  cases hu:o.upd with
  | none=>exact⟨h,rfl⟩
  | some p =>
   obtain⟨nm,ob⟩:=p
   refine⟨⟨h.tm,h.ob.kput nm (ho.upd _ _ hu),h.kp⟩,?_⟩
   simp only[Option.map_some,kupd,bupd,KSt.st]
   rw[qk5 h.ob]
 rw[←h1.2]
 generalize kupd o.upd ks=k1 at h1 ⊢
 have h2:(kkill o.kill k1).Ok∧(kkill o.kill k1).st=Ql3 o.kill k1.st:=by
  cases hu:o.kill with
  | none=>exact⟨h1.1,rfl⟩
  | some nm =>
   refine⟨Qk4 _ h1.1,?_⟩
   simp only[kkill,Ql3]
   rw[Qk3 _ h1.1]
   congr 1
   funext m
   unfold qqe
   by_cases hm:m=nm
   ·simp[hm]
   ·simp[hm]
 rw[←h2.2]
 generalize kkill o.kill k1=k2 at h2 ⊢
 have h3:(kfrzs (qc1 ks.objs) o.frz k2).Ok∧(kfrzs (qc1 ks.objs) o.frz k2).st=(if o.frz.isEmpty=true then k2.st else qcb (qbo ks.st.objs) o.frz k2.st):=by
  cases hf:o.frz with
  | nil=>exact⟨h2.1,rfl⟩
  | cons nm R =>
   have hq:qjm ks.objs=true:=by rw[hf] at hq;simpa using hq
   refine⟨kfreeze_ok h2.1 (qcj h) (ql4 hq) _,?_⟩
   rw[qdp h]
   exact Qk6 h2.1 (qcj h) (ql4 hq) _
 rw[←h3.2]
 generalize kfrzs (qc1 ks.objs) o.frz k2=k4 at h3 ⊢
 have h5:(kgone o.gone k4).Ok∧(kgone o.gone k4).st=bgone o.gone k4.st:=by
  cases hg:o.gone with
  | nil=>exact⟨h3.1,rfl⟩
  | cons nm l =>
   refine⟨Qk4 _ h3.1,?_⟩
   simp only[kgone,bgone,List.isEmpty_cons,Bool.false_eq_true,if_false]
   rw[Qk3 _ h3.1]
   congr 1
 rw[←h5.2]
 generalize kgone o.gone k4=k5 at h5 ⊢
 have h6:(kturn o.ups k5).Ok∧(kturn o.ups k5).st=Ql2 (o.ups.map fun p=>(p.1,p.2.ob)) k5.st:=by
  refine⟨⟨h5.1.tm,kups_ok _ ho.ups h5.1.ob,h5.1.kp⟩,?_⟩
  have:∀ (l:List (Nm×Ob)) (s:St),Ql2 l s={s with objs:=qj7 l s.objs}:=by
   intro l s
   unfold Ql2
   split
   ·rename_i hl;rw[List.isEmpty_iff.1 hl];rfl
   ·rfl
  rw[this]
  simp only[kturn,KSt.st]
  rw[kups_st _ ho.ups h5.1.ob]
 rw[←h6.2]
 generalize kturn o.ups k5=k6 at h6 ⊢
 have h7:(kext o.slot o.new k6).Ok∧(kext o.slot o.new k6).st=bext o.slot (o.new.map KOb.ob) k6.st:=by
  cases hs:o.slot with
  | none=>exact⟨h6.1,rfl⟩
  | some r =>
   simp only[kext,bext]
   cases hr:Nat.blt r k6.nt with
   | true =>
    have hr':r < k6.nt:=by simpa[Nat.blt_eq] using hr
    refine⟨⟨h6.1.tm,h6.1.ob.put hr' fun x hx=>?_,h6.1.kp⟩,?_⟩
    ·rcases List.mem_append.1 hx with hx | hx
     ·exact h6.1.ob.get_ok hx
     ·exact ho.new x hx
    ·unfold KSt.st
     simp only
     rw[qh8,List.map_append]
     congr 3
     rw[List.getD_eq_getElem?_getD,denseO_get?,if_pos hr']
     rfl
   | false =>
    have hr':¬ r < k6.nt:=by intro h;rw[show Nat.blt r k6.nt=true by simpa[Nat.blt_eq] using h] at hr;cases hr
    refine⟨h6.1,?_⟩
    unfold KSt.st
    simp only
    rw[List.set_eq_of_length_le (by rw[qde];omega)]
 rw[←h7.2]
 have hnew2:Qgk o.slot (o.new.map KOb.ob)=(newAt o.slot o.new).map KOb.ob:=by cases o.slot<;>rfl
 rw[hnew2]
 have honew:∀ x∈newAt o.slot o.new,x.ok:=by
  cases o.slot with
  | none=>exact ho.new
  | some r=>intro x hx;cases hx
 generalize newAt o.slot o.new=nw at honew ⊢
 generalize kext o.slot o.new k6=k3 at h7 ⊢
 obtain⟨ok3,_⟩:=h7
 cases dst with
 | none=>exact⟨rfl,ok3⟩
 | some d =>
  simp only[kset,bset]
  cases hd:Nat.blt d k3.nt with
  | true =>
   have hd':d < k3.nt:=by simpa[Nat.blt_eq] using hd
   refine⟨?_,?_⟩
   ·unfold KSt.st
    simp only
    rw[Qh6]
    cases hn:nw with
    | nil=>simp
    | cons x xs=>simp[qh8]
   ·refine⟨ok3.tm.set hd' ho.v,?_,ok3.kp⟩
    simp only
    cases hn:nw with
    | nil=>exact ok3.ob
    | cons x xs=>rw[hn] at honew;exact ok3.ob.put hd' honew
  | false =>
   have hd':¬ d < k3.nt:=by intro h;rw[show Nat.blt d k3.nt=true by simpa[Nat.blt_eq] using h] at hd;cases hd
   refine⟨?_,ok3⟩
   unfold KSt.st
   simp only
   rw[List.set_eq_of_length_le (by rw[qb5];omega)]
   split
   ·rfl
   ·rw[List.set_eq_of_length_le (by rw[qde];omega)]
end Go.Ab


namespace Go.Ab
theorem Qnv (T:List PV):∀ (ps:List (Nat×Nat×RX)) (z:List PV),qhq [] z (ps.map fun p=>(p.1,p.2.1,.c (p.2.2.ev T)))=qhq T z ps:=by
 intro ps
 induction ps with
 | nil=>intro z;rfl
 | cons p ps ih =>
  obtain⟨off,n,x⟩:=p
  intro z
  simp only[List.map_cons,qhq]
  rw[ih]
  rfl
theorem qlv (T:List PV) (x:Option RX):evO [] (x.map fun y=>.c (y.ev T))=evO T x:=by cases x<;>rfl
theorem exec_inst (d:Nat) (σ:Nm→Option Ob) (T:List PV) (op:ROp) (hg:isG op=true):exec d σ [] (op.mapX fun x=>.c (x.ev T))=exec d σ T op:=by
 cases op with
 | build z ps=>simp only[ROp.mapX,exec];rw[Qnv T]
 | slice k x lo hi mx=>simp only[ROp.mapX,exec];rw[qlv,qlv,qlv];rfl
 | strSlice x lo hi=>simp only[ROp.mapX,exec];rw[qlv,qlv];rfl
 | minmax mx xs=>simp only[ROp.mapX,exec,List.map_map];rfl
 | mov | pick | box | alloc | mkSl | store | mkI | mkF | mkMap | insert | mkS | append | copy | call | iter | next | bad=>simp[isG] at hg
 | _=>rfl
theorem qjl {f g:RX→RX} {o:Option RX} (h:∀ a∈o.toList,f a=g a):o.map f=o.map g:=by
 cases o with
 | none=>rfl
 | some a=>simp[h a (by simp)]
theorem mapX_congr {f g:RX→RX} (op:ROp) (hg:isG op=true) (h:∀ x∈op.xs,f x=g x):op.mapX f=op.mapX g:=by
 cases op with
 | build z ps =>
  simp only[ROp.mapX]
  congr 1
  apply List.map_congr_left
  intro p hp
  rw[h p.2.2 (List.mem_map.2 ⟨p,hp,rfl⟩)]
 | slice k x lo hi mx =>
  simp only[ROp.mapX,ROp.xs] at h ⊢
  rw[h x (by simp),qjl (o:=lo) fun a ha=>h a (by simp[ha]),qjl (o:=hi) fun a ha=>h a (by simp[ha]),qjl (o:=mx) fun a ha=>h a (by simp[ha])]
 | strSlice x lo hi =>
  simp only[ROp.mapX,ROp.xs] at h ⊢
  rw[h x (by simp),qjl (o:=lo) fun a ha=>h a (by simp[ha]),qjl (o:=hi) fun a ha=>h a (by simp[ha])]
 | minmax mx xs=>simp only[ROp.mapX];congr 1;exact List.map_congr_left h
 | mov | pick | box | alloc | mkSl | store | mkI | mkF | mkMap | insert | mkS | append | copy | call | iter | next | bad=>simp[isG] at hg
 | bin op c cst x y=>simp only[ROp.mapX,ROp.xs] at h ⊢;rw[h x (by simp),h y (by simp)]
 | lookup c z ok x k=>simp only[ROp.mapX,ROp.xs] at h ⊢;rw[h x (by simp),h k (by simp)]
 | idxAddr k x i=>simp only[ROp.mapX,ROp.xs] at h ⊢;rw[h x (by simp),h i (by simp)]
 | idxAddrA k l x i=>simp only[ROp.mapX,ROp.xs] at h ⊢;rw[h x (by simp),h i (by simp)]
 | strIdx x i=>simp only[ROp.mapX,ROp.xs] at h ⊢;rw[h x (by simp),h i (by simp)]
 | load n ag x | nilck x | un op x | conv k x | toBytes x | ofBytes x | ofRune x | strId x | fieldAddr off x | field off n ag x | extract j x | len c x | tassert t z ok x=>simp only[ROp.mapX,ROp.xs] at h ⊢;rw[h x (by simp)]
theorem reach_nil' (σ:Nm→Option Ob):∀ d,qcm σ d []=[]:=by
 intro d;induction d with
 | zero=>rfl
 | succ d ih=>simp[qcm,ih]
theorem Qhw {d:Nat} {σ:Nm→Option Ob} {T:List PV} {op:ROp} (hg:isG op=true) (hx:∀ x∈op.xs,okV (x.ev T)=true):exec d σ T op=exec 0 (fun _=>none) T op:=by
 have h1:exec d σ T op=exec 0 σ T op:=by cases op<;>simp[isG] at hg<;>rfl
 rw[h1]
 refine Qb8 op (fun _ _=>rfl) ?_
 have:qbm (op.xs.map (RX.ev T))=[]:=(qb4 (qd2.2 fun v hv=>by
  obtain⟨x,hx',rfl⟩:=List.mem_map.1 hv
  exact hx x hx')).1
 rw[this]
 intro nm hnm
 rw[reach_nil'] at hnm;cases hnm
theorem okV_fill {T:List PV}:∀ (ps:List (Nat×Nat×RX)) (z cs:List PV),qb3 z=true→(∀ x∈ps.map (·.2.2),okV (x.ev T)=true)→qhq T z ps=some cs→qb3 cs=true:=by
 intro ps
 induction ps with
 | nil=>intro z cs hz _ h;simp[qhq] at h;subst h;exact hz
 | cons p ps ih =>
  obtain⟨off,n,y⟩:=p
  intro z cs hz hp h
  simp only[qhq] at h
  obtain⟨_,h⟩:=qd1 h
  refine ih _ cs ?_ (fun x hx=>hp x (by simp only[List.map_cons,List.mem_cons];exact .inr hx)) h
  exact qfd (qfd (qgl hz _) (qco (hp y (by simp)))) (qhk hz _)
theorem qxn {cs:List PV} (h:qb3 cs=true) {o n:Nat} {ag:Bool} {v:PV} (hs:sel cs o n ag=some v):okV v=true:=by
 unfold sel at hs
 split at hs
 ·obtain⟨_,hs⟩:=qd1 hs
  cases hs
  simpa[okV] using qgl (qhk h o) n
 ·exact qjg h hs
theorem Qcz {k:PV}:∀ {es:List PV} {v:PV},qm5 k es=some (some v)→qb3 es=true→okV v=true
 | [],v,h,_=>by simp[qm5] at h
 | [_],v,h,_=>by simp[qm5] at h
 | a :: u :: es,v,h,he=>by
  simp only[qb3,Bool.and_eq_true] at he
  simp only[qm5] at h
  split at h
  ·cases h;exact he.2.1
  ·exact Qcz h he.2.2
  ·cases h
theorem Qko {k:Nat} {x v:PV} {lo hi mx:Option PV} (hx:okV x=true) (h:qh3 k x lo hi mx=some v):okV v=true:=by
 cases x with
 | sl k' xs full =>
  simp only[qh3] at h
  split at h
  ·cases h
  split at h
  ·cases h
  split at h
  ·cases h
  obtain⟨_,h⟩:=qd1 h
  cases h
  simp only[okV] at hx ⊢
  exact qhk (qgl hx _) _
 | nilS =>
  simp only[qh3] at h
  split at h
  ·cases h
  split at h
  ·cases h
  split at h
  ·cases h
  obtain⟨_,h⟩:=qd1 h
  cases h;rfl
 | arr nm k' o n=>simp[okV] at hx
 | _=>simp[qh3] at h
theorem Qga (s:List UInt8):qb3 (qc3 s)=true:=qd2.2 fun x hx=>by
 obtain⟨b,_,rfl⟩:=List.mem_map.1 hx
 rfl
theorem okV_binPV {op:BinOp} {c:TC} {cst:Bool} {x y v:PV} (h:qly op c cst x y=some v):okV v=true:=by
 have hI:∀ {op k a b v},qkb op k a b=some v→okV v=true:=by
  intro op k a b v h
  unfold qkb at h
  split at h
  all_goals first
   |(cases h;rfl)
   |(obtain⟨_,h⟩:=qd1 h;cases h;rfl)
   |(obtain⟨b,_,rfl⟩:=Option.map_eq_some_iff.1 h;rfl)
 have hS:∀ {op a b v},qzi op a b=some v→okV v=true:=by
  intro op a b v h
  unfold qzi at h
  split at h
  all_goals first
   |(cases h;rfl)
   |(obtain⟨_,h⟩:=qd1 h;cases h;rfl)
   | cases h
 unfold qly at h
 split at h
 ·split at h
  ·obtain⟨_,h⟩:=qd1 h;cases h;rfl
  ·obtain⟨_,h⟩:=qd1 h;cases h;rfl
  ·obtain⟨_,h⟩:=qd1 h;exact hI h
 ·exact hS h
 ·split at h
  ·obtain⟨b,_,rfl⟩:=Option.map_eq_some_iff.1 h;rfl
  ·obtain⟨b,_,rfl⟩:=Option.map_eq_some_iff.1 h;rfl
  ·cases h
structure Plain (o:Out):Prop where
 eq:o={v:=o.v}
 ok:okV o.v=true
theorem Plain.mk' {v:PV} (h:okV v=true):Plain {v:=v}:=⟨rfl,h⟩
theorem qr1 {x:Option PV} {out:Out} (h:(x.map fun v=>({v:=v}:Out))=some out) (hv:∀ v,x=some v→okV v=true):Plain out:=by
 obtain⟨v,hx,rfl⟩:=Option.map_eq_some_iff.1 h
 exact .mk' (hv v hx)
theorem exec_plain {T:List PV} {op:ROp} (hg:isG op=true) (hx:∀ x∈op.xs,okV (x.ev T)=true) (hz:∀ z ps,op=.build z ps→qb3 z=true) (hl:∀ c z ok x k,op=.lookup c z ok x k→okV z=true)
  (ht:∀ t z ok x,op=.tassert t z ok x→okV z=true) {out:Out} (h:exec 0 (fun _=>none) T op=some out):Plain out:=by
 cases op with
 | mov | pick | box | alloc | mkSl | store | mkI | mkF | mkMap | insert | mkS | append | copy | call | iter | next | bad=>simp[isG] at hg
 | build z ps =>
  simp only[exec] at h
  split at h
  ·rename_i cs hc
   cases h
   exact .mk' (by simpa[okV] using okV_fill ps z cs (hz z ps rfl) hx hc)
  ·cases h
 | load n ag x =>
  have hv:=hx x (by simp[ROp.xs])
  simp only[exec] at h
  split at h
  ·rename_i e;rw[e] at hv;simp[okV] at hv
  ·rename_i e;rw[e] at hv
   exact qr1 h fun v hs=>qxn (by simpa[okV] using hv) hs
  ·rename_i e;rw[e] at hv;simp[okV] at hv
  ·cases h
 | nilck x =>
  have hv:=hx x (by simp[ROp.xs])
  simp only[exec] at h
  split at h
  all_goals first
   |(rename_i e;rw[e] at hv;cases h;exact .mk' hv)
   | cases h
 | bin op c cst x y=>simp only[exec] at h;exact qr1 h fun v=>okV_binPV
 | un op x =>
  simp only[exec] at h
  split at h
  ·cases h;exact .mk' rfl
  ·cases h;exact .mk' rfl
  ·cases h
 | conv k x=>simp only[exec] at h;split at h;(cases h;exact .mk' rfl);cases h
 | toBytes x =>
  simp only[exec] at h;split at h
  ·obtain⟨_,h⟩:=qd1 h;cases h;exact .mk' (by simpa[okV] using Qga _)
  ·cases h
 | ofBytes x =>
  simp only[exec] at h;split at h
  ·split at h
   ·cases h;exact .mk' rfl
   ·cases h
  ·cases h
 | ofRune x=>simp only[exec] at h;split at h;(cases h;exact .mk' rfl);cases h
 | strId x=>simp only[exec] at h;split at h;(cases h;exact .mk' rfl);cases h
 | lookup c z ok x k =>
  have hv:=hx x (by simp[ROp.xs])
  have hz:=hl c z ok x k rfl
  simp only[exec] at h
  have hes:∀ es,(match x.ev T with | .mp nm=>(none:Option (List PV)) | .imap es=>some es | .nilM=>some [] | _=>none)=some es→qb3 es=true:=by
   intro es he
   cases hq:x.ev T<;>rw[hq] at he hv<;>simp only[reduceCtorEq,Option.some.injEq] at he
   ·subst he;rfl
   ·subst he;simpa[okV] using hv
  split at h
  ·cases h
  ·rename_i es he
   split at h
   ·cases h
   ·rename_i r hr
    obtain⟨_,h⟩:=qd1 h
    cases h
    have hes':qb3 es=true:=hes es (by revert he;cases x.ev T<;>exact id)
    have hrz:okV (r.getD z)=true:=by
     cases r with
     | none=>exact hz
     | some v=>exact Qcz hr hes'
    refine .mk' ?_
    split
    ·simp[okV,qb3,hrz]
    ·exact hrz
 | slice k x lo hi mx=>simp only[exec] at h;exact qr1 h fun v hs=>Qko (hx x (by simp[ROp.xs])) hs
 | strSlice x lo hi =>
  simp only[exec] at h
  split at h
  ·split at h
   ·cases h
   ·split at h
    ·cases h
    ·cases h;exact .mk' rfl
  ·cases h
 | fieldAddr off x =>
  have hv:=hx x (by simp[ROp.xs])
  simp only[exec] at h
  split at h
  ·rename_i e;rw[e] at hv;simp[okV] at hv
  ·rename_i e;rw[e] at hv;obtain⟨_,h⟩:=qd1 h;cases h;exact .mk' (by simpa[okV] using hv)
  ·rename_i e;rw[e] at hv;simp[okV] at hv
  ·cases h
 | field off n ag x =>
  have hv:=hx x (by simp[ROp.xs])
  simp only[exec] at h
  split at h
  ·rename_i e;rw[e] at hv;exact qr1 h fun v hs=>qxn (by simpa[okV] using hv) hs
  ·cases h
 | idxAddr k x i =>
  have hv:=hx x (by simp[ROp.xs])
  simp only[exec] at h
  split at h
  ·rename_i e;rw[e] at hv
   split at h
   ·rename_i y hy
    obtain⟨_,h⟩:=qd1 h;cases h
    exact .mk' (by simpa[okV] using qco (qjg (by simpa[okV] using hv) hy))
   ·cases h
  ·rename_i e;rw[e] at hv;simp[okV] at hv
  ·cases h
 | idxAddrA k l x i =>
  have hv:=hx x (by simp[ROp.xs])
  simp only[exec] at h
  split at h
  ·rename_i e;rw[e] at hv;obtain⟨_,h⟩:=qd1 h;cases h;exact .mk' (by simpa[okV] using hv)
  ·rename_i e;rw[e] at hv;simp[okV] at hv
  ·cases h
 | strIdx x i =>
  simp only[exec] at h
  split at h
  ·split at h
   ·cases h;exact .mk' rfl
   ·cases h
  ·cases h
 | extract j x =>
  have hv:=hx x (by simp[ROp.xs])
  simp only[exec] at h
  split at h
  ·rename_i e;rw[e] at hv
   split at h
   ·rename_i v hg'
    cases h;exact .mk' (qjg (by simpa[okV] using hv) hg')
   ·cases h
  ·cases h
 | len c x=>simp only[exec] at h;obtain⟨n,_,rfl⟩:=Option.map_eq_some_iff.1 h;exact .mk' rfl
 | minmax mx xs =>
  simp only[exec] at h
  split at h
  ·obtain⟨n,_,rfl⟩:=Option.map_eq_some_iff.1 h;exact .mk' rfl
  ·cases h
 | tassert t z ok x =>
  have hv:=hx x (by simp[ROp.xs])
  have hz:=ht t z ok x rfl
  simp only[exec] at h
  split at h
  ·rename_i e;rw[e] at hv
   split at h
   ·cases h
    refine .mk' ?_
    simp only[okV] at hv
    split
    ·simp[okV,qb3,hv]
    ·exact hv
   ·obtain⟨_,h⟩:=qd1 h;cases h;exact .mk' (by simp[okV,qb3,hz])
  ·obtain⟨_,h⟩:=qd1 h;cases h;exact .mk' (by simp[okV,qb3,hz])
  ·cases h
end Go.Ab


namespace Go.Ab
theorem qb6 {α β:Type} {x:Option α} {f:α→Option β} {r:β} (h:qba x f=some r):∃ a,x=some a∧f a=some r:=by
 cases x with
 | none=>cases h
 | some a=>exact⟨a,rfl,h⟩
theorem qbp {β:Type} {b:Bool} {a:Option β} {r:β} (h:qbq b a=some r):b=true∧a=some r:=by
 cases b with
 | false=>cases h
 | true=>exact⟨rfl,h⟩
theorem qk0 {β:Type} {b:Bool} {x y:Option β} {r:β} (h:qrk b x y=some r):(b=true∧x=some r)∨(b=false∧y=some r):=by
 cases b with
 | false=>exact .inr ⟨rfl,h⟩
 | true=>exact .inl ⟨rfl,h⟩
theorem qsd {β:Type} {v:PV} {x y:Option β} {r:β} (h:qca v x y=some r):(v=.bool true∧x=some r)∨(v=.bool false∧y=some r):=by
 unfold qca at h
 split at h
 ·exact .inl ⟨rfl,h⟩
 ·exact .inr ⟨rfl,h⟩
 ·cases h
theorem qx2 {a b:Nat}:leN a b=true↔a≤b:=by unfold leN;rw[Nat.ble_eq]
theorem qtk {a b:Nat}:ltN a b=true↔a < b:=by unfold ltN;rw[Nat.blt_eq]
theorem qy7 {a b:Nat}:eqN a b=true↔a=b:=by unfold eqN;rw[Nat.beq_eq]
def Tells {R:Type} (K:qb8→Option R) (r:R) (x:Option Out):Prop:=∃ out:qb8,K out=some r∧out.Ok∧x=some out.out
theorem qb8.plain {v:KV} (h:v.ok):qb8.Ok {v}:=⟨h,by simp,by simp,by simp⟩
theorem qb8.one {v:KV} {o:KOb} (h:v.ok) (ho:o.ok):qb8.Ok {v,new:=[o]}:=⟨h,by simpa using ho,by simp,by simp⟩
theorem qb8.turn {v:KV} {nm:Nm} {o:KOb} (h:v.ok) (ho:o.ok):qb8.Ok {v,upd:=some (nm,o)}:=⟨h,by simp,fun _ _ e=>(by cases e;exact ho),by simp⟩
variable {ks:KSt} {d:Nat} {R:Type} {K:qb8→Option R} {r:R}
theorem ops_ok (h:ks.Ok) {xs:List RX} (hx:xs.all okX=true) {x:RX} (hm:x∈xs):(x.kv ks.tmps).ok:=kv_ok h (List.all_eq_true.1 hx x hm)
theorem cl_ev (h:ks.Ok) {x:RX} {v:PV} (hv:(x.kv ks.tmps).cl=some v):x.ev ks.st.tmps=v:=by rw[qs7 h,KV.cl_pv hv]
theorem qk2 (h:ks.Ok) {op:ROp} (hx:op.xs.all okX=true) (hk:gO ks.tmps op K=some r):Tells K r (exec d (qbo ks.st.objs) ks.st.tmps op):=by
 unfold gO at hk
 split at hk
 ·rename_i hc
  simp only[Bool.and_eq_true] at hc
  obtain⟨⟨hg,hop⟩,hcl⟩:=hc
  obtain⟨z,hz,hk⟩:=qb6 hk
  have hall:∀ x∈op.xs,∃ v,(x.kv ks.tmps).cl=some v:=fun x hm=>Option.isSome_iff_exists.1 (List.all_eq_true.1 hcl x hm)
  have hev:∀ x∈op.xs,okV (x.ev ks.st.tmps)=true:=fun x hm=>by
   obtain⟨v,hv⟩:=hall x hm
   rw[cl_ev h hv];exact KV.cl_ok (ops_ok h hx hm) hv
  have hmap:op.mapX (instX ks.tmps)=op.mapX (fun x=>.c (x.ev ks.st.tmps)):=mapX_congr op hg fun x hm=>by
   obtain⟨v,hv⟩:=hall x hm
   unfold instX;rw[hv,cl_ev h hv];rfl
  unfold qbb at hz
  rw[hmap,exec_inst _ _ _ _ hg] at hz
  split at hz
  ·rename_i out ho
   cases hz
   have hp:=exec_plain hg hev (fun z ps e=>by subst e;exact hop) (fun c z ok x k e=>by subst e;exact hop) (fun t z ok x e=>by subst e;exact hop) ho
   refine⟨{v:=.cv out.v},hk,qb8.plain hp.ok,?_⟩
   rw[Qhw hg hev,ho,hp.eq]
   rfl
  ·cases hz
 ·cases hk
theorem Qjf {n:Nat} {x:KV} (hx:x.ok) {K:List KV→Option R} (hk:Qpa n x K=some r):∃ cs,K cs=some r∧qf6 cs∧pvL cs=x.pv.cells∧cs.length=n∧x.pv.isVal=true:=by
 unfold Qpa at hk
 split at hk
 ·split at hk
  ·rename_i hn;exact⟨_,hk,hx,rfl,hn,rfl⟩
  ·cases hk
 ·rename_i v
  obtain⟨h1,h2⟩:=qbp hk
  unfold qbi at h1
  simp only[Bool.and_eq_true,beq_iff_eq] at h1
  refine⟨_,h2,?_,?_,by simp,h1.1⟩
  ·refine qct.2 fun y hy=>?_
   obtain⟨i,hi,rfl⟩:=List.mem_map.1 hy
   have hv:okV v=true:=hx
   show okV (qbf v i)=true
   unfold qbf
   rw[List.getD_eq_getElem?_getD]
   cases hg:v.cells[i]? with
   | none=>rfl
   | some c=>exact qjg (qco hv) hg
  ·rw[qfq,List.map_map]
   show _=v.cells
   apply List.ext_getElem?
   intro i
   rw[List.getElem?_map]
   by_cases hi:i < n
   ·rw[List.getElem?_range hi]
    show some (qbf v i)=_
    unfold qbf
    rw[List.getD_eq_getElem?_getD]
    have:i < v.cells.length:=by omega
    simp[List.getElem?_eq_getElem this]
   ·rw[List.getElem?_eq_none (by simpa using hi),List.getElem?_eq_none (by omega)];rfl
 ·cases hk
 ·cases hk
 ·cases hk
 ·rename_i h1 h2 h3 h4 h5
  split at hk
  ·rename_i hn
   refine⟨_,hk,⟨hx,trivial⟩,?_,by simp[hn],?_⟩
   ·simp only[pvL]
    cases x<;>simp_all [KV.pv,PV.cells]
   ·cases x<;>simp_all [KV.pv,PV.isVal]
  ·cases hk
theorem qny {l:List KV} (h:qf6 l) (n:Nat):qf6 (l.take n):=qct.2 fun x hx=>qct.1 h x (List.mem_of_mem_take hx)
theorem qnz {l:List KV} (h:qf6 l) (n:Nat):qf6 (l.drop n):=qct.2 fun x hx=>qct.1 h x (List.mem_of_mem_drop hx)
theorem qg3 {l m:List KV} (h:qf6 l) (h':qf6 m):qf6 (l++m):=qct.2 fun x hx=>(List.mem_append.1 hx).elim (qct.1 h x) (qct.1 h' x)
theorem qps (l:List KV) (n:Nat):pvL (l.take n)=(pvL l).take n:=by rw[qfq,qfq,List.map_take]
theorem qpt (l:List KV) (n:Nat):pvL (l.drop n)=(pvL l).drop n:=by rw[qfq,qfq,List.map_drop]
theorem qpu (l m:List KV):pvL (l++m)=pvL l++pvL m:=by rw[qfq,qfq,qfq,List.map_append]
theorem qd5 (l:List KV):(pvL l).length=l.length:=by rw[qfq,List.length_map]
theorem pvL_get? (l:List KV) (i:Nat):(pvL l)[i]?=(l[i]?).map KV.pv:=by rw[qfq,List.getElem?_map]
theorem kfill_ok (h:ks.Ok):∀ (ps:List (Nat×Nat×RX)) {z:List KV} {K:List KV→Option R},(∀ x∈ps.map (·.2.2),okX x=true)→qf6 z→kfill ks.tmps z ps K=some r→∃ cs,K cs=some r∧qf6 cs∧qhq ks.st.tmps (pvL z) ps=some (pvL cs):=by
 intro ps
 induction ps with
 | nil=>intro z K _ hz hk;exact⟨z,hk,hz,rfl⟩
 | cons p ps ih =>
  obtain⟨off,n,x⟩:=p
  intro z K hx hz hk
  simp only[kfill] at hk
  obtain⟨cs,hk,hcs,hpv,hlen,hval⟩:=Qjf (kv_ok h (hx x (by simp))) hk
  split at hk
  ·rename_i hle
   obtain⟨cs',h1,h2,h3⟩:=ih (fun y hy=>hx y (by simp only[List.map_cons,List.mem_cons];exact .inr hy)) (qg3 (qg3 (qny hz _) hcs) (qnz hz _)) hk
   refine⟨cs',h1,h2,?_⟩
   have hl2:(pvL cs).length=n:=by rw[qd5,hlen]
   have hval':(x.ev ks.st.tmps).isVal=true:=by rw[qs7 h];exact hval
   have hcl':(x.ev ks.st.tmps).cells=pvL cs:=by rw[qs7 h];exact hpv.symm
   simp only[qhq]
   rw[hcl']
   unfold chk splice
   simp only[hval',hl2,qd5,decide_true,Bool.and_self,Bool.true_and,hle,if_true]
   rw[qpu,qpu,qps,qpt] at h3
   exact h3
  ·cases hk
theorem qy8 (h:ks.Ok) {k:Nat} {x:KV} (hx:x.ok) {K:List PV→Option R} (hk:Qh3 (qc1 ks.objs) k x K=some r):∃ ys,K ys=some r∧qb3 ys=true∧elems (qbo ks.st.objs) k x.pv=some ys:=by
 unfold Qh3 at hk
 split at hk
 ·rename_i nm k' o n
  split at hk
  ·rename_i k'' kt xs hl
   split at hk
   ·rename_i hkk
    obtain⟨h1,h2⟩:=qbp hk
    rw[qx2] at h1
    have hok:qb3 xs=true:=qc9 h.ob hl
    refine⟨_,h2,qgl (qhk hok _) _,?_⟩
    have hl':qbo ks.st.objs nm=some (.arr k'' kt xs):=by rw[qjz h,hl];rfl
    unfold qdu qbu at h1
    simp[KV.pv,elems,hl',chk,hkk.1,hkk.2,h1,qb1,qcx]
   ·cases hk
  ·cases hk
 ·split at hk
  ·rename_i v hv
   obtain⟨ys,h1,h2⟩:=qb6 hk
   have hok:=KV.cl_ok hx hv
   have hpv:=KV.cl_pv hv
   unfold qsp at h1
   have h3:elems (qbo ks.st.objs) k v=some ys:=by
    rw[←h1]
    exact qm9 (by rw[(qgb hok).1];simp)
   refine⟨ys,h2,?_,by rw[hpv];exact h3⟩
   cases v with
   | sl k' xs f=>simp only[elems] at h1;obtain⟨_,h1⟩:=qd1 h1;cases h1;simpa[okV] using hok
   | nilS=>cases h1;rfl
   | str s=>simp only[elems] at h1;obtain⟨_,h1⟩:=qd1 h1;cases h1;exact Qga _
   | arr nm k' o n=>simp[okV] at hok
   | _=>simp[elems] at h1
  ·cases hk
theorem qza {xs:List KV} (hx:qf6 xs):(qbm (pvL xs)).isEmpty=(qdn xs).isEmpty:=by rw[qdy hx]
theorem qgn {σ:Nm→Option KOb} (hσ:∀ nm o,σ nm=some o→o.ok):∀ (d:Nat) (l:List Nm),ql8 σ d l=qcm (fun nm=>(σ nm).map KOb.ob) d l:=by
 intro d
 induction d with
 | zero=>intro l;rfl
 | succ d ih =>
  intro l
  simp only[ql8,qcm]
  have e:(l.flatMap fun nm=>((σ nm).map KOb.names).getD [])=l.flatMap fun nm=>(((σ nm).map KOb.ob).map Ob.names).getD []:=by
   congr 1
   funext nm
   cases ho:σ nm with
   | none=>rfl
   | some o=>simp[KOb.ob_names (hσ _ _ ho)]
  rw[ih,e]
theorem names_eq {σ:Nm→Option KOb} (hσ:∀ nm o,σ nm=some o→o.ok) (nm:Nm):((σ nm).map KOb.names).getD []=(((σ nm).map KOb.ob).map Ob.names).getD []:=by
 cases ho:σ nm with
 | none=>rfl
 | some o=>simp[KOb.ob_names (hσ _ _ ho)]
theorem qp0 {σ:Nm→Option KOb} (hσ:∀ nm o,σ nm=some o→o.ok) (R:List Nm):Qgx σ R=qjk (fun nm=>(σ nm).map KOb.ob) R:=by
 unfold Qgx qjk
 congr 1
 funext nm
 simp only
 rw[names_eq hσ]
theorem qpi (h:ks.Ok) {xs:List KV} (hx:qf6 xs):qk7 (qdo (qc1 ks.objs) qbn) xs=qfx (qci (qbo ks.st.objs)) (pvL xs):=by
 rw[qmp _ hx]
 congr 1
 funext nm
 exact kclosed_st h nm
theorem qn1 (h:ks.Ok) (ps:List RX):ps.map (RX.ev ks.st.tmps)=pvL (ps.map (RX.kv ks.tmps)):=by
 rw[qfq,List.map_map]
 exact List.map_congr_left fun x _=>qs7 h x
theorem qxy (h:ks.Ok) {ps:List RX} (hx:ps.all okX=true):qf6 (ps.map (RX.kv ks.tmps)):=qct.2 fun v hv=>by
 obtain⟨x,hm,rfl⟩:=List.mem_map.1 hv
 exact ops_ok h hx hm
theorem qzv {z:PV} (hz:okV z=true) (n:Nat):qb3 (List.replicate n z)=true:=qd2.2 fun x hx=>by rw[(List.mem_replicate.1 hx).2];exact hz
theorem Qmz {z:List PV} (hz:qb3 z=true):qf6 (z.map cstK):=qct.2 fun v hv=>by
 obtain⟨x,hm,rfl⟩:=List.mem_map.1 hv
 exact cstK_ok (qd2.1 hz x hm)
theorem pvL_cst (z:List PV):pvL (z.map cstK)=z:=by
 rw[qfq,List.map_map]
 have:KV.pv∘cstK=id:=funext fun v=>cstK_pv v
 rw[this,List.map_id]
theorem qxo {k v:PV}:∀ {es es':List PV},setE k v es=some es'→qb3 es=true→okV k=true→okV v=true→qb3 es'=true
 | [],es',h,_,hk,hv=>by simp[setE] at h;subst h;simp[qb3,hk,hv]
 | [_],es',h,_,_,_=>by simp[setE] at h
 | a :: u :: es,es',h,he,hk,hv=>by
  simp only[qb3,Bool.and_eq_true] at he
  simp only[setE] at h
  split at h
  ·cases h;simp[qb3,hk,hv,he.2.2]
  ·obtain⟨l,hl,rfl⟩:=Option.map_eq_some_iff.1 h
   simp[qb3,he.1,he.2.1,qxo hl he.2.2 hk hv]
  ·cases h
end Go.Ab


namespace Go.Ab
variable {ks:KSt} {d:Nat} {R:Type} {K:qb8→Option R} {r:R}
theorem cells_agg (cs:List PV):(PV.agg cs).cells=cs:=rfl
theorem execK_ok {cfg:qzo} (h:ks.Ok) {op:ROp} (hq:(qjm ks.objs||calmX cfg op ks.tmps)=true) (hx:op.xs.all okX=true) (hk:qhr d (qc1 ks.objs) ks.tmps op K=some r):Tells K r (exec d (qbo ks.st.objs) ks.st.tmps op):=by
 have ev:=qs7 h
 have lk:=qjz h
 have hkv:∀ {x:RX},x∈op.xs→(x.kv ks.tmps).ok:=fun hm=>ops_ok h hx hm
 cases op with
 | mov x =>
  refine⟨_,hk,qb8.plain (hkv (by simp[ROp.xs])),?_⟩
  simp[exec,qb8.out,ev]
 | pick c a b =>
  have ha:=hkv (x:=a) (by simp[ROp.xs])
  have hb:=hkv (x:=b) (by simp[ROp.xs])
  simp only[qhr] at hk
  split at hk
  ·rename_i hc
   exact⟨_,hk,qb8.plain ha,by simp[exec,qb8.out,ev,hc,KV.pv]⟩
  ·rename_i hc
   exact⟨_,hk,qb8.plain hb,by simp[exec,qb8.out,ev,hc,KV.pv]⟩
  ·rename_i v hc
   rcases qsd hk with ⟨rfl,hk⟩ | ⟨rfl,hk⟩
   ·exact⟨_,hk,qb8.plain ha,by simp[exec,qb8.out,ev,hc,KV.pv]⟩
   ·exact⟨_,hk,qb8.plain hb,by simp[exec,qb8.out,ev,hc,KV.pv]⟩
  ·cases hk
 | box x =>
  have ha:=hkv (x:=x) (by simp[ROp.xs])
  simp only[qhr] at hk
  split at hk
  ·rename_i v hv
   obtain⟨h1,hk⟩:=qbp hk
   rw[hv] at ha
   unfold qjc at h1
   exact⟨_,hk,qb8.one (o:=.whole 0 v) trivial ha,by simp[exec,qb8.out,ev,hv,KV.pv,chk,h1,KOb.ob,qfu]⟩
  ·rename_i cs hv
   rw[hv] at ha
   exact⟨_,hk,qb8.one (o:=.cells 0 cs) trivial ha,by simp[exec,qb8.out,ev,hv,KV.pv,chk,PV.isVal,KOb.ob,PV.cells]⟩
  ·cases hk
  ·cases hk
  ·cases hk
  ·refine⟨_,hk,qb8.one (v:=.ref (d,0) 0) (o:=.cells 0 [x.kv ks.tmps]) trivial ⟨ha,trivial⟩,?_⟩
   simp only[exec,qb8.out,ev]
   cases hy:x.kv ks.tmps<;>simp_all [KV.pv,chk,PV.isVal,KOb.ob,PV.cells,pvL]
 | alloc ty z =>
  simp only[qhr] at hk
  split at hk
  ·rename_i hz
   exact⟨_,hk,qb8.one (o:=.cells _ (z.map cstK)) trivial (Qmz hz),by simp[exec,qb8.out,KV.pv,KOb.ob,pvL_cst]⟩
  ·cases hk
 | build z ps =>
  simp only[qhr] at hk
  split at hk
  ·exact qk2 h hx hk
  ·split at hk
   ·rename_i hz
    obtain⟨cs,h1,h2,h3⟩:=kfill_ok h ps (fun x hm=>List.all_eq_true.1 hx x hm) (Qmz hz) hk
    rw[pvL_cst] at h3
    exact⟨_,h1,qb8.plain (v:=.agg cs) h2,by simp[exec,qb8.out,h3,KV.pv]⟩
   ·cases hk
 | mkSl k ps =>
  have hok:=qxy h (ps:=ps) hx
  simp only[qhr] at hk
  split at hk
  ·rename_i vs hv
   obtain⟨h1,hk⟩:=qbp hk
   have hpv:=qv4 hv
   refine⟨_,hk,qb8.one (o:=.arr k 0 vs) trivial (qsz hok hv),?_⟩
   have hn:(qbm vs).isEmpty=true:=by rw[(qb4 (qsz hok hv)).1];rfl
   unfold qc7 at h1
   simp only[exec,qn1 h,hpv,hn,if_true,qb8.out,KV.pv,KOb.ob,chk,h1,qbu,List.map_cons,List.map_nil,Option.map_none]
  ·split at hk
   ·cases hk
   ·rename_i hne
    split at hk
    ·rename_i hc
     obtain⟨h1,hk⟩:=qbp hk
     refine⟨_,hk,⟨trivial,?_,by simp,by simp⟩,?_⟩
     ·intro o ho
      simp only[List.mem_singleton] at ho
      subst ho
      exact qjw (qhg (qcj h) (ql4 (by simpa[calmX] using hq)) qbn) hok hc.2
     ·have hne':(qbm (pvL (ps.map (RX.kv ks.tmps)))).isEmpty=false:=by rw[qza hok];simpa using hne
      unfold qc7 at h1
      rw[qpi h hok] at h1
      have hsh:=hc.1
      rw[qgn (qcj h),qp0 (qcj h),←qdp h,←qdy hok] at hsh
      simp only[exec,qn1 h,hne',Bool.false_eq_true,if_false,qb8.out,KV.pv,KOb.ob,qbu,List.map_cons,List.map_nil,Option.map_none]
      rw[qpi h hok,qgn (qcj h),←qdp h,←qdy hok]
      unfold chk
      rw[h1,hsh]
      rfl
    ·cases hk
 | load n ag x =>
  have ha:=hkv (x:=x) (by simp[ROp.xs])
  simp only[qhr] at hk
  split at hk
  ·rename_i nm o hv
   split at hk
   ·rename_i cs hl
    have hcs:qf6 cs:=qc9 h.ob hl
    split at hk
    ·rename_i hag
     split at hk
     ·rename_i hle
      refine⟨_,hk,qb8.plain (v:=.agg ((cs.drop o).take n)) (qny (qnz hcs _) _),?_⟩
      simp[exec,ev,hv,KV.pv,lk,hl,KOb.ob,sel,hag,chk,qd5,hle,qb8.out,qps,qpt]
     ·cases hk
    ·rename_i hag
     split at hk
     ·rename_i c hc
      refine⟨_,hk,qb8.plain (qct.1 hcs c (List.mem_of_getElem? hc)),?_⟩
      simp[exec,ev,hv,KV.pv,lk,hl,KOb.ob,sel,hag,pvL_get?,hc,qb8.out]
     ·cases hk
   ·rename_i v hl
    obtain⟨z,hz,hk⟩:=qb6 hk
    have hv':okV v=true:=qc9 h.ob hl
    unfold qb2 at hz
    refine⟨_,hk,qb8.plain (v:=.cv z) (qxn (qco hv') hz),?_⟩
    simp[exec,ev,hv,KV.pv,lk,hl,KOb.ob,qfu,hz,qb8.out]
   ·cases hk
  ·rename_i nm k i o hv
   split at hk
   ·rename_i k' kt xs hl
    split at hk
    ·rename_i hkk
     obtain⟨z,hz,hk⟩:=qb6 hk
     have hxs:qb3 xs=true:=qc9 h.ob hl
     unfold elemO at hz
     split at hz
     ·rename_i e he
      refine⟨_,hk,qb8.plain (v:=.cv z) (qxn (qco (qjg hxs he)) hz),?_⟩
      simp[exec,ev,hv,KV.pv,lk,hl,KOb.ob,he,hz,chk,hkk,qb8.out]
     ·cases hz
    ·cases hk
   ·cases hk
  ·exact qk2 h hx hk
 | store n x v =>
  have ha:=hkv (x:=x) (by simp[ROp.xs])
  have hb:=hkv (x:=v) (by simp[ROp.xs])
  simp only[qhr] at hk
  split at hk
  ·rename_i nm o hv
   split at hk
   ·rename_i cs hl
    have hcs:qf6 cs:=qc9 h.ob hl
    obtain⟨vs,hk,hvs,hpv,hlen,hval⟩:=Qjf hb hk
    split at hk
    ·rename_i hle
     refine⟨_,hk,qb8.turn (o:=.cells _ (cs.take o++vs++cs.drop (o+n))) trivial (qg3 (qg3 (qny hcs _) hvs) (qnz hcs _)),?_⟩
     have hl2:(pvL vs).length=n:=by rw[qd5,hlen]
     simp[exec,ev,hv,KV.pv,lk,hl,KOb.ob,←hpv,hval,hl2,chk,qd5,hle,qb8.out,splice,qpu,qps,qpt]
    ·cases hk
   ·rename_i w hl
    split at hk
    ·rename_i u hu
     obtain⟨h1,hk⟩:=qbp hk
     have hw:okV w=true:=qc9 h.ob hl
     have huo:=KV.cl_ok hb hu
     unfold okSto at h1
     simp only[Bool.and_eq_true,decide_eq_true_eq] at h1
     refine⟨_,hk,qb8.turn (o:=.whole _ (stoP u w o)) trivial ?_,?_⟩
     ·show okV (stoP u w o)=true
      simpa[stoP,okV,splice] using qfd (qgl (qco hw) o) (qfd (qco huo) (qhk (qco hw) _))
     ·have hpv:=KV.cl_pv hu
      simp[exec,ev,hv,KV.pv,lk,hl,KOb.ob,qfu,hpv,h1.1.1,h1.1.2,h1.2,chk,qb8.out,stoP,cells_agg]
    ·cases hk
   ·cases hk
  ·rename_i nm k i o hv
   split at hk
   ·rename_i k' kt xs hl
    split at hk
    ·rename_i u hu
     split at hk
     ·rename_i hkk
      obtain⟨ys,hys,hk⟩:=qb6 hk
      have hxs:qb3 xs=true:=qc9 h.ob hl
      have huo:=KV.cl_ok hb hu
      have hpv:=KV.cl_pv hu
      unfold setO at hys
      split at hys
      ·rename_i es he
       obtain⟨h1,h2⟩:=qbp hys
       cases h2
       simp only[Bool.and_eq_true,decide_eq_true_eq] at h1
       have heo:qb3 es=true:=by simpa[okV] using qjg hxs he
       refine⟨_,hk,qb8.turn (o:=.arr k kt _) trivial ?_,?_⟩
       ·refine Qmy hxs i ?_
        simpa[okV,splice] using qfd (qgl heo o) (qfd (qco huo) (qhk heo _))
       ·have hn:(qbm u.cells).isEmpty=true:=by rw[(qb4 (qco huo)).1];rfl
        simp[exec,ev,hv,KV.pv,lk,hl,KOb.ob,he,hpv,h1.1.1,h1.1.2,h1.2,chk,hkk,qb8.out]
        rw[(qb4 (qco huo)).1]
      ·rename_i e hne he
       obtain⟨h1,h2⟩:=qbp hys
       cases h2
       simp only[Bool.and_eq_true,beq_iff_eq] at h1
       refine⟨_,hk,qb8.turn (o:=.arr k kt _) trivial (Qmy hxs i huo),?_⟩
       have hn:u.names=[]:=(qgb huo).1
       simp only[exec,ev,hv,KV.pv,lk,hl,Option.map_some,KOb.ob,he,hpv]
       subst hkk
       simp[chk,h1.1.1.1,h1.1.1.2,h1.1.2,h1.2,hn,qb8.out,KOb.ob,KV.pv]
      ·cases hys
     ·cases hk
    ·cases hk
   ·cases hk
  ·cases hk
 | nilck x =>
  have ha:=hkv (x:=x) (by simp[ROp.xs])
  simp only[qhr] at hk
  split at hk
  ·rename_i hv;exact⟨_,hk,qb8.plain (by trivial),by simp[exec,ev,hv,KV.pv,qb8.out]⟩
  ·rename_i hv;exact⟨_,hk,qb8.plain (by trivial),by simp[exec,ev,hv,KV.pv,qb8.out]⟩
  ·rename_i hv;rw[hv] at ha;exact⟨_,hk,qb8.plain ha,by simp[exec,ev,hv,KV.pv,qb8.out]⟩
  ·rename_i hv;exact⟨_,hk,qb8.plain (by trivial),by simp[exec,ev,hv,KV.pv,qb8.out]⟩
  ·exact qk2 h hx hk
 | bin o c cst x y =>
  simp only[qhr] at hk
  split at hk
  ·rename_i nm o' v h1 h2
   split at hk
   ·rcases qk0 hk with ⟨hc,hk⟩ | ⟨_,hk⟩
    ·split at hc
     ·refine⟨_,hk,qb8.plain (v:=.lit false) trivial,?_⟩
      simp[exec,ev,h1,h2,KV.pv,qly,Qh0,qb8.out]
     ·cases hc
    ·cases hk
   ·rcases qk0 hk with ⟨hc,hk⟩ | ⟨_,hk⟩
    ·split at hc
     ·refine⟨_,hk,qb8.plain (v:=.lit true) trivial,?_⟩
      simp[exec,ev,h1,h2,KV.pv,qly,Qh0,qb8.out]
     ·cases hc
    ·cases hk
   ·cases hk
  ·exact qk2 h hx hk
 | un o x =>
  cases o with
  | not =>
   simp only[qhr] at hk
   split at hk
   ·rename_i b hv
    exact⟨_,hk,qb8.plain (v:=.lit (!b)) trivial,by simp[exec,ev,hv,KV.pv,qb8.out]⟩
   ·exact qk2 h hx hk
  | _=>exact qk2 h hx hk
 | mkI t x =>
  have ha:=hkv (x:=x) (by simp[ROp.xs])
  simp only[qhr] at hk
  split at hk
  ·rename_i v hv
   refine⟨_,hk,qb8.plain (v:=.cv (.iface t v)) ?_,?_⟩
   ·show okV (.iface t v)=true
    simpa[okV] using KV.cl_ok ha hv
   ·simp[exec,ev,KV.cl_pv hv,KV.pv,qb8.out]
  ·split at hk
   ·cases hk
   ·cases hk
   ·cases hk
   ·cases hk
   ·exact⟨_,hk,qb8.plain (v:=.iface t (x.kv ks.tmps)) ha,by simp[exec,ev,KV.pv,qb8.out]⟩
 | mkF f cap =>
  simp only[qhr] at hk
  split at hk
  ·refine⟨_,hk,qb8.plain (v:=.fn f (cap.map (RX.kv ks.tmps))) (qxy h hx),?_⟩
   simp[exec,qb8.out,KV.pv,qn1 h]
  ·cases hk
 | mkMap=>exact⟨_,hk,qb8.one (o:=.map []) trivial rfl,by simp[exec,qb8.out,KV.pv,KOb.ob]⟩
 | insert c x k v =>
  have hb:=hkv (x:=k) (by simp[ROp.xs])
  have hc:=hkv (x:=v) (by simp[ROp.xs])
  simp only[qhr] at hk
  split at hk
  ·rename_i nm hv
   split at hk
   ·rename_i es kk vv hl h1 h2
    obtain⟨es',he,hk⟩:=qb6 hk
    have hes:qb3 es=true:=qc9 h.ob hl
    have hko:=KV.cl_ok hb h1
    have hvo:=KV.cl_ok hc h2
    unfold insO at he
    split at he
    ·rename_i es2 hs
     obtain⟨h3,h4⟩:=qbp he
     cases h4
     simp only[Bool.and_eq_true] at h3
     refine⟨_,hk,qb8.turn (o:=.map es') trivial (qxo hs hes hko hvo),?_⟩
     have hn:vv.names=[]:=(qgb hvo).1
     simp[exec,ev,hv,KV.pv,lk,hl,KOb.ob,KV.cl_pv h1,KV.cl_pv h2,hs,chk,h3.1,h3.2,hn,qb8.out]
    ·cases he
   ·rename_i es kk hl h1 h2
    split at hk
    ·cases hk
    ·rename_i hne
     split at hk
     ·rename_i hcond
      obtain⟨hsh,hy,hcn⟩:=hcond
      obtain⟨es',he,hk⟩:=qb6 hk
      have hes:qb3 es=true:=qc9 h.ob hl
      have hko:=KV.cl_ok hb h1
      have hok1:qf6 [v.kv ks.tmps]:=⟨hc,trivial⟩
      have hcl:=qpi h hok1
      have hclo:=qjw (qhg (qcj h) (ql4 (by simpa[calmX] using hq)) qbn) hok1 hy
      have e1:nth (qk7 (qdo (qc1 ks.objs) qbn) [v.kv ks.tmps]) 0=((v.kv ks.tmps).pv).sub (qci (qbo ks.st.objs)):=by
       rw[hcl];simp[pvL,qfx,nth]
      have hvo:okV (((v.kv ks.tmps).pv).sub (qci (qbo ks.st.objs)))=true:=by
       rw[←e1]
       rw[hcl] at hclo ⊢
       exact (Bool.and_eq_true_iff.1 hclo).1
      rw[e1] at he
      have hn2:((v.kv ks.tmps).pv).names.isEmpty=false:=by
       rw[KV.pv_names hc];simpa[qdn] using hne
      have hrch:ql8 (qc1 ks.objs) qbn (qdn [v.kv ks.tmps])=qcm (qbo ks.st.objs) qbn ((v.kv ks.tmps).pv).names:=by
       rw[qgn (qcj h),←qdp h,KV.pv_names hc];simp[qdn]
      rw[hrch,qp0 (qcj h),←qdp h] at hsh
      rw[hrch] at hcn hk
      have hcn':¬ nm∈qcm (qbo ks.st.objs) qbn ((v.kv ks.tmps).pv).names:=fun hm=>by rw[List.contains_iff_mem.2 hm] at hcn;cases hcn
      unfold insO at he
      split at he
      ·rename_i es2 hs
       obtain⟨h3,h4⟩:=qbp he
       cases h4
       simp only[Bool.and_eq_true] at h3
       refine⟨_,hk,⟨trivial,by simp,fun m o' e=>by cases e;exact qxo hs hes hko hvo,by simp⟩,?_⟩
       simp[exec,ev,hv,KV.pv,lk,hl,KOb.ob,KV.cl_pv h1,hn2,hs,chk,h3.1,h3.2,hsh,hcn',qb8.out]
      ·cases he
     ·cases hk
   ·cases hk
  ·cases hk
 | lookup c z ok x k =>
  have hb:=hkv (x:=k) (by simp[ROp.xs])
  simp only[qhr] at hk
  split at hk
  ·rename_i nm hv
   split at hk
   ·rename_i es kk hl h1
    split at hk
    case isFalse=>cases hk
    rename_i hz
    obtain⟨u,hu,hk⟩:=qb6 hk
    have hes:qb3 es=true:=qc9 h.ob hl
    unfold lookO at hu
    split at hu
    ·cases hu
    ·rename_i r' hr
     obtain⟨h3,h4⟩:=qbp hu
     cases h4
     have hrz:okV (r'.getD z)=true:=by
      cases r' with
      | none=>exact hz
      | some v=>exact Qcz hr hes
     refine⟨_,hk,qb8.plain (v:=.cv _) ?_,?_⟩
     ·show okV _=true
      split
      ·simp[okV,qb3,hrz]
      ·exact hrz
     ·simp[exec,ev,hv,KV.pv,lk,hl,KOb.ob,KV.cl_pv h1,hr,chk,h3,qb8.out]
   ·cases hk
  ·exact qk2 h hx hk
 | mkS k z l c =>
  simp only[qhr] at hk
  split at hk
  ·rename_i lv cv hl hc
   split at hk
   ·rename_i hz
    obtain⟨n,hn,hk⟩:=qb6 hk
    unfold mkSO at hn
    split at hn
    ·rename_i a b h1 h2
     obtain⟨h3,h4⟩:=qbp hn
     cases h4
     refine⟨_,hk,qb8.one (o:=.arr k 0 (replL _ z)) trivial (qzv hz.2 _),?_⟩
     simp only[Bool.and_eq_true,decide_eq_true_eq] at h3
     simp[exec,ev,KV.cl_pv hl,KV.cl_pv hc,h1,h2,chk,h3.1,h3.2,hz.1,qb8.out,KV.pv,KOb.ob,replL]
    ·cases hn
   ·cases hk
  ·cases hk
 | slice k x lo hi mx =>
  simp only[qhr] at hk
  split at hk
  ·rename_i nm k' o n hv
   split at hk
   ·rename_i hc
    obtain⟨hkk,hmx,hall⟩:=hc
    obtain⟨m,hm,hk⟩:=qb6 hk
    obtain⟨hh,hhi,hk⟩:=qb6 hk
    have hev:∀ (y:Option RX),(∀ z∈y.toList,z∈lo.toList++hi.toList++mx.toList)→(y.map fun z=>((z.kv ks.tmps).cl).getD .undef)=evO ks.st.tmps y:=by
     intro y hy
     cases y with
     | none=>rfl
     | some z =>
      have:=List.all_eq_true.1 hall z (hy z (by simp))
      obtain⟨v,hv⟩:=Option.isSome_iff_exists.1 this
      simp[evO,hv,ev,KV.cl_pv hv]
    rw[hev mx (fun z hz=>by simp only[List.mem_append];exact .inr hz)] at hm
    rw[hev hi (fun z hz=>by simp only[List.mem_append];exact .inl (.inr hz))] at hhi
    unfold Qjl at hm hhi
    subst hkk
    have hmx':((mx.map (RX.ev ks.st.tmps)).isNone||(hi.map (RX.ev ks.st.tmps)).isSome)=true:=by
     rcases hmx with e | e
     ·cases mx with
      | none=>rfl
      | some _=>cases e
     ·cases hi with
      | none=>cases e
      | some _=>simp
    have hevO:∀ y:Option RX,evO ks.st.tmps y=y.map (RX.ev ks.st.tmps):=fun y=>by cases y<;>rfl
    rw[hevO] at hm hhi
    cases lo with
    | none =>
     refine⟨_,hk,qb8.plain (v:=.arr nm k o hh) trivial,?_⟩
     have hb0:qk9 (none:Option PV) 0 hh=some 0:=rfl
     simp only[exec,ev,hv,KV.pv,qh3,hevO,hm,hhi,Option.map_none,hb0,chk,beq_self_eq_true,Bool.true_and,hmx',if_true,qb8.out]
     simp
    | some lo' =>
     obtain⟨l,hl,hk⟩:=qb6 hk
     have hlo:=hev (some lo') (by simp)
     simp only[Option.map_some] at hlo
     rw[hlo] at hl
     unfold Qjl at hl
     rw[hevO] at hl
     rcases qk0 hk with ⟨h1,hk⟩ | ⟨h1,hk⟩
     ·unfold qnj at h1
      simp only[Bool.and_eq_true,qy7,qtk] at h1
      refine⟨_,hk,qb8.plain (v:=.cv (.sl k [] false)) rfl,?_⟩
      have h2:hh=l∧0 < l:=h1
      simp only[exec,ev,hv,KV.pv,qh3,hevO,hm,hhi,hl,chk,beq_self_eq_true,Bool.true_and,hmx',if_true,qb8.out,if_pos h2]
      rfl
     ·unfold qnj at h1
      simp only[Bool.and_eq_false_iff] at h1
      have h2:¬ (hh=l∧0 < l):=by
       rintro ⟨a,b⟩
       rcases h1 with h1 | h1
       ·rw[show eqN hh l=true from qy7.2 a] at h1;cases h1
       ·rw[show ltN 0 l=true from qtk.2 b] at h1;cases h1
      refine⟨_,hk,qb8.plain (v:=.arr nm k (qdu o l) (subN hh l)) trivial,?_⟩
      simp only[exec,ev,hv,KV.pv,qh3,hevO,hm,hhi,hl,chk,beq_self_eq_true,Bool.true_and,hmx',if_true,qb8.out,if_neg h2,qdu,subN]
      rfl
   ·cases hk
  ·exact qk2 h hx hk
 | fieldAddr off x =>
  simp only[qhr] at hk
  split at hk
  ·rename_i hv;exact⟨_,hk,qb8.plain (by trivial),by simp[exec,ev,hv,KV.pv,qb8.out]⟩
  ·rename_i hv;exact⟨_,hk,qb8.plain (by trivial),by simp[exec,ev,hv,KV.pv,qb8.out]⟩
  ·exact qk2 h hx hk
 | field off n ag x =>
  have ha:=hkv (x:=x) (by simp[ROp.xs])
  simp only[qhr] at hk
  split at hk
  ·rename_i cs hv
   rw[hv] at ha
   have hcs:qf6 cs:=ha
   split at hk
   ·rename_i hag
    split at hk
    ·rename_i hle
     refine⟨_,hk,qb8.plain (v:=.agg ((cs.drop off).take n)) (qny (qnz hcs _) _),?_⟩
     simp[exec,ev,hv,KV.pv,sel,hag,chk,qd5,hle,qb8.out,qps,qpt]
    ·cases hk
   ·rename_i hag
    split at hk
    ·rename_i c hc
     refine⟨_,hk,qb8.plain (qct.1 hcs c (List.mem_of_getElem? hc)),?_⟩
     simp[exec,ev,hv,KV.pv,sel,hag,pvL_get?,hc,qb8.out]
    ·cases hk
  ·exact qk2 h hx hk
 | idxAddr k x i =>
  simp only[qhr] at hk
  split at hk
  ·rename_i nm k' o n hv
   split at hk
   ·rename_i iv hi
    split at hk
    ·rename_i hkk
     obtain⟨j,hj,hk⟩:=qb6 hk
     obtain⟨h1,hk⟩:=qbp hk
     rw[qtk] at h1
     unfold natO at hj
     refine⟨_,hk,qb8.plain (v:=.aref nm k (qdu o j) 0) trivial,?_⟩
     simp[exec,ev,hv,KV.pv,KV.cl_pv hi,hj,chk,hkk,h1,qb8.out,qdu]
    ·cases hk
   ·cases hk
  ·exact qk2 h hx hk
 | extract j x =>
  have ha:=hkv (x:=x) (by simp[ROp.xs])
  simp only[qhr] at hk
  split at hk
  ·rename_i xs hv
   rw[hv] at ha
   have hxs:qf6 xs:=ha
   split at hk
   ·rename_i v hj
    refine⟨_,hk,qb8.plain (qct.1 hxs v (List.mem_of_getElem? hj)),?_⟩
    simp[exec,ev,hv,KV.pv,pvL_get?,hj,qb8.out]
   ·cases hk
  ·exact qk2 h hx hk
 | len c x =>
  simp only[qhr] at hk
  split at hk
  ·rename_i nm k o n hv
   split at hk
   ·exact⟨_,hk,qb8.plain (v:=.cv (nI n)) rfl,by simp[exec,ev,hv,KV.pv,Qdc,qb8.out,nI]⟩
   ·cases hk
  ·rename_i nm hv
   split at hk
   ·rename_i es hl
    exact⟨_,hk,qb8.plain (v:=.cv (nI (halfN (qbu es)))) rfl,by simp[exec,ev,hv,KV.pv,Qdc,lk,hl,KOb.ob,qb8.out,nI,halfN,qbu]⟩
   ·cases hk
  ·exact qk2 h hx hk
 | append k ty s x =>
  have ha:=hkv (x:=s) (by simp[ROp.xs])
  have hb:=hkv (x:=x) (by simp[ROp.xs])
  simp only[qhr] at hk
  obtain⟨ys,hk,hyo,hys⟩:=qy8 h hb hk
  split at hk
  ·rename_i nm k' o n hv
   split at hk
   ·rename_i k'' kt xs hl
    split at hk
    ·rename_i hkk
     obtain⟨rfl,rfl,rfl⟩:=hkk
     obtain⟨h1,hk⟩:=qbp hk
     unfold qnj at h1
     simp only[Bool.and_eq_true,qx2,qbu,qdu] at h1
     have hxs:qb3 xs=true:=qc9 h.ob hl
     refine⟨_,hk,⟨trivial,by simp,?_,by simp⟩,?_⟩
     ·intro m o' e;cases e;exact qfd (qgl hxs n) hyo
     ·simp[exec,ev,hys,hv,KV.pv,lk,hl,KOb.ob,chk,h1.1,h1.2,qb8.out,qdu,qbu,qpk,qb1]
    ·cases hk
   ·cases hk
  ·rename_i hv
   obtain⟨h1,hk⟩:=qbp hk
   simp only[qx2,qbu] at h1
   exact⟨_,hk,qb8.one (o:=.arr k ty ys) trivial hyo,by simp[exec,ev,hys,hv,KV.pv,chk,h1,qb8.out,KOb.ob,qbu]⟩
  ·rename_i v hv
   obtain⟨zs,hz,hk2⟩:=qb6 hk
   rw[hv] at ha
   have hvo:okV v=true:=ha
   unfold appO at hz
   split at hz
   ·obtain⟨h1,h2⟩:=qbp hz
    cases h2
    exact⟨_,hk2,qb8.one (o:=.arr k ty ys) trivial hyo,by simp at h1;simp[exec,ev,hys,hv,KV.pv,chk,h1,qb8.out,KOb.ob,qbu]⟩
   ·rename_i k' xs
    split at hz
    ·cases hz
    ·rename_i y ys'
     obtain⟨h1,h2⟩:=qbp hz
     cases h2
     simp only[Bool.and_eq_true,beq_iff_eq,decide_eq_true_eq] at h1
     obtain⟨rfl,h1⟩:=h1
     refine⟨_,hk2,qb8.one (o:=.arr k ty (xs++y :: ys')) trivial (qfd (by simpa[okV] using hvo) hyo),?_⟩
     simp[exec,ev,hys,hv,KV.pv,chk,h1,qb8.out,KOb.ob,qbu]
   ·cases hz
  ·cases hk
 | copy k x s =>
  have ha:=hkv (x:=x) (by simp[ROp.xs])
  have hb:=hkv (x:=s) (by simp[ROp.xs])
  simp only[qhr] at hk
  obtain⟨ys,hk,hyo,hys⟩:=qy8 h hb hk
  split at hk
  ·rename_i nm k' o n hv
   split at hk
   ·rename_i k'' kt xs hl
    split at hk
    ·rename_i hkk
     obtain⟨rfl,rfl⟩:=hkk
     obtain⟨h1,hk⟩:=qbp hk
     simp only[qx2,qbu,qdu] at h1
     have hxs:qb3 xs=true:=qc9 h.ob hl
     refine⟨_,hk,qb8.turn (o:=.arr k kt _) rfl (qfd (qfd (qgl hxs o) (qgl hyo n)) (qhk hxs _)),?_⟩
     simp[exec,ev,hys,hv,KV.pv,lk,hl,KOb.ob,chk,h1,qb8.out,qdu,qbu,qpk,qb1,qcx,nI,minN]
     omega
    ·cases hk
   ·cases hk
  ·rename_i hv
   exact⟨_,hk,qb8.plain (v:=.cv (nI 0)) rfl,by simp[exec,ev,hys,hv,KV.pv,qb8.out,nI]⟩
  ·cases hk
 | iter x =>
  simp only[qhr] at hk
  split at hk
  ·rename_i v hv
   obtain⟨s,hs,hk⟩:=qb6 hk
   unfold strO at hs
   split at hs
   ·cases hs
    exact⟨_,hk,qb8.one (o:=.siter s 0) trivial trivial,by simp[exec,ev,KV.cl_pv hv,qb8.out,KV.pv,KOb.ob]⟩
   ·cases hs
  ·cases hk
 | next x =>
  simp only[qhr] at hk
  split at hk
  ·rename_i nm hv
   split at hk
   ·rename_i s pos hl
    rcases qk0 hk with ⟨h1,hk⟩ | ⟨h1,hk⟩
    ·rw[qtk] at h1
     unfold lenS at h1
     refine⟨_,hk,qb8.turn (o:=.siter s (qdu pos (runeN s pos))) (v:=.tup [.lit true,.cv (nI pos),.cv (runeP s pos)]) ⟨trivial,rfl,rfl,trivial⟩ trivial,?_⟩
     simp[exec,ev,hv,KV.pv,lk,hl,KOb.ob,h1,qb8.out,pvL,nI,runeP,runeN,qdu]
    ·have h2:¬ pos < s.length:=by
      intro h3;rw[show ltN pos (lenS s)=true from qtk.2 h3] at h1;cases h1
     refine⟨_,hk,qb8.plain (v:=.tup [.lit false]) ⟨trivial,trivial⟩,?_⟩
     simp[exec,ev,hv,KV.pv,lk,hl,KOb.ob,h2,qb8.out,pvL]
   ·cases hk
  ·cases hk
 | tassert t z ok x =>
  have ha:=hkv (x:=x) (by simp[ROp.xs])
  simp only[qhr] at hk
  split at hk
  ·rename_i u y hv
   rw[hv] at ha
   have hy:y.ok:=ha
   split at hk
   ·rename_i hut
    refine⟨_,hk,qb8.plain ?_,?_⟩
    ·split
     ·exact⟨hy,trivial,trivial⟩
     ·exact hy
    ·simp only[exec,ev,hv,KV.pv,hut,if_true,qb8.out]
     cases ok<;>simp[KV.pv,pvL]
   ·rename_i hut
    split at hk
    ·rename_i hz
     refine⟨_,hk,qb8.plain (v:=.tup [.cv z,.lit false]) ⟨hz.2,trivial,trivial⟩,?_⟩
     simp[exec,ev,hv,KV.pv,hut,chk,hz.1,qb8.out,pvL]
    ·cases hk
  ·exact qk2 h hx hk
 | call f args=>cases hk
 | bad=>cases hk
 | conv k x=>exact qk2 h hx hk
 | toBytes x=>exact qk2 h hx hk
 | ofBytes x =>
  have ha:=hkv (x:=x) (by simp[ROp.xs])
  simp only[qhr] at hk
  split at hk
  ·rename_i nm k o n hv
   rw[hv] at ha
   obtain⟨ys,hk,hyo,hys⟩:=qy8 h ha hk
   obtain⟨z,hz,hk⟩:=qb6 hk
   simp only[qbb,exec,RX.ev,isStr,Bool.not_false,chk,if_true,elems,beq_self_eq_true] at hz
   cases hb:qjb ys with
   | none=>rw[hb] at hz;cases hz
   | some s =>
    rw[hb] at hz
    cases hz
    refine⟨_,hk,qb8.plain (v:=.cv (.str s)) rfl,?_⟩
    have hys':elems (qbo ks.st.objs) 1 (.arr nm k o n)=some ys:=hys
    simp[exec,ev,hv,KV.pv,isStr,chk,hys',hb,qb8.out]
  ·exact qk2 h hx hk
 | ofRune x=>exact qk2 h hx hk
 | strId x=>exact qk2 h hx hk
 | strSlice x lo hi=>exact qk2 h hx hk
 | idxAddrA k l x i=>exact qk2 h hx hk
 | strIdx x i=>exact qk2 h hx hk
 | minmax mx xs=>exact qk2 h hx hk
end Go.Ab


namespace Go.Ab
theorem KOb.ren_ob (f:Nm→Nm) {o:KOb} (h:o.ok):(o.ren f).ob=o.ob.ren f:=by
 cases o with
 | cells ty cs=>simp[KOb.ren,KOb.ob,Ob.ren,qtd f h]
 | whole ty v =>
  have:=(qb4 (qco h)).1
  simp only[KOb.ren,KOb.ob,Ob.ren,qfu]
  rw[qnx this]
 | _=>rfl
theorem KOb.ren_ok (f:Nm→Nm) {o:KOb} (h:o.ok):(o.ren f).ok:=by
 cases o with
 | cells ty cs=>exact qp1 f h
 | _=>exact h
theorem qxi (f:Nm→Nm) (xs ys:List PV):qhy f (xs++ys)=qhy f xs++qhy f ys:=by
 induction xs with
 | nil=>rfl
 | cons x xs ih=>simp[qhy,ih]
def Seg (vs:List PV) (i:Nat) (l:List PV):Prop:=∀ m v,l[m]?=some v→nth vs (i+m)=v
theorem Seg.left {vs:List PV} {i:Nat} {a b:List PV} (h:Seg vs i (a++b)):Seg vs i a:=fun m v hm=>h m v (by
 rw[List.getElem?_append_left (List.getElem?_eq_some_iff.1 hm).1];exact hm)
theorem Seg.right {vs:List PV} {i:Nat} {a b:List PV} (h:Seg vs i (a++b)):Seg vs (i+a.length) b:=fun m v hm=>by
 have:=h (a.length+m) v (by rw[List.getElem?_append_right (by omega)];simpa using hm)
 rw[←this,Nat.add_assoc]
theorem Seg.head {vs:List PV} {i:Nat} {x:PV} {l:List PV} (h:Seg vs i (x :: l)):nth vs i=x:=h 0 x rfl
theorem Seg.all (vs:List PV):Seg vs 0 vs:=fun m v hm=>by
 unfold nth;rw[List.getD_eq_getElem?_getD,Nat.zero_add,hm];rfl
theorem qx1 {x:KV} (hx:x.ok) (hf:x.cl.isSome=true) {vs:List PV} {i:Nat} (h:Seg vs i [x.cl.getD .undef]):(KV.cv (nth vs i)).pv=x.pv∧(KV.cv (nth vs i)).ok:=by
 obtain⟨v,hv⟩:=Option.isSome_iff_exists.1 hf
 have:=h.head
 rw[hv] at this
 simp only[Option.getD_some] at this
 rw[this]
 exact⟨(KV.cl_pv hv).symm,KV.cl_ok hx hv⟩
theorem un_fill {p:KV} {vs:List PV} {i:Nat} (h:qn6 p=false):qn6 (fill p vs i).1=false:=by
 cases p<;>simp[qn6] at h<;>simp only[fill]<;>first | rfl | (split<;>rfl)
mutual
theorem Qlk:∀ (p x:KV),qhj p x=true→x.ok→∀ (vs:List PV) (i:Nat),Seg vs i (qdh p x)→(fill p vs i).1.pv=x.pv∧(fill p vs i).1.ok∧(fill p vs i).2=i+(qdh p x).length
 | .un,x,h,_,vs,i,_=>by cases x<;>simp[qhj] at h;exact⟨rfl,trivial,rfl⟩
 | .sk,x,h,_,vs,i,_=>by cases x<;>simp[qhj] at h;exact⟨rfl,trivial,rfl⟩
 | .yld d,x,h,_,vs,i,hs=>by
  cases x with
  | yld d' =>
   have h1:nth vs i=nI d':=hs.head
   simp[fill,KV.pv,h1,nI,qbz,KV.ok,qdh]
  | _=>simp[qhj] at h
 | .ref nm o,x,h,_,vs,i,_=>by cases x<;>simp[qhj] at h;obtain⟨rfl,rfl⟩:=h;exact⟨rfl,trivial,rfl⟩
 | .aref _ _ _ _,x,h,_,vs,i,_=>by simp[qhj] at h
 | .mp nm,x,h,_,vs,i,_=>by cases x<;>simp[qhj] at h;subst h;exact⟨rfl,trivial,rfl⟩
 | .it nm,x,h,_,vs,i,_=>by cases x<;>simp[qhj] at h;subst h;exact⟨rfl,trivial,rfl⟩
 | .wit nm,x,h,_,vs,i,_=>by cases x<;>simp[qhj] at h;subst h;exact⟨rfl,trivial,rfl⟩
 | .arr nm k o n,x,h,_,vs,i,hs=>by
  cases x with
  | arr nm' k' o' n' =>
   simp only[qhj,Bool.and_eq_true,beq_iff_eq] at h
   obtain⟨⟨rfl,rfl⟩,ho⟩:=h
   have:=Nat.eq_of_beq_eq_true ho
   subst this
   have h1:nth vs i=nI n':=hs.head
   simp[fill,KV.pv,h1,nI,qbz,KV.ok,qdh]
  | _=>simp[qhj] at h
 | .lit b,x,h,hx,vs,i,hs=>by
  have:=qx1 hx (by simpa[qhj] using h) (by simpa[qdh] using hs)
  exact⟨this.1,this.2,by simp[fill,qdh]⟩
 | .nils,x,h,hx,vs,i,hs=>by
  have:=qx1 hx (by simpa[qhj] using h) (by simpa[qdh] using hs)
  exact⟨this.1,this.2,by simp[fill,qdh]⟩
 | .cv v,x,h,hx,vs,i,hs=>by
  have:=qx1 hx (by simpa[qhj] using h) (by simpa[qdh] using hs)
  exact⟨this.1,this.2,by simp[fill,qdh]⟩
 | .fn f cap,x,h,hx,vs,i,hs=>by
  cases x with
  | fn f' cap' =>
   simp only[qhj,Bool.and_eq_true,beq_iff_eq] at h
   obtain⟨rfl,h⟩:=h
   obtain⟨a,b,c⟩:=qp5 cap cap' h hx vs i (by simpa[qdh] using hs)
   exact⟨by simp[fill,KV.pv,a],b,by simp[fill,qdh,c]⟩
  | _=>simp[qhj] at h
 | .tup xs,x,h,hx,vs,i,hs=>by
  cases x with
  | tup ys =>
   simp only[qhj] at h
   obtain⟨a,b,c⟩:=qp5 xs ys h hx vs i (by simpa[qdh] using hs)
   exact⟨by simp[fill,KV.pv,a],b,by simp[fill,qdh,c]⟩
  | _=>simp[qhj] at h
 | .agg cs,x,h,hx,vs,i,hs=>by
  simp only[qhj] at h
  simp only[qdh] at hs
  by_cases hc:(clL cs).isSome=true
  ·rw[if_pos hc] at h hs
   have:=qx1 hx h hs
   simp only[fill,hc,if_true]
   exact⟨this.1,this.2,by simp[qdh,hc]⟩
  ·rw[if_neg hc] at h hs
   cases x with
   | agg cs' =>
    obtain⟨a,b,c⟩:=qp5 cs cs' h hx vs i hs
    simp only[fill,if_neg hc]
    exact⟨by simp[KV.pv,a],b,by simp[qdh,hc,c]⟩
   | _=>simp at h
 | .iface t y,x,h,hx,vs,i,hs=>by
  simp only[qhj] at h
  simp only[qdh] at hs
  by_cases hc:y.cl.isSome=true
  ·rw[if_pos hc] at h hs
   have:=qx1 hx h hs
   simp only[fill,hc,if_true]
   exact⟨this.1,this.2,by simp[qdh,hc]⟩
  ·rw[if_neg hc] at h hs
   cases x with
   | iface t' y' =>
    simp only[Bool.and_eq_true,beq_iff_eq] at h
    obtain⟨rfl,h⟩:=h
    obtain⟨a,b,c⟩:=Qlk y y' h hx vs i hs
    simp only[fill,if_neg hc]
    exact⟨by simp[KV.pv,a],b,by simp[qdh,hc,c]⟩
   | _=>simp at h
theorem qp5:∀ (ps xs:List KV),qzy ps xs=true→qf6 xs→∀ (vs:List PV) (i:Nat),Seg vs i (qhn ps xs)→pvL (qh6 ps vs i).1=pvL xs∧qf6 (qh6 ps vs i).1∧(qh6 ps vs i).2=i+(qhn ps xs).length
 | [],xs,h,_,vs,i,_=>by cases xs<;>simp[qzy] at h;exact⟨rfl,trivial,rfl⟩
 | p :: ps,xs,h,hx,vs,i,hs=>by
  cases xs with
  | nil=>simp[qzy] at h
  | cons x xs =>
   simp only[qzy,Bool.and_eq_true] at h
   simp only[qhn] at hs
   obtain⟨a,b,c⟩:=Qlk p x h.1 hx.1 vs i hs.left
   obtain⟨a',b',c'⟩:=qp5 ps xs h.2 hx.2 vs (fill p vs i).2 (by rw[c];exact hs.right)
   refine⟨by simp[qh6,pvL,a,a'],⟨b,b'⟩,?_⟩
   simp only[qh6,qhn,List.length_append]
   rw[c',c]
   omega
end
theorem fillOb_ok (p x:KOb) (h:qj5 p x=true) (hx:x.ok) (vs:List PV) (i:Nat) (hs:Seg vs i (qg1 p x)):(qds p vs i).1.ob=x.ob∧(qds p vs i).1.ok∧(qds p vs i).2=i+(qg1 p x).length:=by
 cases p with
 | cells ty cs =>
  cases x with
  | cells ty' cs' =>
   simp only[qj5,Bool.and_eq_true,beq_iff_eq] at h
   obtain⟨rfl,h⟩:=h
   obtain⟨a,b,c⟩:=qp5 cs cs' h hx vs i (by simpa[qg1] using hs)
   exact⟨by simp[qds,KOb.ob,a],b,by simp[qds,qg1,c]⟩
  | _=>simp[qj5] at h
 | whole ty w =>
  cases x with
  | whole ty' v =>
   simp only[qj5,beq_iff_eq] at h
   subst h
   have:nth vs i=v:=hs.head
   exact⟨by simp[qds,KOb.ob,this],by simp only[qds,this];exact hx,by simp[qds,qg1]⟩
  | _=>simp[qj5] at h
 | arr k kt ws =>
  cases x with
  | arr k' kt' xs =>
   simp only[qj5,Bool.and_eq_true,beq_iff_eq] at h
   obtain⟨rfl,rfl⟩:=h
   have:nth vs i=.sl k xs false:=hs.head
   exact⟨by simp[qds,KOb.ob,this,qbl],by simp only[qds,this,qbl];exact hx,by simp[qds,qg1]⟩
  | _=>simp[qj5] at h
 | map ws =>
  cases x with
  | map es =>
   have:nth vs i=.imap es:=hs.head
   exact⟨by simp[qds,KOb.ob,this,Qls],by simp only[qds,this,Qls];exact hx,by simp[qds,qg1]⟩
  | _=>simp[qj5] at h
 | siter s0 p0 =>
  cases x with
  | siter s pos =>
   have h1:nth vs i=.str s:=hs.head
   have h2:nth vs (i+1)=nI pos:=hs 1 _ rfl
   exact⟨by simp[qds,KOb.ob,h1,h2,strP,qbz,nI],trivial,by simp[qds,qg1]⟩
  | _=>simp[qj5] at h
theorem qt0:∀ (ps xs:List KOb),qhp ps xs=true→(∀ o∈xs,o.ok)→∀ (vs:List PV) (i:Nat),Seg vs i (qhm ps xs)→(qdc ps vs i).1.map KOb.ob=xs.map KOb.ob∧(∀ o∈(qdc ps vs i).1,o.ok)∧(qdc ps vs i).2=i+(qhm ps xs).length
 | [],[],_,_,vs,i,_=>⟨rfl,by simp[qdc],rfl⟩
 | [],_ :: _,h,_,_,_,_=>by simp[qhp] at h
 | _ :: _,[],h,_,_,_,_=>by simp[qhp] at h
 | p :: ps,x :: xs,h,hx,vs,i,hs=>by
  simp only[qhp,Bool.and_eq_true] at h
  simp only[qhm] at hs
  obtain⟨a,b,c⟩:=fillOb_ok p x h.1 (hx x (by simp)) vs i hs.left
  obtain⟨a',b',c'⟩:=qt0 ps xs h.2 (fun o ho=>hx o (by simp[ho])) vs (qds p vs i).2 (by rw[c];exact hs.right)
  refine⟨by simp[qdc,a,a'],?_,?_⟩
  ·intro o ho
   simp only[qdc,List.mem_cons] at ho
   rcases ho with rfl | ho
   ·exact b
   ·exact b' o ho
  ·simp only[qdc,qhm,List.length_append]
   rw[c',c]
   omega
mutual
theorem qyr:∀ (p:KV) (x:PV) {l:List PV},qp3 p x=some l→∀ (vs:List PV) (i:Nat),Seg vs i l→(fill p vs i).1.pv=x∧(fill p vs i).1.ok∧(fill p vs i).2=i+l.length
 | .un,x,l,h,vs,i,_=>by cases x<;>simp[qp3] at h;subst h;exact⟨rfl,trivial,rfl⟩
 | .sk,x,l,h,vs,i,_=>by
  simp only[qp3] at h
  split at h
  ·cases h;exact⟨rfl,trivial,rfl⟩
  ·cases h
 | .yld d,x,l,h,vs,i,hs=>by
  cases x with
  | yld d' =>
   simp only[qp3] at h
   cases h
   have h1:nth vs i=nI d':=hs.head
   simp[fill,KV.pv,h1,nI,qbz,KV.ok]
  | _=>simp[qp3] at h
 | .aref _ _ _ _,x,l,h,vs,i,_=>by simp[qp3] at h
 | .wit nm,x,l,h,vs,i,_=>by
  simp only[qp3] at h
  split at h
  ·obtain⟨h1,h2⟩:=qbp h
   simp at h1 h2;subst h1;subst h2;exact⟨rfl,trivial,rfl⟩
  ·cases h
 | .ref nm o,x,l,h,vs,i,_=>by
  cases x<;>simp[qp3] at h
  obtain⟨h1,h2⟩:=qbp h
  simp at h1 h2;obtain⟨rfl,rfl⟩:=h1;subst h2;exact⟨rfl,trivial,rfl⟩
 | .mp nm,x,l,h,vs,i,_=>by
  cases x<;>simp[qp3] at h
  obtain⟨h1,h2⟩:=qbp h
  simp at h1 h2;subst h1;subst h2;exact⟨rfl,trivial,rfl⟩
 | .it nm,x,l,h,vs,i,_=>by
  cases x<;>simp[qp3] at h
  obtain⟨h1,h2⟩:=qbp h
  simp at h1 h2;subst h1;subst h2;exact⟨rfl,trivial,rfl⟩
 | .arr nm k o n,x,l,h,vs,i,hs=>by
  cases x with
  | arr nm' k' o' n' =>
   simp only[qp3] at h
   obtain⟨h1,h2⟩:=qbp h
   cases h2
   simp only[Bool.and_eq_true,beq_iff_eq] at h1
   obtain⟨⟨rfl,rfl⟩,ho⟩:=h1
   have:=Nat.eq_of_beq_eq_true ho
   subst this
   have h1:nth vs i=nI n':=hs.head
   simp[fill,KV.pv,h1,nI,qbz,KV.ok]
  | _=>simp[qp3] at h
 | .lit b,x,l,h,vs,i,hs=>by
  simp only[qp3] at h
  obtain⟨h1,h2⟩:=qbp h
  cases h2
  have:=hs.head
  exact⟨this,by simp only[fill,KV.ok,this];exact h1,rfl⟩
 | .nils,x,l,h,vs,i,hs=>by
  simp only[qp3] at h
  obtain⟨h1,h2⟩:=qbp h
  cases h2
  have:=hs.head
  exact⟨this,by simp only[fill,KV.ok,this];exact h1,rfl⟩
 | .cv v,x,l,h,vs,i,hs=>by
  simp only[qp3] at h
  obtain⟨h1,h2⟩:=qbp h
  cases h2
  have:=hs.head
  exact⟨this,by simp only[fill,KV.ok,this];exact h1,rfl⟩
 | .fn f cap,x,l,h,vs,i,hs=>by
  cases x with
  | fn f' cap' =>
   simp only[qp3] at h
   split at h
   ·rename_i hf
    subst hf
    obtain⟨a,b,c⟩:=qmg cap cap' h vs i hs
    exact⟨by simp[fill,KV.pv,a],b,c⟩
   ·cases h
  | _=>simp[qp3] at h
 | .tup xs,x,l,h,vs,i,hs=>by
  cases x with
  | tup ys =>
   simp only[qp3] at h
   obtain⟨a,b,c⟩:=qmg xs ys h vs i hs
   exact⟨by simp[fill,KV.pv,a],b,c⟩
  | _=>simp[qp3] at h
 | .agg cs,x,l,h,vs,i,hs=>by
  simp only[qp3] at h
  by_cases hc:(clL cs).isSome=true
  ·rw[if_pos hc] at h
   obtain⟨h1,h2⟩:=qbp h
   cases h2
   have:=hs.head
   simp only[fill,hc,if_true]
   exact⟨this,by simp only[KV.ok,this];exact h1,rfl⟩
  ·rw[if_neg hc] at h
   cases x with
   | agg cs' =>
    obtain⟨a,b,c⟩:=qmg cs cs' h vs i hs
    simp only[fill,if_neg hc]
    exact⟨by simp[KV.pv,a],b,c⟩
   | _=>simp at h
 | .iface t y,x,l,h,vs,i,hs=>by
  simp only[qp3] at h
  by_cases hc:y.cl.isSome=true
  ·rw[if_pos hc] at h
   obtain⟨h1,h2⟩:=qbp h
   cases h2
   have:=hs.head
   simp only[fill,hc,if_true]
   exact⟨this,by simp only[KV.ok,this];exact h1,rfl⟩
  ·rw[if_neg hc] at h
   cases x with
   | iface t' y' =>
    simp only at h
    split at h
    ·rename_i ht
     subst ht
     obtain⟨a,b,c⟩:=qyr y y' h vs i hs
     simp only[fill,if_neg hc]
     exact⟨by simp[KV.pv,a],b,c⟩
    ·cases h
   | _=>simp at h
theorem qmg:∀ (ps:List KV) (xs:List PV) {l:List PV},qys ps xs=some l→∀ (vs:List PV) (i:Nat),Seg vs i l→pvL (qh6 ps vs i).1=xs∧qf6 (qh6 ps vs i).1∧(qh6 ps vs i).2=i+l.length
 | [],xs,l,h,vs,i,_=>by cases xs<;>simp[qys] at h;subst h;exact⟨rfl,trivial,rfl⟩
 | p :: ps,xs,l,h,vs,i,hs=>by
  cases xs with
  | nil=>simp[qys] at h
  | cons y ys =>
   simp only[qys] at h
   split at h
   ·rename_i a b ha hb
    cases h
    obtain⟨a1,a2,a3⟩:=qyr p y ha vs i hs.left
    obtain⟨b1,b2,b3⟩:=qmg ps ys hb vs (fill p vs i).2 (by rw[a3];exact hs.right)
    refine⟨by simp[qh6,pvL,a1,b1],⟨a2,b2⟩,?_⟩
    simp only[qh6,List.length_append]
    rw[b3,a3];omega
   ·cases h
end
theorem Qlj (p:KOb) (x:Ob) {l:List PV} (h:qjq p x=some l) (vs:List PV) (i:Nat) (hs:Seg vs i l):(qds p vs i).1.ob=x∧(qds p vs i).1.ok∧(qds p vs i).2=i+l.length:=by
 cases p with
 | cells ty cs =>
  cases x with
  | cells ty' cs' =>
   simp only[qjq] at h
   split at h
   case isFalse=>cases h
   rename_i hty
   subst hty
   obtain⟨a,b,c⟩:=qmg cs cs' h vs i hs
   exact⟨by simp[qds,KOb.ob,a],b,c⟩
  | _=>simp[qjq] at h
 | whole ty w =>
  cases x with
  | cells ty' cs' =>
   simp only[qjq] at h
   obtain⟨h1,h2⟩:=qbp h
   cases h2
   simp only[Bool.and_eq_true,beq_iff_eq] at h1
   obtain⟨rfl,h1⟩:=h1
   have:nth vs i=.agg cs':=hs.head
   exact⟨by simp[qds,KOb.ob,this,qfu,PV.cells],by simp only[qds,this];simpa[KOb.ok,okV] using h1,rfl⟩
  | _=>simp[qjq] at h
 | arr k kt ws =>
  cases x with
  | arr k' kt' xs =>
   simp only[qjq] at h
   obtain⟨h1,h2⟩:=qbp h
   cases h2
   simp only[Bool.and_eq_true,beq_iff_eq] at h1
   obtain⟨⟨rfl,rfl⟩,h1⟩:=h1
   have:nth vs i=.sl k xs false:=hs.head
   exact⟨by simp[qds,KOb.ob,this,qbl],by simp only[qds,this,qbl];exact h1,rfl⟩
  | _=>simp[qjq] at h
 | map ws =>
  cases x with
  | map es =>
   simp only[qjq] at h
   obtain⟨h1,h2⟩:=qbp h
   cases h2
   have:nth vs i=.imap es:=hs.head
   exact⟨by simp[qds,KOb.ob,this,Qls],by simp only[qds,this,Qls];exact h1,rfl⟩
  | _=>simp[qjq] at h
 | siter s0 p0 =>
  cases x with
  | siter s pos =>
   simp only[qjq] at h
   cases h
   have h1:nth vs i=.str s:=hs.head
   have h2:nth vs (i+1)=nI pos:=hs 1 _ rfl
   exact⟨by simp[qds,KOb.ob,h1,h2,strP,qbz,nI],trivial,rfl⟩
  | _=>simp[qjq] at h
theorem qpe:∀ (ps:List KOb) (xs:List Ob) {l:List PV},qm4 ps xs=some l→∀ (vs:List PV) (i:Nat),Seg vs i l→(qdc ps vs i).1.map KOb.ob=xs∧(∀ o∈(qdc ps vs i).1,o.ok)∧(qdc ps vs i).2=i+l.length
 | [],xs,l,h,vs,i,_=>by cases xs<;>simp[qm4] at h;subst h;exact⟨rfl,by simp[qdc],rfl⟩
 | p :: ps,xs,l,h,vs,i,hs=>by
  cases xs with
  | nil=>simp[qm4] at h
  | cons y ys =>
   simp only[qm4] at h
   split at h
   ·rename_i a b ha hb
    cases h
    obtain⟨a1,a2,a3⟩:=Qlj p y ha vs i hs.left
    obtain⟨b1,b2,b3⟩:=qpe ps ys hb vs (qds p vs i).2 (by rw[a3];exact hs.right)
    refine⟨by simp[qdc,a1,b1],?_,?_⟩
    ·intro o ho
     simp only[qdc,List.mem_cons] at ho
     rcases ho with rfl | ho
     ·exact a2
     ·exact b2 o ho
    ·simp only[qdc,List.length_append]
     rw[b3,a3];omega
   ·cases h
mutual
theorem ren_ren (f g:Nm→Nm):∀ (x:PV),(x.ren f).ren g=x.ren fun m=>g (f m)
 | .agg cs=>by simp[PV.ren,qnw f g cs]
 | .iface t x=>by simp[PV.ren,ren_ren f g x]
 | .fn h cap=>by simp[PV.ren,qnw f g cap]
 | .tup xs=>by simp[PV.ren,qnw f g xs]
 | .undef | .bool _ | .int _ _ | .str _ | .nilS | .nilP | .nilF | .nilI | .nilM | .sl _ _ _ | .ptr _ _ | .yld _ | .imap _ | .glob _ _ | .ref _ _ | .aref _ _ _ _ | .arr _ _ _ _ | .mp _ | .it _=>by simp[PV.ren]
theorem qnw (f g:Nm→Nm):∀ (xs:List PV),qhy g (qhy f xs)=qhy (fun m=>g (f m)) xs
 | []=>rfl
 | x :: xs=>by simp[qhy,ren_ren f g x,qnw f g xs]
end
mutual
theorem ren_congr {f g:Nm→Nm}:∀ {x:PV},(∀ m∈x.names,f m=g m)→x.ren f=x.ren g
 | .agg cs,h=>by simp only[PV.ren];rw[ql3 (xs:=cs) h]
 | .iface t x,h=>by simp only[PV.ren];rw[ren_congr (x:=x) h]
 | .fn _ cap,h=>by simp only[PV.ren];rw[ql3 (xs:=cap) h]
 | .tup xs,h=>by simp only[PV.ren];rw[ql3 (xs:=xs) h]
 | .ref nm _,h | .aref nm _ _ _,h | .arr nm _ _ _,h | .mp nm,h | .it nm,h=>by simp only[PV.ren];rw[h nm (by simp[PV.names])]
 | .undef,_ | .bool _,_ | .int _ _,_ | .str _,_ | .nilS,_ | .nilP,_ | .nilF,_ | .nilI,_ | .nilM,_ | .sl _ _ _,_ | .ptr _ _,_ | .yld _,_ | .imap _,_ | .glob _ _,_=>by simp[PV.ren]
theorem ql3 {f g:Nm→Nm}:∀ {xs:List PV},(∀ m∈qbm xs,f m=g m)→qhy f xs=qhy g xs
 | [],_=>rfl
 | x :: xs,h=>by
  simp only[qhy]
  rw[ren_congr (x:=x) fun m hm=>h m (List.mem_append_left _ hm),ql3 (xs:=xs) fun m hm=>h m (List.mem_append_right _ hm)]
end
mutual
theorem cut_names {p:Nm→Bool}:∀ {x:PV} {m:Nm},m∈(x.sub fun m=>if p m then none else some none).names→p m=true
 | .agg cs,m,h=>qmn (xs:=cs) (by simpa[PV.sub,PV.names] using h)
 | .iface t x,m,h=>cut_names (x:=x) (by simpa[PV.sub,PV.names] using h)
 | .fn _ cap,m,h=>qmn (xs:=cap) (by simpa[PV.sub,PV.names] using h)
 | .tup xs,m,h=>qmn (xs:=xs) (by simpa[PV.sub,PV.names] using h)
 | .ref nm _,m,h | .aref nm _ _ _,m,h | .arr nm _ _ _,m,h | .mp nm,m,h | .it nm,m,h=>by
  simp only[PV.sub] at h
  cases hp:p nm with
  | true=>simp[hp,PV.names] at h;rw[h];exact hp
  | false=>simp[hp,PV.names] at h
 | .undef,m,h | .bool _,m,h | .int _ _,m,h | .str _,m,h | .nilS,m,h | .nilP,m,h | .nilF,m,h | .nilI,m,h | .nilM,m,h | .sl _ _ _,m,h | .ptr _ _,m,h | .yld _,m,h | .imap _,m,h | .glob _ _,m,h=>by simp[PV.sub,PV.names] at h
theorem qmn {p:Nm→Bool}:∀ {xs:List PV} {m:Nm},m∈qbm (qfx (fun m=>if p m then none else some none) xs)→p m=true
 | [],m,h=>by simp[qfx,qbm] at h
 | x :: xs,m,h=>by
  simp only[qfx,qbm] at h
  rcases List.mem_append.1 h with h | h
  ·exact cut_names h
  ·exact qmn h
end
theorem Ob.ren_ren (f g:Nm→Nm) (o:Ob):(o.ren f).ren g=o.ren fun m=>g (f m):=by
 cases o<;>simp[Ob.ren,qnw]
theorem Ob.ren_congr {f g:Nm→Nm} {o:Ob} (h:∀ m∈o.names,f m=g m):o.ren f=o.ren g:=by
 cases o with
 | cells ty cs=>simp only[Ob.ren];rw[ql3 h]
 | _=>rfl
theorem Ob.cut_names {p:Nm→Bool} {o:Ob} {m:Nm} (h:m∈(o.sub fun m=>if p m then none else some none).names):p m=true:=by
 cases o with
 | cells ty cs=>exact qmn h
 | _=>simp[Ob.sub,Ob.names] at h
theorem Qkx (g:Nm→Nm):∀ (B:List (Nm×Nm)) (m:Nm),(B.map fun p=>(p.1,g p.2)).lookup m=(B.lookup m).map g:=by
 intro B
 induction B with
 | nil=>intro m;rfl
 | cons p B ih =>
  obtain⟨a,b⟩:=p
  intro m
  simp only[List.map_cons,List.lookup_cons]
  split<;>simp_all
theorem Qkw {B:List (Nm×Nm)}:∀ {m:Nm},(B.map (·.1)).contains m=true→∃ t,B.lookup m=some t:=by
 induction B with
 | nil=>intro m h;simp at h
 | cons p B ih =>
  obtain⟨a,b⟩:=p
  intro m h
  rw[List.lookup_cons]
  split
  ·exact⟨_,rfl⟩
  ·rename_i hne
   refine ih ?_
   simp only[List.map_cons,List.contains_cons,hne,Bool.false_or] at h
   exact h
theorem ioEnd_ren {R:List Nm} {sl:Option Nat} {d i0:Nat} {st:St} {v:PV} {out:Out} (h:qts none 1 0 (qhv R.length) st v=some out) :
  qts sl d i0 R st v=some {v:=out.v.ren (qp2 R d i0),new:=out.new.map (Ob.ren (qp2 R d i0)),gone:=out.gone.map (qp2 R d i0),ups:=R.zip (out.ups.map fun p=>p.2.ren (qp2 R d i0)),io:=true,slot:=sl}:=by
 have hcl:(qhv R.length).length=R.length:=by simp[qhv]
 have hA:qg5 R st.keep=(qg5 (qhv R.length) st.keep).map fun p=>(p.1,qp2 R d i0 p.2):=by
  apply List.ext_getElem?
  intro i
  simp only[qg5,List.getElem?_map,List.getElem?_zipIdx,Nat.zero_add,qhv]
  by_cases hi:i < R.length
  ·rw[List.getElem?_eq_getElem hi,List.getElem?_range hi]
   simp[qp2,List.getD_eq_getElem?_getD,List.getElem?_eq_getElem hi]
  ·rw[List.getElem?_eq_none_iff.2 (by omega),List.getElem?_eq_none_iff.2 (by simp;omega)]
   rfl
 have hF:(qg5 R st.keep).map (·.1)=(qg5 (qhv R.length) st.keep).map (·.1):=by
  rw[hA,List.map_map];rfl
 have hN:qyc (qbo st.objs) (qg5 R st.keep) v=qyc (qbo st.objs) (qg5 (qhv R.length) st.keep) v:=by
  unfold qyc
  rw[hF]
  have:∀ A A':List (Nm×Nm),A.map (·.1)=A'.map (·.1)→(A.flatMap fun p=>((qbo st.objs p.1).map Ob.names).getD [])=A'.flatMap fun p=>((qbo st.objs p.1).map Ob.names).getD []:=by
   intro A A' h
   have e:∀ A:List (Nm×Nm),(A.flatMap fun p=>((qbo st.objs p.1).map Ob.names).getD [])=(A.map (·.1)).flatMap fun m=>((qbo st.objs m).map Ob.names).getD []:=by
    intro A;rw[List.flatMap_map]
   rw[e,e,h]
  rw[this _ _ hF]
 unfold qts at h ⊢
 simp only at h ⊢
 rw[hN]
 generalize qyc (qbo st.objs) (qg5 (qhv R.length) st.keep) v=N at h ⊢
 generalize hA0:qg5 (qhv R.length) st.keep=A0 at h hA
 generalize hB0:(A0++N.zipIdx.map fun p=>(p.1,(1,0+p.2)))=B0 at h
 have hB:qg5 R st.keep++N.zipIdx.map (fun p=>(p.1,(d,i0+p.2)))=B0.map fun p=>(p.1,qp2 R d i0 p.2):=by
  rw[←hB0,List.map_append,hA,List.map_map]
  congr 1
  exact List.map_congr_left fun p _=>by simp[qp2]
 rw[hB]
 have hBf:(B0.map fun p=>(p.1,qp2 R d i0 p.2)).map (·.1)=B0.map (·.1):=by rw[List.map_map];rfl
 rw[hBf]
 obtain⟨h1,h2⟩:=qd1 h
 cases h2
 have hnm:∀ m,(B0.map (·.1)).contains m=true→((B0.map fun p=>(p.1,qp2 R d i0 p.2)).lookup m).getD m=qp2 R d i0 ((B0.lookup m).getD m):=by
  intro m hm
  obtain⟨t,ht⟩:=Qkw hm
  rw[Qkx,ht];rfl
 have hob:∀ nm,ioOb (qbo st.objs) (B0.map fun p=>(p.1,qp2 R d i0 p.2)) nm=(ioOb (qbo st.objs) B0 nm).ren (qp2 R d i0):=by
  intro nm
  unfold ioOb
  rw[hBf,Ob.ren_ren]
  exact Ob.ren_congr fun m hm=>hnm m (Ob.cut_names hm)
 simp only[chk,h1,if_true,Option.some.injEq,Out.mk.injEq,true_and,and_true]
 refine⟨?_,?_,?_,?_⟩
 ·rw[ren_ren]
  exact ren_congr fun m hm=>hnm m (cut_names hm)
 ·rw[List.map_map]
  exact List.map_congr_left fun m _=>hob m
 ·simp only[qvv]
  apply List.ext_getElem?
  intro i
  have e:(R.zipIdx.filter fun p=>(qqj (st.keep.getD p.2 .undef)).isNone).map (·.1)=(((qhv R.length).zipIdx.filter fun p=>(qqj (st.keep.getD p.2 .undef)).isNone).map (·.1)).map (qp2 R d i0):=by
   have hz:R.zipIdx=(qhv R.length).zipIdx.map fun p=>(qp2 R d i0 p.1,p.2):=by
    apply List.ext_getElem?
    intro i
    simp only[List.getElem?_map,List.getElem?_zipIdx,Nat.zero_add,qhv]
    by_cases hi:i < R.length
    ·rw[List.getElem?_eq_getElem hi,List.getElem?_range hi]
     simp[qp2,List.getD_eq_getElem?_getD,List.getElem?_eq_getElem hi]
    ·rw[List.getElem?_eq_none_iff.2 (by omega),List.getElem?_eq_none_iff.2 (by simp;omega)]
     rfl
   rw[hz,List.filter_map,List.map_map,List.map_map]
   rfl
  rw[e]
 ·have hR2:A0.map (fun p=>qp2 R d i0 p.2)=R:=by
   rw[←hA0]
   apply List.ext_getElem?
   intro i
   simp only[qg5,List.getElem?_map,List.getElem?_zipIdx,Nat.zero_add,qhv]
   by_cases hi:i < R.length
   ·rw[List.getElem?_eq_getElem hi,List.getElem?_range hi]
    simp[qp2,List.getD_eq_getElem?_getD,List.getElem?_eq_getElem hi]
   ·rw[List.getElem?_eq_none_iff.2 (by omega:R.length≤i),List.getElem?_eq_none_iff.2 (by simp;omega)]
    rfl
  have hz:∀ (l:List (Nm×Nm)) (f:Nm×Nm→Nm) (g:Nm×Nm→Ob),l.map (fun p=>(f p,g p))=(l.map f).zip (l.map g):=by
   intro l f g
   induction l with
   | nil=>rfl
   | cons p l ih=>simp[ih]
  have e1:(A0.map fun p=>(p.1,qp2 R d i0 p.2)).map (fun p=>(p.2,ioOb (qbo st.objs) (B0.map fun p=>(p.1,qp2 R d i0 p.2)) p.1))=A0.map fun p=>(qp2 R d i0 p.2,(ioOb (qbo st.objs) B0 p.1).ren (qp2 R d i0)):=by
   rw[List.map_map]
   exact List.map_congr_left fun p _=>by simp only[Function.comp,hob]
  rw[hA,e1,hz,hR2,List.map_map]
  rfl
end Go.Ab


namespace Go.Ab
noncomputable def limCall (sp:FuncId→(Nm→Option Ob)→List PV→Option Out) (tab:FuncId→Option RFn):qs2:=fun E h dep g args e=>lim fun n=>qcp sp tab n E h dep g args e
def qj3 (sp:FuncId→(Nm→Option Ob)→List PV→Option Out) (tab:FuncId→Option RFn) (n:Nat):qfk:=qlc sp tab n
theorem qlh (sp:FuncId→(Nm→Option Ob)→List PV→Option Out) (tab:FuncId→Option RFn) (n:Nat):(qj3 sp tab n).sp=sp:=Qd0 sp tab n
theorem qpw (sp:FuncId→(Nm→Option Ob)→List PV→Option Out) (tab:FuncId→Option RFn) (n:Nat):(qj3 sp tab n).isIo=qjp tab:=qt1 sp tab n
theorem Qkv (sp:FuncId→(Nm→Option Ob)→List PV→Option Out) (tab:FuncId→Option RFn) (n:Nat):(qj3 sp tab n).leans=qgr tab:=qrb sp tab n
theorem machN_flat (sp:FuncId→(Nm→Option Ob)→List PV→Option Out) (tab:FuncId→Option RFn) (n:Nat):(qj3 sp tab n).flat=qlk tab:=qt2 sp tab n
theorem Qbn (sp:FuncId→(Nm→Option Ob)→List PV→Option Out) (tab:FuncId→Option RFn) (n:Nat):(qj3 sp tab n).call=qcp sp tab n:=rfl
noncomputable def limIo (sp:FuncId→(Nm→Option Ob)→List PV→Option Out) (tab:FuncId→Option RFn) (g:FuncId) (ins:List Ob) (vs:List PV):Option (St×PV) :=
 match tab g with
 | some fn=>lim fun n=>qtq (qj3 sp tab n) n fn ins vs
 | none=>none
structure qld (cfg:qzo) (tab:FuncId→Option RFn):Prop where
 L:cfg.b.L=limCall cfg.b.sp tab
 I:cfg.b.I=limIo cfg.b.sp tab
 isIo:cfg.b.isIo=qjp tab
 leans:cfg.b.leans=qgr tab
 flat:∀ g,cfg.flatF g=true→qlk tab g=true
 ioF:∀ g,(cfg.ioF g).isSome=qjp tab g
 ioP:∀ g P,cfg.ioF g=some P→∃ fn,tab g=some fn∧0 < fn.nt∧∀ xs os,(P xs os).args.length≤fn.nt∧(P xs os).ins.length≤fn.nt
 spF:∀ g,cfg.spF g=false→∀ σ vs,cfg.b.sp g σ vs=none
 loc:∀ g σ vs,qb3 vs=true→cfg.b.sp g σ vs=cfg.b.sp g (fun _=>none) vs
 spK:∀ g s,cfg.spK g=some s→∀ σ xs out,qf6 xs→(∀ nm o,σ nm=some o→o.ok)→s σ xs=some (true,out)→out.Ok∧cfg.b.sp g (fun nm=>(σ nm).map KOb.ob) (pvL xs)=some out.out∧∀ f,out.out.v.ren f=out.out.v
 asOk:∀ g p t n,cfg.asT g p=some (t,n)→∀ σ nm ty cs,σ nm=some (.cells ty cs)→cs.length=n→cfg.b.sp g σ [.nilI,.iface p (.ref nm 0)]=some {v:=.bool false} ∧
  ∀ x,qbi x n=true→cfg.b.sp g σ [.iface t x,.iface p (.ref nm 0)]=some {v:=.bool true,upd:=some (nm,.cells ty x.cells)}
def HOk {E:Type} (h:qbg E) (hn:Nat→qbg E):Prop:=∀ l args e r,h l args e=some r→Evl fun n=>hn n l args e=some r
mutual
theorem Qja (d:Nat) {obs:List Ob}:∀ (sh:RSh) (j:Nat) (v:PV) {u:PV} {j':Nat},sh.fix=true→qht obs sh j v=some (u,j') →
  (qxl d sh j u).1.pv=v.ren (qh0 d)∧(qxl d sh j u).2.1.map KOb.ob=(obs.drop j).take (j' - j)∧(qxl d sh j u).2.2=j'∧(qxl d sh j u).1.ok∧(∀ o∈(qxl d sh j u).2.1,o.ok)∧j≤j'
 | .opt k,j,v,u,j',hf,h=>by cases hf
 | .cl,j,v,u,j',_,h=>by
  simp only[qht] at h
  obtain⟨h1,h2⟩:=qbp h
  cases h2
  refine⟨?_,by simp[qxl],rfl,h1,by simp[qxl],Nat.le_refl _⟩
  simp only[qxl,KV.pv]
  rw[qm0 (qgb h1).1]
 | .own k,j,v,u,j',_,h=>by
  simp only[qht] at h
  split at h
  ·rename_i nm k' o n k'' kt xs hj
   obtain⟨h1,h2⟩:=qbp h
   cases h2
   simp only[Bool.and_eq_true,beq_iff_eq] at h1
   obtain⟨⟨⟨⟨⟨⟨rfl,rfl⟩,rfl⟩,rfl⟩,rfl⟩,rfl⟩,hok⟩:=h1
   refine⟨by simp[qxl,KV.pv,PV.ren,qh0,qbu,qbl],?_,rfl,trivial,?_,by omega⟩
   ·have hlt:=(List.getElem?_eq_some_iff.1 hj).1
    have hd:obs.drop j=.arr k 0 xs :: obs.drop (j+1):=by
     obtain⟨hi,he⟩:=List.getElem?_eq_some_iff.1 hj
     rw[←he];exact List.drop_eq_getElem_cons hi
    rw[hd,show j+1 - j=1 by omega]
    simp[qxl,KOb.ob,qbl]
   ·intro o ho
    simp only[qxl,List.mem_singleton] at ho
    subst ho;exact hok
  ·cases h
 | .tup l,j,v,u,j',hf,h=>by
  simp only[qht] at h
  split at h
  ·rename_i vs
   obtain⟨p,hp,he⟩:=Option.map_eq_some_iff.1 h
   cases he
   obtain⟨h1,h2,h3,h4,h5,h6⟩:=qt5 d l j vs (us:=p.1) (j':=p.2) hf hp (.tup p.1) 0 (by intro i _;simp[prjP])
   simp only[qxl]
   exact⟨by simp[KV.pv,PV.ren,h1],h2,h3,h4,h5,h6⟩
  ·cases h
 | .agg l,j,v,u,j',hf,h=>by
  simp only[qht] at h
  split at h
  ·rename_i vs
   obtain⟨p,hp,he⟩:=Option.map_eq_some_iff.1 h
   cases he
   obtain⟨h1,h2,h3,h4,h5,h6⟩:=qt5 d l j vs (us:=p.1) (j':=p.2) hf hp (.agg p.1) 0 (by intro i _;simp[prjP])
   simp only[qxl]
   exact⟨by simp[KV.pv,PV.ren,h1],h2,h3,h4,h5,h6⟩
  ·cases h
theorem qt5 (d:Nat) {obs:List Ob}:∀ (l:List RSh) (j:Nat) (vs:List PV) {us:List PV} {j':Nat},fixL l=true→qk6 obs l j vs=some (us,j')→∀ (r:PV) (i:Nat),(∀ m,m < us.length→prjP r (i+m)=us.getD m .undef) →
  pvL (qzu d l j r i).1=qhy (qh0 d) vs∧(qzu d l j r i).2.1.map KOb.ob=(obs.drop j).take (j' - j)∧(qzu d l j r i).2.2=j'∧qf6 (qzu d l j r i).1∧(∀ o∈(qzu d l j r i).2.1,o.ok)∧j≤j'
 | [],j,vs,us,j',_,h,r,i,_=>by
  cases vs with
  | nil=>simp only[qk6] at h;cases h;simp[qzu,pvL,qhy,qf6]
  | cons v vs=>simp[qk6] at h
 | s :: l,j,vs,us,j',hf,h,r,i,hr=>by
  simp only[fixL,Bool.and_eq_true] at hf
  cases vs with
  | nil=>simp[qk6] at h
  | cons v vs =>
   simp only[qk6] at h
   split at h
   ·rename_i u j1 hu
    obtain⟨p,hp,he⟩:=Option.map_eq_some_iff.1 h
    obtain⟨us',j2⟩:=p
    cases he
    have h0:prjP r i=u:=by have:=hr 0 (by simp);simpa using this
    obtain⟨a1,a2,a3,a4,a5,a6⟩:=Qja d s j v hf.1 hu
    obtain⟨b1,b2,b3,b4,b5,b6⟩:=qt5 d l j1 vs hf.2 hp r (i+1) (fun m hm=>by
     have:=hr (m+1) (by simp;omega)
     rw[show i+(m+1)=i+1+m by omega] at this
     simpa using this)
    simp only[qzu,h0,a3]
    refine⟨by simp[pvL,qhy,a1,b1],?_,b3,⟨a4,b4⟩,?_,by omega⟩
    ·rw[List.map_append,a2,b2]
     have e1:obs.drop j1=(obs.drop j).drop (j1 - j):=by rw[List.drop_drop];congr 1;omega
     rw[e1,show j2 - j=(j1 - j)+(j2 - j1) by omega,List.take_add]
    ·intro o ho
     rcases List.mem_append.1 ho with ho | ho
     ·exact a5 o ho
     ·exact b5 o ho
   ·cases h
end
theorem qzd (d:Nat) {obs:List Ob} {sh:RSh} {v u:PV} (hf:sh.fix=true) (h:qlw sh v obs=some u):(qxl d sh 0 u).1.pv=v.ren (qh0 d)∧(qxl d sh 0 u).2.1.map KOb.ob=obs∧(qxl d sh 0 u).1.ok∧∀ o∈(qxl d sh 0 u).2.1,o.ok:=by
 unfold qlw at h
 split at h
 ·rename_i r j hr
  obtain⟨h1,h2⟩:=qbp h
  cases h2
  simp only[beq_iff_eq] at h1
  obtain⟨a1,a2,a3,a4,a5,a6⟩:=Qja d sh 0 v hf hr
  refine⟨a1,?_,a4,a5⟩
  rw[a2,h1];simp
 ·cases h
mutual
theorem qz7 {R:Type} {r:R}:∀ (sh:RSh) (u:PV) {K:RSh→Option R},qmv sh u K=some r →
  ∃ sh',sh'.fix=true∧K sh'=some r∧∀ obs j v j',qht obs sh j v=some (u,j')→qht obs sh' j v=some (u,j')
 | .cl,u,K,h=>⟨.cl,rfl,h,fun _ _ _ _ h=>h⟩
 | .own k,u,K,h=>⟨.own k,rfl,h,fun _ _ _ _ h=>h⟩
 | .opt k,u,K,h=>by
  simp only[qmv] at h
  unfold nilB at h
  split at h
  ·refine⟨.cl,rfl,h,fun obs j v j' hc=>?_⟩
   simp only[qht] at hc
   split at hc
   ·cases hc;rfl
   ·obtain⟨_,hc⟩:=qbp hc
    cases hc
   ·cases hc
  ·rename_i hu
   refine⟨.own k,rfl,h,fun obs j v j' hc=>?_⟩
   simp only[qht] at hc
   split at hc
   ·cases hc;exact absurd rfl hu
   ·rename_i hj
    simp only[qht,hj];exact hc
   ·cases hc
 | .tup l,u,K,h=>by
  simp only[qmv] at h
  obtain⟨l',h1,h2,h3⟩:=qqo l u 0 h
  refine⟨.tup l',h1,h2,fun obs j v j' hc=>?_⟩
  simp only[qht] at hc ⊢
  split at hc
  ·obtain⟨p,hp,he⟩:=Option.map_eq_some_iff.1 hc
   cases he
   rw[h3 obs j _ p.1 p.2 hp (by intro i _;simp[prjP])]
   rfl
  ·cases hc
 | .agg l,u,K,h=>by
  simp only[qmv] at h
  obtain⟨l',h1,h2,h3⟩:=qqo l u 0 h
  refine⟨.agg l',h1,h2,fun obs j v j' hc=>?_⟩
  simp only[qht] at hc ⊢
  split at hc
  ·obtain⟨p,hp,he⟩:=Option.map_eq_some_iff.1 hc
   cases he
   rw[h3 obs j _ p.1 p.2 hp (by intro i _;simp[prjP])]
   rfl
  ·cases hc
theorem qqo {R:Type} {r:R}:∀ (l:List RSh) (u:PV) (i:Nat) {K:List RSh→Option R},qrp l u i K=some r →
  ∃ l',fixL l'=true∧K l'=some r∧∀ obs j vs us j',qk6 obs l j vs=some (us,j')→(∀ m,m < us.length→prjP u (i+m)=us.getD m .undef)→qk6 obs l' j vs=some (us,j')
 | [],u,i,K,h=>⟨[],rfl,h,fun _ _ _ _ _ h _=>h⟩
 | s :: l,u,i,K,h=>by
  simp only[qrp] at h
  obtain⟨s',h1,h,h3⟩:=qz7 s (prjP u i) h
  obtain⟨l',g1,h,g3⟩:=qqo l u (i+1) h
  refine⟨s' :: l',by simp[fixL,h1,g1],h,fun obs j vs us j' hc hu=>?_⟩
  cases vs with
  | nil=>simp[qk6] at hc
  | cons v vs =>
   simp only[qk6] at hc ⊢
   split at hc
   ·rename_i w j1 hw
    obtain⟨p,hp,he⟩:=Option.map_eq_some_iff.1 hc
    obtain⟨us',j2⟩:=p
    cases he
    have h0:prjP u i=w:=by have:=hu 0 (by simp);simpa using this
    rw[h3 obs j v j1 (by rw[h0];exact hw)]
    simp only
    rw[g3 obs j1 vs us' j2 hp (fun m hm=>by
     have:=hu (m+1) (by simp;omega)
     rw[show i+(m+1)=i+1+m by omega] at this
     simpa using this)]
    simp only[Option.map_some,h0]
   ·cases hc
end
theorem qw5 {R:Type} {r:R} {sh:RSh} {u:PV} {K:RSh→Option R} (h:qmv sh u K=some r) :
  ∃ sh',sh'.fix=true∧K sh'=some r∧∀ v obs,qlw sh v obs=some u→qlw sh' v obs=some u:=by
 obtain⟨sh',h1,h2,h3⟩:=qz7 sh u h
 refine⟨sh',h1,h2,fun v obs hc=>?_⟩
 unfold qlw at hc ⊢
 split at hc
 ·rename_i w j hw
  obtain⟨c1,c2⟩:=qbp hc
  cases c2
  rw[h3 obs 0 v j hw]
  simp only[c1,qbq]
 ·cases hc
section
variable {cfg:qzo} {tab:FuncId→Option RFn} {ks:KSt} {E R:Type} {h:qbg E} {hn:Nat→qbg E} {K:qb8→E→Option R} {r:R} {e:E} {d dep:Nat}
theorem spO_ok (hc:qld cfg tab) {g:FuncId} {vs:List PV} (hvs:qb3 vs=true) {x:Option (PV×List Ob)} (h:spO cfg.b.sp g vs=some x) (σ:Nm→Option Ob) :
  match x with | some p=>cfg.b.sp g σ vs=some {v:=p.1,new:=p.2} | none=>cfg.b.sp g σ vs=none:=by
 unfold spO at h
 rw[hc.loc g σ vs hvs]
 split at h
 ·rename_i out ho
  obtain⟨h1,h2⟩:=qbp h
  cases h2
  simp only[Bool.and_eq_true,List.isEmpty_iff,Option.isNone_iff_eq_none,Bool.not_eq_true'] at h1
  obtain⟨⟨⟨⟨⟨⟨b,c⟩,f⟩,a2⟩,a3⟩,a4⟩,a5⟩:=h1
  simp only
  rw[ho]
  obtain⟨v,new,upd,kill,frz,gone,ups,io,slot⟩:=out
  simp only at b c f a2 a3 a4 a5
  subst b;subst c;subst f;subst a2;subst a3;subst a4;subst a5
  rfl
 ·rename_i ho;cases h;exact ho
theorem Qpb {sh sh':RSh} {f:PV} {vs:List PV} {u:PV} (hs:∀ v obs,qlw sh v obs=some u→qlw sh' v obs=some u) (h:qbj cfg.b sh f vs=some u):qbj cfg.b sh' f vs=some u:=by
 unfold qbj at h ⊢
 split at h
 ·split at h
  ·exact hs _ _ h
  ·split at h
   ·cases h
   ·rename_i hio
    rw[if_neg hio]
    split at h
    ·exact hs _ _ h
    ·cases h
  ·cases h
 ·cases h
theorem lendO_sh {sh sh':RSh} {fr:Bool} {g:FuncId} {vs:List PV} {u:PV} (hs:∀ v obs,qlw sh v obs=some u→qlw sh' v obs=some u) (h:qft cfg.b sh fr g vs=some u):qft cfg.b sh' fr g vs=some u:=by
 unfold qft at h ⊢
 split at h
 ·cases h
 ·rename_i hy
  rw[if_neg hy]
  split at h
  ·obtain⟨h1,h2⟩:=qbp h
   simp only[h1,qbq]
   exact hs _ _ h2
  ·cases h
theorem Qnt {g:FuncId}:Nat.blt (qfh g) qf7=true:=by
 unfold qfh
 split
 ·assumption
 ·exact Nat.blt_eq.mpr (Nat.mod_lt _ (by decide))
theorem fnId_id {g:FuncId}:qfh (qfh g)=qfh g:=by
 have h:=Qnt (g:=g)
 generalize qfh g=x at h
 simp[qfh,h]
theorem fnArgs_id {g:FuncId} {vs:List PV}:qcc (qfh g) vs []=vs:=by
 have h:=Qnt (g:=g)
 simp[qcc,h]
theorem qyq {f:FuncId} {vs cap:List PV} {x:PV} (h:x∈vs∨x∈cap):x∈qcc f vs cap:=by
 unfold qcc
 split
 ·exact List.mem_append.2 h
 ·rcases h with h | h
  ·exact List.mem_append_right _ (List.mem_append_left _ h)
  ·rw[←List.take_append_drop (fnK f) cap] at h
   rcases List.mem_append.1 h with h | h
   ·exact List.mem_append_left _ h
   ·exact List.mem_append_right _ (List.mem_append_right _ h)
theorem Qbu (f:FuncId) (vs cap:List KV):pvL (qlt f vs cap)=qcc f (pvL vs) (pvL cap):=by
 unfold qlt qcc
 cases Nat.blt f qf7<;>simp[qpu,qps,qpt]
theorem Qbv {f:FuncId} {vs cap:List KV} (h1:qf6 vs) (h2:qf6 cap):qf6 (qlt f vs cap):=by
 unfold qlt
 split
 ·exact qg3 h1 h2
 ·exact qg3 (qct.2 fun x hx=>qct.1 h2 x (List.mem_of_mem_take hx)) (qg3 h1 (qct.2 fun x hx=>qct.1 h2 x (List.mem_of_mem_drop hx)))
theorem callO_all {B:KB} {sh:RSh} {f:FuncId} {vs cap:List PV}:qbj B sh (.fn f cap) vs=qbj B sh (.fn (qfh f) []) (qcc f vs cap):=by
 simp only[qbj,fnId_id,fnArgs_id]
theorem Qpc (hc:qld cfg tab) {sh:RSh} (hfix:sh.fix=true) {f:PV} {vs:List PV} (hvs:qb3 vs=true) (hf:okV f=true) {u:PV} (hu:qbj cfg.b sh f vs=some u) (σ:Nm→Option Ob) (T:List PV) (fx:RX) (args:List RX) (hfx:fx.ev T=f) (hargs:args.map (RX.ev T)=vs) :
  ∃ out:qb8,out.Ok∧out={v:=(qxl d sh 0 u).1,new:=(qxl d sh 0 u).2.1}∧Evl fun n=>qck (qj3 cfg.b.sp tab n) (hn n) dep d σ T fx args e=some (out.out,e):=by
 unfold qbj at hu
 split at hu
 ·rename_i g cap
  have hcap:qb3 cap=true:=by simpa[okV] using hf
  have hall:qb3 (qcc g vs cap)=true:=qd2.2 fun x hx=>(qtx hx).elim (qd2.1 hvs x) (qd2.1 hcap x)
  have hnm:(qbm (qcc g vs cap)).isEmpty=true:=by rw[(qb4 hall).1];rfl
  have hy:qdi (qcc g vs cap)=false:=(qb4 hall).2
  split at hu
  ·rename_i v obs hs
   have h1:=spO_ok hc hall hs σ
   simp only at h1
   obtain⟨a1,a2,a3,a4⟩:=qzd d hfix hu
   refine⟨_,⟨a3,a4,by simp,by simp⟩,rfl,.of fun n=>?_⟩
   simp only[qck,hfx,hargs,qlh,h1,qb8.out,a1,a2,Option.map_none,List.map_nil]
  ·rename_i hs
   have h1:=spO_ok hc hall hs σ
   split at hu
   ·cases hu
   rename_i hio
   have hio:qjp tab (qfh g)=false:=by rw[←hc.isIo];simpa using hio
   split at hu
   ·rename_i rr obs hL
    rw[hc.L] at hL
    have hev:=qr7 hL
    obtain⟨a1,a2,a3,a4⟩:=qzd d hfix hu
    refine⟨_,⟨a3,a4,by simp,by simp⟩,rfl,hev.mono fun n hn'=>?_⟩
    simp only at h1
    simp only[qck,hfx,hargs,qlh,qpw,Qbn,hio,h1,hnm,if_true,hy,Bool.false_eq_true,if_false,hn',qb8.out,a1,a2,Option.map_none,List.map_nil]
   ·cases hu
  ·cases hu
 ·cases hu
theorem mapM_mem {α:Type} {σ:Nm→Option α}:∀ {S:List Nm} {l:List α},S.mapM σ=some l→l.length=S.length∧∀ x∈l,∃ nm,σ nm=some x:=by
 intro S
 induction S with
 | nil=>intro l h;simp at h;subst h;exact⟨rfl,fun x h=>by cases h⟩
 | cons y S ih =>
  intro l h
  rw[List.mapM_cons] at h
  simp only[Option.bind_eq_bind,Option.bind_eq_some_iff,Option.pure_def,Option.some.injEq] at h
  obtain⟨o,ho,l',hl,rfl⟩:=h
  obtain⟨q1,q2⟩:=ih hl
  refine⟨by simp[q1],fun x hx=>?_⟩
  rcases List.mem_cons.1 hx with rfl | hx
  ·exact⟨y,ho⟩
  ·exact q2 x hx
theorem mapM_map' {α β:Type} {σ:Nm→Option α} (g:α→β):∀ {S:List Nm} {l:List α},S.mapM σ=some l→S.mapM (fun nm=>(σ nm).map g)=some (l.map g):=by
 intro S
 induction S with
 | nil=>intro l h;simp at h;subst h;rfl
 | cons y S ih =>
  intro l h
  rw[List.mapM_cons] at h
  simp only[Option.bind_eq_bind,Option.bind_eq_some_iff,Option.pure_def,Option.some.injEq] at h
  obtain⟨o,ho,l',hl,rfl⟩:=h
  rw[List.mapM_cons,ih hl,ho]
  rfl
theorem Qb4:∀ {ps xs:List KOb},qhp ps xs=true→ps.length=xs.length
 | [],[],_=>rfl
 | [],_ :: _,h=>by simp[qhp] at h
 | _ :: _,[],h=>by simp[qhp] at h
 | p :: ps,x :: xs,h=>by
  simp only[qhp,Bool.and_eq_true] at h
  simp[Qb4 h.2]
theorem Qnu:∀ {ps xs:List KV},qzy ps xs=true→ps.length=xs.length
 | [],[],_=>rfl
 | [],_ :: _,h=>by simp[qzy] at h
 | _ :: _,[],h=>by simp[qzy] at h
 | p :: ps,x :: xs,h=>by
  simp only[qzy,Bool.and_eq_true] at h
  simp[Qnu h.2]
theorem ob_noY {o:KOb} (h:o.ok) (hq:∀ ty cs,o=.cells ty cs→qj9 cs=false):o.ob.hasY=false:=by
 cases o with
 | cells ty cs =>
  have h':qf6 cs:=h
  show qdi (pvL cs)=false
  rw[qm1 h'];exact hq ty cs rfl
 | whole ty v=>exact (qb4 (qco h)).2
 | arr k kt xs=>exact (qb4 h).2
 | map es=>exact (qb4 h).2
 | siter s p=>rfl
theorem Qbx (hc:qld cfg tab) (hk:ks.Ok) (hq:qjm ks.objs=true) {g:FuncId} {xs:List KV} (hxs:qf6 xs)
  {R:Type} {r:R} {K:qb8→Option R} {Pf:List KV→List KOb→qkc} (hPf:cfg.ioF g=some Pf) (hr:qx9 cfg Pf g d (qc1 ks.objs) xs K=some r) :
  ∃ out,K out=some r∧out.Ok∧cfg.spF g=false∧Evl fun n=>(qj3 cfg.b.sp tab n).io g d (qbo ks.st.objs) (pvL xs)=some out.out:=by
 unfold qx9 at hr
 simp only at hr
 generalize hS:qgh (ql8 (qc1 ks.objs) qbn (qdn xs))=S at hr
 split at hr
 ·cases hr
 rename_i ins hins
 generalize hP:Pf xs ins=P at hr
 split at hr
 case isFalse=>cases hr
 rename_i hcond
 obtain⟨hsh,hy,hsp,hfit⟩:=hcond
 simp only[Bool.and_eq_true] at hfit
 obtain⟨hfa,hfo⟩:=hfit
 obtain⟨rs,hio,hr⟩:=qb6 hr
 have hplace:∃ sl d1 i1,K (ioOut P S sl d1 i1 rs)=some r∧∀ st v out,qts sl d1 i1 S st v=some out→qq5 (qbo ks.st.objs) d S st v=some out:=by
  unfold qq5
  cases S with
  | nil=>exact⟨none,d,0,hr,fun st v out h=>h⟩
  | cons s ss =>
   simp only at hr
   split at hr
   ·rename_i i1 hi1
    refine⟨some s.1,s.1,i1,hr,fun st v out h=>?_⟩
    have:qqq (qbo ks.st.objs) s.1=some i1:=by
     rw[qdp hk,←hi1]
     unfold qqq
     congr 1
     funext j
     show ((qc1 ks.objs (s.1,j)).map KOb.ob).isNone=_
     cases qc1 ks.objs (s.1,j)<;>rfl
    simp only[this]
    exact h
   ·cases hr
 obtain⟨sl,d1,i1,hr,hplace⟩:=hplace
 have hflag:qjp tab g=true:=by rw[←hc.ioF,hPf];rfl
 obtain⟨fn,htab,hnt,hll⟩:=hc.ioP g Pf hPf
 have hla:=(hll xs ins).1
 have hli:=(hll xs ins).2
 rw[hP] at hla hli
 obtain⟨m1,m2⟩:=mapM_mem hins
 have hinok:∀ o∈ins,o.ok:=fun o ho=>let ⟨nm,h⟩:=m2 o ho;qcj hk nm o h
 have hS':qgh (qcm (qbo ks.st.objs) qbn (qbm (pvL xs)))=S:=by rw[←hS,qgn (qcj hk),qdp hk,qdy hxs]
 have hmap:S.mapM (qbo ks.st.objs)=some (ins.map KOb.ob):=by rw[qdp hk];exact mapM_map' KOb.ob hins
 have hysok:qf6 (qqa (fun m=>(0,S.idxOf m)) xs):=qp1 _ hxs
 have hosok:∀ o∈ins.map (KOb.ren fun m=>(0,S.idxOf m)),o.ok:=by
  intro o ho
  obtain⟨o0,h0,rfl⟩:=List.mem_map.1 ho
  exact KOb.ren_ok _ (hinok o0 h0)
 have hlen:P.ins.length=S.length:=by rw[Qb4 hfo,List.length_map,m1]
 have hlx:∀ l:List KV,(qqa (fun m=>(0,S.idxOf m)) l).length=l.length:=by
  intro l;induction l with | nil=>rfl | cons x l ih=>simp[qqa,ih]
 have hlena:(pvL xs).length≤fn.nt:=by
  have h1:=Qnu hfa
  rw[hlx] at h1
  have h2:(pvL xs).length=xs.length:=by rw[qfq,List.length_map]
  omega
 generalize hlv:qhn P.args (qqa (fun m=>(0,S.idxOf m)) xs)++qhm P.ins (ins.map (KOb.ren fun m=>(0,S.idxOf m)))=lv at hio
 have hseg:Seg lv 0 (qhn P.args (qqa (fun m=>(0,S.idxOf m)) xs)++qhm P.ins (ins.map (KOb.ren fun m=>(0,S.idxOf m)))):=by rw[hlv];exact Seg.all lv
 obtain⟨p1,p2,p3⟩:=qp5 _ _ hfa hysok lv 0 hseg.left
 obtain⟨q1,q2,q3⟩:=qt0 _ _ hfo hosok lv (qh6 P.args lv 0).2 (by rw[p3];exact hseg.right)
 have hvs2:pvL (qqa (fun m=>(0,S.idxOf m)) xs)=qhy (fun m=>(0,S.idxOf m)) (pvL xs):=qtd _ hxs
 have hos2:(ins.map (KOb.ren fun m=>(0,S.idxOf m))).map KOb.ob=(ins.map KOb.ob).map (Ob.ren fun m=>(0,S.idxOf m)):=by
  rw[List.map_map,List.map_map]
  exact List.map_congr_left fun o ho=>KOb.ren_ob _ (hinok o ho)
 unfold ioO at hio
 rw[p1,q1,hvs2,hos2] at hio
 split at hio
 case h_2=>cases hio
 rename_i st v hI
 rw[hc.I] at hI
 unfold limIo at hI
 rw[htab] at hI
 have hev:=qr7 hI
 split at hio
 case h_2=>cases hio
 rename_i out0 hend
 rw[hlen] at hend
 have hend2:=ioEnd_ren (sl:=sl) (d:=d1) (i0:=i1) hend
 unfold ioFit at hio
 split at hio
 case isFalse=>cases hio
 rename_i hgone
 split at hio
 case h_2=>cases hio
 rename_i a b c ha hb hcc
 cases hio
 have hsr:=Seg.all (a++(b++c))
 obtain⟨a1,a2,a3⟩:=qyr P.res out0.v ha _ 0 hsr.left
 obtain⟨b1,b2,b3⟩:=qpe P.outs _ hb (a++(b++c)) (fill P.res (a++(b++c)) 0).2 (by rw[a3];exact hsr.right.left)
 obtain⟨c1,c2,c3⟩:=qpe P.news _ hcc (a++(b++c)) (qdc P.outs (a++(b++c)) (fill P.res (a++(b++c)) 0).2).2 (by rw[b3,a3];exact hsr.right.right)
 have hout:(ioOut P S sl d1 i1 (a++(b++c))).out={v:=out0.v.ren (qp2 S d1 i1),new:=out0.new.map (Ob.ren (qp2 S d1 i1)),gone:=out0.gone.map (qp2 S d1 i1),ups:=S.zip (out0.ups.map fun p=>p.2.ren (qp2 S d1 i1)),io:=true,slot:=sl}:=by
  simp only[ioOut,qb8.out,Option.map_none,Out.mk.injEq,true_and,and_true]
  refine⟨?_,?_,?_,?_⟩
  ·rw[KV.ren_pv _ a2,a1]
  ·rw[List.map_map,←c1,List.map_map]
   exact List.map_congr_left fun o ho=>KOb.ren_ob _ (c2 o ho)
  ·rw[hgone,List.map_map]
   exact List.map_congr_left fun j _=>by simp[qp2]
  ·have e1:out0.ups.map (fun p=>p.2.ren (qp2 S d1 i1))=(out0.ups.map (·.2)).map (Ob.ren (qp2 S d1 i1)):=by rw[List.map_map];rfl
   rw[e1,←b1,List.map_map]
   have key:∀ (T:List Nm) (l:List KOb),(∀ o∈l,o.ok)→(T.zip (l.map (KOb.ren (qp2 S d1 i1)))).map (fun p=>(p.1,p.2.ob))=T.zip (l.map (Ob.ren (qp2 S d1 i1)∘KOb.ob)):=by
    intro T
    induction T with
    | nil=>intro l _;rfl
    | cons s T ih =>
     intro l hl
     cases l with
     | nil=>rfl
     | cons o l =>
      simp only[List.map_cons,List.zip_cons_cons,List.map_cons,Function.comp]
      rw[KOb.ren_ob _ (hl o List.mem_cons_self),ih l fun o ho=>hl o (List.mem_cons_of_mem _ ho)]
   exact key S _ b2
 refine⟨_,hr,⟨KV.ren_ok _ a2,?_,by simp[ioOut],?_⟩,hsp,hev.shift.mono ?_⟩
 ·intro o ho
  obtain⟨o0,h0,rfl⟩:=List.mem_map.1 ho
  exact KOb.ren_ok _ (c2 o0 h0)
 ·rintro ⟨s,o⟩ ho
  have:=(List.of_mem_zip ho).2
  obtain⟨o0,h0,rfl⟩:=List.mem_map.1 this
  exact KOb.ren_ok _ (b2 o0 h0)
 ·rintro k ⟨j,rfl,hj⟩
  show Qjz (qlc cfg.b.sp tab j) j tab g d (qbo ks.st.objs) (pvL xs)=_
  unfold Qjz
  rw[htab]
  simp only
  rw[hS',hmap]
  have hcd:(!qdi (pvL xs)&&qjk (qbo ks.st.objs) S&&(ins.map KOb.ob).all (fun o=>!o.hasY)&&(decide ((pvL xs).length≤fn.nt)&&decide (S.length≤fn.nt)&&decide (0 < fn.nt)))=true:=by
   simp only[Bool.and_eq_true,Bool.not_eq_true',decide_eq_true_eq]
   refine⟨⟨⟨by rw[qm1 hxs];exact hy,?_⟩,?_⟩,⟨hlena,by omega⟩,hnt⟩
   ·rw[qdp hk,←qp0 (qcj hk)];exact hsh
   ·rw[List.all_eq_true]
    intro o ho
    obtain⟨o0,h0,rfl⟩:=List.mem_map.1 ho
    obtain⟨nm,hnm⟩:=m2 o0 h0
    have:=ob_noY (hinok o0 h0) fun ty cs hcs=>ql4 hq nm ty cs (by rw[hnm,hcs])
    simp[this]
  simp only[chk,hcd,if_true]
  have hj':qtq (qlc cfg.b.sp tab j) j fn ((ins.map KOb.ob).map (Ob.ren fun m=>(0,S.idxOf m))) (qhy (fun m=>(0,S.idxOf m)) (pvL xs))=some (st,v):=hj
  rw[hj']
  simp only
  rw[hout]
  exact hplace _ _ _ hend2
theorem kcallIo_ok (hc:qld cfg tab) (hk:ks.Ok) (hq:qjm ks.objs=true) {g f0:FuncId} (hg0:qfh f0=g) {cap:List PV} {f:RX} {args:List RX} {xs:List KV} (hxs:qf6 xs) (hfe:f.ev ks.st.tmps=.fn f0 cap) (hvs:qcc f0 (args.map (RX.ev ks.st.tmps)) cap=pvL xs)
  {Pf:List KV→List KOb→qkc} (hPf:cfg.ioF g=some Pf) (hr:qx9 cfg Pf g d (qc1 ks.objs) xs (fun out=>K out e)=some r) :
  ∃ out e',K out e'=some r∧out.Ok∧Evl fun n=>qck (qj3 cfg.b.sp tab n) (hn n) dep d (qbo ks.st.objs) ks.st.tmps f args e=some (out.out,e'):=by
 obtain⟨out,hr,ho,hsp,hev⟩:=Qbx (K:=fun out=>K out e) hc hk hq hxs hPf hr
 have hflag:qjp tab g=true:=by rw[←hc.ioF,hPf];rfl
 exact⟨out,e,hr,ho,hev.mono fun n hn'=>by simp only[qck,hfe,hg0,hvs,qlh,qpw,hc.spF g hsp,hflag,if_true,hn']⟩
theorem kcall_ok (hc:qld cfg tab) (hh:HOk h hn) (hk:ks.Ok) {f:RX} {args:List RX} (hq:(qjm ks.objs||calmX cfg (.call f args) ks.tmps)=true) (hx:(f :: args).all okX=true)
  (hr:kcall cfg h d (qc1 ks.objs) ks.tmps f args e K=some r) :
  ∃ out e',K out e'=some r∧out.Ok∧Evl fun n=>qck (qj3 cfg.b.sp tab n) (hn n) dep d (qbo ks.st.objs) ks.st.tmps f args e=some (out.out,e'):=by
 have hxf:okX f=true:=List.all_eq_true.1 hx f (by simp)
 have hxa:args.all okX=true:=List.all_eq_true.2 fun x hm=>List.all_eq_true.1 hx x (by simp[hm])
 have hfo:=kv_ok hk hxf
 have hao:=qxy hk hxa
 unfold kcall at hr
 split at hr
 ·rename_i l hf
  have hfe:f.ev ks.st.tmps=.yld l:=by rw[qs7 hk,hf];rfl
  simp only at hr
  split at hr
  ·rename_i vs hv
   obtain⟨p,hp,hr⟩:=qb6 hr
   have hok:=qsz hao hv
   have hnm:(qbm vs).isEmpty=true:=by rw[(qb4 hok).1];rfl
   refine⟨_,_,hr,qb8.plain (v:=.cv (.bool p.1)) rfl,(hh _ _ _ _ hp).mono fun n hn'=>?_⟩
   simp[qck,hfe,qn1 hk,qv4 hv,hnm,(qb4 hok).2,chk,hn',qb8.out,KV.pv]
  ·split at hr
   ·cases hr
   ·rename_i hne
    split at hr
    ·rename_i hsh
     obtain⟨h1,hr⟩:=qbp hr
     obtain⟨p,hp,hr⟩:=qb6 hr
     have hne':(qbm (pvL (args.map (RX.kv ks.tmps)))).isEmpty=false:=by rw[qza hao];simpa using hne
     rw[qgn (qcj hk),qp0 (qcj hk),←qdp hk,←qdy hao] at hsh
     rw[qpi hk hao] at h1 hp
     unfold noYL at h1
     refine⟨_,_,hr,⟨rfl,by simp,by simp,by simp⟩,(hh _ _ _ _ hp).mono fun n hn'=>?_⟩
     simp only[qck,hfe,qn1 hk,hne',Bool.false_eq_true,if_false,hsh,h1,Bool.and_self,chk,if_true,hn',qb8.out,KV.pv]
     rw[qgn (qcj hk),←qdp hk,←qdy hao]
     rfl
    ·cases hr
 ·rename_i f0 caps hf
  rw[hf] at hfo
  have hcaps:qf6 caps:=hfo
  have hfe:f.ev ks.st.tmps=.fn f0 (pvL caps):=by rw[qs7 hk,hf];rfl
  have hxs:qf6 (qlt f0 (args.map (RX.kv ks.tmps)) caps):=Qbv hao hcaps
  have hvs:qcc f0 (args.map (RX.ev ks.st.tmps)) (pvL caps)=pvL (qlt f0 (args.map (RX.kv ks.tmps)) caps):=by rw[Qbu,qn1 hk]
  have hall:∀ sh,qbj cfg.b sh (.fn f0 (pvL caps)) (args.map (RX.ev ks.st.tmps))=qbj cfg.b sh (.fn (qfh f0) []) (qcc f0 (args.map (RX.ev ks.st.tmps)) (pvL caps)):=fun sh=>callO_all
  simp only at hr
  generalize qlt f0 (args.map (RX.kv ks.tmps)) caps=xs at hr hxs hvs
  generalize hg:qfh f0=g at hr hall
  split at hr
  ·rename_i s hs
   split at hr
   case h_2=>cases hr
   rename_i p hso
   obtain⟨b,out⟩:=p
   obtain⟨hb,hr⟩:=qbp hr
   have hb:b=true:=hb
   subst hb
   obtain⟨a1,a2,a3⟩:=hc.spK g s hs _ xs out hxs (qcj hk) hso
   rw[←qdp hk] at a2
   exact⟨out,e,hr,a1,.of fun n=>by simp only[qck,hfe,hg,hvs,qlh,a2,a3]⟩
  split at hr
  ·rename_i P hP
   have hq:qjm ks.objs=true:=by
    rcases Bool.or_eq_true_iff.1 hq with h1 | h1
    ·exact h1
    ·unfold calmX at h1
     simp only[hf,hg,hP] at h1
     cases h1
   exact kcallIo_ok hc hk hq hg hxs hfe hvs hP hr
  rename_i hP
  have hio:qjp tab g=false:=by rw[←hc.ioF,hP];rfl
  split at hr
  ·rename_i ex p nm
   split at hr
   ·rename_i t n err ty cs ht herr hlk
    have hq:=qbp hr
    clear hr
    obtain⟨hcs,hr⟩:=hq
    have hcs:cs.length=n:=Nat.eq_of_beq_eq_true hcs
    have hlk':qbo ks.st.objs nm=some (.cells ty (pvL cs)):=by rw[qjz hk,hlk];rfl
    have hcs':(pvL cs).length=n:=by rw[←hcs,qd5]
    have hero:=KV.cl_ok hxs.1 herr
    have hpv:pvL [ex,.iface p (.ref nm 0)]=[err,.iface p (.ref nm 0)]:=by simp[pvL,KV.pv,KV.cl_pv herr]
    rw[hpv] at hvs
    obtain⟨s1,s2⟩:=hc.asOk g p t n ht (qbo ks.st.objs) nm _ _ hlk' hcs'
    unfold asP at hr
    split at hr
    ·refine⟨_,_,hr,qb8.plain (v:=.lit false) trivial,.of fun n=>?_⟩
     simp only[qck,hfe,hg,hvs,qlh,s1]
     rfl
    ·rename_i t' x
     split at hr
     ·rename_i htt
      subst htt
      have hq:=qbp hr
      clear hr
      obtain⟨hx1,hr⟩:=hq
      refine⟨_,_,hr,qb8.turn (v:=.lit true) (o:=.whole _ x) trivial (show okV x=true by simpa[okV] using hero),.of fun n=>?_⟩
      simp only[qck,hfe,hg,hvs,qlh,s2 x hx1]
      rfl
     ·cases hr
    ·cases hr
   ·cases hr
  ·split at hr
   ·rename_i vs hv
    obtain⟨u,hu,hr⟩:=qb6 hr
    have hok:=qsz hxs hv
    rw[qv4 hv] at hvs
    have hu':qbj cfg.b (cfg.rsh g).1 (.fn g []) (qcc f0 (args.map (RX.ev ks.st.tmps)) (pvL caps))=some u:=by rw[hvs];exact hu
    have hcv:qb3 (pvL caps)=true:=Qc0 (ys:=pvL caps) hok fun y hy=>by rw[←hvs];exact qyq (.inr hy)
    have hav:qb3 (args.map (RX.ev ks.st.tmps))=true:=Qc0 hok fun y hy=>by rw[←hvs];exact qyq (.inl hy)
    have hu2:qbj cfg.b (cfg.rsh g).1 (.fn f0 (pvL caps)) (args.map (RX.ev ks.st.tmps))=some u:=by rw[hall];exact hu'
    obtain⟨sh',hfix,hr,hsh⟩:=qw5 hr
    have hu2:=Qpb hsh hu2
    obtain⟨out,h1,h2,h3⟩:=Qpc (d:=d) (dep:=dep) (e:=e) (hn:=hn) hc hfix hav (by simpa[okV] using hcv) hu2 (qbo ks.st.objs) ks.st.tmps f args hfe rfl
    subst h2
    exact⟨_,_,hr,h1,h3⟩
   ·split at hr
    ·cases hr
    ·rename_i hne
     split at hr
     ·rename_i hsh
      obtain⟨u,hu,hr⟩:=qb6 hr
      have hne1:(qdn xs).isEmpty=false:=by
       cases hq:(qdn xs).isEmpty with
       | false=>rfl
       | true=>exact absurd (.inl hq) hne
      have hsp:cfg.spF g=false:=by
       cases hq:cfg.spF g with
       | false=>rfl
       | true=>exact absurd (.inr hq) hne
      have hne':(qbm (pvL xs)).isEmpty=false:=by rw[qza hxs];exact hne1
      rw[qgn (qcj hk),qp0 (qcj hk),←qdp hk,←qdy hxs] at hsh
      rw[qpi hk hxs] at hu
      obtain⟨sh',hfix,hr,hshs⟩:=qw5 hr
      have hu:=lendO_sh hshs hu
      unfold qft at hu
      split at hu
      ·cases hu
      ·rename_i hy
       split at hu
       ·rename_i rr obs hL
        obtain⟨hfr,hu⟩:=qbp hu
        rw[hc.L] at hL
        have hev:=qr7 hL
        obtain⟨a1,a2,a3,a4⟩:=qzd d hfix hu
        refine⟨_,_,hr,⟨a3,a4,by simp,by simp⟩,hev.mono fun n hn'=>?_⟩
        simp only[beq_iff_eq] at hfr
        rw[hc.leans] at hfr
        have hy':qdi (qfx (qci (qbo ks.st.objs)) (pvL xs))=false:=by simpa using hy
        simp only[qck,hfe,hg,hvs,qlh,qpw,Qkv,Qbn,hio,hc.spF g hsp,hne',Bool.false_eq_true,if_false,hsh,hy',Bool.not_false,Bool.and_self,chk,if_true,hn',qb8.out,a1,a2,hfr,Option.map_none,List.map_nil]
        rw[qgn (qcj hk),←qdp hk,←qdy hxs]
       ·cases hu
     ·cases hr
 ·rename_i v hf
  rw[hf] at hfo
  have hfe:f.ev ks.st.tmps=v:=by rw[qs7 hk,hf];rfl
  split at hr
  ·rename_i vs hv
   obtain⟨u,hu,hr⟩:=qb6 hr
   obtain⟨sh',hfix,hr,hsh⟩:=qw5 hr
   obtain⟨out,h1,h2,h3⟩:=Qpc (d:=d) (dep:=dep) (e:=e) (hn:=hn) hc hfix (qsz hao hv) hfo (Qpb hsh hu) (qbo ks.st.objs) ks.st.tmps f args hfe (by rw[qn1 hk,qv4 hv])
   subst h2
   exact⟨_,_,hr,h1,h3⟩
  ·cases hr
 ·cases hr
end
end Go.Ab


namespace Go.Ab
variable {cfg:qzo} {tab:FuncId→Option RFn} {ks:KSt} {E R:Type} {h:qbg E} {hn:Nat→qbg E} {r:R} {e:E} {d dep:Nat}
theorem kfresh_ok (hk:ks.Ok) {o:qbw} (hf:kfresh o ks=true):qgc o ks.st=true:=by
 unfold kfresh at hf
 unfold qgc
 split
 ·rename_i hm
  rw[if_pos hm] at hf
  split
  ·rename_i d' hd
   rw[hd] at hf
   simp only[Bool.and_eq_true,Nat.blt_eq,List.isEmpty_iff] at hf
   have:ks.st.objs[d']?=some []:=by
    show (qfb ks.nt ks.objs)[d']?=_
    rw[denseO_get?,if_pos hf.1,hf.2];rfl
   rw[this]
  ·rename_i hd
   rw[hd] at hf
   exact hf
 ·rfl
theorem Qgz (hc:qld cfg tab) (hh:HOk h hn) (hk:ks.Ok) {o:qbw} {K:qb8→E→Option R} (hr:Qbr cfg h o ks e K=some r) :
  ∃ out e',(out.frz.isEmpty||qjm ks.objs)=true∧K out e'=some r∧out.Ok∧Evl fun n=>qh4 (qj3 cfg.b.sp tab n) (hn n) dep o ks.st e=some (out.out,e'):=by
 unfold Qbr at hr
 split at hr
 ·rename_i hcond
  obtain⟨h1,h2,h3⟩:=hcond
  have hf:=kfresh_ok hk h1
  split at hr
  ·rename_i f args hop
   rw[hop] at h2 h3
   obtain⟨out,e',a1,a2,a3⟩:=kcall_ok (dep:=dep) hc hh hk h3 h2 hr
   split at a1
   case isFalse=>cases a1
   rename_i hgq
   obtain⟨hg,hqq⟩:=Bool.and_eq_true_iff.1 hgq
   have hgd:qpb o.dst out.out=true:=by
    simp only[qpb,qb8.out]
    have:(out.new.map KOb.ob).isEmpty=out.new.isEmpty:=by cases out.new<;>rfl
    rw[this];exact hg
   refine⟨out,e',hqq,a1,a2,a3.mono fun n hn'=>?_⟩
   simp only[qh4,chk,hf,if_true,hop,hn',hgd]
  ·rename_i hop
   obtain⟨out,a1,a2,a3⟩:=execK_ok hk h3 h2 hr
   simp only at a1
   split at a1
   case isFalse=>cases a1
   rename_i hqq
   refine⟨out,e,hqq,a1,a2,.of fun n=>?_⟩
   simp only[qh4,chk,hf,if_true]
   cases hq:o.op with
   | call f args=>exact (hop f args hq).elim
   | _=>rw[hq] at a3;simp only[a3]
 ·cases hr
theorem qrq {i:Nat} {v:PV} {b:Bool} (hk:ks.Ok) (hg:qcg ks.tmps i=.cv v) (hv:v=.bool b):({ks with tmps:=qjj i (.lit b) ks.tmps}:KSt).st=ks.st∧({ks with tmps:=qjj i (.lit b) ks.tmps}:KSt).Ok:=by
 have hlt:i < ks.nt:=by
  apply Classical.byContradiction
  intro hlt
  rw[hk.tm.get_ge (by omega)] at hg;cases hg
 refine⟨?_,hk.tm.put hlt trivial rfl,hk.ob,hk.kp⟩
 unfold KSt.st
 simp only
 rw[qsv]
 congr 1
 apply List.ext_getElem?
 intro j
 rw[List.getElem?_set,qb5]
 by_cases hj:i=j
 ·subst hj
  simp only[if_true]
  rw[if_pos hlt,dense_get?,if_pos hlt,hg,hv]
  rfl
 ·rw[if_neg hj]
theorem Qgt (hk:ks.Ok) {ops:List qbw} {o:qbw} {K:Bool→KSt→Option R} (hr:Qnb ops o ks K=some r):∃ b k',K b k'=some r∧k'.Ok∧k'.st=ks.st∧qji ops o ks.st.tmps=some b ∧
  k'.objs=ks.objs∧(∀ x:RX,(x.kv k'.tmps).names=(x.kv ks.tmps).names∧(x.kv k'.tmps).hasY=(x.kv ks.tmps).hasY):=by
 unfold Qnb at hr
 unfold qji
 split at hr
 ·rename_i hg;rw[hg];exact⟨_,_,hr,hk,rfl,rfl,rfl,fun _=>⟨rfl,rfl⟩⟩
 ·rename_i j want hg
  rw[hg]
  split at hr
  ·rename_i p hp
   split at hr
   ·rename_i d' hd
    have hget:ks.st.tmps.getD d' .undef=(qcg ks.tmps d').pv:=qh7 hk.tm d'
    simp only[hp,hd,hget]
    split at hr
    ·rename_i b hb;rw[hb];exact⟨_,_,hr,hk,rfl,rfl,rfl,fun _=>⟨rfl,rfl⟩⟩
    ·rename_i hb;rw[hb];exact⟨_,_,hr,hk,rfl,rfl,rfl,fun _=>⟨rfl,rfl⟩⟩
    ·rename_i v hb
     rw[hb]
     have hsame:∀ b,∀ x:RX,(x.kv (qjj d' (.lit b) ks.tmps)).names=(x.kv ks.tmps).names∧(x.kv (qjj d' (.lit b) ks.tmps)).hasY=(x.kv ks.tmps).hasY:=by
      intro b x
      cases x with
      | c v=>exact⟨rfl,rfl⟩
      | t i =>
       simp only[RX.kv,qw8]
       by_cases hi:i=d'
       ·subst hi;rw[if_pos rfl,hb];exact⟨rfl,rfl⟩
       ·rw[if_neg hi];exact⟨rfl,rfl⟩
     rcases qsd hr with ⟨hv,hr⟩ | ⟨hv,hr⟩
     ·obtain⟨s1,s2⟩:=qrq hk hb hv
      subst hv
      exact⟨_,_,hr,s2,s1,rfl,rfl,hsame true⟩
     ·obtain⟨s1,s2⟩:=qrq hk hb hv
      subst hv
      exact⟨_,_,hr,s2,s1,rfl,rfl,hsame false⟩
    ·cases hr
   ·cases hr
  ·cases hr
theorem Qnc (hc:qld cfg tab) (hh:HOk h hn) (hk:ks.Ok) {ops:List qbw} {o:qbw} {K:KSt→E→Option R} (hr:kstep cfg h ops o ks e K=some r) :
  ∃ k' e',K k' e'=some r∧k'.Ok∧Evl fun n=>stepG (qj3 cfg.b.sp tab n) (hn n) dep ops o ks.st e=some (k'.st,e'):=by
 unfold kstep at hr
 obtain⟨b,k1,hr,hk1,hst,hw,_,_⟩:=Qgt hk hr
 cases b with
 | true =>
  simp only at hr
  obtain⟨out,e',hq,h1,h2,h3⟩:=Qgz (dep:=dep) hc hh hk1 hr
  rw[qc2] at h1
  obtain⟨s1,s2⟩:=qq3 hk1 hq o.dst h2
  refine⟨_,_,h1,s2,h3.mono fun n hn'=>?_⟩
  rw[hst] at hn' s1
  simp only[stepG,hw,qro,hn',s1]
 | false =>
  simp only at hr
  rw[qc2] at hr
  have:(qmb k1 o.dst {v:=.sk}).st=apply k1.st o.dst {v:=.tup []}∧(qmb k1 o.dst {v:=.sk}).Ok:=by
   exact kapply_sk hk1 o.dst
  refine⟨_,_,hr,this.2,.of fun n=>?_⟩
  simp only[stepG,hw,this.1,hst]
where
 kapply_sk {ks:KSt} (hk:ks.Ok) (dst:Option Nat):(qmb ks dst {v:=.sk}).st=apply ks.st dst {v:=.tup []}∧(qmb ks dst {v:=.sk}).Ok:=by
  unfold qmb
  rw[Qd7]
  simp only[kupd,kkill,kfrzs,bupd,Ql3,List.isEmpty_nil,if_true,bgone,Ql2,kgone]
  have hkt:kturn [] ks=ks:=rfl
  have hke:kext none [] ks=ks:=rfl
  have hkn:newAt none []=[]:=rfl
  rw[hkt,hke,hkn]
  simp only[bext,Qgk]
  cases dst with
  | none=>exact⟨rfl,hk⟩
  | some d =>
   simp only[kset,bset]
   cases hd:Nat.blt d ks.nt with
   | true =>
    have hd':d < ks.nt:=by simpa[Nat.blt_eq] using hd
    refine⟨?_,hk.tm.set (v:=.sk) hd' trivial,hk.ob,hk.kp⟩
    unfold KSt.st
    simp only
    rw[Qh6]
    rfl
   | false =>
    have hd':¬ d < ks.nt:=by intro h;rw[show Nat.blt d ks.nt=true by simpa[Nat.blt_eq] using h] at hd;cases hd
    refine⟨?_,hk⟩
    unfold KSt.st
    simp only
    rw[List.set_eq_of_length_le (by rw[qb5];omega)]
    rfl
theorem Qdf (hc:qld cfg tab) (hh:HOk h hn) {ops:List qbw}:∀ (l:List qbw) {ks:KSt} {e:E} {K:KSt→E→Option R},ks.Ok→kruns cfg h ops l ks e K=some r →
  ∃ k' e',K k' e'=some r∧k'.Ok∧Evl fun n=>qhe (qj3 cfg.b.sp tab n) (hn n) dep ops l ks.st e=some (k'.st,e'):=by
 intro l
 induction l with
 | nil=>intro ks e K hk hr;exact⟨ks,e,hr,hk,.of fun n=>rfl⟩
 | cons o rest ih =>
  intro ks e K hk hr
  simp only[kruns] at hr
  obtain⟨k1,e1,hr,hk1,h1⟩:=Qnc (dep:=dep) hc hh hk hr
  obtain⟨k2,e2,hr,hk2,h2⟩:=ih hk1 hr
  exact⟨k2,e2,hr,hk2,h1.mono2 h2 fun n a b=>by simp only[qhe,a,b]⟩
theorem Qgv (o:qb8):Qgw o=qb7 o.out:=by
 unfold Qgw qb7 qb8.out
 cases o.upd<;>cases o.ups<;>rfl
theorem kturns_ok (o:qb8):kturns o=qdm o.out:=by
 unfold kturns qdm qb8.out
 cases o.ups<;>rfl
theorem Qgu (o:qb8):qx3 o=qd6 o.out:=by
 unfold qx3 qd6 qb8.out
 cases o.upd with
 | none=>rfl
 | some p=>rfl
theorem spAt_pv (ks:KSt) (s:Nat):ks.st.tmps.getD s .undef=(spAt ks s).pv:=by
 unfold spAt
 show (qdk ks.nt ks.tmps).getD s .undef=_
 unfold qdk
 rw[List.getD_eq_getElem?_getD,List.getElem?_map]
 cases hb:Nat.blt s ks.nt with
 | true =>
  have:s < ks.nt:=Nat.blt_eq.mp hb
  rw[List.getElem?_range this];rfl
 | false =>
  have:¬ s < ks.nt:=fun h=>by rw[Nat.blt_eq.mpr h] at hb;cases hb
  rw[List.getElem?_eq_none (by simpa using this)];rfl
theorem qz8 (hk:ks.Ok) (s:Nat):(ks.st.tmps.getD s .undef).names=(spAt ks s).names:=by
 rw[spAt_pv]
 refine KV.pv_names ?_
 unfold spAt
 cases Nat.blt s ks.nt with
 | true=>exact hk.tm.get_ok s
 | false=>trivial
theorem kheld_eq (hk:ks.Ok) (l:List Nm):kheldN (qc1 ks.objs) l=Qdp (qbo ks.st.objs) l:=by
 unfold kheldN Qdp
 congr 1
 funext nm
 rw[qdp hk]
 cases hq:qc1 ks.objs nm with
 | none=>simp[hq]
 | some o =>
  simp only[hq,Option.map_some,Option.getD_some]
  exact (KOb.ob_names (qcj hk nm o hq)).symm
theorem krn_eq (hk:ks.Ok) {o:qbw} (hx:o.op.xs.all okX=true) (out:qb8):krnOf o ks out=Qfy o ks.st out.out:=by
 have hok:=qxy hk hx
 unfold krnOf Qfy
 rw[qn1 hk,qgn (qcj hk),←qdp hk,←qdy hok,Qgv]
 rfl
theorem kisYld_ok (hk:ks.Ok) {op:ROp} (hx:op.xs.all okX=true):kisYld op ks.tmps=qto op ks.st.tmps:=by
 cases op<;>try rfl
 rename_i f args
 have hxa:args.all okX=true:=List.all_eq_true.2 fun x hm=>List.all_eq_true.1 hx x (by simp[ROp.xs,hm])
 have hxf:(f.kv ks.tmps).ok:=kv_ok hk (List.all_eq_true.1 hx f (by simp[ROp.xs]))
 unfold kisYld qto
 simp only
 rw[qs7 hk,qn1 hk,qdy (qxy hk hxa)]
 cases hf:f.kv ks.tmps with
 | cv v =>
  rw[hf] at hxf
  simp only[KV.pv]
  cases v<;>first | rfl | (simp[KV.ok,okV] at hxf)
 | _=>rfl
theorem kinfo_ok (hk:ks.Ok) {ops:List qbw} {i:Nat} {o:qbw} (hx:o.op.xs.all okX=true) {out:qb8} (ho:out.Ok):kinfo ops i o ks out=qk1 ops i o ks.st out.out:=by
 unfold kinfo qk1
 have hok:=qxy hk hx
 simp only
 have hn:out.out.new.flatMap Ob.names=out.new.flatMap KOb.names:=by
  show (out.new.map KOb.ob).flatMap Ob.names=_
  rw[List.flatMap_map]
  have:∀ l:List KOb,(∀ x∈l,x.ok)→l.flatMap (fun a=>a.ob.names)=l.flatMap KOb.names:=by
   intro l
   induction l with
   | nil=>intro _;rfl
   | cons x l ih =>
    intro h
    rw[List.flatMap_cons,List.flatMap_cons,KOb.ob_names (h x List.mem_cons_self),ih fun y hy=>h y (List.mem_cons_of_mem _ hy)]
  exact this _ ho.new
 have hv:out.out.v.names=out.v.names:=KV.pv_names ho.v
 simp only[←qz8 hk]
 rw[krn_eq hk hx,kheld_eq hk,kisYld_ok hk hx,qn1 hk,←qm1 hok,Qgv,kturns_ok,Qgu,hn,hv]
 rfl
theorem koutOf_x {o:qbw} {K:qb8→E→Option R} (hr:Qbr cfg h o ks e K=some r):o.op.xs.all okX=true:=by
 unfold Qbr at hr
 split at hr
 ·rename_i hcond;exact hcond.2.1
 ·cases hr
theorem kstepD_ok (hc:qld cfg tab) (hh:HOk h hn) (hk:ks.Ok) {ops:List qbw} {i:Nat} {o:qbw} {K:KSt→E→qrh→Option R} (hr:kstepD cfg h ops i o ks e K=some r) :
  ∃ k' e' inf,K k' e' inf=some r∧k'.Ok∧Evl fun n=>Qfp (qj3 cfg.b.sp tab n) (hn n) dep ops i o ks.st e=some (k'.st,e',inf):=by
 unfold kstepD at hr
 obtain⟨b,k1,hr,hk1,hst,hw,_,_⟩:=Qgt hk hr
 cases b with
 | true =>
  simp only at hr
  have hxs:=koutOf_x hr
  obtain⟨out,e',hq,h1,h2,h3⟩:=Qgz (dep:=dep) hc hh hk1 hr
  rw[qc2] at h1
  obtain⟨s1,s2⟩:=qq3 hk1 hq o.dst h2
  refine⟨_,_,_,h1,s2,h3.mono fun n hn'=>?_⟩
  rw[hst] at hn' s1
  simp only[Qfp,qmr,hw,hn',s1]
  rw[kinfo_ok hk1 hxs h2,hst]
 | false =>
  simp only at hr
  rw[qc2] at hr
  have:=Qnc.kapply_sk hk1 o.dst
  refine⟨_,_,_,hr,this.2,.of fun n=>?_⟩
  simp only[Qfp,qmr,hw,this.1,hst,←qz8 hk1]
theorem krunsD_ok (hc:qld cfg tab) (hh:HOk h hn) {ops:List qbw}:∀ (l:List (Nat×Nat)) (infos:List qrh) {ks:KSt} {e:E} {K:KSt→E→Option R},ks.Ok→Qnd cfg h ops l infos ks e K=some r →
  ∃ k' e',K k' e'=some r∧k'.Ok∧Evl fun n=>Qmn (qj3 cfg.b.sp tab n) (hn n) dep ops l infos ks.st e=some (k'.st,e'):=by
 intro l
 induction l with
 | nil=>intro infos ks e K hk hr;exact⟨ks,e,hr,hk,.of fun n=>rfl⟩
 | cons p rest ih =>
  obtain⟨i,bef⟩:=p
  intro infos ks e K hk hr
  simp only[Qnd] at hr
  split at hr
  ·rename_i o ho
   obtain⟨k1,e1,inf,hr,hk1,h1⟩:=kstepD_ok (dep:=dep) hc hh hk hr
   split at hr
   ·rename_i hall
    obtain⟨k2,e2,hr,hk2,h2⟩:=ih _ hk1 hr
    exact⟨k2,e2,hr,hk2,h1.mono2 h2 fun n a b=>by simp only[Qmn,ho,a,chk,hall,if_true,b]⟩
   ·cases hr
  ·cases hr
end Go.Ab


namespace Go.Ab
variable {ks:KSt}
theorem qnb {nt:Nat} {l:SpO} (h:qkl nt l) (d:Nat):(qfb nt l).getD d []=(qcs l d).map KOb.ob:=by
 rw[List.getD_eq_getElem?_getD,denseO_get?]
 split
 ·rfl
 ·rw[h.get_ge (by omega)];rfl
theorem qma (h:ks.Ok) (ds:List Nat):(qgw ds ks).st=qk8 ds ks.st∧(qgw ds ks).Ok∧(qgw ds ks).nt=ks.nt:=by
 have hall:(ds.all fun d=>(ks.st.objs.getD d []).isEmpty)=ds.all fun d=>(qcs ks.objs d).isEmpty:=by
  congr 1
  funext d
  show ((qfb ks.nt ks.objs).getD d []).isEmpty=_
  rw[qnb h.ob]
  cases qcs ks.objs d<;>rfl
 unfold qgw qk8
 rw[hall]
 split
 ·exact⟨rfl,h,rfl⟩
 ·have h1:=Qk4 (fun m=>ds.contains m.1) h
  have h2:=Qk3 (fun m=>ds.contains m.1) h
  refine⟨?_,⟨h1.tm,h1.ob.sub (soKeep_sub _ _),h1.kp⟩,rfl⟩
  have e:qqe (fun m=>ds.contains m.1)=fun m=>if ds.contains m.1=true then some none else none:=rfl
  rw[e] at h2
  simp only
  rw[←h2]
  unfold KSt.st
  simp only
  congr 1
  refine qh9 (by simp[qde]) fun i hi=>?_
  rw[List.getElem?_map,List.getElem?_zipIdx,denseO_get?,if_pos hi,soGet_keep]
  simp only[Option.map_some,Nat.zero_add]
  cases ds.contains i<;>simp
theorem qrf {ds ds':List Nat} (h:∀ d,d∈ds↔d∈ds') (st:St):qk8 ds st=qk8 ds' st:=by
 have h1:∀ p:Nat→Bool,ds.all p=ds'.all p:=fun p=>by
  rw[Bool.eq_iff_iff,List.all_eq_true,List.all_eq_true]
  exact⟨fun a x hx=>a x ((h x).2 hx),fun a x hx=>a x ((h x).1 hx)⟩
 have h2:∀ i,ds.contains i=ds'.contains i:=fun i=>by
  rw[Bool.eq_iff_iff,List.contains_iff_mem,List.contains_iff_mem]
  exact h i
 unfold qk8
 simp only[h1,h2]
theorem qq0 {nm:Nm} {xs:List PV}:nm∈qbm xs↔∃ x∈xs,nm∈x.names:=by
 induction xs with
 | nil=>simp[qbm]
 | cons x xs ih=>simp[qbm,ih]
theorem Qbw (h:ks.Ok) (nm:Nm):nm∈qbm ks.st.keep↔nm∈ks.keep.flatMap qgv:=by
 rw[qq0]
 show (∃ x∈ks.keep.flatMap (qdk ks.nt),nm∈x.names)↔_
 simp only[List.mem_flatMap]
 constructor
 ·rintro ⟨x,⟨sp,hsp,hx⟩,hn⟩
  exact⟨sp,hsp,(qna (h.kp sp hsp) nm).1 (qq0.2 ⟨x,hx,hn⟩)⟩
 ·rintro ⟨sp,hsp,hn⟩
  obtain⟨x,hx,hn⟩:=qq0.1 ((qna (h.kp sp hsp) nm).2 hn)
  exact⟨x,⟨sp,hsp,hx⟩,hn⟩
theorem qn4 (h:ks.Ok) (d:Nat):d∈qqk ks.st↔d∈qkg ks:=by
 have hR:∀ p:Nm→Bool,(qbm ks.st.tmps++qbm ks.st.keep++ks.st.objs.flatMap fun l=>l.flatMap Ob.names).all p=(qgv ks.tmps++ks.keep.flatMap qgv++qks ks.objs).all p:=by
  intro p
  have e1:∀ nm,nm∈qbm ks.st.tmps↔nm∈qgv ks.tmps:=fun nm=>qna h.tm nm
  have e2:=Qbw h
  have e3:∀ nm,nm∈(ks.st.objs.flatMap fun l=>l.flatMap Ob.names)↔nm∈qks ks.objs:=fun nm=>qv2 h.ob nm
  rw[Bool.eq_iff_iff,List.all_eq_true,List.all_eq_true]
  refine⟨fun a x hx=>a x ?_,fun a x hx=>a x ?_⟩
  ·simp only[List.mem_append] at hx ⊢
   rw[e1,e2,e3];exact hx
  ·simp only[List.mem_append] at hx ⊢
   rw[←e1,←e2,←e3];exact hx
 unfold qqk qkg
 simp only[List.mem_filter,List.mem_range,List.mem_map,hR,Bool.and_eq_true]
 have hget:ks.st.objs.getD d []=(qcs ks.objs d).map KOb.ob:=qnb h.ob d
 rw[hget]
 constructor
 ·rintro ⟨_,h1,h2⟩
  have hne:qcs ks.objs d≠[]:=by intro e;rw[e] at h1;simp at h1
  refine⟨_,⟨ql0 hne,?_,h2⟩,rfl⟩
  simpa using hne
 ·rintro ⟨p,⟨hp,h1,h2⟩,rfl⟩
  have:=h.ob.get_mem hp
  have hlt:=h.ob.lt p hp
  refine⟨?_,?_,h2⟩
  ·show p.1 < (qfb ks.nt ks.objs).length
   rw[qde];exact hlt
  ·rw[this];simpa using h1
theorem qzb {R R':List Nm} (h:∀ nm,nm∈R↔nm∈R') (d:Nat):∀ n,qzc R d n=qzc R' d n
 | 0=>rfl
 | n+1=>by
  have e:R.contains (d,n)=R'.contains (d,n):=by
   rw[Bool.eq_iff_iff,List.contains_iff_mem,List.contains_iff_mem];exact h _
  simp only[qzc,e,qzb h d n]
theorem qz9 {R:List Nm}:∀ {l:SpO} {p:Nat×List KOb},p∈qnn R l→∃ q∈l,p.1=q.1∧∀ o∈p.2,o∈q.2:=by
 intro l
 induction l with
 | nil=>intro p hp;cases hp
 | cons q l ih =>
  obtain⟨j,u⟩:=q
  intro p hp
  simp only[qnn] at hp
  split at hp
  ·obtain⟨q,hq,h⟩:=ih hp
   exact⟨q,by simp[hq],h⟩
  ·rename_i v vs hv
   rcases List.mem_cons.1 hp with rfl | hp
   ·refine⟨(j,u),by simp,rfl,fun o ho=>?_⟩
    simp only at ho
    rw[←hv] at ho
    exact List.mem_of_mem_take ho
   ·obtain⟨q,hq,h⟩:=ih hp
    exact⟨q,by simp[hq],h⟩
theorem Qj4 {R:List Nm}:∀ (l:SpO),((qnn R l).map (·.1)).Sublist (l.map (·.1)):=by
 intro l
 induction l with
 | nil=>exact .slnil
 | cons q l ih =>
  obtain⟨j,u⟩:=q
  simp only[qnn]
  split
  ·exact .cons _ ih
  ·exact .cons_cons _ ih
theorem qkl.trim {nt:Nat} {R:List Nm} {l:SpO} (h:qkl nt l):qkl nt (qnn R l) where
 srt:=h.srt.sublist (Qj4 l)
 lt p hp:=by
  obtain⟨q,hq,e,_⟩:=qz9 hp
  rw[e];exact h.lt q hq
 ok p hp o ho:=by
  obtain⟨q,hq,_,e⟩:=qz9 hp
  exact h.ok q hq o (e o ho)
theorem soGet_trim {nt:Nat} {R:List Nm}:∀ {l:SpO},qkl nt l→∀ (i:Nat),qcs (qnn R l) i=(qcs l i).take (qzc R i (qcs l i).length):=by
 intro l
 induction l with
 | nil=>intro _ i;simp[qnn,qcs]
 | cons q l ih =>
  obtain⟨j,u⟩:=q
  intro h i
  simp only[qnn]
  cases hij:Nat.beq i j with
  | true =>
   have hb:=Nat.eq_of_beq_eq_true hij
   subst hb
   have hrest:qcs l i=[]:=by
    cases hq:qcs l i with
    | nil=>rfl
    | cons x xs =>
     have hm:=ql0 (l:=l) (i:=i) (by rw[hq];simp)
     have h1:=(List.pairwise_cons.1 h.srt).1 i (List.mem_map.2 ⟨_,hm,rfl⟩)
     exact absurd h1 (Nat.lt_irrefl i)
   have hget:qcs ((i,u) :: l) i=u:=by simp[qcs,hij]
   rw[hget]
   split
   ·rename_i hv
    rw[ih h.tail i,hrest,hv];rfl
   ·rename_i v vs hv
    rw[hv]
    simp[qcs,hij]
  | false =>
   have hget:qcs ((j,u) :: l) i=qcs l i:=by simp[qcs,hij]
   rw[hget,←ih h.tail i]
   split
   ·rfl
   ·simp[qcs,hij]
theorem ktrim_st (h:ks.Ok):(ktrim ks).st=trim ks.st∧(ktrim ks).Ok∧(ktrim ks).nt=ks.nt:=by
 refine⟨?_,⟨h.tm,h.ob.trim,h.kp⟩,rfl⟩
 have hR:∀ nm,nm∈(qbm ks.st.tmps++qbm ks.st.keep++ks.st.objs.flatMap fun l=>l.flatMap Ob.names)↔nm∈(qgv ks.tmps++ks.keep.flatMap qgv++qks ks.objs):=by
  intro nm
  have e1:nm∈qbm ks.st.tmps↔nm∈qgv ks.tmps:=qna h.tm nm
  have e2:=Qbw h nm
  have e3:nm∈(ks.st.objs.flatMap fun l=>l.flatMap Ob.names)↔nm∈qks ks.objs:=qv2 h.ob nm
  simp only[List.mem_append]
  rw[e1,e2,e3]
 unfold ktrim trim
 show ({tmps:=_,objs:=qfb ks.nt _,keep:=_}:St)={tmps:=_,objs:=_,keep:=_}
 congr 1
 refine qh9 (by simp[KSt.st,qde]) fun i hi=>?_
 rw[List.getElem?_map,List.getElem?_zipIdx]
 show (((qfb ks.nt ks.objs)[i]?).map _).map _=_
 rw[denseO_get?,if_pos hi,soGet_trim h.ob]
 simp only[Option.map_some,Nat.zero_add,Option.some.injEq,List.length_map,List.map_take]
 rw[qzb hR]
theorem Qdh (h:ks.Ok) (p:Nat→Bool):({ks with tmps:=qkr p ks.tmps}:KSt).st={ks.st with tmps:=ks.st.tmps.zipIdx.map fun (v,i)=>if p i then v else .undef}∧({ks with tmps:=qkr p ks.tmps}:KSt).Ok:=by
 refine⟨?_,h.tm.sub (spKeep_sub _ _),h.ob,h.kp⟩
 unfold KSt.st
 simp only
 congr 1
 refine qk4 (by simp[qb5]) fun i hi=>?_
 rw[List.getElem?_map,List.getElem?_zipIdx,dense_get?,if_pos hi,spGet_keep]
 simp only[Option.map_some,Nat.zero_add]
 cases p i<;>rfl
theorem qwo (h:ks.Ok) (lv:Option (List Nat)):(Qk1 lv ks).st=Qmf lv ks.st∧(Qk1 lv ks).Ok:=by
 cases lv with
 | none=>exact⟨rfl,h⟩
 | some l =>
  unfold Qk1 Qmf qkh
  simp only
  obtain⟨h1,h2⟩:=Qdh h (fun i=>l.contains i)
  obtain⟨h3,h4,_⟩:=qma h2 (qkg {ks with tmps:=qkr (fun i=>l.contains i) ks.tmps})
  refine⟨?_,h4⟩
  rw[h3,←h1]
  exact qrf (fun d=>(qn4 h2 d).symm) _
theorem qzw {v:PV}:qdh (.cv v) (.cv v)=[v]:=rfl
theorem Qks {l:Sp} (h:qb9 (qg0 l l)=true) {i:Nat} {v:PV} (hm:(i,KV.cv v)∈l):qg4 v=false:=by
 unfold qb9 at h
 induction l with
 | nil=>cases hm
 | cons p l ih =>
  obtain⟨k,u⟩:=p
  simp only[qg0,List.all_append,Bool.and_eq_true] at h
  rcases List.mem_cons.1 hm with e | hm
  ·cases e
   have:=h.1
   rw[qzw] at this
   simpa using this
  ·exact ih h.2 hm
theorem undefs_iff {k0:KSt} (h0:k0.Ok) (hu:qb9 (qg0 k0.tmps k0.tmps)=true) {i:Nat} (hi:i < k0.nt):(undefs k0.st).contains i=!qrt k0.tmps i:=by
 have hmem:i∈undefs k0.st↔qg4 (qcg k0.tmps i).pv=true:=by
  unfold undefs
  simp only[List.mem_map,List.mem_filter]
  constructor
  ·rintro ⟨⟨v,j⟩,⟨hv,hq⟩,rfl⟩
   have:=List.mem_zipIdx hv
   rw[List.mem_zipIdx_iff_getElem?] at hv
   simp only at hv
   have e:(qdk k0.nt k0.tmps)[j]?=some v:=hv
   rw[dense_get?,if_pos hi] at e
   cases e
   exact hq
  ·intro hq
   refine⟨((qcg k0.tmps i).pv,i),⟨?_,hq⟩,rfl⟩
   rw[List.mem_zipIdx_iff_getElem?]
   show (qdk k0.nt k0.tmps)[i]?=_
   rw[dense_get?,if_pos hi]
 rw[Bool.eq_iff_iff,List.contains_iff_mem,hmem]
 cases hh:qrt k0.tmps i with
 | false =>
  have:qcg k0.tmps i=.un:=by
   apply Classical.byContradiction
   intro hne
   rw[(h0.tm.has_iff i).2 hne] at hh;cases hh
  simp[this,KV.pv,qg4]
 | true =>
  have hne:=(h0.tm.has_iff i).1 hh
  have hm:=qnm hne
  simp only[Bool.not_true,Bool.false_eq_true,iff_false]
  intro hq
  cases hg:qcg k0.tmps i with
  | un=>exact hne hg
  | cv v =>
   rw[hg] at hm hq
   have:=Qks hu hm
   simp only[KV.pv] at hq
   rw[this] at hq;cases hq
  | _=>rw[hg] at hq;simp[KV.pv,qg4] at hq
theorem kdrop_st {k0:KSt} (h0:k0.Ok) (hu:qb9 (qg0 k0.tmps k0.tmps)=true) (h:ks.Ok) (hnt:ks.nt=k0.nt):(Qha k0 ks).st=drop (undefs k0.st) ks.st∧(Qha k0 ks).Ok∧(Qha k0 ks).nt=ks.nt:=by
 unfold Qha drop
 simp only
 obtain⟨h1,h2⟩:=Qdh h (qrt k0.tmps)
 obtain⟨h3,h4,h5⟩:=qma h2 (qkg {ks with tmps:=qkr (qrt k0.tmps) ks.tmps})
 refine⟨?_,h4,h5⟩
 have h6:qms (undefs k0.st) ks.st=({ks with tmps:=qkr (qrt k0.tmps) ks.tmps}:KSt).st:=by
  rw[h1]
  unfold qms
  congr 1
  apply List.map_congr_left
  rintro ⟨v,i⟩ hm
  have hi:i < k0.nt:=by
   rw[List.mem_zipIdx_iff_getElem?] at hm
   have e:(qdk ks.nt ks.tmps)[i]?=some v:=hm
   rw[dense_get?] at e
   split at e
   ·omega
   ·cases e
  simp only[undefs_iff h0 hu hi]
  cases qrt k0.tmps i<;>rfl
 rw[h3,h6]
 exact qrf (fun d=>(qn4 h2 d).symm) _
theorem Qg6 (h:ks.Ok) (t:Nat):qrd ks.st t=qvu ks t:=by
 unfold qrd qvu
 show (match (qfb ks.nt ks.objs)[t]? with | some []=>true | _=>false)=_
 rw[denseO_get?]
 by_cases ht:t < ks.nt
 ·rw[if_pos ht]
  have:Nat.blt t ks.nt=true:=by simpa[Nat.blt_eq] using ht
  rw[this]
  cases qcs ks.objs t<;>rfl
 ·rw[if_neg ht]
  have:Nat.blt t ks.nt=false:=by
   cases hb:Nat.blt t ks.nt with
   | false=>rfl
   | true=>exact absurd (by simpa[Nat.blt_eq] using hb) ht
  rw[this];rfl
theorem Qg7 {t:Nat} (h:qvu ks t=true):t < ks.nt:=by
 unfold qvu at h
 simp only[Bool.and_eq_true,Nat.blt_eq] at h
 exact h.1
theorem qvq (h:ks.Ok) (t:Nat) (nm:Nm):(ql7 t ks nm).st=(if nm≠(t,0)∧qrd ks.st t=true then
   match qbo ks.st.objs nm with
   | some ob =>
    let f:Nm→Nm:=fun m=>if m=nm then (t,0) else m
    let objs:=ks.st.objs.map (·.map (Ob.ren f))
    {tmps:=qhy f ks.st.tmps,objs:=(qcz objs nm qhs).set t [ob.ren f],keep:=qhy f ks.st.keep}
   | none=>ks.st
  else ks.st)∧(ql7 t ks nm).Ok∧(ql7 t ks nm).nt=ks.nt:=by
 unfold ql7
 rw[Qg6 h]
 by_cases hc:nm≠(t,0)∧qvu ks t=true
 ·rw[if_pos hc,if_pos hc,qjz h]
  cases hl:qc1 ks.objs nm with
  | none=>exact⟨rfl,h,rfl⟩
  | some ob =>
   simp only[Option.map_some]
   have hoo:=qc9 h.ob hl
   have ht:=Qg7 hc.2
   let f:Nm→Nm:=fun m=>if m=nm then (t,0) else m
   have hm:qkl ks.nt (qno (KOb.ren f) ks.objs):=h.ob.map fun x hx=>KOb.ren_ok f hx
   refine⟨?_,⟨h.tm.map fun x hx=>KV.ren_ok f hx,(hm.kput nm (o:=qsc) rfl).put ht fun o ho=>by
    simp only[List.mem_singleton] at ho;subst ho;exact KOb.ren_ok f hoo,fun sp hsp=>?_⟩,by trivial⟩
   ·unfold KSt.st
    simp only
    rw[qsu h.tm,qh8,qk5 hm,qp6 h.ob (fun o ho=>KOb.ren_ob f ho),
     qwu (g:=qhy f) rfl (qxi f) fun sp hsp=>qsu (h.kp sp hsp) f]
    have hren:=KOb.ren_ob (fun m=>if m=nm then (t,0) else m) hoo
    simp only[List.map_cons,List.map_nil,hren]
    rfl
   ·obtain⟨q,hq,rfl⟩:=List.mem_map.1 hsp
    exact (h.kp q hq).map fun x hx=>KV.ren_ok f hx
 ·rw[if_neg hc,if_neg hc];exact⟨rfl,h,rfl⟩
theorem krehome_st (h:ks.Ok) (t:Nat):(qli t ks).st=qj1 t ks.st∧(qli t ks).Ok∧(qli t ks).nt=ks.nt:=by
 have hget:ks.st.tmps.getD t .undef=(qcg ks.tmps t).pv:=qh7 h.tm t
 have hokt:=h.tm.get_ok t
 unfold qli qj1
 rw[hget]
 cases hg:qcg ks.tmps t with
 | arr nm k o n=>exact qvq h t nm
 | wit nm=>exact qvq h t nm
 | cv v =>
  rw[hg] at hokt
  have hv:okV v=true:=hokt
  simp only[KV.pv]
  cases v<;>first | (simp[okV] at hv;done) | exact⟨rfl,h,trivial⟩
 | _=>exact⟨rfl,h,rfl⟩
theorem qvg (h:ks.Ok) (d:Nat):ks.st.objs.getD d []=(qcs ks.objs d).map KOb.ob:=qnb h.ob d
theorem Qg3 (h:ks.Ok) {nm:Nm} {ty:Nat} {cs:List KV} (hl:qc1 ks.objs nm=some (.cells ty cs)) (i k:Nat):(Qbt nm ty cs i k ks).Ok∧(Qbt nm ty cs i k ks).nt=ks.nt∧(Qbt nm ty cs i k ks).st={ks.st with objs:=ks.st.objs.set nm.1 ((ks.st.objs.getD nm.1 []).set nm.2 (.cells ty ((pvL cs).set i (.arr (nm.1,(ks.st.objs.getD nm.1 []).length) k 0 0)))++[.arr k 0 []])}:=by
 have hlt:=qwp h.ob hl
 have hcs:qf6 cs:=qc9 h.ob hl
 have hset:qf6 (cs.set i (.arr (nm.1,(qcs ks.objs nm.1).length) k 0 0)):=qct.2 fun x hx=>by
  rcases List.mem_or_eq_of_mem_set hx with hx | hx
  ·exact qct.1 hcs x hx
  ·subst hx;trivial
 unfold Qbt
 refine⟨⟨h.tm,h.ob.put hlt fun o ho=>?_,h.kp⟩,rfl,?_⟩
 ·rcases List.mem_append.1 ho with ho | ho
  ·rcases List.mem_or_eq_of_mem_set ho with ho | ho
   ·exact h.ob.get_ok ho
   ·subst ho;exact hset
  ·simp only[List.mem_singleton] at ho;subst ho;rfl
 ·rw[qvg h]
  unfold KSt.st
  simp only
  rw[qh8,List.map_append,List.map_set]
  simp only[List.map_cons,List.map_nil,KOb.ob,qfq,List.map_set,KV.pv,List.length_map]
theorem qvt (h:ks.Ok) (nm m:Nm) (hlt:nm.1 < ks.nt):(ql9 nm m ks).Ok∧(ql9 nm m ks).nt=ks.nt∧(ql9 nm m ks).st=(if m.1≠nm.1 then
   match qbo ks.st.objs m with
   | some ob =>
    let f:Nm→Nm:=fun x=>if x=m then (nm.1,(ks.st.objs.getD nm.1 []).length) else x
    let objs:=qcz (ks.st.objs.map (·.map (Ob.ren f))) m qhs
    {tmps:=qhy f ks.st.tmps,objs:=objs.set nm.1 (objs.getD nm.1 []++[ob.ren f]),keep:=qhy f ks.st.keep}
   | none=>ks.st
  else ks.st):=by
 unfold ql9
 by_cases hm:m.1≠nm.1
 ·rw[if_pos hm,if_pos hm,qjz h]
  cases hl:qc1 ks.objs m with
  | none=>exact⟨h,rfl,rfl⟩
  | some ob =>
   simp only[Option.map_some]
   have hoo:=qc9 h.ob hl
   rw[qvg h,List.length_map]
   generalize hf:(fun x:Nm=>if x=m then (nm.1,(qcs ks.objs nm.1).length) else x)=f
   have hmp:qkl ks.nt (qno (KOb.ren f) ks.objs):=h.ob.map fun x hx=>KOb.ren_ok f hx
   have hkp:qkl ks.nt (kput (qno (KOb.ren f) ks.objs) m qsc):=hmp.kput m (o:=qsc) rfl
   refine⟨⟨h.tm.map fun x hx=>KV.ren_ok f hx,hkp.put hlt fun o ho=>?_,fun sp hsp=>?_⟩,by trivial,?_⟩
   ·rcases List.mem_append.1 ho with ho | ho
    ·exact hkp.get_ok ho
    ·simp only[List.mem_singleton] at ho;subst ho;exact KOb.ren_ok f hoo
   ·obtain⟨q,hq,rfl⟩:=List.mem_map.1 hsp
    exact (h.kp q hq).map fun x hx=>KV.ren_ok f hx
   ·have hobj:qfb ks.nt (kput (qno (KOb.ren f) ks.objs) m qsc)=qcz (ks.st.objs.map (·.map (Ob.ren f))) m qhs:=by
     rw[qk5 hmp,qp6 h.ob (fun o ho=>KOb.ren_ob f ho)]
     rfl
    rw[←hobj,qnb hkp]
    unfold KSt.st
    simp only
    rw[qsu h.tm,qh8,qwu (g:=qhy f) rfl (qxi f) fun sp hsp=>qsu (h.kp sp hsp) f]
    have hren:=KOb.ren_ob f hoo
    simp only[List.map_append,List.map_cons,List.map_nil,hren]
 ·rw[if_neg hm,if_neg hm];exact⟨h,rfl,rfl⟩
theorem Qg4 {R:Type} {r:R} (h:ks.Ok) {nm:Nm} {ty:Nat} {cs:List KV} (hl:qc1 ks.objs nm=some (.cells ty cs)) {i k:Nat} {K:KSt→Option R} (hr:qx5 nm ty cs i k ks K=some r):∃ k',K k'=some r∧k'.Ok∧k'.nt=ks.nt∧k'.st=qsi nm ty (pvL cs) i k ks.st:=by
 have hlt:=qwp h.ob hl
 have hcs:qf6 cs:=qc9 h.ob hl
 unfold qx5 at hr
 unfold qsi
 simp only[pvL_get?]
 cases hc:cs[i]? with
 | none=>rw[hc] at hr;exact⟨_,hr,h,rfl,rfl⟩
 | some x =>
  rw[hc] at hr
  cases x with
  | nils =>
   obtain⟨a,b,c⟩:=Qg3 h hl i k
   exact⟨_,hr,a,b,c⟩
  | arr m _ _ _ =>
   obtain⟨a,b,c⟩:=qvt h nm m hlt
   exact⟨_,hr,a,b,c⟩
  | wit m =>
   obtain⟨a,b,c⟩:=qvt h nm m hlt
   exact⟨_,hr,a,b,c⟩
  | cv v =>
   have hv:okV v=true:=qct.1 hcs _ (List.mem_of_getElem? hc)
   simp only[Option.map_some,KV.pv]
   unfold Qkt at hr
   obtain⟨a,b,c⟩:=Qg3 h hl i k
   cases v<;>first | (simp[okV] at hv;done) | exact⟨_,hr,a,b,c⟩ | (cases hr;done)
  | _=>exact⟨_,hr,h,rfl,rfl⟩
theorem kgrowC_st {R:Type} {r:R} (h:ks.Ok) {x off k:Nat} {K:KSt→Option R} (hr:kgrowC x off k ks K=some r):∃ k',K k'=some r∧k'.Ok∧k'.nt=ks.nt∧k'.st=growC x off k ks.st:=by
 have hget:ks.st.tmps.getD x .undef=(qcg ks.tmps x).pv:=qh7 h.tm x
 have hokt:=h.tm.get_ok x
 unfold kgrowC at hr
 unfold growC
 rw[hget]
 cases hg:qcg ks.tmps x with
 | ref nm o =>
  rw[hg] at hr
  simp only[KV.pv] at hr ⊢
  rw[qjz h]
  cases hl:qc1 ks.objs nm with
  | none=>rw[hl] at hr;exact⟨_,hr,h,rfl,rfl⟩
  | some ob =>
   rw[hl] at hr
   cases ob with
   | cells ty cs=>exact Qg4 h hl hr
   | whole ty v =>
    have hv:okV v=true:=qc9 h.ob hl
    have hvl:qb3 (qfu v)=true:=qco hv
    simp only[Option.map_some,KOb.ob] at hr ⊢
    unfold qbq at hr
    cases hn:Qc3 v (o+off) with
    | false=>rw[hn] at hr;cases hr
    | true =>
     rw[hn] at hr
     refine⟨_,hr,h,rfl,?_⟩
     unfold Qc3 at hn
     unfold qsi
     show ks.st=match (qfu v)[o+off]? with | some .nilS=>_ | some (.arr m _ _ _)=>_ | _=>_
     have e:qfu v=v.cells:=rfl
     rw[e] at hvl ⊢
     cases hc:v.cells[o+off]? with
     | none=>rfl
     | some y =>
      rw[hc] at hn
      have hy:=qjg hvl hc
      cases y<;>first | (simp at hn;done) | (simp[okV] at hy;done) | rfl
   | _=>exact⟨_,hr,h,rfl,rfl⟩
 | cv v =>
  rw[hg] at hr hokt
  have hv:okV v=true:=hokt
  simp only[KV.pv]
  cases v<;>first | (simp[okV] at hv;done) | exact⟨_,hr,h,rfl,rfl⟩
 | _=>rw[hg] at hr;exact⟨_,hr,h,rfl,rfl⟩
theorem kgrow_st {R:Type} {r:R} (h:ks.Ok) {t k:Nat} {K:KSt→Option R} (hr:kgrow1 t k ks K=some r):∃ k',K k'=some r∧k'.Ok∧k'.nt=ks.nt∧k'.st=Qdr t k ks.st:=by
 have hget:ks.st.tmps.getD t .undef=(qcg ks.tmps t).pv:=qh7 h.tm t
 unfold kgrow1 at hr
 unfold Qdr
 by_cases hb:qsk≤t
 ·rw[if_pos hb] at hr ⊢
  exact kgrowC_st h hr
 rw[if_neg hb] at hr ⊢
 rw[hget]
 cases hg:qcg ks.tmps t with
 | nils =>
  rw[hg] at hr
  simp only[KV.pv]
  rw[Qg6 h]
  by_cases hc:qvu ks t=true
  ·rw[if_pos hc] at hr
   rw[if_pos hc]
   have ht:=Qg7 hc
   refine⟨_,hr,⟨h.tm.put ht trivial rfl,h.ob.put ht fun o ho=>?_,h.kp⟩,rfl,?_⟩
   ·simp only[List.mem_singleton] at ho;subst ho;rfl
   ·unfold KSt.st
    simp only
    rw[qsv,qh8]
    rfl
  ·rw[if_neg hc] at hr
   rw[if_neg hc]
   exact⟨_,hr,h,rfl,rfl⟩
 | cv v =>
  rw[hg] at hr
  simp only at hr
  unfold notNil at hr
  simp only[KV.pv]
  cases v<;>first | exact⟨_,hr,h,rfl,rfl⟩ | cases hr
 | _=>rw[hg] at hr;exact⟨_,hr,h,rfl,rfl⟩
theorem kgrows_st {R:Type} {r:R}:∀ (l:List (Nat×Nat)) {ks:KSt} {K:KSt→Option R},ks.Ok→Qng l ks K=some r→∃ k',K k'=some r∧k'.Ok∧k'.nt=ks.nt∧k'.st=l.foldl (fun st (p:Nat×Nat)=>Qdr p.1 p.2 st) ks.st:=by
 intro l
 induction l with
 | nil=>intro ks K h hr;exact⟨ks,hr,h,rfl,rfl⟩
 | cons p l ih =>
  obtain⟨t,k⟩:=p
  intro ks K h hr
  simp only[Qng] at hr
  obtain⟨k1,hr,h1,n1,s1⟩:=kgrow_st h hr
  obtain⟨k2,hr,h2,n2,s2⟩:=ih h1 hr
  exact⟨k2,hr,h2,n2.trans n1,by rw[s2,s1];rfl⟩
theorem Qk2:∀ (l:List Nat) {ks:KSt},ks.Ok→(l.foldl (fun ks t=>qli t ks) ks).Ok∧(l.foldl (fun ks t=>qli t ks) ks).nt=ks.nt∧(l.foldl (fun ks t=>qli t ks) ks).st=l.foldl (fun st t=>qj1 t st) ks.st:=by
 intro l
 induction l with
 | nil=>intro ks h;exact⟨h,rfl,rfl⟩
 | cons t l ih =>
  intro ks h
  simp only[List.foldl_cons]
  obtain⟨a,b,c⟩:=krehome_st h t
  obtain⟨d,e,f⟩:=ih b
  exact⟨d,e.trans c,by rw[f,a]⟩
theorem Qfh (st:St):qms (undefs st) st=st:=by
 obtain⟨t,o,k⟩:=st
 unfold qms
 congr 1
 apply List.ext_getElem?
 intro i
 rw[List.getElem?_map,List.getElem?_zipIdx]
 cases hg:t[i]? with
 | none=>rfl
 | some v =>
  simp only[Option.map_some,Nat.zero_add,Option.some.injEq]
  split
  ·rename_i hc
   rw[List.contains_iff_mem] at hc
   unfold undefs at hc
   simp only[List.mem_map,List.mem_filter] at hc
   obtain⟨⟨u,j⟩,⟨hm,hu⟩,he⟩:=hc
   rw[List.mem_zipIdx_iff_getElem?] at hm
   simp only at he hm hu
   subst he
   rw[hg] at hm
   cases hm
   cases v<;>simp_all [qg4]
  ·rfl
theorem Qdg {R:Type} {r:R} (h:ks.Ok) {asg:List Nat} {grow:List (Nat×Nat)} {K:KSt→Option R} (hr:knorm asg grow ks K=some r):∃ k',K k'=some r∧k'.Ok∧k'.nt=ks.nt∧k'.st=norm asg grow ks.st:=by
 unfold knorm at hr
 obtain⟨a,b,c⟩:=Qk2 asg h
 obtain⟨k',hr,h1,n1,s1⟩:=kgrows_st grow a hr
 obtain⟨d1,d2,d3⟩:=qma h1 (qkg k')
 refine⟨_,hr,d2,d3.trans (n1.trans b),?_⟩
 have e:k'.st=norm0 asg grow ks.st:=by rw[s1,c];rfl
 unfold norm drop
 rw[d1,←e,Qfh]
 exact qrf (fun d=>(qn4 h1 d).symm) _
theorem qyy:∀ {nt:Nat} (ps xs:Sp),Qdu ps xs=true→qla nt ps→qla nt xs→∀ (vs:List PV) (i:Nat),Seg vs i (qg0 ps xs) →
  (∀ j,(qcg (qjs ps vs i).1 j).pv=(qcg xs j).pv)∧qla nt (qjs ps vs i).1∧(qjs ps vs i).1.map (·.1)=ps.map (·.1)∧(qjs ps vs i).2=i+(qg0 ps xs).length
 | nt,[],[],_,_,_,vs,i,_=>⟨fun _=>rfl,.nil nt,rfl,rfl⟩
 | _,[],_ :: _,h,_,_,_,_,_=>by simp[Qdu] at h
 | _,_ :: _,[],h,_,_,_,_,_=>by simp[Qdu] at h
 | nt,(j1,p) :: ps,(j2,x) :: xs,h,hp,hx,vs,i,hs=>by
  simp only[Qdu,Bool.and_eq_true] at h
  simp only[qg0] at hs
  have hj:=Nat.eq_of_beq_eq_true h.1
  subst hj
  obtain⟨a,b,c⟩:=Qlk p x h.2.1 (hx.ok (j1,x) (by simp)) vs i hs.left
  obtain⟨a',b',k',c'⟩:=qyy ps xs h.2.2 hp.tail hx.tail vs (fill p vs i).2 (by rw[c];exact hs.right)
  refine⟨?_,⟨?_,?_,?_,?_⟩,by simp[qjs,k'],?_⟩
  ·intro j
   simp only[qjs,qcg]
   cases Nat.beq j j1 with
   | true=>exact a
   | false=>exact a' j
  ·simp only[qjs,List.map_cons]
   rw[k']
   exact hp.srt
  ·intro q hq
   simp only[qjs,List.mem_cons] at hq
   rcases hq with rfl | hq
   ·exact hp.lt (j1,p) (by simp)
   ·exact b'.lt q hq
  ·intro q hq
   simp only[qjs,List.mem_cons] at hq
   rcases hq with rfl | hq
   ·exact b
   ·exact b'.ok q hq
  ·intro q hq
   simp only[qjs,List.mem_cons] at hq
   rcases hq with rfl | hq
   ·exact un_fill (hp.nu (j1,p) (by simp))
   ·exact b'.nu q hq
  ·simp only[qjs,qg0,List.length_append]
   rw[c',c]
   omega
theorem Qht:∀ {nt:Nat} (ps xs:SpO),Qho ps xs=true→qkl nt ps→qkl nt xs→∀ (vs:List PV) (i:Nat),Seg vs i (qpy ps xs) →
  (∀ j,(qcs (qmi ps vs i).1 j).map KOb.ob=(qcs xs j).map KOb.ob)∧qkl nt (qmi ps vs i).1∧(qmi ps vs i).1.map (·.1)=ps.map (·.1)∧(qmi ps vs i).2=i+(qpy ps xs).length
 | nt,[],[],_,_,_,vs,i,_=>⟨fun _=>rfl,.nil nt,rfl,rfl⟩
 | _,[],_ :: _,h,_,_,_,_,_=>by simp[Qho] at h
 | _,_ :: _,[],h,_,_,_,_,_=>by simp[Qho] at h
 | nt,(j1,p) :: ps,(j2,x) :: xs,h,hp,hx,vs,i,hs=>by
  simp only[Qho,Bool.and_eq_true] at h
  simp only[qpy] at hs
  have hj:=Nat.eq_of_beq_eq_true h.1
  subst hj
  obtain⟨a,b,c⟩:=qt0 p x h.2.1 (hx.ok (j1,x) (by simp)) vs i hs.left
  obtain⟨a',b',k',c'⟩:=Qht ps xs h.2.2 hp.tail hx.tail vs (qdc p vs i).2 (by rw[c];exact hs.right)
  refine⟨?_,⟨?_,?_,?_⟩,by simp[qmi,k'],?_⟩
  ·intro j
   simp only[qmi,qcs]
   cases Nat.beq j j1 with
   | true=>exact a
   | false=>exact a' j
  ·simp only[qmi,List.map_cons]
   rw[k']
   exact hp.srt
  ·intro q hq
   simp only[qmi,List.mem_cons] at hq
   rcases hq with rfl | hq
   ·exact hp.lt (j1,p) (by simp)
   ·exact b'.lt q hq
  ·intro q hq
   simp only[qmi,List.mem_cons] at hq
   rcases hq with rfl | hq
   ·exact b
   ·exact b'.ok q hq
  ·simp only[qmi,qpy,List.length_append]
   rw[c',c]
   omega
theorem Qhu:∀ {nt:Nat} (ps xs:List Sp),Qhp ps xs=true→(∀ p∈ps,qla nt p)→(∀ x∈xs,qla nt x)→∀ (vs:List PV) (i:Nat),Seg vs i (qwm ps xs) →
  (qy0 ps vs i).1.flatMap (qdk nt)=xs.flatMap (qdk nt)∧(∀ p∈(qy0 ps vs i).1,qla nt p)
 | nt,[],[],_,_,_,vs,i,_=>⟨rfl,by simp[qy0]⟩
 | _,[],_ :: _,h,_,_,_,_,_=>by simp[Qhp] at h
 | _,_ :: _,[],h,_,_,_,_,_=>by simp[Qhp] at h
 | nt,p :: ps,x :: xs,h,hp,hx,vs,i,hs=>by
  simp only[Qhp,Bool.and_eq_true] at h
  simp only[qwm] at hs
  obtain⟨a,b,_,c⟩:=qyy p x h.1 (hp p (by simp)) (hx x (by simp)) vs i hs.left
  obtain⟨a',b'⟩:=Qhu ps xs h.2 (fun q hq=>hp q (by simp[hq])) (fun q hq=>hx q (by simp[hq])) vs (qjs p vs i).2 (by rw[c];exact hs.right)
  refine⟨?_,?_⟩
  ·simp only[qy0,List.flatMap_cons,a']
   congr 1
   unfold qdk
   exact List.map_congr_left fun j _=>a j
  ·intro q hq
   simp only[qy0,List.mem_cons] at hq
   rcases hq with rfl | hq
   ·exact b
   ·exact b' q hq
theorem qze {β:Type}:∀ {l:List Bool} {a:Option β} {r:β},chks l a=some r→l.all id=true∧a=some r
 | [],_,_,h=>⟨rfl,h⟩
 | b :: l,a,r,h=>by
  obtain⟨h1,h2⟩:=qbp h
  obtain⟨h3,h4⟩:=qze h2
  exact⟨by simp[h1,h3],h4⟩
mutual
theorem Qdw:∀ {p x:KV},qmh p x=true→(qxq p x).all id=true→qhj p x=true
 | .un,x,h,_=>by simpa[qmh,qhj] using h
 | .sk,x,h,_=>by simpa[qmh,qhj] using h
 | .yld _,x,h,_=>by simpa[qmh,qhj] using h
 | .ref _ _,x,h,_=>by simpa[qmh,qhj] using h
 | .aref _ _ _ _,x,h,_=>by simpa[qmh,qhj] using h
 | .mp _,x,h,_=>by simpa[qmh,qhj] using h
 | .it _,x,h,_=>by simpa[qmh,qhj] using h
 | .wit _,x,h,_=>by simpa[qmh,qhj] using h
 | .lit _,x,h,_=>by simpa[qmh,qhj] using h
 | .nils,x,h,_=>by simpa[qmh,qhj] using h
 | .cv _,x,h,_=>by simpa[qmh,qhj] using h
 | .arr nm k o n,x,h,ho=>by
  cases x<;>simp only[qmh,Bool.false_eq_true] at h
  simp only[qxq,List.all_cons,List.all_nil,Bool.and_true,id,eqOff] at ho
  simp only[qhj,h,ho,Bool.and_self]
 | .fn f cap,x,h,ho=>by
  cases x<;>simp only[qmh,Bool.false_eq_true,Bool.and_eq_true] at h
  simp only[qhj,h.1,qsm h.2 ho,Bool.and_self]
 | .tup xs,x,h,ho=>by
  cases x<;>simp only[qmh,Bool.false_eq_true] at h
  exact qsm h ho
 | .agg cs,x,h,ho=>by
  unfold qmh at h
  unfold qhj
  split
  ·rename_i hc;rw[if_pos hc] at h;exact h
  ·rename_i hc
   rw[if_neg hc] at h
   cases x<;>simp only[Bool.false_eq_true] at h
   exact qsm h ho
 | .iface t y,x,h,ho=>by
  unfold qmh at h
  unfold qhj
  split
  ·rename_i hc;rw[if_pos hc] at h;exact h
  ·rename_i hc
   rw[if_neg hc] at h
   cases x<;>simp only[Bool.false_eq_true,Bool.and_eq_true] at h
   simp only[h.1,Qdw h.2 ho,Bool.and_self]
theorem qsm:∀ {p x:List KV},Qdx p x=true→(Qc2 p x).all id=true→qzy p x=true
 | [],x,h,_=>by cases x<;>simpa[Qdx,qzy] using h
 | p :: ps,[],h,_=>by simp[Qdx] at h
 | p :: ps,x :: xs,h,ho=>by
  simp only[Qdx,Bool.and_eq_true] at h
  simp only[Qc2,List.all_append,Bool.and_eq_true] at ho
  simp only[qzy,Qdw h.1 ho.1,qsm h.2 ho.2,Bool.and_self]
end
mutual
theorem qtf:∀ (x:KV),(qxq x x).all id=true
 | .un | .sk | .yld _ | .ref _ _ | .aref _ _ _ _ | .mp _ | .it _ | .wit _ | .lit _ | .nils | .cv _=>rfl
 | .arr nm k o n=>by simp[qxq,eqOff]
 | .fn f cap=>by simp only[qxq];exact ql5 cap
 | .tup xs=>by simp only[qxq];exact ql5 xs
 | .agg cs=>by simp only[qxq];exact ql5 cs
 | .iface t y=>by simp only[qxq];exact qtf y
theorem ql5:∀ (x:List KV),(Qc2 x x).all id=true
 | []=>rfl
 | x :: xs=>by simp only[Qc2,List.all_append,qtf x,ql5 xs,Bool.and_self]
end
theorem fit0Ob_ok {p x:KOb} (h:fit0Ob p x=true) (ho:(offsOb p x).all id=true):qj5 p x=true:=by
 cases p with
 | cells ty cs =>
  cases x<;>simp only[fit0Ob,Bool.false_eq_true,Bool.and_eq_true] at h
  simp only[qj5,h.1,qsm h.2 ho,Bool.and_self]
 | whole ty v=>exact h
 | arr k t xs=>exact h
 | map es=>exact h
 | siter s p=>exact h
theorem Qkq (x:KOb):(offsOb x x).all id=true:=by cases x<;>first | exact ql5 _ | rfl
theorem Qb6:∀ {p x:List KOb},qty p x=true→(qtg p x).all id=true→qhp p x=true
 | [],[],_,_=>rfl
 | [],_ :: _,h,_=>by simp[qty] at h
 | _ :: _,[],h,_=>by simp[qty] at h
 | p :: ps,x :: xs,h,ho=>by
  simp only[qty,Bool.and_eq_true] at h
  simp only[qtg,List.all_append,Bool.and_eq_true] at ho
  simp only[qhp,fit0Ob_ok h.1 ho.1,Qb6 h.2 ho.2,Bool.and_self]
theorem qvm:∀ (x:List KOb),(qtg x x).all id=true
 | []=>rfl
 | x :: xs=>by simp only[qtg,List.all_append,Qkq x,qvm xs,Bool.and_self]
theorem qyw:∀ {p x:Sp},qyx p x=true→(qxr p x).all id=true→Qdu p x=true
 | [],[],_,_=>rfl
 | [],_ :: _,h,_=>by simp[qyx] at h
 | _ :: _,[],h,_=>by simp[qyx] at h
 |(i,p) :: ps,(j,x) :: xs,h,ho=>by
  simp only[qyx,Bool.and_eq_true] at h
  simp only[qxr,List.all_append,Bool.and_eq_true] at ho
  simp only[Qdu,h.1,Qdw h.2.1 ho.1,qyw h.2.2 ho.2,Bool.and_self]
theorem qqx:∀ (x:Sp),(qxr x x).all id=true
 | []=>rfl
 |(_,x) :: xs=>by simp only[qxr,List.all_append,qtf x,qqx xs,Bool.and_self]
theorem Qhq:∀ {p x:SpO},Qb5 p x=true→(Qbi p x).all id=true→Qho p x=true
 | [],[],_,_=>rfl
 | [],_ :: _,h,_=>by simp[Qb5] at h
 | _ :: _,[],h,_=>by simp[Qb5] at h
 |(i,p) :: ps,(j,x) :: xs,h,ho=>by
  simp only[Qb5,Bool.and_eq_true] at h
  simp only[Qbi,List.all_append,Bool.and_eq_true] at ho
  simp only[Qho,h.1,Qb6 h.2.1 ho.1,Qhq h.2.2 ho.2,Bool.and_self]
theorem qxs:∀ (x:SpO),(Qbi x x).all id=true
 | []=>rfl
 |(_,x) :: xs=>by simp only[Qbi,List.all_append,qvm x,qxs xs,Bool.and_self]
theorem Qhr:∀ {p x:List Sp},Qb7 p x=true→(Qbj p x).all id=true→Qhp p x=true
 | [],[],_,_=>rfl
 | [],_ :: _,h,_=>by simp[Qb7] at h
 | _ :: _,[],h,_=>by simp[Qb7] at h
 | p :: ps,x :: xs,h,ho=>by
  simp only[Qb7,Bool.and_eq_true] at h
  simp only[Qbj,List.all_append,Bool.and_eq_true] at ho
  simp only[Qhp,qyw h.1 ho.1,Qhr h.2 ho.2,Bool.and_self]
theorem qxt:∀ (x:List Sp),(Qbj x x).all id=true
 | []=>rfl
 | x :: xs=>by simp only[Qbj,List.all_append,qqx x,qxt xs,Bool.and_self]
theorem qyu {p x:KSt} (h:qyv p x=true) (ho:(Qgc p x).all id=true):fitSt p x=true:=by
 unfold qyv at h
 unfold Qgc at ho
 simp only[Bool.and_eq_true] at h
 simp only[List.all_append,Bool.and_eq_true] at ho
 unfold fitSt
 simp only[h.1,qyw h.2.1 ho.1,Qhq h.2.2.1 ho.2.1,Qhr h.2.2.2 ho.2.2,Bool.and_self]
theorem qyt {x:KSt} (h:qyv x x=true):fitSt x x=true :=
 qyu h (by unfold Qgc;simp only[List.all_append,qqx,qxs,qxt,Bool.and_self])
theorem qso {p x:KSt} (h:fitSt p x=true) (hp:p.Ok) (hx:x.Ok):(qfa p (qd9 p x)).st=x.st∧(qfa p (qd9 p x)).Ok∧(qfa p (qd9 p x)).nt=p.nt∧p.nt=x.nt:=by
 unfold fitSt at h
 simp only[Bool.and_eq_true] at h
 obtain⟨h0,h1,h2,h3⟩:=h
 have hnt:=Nat.eq_of_beq_eq_true h0
 have hs:=Seg.all (qd9 p x)
 unfold qd9 at hs
 have hx1:qla p.nt x.tmps:=hnt ▸ hx.tm
 have hx2:qkl p.nt x.objs:=hnt ▸ hx.ob
 have hx3:∀ sp∈x.keep,qla p.nt sp:=hnt ▸ hx.kp
 obtain⟨a1,b1,_,c1⟩:=qyy p.tmps x.tmps h1 hp.tm hx1 _ 0 hs.left.left
 have hs2:=hs.left.right
 obtain⟨a2,b2,_,c2⟩:=Qht p.objs x.objs h2 hp.ob hx2 (qd9 p x) (qjs p.tmps (qd9 p x) 0).2 (by unfold qd9;rw[c1];exact hs2)
 have hs3:=hs.right
 obtain⟨a3,b3⟩:=Qhu p.keep x.keep h3 hp.kp hx3 (qd9 p x) (qmi p.objs (qd9 p x) (qjs p.tmps (qd9 p x) 0).2).2 (by
  unfold qd9 at c2 ⊢
  rw[c2,c1]
  simp only[List.length_append] at hs3
  rw[Nat.zero_add] at hs3 ⊢
  exact hs3)
 refine⟨?_,⟨b1,b2,b3⟩,rfl,hnt⟩
 unfold KSt.st qfa
 simp only
 rw[←hnt,a3]
 congr 1
 ·unfold qdk;exact List.map_congr_left fun j _=>a1 j
 ·unfold qfb;exact List.map_congr_left fun j _=>a2 j
end Go.Ab


namespace Go.Ab
variable {cfg:qzo} {tab:FuncId→Option RFn}
theorem exec_pure {d:Nat} {σ:Nm→Option Ob} {T:List PV} {op:ROp} (hp:Qbg op=true) {out:Out} (h:exec d σ T op=some out):out={v:=out.v}:=by
 have hm:∀ {x:Option PV},(x.map fun v=>({v:=v}:Out))=some out→out={v:=out.v}:=by
  intro x hx
  obtain⟨v,_,rfl⟩:=Option.map_eq_some_iff.1 hx
  rfl
 have hcm:∀ {b:Bool} {x:Option PV},chk b (x.map fun v=>({v:=v}:Out))=some out→out={v:=out.v}:=by
  intro b x hx
  exact hm (qd1 hx).2
 have hc:∀ {b:Bool} {v:PV},chk b (some ({v:=v}:Out))=some out→out={v:=out.v}:=by
  intro b v hx
  obtain⟨_,hx⟩:=qd1 hx
  cases hx;rfl
 cases op with
 | box | alloc | mkSl | store | mkF | mkMap | insert | mkS | append | copy | call | iter | next | bad=>simp[Qbg] at hp
 | mov x=>cases h;rfl
 | mkI t x=>cases h;rfl
 | bin op c cst x y=>exact hm h
 | slice k x lo hi mx=>exact hm h
 | len c x =>
  simp only[exec] at h
  obtain⟨n,_,rfl⟩:=Option.map_eq_some_iff.1 h
  rfl
 | pick c a b | conv k x | ofRune x | strId x | un op x | nilck x=>simp only[exec] at h;split at h<;>first | (cases h;rfl) | cases h
 | build z ps=>simp only[exec] at h;split at h<;>first | (cases h;rfl) | cases h
 | toBytes x=>simp only[exec] at h;split at h<;>first | exact hc h | cases h
 | field off n ag x=>simp only[exec] at h;split at h<;>first | exact hm h | cases h
 | fieldAddr off x=>simp only[exec] at h;split at h<;>first | exact hc h | (cases h;rfl) | cases h
 | idxAddrA k l x i=>simp only[exec] at h;split at h<;>first | exact hc h | cases h
 | ofBytes x | strIdx x i | extract j x | minmax mx xs | idxAddr k x i | strSlice x lo hi =>
  simp only[exec] at h
  split at h
  all_goals first
   |(cases h;done)
   | exact hc h
   |(obtain⟨n,_,rfl⟩:=Option.map_eq_some_iff.1 h;rfl)
   |(split at h<;>first | (cases h;done) | exact hc h | (cases h;rfl) | (split at h<;>first | (cases h;done) | (cases h;rfl)))
 | tassert t z ok x =>
  simp only[exec] at h
  split at h
  ·split at h
   ·cases h;rfl
   ·exact hc h
  ·exact hc h
  ·cases h
 | lookup c z ok x k =>
  simp only[exec] at h
  split at h
  ·cases h
  ·split at h
   ·cases h
   ·exact hc h
 | load n ag x =>
  simp only[exec] at h
  split at h
  ·split at h
   ·exact hm h
   ·cases h
  ·exact hm h
  ·split at h
   ·split at h
    ·exact hcm h
    ·cases h
   ·cases h
  ·cases h
theorem qzk (st:St) (dst:Option Nat) (v:PV):apply st dst {v}=bset dst v [] st:=by
 rw[Qd7];simp[Ql3,bupd,bgone,Ql2,bext,Qgk]
theorem pure_runs {M:qfk} {E:Type} {h:qbg E} {dep:Nat} {ops:List qbw}:∀ (l:List qbw),(∀ o∈l,Qbg o.op=true)→∀ {st st':St} {e e':E},qhe M h dep ops l st e=some (st',e') →
  e'=e∧st'.objs=st.objs∧st'.keep=st.keep∧st'.tmps.length=st.tmps.length∧∀ i,i ∉ l.filterMap (·.dst)→st'.tmps[i]?=st.tmps[i]?:=by
 intro l
 induction l with
 | nil=>intro _ st st' e e' h;cases h;exact⟨rfl,rfl,rfl,rfl,fun _ _=>rfl⟩
 | cons o rest ih =>
  intro hp st st' e e' h
  simp only[qhe] at h
  split at h
  case h_2=>cases h
  rename_i s1 e1 hs
  have hone:e1=e∧∃ v,s1=bset o.dst v [] st:=by
   unfold stepG at hs
   split at hs
   ·unfold qro at hs
    split at hs
    ·rename_i out e2 ho
     cases hs
     unfold qh4 at ho
     obtain⟨_,ho⟩:=qd1 ho
     have hpo:=hp o (by simp)
     split at ho
     ·rename_i f args hop;rw[hop] at hpo;simp[Qbg] at hpo
     ·split at ho
      ·rename_i out' hx
       cases ho
       have:=exec_pure hpo hx
       refine⟨rfl,out.v,?_⟩
       rw[this,qzk]
      ·cases ho
    ·cases hs
   ·cases hs;exact⟨rfl,_,qzk _ _ _⟩
   ·cases hs
  obtain⟨rfl,v,rfl⟩:=hone
  obtain⟨a,b,c,d,f⟩:=ih (fun o' ho'=>hp o' (by simp[ho'])) h
  refine⟨a,?_,?_,?_,?_⟩
  ·rw[b];cases o.dst<;>rfl
  ·rw[c];cases o.dst<;>rfl
  ·rw[d];cases o.dst<;>simp[bset]
  ·intro i hi
   have hi':i ∉ rest.filterMap (·.dst):=fun hm=>hi (by
    simp only[List.mem_filterMap] at hm ⊢
    obtain⟨o',ho',hd⟩:=hm
    exact⟨o',by simp[ho'],hd⟩)
   rw[f i hi']
   cases hd:o.dst with
   | none=>rfl
   | some t =>
    have hne:t≠i:=fun e=>hi (by
     simp only[List.mem_filterMap]
     exact⟨o,by simp,by rw[hd,e]⟩)
    simp only[bset]
    rw[List.getElem?_set_ne hne]
theorem tidy_congr {st st':St} (h1:st'.objs=st.objs) (h2:st'.keep=st.keep) (hl:st'.tmps.length=st.tmps.length) {l:List Nat} (h3:∀ i,i∈l→st'.tmps[i]?=st.tmps[i]?):Qmf (some l) st'=Qmf (some l) st:=by
 have:qkh l st'=qkh l st:=by
  unfold qkh
  obtain⟨t',o',k'⟩:=st'
  obtain⟨t,o,k⟩:=st
  simp only at h1 h2 hl h3
  subst h1;subst h2
  have hl:t'.length=t.length:=hl
  congr 1
  show (t'.zipIdx.map fun (x:PV×Nat)=>if l.contains x.2 then x.1 else .undef)=t.zipIdx.map fun (x:PV×Nat)=>if l.contains x.2 then x.1 else .undef
  apply List.ext_getElem?
  intro i
  rw[List.getElem?_map,List.getElem?_map,List.getElem?_zipIdx,List.getElem?_zipIdx]
  by_cases hi:i∈l
  ·rw[h3 i hi]
  ·by_cases hlt:i < t.length
   ·rw[List.getElem?_eq_getElem hlt,List.getElem?_eq_getElem (by omega)]
    simp[hi]
   ·rw[List.getElem?_eq_none (by omega),List.getElem?_eq_none (by omega)]
 unfold Qmf
 simp only[this]
theorem kdrop_ok {k0 ks:KSt} (h:ks.Ok):(Qha k0 ks).Ok∧(Qha k0 ks).nt=ks.nt:=by
 unfold Qha
 obtain⟨h1,h2⟩:=Qdh h (qrt k0.tmps)
 obtain⟨h3,h4,h5⟩:=qma h2 (qkg {ks with tmps:=qkr (qrt k0.tmps) ks.tmps})
 exact⟨h4,h5⟩
theorem ksetPs_ok {nt:Nat}:∀ (ps:List Nat) (args:List PV) (i:Nat) {tm:Sp},qla nt tm→(∀ p∈ps,p < nt)→qb3 args=true→qla nt (qsa ps args i tm):=by
 intro ps
 induction ps with
 | nil=>intro args i tm h _ _;exact h
 | cons p ps ih =>
  intro args i tm h hp ha
  simp only[qsa]
  refine ih args (i+1) (h.put (hp p (by simp)) ?_ rfl) (fun q hq=>hp q (by simp[hq])) ha
  show okV (nth args i)=true
  unfold nth
  rw[List.getD_eq_getElem?_getD]
  cases hg:args[i]? with
  | none=>rfl
  | some v=>exact qjg ha hg
theorem ksetPs_st {nt:Nat}:∀ (ps:List Nat) (args:List PV) (i:Nat) {tm:Sp},i+ps.length=args.length→qdk nt (qsa ps args i tm)=qv8 ps (args.drop i) (qdk nt tm):=by
 intro ps
 induction ps with
 | nil=>intro args i tm _;simp[qsa,qv8]
 | cons p ps ih =>
  intro args i tm hl
  simp only[List.length_cons] at hl
  have hd:args.drop i=args[i]'(by omega) :: args.drop (i+1):=List.drop_eq_getElem_cons (by omega)
  rw[hd]
  simp only[qsa,qv8]
  rw[ih args (i+1) (by omega),qsv]
  have:nth args i=args[i]'(by omega):=by
   unfold nth;rw[List.getD_eq_getElem?_getD,List.getElem?_eq_getElem (by omega)];rfl
  rw[←this]
  rfl
theorem konEx_some {R:Type} {r:R} {K:Nat→Option R}:∀ {l:List Nat} {p:Option Ex},konEx l p K=some r→∃ id,p=some (.exit id)∧K id=some r:=by
 intro l
 induction l with
 | nil=>intro p h;cases h
 | cons id l ih =>
  intro p h
  simp only[konEx] at h
  rcases qk0 h with ⟨h1,h2⟩ | ⟨_,h2⟩
  ·refine⟨id,?_,h2⟩
   unfold isExitE at h1
   split at h1
   ·rename_i id';rw[Nat.eq_of_beq_eq_true h1]
   ·cases h1
  ·exact ih h2
def sp_dense (sp:Sp) (k3:KSt):List PV:=qdk k3.nt sp
theorem Qd1 (hc:qld cfg tab):∀ (c:qc6) {E R:Type} {h:qbg E} {hn:Nat→qbg E} (_:HOk h hn) (dep:Nat) {ks:KSt} {e:E} {K:Ex→KSt→E→Option R} {r:R},ks.Ok→qju cfg c h dep ks e K=some r →
  ∃ x k' e',K x k' e'=some r∧k'.Ok∧Evl fun n=>qbt (qj3 cfg.b.sp tab n) n c (hn n) dep ks.st e=some (x,k'.st,e'):=by
 intro c
 induction c with
 | skip=>intro E R h hn hh dep ks e K r hk hr;exact⟨_,_,_,hr,hk,.of fun n=>rfl⟩
 | region ops dr lv =>
  intro E R h hn hh dep ks e K r hk hr
  obtain⟨c1,c2,_⟩:=qma hk (qre ops)
  cases dr with
  | none =>
   simp only[qju] at hr
   rw[qc2] at hr
   split at hr
   ·rename_i t hslot
    obtain⟨z,hz,hr⟩:=qb6 hr
    rw[qc2] at hr
    obtain⟨k1,e1,hz2,hk1,h1⟩:=Qdf (dep:=dep) hc hh ops c2 hz
    unfold Qn6 at hslot
    split at hslot
    case isFalse=>cases hslot
    rename_i hcond
    simp only[Bool.and_eq_true] at hcond
    cases lv with
    | none=>cases hslot
    | some l =>
    simp only at hslot
    split at hslot
    case h_2=>cases hslot
    rename_i t' hfil
    cases hslot
    have hpure:∀ o∈ops,Qbg o.op=true:=List.all_eq_true.1 hcond.2
    have hzok:okV z=true:=KV.cl_ok (hk1.tm.get_ok t) hz2
    have htlt:t < k1.nt:=by
     apply Classical.byContradiction
     intro hlt
     rw[hk1.tm.get_ge (by omega)] at hz2;cases hz2
    obtain⟨m,hm⟩:=h1
    have hm0:=hm m (Nat.le_refl _)
    obtain⟨rfl,p2,p3,p4,p5⟩:=pure_runs ops hpure hm0
    have hnt:k1.nt=(qgw (qre ops) ks).nt:=by
     have:k1.st.tmps.length=(qgw (qre ops) ks).st.tmps.length:=p4
     have a1:k1.st.tmps.length=k1.nt:=qb5 _ _
     have a2:(qgw (qre ops) ks).st.tmps.length=(qgw (qre ops) ks).nt:=qb5 _ _
     omega
    have hput:({qgw (qre ops) ks with tmps:=qjj t (.cv z) (qgw (qre ops) ks).tmps}:KSt).Ok:=⟨c2.tm.put (by omega) hzok rfl,c2.ob,c2.kp⟩
    obtain⟨t1,t2⟩:=qwo hput (some l)
    refine⟨_,_,_,hr,t2,⟨m,fun n hn'=>?_⟩⟩
    have hb:=hm n hn'
    rw[c1] at hb
    simp only[qbt,hb,t1]
    have:Qmf (some l) k1.st=Qmf (some l) ({qgw (qre ops) ks with tmps:=qjj t (.cv z) (qgw (qre ops) ks).tmps}:KSt).st:=by
     refine tidy_congr (st':=k1.st) (st:=({qgw (qre ops) ks with tmps:=qjj t (.cv z) (qgw (qre ops) ks).tmps}:KSt).st) p2 p3 ?_ fun i hi=>?_
     ·rw[p4]
      show (qdk _ _).length=(qdk _ _).length
      rw[qb5,qb5]
     ·show k1.st.tmps[i]?=(qdk _ (qjj t (.cv z) _))[i]?
      rw[qsv]
      by_cases hit:i=t
      ·subst hit
       rw[List.getElem?_set_self (by rw[qb5];show i < (qgw (qre ops) ks).nt;omega)]
       show (qdk k1.nt k1.tmps)[i]?=_
       rw[dense_get?,if_pos htlt,KV.cl_pv hz2]
       rfl
      ·rw[List.getElem?_set_ne (Ne.symm hit)]
       refine p5 i fun hmem=>hit ?_
       have:i∈l.filter fun t=>(ops.filterMap (·.dst)).contains t:=List.mem_filter.2 ⟨hi,by simpa using hmem⟩
       rw[hfil] at this
       simpa using this
    rw[this]
   ·obtain⟨k1,e1,hr,hk1,h1⟩:=Qdf (dep:=dep) hc hh ops c2 hr
    rw[qc2] at hr
    obtain⟨t1,t2⟩:=qwo hk1 lv
    rw[c1] at h1
    exact⟨_,_,_,hr,t2,h1.mono fun n hn'=>by simp only[qbt,hn',t1]⟩
  | some bef =>
   simp only[qju] at hr
   rw[qc2] at hr
   obtain⟨k1,e1,hr,hk1,h1⟩:=krunsD_ok (dep:=dep) hc hh bef [] c2 hr
   rw[qc2] at hr
   obtain⟨t1,t2⟩:=qwo hk1 lv
   rw[c1] at h1
   exact⟨_,_,_,hr,t2,h1.mono fun n hn'=>by simp only[qbt,hn',t1]⟩
 | seq a b iha ihb =>
  intro E R h hn hh dep ks e K r hk hr
  simp only[qju] at hr
  obtain⟨x,k1,e1,hr,hk1,h1⟩:=iha hh dep hk hr
  cases x with
  | normal =>
   obtain⟨x2,k2,e2,hr,hk2,h2⟩:=ihb hh dep hk1 hr
   exact⟨_,_,_,hr,hk2,h1.mono2 h2 fun n a b=>by simp only[qbt,a,b]⟩
  | exit id=>exact⟨_,_,_,hr,hk1,h1.mono fun n a=>by simp only[qbt,a]⟩
  | ret=>exact⟨_,_,_,hr,hk1,h1.mono fun n a=>by simp only[qbt,a]⟩
 | cond c a b iha ihb =>
  intro E R h hn hh dep ks e K r hk hr
  simp only[qju] at hr
  have hev:=qs7 hk c
  split at hr
  ·rename_i hv
   obtain⟨x,k1,e1,hr,hk1,h1⟩:=iha hh dep hk hr
   exact⟨_,_,_,hr,hk1,h1.mono fun n a=>by simp only[qbt,hev,hv,KV.pv,a]⟩
  ·rename_i hv
   obtain⟨x,k1,e1,hr,hk1,h1⟩:=ihb hh dep hk hr
   exact⟨_,_,_,hr,hk1,h1.mono fun n a=>by simp only[qbt,hev,hv,KV.pv,a]⟩
  ·rename_i v hv
   rcases qsd hr with ⟨rfl,hr⟩ | ⟨rfl,hr⟩
   ·obtain⟨x,k1,e1,hr,hk1,h1⟩:=iha hh dep hk hr
    exact⟨_,_,_,hr,hk1,h1.mono fun n a=>by simp only[qbt,hev,hv,KV.pv,a]⟩
   ·obtain⟨x,k1,e1,hr,hk1,h1⟩:=ihb hh dep hk hr
    exact⟨_,_,_,hr,hk1,h1.mono fun n a=>by simp only[qbt,hev,hv,KV.pv,a]⟩
  ·cases hr
 | block id b ih =>
  intro E R h hn hh dep ks e K r hk hr
  simp only[qju] at hr
  obtain⟨x,k1,e1,hr,hk1,h1⟩:=ih hh dep hk hr
  cases x with
  | normal=>exact⟨_,_,_,hr,hk1,h1.mono fun n a=>by simp only[qbt,a]⟩
  | ret=>exact⟨_,_,_,hr,hk1,h1.mono fun n a=>by simp only[qbt,a]⟩
  | exit id' =>
   simp only at hr
   split at hr
   ·rename_i hid;exact⟨_,_,_,hr,hk1,h1.mono fun n a=>by simp only[qbt,a,hid,if_true]⟩
   ·rename_i hid;exact⟨_,_,_,hr,hk1,h1.mono fun n a=>by simp only[qbt,a,hid,if_false]⟩
 | loop asg grow b ih =>
  intro E R h hn hh dep ks e K r hk hr
  simp only[qju] at hr
  obtain⟨k0,hr,hk0,hnt0,hst0⟩:=Qdg hk hr
  rw[qc2] at hr
  obtain⟨hU,hr⟩:=qbp hr
  split at hr
  ·cases hr
  rename_i hself
  have hself:fitSt k0 k0=true:=qyt (by simpa using hself)
  obtain⟨m,hm⟩:=qpx hr
  have key:∀ (m:Nat) (vs:List PV) (e:E),(qfa k0 vs).Ok→repS (fun s:List PV×E=>qh5 (qfa k0 s.1) fun ks=>qju cfg b h dep ks s.2 (Qmx asg grow k0 K)) m (vs,e)=some r →
    ∃ x k' e',K x k' e'=some r∧k'.Ok∧Evl fun n=>∀ j,m≤j→qg2 (qgf (qj3 cfg.b.sp tab n) n asg grow b (hn n) dep (undefs k0.st)) j ((qfa k0 vs).st,e)=some (x,k'.st,e'):=by
   intro m
   induction m with
   | zero=>intro vs e _ h0;cases h0
   | succ m ihm =>
    intro vs e hkv hm
    unfold repS at hm
    simp only at hm
    rw[qc2] at hm
    cases hs:qju cfg b h dep (qfa k0 vs) e (Qmx asg grow k0 K) with
    | none =>
     rw[hs] at hm;cases hm
    | some q =>
     rw[hs] at hm
     obtain⟨x,k1,e1,hq,hk1,h1⟩:=ih hh dep hkv hs
     have hother:∀ y,y≠Ex.normal→x=y→(qba (K y k1 e1) fun r=>some (Sum.inr r))=some q→∃ x k' e',K x k' e'=some r∧k'.Ok∧Evl fun n=>∀ j,m+1≤j→qg2 (qgf (qj3 cfg.b.sp tab n) n asg grow b (hn n) dep (undefs k0.st)) j ((qfa k0 vs).st,e)=some (x,k'.st,e'):=by
      intro y hy hxy hq
      obtain⟨r',hr',hq⟩:=qb6 hq
      cases hq
      cases hm
      refine⟨y,k1,e1,hr',hk1,h1.mono fun n hn' j hj=>?_⟩
      obtain⟨j,rfl⟩:∃ i,j=i+1:=⟨j - 1,by omega⟩
      rw[qpr]
      subst hxy
      cases x with
      | normal=>exact absurd rfl hy
      | exit id=>simp only[qgf,hn',qvl]
      | ret=>simp only[qgf,hn',qvl]
     cases x with
     | exit id=>exact hother (.exit id) (by simp) rfl hq
     | ret=>exact hother .ret (by simp) rfl hq
     | normal =>
      unfold Qmx at hq;simp only at hq
      obtain⟨d1,d2⟩:=kdrop_ok (k0:=k0) hk1
      obtain⟨k2,hq,hk2,hnt2,hst2⟩:=Qdg d1 hq
      rw[qc2] at hq
      split at hq
      ·rename_i hfit0
       obtain⟨hoffs,hq⟩:=qze hq
       have hfit:=qyu hfit0 hoffs
       cases hq
       obtain⟨f1,f2,f3,f4⟩:=qso hfit hk0 hk2
       obtain⟨g1,_,_⟩:=kdrop_st hk0 hU hk1 (by omega)
       obtain⟨x3,k3,e3,hr3,hk3,h3⟩:=ihm _ _ f2 hm
       refine⟨x3,k3,e3,hr3,hk3,h1.mono2 h3 fun n hn1 hn3 j hj=>?_⟩
       obtain⟨j,rfl⟩:∃ i,j=i+1:=⟨j - 1,by omega⟩
       rw[qpr]
       have:=hn3 j (by omega)
       rw[f1,hst2,g1] at this
       simp only[qgf,hn1,qvl]
       exact this
      ·cases hq
  obtain⟨s1,s2,_,_⟩:=qso (p:=k0) (x:=k0) hself hk0 hk0
  obtain⟨x,k',e',hr',hk',hev⟩:=key m _ e s2 hm
  refine⟨x,k',e',hr',hk',hev.diag.mono fun n hn'=>?_⟩
  rw[s1,hst0] at hn'
  rw[Qb9,hn']
 | rangeFunc f ps asg b iha ihb =>
  intro E R h hn hh dep ks e K r hk hr
  simp only[qju] at hr
  split at hr
  case h_2=>cases hr
  rename_i fv hfv
  split at hr
  case isFalse=>cases hr
  rename_i hps
  simp only[Bool.and_eq_true] at hps
  obtain⟨⟨hps,hself0⟩,hxf⟩:=hps
  have hself:=qyt hself0
  have hpslt:∀ p∈ps,p < ks.nt:=fun p hp=>by
   have:=List.all_eq_true.1 hps p hp
   simpa[Nat.blt_eq] using this
  obtain⟨⟨vs,p,e2⟩,hrange,hr2⟩:=qb6 hr
  clear hr
  rw[qc2] at hr2
  simp only at hr2
  unfold qgd at hrange
  split at hrange
  case h_2=>cases hrange
  rename_i g cap
  split at hrange
  case h_2=>cases hrange
  rename_i rv obs rr hL
  cases hrange
  rw[hc.L] at hL
  obtain⟨m,hm⟩:=qr7 hL
  have hm:=hm m (Nat.le_refl _)
  obtain⟨s1,s2,_,_⟩:=qso (p:=ks) (x:=ks) hself hk hk
  obtain⟨⟨st2,p2,e2'⟩,hre,hev⟩:=qt3 (sp:=cfg.b.sp) (tab:=tab) m (KRec E) (Rec E)
   (fun a b=>a.2.1=b.2.1∧a.2.2=b.2.2∧(qfa ks a.1).Ok∧(qfa ks a.1).st=b.1) _ (fun n=>qxk (qj3 cfg.b.sp tab n) n asg b (hn n) dep ps) (by
    rintro l args ⟨vs,p,e⟩ ⟨s,p',e'⟩ ⟨h1,h2,h3,h4⟩ bb ⟨vs',q,e1⟩ hq
    simp only at h1 h2 h3 h4
    subst h1;subst h2;subst h4
    unfold qfs at hq
    unfold qxk
    by_cases hl:l=dep
    ·simp only[hl,if_true] at hq ⊢
     cases p with
     | some x=>cases hq
     | none =>
      simp only at hq ⊢
      obtain⟨hargs,hq⟩:=qbp hq
      unfold qh1 at hargs
      simp only[Bool.and_eq_true,beq_iff_eq] at hargs
      rw[qc2,qc2] at hq
      have hnt:(qfa ks vs).nt=ks.nt:=rfl
      have hk1:({qfa ks vs with tmps:=qsa ps args 0 (qfa ks vs).tmps,keep:=(qfa ks vs).tmps :: (qfa ks vs).keep}:KSt).Ok :=
       ⟨ksetPs_ok ps args 0 h3.tm hpslt hargs.2,h3.ob,fun sp hsp=>(List.mem_cons.1 hsp).elim (fun e=>e ▸ h3.tm) (h3.kp sp)⟩
      have hk1st:({qfa ks vs with tmps:=qsa ps args 0 (qfa ks vs).tmps,keep:=(qfa ks vs).tmps :: (qfa ks vs).keep}:KSt).st={(qfa ks vs).st with tmps:=qv8 ps args (qfa ks vs).st.tmps,keep:=(qfa ks vs).st.tmps++(qfa ks vs).st.keep}:=by
       unfold KSt.st
       simp only
       rw[ksetPs_st ps args 0 (by omega)]
       simp
      obtain⟨x1,k2,e3,hq,hk2,ha⟩:=iha hh (dep+1) hk1 hq
      cases x1 with
      | exit id=>cases hq
      | ret=>cases hq
      | normal =>
       simp only at hq
       obtain⟨x2,k3,e4,hq,hk3,hb⟩:=ihb hh (dep+1) hk2 hq
       split at hq
       case h_1=>cases hq
       rename_i sp kp hkeep
       rw[qc2] at hq
       split at hq
       case isFalse=>cases hq
       rename_i hfit0
       obtain⟨hoffs,hq⟩:=qze hq
       have hfit:=qyu hfit0 hoffs
       cases hq
       have hk4:({k3 with tmps:=sp,keep:=kp}:KSt).Ok:=⟨hk3.kp sp (by rw[hkeep];simp),hk3.ob,fun q hq=>hk3.kp q (by rw[hkeep];simp[hq])⟩
       obtain⟨f1,f2,f3,f4⟩:=qso hfit hk hk4
       have f5:ks.nt=k3.nt:=f4
       refine⟨({tmps:=sp_dense sp k3,objs:=k3.st.objs,keep:=kp.flatMap (qdk k3.nt)},exitOf x2,e1),⟨rfl,rfl,f2,?_⟩,ha.mono2 hb fun n hn1 hn2=>?_⟩
       ·rw[f1];rfl
       ·simp only[hargs.1,if_true]
        rw[←hk1st,hn1]
        simp only
        rw[hn2]
        simp only
        have hkp:k3.st.keep=qdk k3.nt sp++kp.flatMap (qdk k3.nt):=by
         show k3.keep.flatMap (qdk k3.nt)=_
         rw[hkeep];rfl
        have hlen:(qfa ks vs).st.tmps.length=(qdk k3.nt sp).length:=by
         show (qdk ks.nt _).length=_
         rw[qb5,qb5];exact f5
        rw[hkp,hlen,List.take_left,List.drop_left]
        cases x2<;>rfl
    ·simp only[hl,if_false] at hq ⊢
     split at hq
     ·rename_i b2 e3 h6
      cases hq
      exact⟨_,⟨rfl,rfl,h3,rfl⟩,(hh _ _ _ _ h6).mono fun n hn'=>by rw[hn']⟩
     ·cases hq) (dep+1) (qfh g) (qcc g [.yld dep] cap) (qd9 ks ks,none,e) (ks.st,none,e) ⟨rfl,rfl,s2,s1⟩ rv obs _ hm
  simp only at hre
  obtain⟨h1,h2,h3,h4⟩:=hre
  subst h1;subst h2;subst h4
  have hfe:f.ev ks.st.tmps=.fn g cap:=by rw[qs7 hk,KV.cl_pv hfv]
  have hcap:(PV.fn g cap).names=[]:=by
   exact (qgb (KV.cl_ok (kv_ok hk hxf) hfv)).1
  have hbase:Evl fun n=>qbt (qj3 cfg.b.sp tab n) n (.rangeFunc f ps asg b) (hn n) dep ks.st e=some (p.getD .normal,(qfa ks vs).st,e2):=hev.mono fun n hn'=>by
   rw[qv0,hfe]
   unfold qq8
   rw[hcap]
   simp only[List.isEmpty_nil,if_true]
   simp only[qj3,qcp] at hn' ⊢
   rw[hn']
  rcases qk0 hr2 with ⟨hp,hr2⟩ | ⟨_,hr2⟩
  ·cases p with
   | some x=>cases hp
   | none=>exact⟨_,_,_,hr2,h3,hbase⟩
  ·rcases qk0 hr2 with ⟨hp,hr2⟩ | ⟨_,hr2⟩
   ·unfold qni at hp
    split at hp
    ·exact⟨_,_,_,hr2,h3,hbase⟩
    ·cases hp
   ·obtain⟨id,hpe,hr3⟩:=konEx_some hr2
    subst hpe
    exact⟨_,_,_,hr3,h3,hbase⟩
 | exit id=>intro E R h hn hh dep ks e K r hk hr;exact⟨_,_,_,hr,hk,.of fun n=>rfl⟩
 | scope b ih =>
  intro E R h hn hh dep ks e K r hk hr
  simp only[qju] at hr
  obtain⟨x,k1,e1,hr,hk1,h1⟩:=ih hh dep hk hr
  cases x with
  | normal=>exact⟨_,_,_,hr,hk1,h1.mono fun n a=>by simp only[qbt,a]⟩
  | ret=>exact⟨_,_,_,hr,hk1,h1.mono fun n a=>by simp only[qbt,a]⟩
  | exit id' =>
   simp only at hr
   split at hr
   ·rename_i hid;exact⟨_,_,_,hr,hk1,h1.mono fun n a=>by simp only[qbt,a,hid,if_true]⟩
   ·cases hr
 | ret=>intro E R h hn hh dep ks e K r hk hr;exact⟨_,_,_,hr,hk,.of fun n=>rfl⟩
 | norm g =>
  intro E R h hn hh dep ks e K r hk hr
  simp only[qju] at hr
  obtain⟨t1,t2,_⟩:=ktrim_st hk
  obtain⟨k',hr,hk',_,hst⟩:=Qdg t2 hr
  rw[qc2] at hr
  exact⟨_,_,_,hr,hk',.of fun n=>by simp only[qbt,hst,t1]⟩
 | bad=>intro E R h hn hh dep ks e K r hk hr;cases hr
 | dreg ops f args lv=>intro E R h hn hh dep ks e K r hk hr;cases hr
end Go.Ab


namespace Go.Ab
variable {cfg:qzo} {tab:FuncId→Option RFn} {ks:KSt}
theorem kresV_ok {R:Type} {r:R} (h:ks.Ok) {x:RRes} {K:KV→Option R} (hr:kresV ks x K=some r):∃ v,K v=some r∧v.ok∧qqh ks.st x=some v.pv:=by
 have hget:∀ t,ks.st.tmps.getD t .undef=(qcg ks.tmps t).pv:=fun t=>qh7 h.tm t
 have lk:=qjz h
 cases x with
 | tmp t=>exact⟨_,hr,h.tm.get_ok t,by simp only[qqh,hget]⟩
 | cell t n ag =>
  simp only[kresV] at hr
  split at hr
  ·rename_i nm o hv
   split at hr
   ·rename_i cs hl
    have hcs:qf6 cs:=qc9 h.ob hl
    split at hr
    ·rename_i hag
     split at hr
     ·rename_i hle
      refine⟨_,hr,qny (qnz hcs _) _,?_⟩
      simp only[qqh,hget,hv,KV.pv,lk,hl,Option.map_some,KOb.ob,sel,hag,if_true,chk,qd5,hle,decide_true,qps,qpt]
     ·cases hr
    ·rename_i hag
     split at hr
     ·rename_i c hc
      refine⟨_,hr,qct.1 hcs c (List.mem_of_getElem? hc),?_⟩
      simp only[qqh,hget,hv,KV.pv,lk,hl,Option.map_some,KOb.ob,sel,hag,pvL_get?,hc]
      rfl
     ·cases hr
   ·rename_i w hl
    obtain⟨z,hz,hr⟩:=qb6 hr
    have hw:okV w=true:=qc9 h.ob hl
    unfold qb2 at hz
    refine⟨_,hr,qxn (qco hw) hz,?_⟩
    simp only[qqh,hget,hv,KV.pv,lk,hl,Option.map_some,KOb.ob,qfu,hz]
   ·cases hr
  ·cases hr
theorem Qgy {R:Type} {r:R} (h:ks.Ok):∀ (l:List RRes) {K:List KV→Option R},qvp ks l K=some r→∃ vs,K vs=some r∧qf6 vs∧qmz ks.st l=some (pvL vs):=by
 intro l
 induction l with
 | nil=>intro K hr;exact⟨[],hr,trivial,rfl⟩
 | cons x l ih =>
  intro K hr
  simp only[qvp] at hr
  obtain⟨v,hr,hv,h1⟩:=kresV_ok h hr
  obtain⟨vs,hr,hvs,h2⟩:=ih hr
  exact⟨v :: vs,hr,⟨hv,hvs⟩,by simp only[qmz,h1,h2,pvL]⟩
theorem Qg0 {vs:List KV} (h:qf6 vs):(qvr vs).ok∧(qvr vs).pv=qqw (pvL vs):=by
 match vs,h with
 | [],h=>exact⟨trivial,rfl⟩
 | [v],h=>exact⟨h.1,rfl⟩
 | v :: w :: vs,h=>exact⟨h,rfl⟩
theorem Qby {o:Nat}:qqi o=true↔o=0:=by cases o<;>simp[qqi]
def top1:PV→List Nm
 | .arr nm _ 0 _=>[nm]
 | _=>[]
def top2:PV→List Nm
 | .arr nm _ 0 _=>[nm]
 | .agg cs=>cs.flatMap top1
 | _=>[]
def ktop1:KV→List Nm
 | .arr nm _ o _=>if qqi o then [nm] else []
 | .wit nm=>[nm]
 | _=>[]
def ktop2:KV→List Nm
 | .arr nm _ o _=>if qqi o then [nm] else []
 | .wit nm=>[nm]
 | .agg cs=>cs.flatMap ktop1
 | _=>[]
theorem ktop1_ok {x:KV} (h:x.ok):ktop1 x=top1 x.pv:=by
 cases x with
 | arr nm k o n=>cases o<;>rfl
 | cv v =>
  have hv:okV v=true:=h
  cases v<;>first | rfl | simp[okV] at hv
 | _=>rfl
theorem Qfi {cs:List PV} (h:qb3 cs=true):cs.flatMap top1=[]:=by
 rw[List.flatMap_eq_nil_iff]
 intro x hx
 have:=qd2.1 h x hx
 cases x<;>first | rfl | simp[okV] at this
theorem Qhn {cs:List KV} (h:qf6 cs):cs.flatMap ktop1=(pvL cs).flatMap top1:=by
 rw[qfq,List.flatMap_map]
 induction cs with
 | nil=>rfl
 | cons x xs ih=>simp only[List.flatMap_cons];rw[ktop1_ok h.1,ih h.2]
theorem Qde {x:KV} (h:x.ok):ktop2 x=top2 x.pv:=by
 cases x with
 | arr nm k o n=>cases o<;>rfl
 | agg cs=>exact Qhn h
 | cv v =>
  have hv:okV v=true:=h
  cases v with
  | agg cs=>simp only[okV] at hv;exact (Qfi hv).symm
  | _=>first | rfl | simp[okV] at hv
 | _=>rfl
theorem tops_eq (v:PV):tops v=match v with | .tup xs=>xs.flatMap top2 | v=>top2 v:=by
 have e1:(fun (x:PV)=>match x with | .arr nm _ 0 _=>[nm] | _=>[])=top1:=by
  funext x;cases x<;>first | rfl | (rename_i nm k o n;cases o<;>rfl)
 cases v with
 | arr nm k o n=>cases o<;>rfl
 | agg cs=>simp only[tops,top2];rfl
 | tup xs =>
  simp only[tops]
  congr 1
 | _=>rfl
theorem ktops_eq (v:KV):ktops v=match v with | .tup xs=>xs.flatMap ktop2 | v=>ktop2 v:=by
 cases v<;>first | rfl | (simp only[ktops];congr 1)
theorem ktops_ok {v:KV} (h:v.ok):ktops v=tops v.pv:=by
 rw[ktops_eq,tops_eq]
 cases v with
 | tup xs =>
  have hx:qf6 xs:=h
  simp only[KV.pv]
  rw[qfq,List.flatMap_map]
  clear h
  induction xs with
  | nil=>rfl
  | cons x xs ih=>simp only[List.flatMap_cons];rw[Qde hx.1,ih hx.2]
 | cv u =>
  have hu:okV u=true:=h
  simp only[KV.pv,ktop2]
  cases u with
  | tup xs =>
   simp only[okV] at hu
   symm
   rw[List.flatMap_eq_nil_iff]
   intro x hx
   have hx':=qd2.1 hu x hx
   have:=Qde (x:=.cv x) hx'
   simpa[ktop2,KV.pv] using this.symm
  | agg cs=>simp only[okV] at hu;exact (Qfi hu).symm
  | _=>first | rfl | simp[okV] at hu
 | _=>exact Qde h
theorem Qbl:∀ {l:List Nm},qgs l=true↔l.Nodup
 | []=>by simp[qgs]
 | x :: xs=>by simp[qgs,Qbl (l:=xs)]
theorem mapM_look {σ:Nm→Option Ob}:∀ {S:List Nm},(∀ nm∈S,∃ ob,σ nm=some ob∧Qhd ob=true)→∃ obs,S.mapM σ=some obs∧obs.all Qhd=true∧obs.length=S.length∧∀ (i:Nat) nm,S[i]?=some nm→obs[i]?=σ nm:=by
 intro S
 induction S with
 | nil=>intro _;exact⟨[],rfl,rfl,rfl,by simp⟩
 | cons nm S ih =>
  intro h
  obtain⟨ob,h1,h2⟩:=h nm (by simp)
  obtain⟨obs,h3,h4,h5,h6⟩:=ih fun m hm=>h m (by simp[hm])
  refine⟨ob :: obs,by simp[List.mapM_cons,h1,h3],by simp[h2,h4],by simp[h5],?_⟩
  intro i m hi
  cases i with
  | zero=>simp at hi;subst hi;simp[h1]
  | succ i=>simp at hi ⊢;exact h6 i m hi
theorem Qhg {pre mid post:List Nm} {nm:Nm} (hnd:(pre++nm :: mid++post).Nodup):(pre++nm :: mid++post).idxOf nm=pre.length:=by
 have hn:nm ∉ pre:=fun hm=>by
  rw[List.append_assoc,List.nodup_append] at hnd
  exact hnd.2.2 nm hm nm (by simp) rfl
 rw[List.append_assoc,List.idxOf_append,if_neg hn]
 simp
section hand
variable {σ:Nm→Option KOb} (hσ:∀ nm o,σ nm=some o→o.ok) {S:List Nm} (hnd:S.Nodup) {obs:List Ob} (hobs:∀ (i:Nat) nm,S[i]?=some nm→obs[i]?=(σ nm).map fun o=>o.ob.bare)
include hσ hnd hobs
def subH (σ:Nm→Option KOb) (S:List Nm):Nm→Option (Option Ob):=fun nm=>if S.contains nm=true then none else qci (fun nm=>(σ nm).map KOb.ob) nm
omit hnd hobs in
theorem close_subH {x:KV} (hx:x.ok) (hn:(x.names.all fun nm=>!S.contains nm)=true):x.pv.sub (subH σ S)=x.close (qdo σ qbn):=by
 rw[KV.close_pv _ hx]
 refine PV.sub_congr _ fun nm hm=>?_
 rw[KV.pv_names hx] at hm
 have:=List.all_eq_true.1 hn nm hm
 unfold subH qmu qci
 simp only[Bool.not_eq_true'] at this
 rw[this,qtn hσ,Option.map_map]
 rfl
omit hσ hnd hobs in
theorem sub_cl {x:KV} {u:PV} (hx:x.ok) (h:x.cl=some u) (f:Nm→Option (Option Ob)) (g:Nm→Nm):(x.pv.sub f).ren g=u:=by
 have hu:=KV.cl_ok hx h
 rw[KV.cl_pv h,qlf (qgb hu).1,qm0 (qgb hu).1]
mutual
theorem Qnf {R:Type} {r:R}:∀ (sh:RSh) (x:KV),x.ok→∀ {K:PV→Option R},qq2 σ S sh x K=some r→∀ (pre post:List Nm),S=pre++qs3 sh x++post →
  ∃ u,K u=some r∧qht obs sh pre.length ((x.pv.sub (subH σ S)).ren (Qfj S))=some (u,pre.length+(qs3 sh x).length)
 | .cl,x,hx,K,hr,pre,post,_=>by
  have hclose:(if x.names.all fun nm=>!S.contains nm then qbq (okU (x.close (qdo σ qbn))) (K (x.close (qdo σ qbn))) else none)=some r →
    ∃ u,K u=some r∧qht obs .cl pre.length ((x.pv.sub (subH σ S)).ren (Qfj S))=some (u,pre.length+(qs3 .cl x).length):=by
   intro hr
   split at hr
   ·rename_i hn
    obtain⟨h1,hr⟩:=qbp hr
    unfold okU at h1
    refine⟨_,hr,?_⟩
    rw[close_subH hσ hx hn,qm0 (qgb h1).1]
    simp[qht,h1,qbq,qs3]
   ·cases hr
  simp only[qq2] at hr
  cases hu:x.cl with
  | some u =>
   rw[hu] at hr
   refine⟨u,hr,?_⟩
   rw[sub_cl hx hu]
   simp[qht,KV.cl_ok hx hu,qbq,qs3]
  | none =>
   rw[hu] at hr
   cases x with
   | tup xs =>
    simp only at hr
    cases hus:clL xs with
    | some us =>
     rw[hus] at hr
     have hok:=qsz (xs:=xs) hx hus
     have htup:okV (.tup us)=true:=by simpa[okV] using hok
     refine⟨.tup us,hr,?_⟩
     have:(KV.tup xs).pv=.tup us:=by simp[KV.pv,qv4 hus]
     rw[this,qlf (qgb htup).1,qm0 (qgb htup).1]
     simp[qht,htup,qbq,qs3]
    | none=>rw[hus] at hr;exact hclose hr
   | _=>exact hclose hr
 | .own k,x,hx,K,hr,pre,post,hS=>by
  simp only[qq2] at hr
  split at hr
  ·rename_i nm k' o n
   split at hr
   ·rename_i k'' kt xs hl
    split at hr
    ·rename_i hc
     obtain⟨rfl,rfl,ho⟩:=hc
     rw[Qby] at ho
     subst ho
     obtain⟨h1,hr⟩:=qbp hr
     rw[qy7] at h1
     unfold qbu at h1
     simp only[qs3] at hS
     refine⟨_,hr,?_⟩
     have hmem:S.contains nm=true:=by rw[List.contains_iff_mem,hS];simp
     have hi:S[pre.length]?=some nm:=by rw[hS];simp
     have hidx:S.idxOf nm=pre.length:=by
      have e:S=pre++nm :: []++post:=by rw[hS]
      rw[e];exact Qhg (e ▸ hnd)
     have hob:obs[pre.length]?=some (.arr k 0 xs):=by rw[hobs _ _ hi,hl];rfl
     have hxok:qb3 xs=true:=hσ _ _ hl
     have hsub:(PV.arr nm k 0 n).sub (subH σ S)=.arr nm k 0 n:=by
      simp only[PV.sub,subH,hmem,if_true]
     simp only[KV.pv]
     rw[hsub]
     simp[PV.ren,Qfj,hidx,qht,hob,qbq,h1,hxok,qs3]
    ·cases hr
   ·cases hr
  ·cases hr
 | .opt k,x,hx,K,hr,pre,post,hS=>by
  simp only[qq2] at hr
  split at hr
  ·rename_i nm k' o n
   split at hr
   ·rename_i k'' kt xs hl
    split at hr
    ·rename_i hc
     obtain⟨rfl,rfl,ho⟩:=hc
     rw[Qby] at ho
     subst ho
     obtain⟨h1,hr⟩:=qbp hr
     rw[qy7] at h1
     unfold qbu at h1
     simp only[qs3] at hS
     refine⟨_,hr,?_⟩
     have hmem:S.contains nm=true:=by rw[List.contains_iff_mem,hS];simp
     have hi:S[pre.length]?=some nm:=by rw[hS];simp
     have hidx:S.idxOf nm=pre.length:=by
      have e:S=pre++nm :: []++post:=by rw[hS]
      rw[e];exact Qhg (e ▸ hnd)
     have hob:obs[pre.length]?=some (.arr k 0 xs):=by rw[hobs _ _ hi,hl];rfl
     have hxok:qb3 xs=true:=hσ _ _ hl
     have hsub:(PV.arr nm k 0 n).sub (subH σ S)=.arr nm k 0 n:=by
      simp only[PV.sub,subH,hmem,if_true]
     simp only[KV.pv]
     rw[hsub]
     simp[PV.ren,Qfj,hidx,qht,hob,qbq,h1,hxok,qs3]
    ·cases hr
   ·cases hr
  ·refine⟨.nilS,hr,?_⟩
   simp[KV.pv,PV.sub,PV.ren,qht,qs3]
  ·unfold Qkt at hr
   split at hr
   ·refine⟨.nilS,hr,?_⟩
    simp[KV.pv,PV.sub,PV.ren,qht,qs3]
   ·cases hr
  ·cases hr
 | .tup l,x,hx,K,hr,pre,post,hS=>by
  simp only[qq2] at hr
  split at hr
  ·rename_i xs
   simp only[qs3] at hS
   obtain⟨us,h1,h2⟩:=qx4 l xs hx hr pre post hS
   refine⟨_,h1,?_⟩
   simp only[KV.pv,PV.sub,PV.ren,qht,h2,qs3]
   rfl
  ·cases hr
 | .agg l,x,hx,K,hr,pre,post,hS=>by
  simp only[qq2] at hr
  split at hr
  ·rename_i xs
   simp only[qs3] at hS
   obtain⟨us,h1,h2⟩:=qx4 l xs hx hr pre post hS
   refine⟨_,h1,?_⟩
   simp only[KV.pv,PV.sub,PV.ren,qht,h2,qs3]
   rfl
  ·cases hr
theorem qx4 {R:Type} {r:R}:∀ (l:List RSh) (xs:List KV),qf6 xs→∀ {K:List PV→Option R},qn5 σ S l xs K=some r→∀ (pre post:List Nm),S=pre++qv9 l xs++post →
  ∃ us,K us=some r∧qk6 obs l pre.length (qhy (Qfj S) (qfx (subH σ S) (pvL xs)))=some (us,pre.length+(qv9 l xs).length)
 | [],[],_,K,hr,pre,post,_=>⟨[],hr,by simp[pvL,qfx,qhy,qk6,qv9]⟩
 | [],_ :: _,_,K,hr,_,_,_=>by simp[qn5] at hr
 | _ :: _,[],_,K,hr,_,_,_=>by simp[qn5] at hr
 | s :: l,x :: xs,hx,K,hr,pre,post,hS=>by
  simp only[qn5] at hr
  simp only[qv9] at hS
  obtain⟨u,hr,h1⟩:=Qnf s x hx.1 hr pre (qv9 l xs++post) (by rw[hS];simp[List.append_assoc])
  obtain⟨us,hr,h2⟩:=qx4 l xs hx.2 hr (pre++qs3 s x) post (by rw[hS];simp[List.append_assoc])
  refine⟨u :: us,hr,?_⟩
  simp only[pvL,qfx,qhy,qk6,h1]
  rw[List.length_append] at h2
  rw[h2]
  simp[qv9,Nat.add_assoc]
end
end hand
theorem own_arr {σ:Nm→Option KOb} {S:List Nm} {R:Type} {r:R}:∀ (sh:RSh) (x:KV) {K:PV→Option R},qq2 σ S sh x K=some r→(∀ nm∈qs3 sh x,∃ k kt xs,σ nm=some (.arr k kt xs))∧∃ u,K u=some r:=by
 intro sh
 refine RSh.rec (motive_1:=fun sh=>∀ (x:KV) {K:PV→Option R},qq2 σ S sh x K=some r→(∀ nm∈qs3 sh x,∃ k kt xs,σ nm=some (.arr k kt xs))∧∃ u,K u=some r)
  (motive_2:=fun l=>∀ (xs:List KV) {K:List PV→Option R},qn5 σ S l xs K=some r→(∀ nm∈qv9 l xs,∃ k kt ys,σ nm=some (.arr k kt ys))∧∃ us,K us=some r) ?_ ?_ ?_ ?_ ?_ ?_ ?_ sh
 ·intro x K hr
  refine⟨by simp[qs3],?_⟩
  simp only[qq2] at hr
  split at hr
  ·exact⟨_,hr⟩
  ·split at hr
   ·split at hr
    ·exact⟨_,hr⟩
    ·split at hr
     ·exact⟨_,(qbp hr).2⟩
     ·cases hr
   ·split at hr
    ·exact⟨_,(qbp hr).2⟩
    ·cases hr
 ·intro k x K hr
  simp only[qq2] at hr
  split at hr
  ·rename_i nm k' o n
   split at hr
   ·rename_i k'' kt xs hl
    split at hr
    ·exact⟨by simp[qs3,hl],_,(qbp hr).2⟩
    ·cases hr
   ·cases hr
  ·cases hr
 ·intro k x K hr
  simp only[qq2] at hr
  split at hr
  ·rename_i nm k' o n
   split at hr
   ·rename_i k'' kt xs hl
    split at hr
    ·exact⟨by simp[qs3,hl],_,(qbp hr).2⟩
    ·cases hr
   ·cases hr
  ·exact⟨by simp[qs3],_,hr⟩
  ·unfold Qkt at hr
   split at hr
   ·exact⟨by simp[qs3],_,hr⟩
   ·cases hr
  ·cases hr
 ·intro l ih x K hr
  simp only[qq2] at hr
  split at hr
  ·rename_i xs
   obtain⟨h1,us,h2⟩:=ih xs hr
   exact⟨by simpa[qs3] using h1,_,h2⟩
  ·cases hr
 ·intro l ih x K hr
  simp only[qq2] at hr
  split at hr
  ·rename_i xs
   obtain⟨h1,us,h2⟩:=ih xs hr
   exact⟨by simpa[qs3] using h1,_,h2⟩
  ·cases hr
 ·intro xs K hr
  cases xs with
  | nil=>exact⟨by simp[qv9],_,hr⟩
  | cons x xs=>simp[qn5] at hr
 ·intro s l ihs ihl xs K hr
  cases xs with
  | nil=>simp[qn5] at hr
  | cons x xs =>
   simp only[qn5] at hr
   obtain⟨h1,u,hr⟩:=ihs x hr
   obtain⟨h2,us,hr⟩:=ihl xs hr
   refine⟨?_,_,hr⟩
   intro nm hm
   simp only[qv9,List.mem_append] at hm
   exact hm.elim (h1 nm) (h2 nm)
theorem qpz (shut:Bool) {v:KV} (h:v.ok):qtm shut v=qqd shut v.pv:=by
 cases shut with
 | true=>rfl
 | false=>exact ktops_ok h
theorem Qg2 {R:Type} {r:R} (h:ks.Ok) {shut:Bool} {sh:RSh} {v:KV} (hv:v.ok) {K:PV→Option R} (hr:qsb ks shut sh v K=some r):∃ u rv obs,K u=some r∧qkj shut ks.st v.pv=some (rv,obs)∧qlw sh rv obs=some u:=by
 unfold qsb at hr
 simp only at hr
 split at hr
 case isFalse=>cases hr
 rename_i hc
 obtain⟨hS,hnd,hdis,hsh⟩:=hc
 have hσ:=qcj h
 obtain⟨harr,_⟩:=own_arr sh v hr
 rw[←hS] at harr
 have hlk:=qdp h
 obtain⟨obs,hm,hall,hlen,hget⟩:=mapM_look (σ:=qbo ks.st.objs) (S:=qtm shut v) fun nm hm=>by
  obtain⟨k,kt,xs,he⟩:=harr nm hm
  exact⟨.arr k kt xs,by rw[qjz h,he];rfl,rfl⟩
 have hnd':=Qbl.1 hnd
 obtain⟨u,hu,hconv⟩:=Qnf hσ hnd' (obs:=obs.map Ob.bare) (fun i nm hi=>by rw[List.getElem?_map,hget i nm hi,qjz h,Option.map_map];rfl) sh v hv hr [] [] (by rw[←hS];simp)
 refine⟨u,(v.pv.sub (subH (qc1 ks.objs) (qtm shut v))).ren (Qfj (qtm shut v)),obs.map Ob.bare,hu,?_,?_⟩
 ·have e:(fun nm=>if (qqd shut v.pv).contains nm=true then none else qci (qbo ks.st.objs) nm)=subH (qc1 ks.objs) (qtm shut v):=by
   funext nm
   unfold subH
   rw[qpz shut hv,hlk]
  rw[qgn hσ,←hlk] at hdis hsh
  rw[qp0 hσ,←hlk] at hsh
  rw[qpz shut hv,←KV.pv_names hv] at hdis hsh
  rw[qpz shut hv] at hnd hm
  unfold qkj
  simp only[hnd,hdis,Bool.and_self,if_true,hm,hsh,hall,chk,e,qpz shut hv]
 ·unfold qlw
  simp only[List.length_nil,Nat.zero_add] at hconv
  rw[hconv]
  simp[qbq,hlen,hS]
theorem Qle {nt:Nat} {args:List KV} (ha:qf6 args) (hu:∀ x∈args,qn6 x=false) (hl:args.length≤nt):({nt,tmps:=args.zipIdx.map fun p=>(p.2,p.1),objs:=[],keep:=[]}:KSt).Ok ∧
  ({nt,tmps:=args.zipIdx.map fun p=>(p.2,p.1),objs:=[],keep:=[]}:KSt).st={tmps:=pvL args++List.replicate (nt - (pvL args).length) .undef,objs:=List.replicate nt [],keep:=[]}:=by
 have hmem:∀ p∈args.zipIdx.map (fun p=>(p.2,p.1)),args[p.1]?=some p.2:=by
  intro p hp
  obtain⟨⟨x,i⟩,hq,rfl⟩:=List.mem_map.1 hp
  rw[List.mem_zipIdx_iff_getElem?] at hq
  exact hq
 have hw:qla nt (args.zipIdx.map fun p=>(p.2,p.1)):=by
  refine⟨?_,?_,?_,?_⟩
  ·rw[List.map_map]
   have:((fun p:Nat×KV=>p.1)∘fun p:KV×Nat=>(p.2,p.1))=Prod.snd:=rfl
   rw[this,List.zipIdx_map_snd]
   exact List.pairwise_lt_range'
  ·intro p hp
   have:=(List.getElem?_eq_some_iff.1 (hmem p hp)).1
   omega
  ·intro p hp;exact qct.1 ha _ (List.mem_of_getElem? (hmem p hp))
  ·intro p hp;exact hu _ (List.mem_of_getElem? (hmem p hp))
 refine⟨⟨hw,.nil nt,by simp⟩,?_⟩
 unfold KSt.st
 simp only[List.flatMap_nil]
 congr 1
 ·refine qk4 (by simp[qd5];omega) fun i hi=>?_
  by_cases hia:i < args.length
  ·rw[List.getElem?_append_left (by rw[qd5];exact hia),pvL_get?,List.getElem?_eq_getElem hia]
   have hp:(i,args[i])∈args.zipIdx.map (fun p=>(p.2,p.1)):=by
    refine List.mem_map.2 ⟨(args[i],i),?_,rfl⟩
    rw[List.mem_zipIdx_iff_getElem?]
    simp[hia]
   rw[show qcg (args.zipIdx.map fun p=>(p.2,p.1)) i=args[i] from hw.get_mem hp]
   rfl
  ·rw[List.getElem?_append_right (by rw[qd5];omega),List.getElem?_replicate,if_pos (by rw[qd5];omega)]
   rw[show qcg (args.zipIdx.map fun p=>(p.2,p.1)) i=.un from qw9 fun p hp=>by
    have:=(List.getElem?_eq_some_iff.1 (hmem p hp)).1
    omega]
   rfl
 ·refine qh9 (by simp) fun i hi=>?_
  rw[List.getElem?_replicate,if_pos hi]
  rfl
theorem qta (hc:qld cfg tab) {g:FuncId} {fn:RFn} (ht:tab g=some fn) {E:Type} {h:qbg E} {hn:Nat→qbg E} (hh:HOk h hn) {dep:Nat} {sh:RSh} {args:List KV} {e e':E} {u:PV}
  (ha:qf6 args) (hu:∀ x∈args,qn6 x=false) (hl:args.length≤fn.nt) (hr:qf8 cfg fn sh h dep args e=some (u,e')) :
  ∃ r obs,qlw sh r obs=some u∧Evl fun n=>qcp cfg.b.sp tab n E (hn n) dep g (pvL args) e=some (r,obs,e'):=by
 unfold qf8 at hr
 rw[qc2] at hr
 obtain⟨i1,i2⟩:=Qle ha hu hl
 have hh':HOk h fun n=>hn (n+1):=fun l args e r hq=>by
  obtain⟨a,hb⟩:=hh l args e r hq
  exact⟨a,fun n hn'=>hb (n+1) (by omega)⟩
 obtain⟨x,k1,e1,hr,hk1,hev⟩:=Qd1 hc fn.code hh' dep i1 hr
 rw[i2] at hev
 have fin:(qvp k1 fn.res fun vs=>qsb k1 fn.shut sh (qvr vs) fun v=>some (v,e1))=some (u,e')→(∀ id,x≠.exit id)→∃ r obs,qlw sh r obs=some u∧Evl fun n=>qcp cfg.b.sp tab n E (hn n) dep g (pvL args) e=some (r,obs,e'):=by
  intro hr hx
  obtain⟨vs,hr,hvs,h1⟩:=Qgy hk1 fn.res hr
  obtain⟨o1,o2⟩:=Qg0 hvs
  obtain⟨u',rv,obs,hr,h2,h3⟩:=Qg2 hk1 o1 hr
  cases hr
  refine⟨rv,obs,h3,hev.shift.mono ?_⟩
  rintro k ⟨j,rfl,hj⟩
  show qpm (qlc cfg.b.sp tab j) j tab E (hn (j+1)) dep g (pvL args) e=_
  simp only[qpm,ht]
  simp only[qj3] at hj
  rw[hj]
  cases x with
  | exit id=>exact absurd rfl (hx id)
  | normal=>simp only[h1];rw[←o2,h2]
  | ret=>simp only[h1];rw[←o2,h2]
 cases x with
 | exit id=>cases hr
 | normal=>exact fin hr (by simp)
 | ret=>exact fin hr (by simp)
end Go.Ab


namespace Go.Ab
section
variable {cfg:qzo} {tab:FuncId→Option RFn}
theorem Qcd:∀ (vs:List PV),pvL (vs.map KV.cv)=vs
 | []=>rfl
 | v :: vs=>by simp[pvL,KV.pv,Qcd vs]
theorem Qh9 {vs:List PV} (h:qb3 vs=true):qf6 (vs.map KV.cv):=qct.2 fun x hx=>by
 obtain⟨v,hv,rfl⟩:=List.mem_map.1 hx
 exact qd2.1 h v hv
theorem Qh8 {vs:List PV}:∀ x∈vs.map KV.cv,qn6 x=false:=fun x hx=>by
 obtain⟨v,_,rfl⟩:=List.mem_map.1 hx
 rfl
theorem noH:HOk qbc (fun _=>qbc):=fun _ _ _ _ h=>by cases h
theorem qzg (hc:qld cfg tab) {g:FuncId} {fn:RFn} (ht:tab g=some fn) {sh:RSh} {cap args:List PV} {u:PV} (ha:qb3 (args++cap)=true) (hl:(args++cap).length≤fn.nt)
  (hsp:cfg.b.sp g (fun _=>none) (args++cap)=none) (hr:qf8 cfg fn sh qbc 0 ((args++cap).map KV.cv) ()=some (u,())) (hio:fn.io=false:=by rfl) (hb:Nat.blt g qf7=true:=by rfl):qbj cfg.b sh (.fn g cap) args=some u:=by
 have hid:qfh g=g:=by simp[qfh,hb]
 have hfa:qcc g args cap=args++cap:=by simp[qcc,hb]
 obtain⟨r,obs,h1,h2⟩:=qta hc ht (hn:=fun _=>qbc) noH (Qh9 ha) Qh8 (by simpa using hl) hr
 rw[Qcd] at h2
 have hL:cfg.b.L Unit qbc 0 g (args++cap) ()=some (r,obs,()):=by rw[hc.L];exact qvo h2
 have hfl:cfg.b.isIo g=false:=by rw[hc.isIo];unfold qjp;rw[ht];exact hio
 unfold qbj
 simp only[hid,hfa,spO,hsp,hL,hfl,Bool.false_eq_true,if_false]
 exact h1
theorem Qji (hc:qld cfg tab) {g:FuncId} {fn:RFn} (ht:tab g=some fn) {sh:RSh} {args:List PV} {xs:List KV} {u:PV} (hx:qf6 xs) (hun:∀ x∈xs,qn6 x=false) (hpv:pvL xs=args) (hl:xs.length≤fn.nt)
  (hsp:cfg.b.sp g (fun _=>none) args=none) (hr:qf8 cfg fn sh qbc 0 xs ()=some (u,())) (hio:fn.io=false:=by rfl) (hb:Nat.blt g qf7=true:=by rfl):qbj cfg.b sh (.fn g []) args=some u:=by
 have hid:qfh g=g:=by simp[qfh,hb]
 have hfa:qcc g args []=args:=by simp[qcc,hb]
 obtain⟨r,obs,h1,h2⟩:=qta hc ht (hn:=fun _=>qbc) noH hx hun hl hr
 rw[hpv] at h2
 have hL:cfg.b.L Unit qbc 0 g args ()=some (r,obs,()):=by rw[hc.L];exact qvo h2
 have hfl:cfg.b.isIo g=false:=by rw[hc.isIo];unfold qjp;rw[ht];exact hio
 unfold qbj
 simp only[hid,hfa,spO,hsp,hL,hfl,Bool.false_eq_true,if_false]
 exact h1
theorem Qch (hc:qld cfg tab) {g:FuncId} {cap args:List PV} {u:PV} (hsp:cfg.b.sp g (fun _=>none) (args++cap)=some {v:=u}) (hu:okV u=true) (hb:Nat.blt g qf7=true:=by rfl):qbj cfg.b .cl (.fn g cap) args=some u:=by
 have hid:qfh g=g:=by simp[qfh,hb]
 have hfa:qcc g args cap=args++cap:=by simp[qcc,hb]
 unfold qbj
 simp[hid,hfa,spO,hsp,hu,qbq,qlw,qht]
theorem qlg (hc:qld cfg tab) {g:FuncId} {fn:RFn} (ht:tab g=some fn) {E:Type} {h:qbg E} {dep:Nat} {cap:List PV} {u:PV} {e e':E} (ha:qb3 cap=true) (hl:cap.length+1≤fn.nt)
  (hr:qf8 cfg fn .cl h (dep+1) (.yld dep :: cap.map KV.cv) e=some (u,e')) (hb:Nat.blt g qf7=true:=by rfl):qgd cfg.b h dep (.fn g cap) e=some e':=by
 have hid:qfh g=g:=by simp[qfh,hb]
 have hfa:qcc g [.yld dep] cap=.yld dep :: cap:=by simp[qcc,hb]
 obtain⟨r,obs,h1,h2⟩:=qta hc ht (hn:=fun _=>h) (fun l args e r hq=>.of fun _=>hq) (dep:=dep+1) (args:=.yld dep :: cap.map KV.cv) ⟨trivial,Qh9 ha⟩ (fun x hx=>by
  rcases List.mem_cons.1 hx with rfl | hx
  ·rfl
  ·exact Qh8 x hx) (by simpa using hl) hr
 have e1:pvL (.yld dep :: cap.map KV.cv)=.yld dep :: cap:=by simp[pvL,KV.pv,Qcd]
 rw[e1] at h2
 have hL:cfg.b.L E h (dep+1) g (.yld dep :: cap) e=some (r,obs,e'):=by rw[hc.L];exact qvo h2
 unfold qgd
 simp only[hid,hfa,hL]
theorem conv_cl {r u:PV} {obs:List Ob} (h:qlw .cl r obs=some u):r=u∧obs=[]∧okV u=true:=by
 unfold qlw at h
 simp only[qht] at h
 split at h
 ·rename_i r' j hr
  obtain⟨h1,h2⟩:=qbp hr
  cases h2
  obtain⟨h3,h4⟩:=qbp h
  cases h4
  simp only[beq_iff_eq] at h3
  exact⟨rfl,List.length_eq_zero_iff.1 h3.symm,h1⟩
 ·cases h
theorem qx0 (hc:qld cfg tab) {g:FuncId} {fn:RFn} (ht:tab g=some fn) {fr:Bool} {args:List PV} {u:PV} (ha:qb3 args=true) (hl:args.length≤fn.nt)
  (hr:qf8 cfg fn .cl qbc 0 (args.map KV.cv) ()=some (u,())) (hfr:(u.free&&!qgr tab g)=fr):qft cfg.b .cl fr g args=some u:=by
 obtain⟨r,obs,h1,h2⟩:=qta hc ht (hn:=fun _=>qbc) noH (Qh9 ha) Qh8 (by simpa using hl) hr
 rw[Qcd] at h2
 obtain⟨e1,e2,_⟩:=conv_cl h1
 subst e1;subst e2
 have hL:cfg.b.L Unit qbc 0 g args ()=some (r,[],()):=by rw[hc.L];exact qvo h2
 unfold qft
 rw[(qb4 ha).2]
 simp only[Bool.false_eq_true,if_false,hL,List.all_nil,Bool.and_true,hc.leans,hfr,beq_self_eq_true,qbq]
 exact h1
theorem law_of_run (hc:qld cfg tab) {g:FuncId} {fn:RFn} (ht:tab g=some fn) {args:List PV} {b:Bool} (ha:qb3 args=true) (hl:args.length≤fn.nt)
  (hr:qf8 cfg fn .cl qbc 0 (args.map KV.cv) ()=some (.bool b,())):∃ n,qcp cfg.b.sp tab n Unit qbc 0 g args ()=some (.bool b,[],()):=by
 obtain⟨r,obs,h1,m,hm⟩:=qta hc ht (hn:=fun _=>qbc) noH (Qh9 ha) Qh8 (by simpa using hl) hr
 rw[Qcd] at hm
 obtain⟨e1,e2,_⟩:=conv_cl h1
 subst e1;subst e2
 exact⟨m,hm m (Nat.le_refl _)⟩
end
theorem Qm5 {σ ρ:Type} {step:σ→Option (Sum σ ρ)} {s0:σ} {r:ρ} (inv:Nat→σ) (N:Nat) (h0:s0=inv 0) (hs:∀ i,i < N→step (inv i)=some (.inl (inv (i+1)))) (he:step (inv N)=some (.inr r)):qf0 step s0=some r:=by
 have key:∀ m i,i+m=N→qf0 step (inv i)=some r:=by
  intro m
  induction m with
  | zero=>intro i hi;obtain rfl:i=N:=(by omega);exact qch he
  | succ m ih=>intro i hi;rw[qdg (hs i (by omega))];exact ih (i+1) (by omega)
 rw[h0];exact key N 0 (by omega)
def qc8 {E:Type} (h:qbg E) (d:Nat):List (List PV)→E→Option E
 | [],e=>some e
 | a :: l,e=>match h d a e with
  | some (true,e)=>qc8 h d l e
  | some (false,e)=>some e
  | none=>none
@[simp] theorem qbe {α β:Type} (a:α) (f:α→Option β):qba (some a) f=f a:=rfl
@[simp] theorem bindO_none' {α β:Type} (f:α→Option β):qba none f=none:=rfl
@[simp] theorem qbk {β:Type} (a:Option β):qbq true a=a:=rfl
@[simp] theorem chkO_false {β:Type} (a:Option β):qbq false a=none:=rfl
@[simp] theorem qbh {β:Type} (b:Bool) (x y:Option β):qca (.bool b) x y=if b=true then x else y:=by cases b<;>rfl
@[simp] theorem iteB_bool {β:Type} (b:Bool) (x y:Option β):qrk b x y=if b=true then x else y:=by cases b<;>rfl
theorem qkz {β:Type} (x y:Option β):qca (.bool true) x y=x:=rfl
theorem qkp {β:Type} (x y:Option β):qca (.bool false) x y=y:=rfl
section pure
variable {c:TC} {cst:Bool} {k:IntKind}
@[simp] theorem qr0 (a b:Int):qbb (.bin .add c cst (.c (.int k a)) (.c (.int k b)))=some (.int k (k.wrap (a+b))):=by simp[qbb,exec,RX.ev,qly,chk,qkb]
@[simp] theorem pure_sub (a b:Int):qbb (.bin .sub c cst (.c (.int k a)) (.c (.int k b)))=some (.int k (k.wrap (a - b))):=by simp[qbb,exec,RX.ev,qly,chk,qkb]
@[simp] theorem qwg (a b:Int):qbb (.bin .mul c cst (.c (.int k a)) (.c (.int k b)))=some (.int k (k.wrap (a*b))):=by simp[qbb,exec,RX.ev,qly,chk,qkb]
theorem pure_quo (a b:Int) (hb:b≠0):qbb (.bin .quo c cst (.c (.int k a)) (.c (.int k b)))=some (.int k (k.wrap (a.tdiv b))):=by simp[qbb,exec,RX.ev,qly,chk,qkb,hb]
theorem Qcw (a b:Int) (hb:b≠0):qbb (.bin .rem c cst (.c (.int k a)) (.c (.int k b)))=some (.int k (a.tmod b)):=by simp[qbb,exec,RX.ev,qly,chk,qkb,hb]
@[simp] theorem Qmu (a b:Int):qbb (.bin .eql c cst (.c (.int k a)) (.c (.int k b)))=some (.bool (a==b)):=by simp[qbb,exec,RX.ev,qly,chk,qkb,qv3]
@[simp] theorem pure_neq (a b:Int):qbb (.bin .neq c cst (.c (.int k a)) (.c (.int k b)))=some (.bool (a != b)):=by simp[qbb,exec,RX.ev,qly,chk,qkb,qv3]
@[simp] theorem pure_lss (a b:Int):qbb (.bin .lss c cst (.c (.int k a)) (.c (.int k b)))=some (.bool (decide (a < b))):=by simp[qbb,exec,RX.ev,qly,chk,qkb,qv3]
@[simp] theorem Qmt (a b:Int):qbb (.bin .leq c cst (.c (.int k a)) (.c (.int k b)))=some (.bool (decide (a≤b))):=by simp[qbb,exec,RX.ev,qly,chk,qkb,qv3]
@[simp] theorem pure_gtr (a b:Int):qbb (.bin .gtr c cst (.c (.int k a)) (.c (.int k b)))=some (.bool (decide (b < a))):=by simp[qbb,exec,RX.ev,qly,chk,qkb,qv3]
@[simp] theorem pure_geq (a b:Int):qbb (.bin .geq c cst (.c (.int k a)) (.c (.int k b)))=some (.bool (decide (b≤a))):=by simp[qbb,exec,RX.ev,qly,chk,qkb,qv3]
@[simp] theorem qwh (a b:List UInt8):qbb (.bin .eql c cst (.c (.str a)) (.c (.str b)))=some (.bool (a==b)):=by simp[qbb,exec,RX.ev,qly,qzi]
@[simp] theorem pure_nes (a b:List UInt8):qbb (.bin .neq c cst (.c (.str a)) (.c (.str b)))=some (.bool (!(a==b))):=by simp[qbb,exec,RX.ev,qly,qzi]
@[simp] theorem qrz (a b:Bool):qbb (.bin .eql .bool cst (.c (.bool a)) (.c (.bool b)))=some (.bool (a==b)):=by simp[qbb,exec,RX.ev,qly,Qh0]
@[simp] theorem qm2 (a b:Bool):qbb (.bin .neq .bool cst (.c (.bool a)) (.c (.bool b)))=some (.bool (!(a==b))):=by simp[qbb,exec,RX.ev,qly,Qh0]
@[simp] theorem qdl (b:Bool):qbb (.un .not (.c (.bool b)))=some (.bool (!b)):=rfl
@[simp] theorem pure_neg (n:Int):qbb (.un .neg (.c (.int k n)))=some (.int k (k.wrap (0 - n))):=rfl
@[simp] theorem pure_conv {k':IntKind} (n:Int):qbb (.conv k (.c (.int k' n)))=some (.int k (k.wrap n)):=rfl
@[simp] theorem pure_lens (s:List UInt8):qbb (.len .str (.c (.str s)))=some (.int .i64 (s.length:Int)):=rfl
@[simp] theorem qgk {j:Nat} (xs:List PV) (f:Bool):qbb (.len .slice (.c (.sl j xs f)))=some (.int .i64 (xs.length:Int)):=rfl
@[simp] theorem pure_lenn:qbb (.len .slice (.c .nilS))=some (.int .i64 0):=rfl
@[simp] theorem qgz (j:Nat) (xs:List PV):qbb (.extract j (.c (.tup xs)))=xs[j]?:=by
 simp only[qbb,exec,RX.ev];cases xs[j]?<;>rfl
@[simp] theorem qrx {n o:Nat} {ag:Bool} (cs:List PV):qbb (.load n ag (.c (.ptr cs o)))=sel cs o n ag:=by
 simp only[qbb,exec,RX.ev];cases sel cs o n ag<;>rfl
@[simp] theorem pure_field {n o:Nat} {ag:Bool} (cs:List PV):qbb (.field o n ag (.c (.agg cs)))=sel cs o n ag:=by
 simp only[qbb,exec,RX.ev];cases sel cs o n ag<;>rfl
@[simp] theorem pure_nilck (cs:List PV) (o:Nat):qbb (.nilck (.c (.ptr cs o)))=some (.ptr cs o):=rfl
@[simp] theorem pure_nilckf (f:Nat) (cs:List PV):qbb (.nilck (.c (.fn f cs)))=some (.fn f cs):=rfl
@[simp] theorem pure_faddr {off o:Nat} (cs:List PV):qbb (.fieldAddr off (.c (.ptr cs o)))=if o+off < cs.length then some (.ptr cs (o+off)) else none:=by
 by_cases hq:o+off < cs.length<;>simp[qbb,exec,RX.ev,chk,hq]
theorem qry {xs:List PV} {j n:Nat} {f:Bool} {v:PV} (hn:0 < n) (h:xs[j]?=some v):qbb (.idxAddr n (.c (.sl n xs f)) (.c (.int k (j:Int))))=some (.ptr v.cells 0):=by
 simp[qbb,exec,RX.ev,qnk,h,chk,hn]
end pure
@[simp] theorem qxe (v:PV):sel [v] 0 1 false=some v:=rfl
@[simp] theorem cells_int (k:IntKind) (n:Int):(PV.int k n).cells=[.int k n]:=rfl
@[simp] theorem Qje (s:List UInt8):(PV.str s).cells=[.str s]:=rfl
@[simp] theorem cells_bool (b:Bool):(PV.bool b).cells=[.bool b]:=rfl
@[simp] theorem qcv (cs:List PV):(PV.agg cs).cells=cs:=rfl
@[simp] theorem Ql4 (a b:Nat):qdu a b=a+b:=rfl
@[simp] theorem subN_eq (a b:Nat):subN a b=a - b:=rfl
@[simp] theorem minN_eq (a b:Nat):minN a b=min a b:=rfl
@[simp] theorem lenL_eq (l:List PV):qbu l=l.length:=rfl
@[simp] theorem Qmh (n:Nat) (l:List PV):qb1 n l=l.take n:=rfl
@[simp] theorem Qn2 (n:Nat) (l:List PV):qcx n l=l.drop n:=rfl
@[simp] theorem catL_eq (l m:List PV):qpk l m=l++m:=rfl
@[simp] theorem replL_eq (n:Nat) (v:PV):replL n v=List.replicate n v:=rfl
@[simp] theorem qdz (k:Nat) (xs:List PV) (f:Bool):qbl (.sl k xs f)=xs:=rfl
@[simp] theorem qfl (k:IntKind) (n:Int):qbz (.int k n)=n.toNat:=rfl
@[simp] theorem qp9 (n:Nat):nI n=.int .i64 (n:Int):=rfl
@[simp] theorem Qd8 (a b:Bool):qnj a b=(a&&b):=rfl
@[simp] theorem Qna (a b:Nat):leN a b=decide (a≤b):=by
 rw[Bool.eq_iff_iff,qx2,decide_eq_true_iff]
@[simp] theorem ltN_eq (a b:Nat):ltN a b=decide (a < b):=by
 rw[Bool.eq_iff_iff,qtk,decide_eq_true_iff]
@[simp] theorem eqN_eq (a b:Nat):eqN a b=decide (a=b):=by
 rw[Bool.eq_iff_iff,qy7,decide_eq_true_iff]
@[simp] theorem qdw (x:PV) (l:List PV):nth (x :: l) 0=x:=rfl
@[simp] theorem qdv (a x:PV) (l:List PV):nth (a :: x :: l) 1=x:=rfl
@[simp] theorem qd4 (a b x:PV) (l:List PV):nth (a :: b :: x :: l) 2=x:=rfl
@[simp] theorem qfz (a b c x:PV) (l:List PV):nth (a :: b :: c :: x :: l) 3=x:=rfl
@[simp] theorem qke (a b c d x:PV) (l:List PV):nth (a :: b :: c :: d :: x :: l) 4=x:=rfl
@[simp] theorem qqy (a b c d e x:PV) (l:List PV):nth (a :: b :: c :: d :: e :: x :: l) 5=x:=rfl
@[simp] theorem qr3 (a b c d e f x:PV) (l:List PV):nth (a :: b :: c :: d :: e :: f :: x :: l) 6=x:=rfl
@[simp] theorem qth (a b c d e f g x:PV) (l:List PV):nth (a :: b :: c :: d :: e :: f :: g :: x :: l) 7=x:=rfl
@[simp] theorem Qkr (a b c d e f g h x:PV) (l:List PV):nth (a :: b :: c :: d :: e :: f :: g :: h :: x :: l) 8=x:=rfl
@[simp] theorem qga (v:PV) (o n:Nat) (ag:Bool):qb2 v o n ag=sel v.cells o n ag:=rfl
@[simp] theorem natO_int (k:IntKind) (n:Nat):natO (.int k (n:Int))=some n:=by simp[natO,qnk]
end Go.Ab


namespace Go.Ab
section
variable {cfg:qzo} {tab:FuncId→Option RFn}
theorem kisUn_eq {x:KV} (h:kisUn x=false):qn6 x=false:=by cases x<;>first | rfl | cases h
theorem evalDK_ok (hc:qld cfg tab) {nt:Nat}:∀ (c:qc6) {R:Type} {ks:KSt} {K:Ex→KSt→List Nat→Option R} {r:R},ks.Ok→qka cfg nt c ks K=some r →
  ∃ x k' l,K x k' l=some r∧k'.Ok∧Evl fun n=>qcn (qj3 cfg.b.sp tab n) n nt c ks.st=some (x,k'.st,l):=by
 intro c
 induction c with
 | dreg ops f args lv =>
  intro R ks K r hk hr
  simp only[qka] at hr
  rw[qc2] at hr
  obtain⟨c1,c2,_⟩:=qma hk (qre ops)
  obtain⟨k1,e1,hr,hk1,h1⟩:=Qdf (hn:=fun _=>qbc) (dep:=0) hc noH ops c2 hr
  split at hr
  case isFalse=>cases hr
  rename_i hcd
  obtain⟨a1,a2,a3,a4⟩:=hcd
  rw[qc2] at hr
  simp only[Bool.and_eq_true] at a2
  have hle:args.length+1≤nt:=Nat.le_of_ble_eq_true a2.1
  have hnt:k1.nt=nt:=Nat.eq_of_beq_eq_true a2.2
  have hxf:okX f=true:=List.all_eq_true.1 a3 f (by simp)
  have hxa:args.all okX=true:=List.all_eq_true.2 fun x hm=>List.all_eq_true.1 a3 x (by simp[hm])
  have hfo:=kv_ok hk1 hxf
  have hao:=qxy hk1 hxa
  have hfe:=qs7 hk1 f
  have hae:args.map (RX.ev k1.st.tmps)=pvL (args.map (RX.kv k1.tmps)):=qn1 hk1 args
  generalize hxs:f.kv k1.tmps :: args.map (RX.kv k1.tmps)=xs at hr a4
  have hlen:xs.length=args.length+1:=by rw[←hxs];simp
  have hok:qf6 xs:=by rw[←hxs];exact⟨hfo,hao⟩
  have hpv:pvL xs=f.ev k1.st.tmps :: args.map (RX.ev k1.st.tmps):=by rw[←hxs,hfe,hae];rfl
  obtain⟨i1,i2⟩:=Qle (nt:=nt) hok (fun x hx=>kisUn_eq (by
   rw[List.any_eq_false] at a4
   simpa using a4 x hx)) (by omega)
  have e1:qdk nt (xs.zipIdx.map fun p=>(p.2,p.1))=pvL xs++List.replicate (nt - (pvL xs).length) .undef:=congrArg St.tmps i2
  have hk2:({k1 with keep:=(xs.zipIdx.map fun p=>(p.2,p.1)) :: k1.keep}:KSt).Ok:=⟨hk1.tm,hk1.ob,fun sp hsp=>by
   rcases List.mem_cons.1 hsp with rfl | hsp
   ·rw[hnt];exact i1.tm
   ·exact hk1.kp sp hsp⟩
  have hst2:({k1 with keep:=(xs.zipIdx.map fun p=>(p.2,p.1)) :: k1.keep}:KSt).st=pushD nt (f.ev k1.st.tmps :: args.map (RX.ev k1.st.tmps)) k1.st:=by
   rw[←hpv]
   unfold pushD KSt.st
   simp only[List.flatMap_cons]
   rw[hnt,e1]
  obtain⟨t1,t2⟩:=qwo hk2 lv
  have hfn:isFn (f.ev k1.st.tmps)=true:=by
   rw[hfe]
   cases hq:f.kv k1.tmps with
   | fn g cap=>rfl
   | _=>rw[hq] at a1;cases a1
  refine⟨_,_,_,hr,t2,h1.mono fun n hn'=>?_⟩
  rw[c1] at hn'
  simp only[qcn,hn',t1,hst2,chk,hfn,Bool.and_true,decide_eq_true_eq,if_pos hle]
 | seq a b iha ihb =>
  intro R ks K r hk hr
  simp only[qka] at hr
  obtain⟨x,k1,l,hr,hk1,h1⟩:=iha hk hr
  cases x with
  | normal =>
   obtain⟨x2,k2,l2,hr,hk2,h2⟩:=ihb hk1 hr
   exact⟨_,_,_,hr,hk2,h1.mono2 h2 fun n a b=>by simp only[qcn,a,b]⟩
  | exit id=>exact⟨_,_,_,hr,hk1,h1.mono fun n a=>by simp only[qcn,a]⟩
  | ret=>exact⟨_,_,_,hr,hk1,h1.mono fun n a=>by simp only[qcn,a]⟩
 | cond c a b iha ihb =>
  intro R ks K r hk hr
  simp only[qka] at hr
  have hev:=qs7 hk c
  split at hr
  ·rename_i hv
   obtain⟨x,k1,e1,hr,hk1,h1⟩:=iha hk hr
   exact⟨_,_,_,hr,hk1,h1.mono fun n a=>by simp only[qcn,hev,hv,KV.pv,a]⟩
  ·rename_i hv
   obtain⟨x,k1,e1,hr,hk1,h1⟩:=ihb hk hr
   exact⟨_,_,_,hr,hk1,h1.mono fun n a=>by simp only[qcn,hev,hv,KV.pv,a]⟩
  ·rename_i v hv
   rcases qsd hr with ⟨rfl,hr⟩ | ⟨rfl,hr⟩
   ·obtain⟨x,k1,e1,hr,hk1,h1⟩:=iha hk hr
    exact⟨_,_,_,hr,hk1,h1.mono fun n a=>by simp only[qcn,hev,hv,KV.pv,a]⟩
   ·obtain⟨x,k1,e1,hr,hk1,h1⟩:=ihb hk hr
    exact⟨_,_,_,hr,hk1,h1.mono fun n a=>by simp only[qcn,hev,hv,KV.pv,a]⟩
  ·cases hr
 | block id b ih =>
  intro R ks K r hk hr
  simp only[qka] at hr
  obtain⟨x,k1,l,hr,hk1,h1⟩:=ih hk hr
  cases x with
  | normal=>exact⟨_,_,_,hr,hk1,h1.mono fun n a=>by simp only[qcn,a]⟩
  | ret=>exact⟨_,_,_,hr,hk1,h1.mono fun n a=>by simp only[qcn,a]⟩
  | exit id' =>
   simp only at hr
   split at hr
   ·rename_i hid;exact⟨_,_,_,hr,hk1,h1.mono fun n a=>by simp only[qcn,a,hid,if_true]⟩
   ·rename_i hid;exact⟨_,_,_,hr,hk1,h1.mono fun n a=>by simp only[qcn,a,hid,if_false]⟩
 | scope b ih =>
  intro R ks K r hk hr
  simp only[qka] at hr
  split at hr
  ·cases hr
  rename_i hlb
  obtain⟨x,k1,l,hr,hk1,h1⟩:=ih hk hr
  cases x with
  | normal=>exact⟨_,_,_,hr,hk1,h1.mono fun n a=>by simp only[qcn,a,hlb,if_false,Bool.false_eq_true]⟩
  | ret=>exact⟨_,_,_,hr,hk1,h1.mono fun n a=>by simp only[qcn,a,hlb,if_false,Bool.false_eq_true]⟩
  | exit id' =>
   simp only at hr
   split at hr
   ·rename_i hid;exact⟨_,_,_,hr,hk1,h1.mono fun n a=>by simp only[qcn,a,hlb,hid,if_true,if_false,Bool.false_eq_true]⟩
   ·cases hr
 | _ =>
  intro R ks K r hk hr
  simp only[qka] at hr
  obtain⟨x,k1,e1,hr,hk1,h1⟩:=Qd1 hc _ (h:=qbc) (hn:=fun _=>qbc) noH 0 hk hr
  exact⟨_,_,_,hr,hk1,h1.mono fun n a=>by simp only[qcn,a,qq1]⟩
theorem dfrsK_ok (hc:qld cfg tab) {nt:Nat} {R:Type}:∀ (l:List Nat) {ks:KSt} {K:KSt→Option R} {r:R},ks.Ok→dfrsK cfg nt l ks K=some r →
  ∃ k',K k'=some r∧k'.Ok∧Evl fun n=>Qn4 (qj3 cfg.b.sp tab n) nt l ks.st=some k'.st:=by
 intro l
 induction l with
 | nil=>intro ks K r hk hr;exact⟨ks,hr,hk,.of fun n=>rfl⟩
 | cons n l ih =>
  intro ks K r hk hr
  simp only[dfrsK] at hr
  split at hr
  ·cases hr
  rename_i sp kp hkeep
  split at hr
  case h_2=>cases hr
  rename_i f caps hget
  split at hr
  case h_2=>cases hr
  rename_i P hP
  split at hr
  case isFalse=>cases hr
  rename_i hcd
  obtain⟨b1,b2,b3⟩:=hcd
  simp only[Bool.and_eq_true] at b2
  have hle:n+1≤nt:=Nat.le_of_ble_eq_true b2.1
  have hnt:ks.nt=nt:=Nat.eq_of_beq_eq_true b2.2
  have hsp:qla nt sp:=by rw[←hnt];exact hk.kp sp (by rw[hkeep];exact List.mem_cons_self)
  have hcaps:qf6 caps:=by
   have:=hsp.get_ok 0
   rw[hget] at this
   exact this
  have hargs:qf6 ((List.range n).map fun j=>qcg sp (j+1)):=qct.2 fun x hx=>by
   obtain⟨j,_,rfl⟩:=List.mem_map.1 hx
   exact hsp.get_ok _
  obtain⟨out,hr,ho,hspf,hev⟩:=Qbx hc hk b3 (Qbv (f:=f) hargs hcaps) hP hr
  split at hr
  case isFalse=>cases hr
  rename_i hnew
  rw[qc2] at hr
  have hk2:({ks with keep:=kp}:KSt).Ok:=⟨hk.tm,hk.ob,fun sp' h=>hk.kp sp' (by rw[hkeep];exact List.mem_cons_of_mem _ h)⟩
  obtain⟨s1,s2⟩:=qq3 (ks:={ks with keep:=kp}) hk2 (by show (_||qjm ks.objs)=true;rw[b3];simp) none ho
  obtain⟨k',hr,hk',h2⟩:=ih s2 hr
  have hkp:ks.st.keep=qdk nt sp++kp.flatMap (qdk nt):=by
   show ks.keep.flatMap (qdk ks.nt)=_
   rw[hkeep,hnt];rfl
  have hget0:ks.st.keep.getD 0 .undef=.fn f (pvL caps):=by
   have:(qdk nt sp)[0]?=some (KV.fn f caps).pv:=by rw[dense_get?,if_pos (by omega),hget]
   rw[hkp,List.getD_eq_getElem?_getD,List.getElem?_append_left (by rw[qb5];omega),this]
   rfl
  have htake:(ks.st.keep.drop 1).take n=pvL ((List.range n).map fun j=>qcg sp (j+1)):=by
   rw[hkp,qfq,List.map_map]
   apply List.ext_getElem?
   intro j
   rw[List.getElem?_take,List.getElem?_drop,List.getElem?_map]
   by_cases hj:j < n
   ·rw[if_pos hj,List.getElem?_append_left (by rw[qb5];omega),dense_get?,if_pos (by omega),List.getElem?_range hj]
    simp[Nat.add_comm]
   ·rw[if_neg hj,List.getElem?_eq_none (by simp;omega)]
    rfl
  have hdrop:({ks with keep:=kp}:KSt).st={ks.st with keep:=ks.st.keep.drop nt}:=by
   rw[hkp,List.drop_left' (qb5 nt sp)]
   unfold KSt.st
   simp only[hnt]
  have hvs:qcc f ((ks.st.keep.drop 1).take n) (pvL caps)=pvL (qlt f ((List.range n).map fun j=>qcg sp (j+1)) caps):=by rw[htake,Qbu]
  have hflag:qjp tab (qfh f)=true:=by rw[←hc.ioF,hP];rfl
  have hflat:qlk tab (qfh f)=true:=hc.flat _ b1
  have hnew':(out.out.new.isEmpty||out.out.slot.isSome)=true:=by
   simp only[qb8.out]
   have:(out.new.map KOb.ob).isEmpty=out.new.isEmpty:=by cases out.new<;>rfl
   rw[this];exact hnew
  rw[s1,hdrop] at h2
  refine⟨k',hr,hk',hev.mono2 h2 fun m a b=>?_⟩
  simp only[Qn4,hget0,hvs,qlh,qpw,machN_flat,hc.spF _ hspf,hflag,hflat,Bool.and_true,if_true,a,chk,hnew',b]
end
end Go.Ab

