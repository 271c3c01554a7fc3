/-
  Part 4 of a proof: a machine of our own for the given program, its laws, and what it says of the program. Nothing here is a claim by itself.
-/
import Derived.Test.YtgoedlagdbgcbaaGreatDoorK03
import Derived.Test.YtgoedlagdbgcbaaGreatDoorK01
set_option linter.all false

namespace Go.Ab
theorem qcx {i j:Nat} (h:Nat.beq i j=true):i=j:=Nat.eq_of_beq_eq_true h
theorem qf8 {i j:Nat} (h:Nat.beq i j=false):i≠j:=Nat.ne_of_beq_eq_false h
theorem qyc (i:Nat) (v:KV):∀ (l:Sp) (j:Nat),qcm (qj9 i v l) j=if j=i then v else qcm l j:=by
 intro l
 induction l with
 | nil =>
  intro j
  simp only [qj9,qcm]
  cases h:Nat.beq j i with
  | true=>simp [qcx h]
  | false=>simp [qf8 h]
 | cons p l ih =>
  obtain ⟨k,u⟩:=p
  intro j
  simp only [qj9]
  cases h:Nat.beq i k with
  | true =>
   have:=qcx h;subst this
   simp only [qcm]
   cases h2:Nat.beq j i with
   | true=>simp [qcx h2]
   | false=>simp [qf8 h2]
  | false =>
   cases h3:Nat.blt i k with
   | true =>
    simp only [qcm]
    cases h2:Nat.beq j i with
    | true=>simp [qcx h2]
    | false=>simp [qf8 h2]
   | false =>
    simp only [qcm]
    cases h2:Nat.beq j k with
    | true =>
     have h4:=qcx h2;have h5:=qf8 h
     subst h4
     simp [Ne.symm h5]
    | false=>exact ih j
theorem spGet_out (i:Nat):∀ (l:Sp) (j:Nat),qcm (Qh2 i l) j=if j=i then .un else qcm l j:=by
 intro l
 induction l with
 | nil=>intro j;simp [Qh2,qcm]
 | cons p l ih =>
  obtain ⟨k,u⟩:=p
  intro j
  simp only [Qh2]
  cases h:Nat.beq i k with
  | true =>
   have:=qcx h;subst this
   simp only [qcm]
   rw [ih j]
   cases h2:Nat.beq j i with
   | true=>simp [qcx h2]
   | false=>simp [qf8 h2]
  | false =>
   simp only [qcm]
   cases h2:Nat.beq j k with
   | true =>
    have h4:=qcx h2;have h5:=qf8 h
    subst h4
    simp [Ne.symm h5]
   | false=>exact ih j
theorem spGet_set (i:Nat) (v:KV) (l:Sp) (j:Nat):qcm (spSet i v l) j=if j=i then v else qcm l j:=by
 unfold spSet
 split
 ·exact spGet_out i l j
 ·exact qyc i v l j
theorem spGet_keep (p:Nat→Bool):∀ (l:Sp) (j:Nat),qcm (qll p l) j=if p j=true then qcm l j else .un:=by
 intro l
 induction l with
 | nil=>intro j;simp [qll,qcm]
 | cons q l ih =>
  obtain ⟨k,u⟩:=q
  intro j
  simp only [qll]
  cases hp:p k with
  | true =>
   simp only [qcm]
   cases h2:Nat.beq j k with
   | true=>have:=qcx h2;subst this;simp [hp]
   | false=>exact ih j
  | false =>
   simp only [qcm]
   rw [ih j]
   cases h2:Nat.beq j k with
   | true=>have:=qcx h2;subst this;simp [hp]
   | false=>rfl
def qsi:KV→Bool
 | .un=>true
 | _=>false
structure ql4 (nt:Nat) (l:Sp):Prop where
 srt:(l.map (·.1)).Pairwise (· < ·)
 lt:∀ p∈l,p.1 < nt
 ok:∀ p∈l,p.2.ok
 nu:∀ p∈l,qsi p.2=false
theorem ql4.nil (nt:Nat):ql4 nt []:=⟨.nil,by simp,by simp,by simp⟩
theorem ql4.tail {nt:Nat} {p:Nat×KV} {l:Sp} (h:ql4 nt (p :: l)):ql4 nt l :=
 ⟨(List.pairwise_cons.1 h.srt).2,fun q hq=>h.lt q (by simp [hq]),fun q hq=>h.ok q (by simp [hq]),fun q hq=>h.nu q (by simp [hq])⟩
theorem qyd {l:Sp} {i:Nat} (h:∀ p∈l,p.1≠i):qcm l i=.un:=by
 induction l with
 | nil=>rfl
 | cons p l ih =>
  obtain ⟨k,u⟩:=p
  simp only [qcm]
  cases h2:Nat.beq i k with
  | true=>exact absurd (qcx h2).symm (h (k,u) (by simp))
  | false=>exact ih fun q hq=>h q (by simp [hq])
theorem ql4.get_mem {nt:Nat} {l:Sp} (h:ql4 nt l) {p:Nat×KV} (hp:p∈l):qcm l p.1=p.2:=by
 induction l with
 | nil=>cases hp
 | cons q l ih =>
  obtain ⟨k,u⟩:=q
  simp only [qcm]
  rcases List.mem_cons.1 hp with rfl | hp'
  ·simp
  ·have h1:=(List.pairwise_cons.1 h.srt).1 p.1 (List.mem_map.2 ⟨p,hp',rfl⟩)
   simp only at h1
   cases h2:Nat.beq p.1 k with
   | true=>have:=qcx h2;omega
   | false=>exact ih h.tail hp'
theorem qpz {l:Sp} {i:Nat} (h:qcm l i≠.un):(i,qcm l i)∈l:=by
 induction l with
 | nil=>exact absurd rfl h
 | cons p l ih =>
  obtain ⟨k,u⟩:=p
  simp only [qcm] at h ⊢
  cases h2:Nat.beq i k with
  | true=>have:=qcx h2;subst this;simp
  | false=>rw [h2] at h;simp only at h ⊢;exact List.mem_cons_of_mem _ (ih h)
theorem Qpm (x:KV):x=.un∨x≠.un:=by cases x<;>simp
theorem ql4.get_ok {nt:Nat} {l:Sp} (h:ql4 nt l) (i:Nat):(qcm l i).ok:=by
 rcases Qpm (qcm l i) with h1 | h1
 ·rw [h1];trivial
 ·exact h.ok _ (qpz h1)
theorem ql4.get_ge {nt:Nat} {l:Sp} (h:ql4 nt l) {i:Nat} (hi:nt≤i):qcm l i=.un:=by
 rcases Qpm (qcm l i) with h1 | h1
 ·exact h1
 ·have:=h.lt _ (qpz h1);simp only at this;omega
theorem qs3 {i:Nat} {v:KV}:∀ {l:Sp} {p:Nat×KV},p∈qj9 i v l→p=(i,v)∨p∈l:=by
 intro l
 induction l with
 | nil=>intro p hp;simp [qj9] at hp;exact .inl hp
 | cons q l ih =>
  obtain ⟨k,u⟩:=q
  intro p hp
  simp only [qj9] at hp
  cases h:Nat.beq i k with
  | true =>
   rw [h] at hp;simp only [List.mem_cons] at hp ⊢
   rcases hp with rfl | hp
   ·exact .inl rfl
   ·exact .inr (.inr hp)
  | false =>
   rw [h] at hp
   cases h3:Nat.blt i k with
   | true =>
    rw [h3] at hp;simp only [List.mem_cons] at hp ⊢
    rcases hp with rfl | hp | hp
    ·exact .inl rfl
    ·exact .inr (.inl hp)
    ·exact .inr (.inr hp)
   | false =>
    rw [h3] at hp;simp only [List.mem_cons] at hp ⊢
    rcases hp with rfl | hp
    ·exact .inr (.inl rfl)
    ·exact (ih hp).imp id .inr
theorem spPut_srt {i:Nat} {v:KV}:∀ {l:Sp},(l.map (·.1)).Pairwise (· < ·)→((qj9 i v l).map (·.1)).Pairwise (· < ·):=by
 intro l
 induction l with
 | nil=>intro _;simp [qj9]
 | cons q l ih =>
  obtain ⟨k,u⟩:=q
  intro h
  have h1:=List.pairwise_cons.1 h
  simp only [qj9]
  cases h2:Nat.beq i k with
  | true =>
   have:=qcx h2;subst this
   exact List.pairwise_cons.2 ⟨h1.1,h1.2⟩
  | false =>
   cases h3:Nat.blt i k with
   | true =>
    have h4:i < k:=by simpa [Nat.blt_eq] using h3
    refine List.pairwise_cons.2 ⟨fun a ha=>?_,h⟩
    simp only [List.map_cons,List.mem_cons] at ha
    rcases ha with rfl | ha
    ·exact h4
    ·exact Nat.lt_trans h4 (h1.1 a ha)
   | false =>
    have h5:=qf8 h2
    have h4:¬ i < k:=by intro h6;rw [show Nat.blt i k=true by simpa [Nat.blt_eq] using h6] at h3;cases h3
    refine List.pairwise_cons.2 ⟨fun a ha=>?_,ih h1.2⟩
    obtain ⟨p,hp,rfl⟩:=List.mem_map.1 ha
    rcases qs3 hp with rfl | hp
    ·simp only;omega
    ·exact h1.1 _ (List.mem_map.2 ⟨p,hp,rfl⟩)
theorem ql4.put {nt:Nat} {l:Sp} (h:ql4 nt l) {i:Nat} (hi:i < nt) {v:KV} (hv:v.ok) (hu:qsi v=false):ql4 nt (qj9 i v l) where
 srt:=spPut_srt h.srt
 lt p hp:=(qs3 hp).elim (fun e=>by rw [e];exact hi) (h.lt p)
 ok p hp:=(qs3 hp).elim (fun e=>by rw [e];exact hv) (h.ok p)
 nu p hp:=(qs3 hp).elim (fun e=>by rw [e];exact hu) (h.nu p)
theorem spOut_sub (i:Nat):∀ (l:Sp),(Qh2 i l).Sublist l:=by
 intro l
 induction l with
 | nil=>exact .slnil
 | cons q l ih =>
  obtain ⟨k,u⟩:=q
  simp only [Qh2]
  cases Nat.beq i k with
  | true=>exact .cons _ ih
  | false=>exact .cons_cons _ ih
theorem spKeep_sub (p:Nat→Bool):∀ (l:Sp),(qll p l).Sublist l:=by
 intro l
 induction l with
 | nil=>exact .slnil
 | cons q l ih =>
  obtain ⟨k,u⟩:=q
  simp only [qll]
  cases p k with
  | true=>exact .cons_cons _ ih
  | false=>exact .cons _ ih
theorem ql4.sub {nt:Nat} {l l':Sp} (h:ql4 nt l) (hs:l'.Sublist l):ql4 nt l' :=
 ⟨h.srt.sublist (hs.map _),fun p hp=>h.lt p (hs.subset hp),fun p hp=>h.ok p (hs.subset hp),fun p hp=>h.nu p (hs.subset hp)⟩
theorem ql4.set {nt:Nat} {l:Sp} (h:ql4 nt l) {i:Nat} (hi:i < nt) {v:KV} (hv:v.ok):ql4 nt (spSet i v l):=by
 unfold spSet
 split
 ·exact h.sub (spOut_sub i l)
 ·rename_i hu
  refine h.put hi hv ?_
  cases v<;>simp_all [qsi]
theorem spMap_keys (f:KV→KV):∀ (l:Sp),((ql5 f l).map (·.1)).Sublist (l.map (·.1)):=by
 intro l
 induction l with
 | nil=>exact .slnil
 | cons q l ih =>
  obtain ⟨k,u⟩:=q
  simp only [ql5]
  split
  ·exact .cons _ ih
  ·exact .cons_cons _ ih
theorem qs4 {f:KV→KV}:∀ {l:Sp} {p:Nat×KV},p∈ql5 f l→∃ q∈l,p=(q.1,f q.2)∧qsi p.2=false:=by
 intro l
 induction l with
 | nil=>intro p hp;cases hp
 | cons q l ih =>
  obtain ⟨k,u⟩:=q
  intro p hp
  simp only [ql5] at hp
  split at hp
  ·obtain ⟨q,hq,h⟩:=ih hp;exact ⟨q,by simp [hq],h⟩
  ·rename_i hne
   rcases List.mem_cons.1 hp with rfl | hp
   ·exact ⟨(k,u),by simp,rfl,by cases hf:f u<;>simp_all [qsi]⟩
   ·obtain ⟨q,hq,h⟩:=ih hp;exact ⟨q,by simp [hq],h⟩
theorem ql4.map {nt:Nat} {l:Sp} (h:ql4 nt l) {f:KV→KV} (hf:∀ x:KV,x.ok→(f x).ok):ql4 nt (ql5 f l) where
 srt:=h.srt.sublist (spMap_keys f l)
 lt p hp:=by obtain ⟨q,hq,rfl,_⟩:=qs4 hp;exact h.lt q hq
 ok p hp:=by obtain ⟨q,hq,rfl,_⟩:=qs4 hp;exact hf _ (h.ok q hq)
 nu p hp:=by obtain ⟨q,hq,_,h⟩:=qs4 hp;exact h
theorem Qh4 {nt:Nat} {f:KV→KV} (hf:f .un=.un):∀ {l:Sp} (_:ql4 nt l) (i:Nat),qcm (ql5 f l) i=f (qcm l i):=by
 intro l
 induction l with
 | nil=>intro _ i;simp [ql5,qcm,hf]
 | cons q l ih =>
  obtain ⟨k,u⟩:=q
  intro h i
  have h1:=List.pairwise_cons.1 h.srt
  simp only [ql5,qcm]
  split
  ·rename_i hu
   cases h2:Nat.beq i k with
   | true =>
    have:=qcx h2;subst this
    simp only
    rw [hu]
    refine qyd fun p hp=>?_
    obtain ⟨q,hq,rfl,_⟩:=qs4 hp
    have:=h1.1 q.1 (List.mem_map.2 ⟨q,hq,rfl⟩)
    simp only at this ⊢;omega
   | false=>exact ih h.tail i
  ·simp only [qcm]
   cases h2:Nat.beq i k with
   | true=>rfl
   | false=>exact ih h.tail i
theorem spHas_iff {l:Sp} {i:Nat}:qs5 l i=true↔∃ p∈l,p.1=i:=by
 induction l with
 | nil=>simp [qs5]
 | cons q l ih =>
  obtain ⟨k,u⟩:=q
  simp only [qs5]
  cases h2:Nat.beq i k with
  | true=>simp [qcx h2]
  | false=>simp [ih,Ne.symm (qf8 h2)]
theorem Qmj {l:Sp} {nm:Nm}:nm∈qhe l↔∃ p∈l,nm∈p.2.names:=by
 induction l with
 | nil=>simp [qhe]
 | cons q l ih=>obtain ⟨k,u⟩:=q;simp [qhe,ih]
theorem ql4.has_iff {nt:Nat} {l:Sp} (h:ql4 nt l) (i:Nat):qs5 l i=true↔qcm l i≠.un:=by
 rw [spHas_iff]
 constructor
 ·rintro ⟨p,hp,rfl⟩ hu
  rw [h.get_mem hp] at hu
  have:=h.nu p hp
  rw [hu] at this;cases this
 ·intro hu;exact ⟨_,qpz hu,rfl⟩
theorem dense_get? (nt:Nat) (l:Sp) (i:Nat):(qdu nt l)[i]?=if i < nt then some (qcm l i).pv else none:=by
 unfold qdu
 rw [List.getElem?_map]
 split
 ·rename_i h;rw [List.getElem?_range h];rfl
 ·rename_i h;rw [List.getElem?_eq_none (by simpa using h)];rfl
theorem qb7 (nt:Nat) (l:Sp):(qdu nt l).length=nt:=by simp [qdu]
theorem qj0 {nt:Nat} {l:Sp} (h:ql4 nt l) (i:Nat):(qdu nt l).getD i .undef=(qcm l i).pv:=by
 rw [List.getD_eq_getElem?_getD,dense_get?]
 split
 ·rfl
 ·rename_i hi;rw [h.get_ge (by omega)];rfl
theorem qlx {nt:Nat} {l:Sp} {xs:List PV} (hl:xs.length=nt) (h:∀ i,i < nt→xs[i]?=some (qcm l i).pv):qdu nt l=xs:=by
 apply List.ext_getElem?
 intro i
 rw [dense_get?]
 split
 ·rename_i hi;exact (h i hi).symm
 ·rename_i hi;rw [List.getElem?_eq_none (by omega)]
theorem Qln {nt:Nat} {l:Sp} (d:Nat) (v:KV):qdu nt (spSet d v l)=(qdu nt l).set d v.pv:=by
 refine qlx (by simp [qb7]) fun i hi=>?_
 rw [List.getElem?_set,qb7,dense_get?,spGet_set]
 by_cases h:d=i
 ·subst h;simp [hi]
 ·simp [h,Ne.symm h,hi]
theorem qt6 {nt:Nat} {l:Sp} (d:Nat) (v:KV):qdu nt (qj9 d v l)=(qdu nt l).set d v.pv:=by
 refine qlx (by simp [qb7]) fun i hi=>?_
 rw [List.getElem?_set,qb7,dense_get?,qyc]
 by_cases h:d=i
 ·subst h;simp [hi]
 ·simp [h,Ne.symm h,hi]
theorem qt7 {nt:Nat} {l:Sp} (h:ql4 nt l) {f:KV→KV} {g:Nm→Option (Option Ob)} (hu:f .un=.un) (hf:∀ x:KV,x.ok→(f x).pv=x.pv.sub g) :
  qdu nt (ql5 f l)=qf9 g (qdu nt l):=by
 refine qlx (by rw [qn6,qb7]) fun i hi=>?_
 rw [subL_getElem?,dense_get?,Qh4 hu h,if_pos hi,hf _ (h.get_ok i)]
 rfl
theorem Qmu (f:Nm→Nm) (xs:List PV):(qjl f xs).length=xs.length:=by
 induction xs with
 | nil=>rfl
 | cons x xs ih=>simp [qjl,ih]
theorem renL_getElem? (f:Nm→Nm) (xs:List PV) (i:Nat):(qjl f xs)[i]?=(xs[i]?).map (PV.ren f):=by
 induction xs generalizing i with
 | nil=>rfl
 | cons x xs ih=>cases i<;>simp [qjl,ih]
theorem qt5 {nt:Nat} {l:Sp} (h:ql4 nt l) (f:Nm→Nm):qdu nt (ql5 (KV.ren f) l)=qjl f (qdu nt l):=by
 refine qlx (by rw [Qmu,qb7]) fun i hi=>?_
 rw [renL_getElem?,dense_get?,Qh4 (by simp [KV.ren]) h,if_pos hi,KV.ren_pv f (h.get_ok i)]
 rfl
theorem qpp {nt:Nat} {l:Sp} (h:ql4 nt l) (nm:Nm):nm∈qbo (qdu nt l)↔nm∈qhe l:=by
 have hm:∀ (xs:List PV),nm∈qbo xs↔∃ x∈xs,nm∈x.names:=by
  intro xs
  induction xs with
  | nil=>simp [qbo]
  | cons x xs ih=>simp [qbo,ih]
 rw [hm,Qmj]
 constructor
 ·rintro ⟨x,hx,hn⟩
  obtain ⟨i,hi⟩:=List.getElem?_of_mem hx
  rw [dense_get?] at hi
  split at hi
  ·cases hi
   rw [KV.pv_names (h.get_ok i)] at hn
   have hne:qcm l i≠.un:=by intro hu;rw [hu] at hn;simp [KV.names] at hn
   exact ⟨_,qpz hne,hn⟩
  ·cases hi
 ·rintro ⟨p,hp,hn⟩
  have:=h.get_mem hp
  refine ⟨p.2.pv,List.mem_of_getElem? (i:=p.1) ?_,?_⟩
  ·rw [dense_get?,if_pos (h.lt p hp),this]
  ·rw [KV.pv_names (h.ok p hp)];exact hn
def KOb.ok:KOb→Prop
 | .cells _ cs=>qgs cs
 | .whole _ v=>okV v=true
 | .arr _ _ xs=>qca xs=true
 | .map es=>qca es=true
 | .siter _ _=>True
structure qlf (nt:Nat) (l:SpO):Prop where
 srt:(l.map (·.1)).Pairwise (· < ·)
 lt:∀ p∈l,p.1 < nt
 ok:∀ p∈l,∀ o∈p.2,o.ok
theorem qlf.nil (nt:Nat):qlf nt []:=⟨.nil,by simp,by simp⟩
theorem qlf.tail {nt:Nat} {p:Nat×List KOb} {l:SpO} (h:qlf nt (p :: l)):qlf nt l :=
 ⟨(List.pairwise_cons.1 h.srt).2,fun q hq=>h.lt q (by simp [hq]),fun q hq=>h.ok q (by simp [hq])⟩
theorem KOb.ob_names {o:KOb} (h:o.ok):o.ob.names=o.names:=by
 cases o with
 | cells ty cs=>exact qd9 h
 | whole ty v=>exact (qb9 (qcv h)).1
 | _=>rfl
theorem soGet_put (i:Nat) (v:List KOb):∀ (l:SpO) (j:Nat),qcy (qn9 i v l) j=if j=i then v else qcy l j:=by
 intro l
 induction l with
 | nil =>
  intro j
  simp only [qn9,qcy]
  cases h:Nat.beq j i with
  | true=>simp [qcx h]
  | false=>simp [qf8 h]
 | cons p l ih =>
  obtain ⟨k,u⟩:=p
  intro j
  simp only [qn9]
  cases h:Nat.beq i k with
  | true =>
   have:=qcx h;subst this
   simp only [qcy]
   cases h2:Nat.beq j i with
   | true=>simp [qcx h2]
   | false=>simp [qf8 h2]
  | false =>
   cases h3:Nat.blt i k with
   | true =>
    simp only [qcy]
    cases h2:Nat.beq j i with
    | true=>simp [qcx h2]
    | false=>simp [qf8 h2]
   | false =>
    simp only [qcy]
    cases h2:Nat.beq j k with
    | true =>
     have h4:=qcx h2;have h5:=qf8 h
     subst h4
     simp [Ne.symm h5]
    | false=>exact ih j
theorem soGet_keep (p:Nat→Bool):∀ (l:SpO) (j:Nat),qcy (qwp p l) j=if p j=true then qcy l j else []:=by
 intro l
 induction l with
 | nil=>intro j;simp [qwp,qcy]
 | cons q l ih =>
  obtain ⟨k,u⟩:=q
  intro j
  simp only [qwp]
  cases hp:p k with
  | true =>
   simp only [qcy]
   cases h2:Nat.beq j k with
   | true=>have:=qcx h2;subst this;simp [hp]
   | false=>exact ih j
  | false =>
   simp only [qcy]
   rw [ih j]
   cases h2:Nat.beq j k with
   | true=>have:=qcx h2;subst this;simp [hp]
   | false=>rfl
theorem soGet_map (f:KOb→KOb):∀ (l:SpO) (j:Nat),qcy (qp2 f l) j=(qcy l j).map f:=by
 intro l
 induction l with
 | nil=>intro j;simp [qp2,qcy]
 | cons q l ih =>
  obtain ⟨k,u⟩:=q
  intro j
  simp only [qp2,qcy]
  cases h2:Nat.beq j k with
  | true=>rfl
  | false=>exact ih j
theorem qm3 {l:SpO} {i:Nat} (h:qcy l i≠[]):(i,qcy l i)∈l:=by
 induction l with
 | nil=>exact absurd rfl h
 | cons p l ih =>
  obtain ⟨k,u⟩:=p
  simp only [qcy] at h ⊢
  cases h2:Nat.beq i k with
  | true=>have:=qcx h2;subst this;simp
  | false=>rw [h2] at h;simp only at h ⊢;exact List.mem_cons_of_mem _ (ih h)
theorem qlf.get_mem {nt:Nat} {l:SpO} (h:qlf nt l) {p:Nat×List KOb} (hp:p∈l):qcy l p.1=p.2:=by
 induction l with
 | nil=>cases hp
 | cons q l ih =>
  obtain ⟨k,u⟩:=q
  simp only [qcy]
  rcases List.mem_cons.1 hp with rfl | hp'
  ·simp
  ·have h1:=(List.pairwise_cons.1 h.srt).1 p.1 (List.mem_map.2 ⟨p,hp',rfl⟩)
   simp only at h1
   cases h2:Nat.beq p.1 k with
   | true=>have:=qcx h2;omega
   | false=>exact ih h.tail hp'
theorem qlf.get_ok {nt:Nat} {l:SpO} (h:qlf nt l) {i:Nat} {o:KOb} (ho:o∈qcy l i):o.ok:=by
 have:qcy l i≠[]:=by intro h1;rw [h1] at ho;cases ho
 exact h.ok _ (qm3 this) o ho
theorem qlf.get_ge {nt:Nat} {l:SpO} (h:qlf nt l) {i:Nat} (hi:nt≤i):qcy l i=[]:=by
 by_cases h1:qcy l i=[]
 ·exact h1
 ·have:=h.lt _ (qm3 h1);simp only at this;omega
theorem qye {i:Nat} {v:List KOb}:∀ {l:SpO} {p:Nat×List KOb},p∈qn9 i v l→p=(i,v)∨p∈l:=by
 intro l
 induction l with
 | nil=>intro p hp;simp [qn9] at hp;exact .inl hp
 | cons q l ih =>
  obtain ⟨k,u⟩:=q
  intro p hp
  simp only [qn9] at hp
  cases h:Nat.beq i k with
  | true =>
   rw [h] at hp;simp only [List.mem_cons] at hp ⊢
   rcases hp with rfl | hp
   ·exact .inl rfl
   ·exact .inr (.inr hp)
  | false =>
   rw [h] at hp
   cases h3:Nat.blt i k with
   | true =>
    rw [h3] at hp;simp only [List.mem_cons] at hp ⊢
    rcases hp with rfl | hp | hp
    ·exact .inl rfl
    ·exact .inr (.inl hp)
    ·exact .inr (.inr hp)
   | false =>
    rw [h3] at hp;simp only [List.mem_cons] at hp ⊢
    rcases hp with rfl | hp
    ·exact .inr (.inl rfl)
    ·exact (ih hp).imp id .inr
theorem soPut_srt {i:Nat} {v:List KOb}:∀ {l:SpO},(l.map (·.1)).Pairwise (· < ·)→((qn9 i v l).map (·.1)).Pairwise (· < ·):=by
 intro l
 induction l with
 | nil=>intro _;simp [qn9]
 | cons q l ih =>
  obtain ⟨k,u⟩:=q
  intro h
  have h1:=List.pairwise_cons.1 h
  simp only [qn9]
  cases h2:Nat.beq i k with
  | true =>
   have:=qcx h2;subst this
   exact List.pairwise_cons.2 ⟨h1.1,h1.2⟩
  | false =>
   cases h3:Nat.blt i k with
   | true =>
    have h4:i < k:=by simpa [Nat.blt_eq] using h3
    refine List.pairwise_cons.2 ⟨fun a ha=>?_,h⟩
    simp only [List.map_cons,List.mem_cons] at ha
    rcases ha with rfl | ha
    ·exact h4
    ·exact Nat.lt_trans h4 (h1.1 a ha)
   | false =>
    have h5:=qf8 h2
    have h4:¬ i < k:=by intro h6;rw [show Nat.blt i k=true by simpa [Nat.blt_eq] using h6] at h3;cases h3
    refine List.pairwise_cons.2 ⟨fun a ha=>?_,ih h1.2⟩
    obtain ⟨p,hp,rfl⟩:=List.mem_map.1 ha
    rcases qye hp with rfl | hp
    ·simp only;omega
    ·exact h1.1 _ (List.mem_map.2 ⟨p,hp,rfl⟩)
theorem qlf.put {nt:Nat} {l:SpO} (h:qlf nt l) {i:Nat} (hi:i < nt) {v:List KOb} (hv:∀ o∈v,o.ok):qlf nt (qn9 i v l) where
 srt:=soPut_srt h.srt
 lt p hp:=(qye hp).elim (fun e=>by rw [e];exact hi) (h.lt p)
 ok p hp:=(qye hp).elim (fun e=>by rw [e];exact hv) (h.ok p)
theorem soKeep_sub (p:Nat→Bool):∀ (l:SpO),(qwp p l).Sublist l:=by
 intro l
 induction l with
 | nil=>exact .slnil
 | cons q l ih =>
  obtain ⟨k,u⟩:=q
  simp only [qwp]
  cases p k with
  | true=>exact .cons_cons _ ih
  | false=>exact .cons _ ih
theorem qlf.sub {nt:Nat} {l l':SpO} (h:qlf nt l) (hs:l'.Sublist l):qlf nt l' :=
 ⟨h.srt.sublist (hs.map _),fun p hp=>h.lt p (hs.subset hp),fun p hp=>h.ok p (hs.subset hp)⟩
theorem soMap_keys (f:KOb→KOb):∀ (l:SpO),(qp2 f l).map (·.1)=l.map (·.1):=by
 intro l
 induction l with
 | nil=>rfl
 | cons q l ih=>obtain ⟨k,u⟩:=q;simp [qp2,ih]
theorem Qh5 {f:KOb→KOb}:∀ {l:SpO} {p:Nat×List KOb},p∈qp2 f l→∃ q∈l,p=(q.1,q.2.map f):=by
 intro l
 induction l with
 | nil=>intro p hp;cases hp
 | cons q l ih =>
  obtain ⟨k,u⟩:=q
  intro p hp
  rcases List.mem_cons.1 hp with rfl | hp
  ·exact ⟨(k,u),by simp,rfl⟩
  ·obtain ⟨q,hq,h⟩:=ih hp;exact ⟨q,by simp [hq],h⟩
theorem qlf.map {nt:Nat} {l:SpO} (h:qlf nt l) {f:KOb→KOb} (hf:∀ x:KOb,x.ok→(f x).ok):qlf nt (qp2 f l) where
 srt:=by rw [soMap_keys];exact h.srt
 lt p hp:=by obtain ⟨q,hq,rfl⟩:=Qh5 hp;exact h.lt q hq
 ok p hp o ho:=by
  obtain ⟨q,hq,rfl⟩:=Qh5 hp
  obtain ⟨o',ho',rfl⟩:=List.mem_map.1 ho
  exact hf _ (h.ok q hq o' ho')
theorem Qml {l:SpO} {nm:Nm}:nm∈qlm l↔∃ p∈l,∃ o∈p.2,nm∈o.names:=by
 induction l with
 | nil=>simp [qlm]
 | cons q l ih=>obtain ⟨k,u⟩:=q;simp [qlm,ih]
theorem denseO_get? (nt:Nat) (l:SpO) (i:Nat):(qfr nt l)[i]?=if i < nt then some ((qcy l i).map KOb.ob) else none:=by
 unfold qfr
 rw [List.getElem?_map]
 split
 ·rename_i h;rw [List.getElem?_range h];rfl
 ·rename_i h;rw [List.getElem?_eq_none (by simpa using h)];rfl
theorem qdo (nt:Nat) (l:SpO):(qfr nt l).length=nt:=by simp [qfr]
theorem qj2 {nt:Nat} {l:SpO} {xs:List (List Ob)} (hl:xs.length=nt) (h:∀ i,i < nt→xs[i]?=some ((qcy l i).map KOb.ob)):qfr nt l=xs:=by
 apply List.ext_getElem?
 intro i
 rw [denseO_get?]
 split
 ·rename_i hi;exact (h i hi).symm
 ·rename_i hi;rw [List.getElem?_eq_none (by omega)]
theorem qj1 {nt:Nat} {l:SpO} (d:Nat) (v:List KOb):qfr nt (qn9 d v l)=(qfr nt l).set d (v.map KOb.ob):=by
 refine qj2 (by simp [qdo]) fun i hi=>?_
 rw [List.getElem?_set,qdo,denseO_get?,soGet_put]
 by_cases h:d=i
 ·subst h;simp [hi]
 ·simp [h,Ne.symm h,hi]
theorem qrh {nt:Nat} {l:SpO} (h:qlf nt l) {f:KOb→KOb} {g:Ob→Ob} (hf:∀ x:KOb,x.ok→(f x).ob=g x.ob):qfr nt (qp2 f l)=(qfr nt l).map (·.map g):=by
 refine qj2 (by simp [qdo]) fun i hi=>?_
 rw [List.getElem?_map,denseO_get?,if_pos hi,soGet_map]
 simp only [Option.map_some,List.map_map,Option.some.injEq]
 apply List.map_congr_left
 intro o ho
 simp [hf o (h.get_ok ho)]
theorem Qn2 {nt:Nat} {l:SpO} (h:qlf nt l) (nm:Nm):qbq (qfr nt l) nm=(qc6 l nm).map KOb.ob:=by
 unfold qbq qc6
 rw [denseO_get?]
 split
 ·rename_i x hx
  split at hx
  ·cases hx;rw [List.getElem?_map]
  ·cases hx
 ·rename_i hx
  split at hx
  ·cases hx
  ·rw [h.get_ge (by omega)];rfl
theorem qxv {nt:Nat} {l:SpO} (h:qlf nt l) {nm:Nm} {o:KOb} (ho:qc6 l nm=some o):nm.1 < nt:=by
 apply Classical.byContradiction
 intro hn
 unfold qc6 at ho
 rw [h.get_ge (by omega)] at ho
 cases ho
theorem qdi {nt:Nat} {l:SpO} (h:qlf nt l) {nm:Nm} {o:KOb} (ho:qc6 l nm=some o):o.ok:=h.get_ok (List.mem_of_getElem? ho)
theorem qly {nt:Nat} {l:SpO} (h:qlf nt l) (nm:Nm) (o:KOb):qfr nt (kput l nm o)=qc4 (qfr nt l) nm o.ob:=by
 unfold kput qc4
 cases hk:qc6 l nm with
 | some o' =>
  have hlt:=qxv h hk
  simp only
  rw [qj1,denseO_get?,if_pos hlt]
  simp [List.map_set]
 | none =>
  simp only
  rw [denseO_get?]
  split
  ·rename_i x hx
   split at hx
   ·cases hx
    have h1:((qcy l nm.1).map KOb.ob).set nm.2 o.ob=(qcy l nm.1).map KOb.ob:=by
     rw [List.set_eq_of_length_le]
     have:=List.getElem?_eq_none_iff.1 hk
     simpa using this
    rw [h1]
    refine qj2 (by simp [qdo]) fun i hi=>?_
    rw [List.getElem?_set,qdo,denseO_get?]
    by_cases h2:nm.1=i
    ·subst h2;simp [hi]
    ·simp [h2,hi]
   ·cases hx
  ·rfl
theorem qlf.kput {nt:Nat} {l:SpO} (h:qlf nt l) (nm:Nm) {o:KOb} (ho:o.ok):qlf nt (kput l nm o):=by
 unfold Go.Ab.kput
 cases hk:qc6 l nm with
 | some o' =>
  refine h.put (qxv h hk) fun x hx=>?_
  rcases List.mem_or_eq_of_mem_set hx with h1 | rfl
  ·exact h.get_ok h1
  ·exact ho
 | none=>exact h
theorem qw9 {nt:Nat} {l:SpO} (h:qlf nt l) (nm:Nm):nm∈(qfr nt l).flatMap (fun l=>l.flatMap Ob.names)↔nm∈qlm l:=by
 rw [Qml]
 simp only [List.mem_flatMap]
 constructor
 ·rintro ⟨x,hx,ob,hob,hn⟩
  obtain ⟨i,hi⟩:=List.getElem?_of_mem hx
  rw [denseO_get?] at hi
  split at hi
  ·cases hi
   obtain ⟨o,ho,rfl⟩:=List.mem_map.1 hob
   rw [KOb.ob_names (h.get_ok ho)] at hn
   have:qcy l i≠[]:=by intro h1;rw [h1] at ho;cases ho
   exact ⟨_,qm3 this,o,ho,hn⟩
  ·cases hi
 ·rintro ⟨p,hp,o,ho,hn⟩
  have:=h.get_mem hp
  refine ⟨p.2.map KOb.ob,List.mem_of_getElem? (i:=p.1) ?_,o.ob,List.mem_map.2 ⟨o,ho,rfl⟩,?_⟩
  ·rw [denseO_get?,if_pos (h.lt p hp),this]
  ·rw [KOb.ob_names (h.ok p hp o ho)];exact hn
end Go.Ab


namespace Go.Ab
mutual
theorem qz0 {R:Type}:∀ (x:KV) (K:KV→R),qw4 x K=K x
 | .un,_ | .sk,_ | .nils,_ | .cv _,_ | .yld _,_=>rfl
 | .lit b,K=>by cases b<;>rfl
 | .ref nm _,_ | .aref nm _ _ _,_ | .arr nm _ _ _,_ | .mp nm,_ | .it nm,_ | .wit nm,_=>by cases nm;rfl
 | .agg cs,K=>by simp only [qw4];rw [qqm cs]
 | .iface t x,K=>by simp only [qw4];rw [qz0 x]
 | .fn f cap,K=>by simp only [qw4];rw [qqm cap]
 | .tup xs,K=>by simp only [qw4];rw [qqm xs]
theorem qqm {R:Type}:∀ (xs:List KV) (K:List KV→R),qz3 xs K=K xs
 | [],_=>rfl
 | x :: xs,K=>by simp only [qz3];rw [qz0 x,qqm xs]
end
theorem forceOb_eq {R:Type} (x:KOb) (K:KOb→R):Qnr x K=K x:=by cases x<;>simp [Qnr,qqm]
theorem qz2 {R:Type}:∀ (xs:List KOb) (K:List KOb→R),qxy xs K=K xs
 | [],_=>rfl
 | x :: xs,K=>by simp only [qxy];rw [forceOb_eq x,qz2 xs]
theorem qv6 {R:Type}:∀ (xs:Sp) (K:Sp→R),qz1 xs K=K xs
 | [],_=>rfl
 |(j,x) :: xs,K=>by simp only [qz1];rw [qz0 x,qv6 xs]
theorem Qdy {R:Type}:∀ (xs:SpO) (K:SpO→R),Qgw xs K=K xs
 | [],_=>rfl
 |(j,x) :: xs,K=>by simp only [Qgw];rw [qz2 x,Qdy xs]
theorem Qdz {R:Type}:∀ (xs:List Sp) (K:List Sp→R),Qgx xs K=K xs
 | [],_=>rfl
 | x :: xs,K=>by simp only [Qgx];rw [qv6 x,Qdz xs]
theorem qc9 {R:Type} (ks:KSt) (K:KSt→R):qjy ks K=K ks:=by
 cases ks;simp only [qjy];rw [qv6,Qdy,Qdz]
structure KSt.Ok (ks:KSt):Prop where
 tm:ql4 ks.nt ks.tmps
 ob:qlf ks.nt ks.objs
 kp:∀ sp∈ks.keep,ql4 ks.nt sp
theorem cstK_pv (v:PV):(cstK v).pv=v:=by
 unfold cstK
 split<;>simp [KV.pv,pvL]
theorem cstK_ok {v:PV} (h:okV v=true):(cstK v).ok:=by
 unfold cstK
 split
 ·trivial
 ·trivial
 ·trivial
 ·exact h
variable {ks:KSt}
theorem qvi (h:ks.Ok) (x:RX):x.ev ks.st.tmps=(x.kv ks.tmps).pv:=by
 cases x with
 | t i=>exact qj0 h.tm i
 | c v=>exact (cstK_pv v).symm
theorem kv_ok (h:ks.Ok) {x:RX} (hx:okX x=true):(x.kv ks.tmps).ok:=by
 cases x with
 | t i=>exact h.tm.get_ok i
 | c v=>exact cstK_ok hx
theorem qks (h:ks.Ok) (nm:Nm):qbq ks.st.objs nm=(qc6 ks.objs nm).map KOb.ob:=Qn2 h.ob nm
theorem qd1 (h:ks.Ok):qbq ks.st.objs=fun nm=>(qc6 ks.objs nm).map KOb.ob:=funext (qks h)
theorem KOb.off_ob (p:Nm→Bool) {o:KOb} (h:o.ok):(o.off p).ob=o.ob.sub (qrs p):=by
 cases o with
 | cells ty cs=>simp [KOb.off,KOb.ob,Ob.sub,qy1 p h]
 | whole ty v =>
  have:=(qb9 (qcv h)).1
  simp only [KOb.off,KOb.ob,Ob.sub,qf7]
  rw [subL_none this]
 | _=>rfl
where
 subL_none {xs:List PV} (h:qbo xs=[]):qf9 (qrs p) xs=xs:=by
  induction xs with
  | nil=>rfl
  | cons x xs ih =>
   simp [qbo] at h
   simp [qf9,qma h.1,ih h.2]
theorem KOb.off_ok (p:Nm→Bool) {o:KOb} (h:o.ok):(o.off p).ok:=by
 cases o with
 | cells ty cs=>exact qy2 p h
 | _=>exact h
theorem qya (f:Nm→Option (Option Ob)) (xs ys:List PV):qf9 f (xs++ys)=qf9 f xs++qf9 f ys:=by
 induction xs with
 | nil=>rfl
 | cons x xs ih=>simp [qf9,ih]
theorem qxz {nt:Nat} {l:List Sp} {f:KV→KV} {g:List PV→List PV} (hg:g []=[]) (ha:∀ xs ys,g (xs++ys)=g xs++g ys) (h:∀ sp∈l,qdu nt (ql5 f sp)=g (qdu nt sp)) :
  (l.map (ql5 f)).flatMap (qdu nt)=g (l.flatMap (qdu nt)):=by
 induction l with
 | nil=>simp [hg]
 | cons x l ih =>
  simp only [List.map_cons,List.flatMap_cons,ha]
  rw [h x (by simp),ih fun sp hsp=>h sp (by simp [hsp])]
theorem Qnf (p:Nm→Bool) (h:ks.Ok):(Qdm p ks).st=qlk (qrs p) ks.st:=by
 unfold Qdm KSt.st qlk
 simp only
 rw [qt7 h.tm (by simp [KV.off]) (fun x hx=>KV.off_pv p hx),qrh h.ob (fun o ho=>KOb.off_ob p ho),
  qxz (g:=qf9 (qrs p)) rfl (qya _) fun sp hsp=>qt7 (h.kp sp hsp) (by simp [KV.off]) fun x hx=>KV.off_pv p hx]
theorem Qng (p:Nm→Bool) (h:ks.Ok):(Qdm p ks).Ok where
 tm:=h.tm.map fun x hx=>KV.off_ok p hx
 ob:=h.ob.map fun x hx=>KOb.off_ok p hx
 kp sp hsp:=by
  obtain ⟨q,hq,rfl⟩:=List.mem_map.1 hsp
  exact (h.kp q hq).map fun x hx=>KV.off_ok p hx
theorem KOb.close_ob (g:Nm→Option Ob) {o:KOb} (h:o.ok):o.close g=o.ob.sub (qn7 g):=by
 cases o with
 | cells ty cs=>simp [KOb.close,KOb.ob,Ob.sub,qn0 g h]
 | whole ty v =>
  have:=(qb9 (qcv h)).1
  simp only [KOb.close,KOb.ob,Ob.sub,qf7]
  rw [subL_none this]
 | _=>rfl
where
 subL_none {xs:List PV} (h:qbo xs=[]):qf9 (qn7 g) xs=xs:=by
  induction xs with
  | nil=>rfl
  | cons x xs ih =>
   simp [qbo] at h
   simp [qf9,qma h.1,ih h.2]
theorem qvw {σ:Nm→Option KOb} (hσ:∀ nm o,σ nm=some o→o.ok):∀ (d:Nat) (nm:Nm),qdz σ d nm=(σ nm).map fun o=>qmz (fun nm=>(σ nm).map KOb.ob) d o.ob:=by
 intro d
 induction d with
 | zero =>
  intro nm
  unfold qdz
  cases h:σ nm with
  | none=>rfl
  | some o=>simp only [Option.map_some];rw [KOb.close_ob _ (hσ _ _ h)];rfl
 | succ d ih =>
  intro nm
  unfold qdz
  cases h:σ nm with
  | none=>rfl
  | some o =>
   simp only [Option.map_some]
   rw [KOb.close_ob _ (hσ _ _ h)]
   congr 1
   unfold qmz
   congr 1
   funext m
   unfold qn7
   rw [ih m,Option.map_map]
   rfl
def Qp3 (σ:Nm→Option KOb):Prop:=∀ nm ty cs,σ nm=some (.cells ty cs)→qk3 cs=false
theorem qh2 {σ:Nm→Option KOb} (hσ:∀ nm o,σ nm=some o→o.ok) (hq:Qp3 σ):∀ (d:Nat) (nm:Nm) (ob:Ob),qdz σ d nm=some ob→ob.shut:=by
 intro d
 induction d with
 | zero =>
  intro nm ob h
  unfold qdz at h
  cases ho:σ nm with
  | none=>rw [ho] at h;cases h
  | some o =>
   rw [ho] at h;cases h
   have hok:=hσ _ _ ho
   cases o with
   | cells ty cs=>exact (qkq (fun _ _ h=>by cases h) hok (hq _ _ _ ho))
   | whole ty v=>exact (qcv hok)
   | arr k kt xs=>exact hok
   | map es=>exact hok
   | siter s pos=>trivial
 | succ d ih =>
  intro nm ob h
  unfold qdz at h
  cases ho:σ nm with
  | none=>rw [ho] at h;cases h
  | some o =>
   rw [ho] at h;cases h
   have hok:=hσ _ _ ho
   cases o with
   | cells ty cs=>exact (qkq ih hok (hq _ _ _ ho))
   | whole ty v=>exact (qcv hok)
   | arr k kt xs=>exact hok
   | map es=>exact hok
   | siter s pos=>trivial
theorem KOb.frz_ob (p:Nm→Bool) (g:Nm→Option Ob) {o:KOb} (h:o.ok):(o.frz p g).ob=o.ob.sub (qhv p g):=by
 cases o with
 | cells ty cs=>simp [KOb.frz,KOb.ob,Ob.sub,qzy p g h]
 | whole ty v =>
  have:=(qb9 (qcv h)).1
  simp only [KOb.frz,KOb.ob,Ob.sub,qf7]
  rw [subL_none this]
 | _=>rfl
where
 subL_none {xs:List PV} (h:qbo xs=[]):qf9 (qhv p g) xs=xs:=by
  induction xs with
  | nil=>rfl
  | cons x xs ih =>
   simp [qbo] at h
   simp [qf9,qma h.1,ih h.2]
theorem KOb.frz_ok {p:Nm→Bool} {g:Nm→Option Ob} (hg:∀ nm ob,g nm=some ob→ob.shut) {o:KOb} (h:o.ok):(o.frz p g).ok:=by
 cases o with
 | cells ty cs=>exact qzz hg h
 | _=>exact h
theorem kputs_ok {nt:Nat}:∀ (R:List Nm) {l:SpO},qlf nt l→qlf nt (R.foldl (fun objs nm=>kput objs nm qrk) l):=by
 intro R
 induction R with
 | nil=>intro l h;exact h
 | cons nm R ih=>intro l h;exact ih (h.kput nm (o:=qrk) rfl)
theorem kputs_st {nt:Nat}:∀ (R:List Nm) {l:SpO},qlf nt l→qfr nt (R.foldl (fun objs nm=>kput objs nm qrk) l)=R.foldl (fun objs nm=>qc4 objs nm qh7) (qfr nt l):=by
 intro R
 induction R with
 | nil=>intro l _;rfl
 | cons nm R ih =>
  intro l h
  simp only [List.foldl_cons]
  rw [ih (h.kput nm (o:=qrk) rfl),qly h]
  rfl
theorem qcr (h:ks.Ok):∀ nm o,qc6 ks.objs nm=some o→o.ok:=fun _ _ ho=>qdi h.ob ho
theorem kclosed_st (h:ks.Ok) (nm:Nm):qn7 (qdz (qc6 ks.objs) qbp) nm=qcq (qbq ks.st.objs) nm:=by
 unfold qn7 qcq
 rw [qvw (qcr h),qd1 h,Option.map_map]
 rfl
theorem kquiet_ok {l:SpO} (h:qkg l=true):∀ p∈l,∀ ty cs,KOb.cells ty cs∈p.2→qk3 cs=false:=by
 induction l with
 | nil=>intro p hp;cases hp
 | cons q l ih =>
  obtain ⟨k,u⟩:=q
  simp only [qkg,Bool.and_eq_true] at h
  intro p hp ty cs hcs
  rcases List.mem_cons.1 hp with rfl | hp
  ·have:=List.all_eq_true.1 h.1 _ hcs
   simpa using this
  ·exact ih h.2 p hp ty cs hcs
theorem qm7 {l:SpO} (h:qkg l=true):Qp3 (qc6 l):=by
 intro nm ty cs ho
 have hm:qcy l nm.1≠[]:=by intro h1;unfold qc6 at ho;rw [h1] at ho;cases ho
 exact kquiet_ok h _ (qm3 hm) ty cs (List.mem_of_getElem? ho)
theorem Qni {l:KSt} (hl:l.Ok) {σ:Nm→Option KOb} (hσ:∀ nm o,σ nm=some o→o.ok) (hq:Qp3 σ) (R:List Nm) :
  (Qgp σ R l).st=qcf (fun nm=>(σ nm).map KOb.ob) R l.st:=by
 have hf:qhv (fun m=>R.contains m) (qdz σ qbp)=fun m=>if R.contains m=true then qcq (fun nm=>(σ nm).map KOb.ob) m else none:=by
  funext m
  unfold qhv qcq
  rw [qvw hσ,Option.map_map]
  rfl
 unfold Qgp qcf qlk KSt.st
 simp only
 rw [qt7 hl.tm (g:=qhv (fun m=>R.contains m) (qdz σ qbp)) (by simp [KV.frz]) (fun x hx=>KV.frz_pv _ _ hx),
  kputs_st R (hl.ob.map fun x hx=>KOb.frz_ok (qh2 hσ hq qbp) hx),qrh hl.ob (fun o ho=>KOb.frz_ob _ _ ho),
  qxz (g:=qf9 (qhv (fun m=>R.contains m) (qdz σ qbp))) rfl (qya _) fun sp hsp=>qt7 (hl.kp sp hsp) (by simp [KV.frz]) fun x hx=>KV.frz_pv _ _ hx,hf]
theorem kfreeze_ok {l:KSt} (hl:l.Ok) {σ:Nm→Option KOb} (hσ:∀ nm o,σ nm=some o→o.ok) (hq:Qp3 σ) (R:List Nm):(Qgp σ R l).Ok where
 tm:=hl.tm.map fun x hx=>KV.frz_ok (qh2 hσ hq qbp) hx
 ob:=kputs_ok R (hl.ob.map fun x hx=>KOb.frz_ok (qh2 hσ hq qbp) hx)
 kp sp hsp:=by
  obtain ⟨q,hq',rfl⟩:=List.mem_map.1 hsp
  exact (hl.kp q hq').map fun x hx=>KV.frz_ok (qh2 hσ hq qbp) hx
structure qcd.Ok (o:qcd):Prop where
 v:o.v.ok
 new:∀ x∈o.new,x.ok
 upd:∀ nm x,o.upd=some (nm,x)→x.ok
 ups:∀ p∈o.ups,p.2.ok:=by simp
def qcd.out (o:qcd):Out:={ v:=o.v.pv,new:=o.new.map KOb.ob,upd:=o.upd.map fun p=>(p.1,p.2.ob),kill:=o.kill,frz:=o.frz,gone:=o.gone,ups:=o.ups.map fun p=>(p.1,p.2.ob),io:=o.io,slot:=o.slot }
def bupd (u:Option (Nm×Ob)) (st:St):St :=
 match u with
 | some (nm,ob)=>{ st with objs:=qc4 st.objs nm ob }
 | none=>st
def Qpa (k:Option Nm) (st:St):St :=
 match k with
 | some nm=>qlk (fun m=>if m=nm then some none else none) st
 | none=>st
def bset (dst:Option Nat) (v:PV) (new:List Ob) (st:St):St :=
 match dst with
 | some d=>{ st with tmps:=st.tmps.set d v,objs:=if new.isEmpty then st.objs else st.objs.set d new }
 | none=>st
def bgone (l:List Nm) (st:St):St:=if l.isEmpty then st else qlk (fun m=>if l.contains m then some none else none) st
def Qn9 (l:List (Nm×Ob)) (st:St):St:=if l.isEmpty then st else { st with objs:=qk0 l st.objs }
def bext (sl:Option Nat) (new:List Ob) (st:St):St :=
 match sl with
 | some r=>{ st with objs:=st.objs.set r (st.objs.getD r []++new) }
 | none=>st
def Qj0 (sl:Option Nat) (new:List Ob):List Ob :=
 match sl with
 | some _=>[]
 | none=>new
theorem Qhl (st:St) (dst:Option Nat) (o:Out):apply st dst o=bset dst o.v (Qj0 o.slot o.new) (bext o.slot o.new <| Qn9 o.ups (bgone o.gone (if o.frz.isEmpty then Qpa o.kill (bupd o.upd st) else qcf (qbq st.objs) o.frz (Qpa o.kill (bupd o.upd st))))):=by
 unfold apply bset Qpa bupd bgone Qn9 bext Qj0
 cases dst<;>cases o.upd<;>cases o.kill<;>cases o.slot<;>rfl
theorem kups_ok {nt:Nat}:∀ (l:List (Nm×KOb)) {σ:SpO},(∀ p∈l,p.2.ok)→qlf nt σ→qlf nt (kups l σ):=by
 intro l
 induction l with
 | nil=>intro σ _ h;exact h
 | cons p l ih =>
  obtain ⟨nm,o⟩:=p
  intro σ hl h
  exact ih (fun q hq=>hl q (List.mem_cons_of_mem _ hq)) (h.kput nm (hl (nm,o) List.mem_cons_self))
theorem kups_st {nt:Nat}:∀ (l:List (Nm×KOb)) {σ:SpO},(∀ p∈l,p.2.ok)→qlf nt σ→qfr nt (kups l σ)=qk0 (l.map fun p=>(p.1,p.2.ob)) (qfr nt σ):=by
 intro l
 induction l with
 | nil=>intro σ _ h;rfl
 | cons p l ih =>
  obtain ⟨nm,o⟩:=p
  intro σ hl h
  show qfr nt (kups l (kput σ nm o))=qk0 (l.map fun p=>(p.1,p.2.ob)) (qc4 (qfr nt σ) nm o.ob)
  rw [ih (fun q hq=>hl q (List.mem_cons_of_mem _ hq)) (h.kput nm (hl (nm,o) List.mem_cons_self)),qly h]
theorem qsh (h:ks.Ok) {o:qcd} (hq:(o.frz.isEmpty||qkg ks.objs)=true) (dst:Option Nat) (ho:o.Ok):(qnl ks dst o).st=apply ks.st dst o.out∧(qnl ks dst o).Ok:=by
 rw [Qhl]
 unfold qnl qcd.out
 simp only
 have h1:(kupd o.upd ks).Ok∧(kupd o.upd ks).st=bupd (o.upd.map fun p=>(p.1,p.2.ob)) ks.st:=by
  cases hu:o.upd with
  | none=>exact ⟨h,rfl⟩
  | some p =>
   obtain ⟨nm,ob⟩:=p
   refine ⟨⟨h.tm,h.ob.kput nm (ho.upd _ _ hu),h.kp⟩,?_⟩
   simp only [Option.map_some,kupd,bupd,KSt.st]
   rw [qly h.ob]
 rw [← h1.2]
 generalize kupd o.upd ks=k1 at h1 ⊢
 have h2:(kkill o.kill k1).Ok∧(kkill o.kill k1).st=Qpa o.kill k1.st:=by
  cases hu:o.kill with
  | none=>exact ⟨h1.1,rfl⟩
  | some nm =>
   refine ⟨Qng _ h1.1,?_⟩
   simp only [kkill,Qpa]
   rw [Qnf _ h1.1]
   congr 1
   funext m
   unfold qrs
   by_cases hm:m=nm
   ·simp [hm]
   ·simp [hm]
 rw [← h2.2]
 generalize kkill o.kill k1=k2 at h2 ⊢
 have h3:(kfrzs (qc6 ks.objs) o.frz k2).Ok∧(kfrzs (qc6 ks.objs) o.frz k2).st=(if o.frz.isEmpty=true then k2.st else qcf (qbq ks.st.objs) o.frz k2.st):=by
  cases hf:o.frz with
  | nil=>exact ⟨h2.1,rfl⟩
  | cons nm R =>
   have hq:qkg ks.objs=true:=by rw [hf] at hq;simpa using hq
   refine ⟨kfreeze_ok h2.1 (qcr h) (qm7 hq) _,?_⟩
   rw [qd1 h]
   exact Qni h2.1 (qcr h) (qm7 hq) _
 rw [← h3.2]
 generalize kfrzs (qc6 ks.objs) o.frz k2=k4 at h3 ⊢
 have h5:(kgone o.gone k4).Ok∧(kgone o.gone k4).st=bgone o.gone k4.st:=by
  cases hg:o.gone with
  | nil=>exact ⟨h3.1,rfl⟩
  | cons nm l =>
   refine ⟨Qng _ h3.1,?_⟩
   simp only [kgone,bgone,List.isEmpty_cons,Bool.false_eq_true,if_false]
   rw [Qnf _ h3.1]
   congr 1
 rw [← h5.2]
 generalize kgone o.gone k4=k5 at h5 ⊢
 have h6:(kturn o.ups k5).Ok∧(kturn o.ups k5).st=Qn9 (o.ups.map fun p=>(p.1,p.2.ob)) k5.st:=by
  refine ⟨⟨h5.1.tm,kups_ok _ ho.ups h5.1.ob,h5.1.kp⟩,?_⟩
  have:∀ (l:List (Nm×Ob)) (s:St),Qn9 l s={ s with objs:=qk0 l s.objs }:=by
   intro l s
   unfold Qn9
   split
   ·rename_i hl;rw [List.isEmpty_iff.1 hl];rfl
   ·rfl
  rw [this]
  simp only [kturn,KSt.st]
  rw [kups_st _ ho.ups h5.1.ob]
 rw [← h6.2]
 generalize kturn o.ups k5=k6 at h6 ⊢
 have h7:(kext o.slot o.new k6).Ok∧(kext o.slot o.new k6).st=bext o.slot (o.new.map KOb.ob) k6.st:=by
  cases hs:o.slot with
  | none=>exact ⟨h6.1,rfl⟩
  | some r =>
   simp only [kext,bext]
   cases hr:Nat.blt r k6.nt with
   | true =>
    have hr':r < k6.nt:=by simpa [Nat.blt_eq] using hr
    refine ⟨⟨h6.1.tm,h6.1.ob.put hr' fun x hx=>?_,h6.1.kp⟩,?_⟩
    ·rcases List.mem_append.1 hx with hx | hx
     ·exact h6.1.ob.get_ok hx
     ·exact ho.new x hx
    ·unfold KSt.st
     simp only
     rw [qj1,List.map_append]
     congr 3
     rw [List.getD_eq_getElem?_getD,denseO_get?,if_pos hr']
     rfl
   | false =>
    have hr':¬ r < k6.nt:=by intro h;rw [show Nat.blt r k6.nt=true by simpa [Nat.blt_eq] using h] at hr;cases hr
    refine ⟨h6.1,?_⟩
    unfold KSt.st
    simp only
    rw [List.set_eq_of_length_le (by rw [qdo];omega)]
 rw [← h7.2]
 have hnew2:Qj0 o.slot (o.new.map KOb.ob)=(newAt o.slot o.new).map KOb.ob:=by cases o.slot<;>rfl
 rw [hnew2]
 have honew:∀ x∈newAt o.slot o.new,x.ok:=by
  cases o.slot with
  | none=>exact ho.new
  | some r=>intro x hx;cases hx
 generalize newAt o.slot o.new=nw at honew ⊢
 generalize kext o.slot o.new k6=k3 at h7 ⊢
 obtain ⟨ok3,_⟩:=h7
 cases dst with
 | none=>exact ⟨rfl,ok3⟩
 | some d =>
  simp only [kset,bset]
  cases hd:Nat.blt d k3.nt with
  | true =>
   have hd':d < k3.nt:=by simpa [Nat.blt_eq] using hd
   refine ⟨?_,?_⟩
   ·unfold KSt.st
    simp only
    rw [Qln]
    cases hn:nw with
    | nil=>simp
    | cons x xs=>simp [qj1]
   ·refine ⟨ok3.tm.set hd' ho.v,?_,ok3.kp⟩
    simp only
    cases hn:nw with
    | nil=>exact ok3.ob
    | cons x xs=>rw [hn] at honew;exact ok3.ob.put hd' honew
  | false =>
   have hd':¬ d < k3.nt:=by intro h;rw [show Nat.blt d k3.nt=true by simpa [Nat.blt_eq] using h] at hd;cases hd
   refine ⟨?_,ok3⟩
   unfold KSt.st
   simp only
   rw [List.set_eq_of_length_le (by rw [qb7];omega)]
   split
   ·rfl
   ·rw [List.set_eq_of_length_le (by rw [qdo];omega)]
end Go.Ab


namespace Go.Ab
theorem Qrb (T:List PV):∀ (ps:List (Nat×Nat×RX)) (z:List PV),qkm [] z (ps.map fun p=>(p.1,p.2.1,.c (p.2.2.ev T)))=qkm T z ps:=by
 intro ps
 induction ps with
 | nil=>intro z;rfl
 | cons p ps ih =>
  obtain ⟨off,n,x⟩:=p
  intro z
  simp only [List.map_cons,qkm]
  rw [ih]
  rfl
theorem qmx (T:List PV) (x:Option RX):evO [] (x.map fun y=>.c (y.ev T))=evO T x:=by cases x<;>rfl
theorem exec_inst (d:Nat) (σ:Nm→Option Ob) (T:List PV) (op:ROp) (hg:isG op=true):exec d σ [] (op.mapX fun x=>.c (x.ev T))=exec d σ T op:=by
 cases op with
 | build z ps=>simp only [ROp.mapX,exec];rw [Qrb T]
 | slice k x lo hi mx=>simp only [ROp.mapX,exec];rw [qmx,qmx,qmx];rfl
 | strSlice x lo hi=>simp only [ROp.mapX,exec];rw [qmx,qmx];rfl
 | minmax mx xs=>simp only [ROp.mapX,exec,List.map_map];rfl
 | mov | pick | box | alloc | mkSl | store | mkI | mkF | mkMap | insert | mkS | append | copy | call | iter | next | bad=>simp [isG] at hg
 | _=>rfl
theorem qkd {f g:RX→RX} {o:Option RX} (h:∀ a∈o.toList,f a=g a):o.map f=o.map g:=by
 cases o with
 | none=>rfl
 | some a=>simp [h a (by simp)]
theorem mapX_congr {f g:RX→RX} (op:ROp) (hg:isG op=true) (h:∀ x∈op.xs,f x=g x):op.mapX f=op.mapX g:=by
 cases op with
 | build z ps =>
  simp only [ROp.mapX]
  congr 1
  apply List.map_congr_left
  intro p hp
  rw [h p.2.2 (List.mem_map.2 ⟨p,hp,rfl⟩)]
 | slice k x lo hi mx =>
  simp only [ROp.mapX,ROp.xs] at h ⊢
  rw [h x (by simp),qkd (o:=lo) fun a ha=>h a (by simp [ha]),qkd (o:=hi) fun a ha=>h a (by simp [ha]),qkd (o:=mx) fun a ha=>h a (by simp [ha])]
 | strSlice x lo hi =>
  simp only [ROp.mapX,ROp.xs] at h ⊢
  rw [h x (by simp),qkd (o:=lo) fun a ha=>h a (by simp [ha]),qkd (o:=hi) fun a ha=>h a (by simp [ha])]
 | minmax mx xs=>simp only [ROp.mapX];congr 1;exact List.map_congr_left h
 | mov | pick | box | alloc | mkSl | store | mkI | mkF | mkMap | insert | mkS | append | copy | call | iter | next | bad=>simp [isG] at hg
 | bin op c cst x y=>simp only [ROp.mapX,ROp.xs] at h ⊢;rw [h x (by simp),h y (by simp)]
 | lookup c z ok x k=>simp only [ROp.mapX,ROp.xs] at h ⊢;rw [h x (by simp),h k (by simp)]
 | idxAddr k x i=>simp only [ROp.mapX,ROp.xs] at h ⊢;rw [h x (by simp),h i (by simp)]
 | idxAddrA k l x i=>simp only [ROp.mapX,ROp.xs] at h ⊢;rw [h x (by simp),h i (by simp)]
 | strIdx x i=>simp only [ROp.mapX,ROp.xs] at h ⊢;rw [h x (by simp),h i (by simp)]
 | load n ag x | nilck x | un op x | conv k x | toBytes x | ofBytes x | ofRune x | strId x | fieldAddr off x | field off n ag x | extract j x | len c x | tassert t z ok x=>simp only [ROp.mapX,ROp.xs] at h ⊢;rw [h x (by simp)]
theorem reach_nil' (σ:Nm→Option Ob):∀ d,qct σ d []=[]:=by
 intro d;induction d with
 | zero=>rfl
 | succ d ih=>simp [qct,ih]
theorem Qlf {d:Nat} {σ:Nm→Option Ob} {T:List PV} {op:ROp} (hg:isG op=true) (hx:∀ x∈op.xs,okV (x.ev T)=true):exec d σ T op=exec 0 (fun _=>none) T op:=by
 have h1:exec d σ T op=exec 0 σ T op:=by cases op<;>simp [isG] at hg<;>rfl
 rw [h1]
 refine Qd7 op (fun _ _=>rfl) ?_
 have:qbo (op.xs.map (RX.ev T))=[]:=(qb9 (qff.2 fun v hv=>by
  obtain ⟨x,hx',rfl⟩:=List.mem_map.1 hv
  exact hx x hx')).1
 rw [this]
 intro nm hnm
 rw [reach_nil'] at hnm;cases hnm
theorem okV_fill {T:List PV}:∀ (ps:List (Nat×Nat×RX)) (z cs:List PV),qca z=true→(∀ x∈ps.map (·.2.2),okV (x.ev T)=true)→qkm T z ps=some cs→qca cs=true:=by
 intro ps
 induction ps with
 | nil=>intro z cs hz _ h;simp [qkm] at h;subst h;exact hz
 | cons p ps ih =>
  obtain ⟨off,n,y⟩:=p
  intro z cs hz hp h
  simp only [qkm] at h
  obtain ⟨_,h⟩:=qfd h
  refine ih _ cs ?_ (fun x hx=>hp x (by simp only [List.map_cons,List.mem_cons];exact .inr hx)) h
  exact qdw (qdw (qgx hz _) (qcv (hp y (by simp)))) (qja hz _)
theorem qys {cs:List PV} (h:qca cs=true) {o n:Nat} {ag:Bool} {v:PV} (hs:sel cs o n ag=some v):okV v=true:=by
 unfold sel at hs
 split at hs
 ·obtain ⟨_,hs⟩:=qfd hs
  cases hs
  simpa [okV] using qgx (qja h o) n
 ·exact qj6 h hs
theorem Qf3 {k:PV}:∀ {es:List PV} {v:PV},qrl k es=some (some v)→qca es=true→okV v=true
 | [],v,h,_=>by simp [qrl] at h
 | [_],v,h,_=>by simp [qrl] at h
 | a :: u :: es,v,h,he=>by
  simp only [qca,Bool.and_eq_true] at he
  simp only [qrl] at h
  split at h
  ·cases h;exact he.2.1
  ·exact Qf3 h he.2.2
  ·cases h
theorem Qmz {k:Nat} {x v:PV} {lo hi mx:Option PV} (hx:okV x=true) (h:qhf k x lo hi mx=some v):okV v=true:=by
 cases x with
 | sl k' xs full =>
  simp only [qhf] at h
  split at h
  ·cases h
  split at h
  ·cases h
  split at h
  ·cases h
  obtain ⟨_,h⟩:=qfd h
  cases h
  simp only [okV] at hx ⊢
  exact qja (qgx hx _) _
 | nilS =>
  simp only [qhf] at h
  split at h
  ·cases h
  split at h
  ·cases h
  split at h
  ·cases h
  obtain ⟨_,h⟩:=qfd h
  cases h;rfl
 | arr nm k' o n=>simp [okV] at hx
 | _=>simp [qhf] at h
theorem Qjs (s:List UInt8):qca (qda s)=true:=qff.2 fun x hx=>by
 obtain ⟨b,_,rfl⟩:=List.mem_map.1 hx
 rfl
theorem okV_binPV {op:BinOp} {c:TC} {cst:Bool} {x y v:PV} (h:qn3 op c cst x y=some v):okV v=true:=by
 have hI:∀ {op k a b v},qmp op k a b=some v→okV v=true:=by
  intro op k a b v h
  unfold qmp at h
  split at h
  all_goals first
   |(cases h;rfl)
   |(obtain ⟨_,h⟩:=qfd h;cases h;rfl)
   |(obtain ⟨b,_,rfl⟩:=Option.map_eq_some_iff.1 h;rfl)
 have hS:∀ {op a b v},Qby op a b=some v→okV v=true:=by
  intro op a b v h
  unfold Qby at h
  split at h
  all_goals first
   |(cases h;rfl)
   |(obtain ⟨_,h⟩:=qfd h;cases h;rfl)
   | cases h
 unfold qn3 at h
 split at h
 ·split at h
  ·obtain ⟨_,h⟩:=qfd h;cases h;rfl
  ·obtain ⟨_,h⟩:=qfd h;cases h;rfl
  ·obtain ⟨_,h⟩:=qfd h;exact hI h
 ·exact hS h
 ·split at h
  ·obtain ⟨b,_,rfl⟩:=Option.map_eq_some_iff.1 h;rfl
  ·obtain ⟨b,_,rfl⟩:=Option.map_eq_some_iff.1 h;rfl
  ·cases h
structure Plain (o:Out):Prop where
 eq:o={ v:=o.v }
 ok:okV o.v=true
theorem Plain.mk' {v:PV} (h:okV v=true):Plain { v:=v }:=⟨rfl,h⟩
theorem qtb {x:Option PV} {out:Out} (h:(x.map fun v=>({ v:=v }:Out))=some out) (hv:∀ v,x=some v→okV v=true):Plain out:=by
 obtain ⟨v,hx,rfl⟩:=Option.map_eq_some_iff.1 h
 exact .mk' (hv v hx)
theorem exec_plain {T:List PV} {op:ROp} (hg:isG op=true) (hx:∀ x∈op.xs,okV (x.ev T)=true) (hz:∀ z ps,op=.build z ps→qca z=true) (hl:∀ c z ok x k,op=.lookup c z ok x k→okV z=true)
  (ht:∀ t z ok x,op=.tassert t z ok x→okV z=true) {out:Out} (h:exec 0 (fun _=>none) T op=some out):Plain out:=by
 cases op with
 | mov | pick | box | alloc | mkSl | store | mkI | mkF | mkMap | insert | mkS | append | copy | call | iter | next | bad=>simp [isG] at hg
 | build z ps =>
  simp only [exec] at h
  split at h
  ·rename_i cs hc
   cases h
   exact .mk' (by simpa [okV] using okV_fill ps z cs (hz z ps rfl) hx hc)
  ·cases h
 | load n ag x =>
  have hv:=hx x (by simp [ROp.xs])
  simp only [exec] at h
  split at h
  ·rename_i e;rw [e] at hv;simp [okV] at hv
  ·rename_i e;rw [e] at hv
   exact qtb h fun v hs=>qys (by simpa [okV] using hv) hs
  ·rename_i e;rw [e] at hv;simp [okV] at hv
  ·cases h
 | nilck x =>
  have hv:=hx x (by simp [ROp.xs])
  simp only [exec] at h
  split at h
  all_goals first
   |(rename_i e;rw [e] at hv;cases h;exact .mk' hv)
   | cases h
 | bin op c cst x y=>simp only [exec] at h;exact qtb h fun v=>okV_binPV
 | un op x =>
  simp only [exec] at h
  split at h
  ·cases h;exact .mk' rfl
  ·cases h;exact .mk' rfl
  ·cases h
 | conv k x=>simp only [exec] at h;split at h;(cases h;exact .mk' rfl);cases h
 | toBytes x =>
  simp only [exec] at h;split at h
  ·obtain ⟨_,h⟩:=qfd h;cases h;exact .mk' (by simpa [okV] using Qjs _)
  ·cases h
 | ofBytes x =>
  simp only [exec] at h;split at h
  ·split at h
   ·cases h;exact .mk' rfl
   ·cases h
  ·cases h
 | ofRune x=>simp only [exec] at h;split at h;(cases h;exact .mk' rfl);cases h
 | strId x=>simp only [exec] at h;split at h;(cases h;exact .mk' rfl);cases h
 | lookup c z ok x k =>
  have hv:=hx x (by simp [ROp.xs])
  have hz:=hl c z ok x k rfl
  simp only [exec] at h
  have hes:∀ es,(match x.ev T with | .mp nm=>(none:Option (List PV)) | .imap es=>some es | .nilM=>some [] | _=>none)=some es→qca es=true:=by
   intro es he
   cases hq:x.ev T<;>rw [hq] at he hv<;>simp only [reduceCtorEq,Option.some.injEq] at he
   ·subst he;rfl
   ·subst he;simpa [okV] using hv
  split at h
  ·cases h
  ·rename_i es he
   split at h
   ·cases h
   ·rename_i r hr
    obtain ⟨_,h⟩:=qfd h
    cases h
    have hes':qca es=true:=hes es (by revert he;cases x.ev T<;>exact id)
    have hrz:okV (r.getD z)=true:=by
     cases r with
     | none=>exact hz
     | some v=>exact Qf3 hr hes'
    refine .mk' ?_
    split
    ·simp [okV,qca,hrz]
    ·exact hrz
 | slice k x lo hi mx=>simp only [exec] at h;exact qtb h fun v hs=>Qmz (hx x (by simp [ROp.xs])) hs
 | strSlice x lo hi =>
  simp only [exec] at h
  split at h
  ·split at h
   ·cases h
   ·split at h
    ·cases h
    ·cases h;exact .mk' rfl
  ·cases h
 | fieldAddr off x =>
  have hv:=hx x (by simp [ROp.xs])
  simp only [exec] at h
  split at h
  ·rename_i e;rw [e] at hv;simp [okV] at hv
  ·rename_i e;rw [e] at hv;obtain ⟨_,h⟩:=qfd h;cases h;exact .mk' (by simpa [okV] using hv)
  ·rename_i e;rw [e] at hv;simp [okV] at hv
  ·cases h
 | field off n ag x =>
  have hv:=hx x (by simp [ROp.xs])
  simp only [exec] at h
  split at h
  ·rename_i e;rw [e] at hv;exact qtb h fun v hs=>qys (by simpa [okV] using hv) hs
  ·cases h
 | idxAddr k x i =>
  have hv:=hx x (by simp [ROp.xs])
  simp only [exec] at h
  split at h
  ·rename_i e;rw [e] at hv
   split at h
   ·rename_i y hy
    obtain ⟨_,h⟩:=qfd h;cases h
    exact .mk' (by simpa [okV] using qcv (qj6 (by simpa [okV] using hv) hy))
   ·cases h
  ·rename_i e;rw [e] at hv;simp [okV] at hv
  ·cases h
 | idxAddrA k l x i =>
  have hv:=hx x (by simp [ROp.xs])
  simp only [exec] at h
  split at h
  ·rename_i e;rw [e] at hv;obtain ⟨_,h⟩:=qfd h;cases h;exact .mk' (by simpa [okV] using hv)
  ·rename_i e;rw [e] at hv;simp [okV] at hv
  ·cases h
 | strIdx x i =>
  simp only [exec] at h
  split at h
  ·split at h
   ·cases h;exact .mk' rfl
   ·cases h
  ·cases h
 | extract j x =>
  have hv:=hx x (by simp [ROp.xs])
  simp only [exec] at h
  split at h
  ·rename_i e;rw [e] at hv
   split at h
   ·rename_i v hg'
    cases h;exact .mk' (qj6 (by simpa [okV] using hv) hg')
   ·cases h
  ·cases h
 | len c x=>simp only [exec] at h;obtain ⟨n,_,rfl⟩:=Option.map_eq_some_iff.1 h;exact .mk' rfl
 | minmax mx xs =>
  simp only [exec] at h
  split at h
  ·obtain ⟨n,_,rfl⟩:=Option.map_eq_some_iff.1 h;exact .mk' rfl
  ·cases h
 | tassert t z ok x =>
  have hv:=hx x (by simp [ROp.xs])
  have hz:=ht t z ok x rfl
  simp only [exec] at h
  split at h
  ·rename_i e;rw [e] at hv
   split at h
   ·cases h
    refine .mk' ?_
    simp only [okV] at hv
    split
    ·simp [okV,qca,hv]
    ·exact hv
   ·obtain ⟨_,h⟩:=qfd h;cases h;exact .mk' (by simp [okV,qca,hz])
  ·obtain ⟨_,h⟩:=qfd h;cases h;exact .mk' (by simp [okV,qca,hz])
  ·cases h
end Go.Ab


namespace Go.Ab
theorem qcb {α β:Type} {x:Option α} {f:α→Option β} {r:β} (h:qba x f=some r):∃ a,x=some a∧f a=some r:=by
 cases x with
 | none=>cases h
 | some a=>exact ⟨a,rfl,h⟩
theorem qbr {β:Type} {b:Bool} {a:Option β} {r:β} (h:qby b a=some r):b=true∧a=some r:=by
 cases b with
 | false=>cases h
 | true=>exact ⟨rfl,h⟩
theorem qlt {β:Type} {b:Bool} {x y:Option β} {r:β} (h:qzq b x y=some r):(b=true∧x=some r)∨(b=false∧y=some r):=by
 cases b with
 | false=>exact .inr ⟨rfl,h⟩
 | true=>exact .inl ⟨rfl,h⟩
theorem qto {β:Type} {v:PV} {x y:Option β} {r:β} (h:qck v x y=some r):(v=.bool true∧x=some r)∨(v=.bool false∧y=some r):=by
 unfold qck at h
 split at h
 ·exact .inl ⟨rfl,h⟩
 ·exact .inr ⟨rfl,h⟩
 ·cases h
theorem qzg {a b:Nat}:leN a b=true↔a≤b:=by unfold leN;rw [Nat.ble_eq]
theorem qvt {a b:Nat}:ltN a b=true↔a < b:=by unfold ltN;rw [Nat.blt_eq]
theorem Qbo {a b:Nat}:eqN a b=true↔a=b:=by unfold eqN;rw [Nat.beq_eq]
def Tells {R:Type} (K:qcd→Option R) (r:R) (x:Option Out):Prop:=∃ out:qcd,K out=some r∧out.Ok∧x=some out.out
theorem qcd.plain {v:KV} (h:v.ok):qcd.Ok { v }:=⟨h,by simp,by simp,by simp⟩
theorem qcd.one {v:KV} {o:KOb} (h:v.ok) (ho:o.ok):qcd.Ok { v,new:=[o] }:=⟨h,by simpa using ho,by simp,by simp⟩
theorem qcd.turn {v:KV} {nm:Nm} {o:KOb} (h:v.ok) (ho:o.ok):qcd.Ok { v,upd:=some (nm,o) }:=⟨h,by simp,fun _ _ e=>(by cases e;exact ho),by simp⟩
variable {ks:KSt} {d:Nat} {R:Type} {K:qcd→Option R} {r:R}
theorem ops_ok (h:ks.Ok) {xs:List RX} (hx:xs.all okX=true) {x:RX} (hm:x∈xs):(x.kv ks.tmps).ok:=kv_ok h (List.all_eq_true.1 hx x hm)
theorem cl_ev (h:ks.Ok) {x:RX} {v:PV} (hv:(x.kv ks.tmps).cl=some v):x.ev ks.st.tmps=v:=by rw [qvi h,KV.cl_pv hv]
theorem qlv (h:ks.Ok) {op:ROp} (hx:op.xs.all okX=true) (hk:gO ks.tmps op K=some r):Tells K r (exec d (qbq ks.st.objs) ks.st.tmps op):=by
 unfold gO at hk
 split at hk
 ·rename_i hc
  simp only [Bool.and_eq_true] at hc
  obtain ⟨⟨hg,hop⟩,hcl⟩:=hc
  obtain ⟨z,hz,hk⟩:=qcb hk
  have hall:∀ x∈op.xs,∃ v,(x.kv ks.tmps).cl=some v:=fun x hm=>Option.isSome_iff_exists.1 (List.all_eq_true.1 hcl x hm)
  have hev:∀ x∈op.xs,okV (x.ev ks.st.tmps)=true:=fun x hm=>by
   obtain ⟨v,hv⟩:=hall x hm
   rw [cl_ev h hv];exact KV.cl_ok (ops_ok h hx hm) hv
  have hmap:op.mapX (instX ks.tmps)=op.mapX (fun x=>.c (x.ev ks.st.tmps)):=mapX_congr op hg fun x hm=>by
   obtain ⟨v,hv⟩:=hall x hm
   unfold instX;rw [hv,cl_ev h hv];rfl
  unfold qbc at hz
  rw [hmap,exec_inst _ _ _ _ hg] at hz
  split at hz
  ·rename_i out ho
   cases hz
   have hp:=exec_plain hg hev (fun z ps e=>by subst e;exact hop) (fun c z ok x k e=>by subst e;exact hop) (fun t z ok x e=>by subst e;exact hop) ho
   refine ⟨{ v:=.cv out.v },hk,qcd.plain hp.ok,?_⟩
   rw [Qlf hg hev,ho,hp.eq]
   rfl
  ·cases hz
 ·cases hk
theorem Qly {n:Nat} {x:KV} (hx:x.ok) {K:List KV→Option R} (hk:Qrv n x K=some r):∃ cs,K cs=some r∧qgs cs∧pvL cs=x.pv.cells∧cs.length=n∧x.pv.isVal=true:=by
 unfold Qrv at hk
 split at hk
 ·split at hk
  ·rename_i hn;exact ⟨_,hk,hx,rfl,hn,rfl⟩
  ·cases hk
 ·rename_i v
  obtain ⟨h1,h2⟩:=qbr hk
  unfold qb8 at h1
  simp only [Bool.and_eq_true,beq_iff_eq] at h1
  refine ⟨_,h2,?_,?_,by simp,h1.1⟩
  ·refine qc8.2 fun y hy=>?_
   obtain ⟨i,hi,rfl⟩:=List.mem_map.1 hy
   have hv:okV v=true:=hx
   show okV (qbi v i)=true
   unfold qbi
   rw [List.getD_eq_getElem?_getD]
   cases hg:v.cells[i]? with
   | none=>rfl
   | some c=>exact qj6 (qcv hv) hg
  ·rw [qgw,List.map_map]
   show _=v.cells
   apply List.ext_getElem?
   intro i
   rw [List.getElem?_map]
   by_cases hi:i < n
   ·rw [List.getElem?_range hi]
    show some (qbi v i)=_
    unfold qbi
    rw [List.getD_eq_getElem?_getD]
    have:i < v.cells.length:=by omega
    simp [List.getElem?_eq_getElem this]
   ·rw [List.getElem?_eq_none (by simpa using hi),List.getElem?_eq_none (by omega)];rfl
 ·cases hk
 ·cases hk
 ·cases hk
 ·rename_i h1 h2 h3 h4 h5
  split at hk
  ·rename_i hn
   refine ⟨_,hk,⟨hx,trivial⟩,?_,by simp [hn],?_⟩
   ·simp only [pvL]
    cases x<;>simp_all [KV.pv,PV.cells]
   ·cases x<;>simp_all [KV.pv,PV.isVal]
  ·cases hk
theorem qp8 {l:List KV} (h:qgs l) (n:Nat):qgs (l.take n):=qc8.2 fun x hx=>qc8.1 h x (List.mem_of_mem_take hx)
theorem qp9 {l:List KV} (h:qgs l) (n:Nat):qgs (l.drop n):=qc8.2 fun x hx=>qc8.1 h x (List.mem_of_mem_drop hx)
theorem qhp {l m:List KV} (h:qgs l) (h':qgs m):qgs (l++m):=qc8.2 fun x hx=>(List.mem_append.1 hx).elim (qc8.1 h x) (qc8.1 h' x)
theorem qq1 (l:List KV) (n:Nat):pvL (l.take n)=(pvL l).take n:=by rw [qgw,qgw,List.map_take]
theorem qq2 (l:List KV) (n:Nat):pvL (l.drop n)=(pvL l).drop n:=by rw [qgw,qgw,List.map_drop]
theorem qq3 (l m:List KV):pvL (l++m)=pvL l++pvL m:=by rw [qgw,qgw,qgw,List.map_append]
theorem qfi (l:List KV):(pvL l).length=l.length:=by rw [qgw,List.length_map]
theorem pvL_get? (l:List KV) (i:Nat):(pvL l)[i]?=(l[i]?).map KV.pv:=by rw [qgw,List.getElem?_map]
theorem kfill_ok (h:ks.Ok):∀ (ps:List (Nat×Nat×RX)) {z:List KV} {K:List KV→Option R},(∀ x∈ps.map (·.2.2),okX x=true)→qgs z→kfill ks.tmps z ps K=some r→∃ cs,K cs=some r∧qgs cs∧qkm ks.st.tmps (pvL z) ps=some (pvL cs):=by
 intro ps
 induction ps with
 | nil=>intro z K _ hz hk;exact ⟨z,hk,hz,rfl⟩
 | cons p ps ih =>
  obtain ⟨off,n,x⟩:=p
  intro z K hx hz hk
  simp only [kfill] at hk
  obtain ⟨cs,hk,hcs,hpv,hlen,hval⟩:=Qly (kv_ok h (hx x (by simp))) hk
  split at hk
  ·rename_i hle
   obtain ⟨cs',h1,h2,h3⟩:=ih (fun y hy=>hx y (by simp only [List.map_cons,List.mem_cons];exact .inr hy)) (qhp (qhp (qp8 hz _) hcs) (qp9 hz _)) hk
   refine ⟨cs',h1,h2,?_⟩
   have hl2:(pvL cs).length=n:=by rw [qfi,hlen]
   have hval':(x.ev ks.st.tmps).isVal=true:=by rw [qvi h];exact hval
   have hcl':(x.ev ks.st.tmps).cells=pvL cs:=by rw [qvi h];exact hpv.symm
   simp only [qkm]
   rw [hcl']
   unfold chk splice
   simp only [hval',hl2,qfi,decide_true,Bool.and_self,Bool.true_and,hle,if_true]
   rw [qq3,qq3,qq1,qq2] at h3
   exact h3
  ·cases hk
theorem Qlm (h:ks.Ok) {k:Nat} {x:KV} (hx:x.ok) {K:List PV→Option R} (hk:Qrh (qc6 ks.objs) k x K=some r):∃ ys,K ys=some r∧qca ys=true∧ql8 (qbq ks.st.objs) k x.pv=some ys:=by
 unfold Qrh at hk
 split at hk
 ·rename_i nm k' o n
  split at hk
  ·rename_i k'' kt xs hl
   split at hk
   ·rename_i hkk
    obtain ⟨h1,h2⟩:=qbr hk
    rw [qzg] at h1
    have hok:qca xs=true:=qdi h.ob hl
    refine ⟨_,h2,qgx (qja hok _) _,?_⟩
    have hl':qbq ks.st.objs nm=some (.arr k'' kt xs):=by rw [qks h,hl];rfl
    unfold qc1 qbv at h1
    simp [KV.pv,ql8,hl',chk,hkk.1,hkk.2,h1,qbw,qb5]
   ·cases hk
  ·cases hk
 ·split at hk
  ·rename_i v hv
   obtain ⟨ys,h1,h2⟩:=qcb hk
   have hok:=KV.cl_ok hx hv
   have hpv:=KV.cl_pv hv
   unfold qnu at h1
   have h3:ql8 (qbq ks.st.objs) k v=some ys:=by
    rw [← h1]
    exact qpn (by rw [(qgn hok).1];simp)
   refine ⟨ys,h2,?_,by rw [hpv];exact h3⟩
   cases v with
   | sl k' xs f=>simp only [ql8] at h1;obtain ⟨_,h1⟩:=qfd h1;cases h1;simpa [okV] using hok
   | nilS=>cases h1;rfl
   | str s=>simp only [ql8] at h1;obtain ⟨_,h1⟩:=qfd h1;cases h1;exact Qjs _
   | arr nm k' o n=>simp [okV] at hok
   | _=>simp [ql8] at h1
  ·cases hk
theorem Qbp {xs:List KV} (hx:qgs xs):(qbo (pvL xs)).isEmpty=(qdy xs).isEmpty:=by rw [qd9 hx]
theorem qgz {σ:Nm→Option KOb} (hσ:∀ nm o,σ nm=some o→o.ok):∀ (d:Nat) (l:List Nm),qnh σ d l=qct (fun nm=>(σ nm).map KOb.ob) d l:=by
 intro d
 induction d with
 | zero=>intro l;rfl
 | succ d ih =>
  intro l
  simp only [qnh,qct]
  have e:(l.flatMap fun nm=>((σ nm).map KOb.names).getD [])=l.flatMap fun nm=>(((σ nm).map KOb.ob).map Ob.names).getD []:=by
   congr 1
   funext nm
   cases ho:σ nm with
   | none=>rfl
   | some o=>simp [KOb.ob_names (hσ _ _ ho)]
  rw [ih,e]
theorem names_eq {σ:Nm→Option KOb} (hσ:∀ nm o,σ nm=some o→o.ok) (nm:Nm):((σ nm).map KOb.names).getD []=(((σ nm).map KOb.ob).map Ob.names).getD []:=by
 cases ho:σ nm with
 | none=>rfl
 | some o=>simp [KOb.ob_names (hσ _ _ ho)]
theorem qrb {σ:Nm→Option KOb} (hσ:∀ nm o,σ nm=some o→o.ok) (R:List Nm):Qkc σ R=qka (fun nm=>(σ nm).map KOb.ob) R:=by
 unfold Qkc qka
 congr 1
 funext nm
 simp only
 rw [names_eq hσ]
theorem qqr (h:ks.Ok) {xs:List KV} (hx:qgs xs):ql0 (qdz (qc6 ks.objs) qbp) xs=qf9 (qcq (qbq ks.st.objs)) (pvL xs):=by
 rw [qn0 _ hx]
 congr 1
 funext nm
 exact kclosed_st h nm
theorem qqd (h:ks.Ok) (ps:List RX):ps.map (RX.ev ks.st.tmps)=pvL (ps.map (RX.kv ks.tmps)):=by
 rw [qgw,List.map_map]
 exact List.map_congr_left fun x _=>qvi h x
theorem qza (h:ks.Ok) {ps:List RX} (hx:ps.all okX=true):qgs (ps.map (RX.kv ks.tmps)):=qc8.2 fun v hv=>by
 obtain ⟨x,hm,rfl⟩:=List.mem_map.1 hv
 exact ops_ok h hx hm
theorem Qcb {z:PV} (hz:okV z=true) (n:Nat):qca (List.replicate n z)=true:=qff.2 fun x hx=>by rw [(List.mem_replicate.1 hx).2];exact hz
theorem Qqf {z:List PV} (hz:qca z=true):qgs (z.map cstK):=qc8.2 fun v hv=>by
 obtain ⟨x,hm,rfl⟩:=List.mem_map.1 hv
 exact cstK_ok (qff.1 hz x hm)
theorem pvL_cst (z:List PV):pvL (z.map cstK)=z:=by
 rw [qgw,List.map_map]
 have:KV.pv∘cstK=id:=funext fun v=>cstK_pv v
 rw [this,List.map_id]
theorem qyv {k v:PV}:∀ {es es':List PV},Qmm k v es=some es'→qca es=true→okV k=true→okV v=true→qca es'=true
 | [],es',h,_,hk,hv=>by simp [Qmm] at h;subst h;simp [qca,hk,hv]
 | [_],es',h,_,_,_=>by simp [Qmm] at h
 | a :: u :: es,es',h,he,hk,hv=>by
  simp only [qca,Bool.and_eq_true] at he
  simp only [Qmm] at h
  split at h
  ·cases h;simp [qca,hk,hv,he.2.2]
  ·obtain ⟨l,hl,rfl⟩:=Option.map_eq_some_iff.1 h
   simp [qca,he.1,he.2.1,qyv hl he.2.2 hk hv]
  ·cases h
end Go.Ab


namespace Go.Ab
variable {ks:KSt} {d:Nat} {R:Type} {K:qcd→Option R} {r:R}
theorem cells_agg (cs:List PV):(PV.agg cs).cells=cs:=rfl
theorem execK_ok {cfg:Qb4} (h:ks.Ok) {op:ROp} (hq:(qkg ks.objs||calmX cfg op ks.tmps)=true) (hx:op.xs.all okX=true) (hk:qjn d (qc6 ks.objs) ks.tmps op K=some r):Tells K r (exec d (qbq ks.st.objs) ks.st.tmps op):=by
 have ev:=qvi h
 have lk:=qks h
 have hkv:∀ {x:RX},x∈op.xs→(x.kv ks.tmps).ok:=fun hm=>ops_ok h hx hm
 cases op with
 | mov x =>
  refine ⟨_,hk,qcd.plain (hkv (by simp [ROp.xs])),?_⟩
  simp [exec,qcd.out,ev]
 | pick c a b =>
  have ha:=hkv (x:=a) (by simp [ROp.xs])
  have hb:=hkv (x:=b) (by simp [ROp.xs])
  simp only [qjn] at hk
  split at hk
  ·rename_i hc
   exact ⟨_,hk,qcd.plain ha,by simp [exec,qcd.out,ev,hc,KV.pv]⟩
  ·rename_i hc
   exact ⟨_,hk,qcd.plain hb,by simp [exec,qcd.out,ev,hc,KV.pv]⟩
  ·rename_i v hc
   rcases qto hk with ⟨rfl,hk⟩ | ⟨rfl,hk⟩
   ·exact ⟨_,hk,qcd.plain ha,by simp [exec,qcd.out,ev,hc,KV.pv]⟩
   ·exact ⟨_,hk,qcd.plain hb,by simp [exec,qcd.out,ev,hc,KV.pv]⟩
  ·cases hk
 | box x =>
  have ha:=hkv (x:=x) (by simp [ROp.xs])
  simp only [qjn] at hk
  split at hk
  ·rename_i v hv
   obtain ⟨h1,hk⟩:=qbr hk
   rw [hv] at ha
   unfold Qmc at h1
   exact ⟨_,hk,qcd.one (o:=.whole 0 v) trivial ha,by simp [exec,qcd.out,ev,hv,KV.pv,chk,h1,KOb.ob,qf7]⟩
  ·rename_i cs hv
   rw [hv] at ha
   exact ⟨_,hk,qcd.one (o:=.cells 0 cs) trivial ha,by simp [exec,qcd.out,ev,hv,KV.pv,chk,PV.isVal,KOb.ob,PV.cells]⟩
  ·cases hk
  ·cases hk
  ·cases hk
  ·refine ⟨_,hk,qcd.one (v:=.ref (d,0) 0) (o:=.cells 0 [x.kv ks.tmps]) trivial ⟨ha,trivial⟩,?_⟩
   simp only [exec,qcd.out,ev]
   cases hy:x.kv ks.tmps<;>simp_all [KV.pv,chk,PV.isVal,KOb.ob,PV.cells,pvL]
 | alloc ty z =>
  simp only [qjn] at hk
  split at hk
  ·rename_i hz
   exact ⟨_,hk,qcd.one (o:=.cells _ (z.map cstK)) trivial (Qqf hz),by simp [exec,qcd.out,KV.pv,KOb.ob,pvL_cst]⟩
  ·cases hk
 | build z ps =>
  simp only [qjn] at hk
  split at hk
  ·exact qlv h hx hk
  ·split at hk
   ·rename_i hz
    obtain ⟨cs,h1,h2,h3⟩:=kfill_ok h ps (fun x hm=>List.all_eq_true.1 hx x hm) (Qqf hz) hk
    rw [pvL_cst] at h3
    exact ⟨_,h1,qcd.plain (v:=.agg cs) h2,by simp [exec,qcd.out,h3,KV.pv]⟩
   ·cases hk
 | mkSl k ps =>
  have hok:=qza h (ps:=ps) hx
  simp only [qjn] at hk
  split at hk
  ·rename_i vs hv
   obtain ⟨h1,hk⟩:=qbr hk
   have hpv:=qxb hv
   refine ⟨_,hk,qcd.one (o:=.arr k 0 vs) trivial (qva hok hv),?_⟩
   have hn:(qbo vs).isEmpty=true:=by rw [(qb9 (qva hok hv)).1];rfl
   unfold qdx at h1
   simp only [exec,qqd h,hpv,hn,if_true,qcd.out,KV.pv,KOb.ob,chk,h1,qbv,List.map_cons,List.map_nil,Option.map_none]
  ·split at hk
   ·cases hk
   ·rename_i hne
    split at hk
    ·rename_i hc
     obtain ⟨h1,hk⟩:=qbr hk
     refine ⟨_,hk,⟨trivial,?_,by simp,by simp⟩,?_⟩
     ·intro o ho
      simp only [List.mem_singleton] at ho
      subst ho
      exact qkq (qh2 (qcr h) (qm7 (by simpa [calmX] using hq)) qbp) hok hc.2
     ·have hne':(qbo (pvL (ps.map (RX.kv ks.tmps)))).isEmpty=false:=by rw [Qbp hok];simpa using hne
      unfold qdx at h1
      rw [qqr h hok] at h1
      have hsh:=hc.1
      rw [qgz (qcr h),qrb (qcr h),← qd1 h,← qd9 hok] at hsh
      simp only [exec,qqd h,hne',Bool.false_eq_true,if_false,qcd.out,KV.pv,KOb.ob,qbv,List.map_cons,List.map_nil,Option.map_none]
      rw [qqr h hok,qgz (qcr h),← qd1 h,← qd9 hok]
      unfold chk
      rw [h1,hsh]
      rfl
    ·cases hk
 | load n ag x =>
  have ha:=hkv (x:=x) (by simp [ROp.xs])
  simp only [qjn] at hk
  split at hk
  ·rename_i nm o hv
   split at hk
   ·rename_i cs hl
    have hcs:qgs cs:=qdi h.ob hl
    split at hk
    ·rename_i hag
     split at hk
     ·rename_i hle
      refine ⟨_,hk,qcd.plain (v:=.agg ((cs.drop o).take n)) (qp8 (qp9 hcs _) _),?_⟩
      simp [exec,ev,hv,KV.pv,lk,hl,KOb.ob,sel,hag,chk,qfi,hle,qcd.out,qq1,qq2]
     ·cases hk
    ·rename_i hag
     split at hk
     ·rename_i c hc
      refine ⟨_,hk,qcd.plain (qc8.1 hcs c (List.mem_of_getElem? hc)),?_⟩
      simp [exec,ev,hv,KV.pv,lk,hl,KOb.ob,sel,hag,pvL_get?,hc,qcd.out]
     ·cases hk
   ·rename_i v hl
    obtain ⟨z,hz,hk⟩:=qcb hk
    have hv':okV v=true:=qdi h.ob hl
    unfold Qb5 at hz
    refine ⟨_,hk,qcd.plain (v:=.cv z) (qys (qcv hv') hz),?_⟩
    simp [exec,ev,hv,KV.pv,lk,hl,KOb.ob,qf7,hz,qcd.out]
   ·cases hk
  ·rename_i nm k i o hv
   split at hk
   ·rename_i k' kt xs hl
    split at hk
    ·rename_i hkk
     obtain ⟨z,hz,hk⟩:=qcb hk
     have hxs:qca xs=true:=qdi h.ob hl
     unfold qpo at hz
     split at hz
     ·rename_i e he
      refine ⟨_,hk,qcd.plain (v:=.cv z) (qys (qcv (qj6 hxs he)) hz),?_⟩
      simp [exec,ev,hv,KV.pv,lk,hl,KOb.ob,he,hz,chk,hkk,qcd.out]
     ·cases hz
    ·cases hk
   ·cases hk
  ·exact qlv h hx hk
 | store n x v =>
  have ha:=hkv (x:=x) (by simp [ROp.xs])
  have hb:=hkv (x:=v) (by simp [ROp.xs])
  simp only [qjn] at hk
  split at hk
  ·rename_i nm o hv
   split at hk
   ·rename_i cs hl
    have hcs:qgs cs:=qdi h.ob hl
    obtain ⟨vs,hk,hvs,hpv,hlen,hval⟩:=Qly hb hk
    split at hk
    ·rename_i hle
     refine ⟨_,hk,qcd.turn (o:=.cells _ (cs.take o++vs++cs.drop (o+n))) trivial (qhp (qhp (qp8 hcs _) hvs) (qp9 hcs _)),?_⟩
     have hl2:(pvL vs).length=n:=by rw [qfi,hlen]
     simp [exec,ev,hv,KV.pv,lk,hl,KOb.ob,← hpv,hval,hl2,chk,qfi,hle,qcd.out,splice,qq3,qq1,qq2]
    ·cases hk
   ·rename_i w hl
    split at hk
    ·rename_i u hu
     obtain ⟨h1,hk⟩:=qbr hk
     have hw:okV w=true:=qdi h.ob hl
     have huo:=KV.cl_ok hb hu
     unfold okSto at h1
     simp only [Bool.and_eq_true,decide_eq_true_eq] at h1
     refine ⟨_,hk,qcd.turn (o:=.whole _ (stoP u w o)) trivial ?_,?_⟩
     ·show okV (stoP u w o)=true
      simpa [stoP,okV,splice] using qdw (qgx (qcv hw) o) (qdw (qcv huo) (qja (qcv hw) _))
     ·have hpv:=KV.cl_pv hu
      simp [exec,ev,hv,KV.pv,lk,hl,KOb.ob,qf7,hpv,h1.1.1,h1.1.2,h1.2,chk,qcd.out,stoP,cells_agg]
    ·cases hk
   ·cases hk
  ·rename_i nm k i o hv
   split at hk
   ·rename_i k' kt xs hl
    split at hk
    ·rename_i u hu
     split at hk
     ·rename_i hkk
      obtain ⟨ys,hys,hk⟩:=qcb hk
      have hxs:qca xs=true:=qdi h.ob hl
      have huo:=KV.cl_ok hb hu
      have hpv:=KV.cl_pv hu
      unfold setO at hys
      split at hys
      ·rename_i es he
       obtain ⟨h1,h2⟩:=qbr hys
       cases h2
       simp only [Bool.and_eq_true,decide_eq_true_eq] at h1
       have heo:qca es=true:=by simpa [okV] using qj6 hxs he
       refine ⟨_,hk,qcd.turn (o:=.arr k kt _) trivial ?_,?_⟩
       ·refine Qqb hxs i ?_
        simpa [okV,splice] using qdw (qgx heo o) (qdw (qcv huo) (qja heo _))
       ·have hn:(qbo u.cells).isEmpty=true:=by rw [(qb9 (qcv huo)).1];rfl
        simp [exec,ev,hv,KV.pv,lk,hl,KOb.ob,he,hpv,h1.1.1,h1.1.2,h1.2,chk,hkk,qcd.out]
        rw [(qb9 (qcv huo)).1]
      ·rename_i e hne he
       obtain ⟨h1,h2⟩:=qbr hys
       cases h2
       simp only [Bool.and_eq_true,beq_iff_eq] at h1
       refine ⟨_,hk,qcd.turn (o:=.arr k kt _) trivial (Qqb hxs i huo),?_⟩
       have hn:u.names=[]:=(qgn huo).1
       simp only [exec,ev,hv,KV.pv,lk,hl,Option.map_some,KOb.ob,he,hpv]
       subst hkk
       simp [chk,h1.1.1.1,h1.1.1.2,h1.1.2,h1.2,hn,qcd.out,KOb.ob,KV.pv]
      ·cases hys
     ·cases hk
    ·cases hk
   ·cases hk
  ·cases hk
 | nilck x =>
  have ha:=hkv (x:=x) (by simp [ROp.xs])
  simp only [qjn] at hk
  split at hk
  ·rename_i hv;exact ⟨_,hk,qcd.plain (by trivial),by simp [exec,ev,hv,KV.pv,qcd.out]⟩
  ·rename_i hv;exact ⟨_,hk,qcd.plain (by trivial),by simp [exec,ev,hv,KV.pv,qcd.out]⟩
  ·rename_i hv;rw [hv] at ha;exact ⟨_,hk,qcd.plain ha,by simp [exec,ev,hv,KV.pv,qcd.out]⟩
  ·rename_i hv;exact ⟨_,hk,qcd.plain (by trivial),by simp [exec,ev,hv,KV.pv,qcd.out]⟩
  ·exact qlv h hx hk
 | bin o c cst x y =>
  simp only [qjn] at hk
  split at hk
  ·rename_i nm o' v h1 h2
   split at hk
   ·rcases qlt hk with ⟨hc,hk⟩ | ⟨_,hk⟩
    ·split at hc
     ·refine ⟨_,hk,qcd.plain (v:=.lit false) trivial,?_⟩
      simp [exec,ev,h1,h2,KV.pv,qn3,Qg7,qcd.out]
     ·cases hc
    ·cases hk
   ·rcases qlt hk with ⟨hc,hk⟩ | ⟨_,hk⟩
    ·split at hc
     ·refine ⟨_,hk,qcd.plain (v:=.lit true) trivial,?_⟩
      simp [exec,ev,h1,h2,KV.pv,qn3,Qg7,qcd.out]
     ·cases hc
    ·cases hk
   ·cases hk
  ·exact qlv h hx hk
 | un o x =>
  cases o with
  | not =>
   simp only [qjn] at hk
   split at hk
   ·rename_i b hv
    exact ⟨_,hk,qcd.plain (v:=.lit (!b)) trivial,by simp [exec,ev,hv,KV.pv,qcd.out]⟩
   ·exact qlv h hx hk
  | _=>exact qlv h hx hk
 | mkI t x =>
  have ha:=hkv (x:=x) (by simp [ROp.xs])
  simp only [qjn] at hk
  split at hk
  ·rename_i v hv
   refine ⟨_,hk,qcd.plain (v:=.cv (.iface t v)) ?_,?_⟩
   ·show okV (.iface t v)=true
    simpa [okV] using KV.cl_ok ha hv
   ·simp [exec,ev,KV.cl_pv hv,KV.pv,qcd.out]
  ·split at hk
   ·cases hk
   ·cases hk
   ·cases hk
   ·cases hk
   ·exact ⟨_,hk,qcd.plain (v:=.iface t (x.kv ks.tmps)) ha,by simp [exec,ev,KV.pv,qcd.out]⟩
 | mkF f cap =>
  simp only [qjn] at hk
  split at hk
  ·refine ⟨_,hk,qcd.plain (v:=.fn f (cap.map (RX.kv ks.tmps))) (qza h hx),?_⟩
   simp [exec,qcd.out,KV.pv,qqd h]
  ·cases hk
 | mkMap=>exact ⟨_,hk,qcd.one (o:=.map []) trivial rfl,by simp [exec,qcd.out,KV.pv,KOb.ob]⟩
 | insert c x k v =>
  have hb:=hkv (x:=k) (by simp [ROp.xs])
  have hc:=hkv (x:=v) (by simp [ROp.xs])
  simp only [qjn] at hk
  split at hk
  ·rename_i nm hv
   split at hk
   ·rename_i es kk vv hl h1 h2
    obtain ⟨es',he,hk⟩:=qcb hk
    have hes:qca es=true:=qdi h.ob hl
    have hko:=KV.cl_ok hb h1
    have hvo:=KV.cl_ok hc h2
    unfold insO at he
    split at he
    ·rename_i es2 hs
     obtain ⟨h3,h4⟩:=qbr he
     cases h4
     simp only [Bool.and_eq_true] at h3
     refine ⟨_,hk,qcd.turn (o:=.map es') trivial (qyv hs hes hko hvo),?_⟩
     have hn:vv.names=[]:=(qgn hvo).1
     simp [exec,ev,hv,KV.pv,lk,hl,KOb.ob,KV.cl_pv h1,KV.cl_pv h2,hs,chk,h3.1,h3.2,hn,qcd.out]
    ·cases he
   ·rename_i es kk hl h1 h2
    split at hk
    ·cases hk
    ·rename_i hne
     split at hk
     ·rename_i hcond
      obtain ⟨hsh,hy,hcn⟩:=hcond
      obtain ⟨es',he,hk⟩:=qcb hk
      have hes:qca es=true:=qdi h.ob hl
      have hko:=KV.cl_ok hb h1
      have hok1:qgs [v.kv ks.tmps]:=⟨hc,trivial⟩
      have hcl:=qqr h hok1
      have hclo:=qkq (qh2 (qcr h) (qm7 (by simpa [calmX] using hq)) qbp) hok1 hy
      have e1:nth (ql0 (qdz (qc6 ks.objs) qbp) [v.kv ks.tmps]) 0=((v.kv ks.tmps).pv).sub (qcq (qbq ks.st.objs)):=by
       rw [hcl];simp [pvL,qf9,nth]
      have hvo:okV (((v.kv ks.tmps).pv).sub (qcq (qbq ks.st.objs)))=true:=by
       rw [← e1]
       rw [hcl] at hclo ⊢
       exact (Bool.and_eq_true_iff.1 hclo).1
      rw [e1] at he
      have hn2:((v.kv ks.tmps).pv).names.isEmpty=false:=by
       rw [KV.pv_names hc];simpa [qdy] using hne
      have hrch:qnh (qc6 ks.objs) qbp (qdy [v.kv ks.tmps])=qct (qbq ks.st.objs) qbp ((v.kv ks.tmps).pv).names:=by
       rw [qgz (qcr h),← qd1 h,KV.pv_names hc];simp [qdy]
      rw [hrch,qrb (qcr h),← qd1 h] at hsh
      rw [hrch] at hcn hk
      have hcn':¬ nm∈qct (qbq ks.st.objs) qbp ((v.kv ks.tmps).pv).names:=fun hm=>by rw [List.contains_iff_mem.2 hm] at hcn;cases hcn
      unfold insO at he
      split at he
      ·rename_i es2 hs
       obtain ⟨h3,h4⟩:=qbr he
       cases h4
       simp only [Bool.and_eq_true] at h3
       refine ⟨_,hk,⟨trivial,by simp,fun m o' e=>by cases e;exact qyv hs hes hko hvo,by simp⟩,?_⟩
       simp [exec,ev,hv,KV.pv,lk,hl,KOb.ob,KV.cl_pv h1,hn2,hs,chk,h3.1,h3.2,hsh,hcn',qcd.out]
      ·cases he
     ·cases hk
   ·cases hk
  ·cases hk
 | lookup c z ok x k =>
  have hb:=hkv (x:=k) (by simp [ROp.xs])
  simp only [qjn] at hk
  split at hk
  ·rename_i nm hv
   split at hk
   ·rename_i es kk hl h1
    split at hk
    case isFalse=>cases hk
    rename_i hz
    obtain ⟨u,hu,hk⟩:=qcb hk
    have hes:qca es=true:=qdi h.ob hl
    unfold Qnb at hu
    split at hu
    ·cases hu
    ·rename_i r' hr
     obtain ⟨h3,h4⟩:=qbr hu
     cases h4
     have hrz:okV (r'.getD z)=true:=by
      cases r' with
      | none=>exact hz
      | some v=>exact Qf3 hr hes
     refine ⟨_,hk,qcd.plain (v:=.cv _) ?_,?_⟩
     ·show okV _=true
      split
      ·simp [okV,qca,hrz]
      ·exact hrz
     ·simp [exec,ev,hv,KV.pv,lk,hl,KOb.ob,KV.cl_pv h1,hr,chk,h3,qcd.out]
   ·cases hk
  ·exact qlv h hx hk
 | mkS k z l c =>
  simp only [qjn] at hk
  split at hk
  ·rename_i lv cv hl hc
   split at hk
   ·rename_i hz
    obtain ⟨n,hn,hk⟩:=qcb hk
    unfold mkSO at hn
    split at hn
    ·rename_i a b h1 h2
     obtain ⟨h3,h4⟩:=qbr hn
     cases h4
     refine ⟨_,hk,qcd.one (o:=.arr k 0 (ql6 _ z)) trivial (Qcb hz.2 _),?_⟩
     simp only [Bool.and_eq_true,decide_eq_true_eq] at h3
     simp [exec,ev,KV.cl_pv hl,KV.cl_pv hc,h1,h2,chk,h3.1,h3.2,hz.1,qcd.out,KV.pv,KOb.ob,ql6]
    ·cases hn
   ·cases hk
  ·cases hk
 | slice k x lo hi mx =>
  simp only [qjn] at hk
  split at hk
  ·rename_i nm k' o n hv
   split at hk
   ·rename_i hc
    obtain ⟨hkk,hmx,hall⟩:=hc
    obtain ⟨m,hm,hk⟩:=qcb hk
    obtain ⟨hh,hhi,hk⟩:=qcb hk
    have hev:∀ (y:Option RX),(∀ z∈y.toList,z∈lo.toList++hi.toList++mx.toList)→(y.map fun z=>((z.kv ks.tmps).cl).getD .undef)=evO ks.st.tmps y:=by
     intro y hy
     cases y with
     | none=>rfl
     | some z =>
      have:=List.all_eq_true.1 hall z (hy z (by simp))
      obtain ⟨v,hv⟩:=Option.isSome_iff_exists.1 this
      simp [evO,hv,ev,KV.cl_pv hv]
    rw [hev mx (fun z hz=>by simp only [List.mem_append];exact .inr hz)] at hm
    rw [hev hi (fun z hz=>by simp only [List.mem_append];exact .inl (.inr hz))] at hhi
    unfold qk7 at hm hhi
    subst hkk
    have hmx':((mx.map (RX.ev ks.st.tmps)).isNone||(hi.map (RX.ev ks.st.tmps)).isSome)=true:=by
     rcases hmx with e | e
     ·cases mx with
      | none=>rfl
      | some _=>cases e
     ·cases hi with
      | none=>cases e
      | some _=>simp
    have hevO:∀ y:Option RX,evO ks.st.tmps y=y.map (RX.ev ks.st.tmps):=fun y=>by cases y<;>rfl
    rw [hevO] at hm hhi
    cases lo with
    | none =>
     refine ⟨_,hk,qcd.plain (v:=.arr nm k o hh) trivial,?_⟩
     have hb0:qjq (none:Option PV) 0 hh=some 0:=rfl
     simp only [exec,ev,hv,KV.pv,qhf,hevO,hm,hhi,Option.map_none,hb0,chk,beq_self_eq_true,Bool.true_and,hmx',if_true,qcd.out]
     simp
    | some lo' =>
     obtain ⟨l,hl,hk⟩:=qcb hk
     have hlo:=hev (some lo') (by simp)
     simp only [Option.map_some] at hlo
     rw [hlo] at hl
     unfold qk7 at hl
     rw [hevO] at hl
     rcases qlt hk with ⟨h1,hk⟩ | ⟨h1,hk⟩
     ·unfold qrn at h1
      simp only [Bool.and_eq_true,Qbo,qvt] at h1
      refine ⟨_,hk,qcd.plain (v:=.cv (.sl k [] false)) rfl,?_⟩
      have h2:hh=l∧0 < l:=h1
      simp only [exec,ev,hv,KV.pv,qhf,hevO,hm,hhi,hl,chk,beq_self_eq_true,Bool.true_and,hmx',if_true,qcd.out,if_pos h2]
      rfl
     ·unfold qrn at h1
      simp only [Bool.and_eq_false_iff] at h1
      have h2:¬ (hh=l∧0 < l):=by
       rintro ⟨a,b⟩
       rcases h1 with h1 | h1
       ·rw [show eqN hh l=true from Qbo.2 a] at h1;cases h1
       ·rw [show ltN 0 l=true from qvt.2 b] at h1;cases h1
      refine ⟨_,hk,qcd.plain (v:=.arr nm k (qc1 o l) (subN hh l)) trivial,?_⟩
      simp only [exec,ev,hv,KV.pv,qhf,hevO,hm,hhi,hl,chk,beq_self_eq_true,Bool.true_and,hmx',if_true,qcd.out,if_neg h2,qc1,subN]
      rfl
   ·cases hk
  ·exact qlv h hx hk
 | fieldAddr off x =>
  simp only [qjn] at hk
  split at hk
  ·rename_i hv;exact ⟨_,hk,qcd.plain (by trivial),by simp [exec,ev,hv,KV.pv,qcd.out]⟩
  ·rename_i hv;exact ⟨_,hk,qcd.plain (by trivial),by simp [exec,ev,hv,KV.pv,qcd.out]⟩
  ·exact qlv h hx hk
 | field off n ag x =>
  have ha:=hkv (x:=x) (by simp [ROp.xs])
  simp only [qjn] at hk
  split at hk
  ·rename_i cs hv
   rw [hv] at ha
   have hcs:qgs cs:=ha
   split at hk
   ·rename_i hag
    split at hk
    ·rename_i hle
     refine ⟨_,hk,qcd.plain (v:=.agg ((cs.drop off).take n)) (qp8 (qp9 hcs _) _),?_⟩
     simp [exec,ev,hv,KV.pv,sel,hag,chk,qfi,hle,qcd.out,qq1,qq2]
    ·cases hk
   ·rename_i hag
    split at hk
    ·rename_i c hc
     refine ⟨_,hk,qcd.plain (qc8.1 hcs c (List.mem_of_getElem? hc)),?_⟩
     simp [exec,ev,hv,KV.pv,sel,hag,pvL_get?,hc,qcd.out]
    ·cases hk
  ·exact qlv h hx hk
 | idxAddr k x i =>
  simp only [qjn] at hk
  split at hk
  ·rename_i nm k' o n hv
   split at hk
   ·rename_i iv hi
    split at hk
    ·rename_i hkk
     obtain ⟨j,hj,hk⟩:=qcb hk
     obtain ⟨h1,hk⟩:=qbr hk
     rw [qvt] at h1
     unfold qvp at hj
     refine ⟨_,hk,qcd.plain (v:=.aref nm k (qc1 o j) 0) trivial,?_⟩
     simp [exec,ev,hv,KV.pv,KV.cl_pv hi,hj,chk,hkk,h1,qcd.out,qc1]
    ·cases hk
   ·cases hk
  ·exact qlv h hx hk
 | extract j x =>
  have ha:=hkv (x:=x) (by simp [ROp.xs])
  simp only [qjn] at hk
  split at hk
  ·rename_i xs hv
   rw [hv] at ha
   have hxs:qgs xs:=ha
   split at hk
   ·rename_i v hj
    refine ⟨_,hk,qcd.plain (qc8.1 hxs v (List.mem_of_getElem? hj)),?_⟩
    simp [exec,ev,hv,KV.pv,pvL_get?,hj,qcd.out]
   ·cases hk
  ·exact qlv h hx hk
 | len c x =>
  simp only [qjn] at hk
  split at hk
  ·rename_i nm k o n hv
   split at hk
   ·exact ⟨_,hk,qcd.plain (v:=.cv (nI n)) rfl,by simp [exec,ev,hv,KV.pv,Qgf,qcd.out,nI]⟩
   ·cases hk
  ·rename_i nm hv
   split at hk
   ·rename_i es hl
    exact ⟨_,hk,qcd.plain (v:=.cv (nI (halfN (qbv es)))) rfl,by simp [exec,ev,hv,KV.pv,Qgf,lk,hl,KOb.ob,qcd.out,nI,halfN,qbv]⟩
   ·cases hk
  ·exact qlv h hx hk
 | append k ty s x =>
  have ha:=hkv (x:=s) (by simp [ROp.xs])
  have hb:=hkv (x:=x) (by simp [ROp.xs])
  simp only [qjn] at hk
  obtain ⟨ys,hk,hyo,hys⟩:=Qlm h hb hk
  split at hk
  ·rename_i nm k' o n hv
   split at hk
   ·rename_i k'' kt xs hl
    split at hk
    ·rename_i hkk
     obtain ⟨rfl,rfl,rfl⟩:=hkk
     obtain ⟨h1,hk⟩:=qbr hk
     unfold qrn at h1
     simp only [Bool.and_eq_true,qzg,qbv,qc1] at h1
     have hxs:qca xs=true:=qdi h.ob hl
     refine ⟨_,hk,⟨trivial,by simp,?_,by simp⟩,?_⟩
     ·intro m o' e;cases e;exact qdw (qgx hxs n) hyo
     ·simp [exec,ev,hys,hv,KV.pv,lk,hl,KOb.ob,chk,h1.1,h1.2,qcd.out,qc1,qbv,ql3,qbw]
    ·cases hk
   ·cases hk
  ·rename_i hv
   obtain ⟨h1,hk⟩:=qbr hk
   simp only [qzg,qbv] at h1
   exact ⟨_,hk,qcd.one (o:=.arr k ty ys) trivial hyo,by simp [exec,ev,hys,hv,KV.pv,chk,h1,qcd.out,KOb.ob,qbv]⟩
  ·rename_i v hv
   obtain ⟨zs,hz,hk2⟩:=qcb hk
   rw [hv] at ha
   have hvo:okV v=true:=ha
   unfold appO at hz
   split at hz
   ·obtain ⟨h1,h2⟩:=qbr hz
    cases h2
    exact ⟨_,hk2,qcd.one (o:=.arr k ty ys) trivial hyo,by simp at h1;simp [exec,ev,hys,hv,KV.pv,chk,h1,qcd.out,KOb.ob,qbv]⟩
   ·rename_i k' xs
    split at hz
    ·cases hz
    ·rename_i y ys'
     obtain ⟨h1,h2⟩:=qbr hz
     cases h2
     simp only [Bool.and_eq_true,beq_iff_eq,decide_eq_true_eq] at h1
     obtain ⟨rfl,h1⟩:=h1
     refine ⟨_,hk2,qcd.one (o:=.arr k ty (xs++y :: ys')) trivial (qdw (by simpa [okV] using hvo) hyo),?_⟩
     simp [exec,ev,hys,hv,KV.pv,chk,h1,qcd.out,KOb.ob,qbv]
   ·cases hz
  ·cases hk
 | copy k x s =>
  have ha:=hkv (x:=x) (by simp [ROp.xs])
  have hb:=hkv (x:=s) (by simp [ROp.xs])
  simp only [qjn] at hk
  obtain ⟨ys,hk,hyo,hys⟩:=Qlm h hb hk
  split at hk
  ·rename_i nm k' o n hv
   split at hk
   ·rename_i k'' kt xs hl
    split at hk
    ·rename_i hkk
     obtain ⟨rfl,rfl⟩:=hkk
     obtain ⟨h1,hk⟩:=qbr hk
     simp only [qzg,qbv,qc1] at h1
     have hxs:qca xs=true:=qdi h.ob hl
     refine ⟨_,hk,qcd.turn (o:=.arr k kt _) rfl (qdw (qdw (qgx hxs o) (qgx hyo n)) (qja hxs _)),?_⟩
     simp [exec,ev,hys,hv,KV.pv,lk,hl,KOb.ob,chk,h1,qcd.out,qc1,qbv,ql3,qbw,qb5,nI,minN]
     omega
    ·cases hk
   ·cases hk
  ·rename_i hv
   exact ⟨_,hk,qcd.plain (v:=.cv (nI 0)) rfl,by simp [exec,ev,hys,hv,KV.pv,qcd.out,nI]⟩
  ·cases hk
 | iter x =>
  simp only [qjn] at hk
  split at hk
  ·rename_i v hv
   obtain ⟨s,hs,hk⟩:=qcb hk
   unfold strO at hs
   split at hs
   ·cases hs
    exact ⟨_,hk,qcd.one (o:=.siter s 0) trivial trivial,by simp [exec,ev,KV.cl_pv hv,qcd.out,KV.pv,KOb.ob]⟩
   ·cases hs
  ·cases hk
 | next x =>
  simp only [qjn] at hk
  split at hk
  ·rename_i nm hv
   split at hk
   ·rename_i s pos hl
    rcases qlt hk with ⟨h1,hk⟩ | ⟨h1,hk⟩
    ·rw [qvt] at h1
     unfold lenS at h1
     refine ⟨_,hk,qcd.turn (o:=.siter s (qc1 pos (runeN s pos))) (v:=.tup [.lit true,.cv (nI pos),.cv (runeP s pos)]) ⟨trivial,rfl,rfl,trivial⟩ trivial,?_⟩
     simp [exec,ev,hv,KV.pv,lk,hl,KOb.ob,h1,qcd.out,pvL,nI,runeP,runeN,qc1]
    ·have h2:¬ pos < s.length:=by
      intro h3;rw [show ltN pos (lenS s)=true from qvt.2 h3] at h1;cases h1
     refine ⟨_,hk,qcd.plain (v:=.tup [.lit false]) ⟨trivial,trivial⟩,?_⟩
     simp [exec,ev,hv,KV.pv,lk,hl,KOb.ob,h2,qcd.out,pvL]
   ·cases hk
  ·cases hk
 | tassert t z ok x =>
  have ha:=hkv (x:=x) (by simp [ROp.xs])
  simp only [qjn] at hk
  split at hk
  ·rename_i u y hv
   rw [hv] at ha
   have hy:y.ok:=ha
   split at hk
   ·rename_i hut
    refine ⟨_,hk,qcd.plain ?_,?_⟩
    ·split
     ·exact ⟨hy,trivial,trivial⟩
     ·exact hy
    ·simp only [exec,ev,hv,KV.pv,hut,if_true,qcd.out]
     cases ok<;>simp [KV.pv,pvL]
   ·rename_i hut
    split at hk
    ·rename_i hz
     refine ⟨_,hk,qcd.plain (v:=.tup [.cv z,.lit false]) ⟨hz.2,trivial,trivial⟩,?_⟩
     simp [exec,ev,hv,KV.pv,hut,chk,hz.1,qcd.out,pvL]
    ·cases hk
  ·exact qlv h hx hk
 | call f args=>cases hk
 | bad=>cases hk
 | conv k x=>exact qlv h hx hk
 | toBytes x=>exact qlv h hx hk
 | ofBytes x=>exact qlv h hx hk
 | ofRune x=>exact qlv h hx hk
 | strId x=>exact qlv h hx hk
 | strSlice x lo hi=>exact qlv h hx hk
 | idxAddrA k l x i=>exact qlv h hx hk
 | strIdx x i=>exact qlv h hx hk
 | minmax mx xs=>exact qlv h hx hk
end Go.Ab


namespace Go.Ab
theorem KOb.ren_ob (f:Nm→Nm) {o:KOb} (h:o.ok):(o.ren f).ob=o.ob.ren f:=by
 cases o with
 | cells ty cs=>simp [KOb.ren,KOb.ob,Ob.ren,qvl f h]
 | whole ty v =>
  have:=(qb9 (qcv h)).1
  simp only [KOb.ren,KOb.ob,Ob.ren,qf7]
  rw [qp7 this]
 | _=>rfl
theorem KOb.ren_ok (f:Nm→Nm) {o:KOb} (h:o.ok):(o.ren f).ok:=by
 cases o with
 | cells ty cs=>exact qrc f h
 | _=>exact h
theorem qyo (f:Nm→Nm) (xs ys:List PV):qjl f (xs++ys)=qjl f xs++qjl f ys:=by
 induction xs with
 | nil=>rfl
 | cons x xs ih=>simp [qjl,ih]
def Seg (vs:List PV) (i:Nat) (l:List PV):Prop:=∀ m v,l[m]?=some v→nth vs (i+m)=v
theorem Seg.left {vs:List PV} {i:Nat} {a b:List PV} (h:Seg vs i (a++b)):Seg vs i a:=fun m v hm=>h m v (by
 rw [List.getElem?_append_left (List.getElem?_eq_some_iff.1 hm).1];exact hm)
theorem Seg.right {vs:List PV} {i:Nat} {a b:List PV} (h:Seg vs i (a++b)):Seg vs (i+a.length) b:=fun m v hm=>by
 have:=h (a.length+m) v (by rw [List.getElem?_append_right (by omega)];simpa using hm)
 rw [← this,Nat.add_assoc]
theorem Seg.head {vs:List PV} {i:Nat} {x:PV} {l:List PV} (h:Seg vs i (x :: l)):nth vs i=x:=h 0 x rfl
theorem Seg.all (vs:List PV):Seg vs 0 vs:=fun m v hm=>by
 unfold nth;rw [List.getD_eq_getElem?_getD,Nat.zero_add,hm];rfl
theorem qzf {x:KV} (hx:x.ok) (hf:x.cl.isSome=true) {vs:List PV} {i:Nat} (h:Seg vs i [x.cl.getD .undef]):(KV.cv (nth vs i)).pv=x.pv∧(KV.cv (nth vs i)).ok:=by
 obtain ⟨v,hv⟩:=Option.isSome_iff_exists.1 hf
 have:=h.head
 rw [hv] at this
 simp only [Option.getD_some] at this
 rw [this]
 exact ⟨(KV.cl_pv hv).symm,KV.cl_ok hx hv⟩
theorem un_fill {p:KV} {vs:List PV} {i:Nat} (h:qsi p=false):qsi (fill p vs i).1=false:=by
 cases p<;>simp [qsi] at h<;>simp only [fill]<;>first | rfl | (split<;>rfl)
mutual
theorem Qnt:∀ (p x:KV),qh6 p x=true→x.ok→∀ (vs:List PV) (i:Nat),Seg vs i (qds p x)→(fill p vs i).1.pv=x.pv∧(fill p vs i).1.ok∧(fill p vs i).2=i+(qds p x).length
 | .un,x,h,_,vs,i,_=>by cases x<;>simp [qh6] at h;exact ⟨rfl,trivial,rfl⟩
 | .sk,x,h,_,vs,i,_=>by cases x<;>simp [qh6] at h;exact ⟨rfl,trivial,rfl⟩
 | .yld d,x,h,_,vs,i,hs=>by
  cases x with
  | yld d' =>
   have h1:nth vs i=nI d':=hs.head
   simp [fill,KV.pv,h1,nI,qbj,KV.ok,qds]
  | _=>simp [qh6] at h
 | .ref nm o,x,h,_,vs,i,_=>by cases x<;>simp [qh6] at h;obtain ⟨rfl,rfl⟩:=h;exact ⟨rfl,trivial,rfl⟩
 | .aref _ _ _ _,x,h,_,vs,i,_=>by simp [qh6] at h
 | .mp nm,x,h,_,vs,i,_=>by cases x<;>simp [qh6] at h;subst h;exact ⟨rfl,trivial,rfl⟩
 | .it nm,x,h,_,vs,i,_=>by cases x<;>simp [qh6] at h;subst h;exact ⟨rfl,trivial,rfl⟩
 | .wit nm,x,h,_,vs,i,_=>by cases x<;>simp [qh6] at h;subst h;exact ⟨rfl,trivial,rfl⟩
 | .arr nm k o n,x,h,_,vs,i,hs=>by
  cases x with
  | arr nm' k' o' n' =>
   simp only [qh6,Bool.and_eq_true,beq_iff_eq] at h
   obtain ⟨⟨rfl,rfl⟩,ho⟩:=h
   have:=Nat.eq_of_beq_eq_true ho
   subst this
   have h1:nth vs i=nI n':=hs.head
   simp [fill,KV.pv,h1,nI,qbj,KV.ok,qds]
  | _=>simp [qh6] at h
 | .lit b,x,h,hx,vs,i,hs=>by
  have:=qzf hx (by simpa [qh6] using h) (by simpa [qds] using hs)
  exact ⟨this.1,this.2,by simp [fill,qds]⟩
 | .nils,x,h,hx,vs,i,hs=>by
  have:=qzf hx (by simpa [qh6] using h) (by simpa [qds] using hs)
  exact ⟨this.1,this.2,by simp [fill,qds]⟩
 | .cv v,x,h,hx,vs,i,hs=>by
  have:=qzf hx (by simpa [qh6] using h) (by simpa [qds] using hs)
  exact ⟨this.1,this.2,by simp [fill,qds]⟩
 | .fn f cap,x,h,hx,vs,i,hs=>by
  cases x with
  | fn f' cap' =>
   simp only [qh6,Bool.and_eq_true,beq_iff_eq] at h
   obtain ⟨rfl,h⟩:=h
   obtain ⟨a,b,c⟩:=qrg cap cap' h hx vs i (by simpa [qds] using hs)
   exact ⟨by simp [fill,KV.pv,a],b,by simp [fill,qds,c]⟩
  | _=>simp [qh6] at h
 | .tup xs,x,h,hx,vs,i,hs=>by
  cases x with
  | tup ys =>
   simp only [qh6] at h
   obtain ⟨a,b,c⟩:=qrg xs ys h hx vs i (by simpa [qds] using hs)
   exact ⟨by simp [fill,KV.pv,a],b,by simp [fill,qds,c]⟩
  | _=>simp [qh6] at h
 | .agg cs,x,h,hx,vs,i,hs=>by
  simp only [qh6] at h
  simp only [qds] at hs
  by_cases hc:(clL cs).isSome=true
  ·rw [if_pos hc] at h hs
   have:=qzf hx h hs
   simp only [fill,hc,if_true]
   exact ⟨this.1,this.2,by simp [qds,hc]⟩
  ·rw [if_neg hc] at h hs
   cases x with
   | agg cs' =>
    obtain ⟨a,b,c⟩:=qrg cs cs' h hx vs i hs
    simp only [fill,if_neg hc]
    exact ⟨by simp [KV.pv,a],b,by simp [qds,hc,c]⟩
   | _=>simp at h
 | .iface t y,x,h,hx,vs,i,hs=>by
  simp only [qh6] at h
  simp only [qds] at hs
  by_cases hc:y.cl.isSome=true
  ·rw [if_pos hc] at h hs
   have:=qzf hx h hs
   simp only [fill,hc,if_true]
   exact ⟨this.1,this.2,by simp [qds,hc]⟩
  ·rw [if_neg hc] at h hs
   cases x with
   | iface t' y' =>
    simp only [Bool.and_eq_true,beq_iff_eq] at h
    obtain ⟨rfl,h⟩:=h
    obtain ⟨a,b,c⟩:=Qnt y y' h hx vs i hs
    simp only [fill,if_neg hc]
    exact ⟨by simp [KV.pv,a],b,by simp [qds,hc,c]⟩
   | _=>simp at h
theorem qrg:∀ (ps xs:List KV),Qcf ps xs=true→qgs xs→∀ (vs:List PV) (i:Nat),Seg vs i (qjd ps xs)→pvL (qjz ps vs i).1=pvL xs∧qgs (qjz ps vs i).1∧(qjz ps vs i).2=i+(qjd ps xs).length
 | [],xs,h,_,vs,i,_=>by cases xs<;>simp [Qcf] at h;exact ⟨rfl,trivial,rfl⟩
 | p :: ps,xs,h,hx,vs,i,hs=>by
  cases xs with
  | nil=>simp [Qcf] at h
  | cons x xs =>
   simp only [Qcf,Bool.and_eq_true] at h
   simp only [qjd] at hs
   obtain ⟨a,b,c⟩:=Qnt p x h.1 hx.1 vs i hs.left
   obtain ⟨a',b',c'⟩:=qrg ps xs h.2 hx.2 vs (fill p vs i).2 (by rw [c];exact hs.right)
   refine ⟨by simp [qjz,pvL,a,a'],⟨b,b'⟩,?_⟩
   simp only [qjz,qjd,List.length_append]
   rw [c',c]
   omega
end
theorem fillOb_ok (p x:KOb) (h:qkx p x=true) (hx:x.ok) (vs:List PV) (i:Nat) (hs:Seg vs i (qhm p x)):(qd6 p vs i).1.ob=x.ob∧(qd6 p vs i).1.ok∧(qd6 p vs i).2=i+(qhm p x).length:=by
 cases p with
 | cells ty cs =>
  cases x with
  | cells ty' cs' =>
   simp only [qkx,Bool.and_eq_true,beq_iff_eq] at h
   obtain ⟨rfl,h⟩:=h
   obtain ⟨a,b,c⟩:=qrg cs cs' h hx vs i (by simpa [qhm] using hs)
   exact ⟨by simp [qd6,KOb.ob,a],b,by simp [qd6,qhm,c]⟩
  | _=>simp [qkx] at h
 | whole ty w =>
  cases x with
  | whole ty' v =>
   simp only [qkx,beq_iff_eq] at h
   subst h
   have:nth vs i=v:=hs.head
   exact ⟨by simp [qd6,KOb.ob,this],by simp only [qd6,this];exact hx,by simp [qd6,qhm]⟩
  | _=>simp [qkx] at h
 | arr k kt ws =>
  cases x with
  | arr k' kt' xs =>
   simp only [qkx,Bool.and_eq_true,beq_iff_eq] at h
   obtain ⟨rfl,rfl⟩:=h
   have:nth vs i=.sl k xs false:=hs.head
   exact ⟨by simp [qd6,KOb.ob,this,qbd],by simp only [qd6,this,qbd];exact hx,by simp [qd6,qhm]⟩
  | _=>simp [qkx] at h
 | map ws =>
  cases x with
  | map es =>
   have:nth vs i=.imap es:=hs.head
   exact ⟨by simp [qd6,KOb.ob,this,qcw],by simp only [qd6,this,qcw];exact hx,by simp [qd6,qhm]⟩
  | _=>simp [qkx] at h
 | siter s0 p0 =>
  cases x with
  | siter s pos =>
   have h1:nth vs i=.str s:=hs.head
   have h2:nth vs (i+1)=nI pos:=hs 1 _ rfl
   exact ⟨by simp [qd6,KOb.ob,h1,h2,strP,qbj,nI],trivial,by simp [qd6,qhm]⟩
  | _=>simp [qkx] at h
theorem qwb:∀ (ps xs:List KOb),qjf ps xs=true→(∀ o∈xs,o.ok)→∀ (vs:List PV) (i:Nat),Seg vs i (qjc ps xs)→(qdl ps vs i).1.map KOb.ob=xs.map KOb.ob∧(∀ o∈(qdl ps vs i).1,o.ok)∧(qdl ps vs i).2=i+(qjc ps xs).length
 | [],[],_,_,vs,i,_=>⟨rfl,by simp [qdl],rfl⟩
 | [],_ :: _,h,_,_,_,_=>by simp [qjf] at h
 | _ :: _,[],h,_,_,_,_=>by simp [qjf] at h
 | p :: ps,x :: xs,h,hx,vs,i,hs=>by
  simp only [qjf,Bool.and_eq_true] at h
  simp only [qjc] at hs
  obtain ⟨a,b,c⟩:=fillOb_ok p x h.1 (hx x (by simp)) vs i hs.left
  obtain ⟨a',b',c'⟩:=qwb ps xs h.2 (fun o ho=>hx o (by simp [ho])) vs (qd6 p vs i).2 (by rw [c];exact hs.right)
  refine ⟨by simp [qdl,a,a'],?_,?_⟩
  ·intro o ho
   simp only [qdl,List.mem_cons] at ho
   rcases ho with rfl | ho
   ·exact b
   ·exact b' o ho
  ·simp only [qdl,qjc,List.length_append]
   rw [c',c]
   omega
mutual
theorem qz8:∀ (p:KV) (x:PV) {l:List PV},qre p x=some l→∀ (vs:List PV) (i:Nat),Seg vs i l→(fill p vs i).1.pv=x∧(fill p vs i).1.ok∧(fill p vs i).2=i+l.length
 | .un,x,l,h,vs,i,_=>by cases x<;>simp [qre] at h;subst h;exact ⟨rfl,trivial,rfl⟩
 | .sk,x,l,h,vs,i,_=>by
  simp only [qre] at h
  split at h
  ·cases h;exact ⟨rfl,trivial,rfl⟩
  ·cases h
 | .yld d,x,l,h,vs,i,hs=>by
  cases x with
  | yld d' =>
   simp only [qre] at h
   cases h
   have h1:nth vs i=nI d':=hs.head
   simp [fill,KV.pv,h1,nI,qbj,KV.ok]
  | _=>simp [qre] at h
 | .aref _ _ _ _,x,l,h,vs,i,_=>by simp [qre] at h
 | .wit nm,x,l,h,vs,i,_=>by
  simp only [qre] at h
  split at h
  ·obtain ⟨h1,h2⟩:=qbr h
   simp at h1 h2;subst h1;subst h2;exact ⟨rfl,trivial,rfl⟩
  ·cases h
 | .ref nm o,x,l,h,vs,i,_=>by
  cases x<;>simp [qre] at h
  obtain ⟨h1,h2⟩:=qbr h
  simp at h1 h2;obtain ⟨rfl,rfl⟩:=h1;subst h2;exact ⟨rfl,trivial,rfl⟩
 | .mp nm,x,l,h,vs,i,_=>by
  cases x<;>simp [qre] at h
  obtain ⟨h1,h2⟩:=qbr h
  simp at h1 h2;subst h1;subst h2;exact ⟨rfl,trivial,rfl⟩
 | .it nm,x,l,h,vs,i,_=>by
  cases x<;>simp [qre] at h
  obtain ⟨h1,h2⟩:=qbr h
  simp at h1 h2;subst h1;subst h2;exact ⟨rfl,trivial,rfl⟩
 | .arr nm k o n,x,l,h,vs,i,hs=>by
  cases x with
  | arr nm' k' o' n' =>
   simp only [qre] at h
   obtain ⟨h1,h2⟩:=qbr h
   cases h2
   simp only [Bool.and_eq_true,beq_iff_eq] at h1
   obtain ⟨⟨rfl,rfl⟩,ho⟩:=h1
   have:=Nat.eq_of_beq_eq_true ho
   subst this
   have h1:nth vs i=nI n':=hs.head
   simp [fill,KV.pv,h1,nI,qbj,KV.ok]
  | _=>simp [qre] at h
 | .lit b,x,l,h,vs,i,hs=>by
  simp only [qre] at h
  obtain ⟨h1,h2⟩:=qbr h
  cases h2
  have:=hs.head
  exact ⟨this,by simp only [fill,KV.ok,this];exact h1,rfl⟩
 | .nils,x,l,h,vs,i,hs=>by
  simp only [qre] at h
  obtain ⟨h1,h2⟩:=qbr h
  cases h2
  have:=hs.head
  exact ⟨this,by simp only [fill,KV.ok,this];exact h1,rfl⟩
 | .cv v,x,l,h,vs,i,hs=>by
  simp only [qre] at h
  obtain ⟨h1,h2⟩:=qbr h
  cases h2
  have:=hs.head
  exact ⟨this,by simp only [fill,KV.ok,this];exact h1,rfl⟩
 | .fn f cap,x,l,h,vs,i,hs=>by
  cases x with
  | fn f' cap' =>
   simp only [qre] at h
   split at h
   ·rename_i hf
    subst hf
    obtain ⟨a,b,c⟩:=qno cap cap' h vs i hs
    exact ⟨by simp [fill,KV.pv,a],b,c⟩
   ·cases h
  | _=>simp [qre] at h
 | .tup xs,x,l,h,vs,i,hs=>by
  cases x with
  | tup ys =>
   simp only [qre] at h
   obtain ⟨a,b,c⟩:=qno xs ys h vs i hs
   exact ⟨by simp [fill,KV.pv,a],b,c⟩
  | _=>simp [qre] at h
 | .agg cs,x,l,h,vs,i,hs=>by
  simp only [qre] at h
  by_cases hc:(clL cs).isSome=true
  ·rw [if_pos hc] at h
   obtain ⟨h1,h2⟩:=qbr h
   cases h2
   have:=hs.head
   simp only [fill,hc,if_true]
   exact ⟨this,by simp only [KV.ok,this];exact h1,rfl⟩
  ·rw [if_neg hc] at h
   cases x with
   | agg cs' =>
    obtain ⟨a,b,c⟩:=qno cs cs' h vs i hs
    simp only [fill,if_neg hc]
    exact ⟨by simp [KV.pv,a],b,c⟩
   | _=>simp at h
 | .iface t y,x,l,h,vs,i,hs=>by
  simp only [qre] at h
  by_cases hc:y.cl.isSome=true
  ·rw [if_pos hc] at h
   obtain ⟨h1,h2⟩:=qbr h
   cases h2
   have:=hs.head
   simp only [fill,hc,if_true]
   exact ⟨this,by simp only [KV.ok,this];exact h1,rfl⟩
  ·rw [if_neg hc] at h
   cases x with
   | iface t' y' =>
    simp only at h
    split at h
    ·rename_i ht
     subst ht
     obtain ⟨a,b,c⟩:=qz8 y y' h vs i hs
     simp only [fill,if_neg hc]
     exact ⟨by simp [KV.pv,a],b,c⟩
    ·cases h
   | _=>simp at h
theorem qno:∀ (ps:List KV) (xs:List PV) {l:List PV},qz9 ps xs=some l→∀ (vs:List PV) (i:Nat),Seg vs i l→pvL (qjz ps vs i).1=xs∧qgs (qjz ps vs i).1∧(qjz ps vs i).2=i+l.length
 | [],xs,l,h,vs,i,_=>by cases xs<;>simp [qz9] at h;subst h;exact ⟨rfl,trivial,rfl⟩
 | p :: ps,xs,l,h,vs,i,hs=>by
  cases xs with
  | nil=>simp [qz9] at h
  | cons y ys =>
   simp only [qz9] at h
   split at h
   ·rename_i a b ha hb
    cases h
    obtain ⟨a1,a2,a3⟩:=qz8 p y ha vs i hs.left
    obtain ⟨b1,b2,b3⟩:=qno ps ys hb vs (fill p vs i).2 (by rw [a3];exact hs.right)
    refine ⟨by simp [qjz,pvL,a1,b1],⟨a2,b2⟩,?_⟩
    simp only [qjz,List.length_append]
    rw [b3,a3];omega
   ·cases h
end
theorem Qns (p:KOb) (x:Ob) {l:List PV} (h:qkj p x=some l) (vs:List PV) (i:Nat) (hs:Seg vs i l):(qd6 p vs i).1.ob=x∧(qd6 p vs i).1.ok∧(qd6 p vs i).2=i+l.length:=by
 cases p with
 | cells ty cs =>
  cases x with
  | cells ty' cs' =>
   simp only [qkj] at h
   split at h
   case isFalse=>cases h
   rename_i hty
   subst hty
   obtain ⟨a,b,c⟩:=qno cs cs' h vs i hs
   exact ⟨by simp [qd6,KOb.ob,a],b,c⟩
  | _=>simp [qkj] at h
 | whole ty w =>
  cases x with
  | cells ty' cs' =>
   simp only [qkj] at h
   obtain ⟨h1,h2⟩:=qbr h
   cases h2
   simp only [Bool.and_eq_true,beq_iff_eq] at h1
   obtain ⟨rfl,h1⟩:=h1
   have:nth vs i=.agg cs':=hs.head
   exact ⟨by simp [qd6,KOb.ob,this,qf7,PV.cells],by simp only [qd6,this];simpa [KOb.ok,okV] using h1,rfl⟩
  | _=>simp [qkj] at h
 | arr k kt ws =>
  cases x with
  | arr k' kt' xs =>
   simp only [qkj] at h
   obtain ⟨h1,h2⟩:=qbr h
   cases h2
   simp only [Bool.and_eq_true,beq_iff_eq] at h1
   obtain ⟨⟨rfl,rfl⟩,h1⟩:=h1
   have:nth vs i=.sl k xs false:=hs.head
   exact ⟨by simp [qd6,KOb.ob,this,qbd],by simp only [qd6,this,qbd];exact h1,rfl⟩
  | _=>simp [qkj] at h
 | map ws =>
  cases x with
  | map es =>
   simp only [qkj] at h
   obtain ⟨h1,h2⟩:=qbr h
   cases h2
   have:nth vs i=.imap es:=hs.head
   exact ⟨by simp [qd6,KOb.ob,this,qcw],by simp only [qd6,this,qcw];exact h1,rfl⟩
  | _=>simp [qkj] at h
 | siter s0 p0 =>
  cases x with
  | siter s pos =>
   simp only [qkj] at h
   cases h
   have h1:nth vs i=.str s:=hs.head
   have h2:nth vs (i+1)=nI pos:=hs 1 _ rfl
   exact ⟨by simp [qd6,KOb.ob,h1,h2,strP,qbj,nI],trivial,rfl⟩
  | _=>simp [qkj] at h
theorem qqn:∀ (ps:List KOb) (xs:List Ob) {l:List PV},qpk ps xs=some l→∀ (vs:List PV) (i:Nat),Seg vs i l→(qdl ps vs i).1.map KOb.ob=xs∧(∀ o∈(qdl ps vs i).1,o.ok)∧(qdl ps vs i).2=i+l.length
 | [],xs,l,h,vs,i,_=>by cases xs<;>simp [qpk] at h;subst h;exact ⟨rfl,by simp [qdl],rfl⟩
 | p :: ps,xs,l,h,vs,i,hs=>by
  cases xs with
  | nil=>simp [qpk] at h
  | cons y ys =>
   simp only [qpk] at h
   split at h
   ·rename_i a b ha hb
    cases h
    obtain ⟨a1,a2,a3⟩:=Qns p y ha vs i hs.left
    obtain ⟨b1,b2,b3⟩:=qqn ps ys hb vs (qd6 p vs i).2 (by rw [a3];exact hs.right)
    refine ⟨by simp [qdl,a1,b1],?_,?_⟩
    ·intro o ho
     simp only [qdl,List.mem_cons] at ho
     rcases ho with rfl | ho
     ·exact a2
     ·exact b2 o ho
    ·simp only [qdl,List.length_append]
     rw [b3,a3];omega
   ·cases h
mutual
theorem ren_ren (f g:Nm→Nm):∀ (x:PV),(x.ren f).ren g=x.ren fun m=>g (f m)
 | .agg cs=>by simp [PV.ren,qp6 f g cs]
 | .iface t x=>by simp [PV.ren,ren_ren f g x]
 | .fn h cap=>by simp [PV.ren,qp6 f g cap]
 | .tup xs=>by simp [PV.ren,qp6 f g xs]
 | .undef | .bool _ | .int _ _ | .str _ | .nilS | .nilP | .nilF | .nilI | .nilM | .sl _ _ _ | .ptr _ _ | .yld _ | .imap _ | .glob _ _ | .ref _ _ | .aref _ _ _ _ | .arr _ _ _ _ | .mp _ | .it _=>by simp [PV.ren]
theorem qp6 (f g:Nm→Nm):∀ (xs:List PV),qjl g (qjl f xs)=qjl (fun m=>g (f m)) xs
 | []=>rfl
 | x :: xs=>by simp [qjl,ren_ren f g x,qp6 f g xs]
end
mutual
theorem ren_congr {f g:Nm→Nm}:∀ {x:PV},(∀ m∈x.names,f m=g m)→x.ren f=x.ren g
 | .agg cs,h=>by simp only [PV.ren];rw [qm6 (xs:=cs) h]
 | .iface t x,h=>by simp only [PV.ren];rw [ren_congr (x:=x) h]
 | .fn _ cap,h=>by simp only [PV.ren];rw [qm6 (xs:=cap) h]
 | .tup xs,h=>by simp only [PV.ren];rw [qm6 (xs:=xs) h]
 | .ref nm _,h | .aref nm _ _ _,h | .arr nm _ _ _,h | .mp nm,h | .it nm,h=>by simp only [PV.ren];rw [h nm (by simp [PV.names])]
 | .undef,_ | .bool _,_ | .int _ _,_ | .str _,_ | .nilS,_ | .nilP,_ | .nilF,_ | .nilI,_ | .nilM,_ | .sl _ _ _,_ | .ptr _ _,_ | .yld _,_ | .imap _,_ | .glob _ _,_=>by simp [PV.ren]
theorem qm6 {f g:Nm→Nm}:∀ {xs:List PV},(∀ m∈qbo xs,f m=g m)→qjl f xs=qjl g xs
 | [],_=>rfl
 | x :: xs,h=>by
  simp only [qjl]
  rw [ren_congr (x:=x) fun m hm=>h m (List.mem_append_left _ hm),qm6 (xs:=xs) fun m hm=>h m (List.mem_append_right _ hm)]
end
mutual
theorem cut_names {p:Nm→Bool}:∀ {x:PV} {m:Nm},m∈(x.sub fun m=>if p m then none else some none).names→p m=true
 | .agg cs,m,h=>qnx (xs:=cs) (by simpa [PV.sub,PV.names] using h)
 | .iface t x,m,h=>cut_names (x:=x) (by simpa [PV.sub,PV.names] using h)
 | .fn _ cap,m,h=>qnx (xs:=cap) (by simpa [PV.sub,PV.names] using h)
 | .tup xs,m,h=>qnx (xs:=xs) (by simpa [PV.sub,PV.names] using h)
 | .ref nm _,m,h | .aref nm _ _ _,m,h | .arr nm _ _ _,m,h | .mp nm,m,h | .it nm,m,h=>by
  simp only [PV.sub] at h
  cases hp:p nm with
  | true=>simp [hp,PV.names] at h;rw [h];exact hp
  | false=>simp [hp,PV.names] at h
 | .undef,m,h | .bool _,m,h | .int _ _,m,h | .str _,m,h | .nilS,m,h | .nilP,m,h | .nilF,m,h | .nilI,m,h | .nilM,m,h | .sl _ _ _,m,h | .ptr _ _,m,h | .yld _,m,h | .imap _,m,h | .glob _ _,m,h=>by simp [PV.sub,PV.names] at h
theorem qnx {p:Nm→Bool}:∀ {xs:List PV} {m:Nm},m∈qbo (qf9 (fun m=>if p m then none else some none) xs)→p m=true
 | [],m,h=>by simp [qf9,qbo] at h
 | x :: xs,m,h=>by
  simp only [qf9,qbo] at h
  rcases List.mem_append.1 h with h | h
  ·exact cut_names h
  ·exact qnx h
end
theorem Ob.ren_ren (f g:Nm→Nm) (o:Ob):(o.ren f).ren g=o.ren fun m=>g (f m):=by
 cases o<;>simp [Ob.ren,qp6]
theorem Ob.ren_congr {f g:Nm→Nm} {o:Ob} (h:∀ m∈o.names,f m=g m):o.ren f=o.ren g:=by
 cases o with
 | cells ty cs=>simp only [Ob.ren];rw [qm6 h]
 | _=>rfl
theorem Ob.cut_names {p:Nm→Bool} {o:Ob} {m:Nm} (h:m∈(o.sub fun m=>if p m then none else some none).names):p m=true:=by
 cases o with
 | cells ty cs=>exact qnx h
 | _=>simp [Ob.sub,Ob.names] at h
theorem Qm8 (g:Nm→Nm):∀ (B:List (Nm×Nm)) (m:Nm),(B.map fun p=>(p.1,g p.2)).lookup m=(B.lookup m).map g:=by
 intro B
 induction B with
 | nil=>intro m;rfl
 | cons p B ih =>
  obtain ⟨a,b⟩:=p
  intro m
  simp only [List.map_cons,List.lookup_cons]
  split<;>simp_all
theorem Qm7 {B:List (Nm×Nm)}:∀ {m:Nm},(B.map (·.1)).contains m=true→∃ t,B.lookup m=some t:=by
 induction B with
 | nil=>intro m h;simp at h
 | cons p B ih =>
  obtain ⟨a,b⟩:=p
  intro m h
  rw [List.lookup_cons]
  split
  ·exact ⟨_,rfl⟩
  ·rename_i hne
   refine ih ?_
   simp only [List.map_cons,List.contains_cons,hne,Bool.false_or] at h
   exact h
theorem ioEnd_ren {R:List Nm} {sl:Option Nat} {d i0:Nat} {st:St} {v:PV} {out:Out} (h:qv2 none 1 0 (qjh R.length) st v=some out) :
  qv2 sl d i0 R st v=some { v:=out.v.ren (qrd R d i0),new:=out.new.map (Ob.ren (qrd R d i0)),gone:=out.gone.map (qrd R d i0),ups:=R.zip (out.ups.map fun p=>p.2.ren (qrd R d i0)),io:=true,slot:=sl }:=by
 have hcl:(qjh R.length).length=R.length:=by simp [qjh]
 have hA:qhr R st.keep=(qhr (qjh R.length) st.keep).map fun p=>(p.1,qrd R d i0 p.2):=by
  apply List.ext_getElem?
  intro i
  simp only [qhr,List.getElem?_map,List.getElem?_zipIdx,Nat.zero_add,qjh]
  by_cases hi:i < R.length
  ·rw [List.getElem?_eq_getElem hi,List.getElem?_range hi]
   simp [qrd,List.getD_eq_getElem?_getD,List.getElem?_eq_getElem hi]
  ·rw [List.getElem?_eq_none_iff.2 (by omega),List.getElem?_eq_none_iff.2 (by simp;omega)]
   rfl
 have hF:(qhr R st.keep).map (·.1)=(qhr (qjh R.length) st.keep).map (·.1):=by
  rw [hA,List.map_map];rfl
 have hN:qzt (qbq st.objs) (qhr R st.keep) v=qzt (qbq st.objs) (qhr (qjh R.length) st.keep) v:=by
  unfold qzt
  rw [hF]
  have:∀ A A':List (Nm×Nm),A.map (·.1)=A'.map (·.1)→(A.flatMap fun p=>((qbq st.objs p.1).map Ob.names).getD [])=A'.flatMap fun p=>((qbq st.objs p.1).map Ob.names).getD []:=by
   intro A A' h
   have e:∀ A:List (Nm×Nm),(A.flatMap fun p=>((qbq st.objs p.1).map Ob.names).getD [])=(A.map (·.1)).flatMap fun m=>((qbq st.objs m).map Ob.names).getD []:=by
    intro A;rw [List.flatMap_map]
   rw [e,e,h]
  rw [this _ _ hF]
 unfold qv2 at h ⊢
 simp only at h ⊢
 rw [hN]
 generalize qzt (qbq st.objs) (qhr (qjh R.length) st.keep) v=N at h ⊢
 generalize hA0:qhr (qjh R.length) st.keep=A0 at h hA
 generalize hB0:(A0++N.zipIdx.map fun p=>(p.1,(1,0+p.2)))=B0 at h
 have hB:qhr R st.keep++N.zipIdx.map (fun p=>(p.1,(d,i0+p.2)))=B0.map fun p=>(p.1,qrd R d i0 p.2):=by
  rw [← hB0,List.map_append,hA,List.map_map]
  congr 1
  exact List.map_congr_left fun p _=>by simp [qrd]
 rw [hB]
 have hBf:(B0.map fun p=>(p.1,qrd R d i0 p.2)).map (·.1)=B0.map (·.1):=by rw [List.map_map];rfl
 rw [hBf]
 obtain ⟨h1,h2⟩:=qfd h
 cases h2
 have hnm:∀ m,(B0.map (·.1)).contains m=true→((B0.map fun p=>(p.1,qrd R d i0 p.2)).lookup m).getD m=qrd R d i0 ((B0.lookup m).getD m):=by
  intro m hm
  obtain ⟨t,ht⟩:=Qm7 hm
  rw [Qm8,ht];rfl
 have hob:∀ nm,ioOb (qbq st.objs) (B0.map fun p=>(p.1,qrd R d i0 p.2)) nm=(ioOb (qbq st.objs) B0 nm).ren (qrd R d i0):=by
  intro nm
  unfold ioOb
  rw [hBf,Ob.ren_ren]
  exact Ob.ren_congr fun m hm=>hnm m (Ob.cut_names hm)
 simp only [chk,h1,if_true,Option.some.injEq,Out.mk.injEq,true_and,and_true]
 refine ⟨?_,?_,?_,?_⟩
 ·rw [ren_ren]
  exact ren_congr fun m hm=>hnm m (cut_names hm)
 ·rw [List.map_map]
  exact List.map_congr_left fun m _=>hob m
 ·simp only [qw2]
  apply List.ext_getElem?
  intro i
  have e:(R.zipIdx.filter fun p=>(qrx (st.keep.getD p.2 .undef)).isNone).map (·.1)=(((qjh R.length).zipIdx.filter fun p=>(qrx (st.keep.getD p.2 .undef)).isNone).map (·.1)).map (qrd R d i0):=by
   have hz:R.zipIdx=(qjh R.length).zipIdx.map fun p=>(qrd R d i0 p.1,p.2):=by
    apply List.ext_getElem?
    intro i
    simp only [List.getElem?_map,List.getElem?_zipIdx,Nat.zero_add,qjh]
    by_cases hi:i < R.length
    ·rw [List.getElem?_eq_getElem hi,List.getElem?_range hi]
     simp [qrd,List.getD_eq_getElem?_getD,List.getElem?_eq_getElem hi]
    ·rw [List.getElem?_eq_none_iff.2 (by omega),List.getElem?_eq_none_iff.2 (by simp;omega)]
     rfl
   rw [hz,List.filter_map,List.map_map,List.map_map]
   rfl
  rw [e]
 ·have hR2:A0.map (fun p=>qrd R d i0 p.2)=R:=by
   rw [← hA0]
   apply List.ext_getElem?
   intro i
   simp only [qhr,List.getElem?_map,List.getElem?_zipIdx,Nat.zero_add,qjh]
   by_cases hi:i < R.length
   ·rw [List.getElem?_eq_getElem hi,List.getElem?_range hi]
    simp [qrd,List.getD_eq_getElem?_getD,List.getElem?_eq_getElem hi]
   ·rw [List.getElem?_eq_none_iff.2 (by omega:R.length≤i),List.getElem?_eq_none_iff.2 (by simp;omega)]
    rfl
  have hz:∀ (l:List (Nm×Nm)) (f:Nm×Nm→Nm) (g:Nm×Nm→Ob),l.map (fun p=>(f p,g p))=(l.map f).zip (l.map g):=by
   intro l f g
   induction l with
   | nil=>rfl
   | cons p l ih=>simp [ih]
  have e1:(A0.map fun p=>(p.1,qrd R d i0 p.2)).map (fun p=>(p.2,ioOb (qbq st.objs) (B0.map fun p=>(p.1,qrd R d i0 p.2)) p.1))=A0.map fun p=>(qrd R d i0 p.2,(ioOb (qbq st.objs) B0 p.1).ren (qrd R d i0)):=by
   rw [List.map_map]
   exact List.map_congr_left fun p _=>by simp only [Function.comp,hob]
  rw [hA,e1,hz,hR2,List.map_map]
  rfl
end Go.Ab


namespace Go.Ab
noncomputable def limCall (sp:FuncId→(Nm→Option Ob)→List PV→Option Out) (tab:FuncId→Option RFn):qvd:=fun E h dep g args e=>lim fun n=>qbn sp tab n E h dep g args e
def qkv (sp:FuncId→(Nm→Option Ob)→List PV→Option Out) (tab:FuncId→Option RFn) (n:Nat):qfw:=ql7 sp tab n
theorem qmb (sp:FuncId→(Nm→Option Ob)→List PV→Option Out) (tab:FuncId→Option RFn) (n:Nat):(qkv sp tab n).sp=sp:=Qg5 sp tab n
theorem qq7 (sp:FuncId→(Nm→Option Ob)→List PV→Option Out) (tab:FuncId→Option RFn) (n:Nat):(qkv sp tab n).isIo=qk4 tab:=qwc sp tab n
theorem Qm5 (sp:FuncId→(Nm→Option Ob)→List PV→Option Out) (tab:FuncId→Option RFn) (n:Nat):(qkv sp tab n).leans=qpi tab:=qss sp tab n
theorem machN_flat (sp:FuncId→(Nm→Option Ob)→List PV→Option Out) (tab:FuncId→Option RFn) (n:Nat):(qkv sp tab n).flat=qmj tab:=qwd sp tab n
theorem Qdg (sp:FuncId→(Nm→Option Ob)→List PV→Option Out) (tab:FuncId→Option RFn) (n:Nat):(qkv sp tab n).call=qbn sp tab n:=rfl
noncomputable def limIo (sp:FuncId→(Nm→Option Ob)→List PV→Option Out) (tab:FuncId→Option RFn) (g:FuncId) (ins:List Ob) (vs:List PV):Option (St×PV) :=
 match tab g with
 | some fn=>lim fun n=>qv0 (qkv sp tab n) n fn ins vs
 | none=>none
structure qm1 (cfg:Qb4) (tab:FuncId→Option RFn):Prop where
 L:cfg.b.L=limCall cfg.b.sp tab
 I:cfg.b.I=limIo cfg.b.sp tab
 isIo:cfg.b.isIo=qk4 tab
 leans:cfg.b.leans=qpi tab
 flat:∀ g,cfg.flatF g=true→qmj tab g=true
 ioF:∀ g,(cfg.ioF g).isSome=qk4 tab g
 ioP:∀ g P,cfg.ioF g=some P→∃ fn,tab g=some fn∧0 < fn.nt∧∀ xs os,(P xs os).args.length≤fn.nt∧(P xs os).ins.length≤fn.nt
 spF:∀ g,cfg.spF g=false→∀ σ vs,cfg.b.sp g σ vs=none
 loc:∀ g σ vs,qca vs=true→cfg.b.sp g σ vs=cfg.b.sp g (fun _=>none) vs
 spK:∀ g s,cfg.spK g=some s→∀ σ xs out,qgs xs→(∀ nm o,σ nm=some o→o.ok)→s σ xs=some (true,out)→out.Ok∧cfg.b.sp g (fun nm=>(σ nm).map KOb.ob) (pvL xs)=some out.out∧∀ f,out.out.v.ren f=out.out.v
 asOk:∀ g p t n,cfg.asT g p=some (t,n)→∀ σ nm ty cs,σ nm=some (.cells ty cs)→cs.length=n→cfg.b.sp g σ [.nilI,.iface p (.ref nm 0)]=some { v:=.bool false } ∧
  ∀ x,qb8 x n=true→cfg.b.sp g σ [.iface t x,.iface p (.ref nm 0)]=some { v:=.bool true,upd:=some (nm,.cells ty x.cells) }
def HOk {E:Type} (h:qbl E) (hn:Nat→qbl E):Prop:=∀ l args e r,h l args e=some r→Evl fun n=>hn n l args e=some r
mutual
theorem Qlt (d:Nat) {obs:List Ob}:∀ (sh:RSh) (j:Nat) (v:PV) {u:PV} {j':Nat},sh.fix=true→qjo obs sh j v=some (u,j') →
  (qyq d sh j u).1.pv=v.ren (qkc d)∧(qyq d sh j u).2.1.map KOb.ob=(obs.drop j).take (j' - j)∧(qyq d sh j u).2.2=j'∧(qyq d sh j u).1.ok∧(∀ o∈(qyq d sh j u).2.1,o.ok)∧j≤j'
 | .opt k,j,v,u,j',hf,h=>by cases hf
 | .cl,j,v,u,j',_,h=>by
  simp only [qjo] at h
  obtain ⟨h1,h2⟩:=qbr h
  cases h2
  refine ⟨?_,by simp [qyq],rfl,h1,by simp [qyq],Nat.le_refl _⟩
  simp only [qyq,KV.pv]
  rw [qpe (qgn h1).1]
 | .own k,j,v,u,j',_,h=>by
  simp only [qjo] at h
  split at h
  ·rename_i nm k' o n k'' kt xs hj
   obtain ⟨h1,h2⟩:=qbr h
   cases h2
   simp only [Bool.and_eq_true,beq_iff_eq] at h1
   obtain ⟨⟨⟨⟨⟨⟨rfl,rfl⟩,rfl⟩,rfl⟩,rfl⟩,rfl⟩,hok⟩:=h1
   refine ⟨by simp [qyq,KV.pv,PV.ren,qkc,qbv,qbd],?_,rfl,trivial,?_,by omega⟩
   ·have hlt:=(List.getElem?_eq_some_iff.1 hj).1
    have hd:obs.drop j=.arr k 0 xs :: obs.drop (j+1):=by
     obtain ⟨hi,he⟩:=List.getElem?_eq_some_iff.1 hj
     rw [← he];exact List.drop_eq_getElem_cons hi
    rw [hd,show j+1 - j=1 by omega]
    simp [qyq,KOb.ob,qbd]
   ·intro o ho
    simp only [qyq,List.mem_singleton] at ho
    subst ho;exact hok
  ·cases h
 | .tup l,j,v,u,j',hf,h=>by
  simp only [qjo] at h
  split at h
  ·rename_i vs
   obtain ⟨p,hp,he⟩:=Option.map_eq_some_iff.1 h
   cases he
   obtain ⟨h1,h2,h3,h4,h5,h6⟩:=qwf d l j vs (us:=p.1) (j':=p.2) hf hp (.tup p.1) 0 (by intro i _;simp [prjP])
   simp only [qyq]
   exact ⟨by simp [KV.pv,PV.ren,h1],h2,h3,h4,h5,h6⟩
  ·cases h
 | .agg l,j,v,u,j',hf,h=>by
  simp only [qjo] at h
  split at h
  ·rename_i vs
   obtain ⟨p,hp,he⟩:=Option.map_eq_some_iff.1 h
   cases he
   obtain ⟨h1,h2,h3,h4,h5,h6⟩:=qwf d l j vs (us:=p.1) (j':=p.2) hf hp (.agg p.1) 0 (by intro i _;simp [prjP])
   simp only [qyq]
   exact ⟨by simp [KV.pv,PV.ren,h1],h2,h3,h4,h5,h6⟩
  ·cases h
theorem qwf (d:Nat) {obs:List Ob}:∀ (l:List RSh) (j:Nat) (vs:List PV) {us:List PV} {j':Nat},fixL l=true→qlz obs l j vs=some (us,j')→∀ (r:PV) (i:Nat),(∀ m,m < us.length→prjP r (i+m)=us.getD m .undef) →
  pvL (Qca d l j r i).1=qjl (qkc d) vs∧(Qca d l j r i).2.1.map KOb.ob=(obs.drop j).take (j' - j)∧(Qca d l j r i).2.2=j'∧qgs (Qca d l j r i).1∧(∀ o∈(Qca d l j r i).2.1,o.ok)∧j≤j'
 | [],j,vs,us,j',_,h,r,i,_=>by
  cases vs with
  | nil=>simp only [qlz] at h;cases h;simp [Qca,pvL,qjl,qgs]
  | cons v vs=>simp [qlz] at h
 | s :: l,j,vs,us,j',hf,h,r,i,hr=>by
  simp only [fixL,Bool.and_eq_true] at hf
  cases vs with
  | nil=>simp [qlz] at h
  | cons v vs =>
   simp only [qlz] at h
   split at h
   ·rename_i u j1 hu
    obtain ⟨p,hp,he⟩:=Option.map_eq_some_iff.1 h
    obtain ⟨us',j2⟩:=p
    cases he
    have h0:prjP r i=u:=by have:=hr 0 (by simp);simpa using this
    obtain ⟨a1,a2,a3,a4,a5,a6⟩:=Qlt d s j v hf.1 hu
    obtain ⟨b1,b2,b3,b4,b5,b6⟩:=qwf d l j1 vs hf.2 hp r (i+1) (fun m hm=>by
     have:=hr (m+1) (by simp;omega)
     rw [show i+(m+1)=i+1+m by omega] at this
     simpa using this)
    simp only [Qca,h0,a3]
    refine ⟨by simp [pvL,qjl,a1,b1],?_,b3,⟨a4,b4⟩,?_,by omega⟩
    ·rw [List.map_append,a2,b2]
     have e1:obs.drop j1=(obs.drop j).drop (j1 - j):=by rw [List.drop_drop];congr 1;omega
     rw [e1,show j2 - j=(j1 - j)+(j2 - j1) by omega,List.take_add]
    ·intro o ho
     rcases List.mem_append.1 ho with ho | ho
     ·exact a5 o ho
     ·exact b5 o ho
   ·cases h
end
theorem Qbt (d:Nat) {obs:List Ob} {sh:RSh} {v u:PV} (hf:sh.fix=true) (h:qny sh v obs=some u):(qyq d sh 0 u).1.pv=v.ren (qkc d)∧(qyq d sh 0 u).2.1.map KOb.ob=obs∧(qyq d sh 0 u).1.ok∧∀ o∈(qyq d sh 0 u).2.1,o.ok:=by
 unfold qny at h
 split at h
 ·rename_i r j hr
  obtain ⟨h1,h2⟩:=qbr h
  cases h2
  simp only [beq_iff_eq] at h1
  obtain ⟨a1,a2,a3,a4,a5,a6⟩:=Qlt d sh 0 v hf hr
  refine ⟨a1,?_,a4,a5⟩
  rw [a2,h1];simp
 ·cases h
mutual
theorem Qcr {R:Type} {r:R}:∀ (sh:RSh) (u:PV) {K:RSh→Option R},qn8 sh u K=some r →
  ∃ sh',sh'.fix=true∧K sh'=some r∧∀ obs j v j',qjo obs sh j v=some (u,j')→qjo obs sh' j v=some (u,j')
 | .cl,u,K,h=>⟨.cl,rfl,h,fun _ _ _ _ h=>h⟩
 | .own k,u,K,h=>⟨.own k,rfl,h,fun _ _ _ _ h=>h⟩
 | .opt k,u,K,h=>by
  simp only [qn8] at h
  unfold nilB at h
  split at h
  ·refine ⟨.cl,rfl,h,fun obs j v j' hc=>?_⟩
   simp only [qjo] at hc
   split at hc
   ·cases hc;rfl
   ·obtain ⟨_,hc⟩:=qbr hc
    cases hc
   ·cases hc
  ·rename_i hu
   refine ⟨.own k,rfl,h,fun obs j v j' hc=>?_⟩
   simp only [qjo] at hc
   split at hc
   ·cases hc;exact absurd rfl hu
   ·rename_i hj
    simp only [qjo,hj];exact hc
   ·cases hc
 | .tup l,u,K,h=>by
  simp only [qn8] at h
  obtain ⟨l',h1,h2,h3⟩:=qr2 l u 0 h
  refine ⟨.tup l',h1,h2,fun obs j v j' hc=>?_⟩
  simp only [qjo] at hc ⊢
  split at hc
  ·obtain ⟨p,hp,he⟩:=Option.map_eq_some_iff.1 hc
   cases he
   rw [h3 obs j _ p.1 p.2 hp (by intro i _;simp [prjP])]
   rfl
  ·cases hc
 | .agg l,u,K,h=>by
  simp only [qn8] at h
  obtain ⟨l',h1,h2,h3⟩:=qr2 l u 0 h
  refine ⟨.agg l',h1,h2,fun obs j v j' hc=>?_⟩
  simp only [qjo] at hc ⊢
  split at hc
  ·obtain ⟨p,hp,he⟩:=Option.map_eq_some_iff.1 hc
   cases he
   rw [h3 obs j _ p.1 p.2 hp (by intro i _;simp [prjP])]
   rfl
  ·cases hc
theorem qr2 {R:Type} {r:R}:∀ (l:List RSh) (u:PV) (i:Nat) {K:List RSh→Option R},qs1 l u i K=some r →
  ∃ l',fixL l'=true∧K l'=some r∧∀ obs j vs us j',qlz obs l j vs=some (us,j')→(∀ m,m < us.length→prjP u (i+m)=us.getD m .undef)→qlz obs l' j vs=some (us,j')
 | [],u,i,K,h=>⟨[],rfl,h,fun _ _ _ _ _ h _=>h⟩
 | s :: l,u,i,K,h=>by
  simp only [qs1] at h
  obtain ⟨s',h1,h,h3⟩:=Qcr s (prjP u i) h
  obtain ⟨l',g1,h,g3⟩:=qr2 l u (i+1) h
  refine ⟨s' :: l',by simp [fixL,h1,g1],h,fun obs j vs us j' hc hu=>?_⟩
  cases vs with
  | nil=>simp [qlz] at hc
  | cons v vs =>
   simp only [qlz] at hc ⊢
   split at hc
   ·rename_i w j1 hw
    obtain ⟨p,hp,he⟩:=Option.map_eq_some_iff.1 hc
    obtain ⟨us',j2⟩:=p
    cases he
    have h0:prjP u i=w:=by have:=hu 0 (by simp);simpa using this
    rw [h3 obs j v j1 (by rw [h0];exact hw)]
    simp only
    rw [g3 obs j1 vs us' j2 hp (fun m hm=>by
     have:=hu (m+1) (by simp;omega)
     rw [show i+(m+1)=i+1+m by omega] at this
     simpa using this)]
    simp only [Option.map_some,h0]
   ·cases hc
end
theorem qyb {R:Type} {r:R} {sh:RSh} {u:PV} {K:RSh→Option R} (h:qn8 sh u K=some r) :
  ∃ sh',sh'.fix=true∧K sh'=some r∧∀ v obs,qny sh v obs=some u→qny sh' v obs=some u:=by
 obtain ⟨sh',h1,h2,h3⟩:=Qcr sh u h
 refine ⟨sh',h1,h2,fun v obs hc=>?_⟩
 unfold qny at hc ⊢
 split at hc
 ·rename_i w j hw
  obtain ⟨c1,c2⟩:=qbr hc
  cases c2
  rw [h3 obs 0 v j hw]
  simp only [c1,qby]
 ·cases hc
section
variable {cfg:Qb4} {tab:FuncId→Option RFn} {ks:KSt} {E R:Type} {h:qbl E} {hn:Nat→qbl E} {K:qcd→E→Option R} {r:R} {e:E} {d dep:Nat}
theorem spO_ok (hc:qm1 cfg tab) {g:FuncId} {vs:List PV} (hvs:qca vs=true) {x:Option (PV×List Ob)} (h:spO cfg.b.sp g vs=some x) (σ:Nm→Option Ob) :
  match x with | some p=>cfg.b.sp g σ vs=some { v:=p.1,new:=p.2 } | none=>cfg.b.sp g σ vs=none:=by
 unfold spO at h
 rw [hc.loc g σ vs hvs]
 split at h
 ·rename_i out ho
  obtain ⟨h1,h2⟩:=qbr h
  cases h2
  simp only [Bool.and_eq_true,List.isEmpty_iff,Option.isNone_iff_eq_none,Bool.not_eq_true'] at h1
  obtain ⟨⟨⟨⟨⟨⟨b,c⟩,f⟩,a2⟩,a3⟩,a4⟩,a5⟩:=h1
  simp only
  rw [ho]
  obtain ⟨v,new,upd,kill,frz,gone,ups,io,slot⟩:=out
  simp only at b c f a2 a3 a4 a5
  subst b;subst c;subst f;subst a2;subst a3;subst a4;subst a5
  rfl
 ·rename_i ho;cases h;exact ho
theorem Qrx {sh sh':RSh} {f:PV} {vs:List PV} {u:PV} (hs:∀ v obs,qny sh v obs=some u→qny sh' v obs=some u) (h:qb3 cfg.b sh f vs=some u):qb3 cfg.b sh' f vs=some u:=by
 unfold qb3 at h ⊢
 split at h
 ·split at h
  ·exact hs _ _ h
  ·split at h
   ·cases h
   ·rename_i hio
    rw [if_neg hio]
    split at h
    ·exact hs _ _ h
    ·cases h
  ·cases h
 ·cases h
theorem lendO_sh {sh sh':RSh} {fr:Bool} {g:FuncId} {vs:List PV} {u:PV} (hs:∀ v obs,qny sh v obs=some u→qny sh' v obs=some u) (h:qkw cfg.b sh fr g vs=some u):qkw cfg.b sh' fr g vs=some u:=by
 unfold qkw at h ⊢
 split at h
 ·cases h
 ·rename_i hy
  rw [if_neg hy]
  split at h
  ·obtain ⟨h1,h2⟩:=qbr h
   simp only [h1,qby]
   exact hs _ _ h2
  ·cases h
theorem Qq8 {g:FuncId}:Nat.blt (qf6 g) qhb=true:=by
 unfold qf6
 split
 ·assumption
 ·exact Nat.blt_eq.mpr (Nat.mod_lt _ (by decide))
theorem fnId_id {g:FuncId}:qf6 (qf6 g)=qf6 g:=by
 have h:=Qq8 (g:=g)
 generalize qf6 g=x at h
 simp [qf6,h]
theorem fnArgs_id {g:FuncId} {vs:List PV}:qcl (qf6 g) vs []=vs:=by
 have h:=Qq8 (g:=g)
 simp [qcl,h]
theorem qz5 {f:FuncId} {vs cap:List PV} {x:PV} (h:x∈vs∨x∈cap):x∈qcl f vs cap:=by
 unfold qcl
 split
 ·exact List.mem_append.2 h
 ·rcases h with h | h
  ·exact List.mem_append_right _ (List.mem_append_left _ h)
  ·rw [← List.take_append_drop (fnK f) cap] at h
   rcases List.mem_append.1 h with h | h
   ·exact List.mem_append_left _ h
   ·exact List.mem_append_right _ (List.mem_append_right _ h)
theorem Qdp (f:FuncId) (vs cap:List KV):pvL (qmv f vs cap)=qcl f (pvL vs) (pvL cap):=by
 unfold qmv qcl
 cases Nat.blt f qhb<;>simp [qq3,qq1,qq2]
theorem Qdq {f:FuncId} {vs cap:List KV} (h1:qgs vs) (h2:qgs cap):qgs (qmv f vs cap):=by
 unfold qmv
 split
 ·exact qhp h1 h2
 ·exact qhp (qc8.2 fun x hx=>qc8.1 h2 x (List.mem_of_mem_take hx)) (qhp h1 (qc8.2 fun x hx=>qc8.1 h2 x (List.mem_of_mem_drop hx)))
theorem callO_all {B:KB} {sh:RSh} {f:FuncId} {vs cap:List PV}:qb3 B sh (.fn f cap) vs=qb3 B sh (.fn (qf6 f) []) (qcl f vs cap):=by
 simp only [qb3,fnId_id,fnArgs_id]
theorem Qry (hc:qm1 cfg tab) {sh:RSh} (hfix:sh.fix=true) {f:PV} {vs:List PV} (hvs:qca vs=true) (hf:okV f=true) {u:PV} (hu:qb3 cfg.b sh f vs=some u) (σ:Nm→Option Ob) (T:List PV) (fx:RX) (args:List RX) (hfx:fx.ev T=f) (hargs:args.map (RX.ev T)=vs) :
  ∃ out:qcd,out.Ok∧out={ v:=(qyq d sh 0 u).1,new:=(qyq d sh 0 u).2.1 }∧Evl fun n=>qcs (qkv cfg.b.sp tab n) (hn n) dep d σ T fx args e=some (out.out,e):=by
 unfold qb3 at hu
 split at hu
 ·rename_i g cap
  have hcap:qca cap=true:=by simpa [okV] using hf
  have hall:qca (qcl g vs cap)=true:=qff.2 fun x hx=>(qv8 hx).elim (qff.1 hvs x) (qff.1 hcap x)
  have hnm:(qbo (qcl g vs cap)).isEmpty=true:=by rw [(qb9 hall).1];rfl
  have hy:qdt (qcl g vs cap)=false:=(qb9 hall).2
  split at hu
  ·rename_i v obs hs
   have h1:=spO_ok hc hall hs σ
   simp only at h1
   obtain ⟨a1,a2,a3,a4⟩:=Qbt d hfix hu
   refine ⟨_,⟨a3,a4,by simp,by simp⟩,rfl,.of fun n=>?_⟩
   simp only [qcs,hfx,hargs,qmb,h1,qcd.out,a1,a2,Option.map_none,List.map_nil]
  ·rename_i hs
   have h1:=spO_ok hc hall hs σ
   split at hu
   ·cases hu
   rename_i hio
   have hio:qk4 tab (qf6 g)=false:=by rw [← hc.isIo];simpa using hio
   split at hu
   ·rename_i rr obs hL
    rw [hc.L] at hL
    have hev:=qti hL
    obtain ⟨a1,a2,a3,a4⟩:=Qbt d hfix hu
    refine ⟨_,⟨a3,a4,by simp,by simp⟩,rfl,hev.mono fun n hn'=>?_⟩
    simp only at h1
    simp only [qcs,hfx,hargs,qmb,qq7,Qdg,hio,h1,hnm,if_true,hy,Bool.false_eq_true,if_false,hn',qcd.out,a1,a2,Option.map_none,List.map_nil]
   ·cases hu
  ·cases hu
 ·cases hu
theorem mapM_mem {α:Type} {σ:Nm→Option α}:∀ {S:List Nm} {l:List α},S.mapM σ=some l→l.length=S.length∧∀ x∈l,∃ nm,σ nm=some x:=by
 intro S
 induction S with
 | nil=>intro l h;simp at h;subst h;exact ⟨rfl,fun x h=>by cases h⟩
 | cons y S ih =>
  intro l h
  rw [List.mapM_cons] at h
  simp only [Option.bind_eq_bind,Option.bind_eq_some_iff,Option.pure_def,Option.some.injEq] at h
  obtain ⟨o,ho,l',hl,rfl⟩:=h
  obtain ⟨q1,q2⟩:=ih hl
  refine ⟨by simp [q1],fun x hx=>?_⟩
  rcases List.mem_cons.1 hx with rfl | hx
  ·exact ⟨y,ho⟩
  ·exact q2 x hx
theorem mapM_map' {α β:Type} {σ:Nm→Option α} (g:α→β):∀ {S:List Nm} {l:List α},S.mapM σ=some l→S.mapM (fun nm=>(σ nm).map g)=some (l.map g):=by
 intro S
 induction S with
 | nil=>intro l h;simp at h;subst h;rfl
 | cons y S ih =>
  intro l h
  rw [List.mapM_cons] at h
  simp only [Option.bind_eq_bind,Option.bind_eq_some_iff,Option.pure_def,Option.some.injEq] at h
  obtain ⟨o,ho,l',hl,rfl⟩:=h
  rw [List.mapM_cons,ih hl,ho]
  rfl
theorem Qd3:∀ {ps xs:List KOb},qjf ps xs=true→ps.length=xs.length
 | [],[],_=>rfl
 | [],_ :: _,h=>by simp [qjf] at h
 | _ :: _,[],h=>by simp [qjf] at h
 | p :: ps,x :: xs,h=>by
  simp only [qjf,Bool.and_eq_true] at h
  simp [Qd3 h.2]
theorem Qq9:∀ {ps xs:List KV},Qcf ps xs=true→ps.length=xs.length
 | [],[],_=>rfl
 | [],_ :: _,h=>by simp [Qcf] at h
 | _ :: _,[],h=>by simp [Qcf] at h
 | p :: ps,x :: xs,h=>by
  simp only [Qcf,Bool.and_eq_true] at h
  simp [Qq9 h.2]
theorem ob_noY {o:KOb} (h:o.ok) (hq:∀ ty cs,o=.cells ty cs→qk3 cs=false):o.ob.hasY=false:=by
 cases o with
 | cells ty cs =>
  have h':qgs cs:=h
  show qdt (pvL cs)=false
  rw [qpf h'];exact hq ty cs rfl
 | whole ty v=>exact (qb9 (qcv h)).2
 | arr k kt xs=>exact (qb9 h).2
 | map es=>exact (qb9 h).2
 | siter s p=>rfl
theorem Qds (hc:qm1 cfg tab) (hk:ks.Ok) (hq:qkg ks.objs=true) {g:FuncId} {xs:List KV} (hxs:qgs xs)
  {R:Type} {r:R} {K:qcd→Option R} {Pf:List KV→List KOb→qlg} (hPf:cfg.ioF g=some Pf) (hr:qzo cfg Pf g d (qc6 ks.objs) xs K=some r) :
  ∃ out,K out=some r∧out.Ok∧cfg.spF g=false∧Evl fun n=>(qkv cfg.b.sp tab n).io g d (qbq ks.st.objs) (pvL xs)=some out.out:=by
 unfold qzo at hr
 simp only at hr
 generalize hS:qgr (qnh (qc6 ks.objs) qbp (qdy xs))=S at hr
 split at hr
 ·cases hr
 rename_i ins hins
 generalize hP:Pf xs ins=P at hr
 split at hr
 case isFalse=>cases hr
 rename_i hcond
 obtain ⟨hsh,hy,hsp,hfit⟩:=hcond
 simp only [Bool.and_eq_true] at hfit
 obtain ⟨hfa,hfo⟩:=hfit
 obtain ⟨rs,hio,hr⟩:=qcb hr
 have hplace:∃ sl d1 i1,K (ioOut P S sl d1 i1 rs)=some r∧∀ st v out,qv2 sl d1 i1 S st v=some out→qsl (qbq ks.st.objs) d S st v=some out:=by
  unfold qsl
  cases S with
  | nil=>exact ⟨none,d,0,hr,fun st v out h=>h⟩
  | cons s ss =>
   simp only at hr
   split at hr
   ·rename_i i1 hi1
    refine ⟨some s.1,s.1,i1,hr,fun st v out h=>?_⟩
    have:qr3 (qbq ks.st.objs) s.1=some i1:=by
     rw [qd1 hk,← hi1]
     unfold qr3
     congr 1
     funext j
     show ((qc6 ks.objs (s.1,j)).map KOb.ob).isNone=_
     cases qc6 ks.objs (s.1,j)<;>rfl
    simp only [this]
    exact h
   ·cases hr
 obtain ⟨sl,d1,i1,hr,hplace⟩:=hplace
 have hflag:qk4 tab g=true:=by rw [← hc.ioF,hPf];rfl
 obtain ⟨fn,htab,hnt,hll⟩:=hc.ioP g Pf hPf
 have hla:=(hll xs ins).1
 have hli:=(hll xs ins).2
 rw [hP] at hla hli
 obtain ⟨m1,m2⟩:=mapM_mem hins
 have hinok:∀ o∈ins,o.ok:=fun o ho=>let ⟨nm,h⟩:=m2 o ho;qcr hk nm o h
 have hS':qgr (qct (qbq ks.st.objs) qbp (qbo (pvL xs)))=S:=by rw [← hS,qgz (qcr hk),qd1 hk,qd9 hxs]
 have hmap:S.mapM (qbq ks.st.objs)=some (ins.map KOb.ob):=by rw [qd1 hk];exact mapM_map' KOb.ob hins
 have hysok:qgs (qrj (fun m=>(0,S.idxOf m)) xs):=qrc _ hxs
 have hosok:∀ o∈ins.map (KOb.ren fun m=>(0,S.idxOf m)),o.ok:=by
  intro o ho
  obtain ⟨o0,h0,rfl⟩:=List.mem_map.1 ho
  exact KOb.ren_ok _ (hinok o0 h0)
 have hlen:P.ins.length=S.length:=by rw [Qd3 hfo,List.length_map,m1]
 have hlx:∀ l:List KV,(qrj (fun m=>(0,S.idxOf m)) l).length=l.length:=by
  intro l;induction l with | nil=>rfl | cons x l ih=>simp [qrj,ih]
 have hlena:(pvL xs).length≤fn.nt:=by
  have h1:=Qq9 hfa
  rw [hlx] at h1
  have h2:(pvL xs).length=xs.length:=by rw [qgw,List.length_map]
  omega
 generalize hlv:qjd P.args (qrj (fun m=>(0,S.idxOf m)) xs)++qjc P.ins (ins.map (KOb.ren fun m=>(0,S.idxOf m)))=lv at hio
 have hseg:Seg lv 0 (qjd P.args (qrj (fun m=>(0,S.idxOf m)) xs)++qjc P.ins (ins.map (KOb.ren fun m=>(0,S.idxOf m)))):=by rw [hlv];exact Seg.all lv
 obtain ⟨p1,p2,p3⟩:=qrg _ _ hfa hysok lv 0 hseg.left
 obtain ⟨q1,q2,q3⟩:=qwb _ _ hfo hosok lv (qjz P.args lv 0).2 (by rw [p3];exact hseg.right)
 have hvs2:pvL (qrj (fun m=>(0,S.idxOf m)) xs)=qjl (fun m=>(0,S.idxOf m)) (pvL xs):=qvl _ hxs
 have hos2:(ins.map (KOb.ren fun m=>(0,S.idxOf m))).map KOb.ob=(ins.map KOb.ob).map (Ob.ren fun m=>(0,S.idxOf m)):=by
  rw [List.map_map,List.map_map]
  exact List.map_congr_left fun o ho=>KOb.ren_ob _ (hinok o ho)
 unfold ioO at hio
 rw [p1,q1,hvs2,hos2] at hio
 split at hio
 case h_2=>cases hio
 rename_i st v hI
 rw [hc.I] at hI
 unfold limIo at hI
 rw [htab] at hI
 have hev:=qti hI
 split at hio
 case h_2=>cases hio
 rename_i out0 hend
 rw [hlen] at hend
 have hend2:=ioEnd_ren (sl:=sl) (d:=d1) (i0:=i1) hend
 unfold ioFit at hio
 split at hio
 case isFalse=>cases hio
 rename_i hgone
 split at hio
 case h_2=>cases hio
 rename_i a b c ha hb hcc
 cases hio
 have hsr:=Seg.all (a++(b++c))
 obtain ⟨a1,a2,a3⟩:=qz8 P.res out0.v ha _ 0 hsr.left
 obtain ⟨b1,b2,b3⟩:=qqn P.outs _ hb (a++(b++c)) (fill P.res (a++(b++c)) 0).2 (by rw [a3];exact hsr.right.left)
 obtain ⟨c1,c2,c3⟩:=qqn P.news _ hcc (a++(b++c)) (qdl P.outs (a++(b++c)) (fill P.res (a++(b++c)) 0).2).2 (by rw [b3,a3];exact hsr.right.right)
 have hout:(ioOut P S sl d1 i1 (a++(b++c))).out={ v:=out0.v.ren (qrd S d1 i1),new:=out0.new.map (Ob.ren (qrd S d1 i1)),gone:=out0.gone.map (qrd S d1 i1),ups:=S.zip (out0.ups.map fun p=>p.2.ren (qrd S d1 i1)),io:=true,slot:=sl }:=by
  simp only [ioOut,qcd.out,Option.map_none,Out.mk.injEq,true_and,and_true]
  refine ⟨?_,?_,?_,?_⟩
  ·rw [KV.ren_pv _ a2,a1]
  ·rw [List.map_map,← c1,List.map_map]
   exact List.map_congr_left fun o ho=>KOb.ren_ob _ (c2 o ho)
  ·rw [hgone,List.map_map]
   exact List.map_congr_left fun j _=>by simp [qrd]
  ·have e1:out0.ups.map (fun p=>p.2.ren (qrd S d1 i1))=(out0.ups.map (·.2)).map (Ob.ren (qrd S d1 i1)):=by rw [List.map_map];rfl
   rw [e1,← b1,List.map_map]
   have key:∀ (T:List Nm) (l:List KOb),(∀ o∈l,o.ok)→(T.zip (l.map (KOb.ren (qrd S d1 i1)))).map (fun p=>(p.1,p.2.ob))=T.zip (l.map (Ob.ren (qrd S d1 i1)∘KOb.ob)):=by
    intro T
    induction T with
    | nil=>intro l _;rfl
    | cons s T ih =>
     intro l hl
     cases l with
     | nil=>rfl
     | cons o l =>
      simp only [List.map_cons,List.zip_cons_cons,List.map_cons,Function.comp]
      rw [KOb.ren_ob _ (hl o List.mem_cons_self),ih l fun o ho=>hl o (List.mem_cons_of_mem _ ho)]
   exact key S _ b2
 refine ⟨_,hr,⟨KV.ren_ok _ a2,?_,by simp [ioOut],?_⟩,hsp,hev.shift.mono ?_⟩
 ·intro o ho
  obtain ⟨o0,h0,rfl⟩:=List.mem_map.1 ho
  exact KOb.ren_ok _ (c2 o0 h0)
 ·rintro ⟨s,o⟩ ho
  have:=(List.of_mem_zip ho).2
  obtain ⟨o0,h0,rfl⟩:=List.mem_map.1 this
  exact KOb.ren_ok _ (b2 o0 h0)
 ·rintro k ⟨j,rfl,hj⟩
  show Qmd (ql7 cfg.b.sp tab j) j tab g d (qbq ks.st.objs) (pvL xs)=_
  unfold Qmd
  rw [htab]
  simp only
  rw [hS',hmap]
  have hcd:(!qdt (pvL xs)&&qka (qbq ks.st.objs) S&&(ins.map KOb.ob).all (fun o=>!o.hasY)&&(decide ((pvL xs).length≤fn.nt)&&decide (S.length≤fn.nt)&&decide (0 < fn.nt)))=true:=by
   simp only [Bool.and_eq_true,Bool.not_eq_true',decide_eq_true_eq]
   refine ⟨⟨⟨by rw [qpf hxs];exact hy,?_⟩,?_⟩,⟨hlena,by omega⟩,hnt⟩
   ·rw [qd1 hk,← qrb (qcr hk)];exact hsh
   ·rw [List.all_eq_true]
    intro o ho
    obtain ⟨o0,h0,rfl⟩:=List.mem_map.1 ho
    obtain ⟨nm,hnm⟩:=m2 o0 h0
    have:=ob_noY (hinok o0 h0) fun ty cs hcs=>qm7 hq nm ty cs (by rw [hnm,hcs])
    simp [this]
  simp only [chk,hcd,if_true]
  have hj':qv0 (ql7 cfg.b.sp tab j) j fn ((ins.map KOb.ob).map (Ob.ren fun m=>(0,S.idxOf m))) (qjl (fun m=>(0,S.idxOf m)) (pvL xs))=some (st,v):=hj
  rw [hj']
  simp only
  rw [hout]
  exact hplace _ _ _ hend2
theorem kcallIo_ok (hc:qm1 cfg tab) (hk:ks.Ok) (hq:qkg ks.objs=true) {g f0:FuncId} (hg0:qf6 f0=g) {cap:List PV} {f:RX} {args:List RX} {xs:List KV} (hxs:qgs xs) (hfe:f.ev ks.st.tmps=.fn f0 cap) (hvs:qcl f0 (args.map (RX.ev ks.st.tmps)) cap=pvL xs)
  {Pf:List KV→List KOb→qlg} (hPf:cfg.ioF g=some Pf) (hr:qzo cfg Pf g d (qc6 ks.objs) xs (fun out=>K out e)=some r) :
  ∃ out e',K out e'=some r∧out.Ok∧Evl fun n=>qcs (qkv cfg.b.sp tab n) (hn n) dep d (qbq ks.st.objs) ks.st.tmps f args e=some (out.out,e'):=by
 obtain ⟨out,hr,ho,hsp,hev⟩:=Qds (K:=fun out=>K out e) hc hk hq hxs hPf hr
 have hflag:qk4 tab g=true:=by rw [← hc.ioF,hPf];rfl
 exact ⟨out,e,hr,ho,hev.mono fun n hn'=>by simp only [qcs,hfe,hg0,hvs,qmb,qq7,hc.spF g hsp,hflag,if_true,hn']⟩
theorem kcall_ok (hc:qm1 cfg tab) (hh:HOk h hn) (hk:ks.Ok) {f:RX} {args:List RX} (hq:(qkg ks.objs||calmX cfg (.call f args) ks.tmps)=true) (hx:(f :: args).all okX=true)
  (hr:kcall cfg h d (qc6 ks.objs) ks.tmps f args e K=some r) :
  ∃ out e',K out e'=some r∧out.Ok∧Evl fun n=>qcs (qkv cfg.b.sp tab n) (hn n) dep d (qbq ks.st.objs) ks.st.tmps f args e=some (out.out,e'):=by
 have hxf:okX f=true:=List.all_eq_true.1 hx f (by simp)
 have hxa:args.all okX=true:=List.all_eq_true.2 fun x hm=>List.all_eq_true.1 hx x (by simp [hm])
 have hfo:=kv_ok hk hxf
 have hao:=qza hk hxa
 unfold kcall at hr
 split at hr
 ·rename_i l hf
  have hfe:f.ev ks.st.tmps=.yld l:=by rw [qvi hk,hf];rfl
  simp only at hr
  split at hr
  ·rename_i vs hv
   obtain ⟨p,hp,hr⟩:=qcb hr
   have hok:=qva hao hv
   have hnm:(qbo vs).isEmpty=true:=by rw [(qb9 hok).1];rfl
   refine ⟨_,_,hr,qcd.plain (v:=.cv (.bool p.1)) rfl,(hh _ _ _ _ hp).mono fun n hn'=>?_⟩
   simp [qcs,hfe,qqd hk,qxb hv,hnm,(qb9 hok).2,chk,hn',qcd.out,KV.pv]
  ·split at hr
   ·cases hr
   ·rename_i hne
    split at hr
    ·rename_i hsh
     obtain ⟨h1,hr⟩:=qbr hr
     obtain ⟨p,hp,hr⟩:=qcb hr
     have hne':(qbo (pvL (args.map (RX.kv ks.tmps)))).isEmpty=false:=by rw [Qbp hao];simpa using hne
     rw [qgz (qcr hk),qrb (qcr hk),← qd1 hk,← qd9 hao] at hsh
     rw [qqr hk hao] at h1 hp
     unfold noYL at h1
     refine ⟨_,_,hr,⟨rfl,by simp,by simp,by simp⟩,(hh _ _ _ _ hp).mono fun n hn'=>?_⟩
     simp only [qcs,hfe,qqd hk,hne',Bool.false_eq_true,if_false,hsh,h1,Bool.and_self,chk,if_true,hn',qcd.out,KV.pv]
     rw [qgz (qcr hk),← qd1 hk,← qd9 hao]
     rfl
    ·cases hr
 ·rename_i f0 caps hf
  rw [hf] at hfo
  have hcaps:qgs caps:=hfo
  have hfe:f.ev ks.st.tmps=.fn f0 (pvL caps):=by rw [qvi hk,hf];rfl
  have hxs:qgs (qmv f0 (args.map (RX.kv ks.tmps)) caps):=Qdq hao hcaps
  have hvs:qcl f0 (args.map (RX.ev ks.st.tmps)) (pvL caps)=pvL (qmv f0 (args.map (RX.kv ks.tmps)) caps):=by rw [Qdp,qqd hk]
  have hall:∀ sh,qb3 cfg.b sh (.fn f0 (pvL caps)) (args.map (RX.ev ks.st.tmps))=qb3 cfg.b sh (.fn (qf6 f0) []) (qcl f0 (args.map (RX.ev ks.st.tmps)) (pvL caps)):=fun sh=>callO_all
  simp only at hr
  generalize qmv f0 (args.map (RX.kv ks.tmps)) caps=xs at hr hxs hvs
  generalize hg:qf6 f0=g at hr hall
  split at hr
  ·rename_i s hs
   split at hr
   case h_2=>cases hr
   rename_i p hso
   obtain ⟨b,out⟩:=p
   obtain ⟨hb,hr⟩:=qbr hr
   have hb:b=true:=hb
   subst hb
   obtain ⟨a1,a2,a3⟩:=hc.spK g s hs _ xs out hxs (qcr hk) hso
   rw [← qd1 hk] at a2
   exact ⟨out,e,hr,a1,.of fun n=>by simp only [qcs,hfe,hg,hvs,qmb,a2,a3]⟩
  split at hr
  ·rename_i P hP
   have hq:qkg ks.objs=true:=by
    rcases Bool.or_eq_true_iff.1 hq with h1 | h1
    ·exact h1
    ·unfold calmX at h1
     simp only [hf,hg,hP] at h1
     cases h1
   exact kcallIo_ok hc hk hq hg hxs hfe hvs hP hr
  rename_i hP
  have hio:qk4 tab g=false:=by rw [← hc.ioF,hP];rfl
  split at hr
  ·rename_i ex p nm
   split at hr
   ·rename_i t n err ty cs ht herr hlk
    have hq:=qbr hr
    clear hr
    obtain ⟨hcs,hr⟩:=hq
    have hcs:cs.length=n:=Nat.eq_of_beq_eq_true hcs
    have hlk':qbq ks.st.objs nm=some (.cells ty (pvL cs)):=by rw [qks hk,hlk];rfl
    have hcs':(pvL cs).length=n:=by rw [← hcs,qfi]
    have hero:=KV.cl_ok hxs.1 herr
    have hpv:pvL [ex,.iface p (.ref nm 0)]=[err,.iface p (.ref nm 0)]:=by simp [pvL,KV.pv,KV.cl_pv herr]
    rw [hpv] at hvs
    obtain ⟨s1,s2⟩:=hc.asOk g p t n ht (qbq ks.st.objs) nm _ _ hlk' hcs'
    unfold asP at hr
    split at hr
    ·refine ⟨_,_,hr,qcd.plain (v:=.lit false) trivial,.of fun n=>?_⟩
     simp only [qcs,hfe,hg,hvs,qmb,s1]
     rfl
    ·rename_i t' x
     split at hr
     ·rename_i htt
      subst htt
      have hq:=qbr hr
      clear hr
      obtain ⟨hx1,hr⟩:=hq
      refine ⟨_,_,hr,qcd.turn (v:=.lit true) (o:=.whole _ x) trivial (show okV x=true by simpa [okV] using hero),.of fun n=>?_⟩
      simp only [qcs,hfe,hg,hvs,qmb,s2 x hx1]
      rfl
     ·cases hr
    ·cases hr
   ·cases hr
  ·split at hr
   ·rename_i vs hv
    obtain ⟨u,hu,hr⟩:=qcb hr
    have hok:=qva hxs hv
    rw [qxb hv] at hvs
    have hu':qb3 cfg.b (cfg.rsh g).1 (.fn g []) (qcl f0 (args.map (RX.ev ks.st.tmps)) (pvL caps))=some u:=by rw [hvs];exact hu
    have hcv:qca (pvL caps)=true:=Qf4 (ys:=pvL caps) hok fun y hy=>by rw [← hvs];exact qz5 (.inr hy)
    have hav:qca (args.map (RX.ev ks.st.tmps))=true:=Qf4 hok fun y hy=>by rw [← hvs];exact qz5 (.inl hy)
    have hu2:qb3 cfg.b (cfg.rsh g).1 (.fn f0 (pvL caps)) (args.map (RX.ev ks.st.tmps))=some u:=by rw [hall];exact hu'
    obtain ⟨sh',hfix,hr,hsh⟩:=qyb hr
    have hu2:=Qrx hsh hu2
    obtain ⟨out,h1,h2,h3⟩:=Qry (d:=d) (dep:=dep) (e:=e) (hn:=hn) hc hfix hav (by simpa [okV] using hcv) hu2 (qbq ks.st.objs) ks.st.tmps f args hfe rfl
    subst h2
    exact ⟨_,_,hr,h1,h3⟩
   ·split at hr
    ·cases hr
    ·rename_i hne
     split at hr
     ·rename_i hsh
      obtain ⟨u,hu,hr⟩:=qcb hr
      have hne1:(qdy xs).isEmpty=false:=by
       cases hq:(qdy xs).isEmpty with
       | false=>rfl
       | true=>exact absurd (.inl hq) hne
      have hsp:cfg.spF g=false:=by
       cases hq:cfg.spF g with
       | false=>rfl
       | true=>exact absurd (.inr hq) hne
      have hne':(qbo (pvL xs)).isEmpty=false:=by rw [Qbp hxs];exact hne1
      rw [qgz (qcr hk),qrb (qcr hk),← qd1 hk,← qd9 hxs] at hsh
      rw [qqr hk hxs] at hu
      obtain ⟨sh',hfix,hr,hshs⟩:=qyb hr
      have hu:=lendO_sh hshs hu
      unfold qkw at hu
      split at hu
      ·cases hu
      ·rename_i hy
       split at hu
       ·rename_i rr obs hL
        obtain ⟨hfr,hu⟩:=qbr hu
        rw [hc.L] at hL
        have hev:=qti hL
        obtain ⟨a1,a2,a3,a4⟩:=Qbt d hfix hu
        refine ⟨_,_,hr,⟨a3,a4,by simp,by simp⟩,hev.mono fun n hn'=>?_⟩
        simp only [beq_iff_eq] at hfr
        rw [hc.leans] at hfr
        have hy':qdt (qf9 (qcq (qbq ks.st.objs)) (pvL xs))=false:=by simpa using hy
        simp only [qcs,hfe,hg,hvs,qmb,qq7,Qm5,Qdg,hio,hc.spF g hsp,hne',Bool.false_eq_true,if_false,hsh,hy',Bool.not_false,Bool.and_self,chk,if_true,hn',qcd.out,a1,a2,hfr,Option.map_none,List.map_nil]
        rw [qgz (qcr hk),← qd1 hk,← qd9 hxs]
       ·cases hu
     ·cases hr
 ·rename_i v hf
  rw [hf] at hfo
  have hfe:f.ev ks.st.tmps=v:=by rw [qvi hk,hf];rfl
  split at hr
  ·rename_i vs hv
   obtain ⟨u,hu,hr⟩:=qcb hr
   obtain ⟨sh',hfix,hr,hsh⟩:=qyb hr
   obtain ⟨out,h1,h2,h3⟩:=Qry (d:=d) (dep:=dep) (e:=e) (hn:=hn) hc hfix (qva hao hv) hfo (Qrx hsh hu) (qbq ks.st.objs) ks.st.tmps f args hfe (by rw [qqd hk,qxb hv])
   subst h2
   exact ⟨_,_,hr,h1,h3⟩
  ·cases hr
 ·cases hr
end
end Go.Ab


namespace Go.Ab
variable {cfg:Qb4} {tab:FuncId→Option RFn} {ks:KSt} {E R:Type} {h:qbl E} {hn:Nat→qbl E} {r:R} {e:E} {d dep:Nat}
theorem kfresh_ok (hk:ks.Ok) {o:qb2} (hf:kfresh o ks=true):qgo o ks.st=true:=by
 unfold kfresh at hf
 unfold qgo
 split
 ·rename_i hm
  rw [if_pos hm] at hf
  split
  ·rename_i d' hd
   rw [hd] at hf
   simp only [Bool.and_eq_true,Nat.blt_eq,List.isEmpty_iff] at hf
   have:ks.st.objs[d']?=some []:=by
    show (qfr ks.nt ks.objs)[d']?=_
    rw [denseO_get?,if_pos hf.1,hf.2];rfl
   rw [this]
  ·rename_i hd
   rw [hd] at hf
   exact hf
 ·rfl
theorem Qke (hc:qm1 cfg tab) (hh:HOk h hn) (hk:ks.Ok) {o:qb2} {K:qcd→E→Option R} (hr:Qdl cfg h o ks e K=some r) :
  ∃ out e',(out.frz.isEmpty||qkg ks.objs)=true∧K out e'=some r∧out.Ok∧Evl fun n=>qjs (qkv cfg.b.sp tab n) (hn n) dep o ks.st e=some (out.out,e'):=by
 unfold Qdl at hr
 split at hr
 ·rename_i hcond
  obtain ⟨h1,h2,h3⟩:=hcond
  have hf:=kfresh_ok hk h1
  split at hr
  ·rename_i f args hop
   rw [hop] at h2 h3
   obtain ⟨out,e',a1,a2,a3⟩:=kcall_ok (dep:=dep) hc hh hk h3 h2 hr
   split at a1
   case isFalse=>cases a1
   rename_i hgq
   obtain ⟨hg,hqq⟩:=Bool.and_eq_true_iff.1 hgq
   have hgd:qql o.dst out.out=true:=by
    simp only [qql,qcd.out]
    have:(out.new.map KOb.ob).isEmpty=out.new.isEmpty:=by cases out.new<;>rfl
    rw [this];exact hg
   refine ⟨out,e',hqq,a1,a2,a3.mono fun n hn'=>?_⟩
   simp only [qjs,chk,hf,if_true,hop,hn',hgd]
  ·rename_i hop
   obtain ⟨out,a1,a2,a3⟩:=execK_ok hk h3 h2 hr
   simp only at a1
   split at a1
   case isFalse=>cases a1
   rename_i hqq
   refine ⟨out,e,hqq,a1,a2,.of fun n=>?_⟩
   simp only [qjs,chk,hf,if_true]
   cases hq:o.op with
   | call f args=>exact (hop f args hq).elim
   | _=>rw [hq] at a3;simp only [a3]
 ·cases hr
theorem qs2 {i:Nat} {v:PV} {b:Bool} (hk:ks.Ok) (hg:qcm ks.tmps i=.cv v) (hv:v=.bool b):({ ks with tmps:=qj9 i (.lit b) ks.tmps }:KSt).st=ks.st∧({ ks with tmps:=qj9 i (.lit b) ks.tmps }:KSt).Ok:=by
 have hlt:i < ks.nt:=by
  apply Classical.byContradiction
  intro hlt
  rw [hk.tm.get_ge (by omega)] at hg;cases hg
 refine ⟨?_,hk.tm.put hlt trivial rfl,hk.ob,hk.kp⟩
 unfold KSt.st
 simp only
 rw [qt6]
 congr 1
 apply List.ext_getElem?
 intro j
 rw [List.getElem?_set,qb7]
 by_cases hj:i=j
 ·subst hj
  simp only [if_true]
  rw [if_pos hlt,dense_get?,if_pos hlt,hg,hv]
  rfl
 ·rw [if_neg hj]
theorem Qj8 (hk:ks.Ok) {ops:List qb2} {o:qb2} {K:Bool→KSt→Option R} (hr:Qqn ops o ks K=some r):∃ b k',K b k'=some r∧k'.Ok∧k'.st=ks.st∧qj8 ops o ks.st.tmps=some b ∧
  k'.objs=ks.objs∧(∀ x:RX,(x.kv k'.tmps).names=(x.kv ks.tmps).names∧(x.kv k'.tmps).hasY=(x.kv ks.tmps).hasY):=by
 unfold Qqn at hr
 unfold qj8
 split at hr
 ·rename_i hg;rw [hg];exact ⟨_,_,hr,hk,rfl,rfl,rfl,fun _=>⟨rfl,rfl⟩⟩
 ·rename_i j want hg
  rw [hg]
  split at hr
  ·rename_i p hp
   split at hr
   ·rename_i d' hd
    have hget:ks.st.tmps.getD d' .undef=(qcm ks.tmps d').pv:=qj0 hk.tm d'
    simp only [hp,hd,hget]
    split at hr
    ·rename_i b hb;rw [hb];exact ⟨_,_,hr,hk,rfl,rfl,rfl,fun _=>⟨rfl,rfl⟩⟩
    ·rename_i hb;rw [hb];exact ⟨_,_,hr,hk,rfl,rfl,rfl,fun _=>⟨rfl,rfl⟩⟩
    ·rename_i v hb
     rw [hb]
     have hsame:∀ b,∀ x:RX,(x.kv (qj9 d' (.lit b) ks.tmps)).names=(x.kv ks.tmps).names∧(x.kv (qj9 d' (.lit b) ks.tmps)).hasY=(x.kv ks.tmps).hasY:=by
      intro b x
      cases x with
      | c v=>exact ⟨rfl,rfl⟩
      | t i =>
       simp only [RX.kv,qyc]
       by_cases hi:i=d'
       ·subst hi;rw [if_pos rfl,hb];exact ⟨rfl,rfl⟩
       ·rw [if_neg hi];exact ⟨rfl,rfl⟩
     rcases qto hr with ⟨hv,hr⟩ | ⟨hv,hr⟩
     ·obtain ⟨s1,s2⟩:=qs2 hk hb hv
      subst hv
      exact ⟨_,_,hr,s2,s1,rfl,rfl,hsame true⟩
     ·obtain ⟨s1,s2⟩:=qs2 hk hb hv
      subst hv
      exact ⟨_,_,hr,s2,s1,rfl,rfl,hsame false⟩
    ·cases hr
   ·cases hr
  ·cases hr
theorem Qqo (hc:qm1 cfg tab) (hh:HOk h hn) (hk:ks.Ok) {ops:List qb2} {o:qb2} {K:KSt→E→Option R} (hr:kstep cfg h ops o ks e K=some r) :
  ∃ k' e',K k' e'=some r∧k'.Ok∧Evl fun n=>stepG (qkv cfg.b.sp tab n) (hn n) dep ops o ks.st e=some (k'.st,e'):=by
 unfold kstep at hr
 obtain ⟨b,k1,hr,hk1,hst,hw,_,_⟩:=Qj8 hk hr
 cases b with
 | true =>
  simp only at hr
  obtain ⟨out,e',hq,h1,h2,h3⟩:=Qke (dep:=dep) hc hh hk1 hr
  rw [qc9] at h1
  obtain ⟨s1,s2⟩:=qsh hk1 hq o.dst h2
  refine ⟨_,_,h1,s2,h3.mono fun n hn'=>?_⟩
  rw [hst] at hn' s1
  simp only [stepG,hw,qs0,hn',s1]
 | false =>
  simp only at hr
  rw [qc9] at hr
  have:(qnl k1 o.dst { v:=.sk }).st=apply k1.st o.dst { v:=.tup [] }∧(qnl k1 o.dst { v:=.sk }).Ok:=by
   exact kapply_sk hk1 o.dst
  refine ⟨_,_,hr,this.2,.of fun n=>?_⟩
  simp only [stepG,hw,this.1,hst]
where
 kapply_sk {ks:KSt} (hk:ks.Ok) (dst:Option Nat):(qnl ks dst { v:=.sk }).st=apply ks.st dst { v:=.tup [] }∧(qnl ks dst { v:=.sk }).Ok:=by
  unfold qnl
  rw [Qhl]
  simp only [kupd,kkill,kfrzs,bupd,Qpa,List.isEmpty_nil,if_true,bgone,Qn9,kgone]
  have hkt:kturn [] ks=ks:=rfl
  have hke:kext none [] ks=ks:=rfl
  have hkn:newAt none []=[]:=rfl
  rw [hkt,hke,hkn]
  simp only [bext,Qj0]
  cases dst with
  | none=>exact ⟨rfl,hk⟩
  | some d =>
   simp only [kset,bset]
   cases hd:Nat.blt d ks.nt with
   | true =>
    have hd':d < ks.nt:=by simpa [Nat.blt_eq] using hd
    refine ⟨?_,hk.tm.set (v:=.sk) hd' trivial,hk.ob,hk.kp⟩
    unfold KSt.st
    simp only
    rw [Qln]
    rfl
   | false =>
    have hd':¬ d < ks.nt:=by intro h;rw [show Nat.blt d ks.nt=true by simpa [Nat.blt_eq] using h] at hd;cases hd
    refine ⟨?_,hk⟩
    unfold KSt.st
    simp only
    rw [List.set_eq_of_length_le (by rw [qb7];omega)]
    rfl
theorem Qgj (hc:qm1 cfg tab) (hh:HOk h hn) {ops:List qb2}:∀ (l:List qb2) {ks:KSt} {e:E} {K:KSt→E→Option R},ks.Ok→kruns cfg h ops l ks e K=some r →
  ∃ k' e',K k' e'=some r∧k'.Ok∧Evl fun n=>qhz (qkv cfg.b.sp tab n) (hn n) dep ops l ks.st e=some (k'.st,e'):=by
 intro l
 induction l with
 | nil=>intro ks e K hk hr;exact ⟨ks,e,hr,hk,.of fun n=>rfl⟩
 | cons o rest ih =>
  intro ks e K hk hr
  simp only [kruns] at hr
  obtain ⟨k1,e1,hr,hk1,h1⟩:=Qqo (dep:=dep) hc hh hk hr
  obtain ⟨k2,e2,hr,hk2,h2⟩:=ih hk1 hr
  exact ⟨k2,e2,hr,hk2,h1.mono2 h2 fun n a b=>by simp only [qhz,a,b]⟩
theorem Qka (o:qcd):Qkb o=qcc o.out:=by
 unfold Qkb qcc qcd.out
 cases o.upd<;>cases o.ups<;>rfl
theorem kturns_ok (o:qcd):kturns o=qdv o.out:=by
 unfold kturns qdv qcd.out
 cases o.ups<;>rfl
theorem Qj9 (o:qcd):qzi o=qfj o.out:=by
 unfold qzi qfj qcd.out
 cases o.upd with
 | none=>rfl
 | some p=>rfl
theorem spAt_pv (ks:KSt) (s:Nat):ks.st.tmps.getD s .undef=(spAt ks s).pv:=by
 unfold spAt
 show (qdu ks.nt ks.tmps).getD s .undef=_
 unfold qdu
 rw [List.getD_eq_getElem?_getD,List.getElem?_map]
 cases hb:Nat.blt s ks.nt with
 | true =>
  have:s < ks.nt:=Nat.blt_eq.mp hb
  rw [List.getElem?_range this];rfl
 | false =>
  have:¬ s < ks.nt:=fun h=>by rw [Nat.blt_eq.mpr h] at hb;cases hb
  rw [List.getElem?_eq_none (by simpa using this)];rfl
theorem Qcs (hk:ks.Ok) (s:Nat):(ks.st.tmps.getD s .undef).names=(spAt ks s).names:=by
 rw [spAt_pv]
 refine KV.pv_names ?_
 unfold spAt
 cases Nat.blt s ks.nt with
 | true=>exact hk.tm.get_ok s
 | false=>trivial
theorem kheld_eq (hk:ks.Ok) (l:List Nm):kheldN (qc6 ks.objs) l=Qgt (qbq ks.st.objs) l:=by
 unfold kheldN Qgt
 congr 1
 funext nm
 rw [qd1 hk]
 cases hq:qc6 ks.objs nm with
 | none=>simp [hq]
 | some o =>
  simp only [hq,Option.map_some,Option.getD_some]
  exact (KOb.ob_names (qcr hk nm o hq)).symm
theorem krn_eq (hk:ks.Ok) {o:qb2} (hx:o.op.xs.all okX=true) (out:qcd):krnOf o ks out=Qje o ks.st out.out:=by
 have hok:=qza hk hx
 unfold krnOf Qje
 rw [qqd hk,qgz (qcr hk),← qd1 hk,← qd9 hok,Qka]
 rfl
theorem kisYld_ok (hk:ks.Ok) {op:ROp} (hx:op.xs.all okX=true):kisYld op ks.tmps=qvy op ks.st.tmps:=by
 cases op<;>try rfl
 rename_i f args
 have hxa:args.all okX=true:=List.all_eq_true.2 fun x hm=>List.all_eq_true.1 hx x (by simp [ROp.xs,hm])
 have hxf:(f.kv ks.tmps).ok:=kv_ok hk (List.all_eq_true.1 hx f (by simp [ROp.xs]))
 unfold kisYld qvy
 simp only
 rw [qvi hk,qqd hk,qd9 (qza hk hxa)]
 cases hf:f.kv ks.tmps with
 | cv v =>
  rw [hf] at hxf
  simp only [KV.pv]
  cases v<;>first | rfl | (simp [KV.ok,okV] at hxf)
 | _=>rfl
theorem kinfo_ok (hk:ks.Ok) {ops:List qb2} {i:Nat} {o:qb2} (hx:o.op.xs.all okX=true) {out:qcd} (ho:out.Ok):kinfo ops i o ks out=qlu ops i o ks.st out.out:=by
 unfold kinfo qlu
 have hok:=qza hk hx
 simp only
 have hn:out.out.new.flatMap Ob.names=out.new.flatMap KOb.names:=by
  show (out.new.map KOb.ob).flatMap Ob.names=_
  rw [List.flatMap_map]
  have:∀ l:List KOb,(∀ x∈l,x.ok)→l.flatMap (fun a=>a.ob.names)=l.flatMap KOb.names:=by
   intro l
   induction l with
   | nil=>intro _;rfl
   | cons x l ih =>
    intro h
    rw [List.flatMap_cons,List.flatMap_cons,KOb.ob_names (h x List.mem_cons_self),ih fun y hy=>h y (List.mem_cons_of_mem _ hy)]
  exact this _ ho.new
 have hv:out.out.v.names=out.v.names:=KV.pv_names ho.v
 simp only [← Qcs hk]
 rw [krn_eq hk hx,kheld_eq hk,kisYld_ok hk hx,qqd hk,← qpf hok,Qka,kturns_ok,Qj9,hn,hv]
 rfl
theorem koutOf_x {o:qb2} {K:qcd→E→Option R} (hr:Qdl cfg h o ks e K=some r):o.op.xs.all okX=true:=by
 unfold Qdl at hr
 split at hr
 ·rename_i hcond;exact hcond.2.1
 ·cases hr
theorem kstepD_ok (hc:qm1 cfg tab) (hh:HOk h hn) (hk:ks.Ok) {ops:List qb2} {i:Nat} {o:qb2} {K:KSt→E→qsx→Option R} (hr:kstepD cfg h ops i o ks e K=some r) :
  ∃ k' e' inf,K k' e' inf=some r∧k'.Ok∧Evl fun n=>Qh1 (qkv cfg.b.sp tab n) (hn n) dep ops i o ks.st e=some (k'.st,e',inf):=by
 unfold kstepD at hr
 obtain ⟨b,k1,hr,hk1,hst,hw,_,_⟩:=Qj8 hk hr
 cases b with
 | true =>
  simp only at hr
  have hxs:=koutOf_x hr
  obtain ⟨out,e',hq,h1,h2,h3⟩:=Qke (dep:=dep) hc hh hk1 hr
  rw [qc9] at h1
  obtain ⟨s1,s2⟩:=qsh hk1 hq o.dst h2
  refine ⟨_,_,_,h1,s2,h3.mono fun n hn'=>?_⟩
  rw [hst] at hn' s1
  simp only [Qh1,qn4,hw,hn',s1]
  rw [kinfo_ok hk1 hxs h2,hst]
 | false =>
  simp only at hr
  rw [qc9] at hr
  have:=Qqo.kapply_sk hk1 o.dst
  refine ⟨_,_,_,hr,this.2,.of fun n=>?_⟩
  simp only [Qh1,qn4,hw,this.1,hst,← Qcs hk1]
theorem krunsD_ok (hc:qm1 cfg tab) (hh:HOk h hn) {ops:List qb2}:∀ (l:List (Nat×Nat)) (infos:List qsx) {ks:KSt} {e:E} {K:KSt→E→Option R},ks.Ok→Qqp cfg h ops l infos ks e K=some r →
  ∃ k' e',K k' e'=some r∧k'.Ok∧Evl fun n=>Qpz (qkv cfg.b.sp tab n) (hn n) dep ops l infos ks.st e=some (k'.st,e'):=by
 intro l
 induction l with
 | nil=>intro infos ks e K hk hr;exact ⟨ks,e,hr,hk,.of fun n=>rfl⟩
 | cons p rest ih =>
  obtain ⟨i,bef⟩:=p
  intro infos ks e K hk hr
  simp only [Qqp] at hr
  split at hr
  ·rename_i o ho
   obtain ⟨k1,e1,inf,hr,hk1,h1⟩:=kstepD_ok (dep:=dep) hc hh hk hr
   split at hr
   ·rename_i hall
    obtain ⟨k2,e2,hr,hk2,h2⟩:=ih _ hk1 hr
    exact ⟨k2,e2,hr,hk2,h1.mono2 h2 fun n a b=>by simp only [Qpz,ho,a,chk,hall,if_true,b]⟩
   ·cases hr
  ·cases hr
end Go.Ab


namespace Go.Ab
variable {ks:KSt}
theorem qpq {nt:Nat} {l:SpO} (h:qlf nt l) (d:Nat):(qfr nt l).getD d []=(qcy l d).map KOb.ob:=by
 rw [List.getD_eq_getElem?_getD,denseO_get?]
 split
 ·rfl
 ·rw [h.get_ge (by omega)];rfl
theorem qnk (h:ks.Ok) (ds:List Nat):(qhh ds ks).st=ql1 ds ks.st∧(qhh ds ks).Ok∧(qhh ds ks).nt=ks.nt:=by
 have hall:(ds.all fun d=>(ks.st.objs.getD d []).isEmpty)=ds.all fun d=>(qcy ks.objs d).isEmpty:=by
  congr 1
  funext d
  show ((qfr ks.nt ks.objs).getD d []).isEmpty=_
  rw [qpq h.ob]
  cases qcy ks.objs d<;>rfl
 unfold qhh ql1
 rw [hall]
 split
 ·exact ⟨rfl,h,rfl⟩
 ·have h1:=Qng (fun m=>ds.contains m.1) h
  have h2:=Qnf (fun m=>ds.contains m.1) h
  refine ⟨?_,⟨h1.tm,h1.ob.sub (soKeep_sub _ _),h1.kp⟩,rfl⟩
  have e:qrs (fun m=>ds.contains m.1)=fun m=>if ds.contains m.1=true then some none else none:=rfl
  rw [e] at h2
  simp only
  rw [← h2]
  unfold KSt.st
  simp only
  congr 1
  refine qj2 (by simp [qdo]) fun i hi=>?_
  rw [List.getElem?_map,List.getElem?_zipIdx,denseO_get?,if_pos hi,soGet_keep]
  simp only [Option.map_some,Nat.zero_add]
  cases ds.contains i<;>simp
theorem qsv {ds ds':List Nat} (h:∀ d,d∈ds↔d∈ds') (st:St):ql1 ds st=ql1 ds' st:=by
 have h1:∀ p:Nat→Bool,ds.all p=ds'.all p:=fun p=>by
  rw [Bool.eq_iff_iff,List.all_eq_true,List.all_eq_true]
  exact ⟨fun a x hx=>a x ((h x).2 hx),fun a x hx=>a x ((h x).1 hx)⟩
 have h2:∀ i,ds.contains i=ds'.contains i:=fun i=>by
  rw [Bool.eq_iff_iff,List.contains_iff_mem,List.contains_iff_mem]
  exact h i
 unfold ql1
 simp only [h1,h2]
theorem qse {nm:Nm} {xs:List PV}:nm∈qbo xs↔∃ x∈xs,nm∈x.names:=by
 induction xs with
 | nil=>simp [qbo]
 | cons x xs ih=>simp [qbo,ih]
theorem Qdr (h:ks.Ok) (nm:Nm):nm∈qbo ks.st.keep↔nm∈ks.keep.flatMap qhe:=by
 rw [qse]
 show (∃ x∈ks.keep.flatMap (qdu ks.nt),nm∈x.names)↔_
 simp only [List.mem_flatMap]
 constructor
 ·rintro ⟨x,⟨sp,hsp,hx⟩,hn⟩
  exact ⟨sp,hsp,(qpp (h.kp sp hsp) nm).1 (qse.2 ⟨x,hx,hn⟩)⟩
 ·rintro ⟨sp,hsp,hn⟩
  obtain ⟨x,hx,hn⟩:=qse.1 ((qpp (h.kp sp hsp) nm).2 hn)
  exact ⟨x,⟨sp,hsp,hx⟩,hn⟩
theorem qqg (h:ks.Ok) (d:Nat):d∈qry ks.st↔d∈qlb ks:=by
 have hR:∀ p:Nm→Bool,(qbo ks.st.tmps++qbo ks.st.keep++ks.st.objs.flatMap fun l=>l.flatMap Ob.names).all p=(qhe ks.tmps++ks.keep.flatMap qhe++qlm ks.objs).all p:=by
  intro p
  have e1:∀ nm,nm∈qbo ks.st.tmps↔nm∈qhe ks.tmps:=fun nm=>qpp h.tm nm
  have e2:=Qdr h
  have e3:∀ nm,nm∈(ks.st.objs.flatMap fun l=>l.flatMap Ob.names)↔nm∈qlm ks.objs:=fun nm=>qw9 h.ob nm
  rw [Bool.eq_iff_iff,List.all_eq_true,List.all_eq_true]
  refine ⟨fun a x hx=>a x ?_,fun a x hx=>a x ?_⟩
  ·simp only [List.mem_append] at hx ⊢
   rw [e1,e2,e3];exact hx
  ·simp only [List.mem_append] at hx ⊢
   rw [← e1,← e2,← e3];exact hx
 unfold qry qlb
 simp only [List.mem_filter,List.mem_range,List.mem_map,hR,Bool.and_eq_true]
 have hget:ks.st.objs.getD d []=(qcy ks.objs d).map KOb.ob:=qpq h.ob d
 rw [hget]
 constructor
 ·rintro ⟨_,h1,h2⟩
  have hne:qcy ks.objs d≠[]:=by intro e;rw [e] at h1;simp at h1
  refine ⟨_,⟨qm3 hne,?_,h2⟩,rfl⟩
  simpa using hne
 ·rintro ⟨p,⟨hp,h1,h2⟩,rfl⟩
  have:=h.ob.get_mem hp
  have hlt:=h.ob.lt p hp
  refine ⟨?_,?_,h2⟩
  ·show p.1 < (qfr ks.nt ks.objs).length
   rw [qdo];exact hlt
  ·rw [this];simpa using h1
theorem Qbq {R R':List Nm} (h:∀ nm,nm∈R↔nm∈R') (d:Nat):∀ n,Qbr R d n=Qbr R' d n
 | 0=>rfl
 | n+1=>by
  have e:R.contains (d,n)=R'.contains (d,n):=by
   rw [Bool.eq_iff_iff,List.contains_iff_mem,List.contains_iff_mem];exact h _
  simp only [Qbr,e,Qbq h d n]
theorem Qct {R:List Nm}:∀ {l:SpO} {p:Nat×List KOb},p∈qp1 R l→∃ q∈l,p.1=q.1∧∀ o∈p.2,o∈q.2:=by
 intro l
 induction l with
 | nil=>intro p hp;cases hp
 | cons q l ih =>
  obtain ⟨j,u⟩:=q
  intro p hp
  simp only [qp1] at hp
  split at hp
  ·obtain ⟨q,hq,h⟩:=ih hp
   exact ⟨q,by simp [hq],h⟩
  ·rename_i v vs hv
   rcases List.mem_cons.1 hp with rfl | hp
   ·refine ⟨(j,u),by simp,rfl,fun o ho=>?_⟩
    simp only at ho
    rw [← hv] at ho
    exact List.mem_of_mem_take ho
   ·obtain ⟨q,hq,h⟩:=ih hp
    exact ⟨q,by simp [hq],h⟩
theorem Qmk {R:List Nm}:∀ (l:SpO),((qp1 R l).map (·.1)).Sublist (l.map (·.1)):=by
 intro l
 induction l with
 | nil=>exact .slnil
 | cons q l ih =>
  obtain ⟨j,u⟩:=q
  simp only [qp1]
  split
  ·exact .cons _ ih
  ·exact .cons_cons _ ih
theorem qlf.trim {nt:Nat} {R:List Nm} {l:SpO} (h:qlf nt l):qlf nt (qp1 R l) where
 srt:=h.srt.sublist (Qmk l)
 lt p hp:=by
  obtain ⟨q,hq,e,_⟩:=Qct hp
  rw [e];exact h.lt q hq
 ok p hp o ho:=by
  obtain ⟨q,hq,_,e⟩:=Qct hp
  exact h.ok q hq o (e o ho)
theorem soGet_trim {nt:Nat} {R:List Nm}:∀ {l:SpO},qlf nt l→∀ (i:Nat),qcy (qp1 R l) i=(qcy l i).take (Qbr R i (qcy l i).length):=by
 intro l
 induction l with
 | nil=>intro _ i;simp [qp1,qcy]
 | cons q l ih =>
  obtain ⟨j,u⟩:=q
  intro h i
  simp only [qp1]
  cases hij:Nat.beq i j with
  | true =>
   have hb:=Nat.eq_of_beq_eq_true hij
   subst hb
   have hrest:qcy l i=[]:=by
    cases hq:qcy l i with
    | nil=>rfl
    | cons x xs =>
     have hm:=qm3 (l:=l) (i:=i) (by rw [hq];simp)
     have h1:=(List.pairwise_cons.1 h.srt).1 i (List.mem_map.2 ⟨_,hm,rfl⟩)
     exact absurd h1 (Nat.lt_irrefl i)
   have hget:qcy ((i,u) :: l) i=u:=by simp [qcy,hij]
   rw [hget]
   split
   ·rename_i hv
    rw [ih h.tail i,hrest,hv];rfl
   ·rename_i v vs hv
    rw [hv]
    simp [qcy,hij]
  | false =>
   have hget:qcy ((j,u) :: l) i=qcy l i:=by simp [qcy,hij]
   rw [hget,← ih h.tail i]
   split
   ·rfl
   ·simp [qcy,hij]
theorem ktrim_st (h:ks.Ok):(ktrim ks).st=trim ks.st∧(ktrim ks).Ok∧(ktrim ks).nt=ks.nt:=by
 refine ⟨?_,⟨h.tm,h.ob.trim,h.kp⟩,rfl⟩
 have hR:∀ nm,nm∈(qbo ks.st.tmps++qbo ks.st.keep++ks.st.objs.flatMap fun l=>l.flatMap Ob.names)↔nm∈(qhe ks.tmps++ks.keep.flatMap qhe++qlm ks.objs):=by
  intro nm
  have e1:nm∈qbo ks.st.tmps↔nm∈qhe ks.tmps:=qpp h.tm nm
  have e2:=Qdr h nm
  have e3:nm∈(ks.st.objs.flatMap fun l=>l.flatMap Ob.names)↔nm∈qlm ks.objs:=qw9 h.ob nm
  simp only [List.mem_append]
  rw [e1,e2,e3]
 unfold ktrim trim
 show ({ tmps:=_,objs:=qfr ks.nt _,keep:=_ }:St)={ tmps:=_,objs:=_,keep:=_ }
 congr 1
 refine qj2 (by simp [KSt.st,qdo]) fun i hi=>?_
 rw [List.getElem?_map,List.getElem?_zipIdx]
 show (((qfr ks.nt ks.objs)[i]?).map _).map _=_
 rw [denseO_get?,if_pos hi,soGet_trim h.ob]
 simp only [Option.map_some,Nat.zero_add,Option.some.injEq,List.length_map,List.map_take]
 rw [Qbq hR]
theorem Qgl (h:ks.Ok) (p:Nat→Bool):({ ks with tmps:=qll p ks.tmps }:KSt).st={ ks.st with tmps:=ks.st.tmps.zipIdx.map fun (v,i)=>if p i then v else .undef }∧({ ks with tmps:=qll p ks.tmps }:KSt).Ok:=by
 refine ⟨?_,h.tm.sub (spKeep_sub _ _),h.ob,h.kp⟩
 unfold KSt.st
 simp only
 congr 1
 refine qlx (by simp [qb7]) fun i hi=>?_
 rw [List.getElem?_map,List.getElem?_zipIdx,dense_get?,if_pos hi,spGet_keep]
 simp only [Option.map_some,Nat.zero_add]
 cases p i<;>rfl
theorem qxu (h:ks.Ok) (lv:Option (List Nat)):(Qnd lv ks).st=Qpp lv ks.st∧(Qnd lv ks).Ok:=by
 cases lv with
 | none=>exact ⟨rfl,h⟩
 | some l =>
  unfold Qnd Qpp qlc
  simp only
  obtain ⟨h1,h2⟩:=Qgl h (fun i=>l.contains i)
  obtain ⟨h3,h4,_⟩:=qnk h2 (qlb { ks with tmps:=qll (fun i=>l.contains i) ks.tmps })
  refine ⟨?_,h4⟩
  rw [h3,← h1]
  exact qsv (fun d=>(qqg h2 d).symm) _
theorem Qcd {v:PV}:qds (.cv v) (.cv v)=[v]:=rfl
theorem Qm1 {l:Sp} (h:qbs (qhl l l)=true) {i:Nat} {v:PV} (hm:(i,KV.cv v)∈l):qhg v=false:=by
 unfold qbs at h
 induction l with
 | nil=>cases hm
 | cons p l ih =>
  obtain ⟨k,u⟩:=p
  simp only [qhl,List.all_append,Bool.and_eq_true] at h
  rcases List.mem_cons.1 hm with e | hm
  ·cases e
   have:=h.1
   rw [Qcd] at this
   simpa using this
  ·exact ih h.2 hm
theorem undefs_iff {k0:KSt} (h0:k0.Ok) (hu:qbs (qhl k0.tmps k0.tmps)=true) {i:Nat} (hi:i < k0.nt):(undefs k0.st).contains i=!qs5 k0.tmps i:=by
 have hmem:i∈undefs k0.st↔qhg (qcm k0.tmps i).pv=true:=by
  unfold undefs
  simp only [List.mem_map,List.mem_filter]
  constructor
  ·rintro ⟨⟨v,j⟩,⟨hv,hq⟩,rfl⟩
   have:=List.mem_zipIdx hv
   rw [List.mem_zipIdx_iff_getElem?] at hv
   simp only at hv
   have e:(qdu k0.nt k0.tmps)[j]?=some v:=hv
   rw [dense_get?,if_pos hi] at e
   cases e
   exact hq
  ·intro hq
   refine ⟨((qcm k0.tmps i).pv,i),⟨?_,hq⟩,rfl⟩
   rw [List.mem_zipIdx_iff_getElem?]
   show (qdu k0.nt k0.tmps)[i]?=_
   rw [dense_get?,if_pos hi]
 rw [Bool.eq_iff_iff,List.contains_iff_mem,hmem]
 cases hh:qs5 k0.tmps i with
 | false =>
  have:qcm k0.tmps i=.un:=by
   apply Classical.byContradiction
   intro hne
   rw [(h0.tm.has_iff i).2 hne] at hh;cases hh
  simp [this,KV.pv,qhg]
 | true =>
  have hne:=(h0.tm.has_iff i).1 hh
  have hm:=qpz hne
  simp only [Bool.not_true,Bool.false_eq_true,iff_false]
  intro hq
  cases hg:qcm k0.tmps i with
  | un=>exact hne hg
  | cv v =>
   rw [hg] at hm hq
   have:=Qm1 hu hm
   simp only [KV.pv] at hq
   rw [this] at hq;cases hq
  | _=>rw [hg] at hq;simp [KV.pv,qhg] at hq
theorem kdrop_st {k0:KSt} (h0:k0.Ok) (hu:qbs (qhl k0.tmps k0.tmps)=true) (h:ks.Ok) (hnt:ks.nt=k0.nt):(Qko k0 ks).st=drop (undefs k0.st) ks.st∧(Qko k0 ks).Ok∧(Qko k0 ks).nt=ks.nt:=by
 unfold Qko drop
 simp only
 obtain ⟨h1,h2⟩:=Qgl h (qs5 k0.tmps)
 obtain ⟨h3,h4,h5⟩:=qnk h2 (qlb { ks with tmps:=qll (qs5 k0.tmps) ks.tmps })
 refine ⟨?_,h4,h5⟩
 have h6:qn5 (undefs k0.st) ks.st=({ ks with tmps:=qll (qs5 k0.tmps) ks.tmps }:KSt).st:=by
  rw [h1]
  unfold qn5
  congr 1
  apply List.map_congr_left
  rintro ⟨v,i⟩ hm
  have hi:i < k0.nt:=by
   rw [List.mem_zipIdx_iff_getElem?] at hm
   have e:(qdu ks.nt ks.tmps)[i]?=some v:=hm
   rw [dense_get?] at e
   split at e
   ·omega
   ·cases e
  simp only [undefs_iff h0 hu hi]
  cases qs5 k0.tmps i<;>rfl
 rw [h3,h6]
 exact qsv (fun d=>(qqg h2 d).symm) _
theorem Qkk (h:ks.Ok) (t:Nat):qst ks.st t=qw0 ks t:=by
 unfold qst qw0
 show (match (qfr ks.nt ks.objs)[t]? with | some []=>true | _=>false)=_
 rw [denseO_get?]
 by_cases ht:t < ks.nt
 ·rw [if_pos ht]
  have:Nat.blt t ks.nt=true:=by simpa [Nat.blt_eq] using ht
  rw [this]
  cases qcy ks.objs t<;>rfl
 ·rw [if_neg ht]
  have:Nat.blt t ks.nt=false:=by
   cases hb:Nat.blt t ks.nt with
   | false=>rfl
   | true=>exact absurd (by simpa [Nat.blt_eq] using hb) ht
  rw [this];rfl
theorem Qkl {t:Nat} (h:qw0 ks t=true):t < ks.nt:=by
 unfold qw0 at h
 simp only [Bool.and_eq_true,Nat.blt_eq] at h
 exact h.1
theorem qww (h:ks.Ok) (t:Nat) (nm:Nm):(qng t ks nm).st=(if nm≠(t,0)∧qst ks.st t=true then
   match qbq ks.st.objs nm with
   | some ob =>
    let f:Nm→Nm:=fun m=>if m=nm then (t,0) else m
    let objs:=ks.st.objs.map (·.map (Ob.ren f))
    {tmps:=qjl f ks.st.tmps,objs:=(qc4 objs nm qh7).set t [ob.ren f],keep:=qjl f ks.st.keep }
   | none=>ks.st
  else ks.st)∧(qng t ks nm).Ok∧(qng t ks nm).nt=ks.nt:=by
 unfold qng
 rw [Qkk h]
 by_cases hc:nm≠(t,0)∧qw0 ks t=true
 ·rw [if_pos hc,if_pos hc,qks h]
  cases hl:qc6 ks.objs nm with
  | none=>exact ⟨rfl,h,rfl⟩
  | some ob =>
   simp only [Option.map_some]
   have hoo:=qdi h.ob hl
   have ht:=Qkl hc.2
   let f:Nm→Nm:=fun m=>if m=nm then (t,0) else m
   have hm:qlf ks.nt (qp2 (KOb.ren f) ks.objs):=h.ob.map fun x hx=>KOb.ren_ok f hx
   refine ⟨?_,⟨h.tm.map fun x hx=>KV.ren_ok f hx,(hm.kput nm (o:=qrk) rfl).put ht fun o ho=>by
    simp only [List.mem_singleton] at ho;subst ho;exact KOb.ren_ok f hoo,fun sp hsp=>?_⟩,by trivial⟩
   ·unfold KSt.st
    simp only
    rw [qt5 h.tm,qj1,qly hm,qrh h.ob (fun o ho=>KOb.ren_ob f ho),
     qxz (g:=qjl f) rfl (qyo f) fun sp hsp=>qt5 (h.kp sp hsp) f]
    have hren:=KOb.ren_ob (fun m=>if m=nm then (t,0) else m) hoo
    simp only [List.map_cons,List.map_nil,hren]
    rfl
   ·obtain ⟨q,hq,rfl⟩:=List.mem_map.1 hsp
    exact (h.kp q hq).map fun x hx=>KV.ren_ok f hx
 ·rw [if_neg hc,if_neg hc];exact ⟨rfl,h,rfl⟩
theorem krehome_st (h:ks.Ok) (t:Nat):(qmd t ks).st=qku t ks.st∧(qmd t ks).Ok∧(qmd t ks).nt=ks.nt:=by
 have hget:ks.st.tmps.getD t .undef=(qcm ks.tmps t).pv:=qj0 h.tm t
 have hokt:=h.tm.get_ok t
 unfold qmd qku
 rw [hget]
 cases hg:qcm ks.tmps t with
 | arr nm k o n=>exact qww h t nm
 | wit nm=>exact qww h t nm
 | cv v =>
  rw [hg] at hokt
  have hv:okV v=true:=hokt
  simp only [KV.pv]
  cases v<;>first | (simp [okV] at hv;done) | exact ⟨rfl,h,trivial⟩
 | _=>exact ⟨rfl,h,rfl⟩
theorem qwo (h:ks.Ok) (d:Nat):ks.st.objs.getD d []=(qcy ks.objs d).map KOb.ob:=qpq h.ob d
theorem Qki (h:ks.Ok) {nm:Nm} {ty:Nat} {cs:List KV} (hl:qc6 ks.objs nm=some (.cells ty cs)) (i k:Nat):(Qdo nm ty cs i k ks).Ok∧(Qdo nm ty cs i k ks).nt=ks.nt∧(Qdo nm ty cs i k ks).st={ ks.st with objs:=ks.st.objs.set nm.1 ((ks.st.objs.getD nm.1 []).set nm.2 (.cells ty ((pvL cs).set i (.arr (nm.1,(ks.st.objs.getD nm.1 []).length) k 0 0)))++[.arr k 0 []]) }:=by
 have hlt:=qxv h.ob hl
 have hcs:qgs cs:=qdi h.ob hl
 have hset:qgs (cs.set i (.arr (nm.1,(qcy ks.objs nm.1).length) k 0 0)):=qc8.2 fun x hx=>by
  rcases List.mem_or_eq_of_mem_set hx with hx | hx
  ·exact qc8.1 hcs x hx
  ·subst hx;trivial
 unfold Qdo
 refine ⟨⟨h.tm,h.ob.put hlt fun o ho=>?_,h.kp⟩,rfl,?_⟩
 ·rcases List.mem_append.1 ho with ho | ho
  ·rcases List.mem_or_eq_of_mem_set ho with ho | ho
   ·exact h.ob.get_ok ho
   ·subst ho;exact hset
  ·simp only [List.mem_singleton] at ho;subst ho;rfl
 ·rw [qwo h]
  unfold KSt.st
  simp only
  rw [qj1,List.map_append,List.map_set]
  simp only [List.map_cons,List.map_nil,KOb.ob,qgw,List.map_set,KV.pv,List.length_map]
theorem qwz (h:ks.Ok) (nm m:Nm) (hlt:nm.1 < ks.nt):(qnj nm m ks).Ok∧(qnj nm m ks).nt=ks.nt∧(qnj nm m ks).st=(if m.1≠nm.1 then
   match qbq ks.st.objs m with
   | some ob =>
    let f:Nm→Nm:=fun x=>if x=m then (nm.1,(ks.st.objs.getD nm.1 []).length) else x
    let objs:=qc4 (ks.st.objs.map (·.map (Ob.ren f))) m qh7
    {tmps:=qjl f ks.st.tmps,objs:=objs.set nm.1 (objs.getD nm.1 []++[ob.ren f]),keep:=qjl f ks.st.keep }
   | none=>ks.st
  else ks.st):=by
 unfold qnj
 by_cases hm:m.1≠nm.1
 ·rw [if_pos hm,if_pos hm,qks h]
  cases hl:qc6 ks.objs m with
  | none=>exact ⟨h,rfl,rfl⟩
  | some ob =>
   simp only [Option.map_some]
   have hoo:=qdi h.ob hl
   rw [qwo h,List.length_map]
   generalize hf:(fun x:Nm=>if x=m then (nm.1,(qcy ks.objs nm.1).length) else x)=f
   have hmp:qlf ks.nt (qp2 (KOb.ren f) ks.objs):=h.ob.map fun x hx=>KOb.ren_ok f hx
   have hkp:qlf ks.nt (kput (qp2 (KOb.ren f) ks.objs) m qrk):=hmp.kput m (o:=qrk) rfl
   refine ⟨⟨h.tm.map fun x hx=>KV.ren_ok f hx,hkp.put hlt fun o ho=>?_,fun sp hsp=>?_⟩,by trivial,?_⟩
   ·rcases List.mem_append.1 ho with ho | ho
    ·exact hkp.get_ok ho
    ·simp only [List.mem_singleton] at ho;subst ho;exact KOb.ren_ok f hoo
   ·obtain ⟨q,hq,rfl⟩:=List.mem_map.1 hsp
    exact (h.kp q hq).map fun x hx=>KV.ren_ok f hx
   ·have hobj:qfr ks.nt (kput (qp2 (KOb.ren f) ks.objs) m qrk)=qc4 (ks.st.objs.map (·.map (Ob.ren f))) m qh7:=by
     rw [qly hmp,qrh h.ob (fun o ho=>KOb.ren_ob f ho)]
     rfl
    rw [← hobj,qpq hkp]
    unfold KSt.st
    simp only
    rw [qt5 h.tm,qj1,qxz (g:=qjl f) rfl (qyo f) fun sp hsp=>qt5 (h.kp sp hsp) f]
    have hren:=KOb.ren_ob f hoo
    simp only [List.map_append,List.map_cons,List.map_nil,hren]
 ·rw [if_neg hm,if_neg hm];exact ⟨h,rfl,rfl⟩
theorem Qkj {R:Type} {r:R} (h:ks.Ok) {nm:Nm} {ty:Nat} {cs:List KV} (hl:qc6 ks.objs nm=some (.cells ty cs)) {i k:Nat} {K:KSt→Option R} (hr:qzl nm ty cs i k ks K=some r):∃ k',K k'=some r∧k'.Ok∧k'.nt=ks.nt∧k'.st=qtu nm ty (pvL cs) i k ks.st:=by
 have hlt:=qxv h.ob hl
 have hcs:qgs cs:=qdi h.ob hl
 unfold qzl at hr
 unfold qtu
 simp only [pvL_get?]
 cases hc:cs[i]? with
 | none=>rw [hc] at hr;exact ⟨_,hr,h,rfl,rfl⟩
 | some x =>
  rw [hc] at hr
  cases x with
  | nils =>
   obtain ⟨a,b,c⟩:=Qki h hl i k
   exact ⟨_,hr,a,b,c⟩
  | arr m _ _ _ =>
   obtain ⟨a,b,c⟩:=qwz h nm m hlt
   exact ⟨_,hr,a,b,c⟩
  | wit m =>
   obtain ⟨a,b,c⟩:=qwz h nm m hlt
   exact ⟨_,hr,a,b,c⟩
  | cv v =>
   have hv:okV v=true:=qc8.1 hcs _ (List.mem_of_getElem? hc)
   simp only [Option.map_some,KV.pv]
   unfold nilO at hr
   obtain ⟨a,b,c⟩:=Qki h hl i k
   cases v<;>first | (simp [okV] at hv;done) | exact ⟨_,hr,a,b,c⟩ | (cases hr;done)
  | _=>exact ⟨_,hr,h,rfl,rfl⟩
theorem kgrowC_st {R:Type} {r:R} (h:ks.Ok) {x off k:Nat} {K:KSt→Option R} (hr:kgrowC x off k ks K=some r):∃ k',K k'=some r∧k'.Ok∧k'.nt=ks.nt∧k'.st=growC x off k ks.st:=by
 have hget:ks.st.tmps.getD x .undef=(qcm ks.tmps x).pv:=qj0 h.tm x
 have hokt:=h.tm.get_ok x
 unfold kgrowC at hr
 unfold growC
 rw [hget]
 cases hg:qcm ks.tmps x with
 | ref nm o =>
  rw [hg] at hr
  simp only [KV.pv] at hr ⊢
  rw [qks h]
  cases hl:qc6 ks.objs nm with
  | none=>rw [hl] at hr;exact ⟨_,hr,h,rfl,rfl⟩
  | some ob =>
   rw [hl] at hr
   cases ob with
   | cells ty cs=>exact Qkj h hl hr
   | whole ty v =>
    have hv:okV v=true:=qdi h.ob hl
    have hvl:qca (qf7 v)=true:=qcv hv
    simp only [Option.map_some,KOb.ob] at hr ⊢
    unfold qby at hr
    cases hn:Qf9 v (o+off) with
    | false=>rw [hn] at hr;cases hr
    | true =>
     rw [hn] at hr
     refine ⟨_,hr,h,rfl,?_⟩
     unfold Qf9 at hn
     unfold qtu
     show ks.st=match (qf7 v)[o+off]? with | some .nilS=>_ | some (.arr m _ _ _)=>_ | _=>_
     have e:qf7 v=v.cells:=rfl
     rw [e] at hvl ⊢
     cases hc:v.cells[o+off]? with
     | none=>rfl
     | some y =>
      rw [hc] at hn
      have hy:=qj6 hvl hc
      cases y<;>first | (simp at hn;done) | (simp [okV] at hy;done) | rfl
   | _=>exact ⟨_,hr,h,rfl,rfl⟩
 | cv v =>
  rw [hg] at hr hokt
  have hv:okV v=true:=hokt
  simp only [KV.pv]
  cases v<;>first | (simp [okV] at hv;done) | exact ⟨_,hr,h,rfl,rfl⟩
 | _=>rw [hg] at hr;exact ⟨_,hr,h,rfl,rfl⟩
theorem kgrow_st {R:Type} {r:R} (h:ks.Ok) {t k:Nat} {K:KSt→Option R} (hr:kgrow1 t k ks K=some r):∃ k',K k'=some r∧k'.Ok∧k'.nt=ks.nt∧k'.st=Qgu t k ks.st:=by
 have hget:ks.st.tmps.getD t .undef=(qcm ks.tmps t).pv:=qj0 h.tm t
 unfold kgrow1 at hr
 unfold Qgu
 by_cases hb:qtw≤t
 ·rw [if_pos hb] at hr ⊢
  exact kgrowC_st h hr
 rw [if_neg hb] at hr ⊢
 rw [hget]
 cases hg:qcm ks.tmps t with
 | nils =>
  rw [hg] at hr
  simp only [KV.pv]
  rw [Qkk h]
  by_cases hc:qw0 ks t=true
  ·rw [if_pos hc] at hr
   rw [if_pos hc]
   have ht:=Qkl hc
   refine ⟨_,hr,⟨h.tm.put ht trivial rfl,h.ob.put ht fun o ho=>?_,h.kp⟩,rfl,?_⟩
   ·simp only [List.mem_singleton] at ho;subst ho;rfl
   ·unfold KSt.st
    simp only
    rw [qt6,qj1]
    rfl
  ·rw [if_neg hc] at hr
   rw [if_neg hc]
   exact ⟨_,hr,h,rfl,rfl⟩
 | cv v =>
  rw [hg] at hr
  simp only at hr
  unfold notNil at hr
  simp only [KV.pv]
  cases v<;>first | exact ⟨_,hr,h,rfl,rfl⟩ | cases hr
 | _=>rw [hg] at hr;exact ⟨_,hr,h,rfl,rfl⟩
theorem kgrows_st {R:Type} {r:R}:∀ (l:List (Nat×Nat)) {ks:KSt} {K:KSt→Option R},ks.Ok→Qqu l ks K=some r→∃ k',K k'=some r∧k'.Ok∧k'.nt=ks.nt∧k'.st=l.foldl (fun st (p:Nat×Nat)=>Qgu p.1 p.2 st) ks.st:=by
 intro l
 induction l with
 | nil=>intro ks K h hr;exact ⟨ks,hr,h,rfl,rfl⟩
 | cons p l ih =>
  obtain ⟨t,k⟩:=p
  intro ks K h hr
  simp only [Qqu] at hr
  obtain ⟨k1,hr,h1,n1,s1⟩:=kgrow_st h hr
  obtain ⟨k2,hr,h2,n2,s2⟩:=ih h1 hr
  exact ⟨k2,hr,h2,n2.trans n1,by rw [s2,s1];rfl⟩
theorem Qne:∀ (l:List Nat) {ks:KSt},ks.Ok→(l.foldl (fun ks t=>qmd t ks) ks).Ok∧(l.foldl (fun ks t=>qmd t ks) ks).nt=ks.nt∧(l.foldl (fun ks t=>qmd t ks) ks).st=l.foldl (fun st t=>qku t st) ks.st:=by
 intro l
 induction l with
 | nil=>intro ks h;exact ⟨h,rfl,rfl⟩
 | cons t l ih =>
  intro ks h
  simp only [List.foldl_cons]
  obtain ⟨a,b,c⟩:=krehome_st h t
  obtain ⟨d,e,f⟩:=ih b
  exact ⟨d,e.trans c,by rw [f,a]⟩
theorem Qhv (st:St):qn5 (undefs st) st=st:=by
 obtain ⟨t,o,k⟩:=st
 unfold qn5
 congr 1
 apply List.ext_getElem?
 intro i
 rw [List.getElem?_map,List.getElem?_zipIdx]
 cases hg:t[i]? with
 | none=>rfl
 | some v =>
  simp only [Option.map_some,Nat.zero_add,Option.some.injEq]
  split
  ·rename_i hc
   rw [List.contains_iff_mem] at hc
   unfold undefs at hc
   simp only [List.mem_map,List.mem_filter] at hc
   obtain ⟨⟨u,j⟩,⟨hm,hu⟩,he⟩:=hc
   rw [List.mem_zipIdx_iff_getElem?] at hm
   simp only at he hm hu
   subst he
   rw [hg] at hm
   cases hm
   cases v<;>simp_all [qhg]
  ·rfl
theorem Qgk {R:Type} {r:R} (h:ks.Ok) {asg:List Nat} {grow:List (Nat×Nat)} {K:KSt→Option R} (hr:knorm asg grow ks K=some r):∃ k',K k'=some r∧k'.Ok∧k'.nt=ks.nt∧k'.st=norm asg grow ks.st:=by
 unfold knorm at hr
 obtain ⟨a,b,c⟩:=Qne asg h
 obtain ⟨k',hr,h1,n1,s1⟩:=kgrows_st grow a hr
 obtain ⟨d1,d2,d3⟩:=qnk h1 (qlb k')
 refine ⟨_,hr,d2,d3.trans (n1.trans b),?_⟩
 have e:k'.st=norm0 asg grow ks.st:=by rw [s1,c];rfl
 unfold norm drop
 rw [d1,← e,Qhv]
 exact qsv (fun d=>(qqg h1 d).symm) _
theorem Qbg:∀ {nt:Nat} (ps xs:Sp),Qgz ps xs=true→ql4 nt ps→ql4 nt xs→∀ (vs:List PV) (i:Nat),Seg vs i (qhl ps xs) →
  (∀ j,(qcm (qkl ps vs i).1 j).pv=(qcm xs j).pv)∧ql4 nt (qkl ps vs i).1∧(qkl ps vs i).1.map (·.1)=ps.map (·.1)∧(qkl ps vs i).2=i+(qhl ps xs).length
 | nt,[],[],_,_,_,vs,i,_=>⟨fun _=>rfl,.nil nt,rfl,rfl⟩
 | _,[],_ :: _,h,_,_,_,_,_=>by simp [Qgz] at h
 | _,_ :: _,[],h,_,_,_,_,_=>by simp [Qgz] at h
 | nt,(j1,p) :: ps,(j2,x) :: xs,h,hp,hx,vs,i,hs=>by
  simp only [Qgz,Bool.and_eq_true] at h
  simp only [qhl] at hs
  have hj:=Nat.eq_of_beq_eq_true h.1
  subst hj
  obtain ⟨a,b,c⟩:=Qnt p x h.2.1 (hx.ok (j1,x) (by simp)) vs i hs.left
  obtain ⟨a',b',k',c'⟩:=Qbg ps xs h.2.2 hp.tail hx.tail vs (fill p vs i).2 (by rw [c];exact hs.right)
  refine ⟨?_,⟨?_,?_,?_,?_⟩,by simp [qkl,k'],?_⟩
  ·intro j
   simp only [qkl,qcm]
   cases Nat.beq j j1 with
   | true=>exact a
   | false=>exact a' j
  ·simp only [qkl,List.map_cons]
   rw [k']
   exact hp.srt
  ·intro q hq
   simp only [qkl,List.mem_cons] at hq
   rcases hq with rfl | hq
   ·exact hp.lt (j1,p) (by simp)
   ·exact b'.lt q hq
  ·intro q hq
   simp only [qkl,List.mem_cons] at hq
   rcases hq with rfl | hq
   ·exact b
   ·exact b'.ok q hq
  ·intro q hq
   simp only [qkl,List.mem_cons] at hq
   rcases hq with rfl | hq
   ·exact un_fill (hp.nu (j1,p) (by simp))
   ·exact b'.nu q hq
  ·simp only [qkl,qhl,List.length_append]
   rw [c',c]
   omega
theorem Qlb:∀ {nt:Nat} (ps xs:SpO),Qk6 ps xs=true→qlf nt ps→qlf nt xs→∀ (vs:List PV) (i:Nat),Seg vs i (qq9 ps xs) →
  (∀ j,(qcy (qnq ps vs i).1 j).map KOb.ob=(qcy xs j).map KOb.ob)∧qlf nt (qnq ps vs i).1∧(qnq ps vs i).1.map (·.1)=ps.map (·.1)∧(qnq ps vs i).2=i+(qq9 ps xs).length
 | nt,[],[],_,_,_,vs,i,_=>⟨fun _=>rfl,.nil nt,rfl,rfl⟩
 | _,[],_ :: _,h,_,_,_,_,_=>by simp [Qk6] at h
 | _,_ :: _,[],h,_,_,_,_,_=>by simp [Qk6] at h
 | nt,(j1,p) :: ps,(j2,x) :: xs,h,hp,hx,vs,i,hs=>by
  simp only [Qk6,Bool.and_eq_true] at h
  simp only [qq9] at hs
  have hj:=Nat.eq_of_beq_eq_true h.1
  subst hj
  obtain ⟨a,b,c⟩:=qwb p x h.2.1 (hx.ok (j1,x) (by simp)) vs i hs.left
  obtain ⟨a',b',k',c'⟩:=Qlb ps xs h.2.2 hp.tail hx.tail vs (qdl p vs i).2 (by rw [c];exact hs.right)
  refine ⟨?_,⟨?_,?_,?_⟩,by simp [qnq,k'],?_⟩
  ·intro j
   simp only [qnq,qcy]
   cases Nat.beq j j1 with
   | true=>exact a
   | false=>exact a' j
  ·simp only [qnq,List.map_cons]
   rw [k']
   exact hp.srt
  ·intro q hq
   simp only [qnq,List.mem_cons] at hq
   rcases hq with rfl | hq
   ·exact hp.lt (j1,p) (by simp)
   ·exact b'.lt q hq
  ·intro q hq
   simp only [qnq,List.mem_cons] at hq
   rcases hq with rfl | hq
   ·exact b
   ·exact b'.ok q hq
  ·simp only [qnq,qq9,List.length_append]
   rw [c',c]
   omega
theorem Qlc:∀ {nt:Nat} (ps xs:List Sp),Qk7 ps xs=true→(∀ p∈ps,ql4 nt p)→(∀ x∈xs,ql4 nt x)→∀ (vs:List PV) (i:Nat),Seg vs i (qxs ps xs) →
  (Qbi ps vs i).1.flatMap (qdu nt)=xs.flatMap (qdu nt)∧(∀ p∈(Qbi ps vs i).1,ql4 nt p)
 | nt,[],[],_,_,_,vs,i,_=>⟨rfl,by simp [Qbi]⟩
 | _,[],_ :: _,h,_,_,_,_,_=>by simp [Qk7] at h
 | _,_ :: _,[],h,_,_,_,_,_=>by simp [Qk7] at h
 | nt,p :: ps,x :: xs,h,hp,hx,vs,i,hs=>by
  simp only [Qk7,Bool.and_eq_true] at h
  simp only [qxs] at hs
  obtain ⟨a,b,_,c⟩:=Qbg p x h.1 (hp p (by simp)) (hx x (by simp)) vs i hs.left
  obtain ⟨a',b'⟩:=Qlc ps xs h.2 (fun q hq=>hp q (by simp [hq])) (fun q hq=>hx q (by simp [hq])) vs (qkl p vs i).2 (by rw [c];exact hs.right)
  refine ⟨?_,?_⟩
  ·simp only [Qbi,List.flatMap_cons,a']
   congr 1
   unfold qdu
   exact List.map_congr_left fun j _=>a j
  ·intro q hq
   simp only [Qbi,List.mem_cons] at hq
   rcases hq with rfl | hq
   ·exact b
   ·exact b' q hq
theorem Qbv {β:Type}:∀ {l:List Bool} {a:Option β} {r:β},chks l a=some r→l.all id=true∧a=some r
 | [],_,_,h=>⟨rfl,h⟩
 | b :: l,a,r,h=>by
  obtain ⟨h1,h2⟩:=qbr h
  obtain ⟨h3,h4⟩:=Qbv h2
  exact ⟨by simp [h1,h3],h4⟩
mutual
theorem Qg1:∀ {p x:KV},qnp p x=true→(qyx p x).all id=true→qh6 p x=true
 | .un,x,h,_=>by simpa [qnp,qh6] using h
 | .sk,x,h,_=>by simpa [qnp,qh6] using h
 | .yld _,x,h,_=>by simpa [qnp,qh6] using h
 | .ref _ _,x,h,_=>by simpa [qnp,qh6] using h
 | .aref _ _ _ _,x,h,_=>by simpa [qnp,qh6] using h
 | .mp _,x,h,_=>by simpa [qnp,qh6] using h
 | .it _,x,h,_=>by simpa [qnp,qh6] using h
 | .wit _,x,h,_=>by simpa [qnp,qh6] using h
 | .lit _,x,h,_=>by simpa [qnp,qh6] using h
 | .nils,x,h,_=>by simpa [qnp,qh6] using h
 | .cv _,x,h,_=>by simpa [qnp,qh6] using h
 | .arr nm k o n,x,h,ho=>by
  cases x<;>simp only [qnp,Bool.false_eq_true] at h
  simp only [qyx,List.all_cons,List.all_nil,Bool.and_true,id,eqOff] at ho
  simp only [qh6,h,ho,Bool.and_self]
 | .fn f cap,x,h,ho=>by
  cases x<;>simp only [qnp,Bool.false_eq_true,Bool.and_eq_true] at h
  simp only [qh6,h.1,qtz h.2 ho,Bool.and_self]
 | .tup xs,x,h,ho=>by
  cases x<;>simp only [qnp,Bool.false_eq_true] at h
  exact qtz h ho
 | .agg cs,x,h,ho=>by
  unfold qnp at h
  unfold qh6
  split
  ·rename_i hc;rw [if_pos hc] at h;exact h
  ·rename_i hc
   rw [if_neg hc] at h
   cases x<;>simp only [Bool.false_eq_true] at h
   exact qtz h ho
 | .iface t y,x,h,ho=>by
  unfold qnp at h
  unfold qh6
  split
  ·rename_i hc;rw [if_pos hc] at h;exact h
  ·rename_i hc
   rw [if_neg hc] at h
   cases x<;>simp only [Bool.false_eq_true,Bool.and_eq_true] at h
   simp only [h.1,Qg1 h.2 ho,Bool.and_self]
theorem qtz:∀ {p x:List KV},Qg2 p x=true→(Qf6 p x).all id=true→Qcf p x=true
 | [],x,h,_=>by cases x<;>simpa [Qg2,Qcf] using h
 | p :: ps,[],h,_=>by simp [Qg2] at h
 | p :: ps,x :: xs,h,ho=>by
  simp only [Qg2,Bool.and_eq_true] at h
  simp only [Qf6,List.all_append,Bool.and_eq_true] at ho
  simp only [Qcf,Qg1 h.1 ho.1,qtz h.2 ho.2,Bool.and_self]
end
mutual
theorem qvn:∀ (x:KV),(qyx x x).all id=true
 | .un | .sk | .yld _ | .ref _ _ | .aref _ _ _ _ | .mp _ | .it _ | .wit _ | .lit _ | .nils | .cv _=>rfl
 | .arr nm k o n=>by simp [qyx,eqOff]
 | .fn f cap=>by simp only [qyx];exact qna cap
 | .tup xs=>by simp only [qyx];exact qna xs
 | .agg cs=>by simp only [qyx];exact qna cs
 | .iface t y=>by simp only [qyx];exact qvn y
theorem qna:∀ (x:List KV),(Qf6 x x).all id=true
 | []=>rfl
 | x :: xs=>by simp only [Qf6,List.all_append,qvn x,qna xs,Bool.and_self]
end
theorem fit0Ob_ok {p x:KOb} (h:fit0Ob p x=true) (ho:(offsOb p x).all id=true):qkx p x=true:=by
 cases p with
 | cells ty cs =>
  cases x<;>simp only [fit0Ob,Bool.false_eq_true,Bool.and_eq_true] at h
  simp only [qkx,h.1,qtz h.2 ho,Bool.and_self]
 | whole ty v=>exact h
 | arr k t xs=>exact h
 | map es=>exact h
 | siter s p=>exact h
theorem Qm0 (x:KOb):(offsOb x x).all id=true:=by cases x<;>first | exact qna _ | rfl
theorem Qd5:∀ {p x:List KOb},qv9 p x=true→(qvo p x).all id=true→qjf p x=true
 | [],[],_,_=>rfl
 | [],_ :: _,h,_=>by simp [qv9] at h
 | _ :: _,[],h,_=>by simp [qv9] at h
 | p :: ps,x :: xs,h,ho=>by
  simp only [qv9,Bool.and_eq_true] at h
  simp only [qvo,List.all_append,Bool.and_eq_true] at ho
  simp only [qjf,fit0Ob_ok h.1 ho.1,Qd5 h.2 ho.2,Bool.and_self]
theorem qws:∀ (x:List KOb),(qvo x x).all id=true
 | []=>rfl
 | x :: xs=>by simp only [qvo,List.all_append,Qm0 x,qws xs,Bool.and_self]
theorem Qbd:∀ {p x:Sp},Qbe p x=true→(qyy p x).all id=true→Qgz p x=true
 | [],[],_,_=>rfl
 | [],_ :: _,h,_=>by simp [Qbe] at h
 | _ :: _,[],h,_=>by simp [Qbe] at h
 |(i,p) :: ps,(j,x) :: xs,h,ho=>by
  simp only [Qbe,Bool.and_eq_true] at h
  simp only [qyy,List.all_append,Bool.and_eq_true] at ho
  simp only [Qgz,h.1,Qg1 h.2.1 ho.1,Qbd h.2.2 ho.2,Bool.and_self]
theorem qsc:∀ (x:Sp),(qyy x x).all id=true
 | []=>rfl
 |(_,x) :: xs=>by simp only [qyy,List.all_append,qvn x,qsc xs,Bool.and_self]
theorem Qk8:∀ {p x:SpO},Qd4 p x=true→(Qc8 p x).all id=true→Qk6 p x=true
 | [],[],_,_=>rfl
 | [],_ :: _,h,_=>by simp [Qd4] at h
 | _ :: _,[],h,_=>by simp [Qd4] at h
 |(i,p) :: ps,(j,x) :: xs,h,ho=>by
  simp only [Qd4,Bool.and_eq_true] at h
  simp only [Qc8,List.all_append,Bool.and_eq_true] at ho
  simp only [Qk6,h.1,Qd5 h.2.1 ho.1,Qk8 h.2.2 ho.2,Bool.and_self]
theorem qyz:∀ (x:SpO),(Qc8 x x).all id=true
 | []=>rfl
 |(_,x) :: xs=>by simp only [Qc8,List.all_append,qws x,qyz xs,Bool.and_self]
theorem Qk9:∀ {p x:List Sp},Qd6 p x=true→(Qc9 p x).all id=true→Qk7 p x=true
 | [],[],_,_=>rfl
 | [],_ :: _,h,_=>by simp [Qd6] at h
 | _ :: _,[],h,_=>by simp [Qd6] at h
 | p :: ps,x :: xs,h,ho=>by
  simp only [Qd6,Bool.and_eq_true] at h
  simp only [Qc9,List.all_append,Bool.and_eq_true] at ho
  simp only [Qk7,Qbd h.1 ho.1,Qk9 h.2 ho.2,Bool.and_self]
theorem qy0:∀ (x:List Sp),(Qc9 x x).all id=true
 | []=>rfl
 | x :: xs=>by simp only [Qc9,List.all_append,qsc x,qy0 xs,Bool.and_self]
theorem Qbb {p x:KSt} (h:Qbc p x=true) (ho:(Qjt p x).all id=true):fitSt p x=true:=by
 unfold Qbc at h
 unfold Qjt at ho
 simp only [Bool.and_eq_true] at h
 simp only [List.all_append,Bool.and_eq_true] at ho
 unfold fitSt
 simp only [h.1,Qbd h.2.1 ho.1,Qk8 h.2.2.1 ho.2.1,Qk9 h.2.2.2 ho.2.2,Bool.and_self]
theorem Qba {x:KSt} (h:Qbc x x=true):fitSt x x=true :=
 Qbb h (by unfold Qjt;simp only [List.all_append,qsc,qyz,qy0,Bool.and_self])
theorem qt1 {p x:KSt} (h:fitSt p x=true) (hp:p.Ok) (hx:x.Ok):(qfp p (qfo p x)).st=x.st∧(qfp p (qfo p x)).Ok∧(qfp p (qfo p x)).nt=p.nt∧p.nt=x.nt:=by
 unfold fitSt at h
 simp only [Bool.and_eq_true] at h
 obtain ⟨h0,h1,h2,h3⟩:=h
 have hnt:=Nat.eq_of_beq_eq_true h0
 have hs:=Seg.all (qfo p x)
 unfold qfo at hs
 have hx1:ql4 p.nt x.tmps:=hnt ▸ hx.tm
 have hx2:qlf p.nt x.objs:=hnt ▸ hx.ob
 have hx3:∀ sp∈x.keep,ql4 p.nt sp:=hnt ▸ hx.kp
 obtain ⟨a1,b1,_,c1⟩:=Qbg p.tmps x.tmps h1 hp.tm hx1 _ 0 hs.left.left
 have hs2:=hs.left.right
 obtain ⟨a2,b2,_,c2⟩:=Qlb p.objs x.objs h2 hp.ob hx2 (qfo p x) (qkl p.tmps (qfo p x) 0).2 (by unfold qfo;rw [c1];exact hs2)
 have hs3:=hs.right
 obtain ⟨a3,b3⟩:=Qlc p.keep x.keep h3 hp.kp hx3 (qfo p x) (qnq p.objs (qfo p x) (qkl p.tmps (qfo p x) 0).2).2 (by
  unfold qfo at c2 ⊢
  rw [c2,c1]
  simp only [List.length_append] at hs3
  rw [Nat.zero_add] at hs3 ⊢
  exact hs3)
 refine ⟨?_,⟨b1,b2,b3⟩,rfl,hnt⟩
 unfold KSt.st qfp
 simp only
 rw [← hnt,a3]
 congr 1
 ·unfold qdu;exact List.map_congr_left fun j _=>a1 j
 ·unfold qfr;exact List.map_congr_left fun j _=>a2 j
end Go.Ab


namespace Go.Ab
variable {cfg:Qb4} {tab:FuncId→Option RFn}
theorem exec_pure {d:Nat} {σ:Nm→Option Ob} {T:List PV} {op:ROp} (hp:Qc4 op=true) {out:Out} (h:exec d σ T op=some out):out={ v:=out.v }:=by
 have hm:∀ {x:Option PV},(x.map fun v=>({ v:=v }:Out))=some out→out={ v:=out.v }:=by
  intro x hx
  obtain ⟨v,_,rfl⟩:=Option.map_eq_some_iff.1 hx
  rfl
 have hcm:∀ {b:Bool} {x:Option PV},chk b (x.map fun v=>({ v:=v }:Out))=some out→out={ v:=out.v }:=by
  intro b x hx
  exact hm (qfd hx).2
 have hc:∀ {b:Bool} {v:PV},chk b (some ({ v:=v }:Out))=some out→out={ v:=out.v }:=by
  intro b v hx
  obtain ⟨_,hx⟩:=qfd hx
  cases hx;rfl
 cases op with
 | box | alloc | mkSl | store | mkF | mkMap | insert | mkS | append | copy | call | iter | next | bad=>simp [Qc4] at hp
 | mov x=>cases h;rfl
 | mkI t x=>cases h;rfl
 | bin op c cst x y=>exact hm h
 | slice k x lo hi mx=>exact hm h
 | len c x =>
  simp only [exec] at h
  obtain ⟨n,_,rfl⟩:=Option.map_eq_some_iff.1 h
  rfl
 | pick c a b | conv k x | ofRune x | strId x | un op x | nilck x=>simp only [exec] at h;split at h<;>first | (cases h;rfl) | cases h
 | build z ps=>simp only [exec] at h;split at h<;>first | (cases h;rfl) | cases h
 | toBytes x=>simp only [exec] at h;split at h<;>first | exact hc h | cases h
 | field off n ag x=>simp only [exec] at h;split at h<;>first | exact hm h | cases h
 | fieldAddr off x=>simp only [exec] at h;split at h<;>first | exact hc h | (cases h;rfl) | cases h
 | idxAddrA k l x i=>simp only [exec] at h;split at h<;>first | exact hc h | cases h
 | ofBytes x | strIdx x i | extract j x | minmax mx xs | idxAddr k x i | strSlice x lo hi =>
  simp only [exec] at h
  split at h
  all_goals first
   |(cases h;done)
   | exact hc h
   |(obtain ⟨n,_,rfl⟩:=Option.map_eq_some_iff.1 h;rfl)
   |(split at h<;>first | (cases h;done) | exact hc h | (cases h;rfl) | (split at h<;>first | (cases h;done) | (cases h;rfl)))
 | tassert t z ok x =>
  simp only [exec] at h
  split at h
  ·split at h
   ·cases h;rfl
   ·exact hc h
  ·exact hc h
  ·cases h
 | lookup c z ok x k =>
  simp only [exec] at h
  split at h
  ·cases h
  ·split at h
   ·cases h
   ·exact hc h
 | load n ag x =>
  simp only [exec] at h
  split at h
  ·split at h
   ·exact hm h
   ·cases h
  ·exact hm h
  ·split at h
   ·split at h
    ·exact hcm h
    ·cases h
   ·cases h
  ·cases h
theorem Qb0 (st:St) (dst:Option Nat) (v:PV):apply st dst { v }=bset dst v [] st:=by
 rw [Qhl];simp [Qpa,bupd,bgone,Qn9,bext,Qj0]
theorem pure_runs {M:qfw} {E:Type} {h:qbl E} {dep:Nat} {ops:List qb2}:∀ (l:List qb2),(∀ o∈l,Qc4 o.op=true)→∀ {st st':St} {e e':E},qhz M h dep ops l st e=some (st',e') →
  e'=e∧st'.objs=st.objs∧st'.keep=st.keep∧st'.tmps.length=st.tmps.length∧∀ i,i ∉ l.filterMap (·.dst)→st'.tmps[i]?=st.tmps[i]?:=by
 intro l
 induction l with
 | nil=>intro _ st st' e e' h;cases h;exact ⟨rfl,rfl,rfl,rfl,fun _ _=>rfl⟩
 | cons o rest ih =>
  intro hp st st' e e' h
  simp only [qhz] at h
  split at h
  case h_2=>cases h
  rename_i s1 e1 hs
  have hone:e1=e∧∃ v,s1=bset o.dst v [] st:=by
   unfold stepG at hs
   split at hs
   ·unfold qs0 at hs
    split at hs
    ·rename_i out e2 ho
     cases hs
     unfold qjs at ho
     obtain ⟨_,ho⟩:=qfd ho
     have hpo:=hp o (by simp)
     split at ho
     ·rename_i f args hop;rw [hop] at hpo;simp [Qc4] at hpo
     ·split at ho
      ·rename_i out' hx
       cases ho
       have:=exec_pure hpo hx
       refine ⟨rfl,out.v,?_⟩
       rw [this,Qb0]
      ·cases ho
    ·cases hs
   ·cases hs;exact ⟨rfl,_,Qb0 _ _ _⟩
   ·cases hs
  obtain ⟨rfl,v,rfl⟩:=hone
  obtain ⟨a,b,c,d,f⟩:=ih (fun o' ho'=>hp o' (by simp [ho'])) h
  refine ⟨a,?_,?_,?_,?_⟩
  ·rw [b];cases o.dst<;>rfl
  ·rw [c];cases o.dst<;>rfl
  ·rw [d];cases o.dst<;>simp [bset]
  ·intro i hi
   have hi':i ∉ rest.filterMap (·.dst):=fun hm=>hi (by
    simp only [List.mem_filterMap] at hm ⊢
    obtain ⟨o',ho',hd⟩:=hm
    exact ⟨o',by simp [ho'],hd⟩)
   rw [f i hi']
   cases hd:o.dst with
   | none=>rfl
   | some t =>
    have hne:t≠i:=fun e=>hi (by
     simp only [List.mem_filterMap]
     exact ⟨o,by simp,by rw [hd,e]⟩)
    simp only [bset]
    rw [List.getElem?_set_ne hne]
theorem tidy_congr {st st':St} (h1:st'.objs=st.objs) (h2:st'.keep=st.keep) (hl:st'.tmps.length=st.tmps.length) {l:List Nat} (h3:∀ i,i∈l→st'.tmps[i]?=st.tmps[i]?):Qpp (some l) st'=Qpp (some l) st:=by
 have:qlc l st'=qlc l st:=by
  unfold qlc
  obtain ⟨t',o',k'⟩:=st'
  obtain ⟨t,o,k⟩:=st
  simp only at h1 h2 hl h3
  subst h1;subst h2
  have hl:t'.length=t.length:=hl
  congr 1
  show (t'.zipIdx.map fun (x:PV×Nat)=>if l.contains x.2 then x.1 else .undef)=t.zipIdx.map fun (x:PV×Nat)=>if l.contains x.2 then x.1 else .undef
  apply List.ext_getElem?
  intro i
  rw [List.getElem?_map,List.getElem?_map,List.getElem?_zipIdx,List.getElem?_zipIdx]
  by_cases hi:i∈l
  ·rw [h3 i hi]
  ·by_cases hlt:i < t.length
   ·rw [List.getElem?_eq_getElem hlt,List.getElem?_eq_getElem (by omega)]
    simp [hi]
   ·rw [List.getElem?_eq_none (by omega),List.getElem?_eq_none (by omega)]
 unfold Qpp
 simp only [this]
theorem kdrop_ok {k0 ks:KSt} (h:ks.Ok):(Qko k0 ks).Ok∧(Qko k0 ks).nt=ks.nt:=by
 unfold Qko
 obtain ⟨h1,h2⟩:=Qgl h (qs5 k0.tmps)
 obtain ⟨h3,h4,h5⟩:=qnk h2 (qlb { ks with tmps:=qll (qs5 k0.tmps) ks.tmps })
 exact ⟨h4,h5⟩
theorem ksetPs_ok {nt:Nat}:∀ (ps:List Nat) (args:List PV) (i:Nat) {tm:Sp},ql4 nt tm→(∀ p∈ps,p < nt)→qca args=true→ql4 nt (qtl ps args i tm):=by
 intro ps
 induction ps with
 | nil=>intro args i tm h _ _;exact h
 | cons p ps ih =>
  intro args i tm h hp ha
  simp only [qtl]
  refine ih args (i+1) (h.put (hp p (by simp)) ?_ rfl) (fun q hq=>hp q (by simp [hq])) ha
  show okV (nth args i)=true
  unfold nth
  rw [List.getD_eq_getElem?_getD]
  cases hg:args[i]? with
  | none=>rfl
  | some v=>exact qj6 ha hg
theorem ksetPs_st {nt:Nat}:∀ (ps:List Nat) (args:List PV) (i:Nat) {tm:Sp},i+ps.length=args.length→qdu nt (qtl ps args i tm)=qxf ps (args.drop i) (qdu nt tm):=by
 intro ps
 induction ps with
 | nil=>intro args i tm _;simp [qtl,qxf]
 | cons p ps ih =>
  intro args i tm hl
  simp only [List.length_cons] at hl
  have hd:args.drop i=args[i]'(by omega) :: args.drop (i+1):=List.drop_eq_getElem_cons (by omega)
  rw [hd]
  simp only [qtl,qxf]
  rw [ih args (i+1) (by omega),qt6]
  have:nth args i=args[i]'(by omega):=by
   unfold nth;rw [List.getD_eq_getElem?_getD,List.getElem?_eq_getElem (by omega)];rfl
  rw [← this]
  rfl
theorem konEx_some {R:Type} {r:R} {K:Nat→Option R}:∀ {l:List Nat} {p:Option Ex},konEx l p K=some r→∃ id,p=some (.exit id)∧K id=some r:=by
 intro l
 induction l with
 | nil=>intro p h;cases h
 | cons id l ih =>
  intro p h
  simp only [konEx] at h
  rcases qlt h with ⟨h1,h2⟩ | ⟨_,h2⟩
  ·refine ⟨id,?_,h2⟩
   unfold qzs at h1
   split at h1
   ·rename_i id';rw [Nat.eq_of_beq_eq_true h1]
   ·cases h1
  ·exact ih h2
def sp_dense (sp:Sp) (k3:KSt):List PV:=qdu k3.nt sp
theorem Qg6 (hc:qm1 cfg tab):∀ (c:qdf) {E R:Type} {h:qbl E} {hn:Nat→qbl E} (_:HOk h hn) (dep:Nat) {ks:KSt} {e:E} {K:Ex→KSt→E→Option R} {r:R},ks.Ok→qko cfg c h dep ks e K=some r →
  ∃ x k' e',K x k' e'=some r∧k'.Ok∧Evl fun n=>qbz (qkv cfg.b.sp tab n) n c (hn n) dep ks.st e=some (x,k'.st,e'):=by
 intro c
 induction c with
 | skip=>intro E R h hn hh dep ks e K r hk hr;exact ⟨_,_,_,hr,hk,.of fun n=>rfl⟩
 | region ops dr lv =>
  intro E R h hn hh dep ks e K r hk hr
  obtain ⟨c1,c2,_⟩:=qnk hk (qsu ops)
  cases dr with
  | none =>
   simp only [qko] at hr
   rw [qc9] at hr
   split at hr
   ·rename_i t hslot
    obtain ⟨z,hz,hr⟩:=qcb hr
    rw [qc9] at hr
    obtain ⟨k1,e1,hz2,hk1,h1⟩:=Qgj (dep:=dep) hc hh ops c2 hz
    unfold Qrp at hslot
    split at hslot
    case isFalse=>cases hslot
    rename_i hcond
    simp only [Bool.and_eq_true] at hcond
    cases lv with
    | none=>cases hslot
    | some l =>
    simp only at hslot
    split at hslot
    case h_2=>cases hslot
    rename_i t' hfil
    cases hslot
    have hpure:∀ o∈ops,Qc4 o.op=true:=List.all_eq_true.1 hcond.2
    have hzok:okV z=true:=KV.cl_ok (hk1.tm.get_ok t) hz2
    have htlt:t < k1.nt:=by
     apply Classical.byContradiction
     intro hlt
     rw [hk1.tm.get_ge (by omega)] at hz2;cases hz2
    obtain ⟨m,hm⟩:=h1
    have hm0:=hm m (Nat.le_refl _)
    obtain ⟨rfl,p2,p3,p4,p5⟩:=pure_runs ops hpure hm0
    have hnt:k1.nt=(qhh (qsu ops) ks).nt:=by
     have:k1.st.tmps.length=(qhh (qsu ops) ks).st.tmps.length:=p4
     have a1:k1.st.tmps.length=k1.nt:=qb7 _ _
     have a2:(qhh (qsu ops) ks).st.tmps.length=(qhh (qsu ops) ks).nt:=qb7 _ _
     omega
    have hput:({ qhh (qsu ops) ks with tmps:=qj9 t (.cv z) (qhh (qsu ops) ks).tmps }:KSt).Ok:=⟨c2.tm.put (by omega) hzok rfl,c2.ob,c2.kp⟩
    obtain ⟨t1,t2⟩:=qxu hput (some l)
    refine ⟨_,_,_,hr,t2,⟨m,fun n hn'=>?_⟩⟩
    have hb:=hm n hn'
    rw [c1] at hb
    simp only [qbz,hb,t1]
    have:Qpp (some l) k1.st=Qpp (some l) ({ qhh (qsu ops) ks with tmps:=qj9 t (.cv z) (qhh (qsu ops) ks).tmps }:KSt).st:=by
     refine tidy_congr (st':=k1.st) (st:=({ qhh (qsu ops) ks with tmps:=qj9 t (.cv z) (qhh (qsu ops) ks).tmps }:KSt).st) p2 p3 ?_ fun i hi=>?_
     ·rw [p4]
      show (qdu _ _).length=(qdu _ _).length
      rw [qb7,qb7]
     ·show k1.st.tmps[i]?=(qdu _ (qj9 t (.cv z) _))[i]?
      rw [qt6]
      by_cases hit:i=t
      ·subst hit
       rw [List.getElem?_set_self (by rw [qb7];show i < (qhh (qsu ops) ks).nt;omega)]
       show (qdu k1.nt k1.tmps)[i]?=_
       rw [dense_get?,if_pos htlt,KV.cl_pv hz2]
       rfl
      ·rw [List.getElem?_set_ne (Ne.symm hit)]
       refine p5 i fun hmem=>hit ?_
       have:i∈l.filter fun t=>(ops.filterMap (·.dst)).contains t:=List.mem_filter.2 ⟨hi,by simpa using hmem⟩
       rw [hfil] at this
       simpa using this
    rw [this]
   ·obtain ⟨k1,e1,hr,hk1,h1⟩:=Qgj (dep:=dep) hc hh ops c2 hr
    rw [qc9] at hr
    obtain ⟨t1,t2⟩:=qxu hk1 lv
    rw [c1] at h1
    exact ⟨_,_,_,hr,t2,h1.mono fun n hn'=>by simp only [qbz,hn',t1]⟩
  | some bef =>
   simp only [qko] at hr
   rw [qc9] at hr
   obtain ⟨k1,e1,hr,hk1,h1⟩:=krunsD_ok (dep:=dep) hc hh bef [] c2 hr
   rw [qc9] at hr
   obtain ⟨t1,t2⟩:=qxu hk1 lv
   rw [c1] at h1
   exact ⟨_,_,_,hr,t2,h1.mono fun n hn'=>by simp only [qbz,hn',t1]⟩
 | seq a b iha ihb =>
  intro E R h hn hh dep ks e K r hk hr
  simp only [qko] at hr
  obtain ⟨x,k1,e1,hr,hk1,h1⟩:=iha hh dep hk hr
  cases x with
  | normal =>
   obtain ⟨x2,k2,e2,hr,hk2,h2⟩:=ihb hh dep hk1 hr
   exact ⟨_,_,_,hr,hk2,h1.mono2 h2 fun n a b=>by simp only [qbz,a,b]⟩
  | exit id=>exact ⟨_,_,_,hr,hk1,h1.mono fun n a=>by simp only [qbz,a]⟩
  | ret=>exact ⟨_,_,_,hr,hk1,h1.mono fun n a=>by simp only [qbz,a]⟩
 | cond c a b iha ihb =>
  intro E R h hn hh dep ks e K r hk hr
  simp only [qko] at hr
  have hev:=qvi hk c
  split at hr
  ·rename_i hv
   obtain ⟨x,k1,e1,hr,hk1,h1⟩:=iha hh dep hk hr
   exact ⟨_,_,_,hr,hk1,h1.mono fun n a=>by simp only [qbz,hev,hv,KV.pv,a]⟩
  ·rename_i hv
   obtain ⟨x,k1,e1,hr,hk1,h1⟩:=ihb hh dep hk hr
   exact ⟨_,_,_,hr,hk1,h1.mono fun n a=>by simp only [qbz,hev,hv,KV.pv,a]⟩
  ·rename_i v hv
   rcases qto hr with ⟨rfl,hr⟩ | ⟨rfl,hr⟩
   ·obtain ⟨x,k1,e1,hr,hk1,h1⟩:=iha hh dep hk hr
    exact ⟨_,_,_,hr,hk1,h1.mono fun n a=>by simp only [qbz,hev,hv,KV.pv,a]⟩
   ·obtain ⟨x,k1,e1,hr,hk1,h1⟩:=ihb hh dep hk hr
    exact ⟨_,_,_,hr,hk1,h1.mono fun n a=>by simp only [qbz,hev,hv,KV.pv,a]⟩
  ·cases hr
 | block id b ih =>
  intro E R h hn hh dep ks e K r hk hr
  simp only [qko] at hr
  obtain ⟨x,k1,e1,hr,hk1,h1⟩:=ih hh dep hk hr
  cases x with
  | normal=>exact ⟨_,_,_,hr,hk1,h1.mono fun n a=>by simp only [qbz,a]⟩
  | ret=>exact ⟨_,_,_,hr,hk1,h1.mono fun n a=>by simp only [qbz,a]⟩
  | exit id' =>
   simp only at hr
   split at hr
   ·rename_i hid;exact ⟨_,_,_,hr,hk1,h1.mono fun n a=>by simp only [qbz,a,hid,if_true]⟩
   ·rename_i hid;exact ⟨_,_,_,hr,hk1,h1.mono fun n a=>by simp only [qbz,a,hid,if_false]⟩
 | loop asg grow b ih =>
  intro E R h hn hh dep ks e K r hk hr
  simp only [qko] at hr
  obtain ⟨k0,hr,hk0,hnt0,hst0⟩:=Qgk hk hr
  rw [qc9] at hr
  obtain ⟨hU,hr⟩:=qbr hr
  split at hr
  ·cases hr
  rename_i hself
  have hself:fitSt k0 k0=true:=Qba (by simpa using hself)
  obtain ⟨m,hm⟩:=qq8 hr
  have key:∀ (m:Nat) (vs:List PV) (e:E),(qfp k0 vs).Ok→repS (fun s:List PV×E=>qjy (qfp k0 s.1) fun ks=>qko cfg b h dep ks s.2 (Qp9 asg grow k0 K)) m (vs,e)=some r →
    ∃ x k' e',K x k' e'=some r∧k'.Ok∧Evl fun n=>∀ j,m≤j→qho (qgq (qkv cfg.b.sp tab n) n asg grow b (hn n) dep (undefs k0.st)) j ((qfp k0 vs).st,e)=some (x,k'.st,e'):=by
   intro m
   induction m with
   | zero=>intro vs e _ h0;cases h0
   | succ m ihm =>
    intro vs e hkv hm
    unfold repS at hm
    simp only at hm
    rw [qc9] at hm
    cases hs:qko cfg b h dep (qfp k0 vs) e (Qp9 asg grow k0 K) with
    | none =>
     rw [hs] at hm;cases hm
    | some q =>
     rw [hs] at hm
     obtain ⟨x,k1,e1,hq,hk1,h1⟩:=ih hh dep hkv hs
     have hother:∀ y,y≠Ex.normal→x=y→(qba (K y k1 e1) fun r=>some (Sum.inr r))=some q→∃ x k' e',K x k' e'=some r∧k'.Ok∧Evl fun n=>∀ j,m+1≤j→qho (qgq (qkv cfg.b.sp tab n) n asg grow b (hn n) dep (undefs k0.st)) j ((qfp k0 vs).st,e)=some (x,k'.st,e'):=by
      intro y hy hxy hq
      obtain ⟨r',hr',hq⟩:=qcb hq
      cases hq
      cases hm
      refine ⟨y,k1,e1,hr',hk1,h1.mono fun n hn' j hj=>?_⟩
      obtain ⟨j,rfl⟩:∃ i,j=i+1:=⟨j - 1,by omega⟩
      rw [qq0]
      subst hxy
      cases x with
      | normal=>exact absurd rfl hy
      | exit id=>simp only [qgq,hn',qwr]
      | ret=>simp only [qgq,hn',qwr]
     cases x with
     | exit id=>exact hother (.exit id) (by simp) rfl hq
     | ret=>exact hother .ret (by simp) rfl hq
     | normal =>
      unfold Qp9 at hq;simp only at hq
      obtain ⟨d1,d2⟩:=kdrop_ok (k0:=k0) hk1
      obtain ⟨k2,hq,hk2,hnt2,hst2⟩:=Qgk d1 hq
      rw [qc9] at hq
      split at hq
      ·rename_i hfit0
       obtain ⟨hoffs,hq⟩:=Qbv hq
       have hfit:=Qbb hfit0 hoffs
       cases hq
       obtain ⟨f1,f2,f3,f4⟩:=qt1 hfit hk0 hk2
       obtain ⟨g1,_,_⟩:=kdrop_st hk0 hU hk1 (by omega)
       obtain ⟨x3,k3,e3,hr3,hk3,h3⟩:=ihm _ _ f2 hm
       refine ⟨x3,k3,e3,hr3,hk3,h1.mono2 h3 fun n hn1 hn3 j hj=>?_⟩
       obtain ⟨j,rfl⟩:∃ i,j=i+1:=⟨j - 1,by omega⟩
       rw [qq0]
       have:=hn3 j (by omega)
       rw [f1,hst2,g1] at this
       simp only [qgq,hn1,qwr]
       exact this
      ·cases hq
  obtain ⟨s1,s2,_,_⟩:=qt1 (p:=k0) (x:=k0) hself hk0 hk0
  obtain ⟨x,k',e',hr',hk',hev⟩:=key m _ e s2 hm
  refine ⟨x,k',e',hr',hk',hev.diag.mono fun n hn'=>?_⟩
  rw [s1,hst0] at hn'
  rw [Qd8,hn']
 | rangeFunc f ps asg b iha ihb =>
  intro E R h hn hh dep ks e K r hk hr
  simp only [qko] at hr
  split at hr
  case h_2=>cases hr
  rename_i fv hfv
  split at hr
  case isFalse=>cases hr
  rename_i hps
  simp only [Bool.and_eq_true] at hps
  obtain ⟨⟨hps,hself0⟩,hxf⟩:=hps
  have hself:=Qba hself0
  have hpslt:∀ p∈ps,p < ks.nt:=fun p hp=>by
   have:=List.all_eq_true.1 hps p hp
   simpa [Nat.blt_eq] using this
  obtain ⟨⟨vs,p,e2⟩,hrange,hr2⟩:=qcb hr
  clear hr
  rw [qc9] at hr2
  simp only at hr2
  unfold qpt at hrange
  split at hrange
  case h_2=>cases hrange
  rename_i g cap
  split at hrange
  case h_2=>cases hrange
  rename_i rv obs rr hL
  cases hrange
  rw [hc.L] at hL
  obtain ⟨m,hm⟩:=qti hL
  have hm:=hm m (Nat.le_refl _)
  obtain ⟨s1,s2,_,_⟩:=qt1 (p:=ks) (x:=ks) hself hk hk
  obtain ⟨⟨st2,p2,e2'⟩,hre,hev⟩:=qwe (sp:=cfg.b.sp) (tab:=tab) m (KRec E) (Rec E)
   (fun a b=>a.2.1=b.2.1∧a.2.2=b.2.2∧(qfp ks a.1).Ok∧(qfp ks a.1).st=b.1) _ (fun n=>qyp (qkv cfg.b.sp tab n) n asg b (hn n) dep ps) (by
    rintro l args ⟨vs,p,e⟩ ⟨s,p',e'⟩ ⟨h1,h2,h3,h4⟩ bb ⟨vs',q,e1⟩ hq
    simp only at h1 h2 h3 h4
    subst h1;subst h2;subst h4
    unfold qjt at hq
    unfold qyp
    by_cases hl:l=dep
    ·simp only [hl,if_true] at hq ⊢
     cases p with
     | some x=>cases hq
     | none =>
      simp only at hq ⊢
      obtain ⟨hargs,hq⟩:=qbr hq
      unfold qqa at hargs
      simp only [Bool.and_eq_true,beq_iff_eq] at hargs
      rw [qc9,qc9] at hq
      have hnt:(qfp ks vs).nt=ks.nt:=rfl
      have hk1:({ qfp ks vs with tmps:=qtl ps args 0 (qfp ks vs).tmps,keep:=(qfp ks vs).tmps :: (qfp ks vs).keep }:KSt).Ok :=
       ⟨ksetPs_ok ps args 0 h3.tm hpslt hargs.2,h3.ob,fun sp hsp=>(List.mem_cons.1 hsp).elim (fun e=>e ▸ h3.tm) (h3.kp sp)⟩
      have hk1st:({ qfp ks vs with tmps:=qtl ps args 0 (qfp ks vs).tmps,keep:=(qfp ks vs).tmps :: (qfp ks vs).keep }:KSt).st={ (qfp ks vs).st with tmps:=qxf ps args (qfp ks vs).st.tmps,keep:=(qfp ks vs).st.tmps++(qfp ks vs).st.keep }:=by
       unfold KSt.st
       simp only
       rw [ksetPs_st ps args 0 (by omega)]
       simp
      obtain ⟨x1,k2,e3,hq,hk2,ha⟩:=iha hh (dep+1) hk1 hq
      cases x1 with
      | exit id=>cases hq
      | ret=>cases hq
      | normal =>
       simp only at hq
       obtain ⟨x2,k3,e4,hq,hk3,hb⟩:=ihb hh (dep+1) hk2 hq
       split at hq
       case h_1=>cases hq
       rename_i sp kp hkeep
       rw [qc9] at hq
       split at hq
       case isFalse=>cases hq
       rename_i hfit0
       obtain ⟨hoffs,hq⟩:=Qbv hq
       have hfit:=Qbb hfit0 hoffs
       cases hq
       have hk4:({ k3 with tmps:=sp,keep:=kp }:KSt).Ok:=⟨hk3.kp sp (by rw [hkeep];simp),hk3.ob,fun q hq=>hk3.kp q (by rw [hkeep];simp [hq])⟩
       obtain ⟨f1,f2,f3,f4⟩:=qt1 hfit hk hk4
       have f5:ks.nt=k3.nt:=f4
       refine ⟨({ tmps:=sp_dense sp k3,objs:=k3.st.objs,keep:=kp.flatMap (qdu k3.nt) },exitOf x2,e1),⟨rfl,rfl,f2,?_⟩,ha.mono2 hb fun n hn1 hn2=>?_⟩
       ·rw [f1];rfl
       ·simp only [hargs.1,if_true]
        rw [← hk1st,hn1]
        simp only
        rw [hn2]
        simp only
        have hkp:k3.st.keep=qdu k3.nt sp++kp.flatMap (qdu k3.nt):=by
         show k3.keep.flatMap (qdu k3.nt)=_
         rw [hkeep];rfl
        have hlen:(qfp ks vs).st.tmps.length=(qdu k3.nt sp).length:=by
         show (qdu ks.nt _).length=_
         rw [qb7,qb7];exact f5
        rw [hkp,hlen,List.take_left,List.drop_left]
        cases x2<;>rfl
    ·simp only [hl,if_false] at hq ⊢
     split at hq
     ·rename_i b2 e3 h6
      cases hq
      exact ⟨_,⟨rfl,rfl,h3,rfl⟩,(hh _ _ _ _ h6).mono fun n hn'=>by rw [hn']⟩
     ·cases hq) (dep+1) (qf6 g) (qcl g [.yld dep] cap) (qfo ks ks,none,e) (ks.st,none,e) ⟨rfl,rfl,s2,s1⟩ rv obs _ hm
  simp only at hre
  obtain ⟨h1,h2,h3,h4⟩:=hre
  subst h1;subst h2;subst h4
  have hfe:f.ev ks.st.tmps=.fn g cap:=by rw [qvi hk,KV.cl_pv hfv]
  have hcap:(PV.fn g cap).names=[]:=by
   exact (qgn (KV.cl_ok (kv_ok hk hxf) hfv)).1
  have hbase:Evl fun n=>qbz (qkv cfg.b.sp tab n) n (.rangeFunc f ps asg b) (hn n) dep ks.st e=some (p.getD .normal,(qfp ks vs).st,e2):=hev.mono fun n hn'=>by
   rw [qw7,hfe]
   unfold qso
   rw [hcap]
   simp only [List.isEmpty_nil,if_true]
   simp only [qkv,qbn] at hn' ⊢
   rw [hn']
  rcases qlt hr2 with ⟨hp,hr2⟩ | ⟨_,hr2⟩
  ·cases p with
   | some x=>cases hp
   | none=>exact ⟨_,_,_,hr2,h3,hbase⟩
  ·rcases qlt hr2 with ⟨hp,hr2⟩ | ⟨_,hr2⟩
   ·unfold Qdu at hp
    split at hp
    ·exact ⟨_,_,_,hr2,h3,hbase⟩
    ·cases hp
   ·obtain ⟨id,hpe,hr3⟩:=konEx_some hr2
    subst hpe
    exact ⟨_,_,_,hr3,h3,hbase⟩
 | exit id=>intro E R h hn hh dep ks e K r hk hr;exact ⟨_,_,_,hr,hk,.of fun n=>rfl⟩
 | scope b ih =>
  intro E R h hn hh dep ks e K r hk hr
  simp only [qko] at hr
  obtain ⟨x,k1,e1,hr,hk1,h1⟩:=ih hh dep hk hr
  cases x with
  | normal=>exact ⟨_,_,_,hr,hk1,h1.mono fun n a=>by simp only [qbz,a]⟩
  | ret=>exact ⟨_,_,_,hr,hk1,h1.mono fun n a=>by simp only [qbz,a]⟩
  | exit id' =>
   simp only at hr
   split at hr
   ·rename_i hid;exact ⟨_,_,_,hr,hk1,h1.mono fun n a=>by simp only [qbz,a,hid,if_true]⟩
   ·cases hr
 | ret=>intro E R h hn hh dep ks e K r hk hr;exact ⟨_,_,_,hr,hk,.of fun n=>rfl⟩
 | norm g =>
  intro E R h hn hh dep ks e K r hk hr
  simp only [qko] at hr
  obtain ⟨t1,t2,_⟩:=ktrim_st hk
  obtain ⟨k',hr,hk',_,hst⟩:=Qgk t2 hr
  rw [qc9] at hr
  exact ⟨_,_,_,hr,hk',.of fun n=>by simp only [qbz,hst,t1]⟩
 | bad=>intro E R h hn hh dep ks e K r hk hr;cases hr
 | dreg ops f args lv=>intro E R h hn hh dep ks e K r hk hr;cases hr
end Go.Ab


namespace Go.Ab
variable {cfg:Qb4} {tab:FuncId→Option RFn} {ks:KSt}
theorem kresV_ok {R:Type} {r:R} (h:ks.Ok) {x:RRes} {K:KV→Option R} (hr:kresV ks x K=some r):∃ v,K v=some r∧v.ok∧resV ks.st x=some v.pv:=by
 have hget:∀ t,ks.st.tmps.getD t .undef=(qcm ks.tmps t).pv:=fun t=>qj0 h.tm t
 have lk:=qks h
 cases x with
 | tmp t=>exact ⟨_,hr,h.tm.get_ok t,by simp only [resV,hget]⟩
 | cell t n ag =>
  simp only [kresV] at hr
  split at hr
  ·rename_i nm o hv
   split at hr
   ·rename_i cs hl
    have hcs:qgs cs:=qdi h.ob hl
    split at hr
    ·rename_i hag
     split at hr
     ·rename_i hle
      refine ⟨_,hr,qp8 (qp9 hcs _) _,?_⟩
      simp only [resV,hget,hv,KV.pv,lk,hl,Option.map_some,KOb.ob,sel,hag,if_true,chk,qfi,hle,decide_true,qq1,qq2]
     ·cases hr
    ·rename_i hag
     split at hr
     ·rename_i c hc
      refine ⟨_,hr,qc8.1 hcs c (List.mem_of_getElem? hc),?_⟩
      simp only [resV,hget,hv,KV.pv,lk,hl,Option.map_some,KOb.ob,sel,hag,pvL_get?,hc]
      rfl
     ·cases hr
   ·rename_i w hl
    obtain ⟨z,hz,hr⟩:=qcb hr
    have hw:okV w=true:=qdi h.ob hl
    unfold Qb5 at hz
    refine ⟨_,hr,qys (qcv hw) hz,?_⟩
    simp only [resV,hget,hv,KV.pv,lk,hl,Option.map_some,KOb.ob,qf7,hz]
   ·cases hr
  ·cases hr
theorem Qkd {R:Type} {r:R} (h:ks.Ok):∀ (l:List RRes) {K:List KV→Option R},qwv ks l K=some r→∃ vs,K vs=some r∧qgs vs∧qpc ks.st l=some (pvL vs):=by
 intro l
 induction l with
 | nil=>intro K hr;exact ⟨[],hr,trivial,rfl⟩
 | cons x l ih =>
  intro K hr
  simp only [qwv] at hr
  obtain ⟨v,hr,hv,h1⟩:=kresV_ok h hr
  obtain ⟨vs,hr,hvs,h2⟩:=ih hr
  exact ⟨v :: vs,hr,⟨hv,hvs⟩,by simp only [qpc,h1,h2,pvL]⟩
theorem Qkf {vs:List KV} (h:qgs vs):(qwx vs).ok∧(qwx vs).pv=qsb (pvL vs):=by
 match vs,h with
 | [],h=>exact ⟨trivial,rfl⟩
 | [v],h=>exact ⟨h.1,rfl⟩
 | v :: w :: vs,h=>exact ⟨h,rfl⟩
theorem Qdt {o:Nat}:qrv o=true↔o=0:=by cases o<;>simp [qrv]
def top1:PV→List Nm
 | .arr nm _ 0 _=>[nm]
 | _=>[]
def top2:PV→List Nm
 | .arr nm _ 0 _=>[nm]
 | .agg cs=>cs.flatMap top1
 | _=>[]
def ktop1:KV→List Nm
 | .arr nm _ o _=>if qrv o then [nm] else []
 | .wit nm=>[nm]
 | _=>[]
def ktop2:KV→List Nm
 | .arr nm _ o _=>if qrv o then [nm] else []
 | .wit nm=>[nm]
 | .agg cs=>cs.flatMap ktop1
 | _=>[]
theorem ktop1_ok {x:KV} (h:x.ok):ktop1 x=top1 x.pv:=by
 cases x with
 | arr nm k o n=>cases o<;>rfl
 | cv v =>
  have hv:okV v=true:=h
  cases v<;>first | rfl | simp [okV] at hv
 | _=>rfl
theorem Qhw {cs:List PV} (h:qca cs=true):cs.flatMap top1=[]:=by
 rw [List.flatMap_eq_nil_iff]
 intro x hx
 have:=qff.1 h x hx
 cases x<;>first | rfl | simp [okV] at this
theorem Qk4 {cs:List KV} (h:qgs cs):cs.flatMap ktop1=(pvL cs).flatMap top1:=by
 rw [qgw,List.flatMap_map]
 induction cs with
 | nil=>rfl
 | cons x xs ih=>simp only [List.flatMap_cons];rw [ktop1_ok h.1,ih h.2]
theorem Qgi {x:KV} (h:x.ok):ktop2 x=top2 x.pv:=by
 cases x with
 | arr nm k o n=>cases o<;>rfl
 | agg cs=>exact Qk4 h
 | cv v =>
  have hv:okV v=true:=h
  cases v with
  | agg cs=>simp only [okV] at hv;exact (Qhw hv).symm
  | _=>first | rfl | simp [okV] at hv
 | _=>rfl
theorem tops_eq (v:PV):tops v=match v with | .tup xs=>xs.flatMap top2 | v=>top2 v:=by
 have e1:(fun (x:PV)=>match x with | .arr nm _ 0 _=>[nm] | _=>[])=top1:=by
  funext x;cases x<;>first | rfl | (rename_i nm k o n;cases o<;>rfl)
 cases v with
 | arr nm k o n=>cases o<;>rfl
 | agg cs=>simp only [tops,top2];rfl
 | tup xs =>
  simp only [tops]
  congr 1
 | _=>rfl
theorem ktops_eq (v:KV):ktops v=match v with | .tup xs=>xs.flatMap ktop2 | v=>ktop2 v:=by
 cases v<;>first | rfl | (simp only [ktops];congr 1)
theorem ktops_ok {v:KV} (h:v.ok):ktops v=tops v.pv:=by
 rw [ktops_eq,tops_eq]
 cases v with
 | tup xs =>
  have hx:qgs xs:=h
  simp only [KV.pv]
  rw [qgw,List.flatMap_map]
  clear h
  induction xs with
  | nil=>rfl
  | cons x xs ih=>simp only [List.flatMap_cons];rw [Qgi hx.1,ih hx.2]
 | cv u =>
  have hu:okV u=true:=h
  simp only [KV.pv,ktop2]
  cases u with
  | tup xs =>
   simp only [okV] at hu
   symm
   rw [List.flatMap_eq_nil_iff]
   intro x hx
   have hx':=qff.1 hu x hx
   have:=Qgi (x:=.cv x) hx'
   simpa [ktop2,KV.pv] using this.symm
  | agg cs=>simp only [okV] at hu;exact (Qhw hu).symm
  | _=>first | rfl | simp [okV] at hu
 | _=>exact Qgi h
theorem Qdb:∀ {l:List Nm},qha l=true↔l.Nodup
 | []=>by simp [qha]
 | x :: xs=>by simp [qha,Qdb (l:=xs)]
theorem mapM_look {σ:Nm→Option Ob}:∀ {S:List Nm},(∀ nm∈S,∃ ob,σ nm=some ob∧Qks ob=true)→∃ obs,S.mapM σ=some obs∧obs.all Qks=true∧obs.length=S.length∧∀ (i:Nat) nm,S[i]?=some nm→obs[i]?=σ nm:=by
 intro S
 induction S with
 | nil=>intro _;exact ⟨[],rfl,rfl,rfl,by simp⟩
 | cons nm S ih =>
  intro h
  obtain ⟨ob,h1,h2⟩:=h nm (by simp)
  obtain ⟨obs,h3,h4,h5,h6⟩:=ih fun m hm=>h m (by simp [hm])
  refine ⟨ob :: obs,by simp [List.mapM_cons,h1,h3],by simp [h2,h4],by simp [h5],?_⟩
  intro i m hi
  cases i with
  | zero=>simp at hi;subst hi;simp [h1]
  | succ i=>simp at hi ⊢;exact h6 i m hi
theorem Qkv {pre mid post:List Nm} {nm:Nm} (hnd:(pre++nm :: mid++post).Nodup):(pre++nm :: mid++post).idxOf nm=pre.length:=by
 have hn:nm ∉ pre:=fun hm=>by
  rw [List.append_assoc,List.nodup_append] at hnd
  exact hnd.2.2 nm hm nm (by simp) rfl
 rw [List.append_assoc,List.idxOf_append,if_neg hn]
 simp
section hand
variable {σ:Nm→Option KOb} (hσ:∀ nm o,σ nm=some o→o.ok) {S:List Nm} (hnd:S.Nodup) {obs:List Ob} (hobs:∀ (i:Nat) nm,S[i]?=some nm→obs[i]?=(σ nm).map fun o=>o.ob.bare)
include hσ hnd hobs
def subH (σ:Nm→Option KOb) (S:List Nm):Nm→Option (Option Ob):=fun nm=>if S.contains nm=true then none else qcq (fun nm=>(σ nm).map KOb.ob) nm
omit hnd hobs in
theorem close_subH {x:KV} (hx:x.ok) (hn:(x.names.all fun nm=>!S.contains nm)=true):x.pv.sub (subH σ S)=x.close (qdz σ qbp):=by
 rw [KV.close_pv _ hx]
 refine PV.sub_congr _ fun nm hm=>?_
 rw [KV.pv_names hx] at hm
 have:=List.all_eq_true.1 hn nm hm
 unfold subH qn7 qcq
 simp only [Bool.not_eq_true'] at this
 rw [this,qvw hσ,Option.map_map]
 rfl
omit hσ hnd hobs in
theorem sub_cl {x:KV} {u:PV} (hx:x.ok) (h:x.cl=some u) (f:Nm→Option (Option Ob)) (g:Nm→Nm):(x.pv.sub f).ren g=u:=by
 have hu:=KV.cl_ok hx h
 rw [KV.cl_pv h,qma (qgn hu).1,qpe (qgn hu).1]
mutual
theorem Qqt {R:Type} {r:R}:∀ (sh:RSh) (x:KV),x.ok→∀ {K:PV→Option R},qsg σ S sh x K=some r→∀ (pre post:List Nm),S=pre++qve sh x++post →
  ∃ u,K u=some r∧qjo obs sh pre.length ((x.pv.sub (subH σ S)).ren (Qhx S))=some (u,pre.length+(qve sh x).length)
 | .cl,x,hx,K,hr,pre,post,_=>by
  have hclose:(if x.names.all fun nm=>!S.contains nm then qby (okU (x.close (qdz σ qbp))) (K (x.close (qdz σ qbp))) else none)=some r →
    ∃ u,K u=some r∧qjo obs .cl pre.length ((x.pv.sub (subH σ S)).ren (Qhx S))=some (u,pre.length+(qve .cl x).length):=by
   intro hr
   split at hr
   ·rename_i hn
    obtain ⟨h1,hr⟩:=qbr hr
    unfold okU at h1
    refine ⟨_,hr,?_⟩
    rw [close_subH hσ hx hn,qpe (qgn h1).1]
    simp [qjo,h1,qby,qve]
   ·cases hr
  simp only [qsg] at hr
  cases hu:x.cl with
  | some u =>
   rw [hu] at hr
   refine ⟨u,hr,?_⟩
   rw [sub_cl hx hu]
   simp [qjo,KV.cl_ok hx hu,qby,qve]
  | none =>
   rw [hu] at hr
   cases x with
   | tup xs =>
    simp only at hr
    cases hus:clL xs with
    | some us =>
     rw [hus] at hr
     have hok:=qva (xs:=xs) hx hus
     have htup:okV (.tup us)=true:=by simpa [okV] using hok
     refine ⟨.tup us,hr,?_⟩
     have:(KV.tup xs).pv=.tup us:=by simp [KV.pv,qxb hus]
     rw [this,qma (qgn htup).1,qpe (qgn htup).1]
     simp [qjo,htup,qby,qve]
    | none=>rw [hus] at hr;exact hclose hr
   | _=>exact hclose hr
 | .own k,x,hx,K,hr,pre,post,hS=>by
  simp only [qsg] at hr
  split at hr
  ·rename_i nm k' o n
   split at hr
   ·rename_i k'' kt xs hl
    split at hr
    ·rename_i hc
     obtain ⟨rfl,rfl,ho⟩:=hc
     rw [Qdt] at ho
     subst ho
     obtain ⟨h1,hr⟩:=qbr hr
     rw [Qbo] at h1
     unfold qbv at h1
     simp only [qve] at hS
     refine ⟨_,hr,?_⟩
     have hmem:S.contains nm=true:=by rw [List.contains_iff_mem,hS];simp
     have hi:S[pre.length]?=some nm:=by rw [hS];simp
     have hidx:S.idxOf nm=pre.length:=by
      have e:S=pre++nm :: []++post:=by rw [hS]
      rw [e];exact Qkv (e ▸ hnd)
     have hob:obs[pre.length]?=some (.arr k 0 xs):=by rw [hobs _ _ hi,hl];rfl
     have hxok:qca xs=true:=hσ _ _ hl
     have hsub:(PV.arr nm k 0 n).sub (subH σ S)=.arr nm k 0 n:=by
      simp only [PV.sub,subH,hmem,if_true]
     simp only [KV.pv]
     rw [hsub]
     simp [PV.ren,Qhx,hidx,qjo,hob,qby,h1,hxok,qve]
    ·cases hr
   ·cases hr
  ·cases hr
 | .opt k,x,hx,K,hr,pre,post,hS=>by
  simp only [qsg] at hr
  split at hr
  ·rename_i nm k' o n
   split at hr
   ·rename_i k'' kt xs hl
    split at hr
    ·rename_i hc
     obtain ⟨rfl,rfl,ho⟩:=hc
     rw [Qdt] at ho
     subst ho
     obtain ⟨h1,hr⟩:=qbr hr
     rw [Qbo] at h1
     unfold qbv at h1
     simp only [qve] at hS
     refine ⟨_,hr,?_⟩
     have hmem:S.contains nm=true:=by rw [List.contains_iff_mem,hS];simp
     have hi:S[pre.length]?=some nm:=by rw [hS];simp
     have hidx:S.idxOf nm=pre.length:=by
      have e:S=pre++nm :: []++post:=by rw [hS]
      rw [e];exact Qkv (e ▸ hnd)
     have hob:obs[pre.length]?=some (.arr k 0 xs):=by rw [hobs _ _ hi,hl];rfl
     have hxok:qca xs=true:=hσ _ _ hl
     have hsub:(PV.arr nm k 0 n).sub (subH σ S)=.arr nm k 0 n:=by
      simp only [PV.sub,subH,hmem,if_true]
     simp only [KV.pv]
     rw [hsub]
     simp [PV.ren,Qhx,hidx,qjo,hob,qby,h1,hxok,qve]
    ·cases hr
   ·cases hr
  ·refine ⟨.nilS,hr,?_⟩
   simp [KV.pv,PV.sub,PV.ren,qjo,qve]
  ·unfold nilO at hr
   split at hr
   ·refine ⟨.nilS,hr,?_⟩
    simp [KV.pv,PV.sub,PV.ren,qjo,qve]
   ·cases hr
  ·cases hr
 | .tup l,x,hx,K,hr,pre,post,hS=>by
  simp only [qsg] at hr
  split at hr
  ·rename_i xs
   simp only [qve] at hS
   obtain ⟨us,h1,h2⟩:=qzk l xs hx hr pre post hS
   refine ⟨_,h1,?_⟩
   simp only [KV.pv,PV.sub,PV.ren,qjo,h2,qve]
   rfl
  ·cases hr
 | .agg l,x,hx,K,hr,pre,post,hS=>by
  simp only [qsg] at hr
  split at hr
  ·rename_i xs
   simp only [qve] at hS
   obtain ⟨us,h1,h2⟩:=qzk l xs hx hr pre post hS
   refine ⟨_,h1,?_⟩
   simp only [KV.pv,PV.sub,PV.ren,qjo,h2,qve]
   rfl
  ·cases hr
theorem qzk {R:Type} {r:R}:∀ (l:List RSh) (xs:List KV),qgs xs→∀ {K:List PV→Option R},qqh σ S l xs K=some r→∀ (pre post:List Nm),S=pre++qxg l xs++post →
  ∃ us,K us=some r∧qlz obs l pre.length (qjl (Qhx S) (qf9 (subH σ S) (pvL xs)))=some (us,pre.length+(qxg l xs).length)
 | [],[],_,K,hr,pre,post,_=>⟨[],hr,by simp [pvL,qf9,qjl,qlz,qxg]⟩
 | [],_ :: _,_,K,hr,_,_,_=>by simp [qqh] at hr
 | _ :: _,[],_,K,hr,_,_,_=>by simp [qqh] at hr
 | s :: l,x :: xs,hx,K,hr,pre,post,hS=>by
  simp only [qqh] at hr
  simp only [qxg] at hS
  obtain ⟨u,hr,h1⟩:=Qqt s x hx.1 hr pre (qxg l xs++post) (by rw [hS];simp [List.append_assoc])
  obtain ⟨us,hr,h2⟩:=qzk l xs hx.2 hr (pre++qve s x) post (by rw [hS];simp [List.append_assoc])
  refine ⟨u :: us,hr,?_⟩
  simp only [pvL,qf9,qjl,qlz,h1]
  rw [List.length_append] at h2
  rw [h2]
  simp [qxg,Nat.add_assoc]
end
end hand
theorem own_arr {σ:Nm→Option KOb} {S:List Nm} {R:Type} {r:R}:∀ (sh:RSh) (x:KV) {K:PV→Option R},qsg σ S sh x K=some r→(∀ nm∈qve sh x,∃ k kt xs,σ nm=some (.arr k kt xs))∧∃ u,K u=some r:=by
 intro sh
 refine RSh.rec (motive_1:=fun sh=>∀ (x:KV) {K:PV→Option R},qsg σ S sh x K=some r→(∀ nm∈qve sh x,∃ k kt xs,σ nm=some (.arr k kt xs))∧∃ u,K u=some r)
  (motive_2:=fun l=>∀ (xs:List KV) {K:List PV→Option R},qqh σ S l xs K=some r→(∀ nm∈qxg l xs,∃ k kt ys,σ nm=some (.arr k kt ys))∧∃ us,K us=some r) ?_ ?_ ?_ ?_ ?_ ?_ ?_ sh
 ·intro x K hr
  refine ⟨by simp [qve],?_⟩
  simp only [qsg] at hr
  split at hr
  ·exact ⟨_,hr⟩
  ·split at hr
   ·split at hr
    ·exact ⟨_,hr⟩
    ·split at hr
     ·exact ⟨_,(qbr hr).2⟩
     ·cases hr
   ·split at hr
    ·exact ⟨_,(qbr hr).2⟩
    ·cases hr
 ·intro k x K hr
  simp only [qsg] at hr
  split at hr
  ·rename_i nm k' o n
   split at hr
   ·rename_i k'' kt xs hl
    split at hr
    ·exact ⟨by simp [qve,hl],_,(qbr hr).2⟩
    ·cases hr
   ·cases hr
  ·cases hr
 ·intro k x K hr
  simp only [qsg] at hr
  split at hr
  ·rename_i nm k' o n
   split at hr
   ·rename_i k'' kt xs hl
    split at hr
    ·exact ⟨by simp [qve,hl],_,(qbr hr).2⟩
    ·cases hr
   ·cases hr
  ·exact ⟨by simp [qve],_,hr⟩
  ·unfold nilO at hr
   split at hr
   ·exact ⟨by simp [qve],_,hr⟩
   ·cases hr
  ·cases hr
 ·intro l ih x K hr
  simp only [qsg] at hr
  split at hr
  ·rename_i xs
   obtain ⟨h1,us,h2⟩:=ih xs hr
   exact ⟨by simpa [qve] using h1,_,h2⟩
  ·cases hr
 ·intro l ih x K hr
  simp only [qsg] at hr
  split at hr
  ·rename_i xs
   obtain ⟨h1,us,h2⟩:=ih xs hr
   exact ⟨by simpa [qve] using h1,_,h2⟩
  ·cases hr
 ·intro xs K hr
  cases xs with
  | nil=>exact ⟨by simp [qxg],_,hr⟩
  | cons x xs=>simp [qqh] at hr
 ·intro s l ihs ihl xs K hr
  cases xs with
  | nil=>simp [qqh] at hr
  | cons x xs =>
   simp only [qqh] at hr
   obtain ⟨h1,u,hr⟩:=ihs x hr
   obtain ⟨h2,us,hr⟩:=ihl xs hr
   refine ⟨?_,_,hr⟩
   intro nm hm
   simp only [qxg,List.mem_append] at hm
   exact hm.elim (h1 nm) (h2 nm)
theorem qra (shut:Bool) {v:KV} (h:v.ok):qvu shut v=qrr shut v.pv:=by
 cases shut with
 | true=>rfl
 | false=>exact ktops_ok h
theorem Qkh {R:Type} {r:R} (h:ks.Ok) {shut:Bool} {sh:RSh} {v:KV} (hv:v.ok) {K:PV→Option R} (hr:qtn ks shut sh v K=some r):∃ u rv obs,K u=some r∧qld shut ks.st v.pv=some (rv,obs)∧qny sh rv obs=some u:=by
 unfold qtn at hr
 simp only at hr
 split at hr
 case isFalse=>cases hr
 rename_i hc
 obtain ⟨hS,hnd,hdis,hsh⟩:=hc
 have hσ:=qcr h
 obtain ⟨harr,_⟩:=own_arr sh v hr
 rw [← hS] at harr
 have hlk:=qd1 h
 obtain ⟨obs,hm,hall,hlen,hget⟩:=mapM_look (σ:=qbq ks.st.objs) (S:=qvu shut v) fun nm hm=>by
  obtain ⟨k,kt,xs,he⟩:=harr nm hm
  exact ⟨.arr k kt xs,by rw [qks h,he];rfl,rfl⟩
 have hnd':=Qdb.1 hnd
 obtain ⟨u,hu,hconv⟩:=Qqt hσ hnd' (obs:=obs.map Ob.bare) (fun i nm hi=>by rw [List.getElem?_map,hget i nm hi,qks h,Option.map_map];rfl) sh v hv hr [] [] (by rw [← hS];simp)
 refine ⟨u,(v.pv.sub (subH (qc6 ks.objs) (qvu shut v))).ren (Qhx (qvu shut v)),obs.map Ob.bare,hu,?_,?_⟩
 ·have e:(fun nm=>if (qrr shut v.pv).contains nm=true then none else qcq (qbq ks.st.objs) nm)=subH (qc6 ks.objs) (qvu shut v):=by
   funext nm
   unfold subH
   rw [qra shut hv,hlk]
  rw [qgz hσ,← hlk] at hdis hsh
  rw [qrb hσ,← hlk] at hsh
  rw [qra shut hv,← KV.pv_names hv] at hdis hsh
  rw [qra shut hv] at hnd hm
  unfold qld
  simp only [hnd,hdis,Bool.and_self,if_true,hm,hsh,hall,chk,e,qra shut hv]
 ·unfold qny
  simp only [List.length_nil,Nat.zero_add] at hconv
  rw [hconv]
  simp [qby,hlen,hS]
theorem Qnm {nt:Nat} {args:List KV} (ha:qgs args) (hu:∀ x∈args,qsi x=false) (hl:args.length≤nt):({ nt,tmps:=args.zipIdx.map fun p=>(p.2,p.1),objs:=[],keep:=[] }:KSt).Ok ∧
  ({ nt,tmps:=args.zipIdx.map fun p=>(p.2,p.1),objs:=[],keep:=[] }:KSt).st={ tmps:=pvL args++List.replicate (nt - (pvL args).length) .undef,objs:=List.replicate nt [],keep:=[] }:=by
 have hmem:∀ p∈args.zipIdx.map (fun p=>(p.2,p.1)),args[p.1]?=some p.2:=by
  intro p hp
  obtain ⟨⟨x,i⟩,hq,rfl⟩:=List.mem_map.1 hp
  rw [List.mem_zipIdx_iff_getElem?] at hq
  exact hq
 have hw:ql4 nt (args.zipIdx.map fun p=>(p.2,p.1)):=by
  refine ⟨?_,?_,?_,?_⟩
  ·rw [List.map_map]
   have:((fun p:Nat×KV=>p.1)∘fun p:KV×Nat=>(p.2,p.1))=Prod.snd:=rfl
   rw [this,List.zipIdx_map_snd]
   exact List.pairwise_lt_range'
  ·intro p hp
   have:=(List.getElem?_eq_some_iff.1 (hmem p hp)).1
   omega
  ·intro p hp;exact qc8.1 ha _ (List.mem_of_getElem? (hmem p hp))
  ·intro p hp;exact hu _ (List.mem_of_getElem? (hmem p hp))
 refine ⟨⟨hw,.nil nt,by simp⟩,?_⟩
 unfold KSt.st
 simp only [List.flatMap_nil]
 congr 1
 ·refine qlx (by simp [qfi];omega) fun i hi=>?_
  by_cases hia:i < args.length
  ·rw [List.getElem?_append_left (by rw [qfi];exact hia),pvL_get?,List.getElem?_eq_getElem hia]
   have hp:(i,args[i])∈args.zipIdx.map (fun p=>(p.2,p.1)):=by
    refine List.mem_map.2 ⟨(args[i],i),?_,rfl⟩
    rw [List.mem_zipIdx_iff_getElem?]
    simp [hia]
   rw [show qcm (args.zipIdx.map fun p=>(p.2,p.1)) i=args[i] from hw.get_mem hp]
   rfl
  ·rw [List.getElem?_append_right (by rw [qfi];omega),List.getElem?_replicate,if_pos (by rw [qfi];omega)]
   rw [show qcm (args.zipIdx.map fun p=>(p.2,p.1)) i=.un from qyd fun p hp=>by
    have:=(List.getElem?_eq_some_iff.1 (hmem p hp)).1
    omega]
   rfl
 ·refine qj2 (by simp) fun i hi=>?_
  rw [List.getElem?_replicate,if_pos hi]
  rfl
theorem Qfx (hc:qm1 cfg tab) {g:FuncId} {fn:RFn} (ht:tab g=some fn) {E:Type} {h:qbl E} {hn:Nat→qbl E} (hh:HOk h hn) {dep:Nat} {sh:RSh} {args:List KV} {e e':E} {u:PV}
  (ha:qgs args) (hu:∀ x∈args,qsi x=false) (hl:args.length≤fn.nt) (hr:qm2 cfg fn sh h dep args e=some (u,e')) :
  ∃ r obs,qny sh r obs=some u∧Evl fun n=>qbn cfg.b.sp tab n E (hn n) dep g (pvL args) e=some (r,obs,e'):=by
 unfold qm2 at hr
 rw [qc9] at hr
 obtain ⟨i1,i2⟩:=Qnm ha hu hl
 have hh':HOk h fun n=>hn (n+1):=fun l args e r hq=>by
  obtain ⟨a,hb⟩:=hh l args e r hq
  exact ⟨a,fun n hn'=>hb (n+1) (by omega)⟩
 obtain ⟨x,k1,e1,hr,hk1,hev⟩:=Qg6 hc fn.code hh' dep i1 hr
 rw [i2] at hev
 have fin:(qwv k1 fn.res fun vs=>qtn k1 fn.shut sh (qwx vs) fun v=>some (v,e1))=some (u,e')→(∀ id,x≠.exit id)→∃ r obs,qny sh r obs=some u∧Evl fun n=>qbn cfg.b.sp tab n E (hn n) dep g (pvL args) e=some (r,obs,e'):=by
  intro hr hx
  obtain ⟨vs,hr,hvs,h1⟩:=Qkd hk1 fn.res hr
  obtain ⟨o1,o2⟩:=Qkf hvs
  obtain ⟨u',rv,obs,hr,h2,h3⟩:=Qkh hk1 o1 hr
  cases hr
  refine ⟨rv,obs,h3,hev.shift.mono ?_⟩
  rintro k ⟨j,rfl,hj⟩
  show qqu (ql7 cfg.b.sp tab j) j tab E (hn (j+1)) dep g (pvL args) e=_
  simp only [qqu,ht]
  simp only [qkv] at hj
  rw [hj]
  cases x with
  | exit id=>exact absurd rfl (hx id)
  | normal=>simp only [h1];rw [← o2,h2]
  | ret=>simp only [h1];rw [← o2,h2]
 cases x with
 | exit id=>cases hr
 | normal=>exact fin hr (by simp)
 | ret=>exact fin hr (by simp)
end Go.Ab


namespace Go.Ab
section
variable {cfg:Qb4} {tab:FuncId→Option RFn}
theorem Qlp:∀ (vs:List PV),pvL (vs.map KV.cv)=vs
 | []=>rfl
 | v :: vs=>by simp [pvL,KV.pv,Qlp vs]
theorem Qrl {vs:List PV} (h:qca vs=true):qgs (vs.map KV.cv):=qc8.2 fun x hx=>by
 obtain ⟨v,hv,rfl⟩:=List.mem_map.1 hx
 exact qff.1 h v hv
theorem Qrk {vs:List PV}:∀ x∈vs.map KV.cv,qsi x=false:=fun x hx=>by
 obtain ⟨v,_,rfl⟩:=List.mem_map.1 hx
 rfl
theorem noH:HOk qbe (fun _=>qbe):=fun _ _ _ _ h=>by cases h
theorem Qn7 (hc:qm1 cfg tab) {g:FuncId} {fn:RFn} (ht:tab g=some fn) {sh:RSh} {cap args:List PV} {u:PV} (ha:qca (args++cap)=true) (hl:(args++cap).length≤fn.nt)
  (hsp:cfg.b.sp g (fun _=>none) (args++cap)=none) (hr:qm2 cfg fn sh qbe 0 ((args++cap).map KV.cv) ()=some (u,())) (hio:fn.io=false:=by rfl) (hb:Nat.blt g qhb=true:=by rfl):qb3 cfg.b sh (.fn g cap) args=some u:=by
 have hid:qf6 g=g:=by simp [qf6,hb]
 have hfa:qcl g args cap=args++cap:=by simp [qcl,hb]
 obtain ⟨r,obs,h1,h2⟩:=Qfx hc ht (hn:=fun _=>qbe) noH (Qrl ha) Qrk (by simpa using hl) hr
 rw [Qlp] at h2
 have hL:cfg.b.L Unit qbe 0 g (args++cap) ()=some (r,obs,()):=by rw [hc.L];exact Qdi h2
 have hfl:cfg.b.isIo g=false:=by rw [hc.isIo];unfold qk4;rw [ht];exact hio
 unfold qb3
 simp only [hid,hfa,spO,hsp,hL,hfl,Bool.false_eq_true,if_false]
 exact h1
theorem call_of_sp (hc:qm1 cfg tab) {g:FuncId} {cap args:List PV} {u:PV} (hsp:cfg.b.sp g (fun _=>none) (args++cap)=some { v:=u }) (hu:okV u=true) (hb:Nat.blt g qhb=true:=by rfl):qb3 cfg.b .cl (.fn g cap) args=some u:=by
 have hid:qf6 g=g:=by simp [qf6,hb]
 have hfa:qcl g args cap=args++cap:=by simp [qcl,hb]
 unfold qb3
 simp [hid,hfa,spO,hsp,hu,qby,qny,qjo]
theorem Qji (hc:qm1 cfg tab) {g:FuncId} {fn:RFn} (ht:tab g=some fn) {E:Type} {h:qbl E} {dep:Nat} {cap:List PV} {u:PV} {e e':E} (ha:qca cap=true) (hl:cap.length+1≤fn.nt)
  (hr:qm2 cfg fn .cl h (dep+1) (.yld dep :: cap.map KV.cv) e=some (u,e')) (hb:Nat.blt g qhb=true:=by rfl):qpt cfg.b h dep (.fn g cap) e=some e':=by
 have hid:qf6 g=g:=by simp [qf6,hb]
 have hfa:qcl g [.yld dep] cap=.yld dep :: cap:=by simp [qcl,hb]
 obtain ⟨r,obs,h1,h2⟩:=Qfx hc ht (hn:=fun _=>h) (fun l args e r hq=>.of fun _=>hq) (dep:=dep+1) (args:=.yld dep :: cap.map KV.cv) ⟨trivial,Qrl ha⟩ (fun x hx=>by
  rcases List.mem_cons.1 hx with rfl | hx
  ·rfl
  ·exact Qrk x hx) (by simpa using hl) hr
 have e1:pvL (.yld dep :: cap.map KV.cv)=.yld dep :: cap:=by simp [pvL,KV.pv,Qlp]
 rw [e1] at h2
 have hL:cfg.b.L E h (dep+1) g (.yld dep :: cap) e=some (r,obs,e'):=by rw [hc.L];exact Qdi h2
 unfold qpt
 simp only [hid,hfa,hL]
theorem conv_cl {r u:PV} {obs:List Ob} (h:qny .cl r obs=some u):r=u∧obs=[]∧okV u=true:=by
 unfold qny at h
 simp only [qjo] at h
 split at h
 ·rename_i r' j hr
  obtain ⟨h1,h2⟩:=qbr hr
  cases h2
  obtain ⟨h3,h4⟩:=qbr h
  cases h4
  simp only [beq_iff_eq] at h3
  exact ⟨rfl,List.length_eq_zero_iff.1 h3.symm,h1⟩
 ·cases h
theorem qhq (hc:qm1 cfg tab) {g:FuncId} {fn:RFn} (ht:tab g=some fn) {fr:Bool} {args:List PV} {u:PV} (ha:qca args=true) (hl:args.length≤fn.nt)
  (hr:qm2 cfg fn .cl qbe 0 (args.map KV.cv) ()=some (u,())) (hfr:(u.free&&!qpi tab g)=fr):qkw cfg.b .cl fr g args=some u:=by
 obtain ⟨r,obs,h1,h2⟩:=Qfx hc ht (hn:=fun _=>qbe) noH (Qrl ha) Qrk (by simpa using hl) hr
 rw [Qlp] at h2
 obtain ⟨e1,e2,_⟩:=conv_cl h1
 subst e1;subst e2
 have hL:cfg.b.L Unit qbe 0 g args ()=some (r,[],()):=by rw [hc.L];exact Qdi h2
 unfold qkw
 rw [(qb9 ha).2]
 simp only [Bool.false_eq_true,if_false,hL,List.all_nil,Bool.and_true,hc.leans,hfr,beq_self_eq_true,qby]
 exact h1
theorem law_of_run (hc:qm1 cfg tab) {g:FuncId} {fn:RFn} (ht:tab g=some fn) {args:List PV} {b:Bool} (ha:qca args=true) (hl:args.length≤fn.nt)
  (hr:qm2 cfg fn .cl qbe 0 (args.map KV.cv) ()=some (.bool b,())):∃ n,qbn cfg.b.sp tab n Unit qbe 0 g args ()=some (.bool b,[],()):=by
 obtain ⟨r,obs,h1,m,hm⟩:=Qfx hc ht (hn:=fun _=>qbe) noH (Qrl ha) Qrk (by simpa using hl) hr
 rw [Qlp] at hm
 obtain ⟨e1,e2,_⟩:=conv_cl h1
 subst e1;subst e2
 exact ⟨m,hm m (Nat.le_refl _)⟩
end
theorem qmc {σ ρ:Type} {step:σ→Option (Sum σ ρ)} {s0:σ} {r:ρ} (inv:Nat→σ) (N:Nat) (h0:s0=inv 0) (hs:∀ i,i < N→step (inv i)=some (.inl (inv (i+1)))) (he:step (inv N)=some (.inr r)):qci step s0=some r:=by
 have key:∀ m i,i+m=N→qci step (inv i)=some r:=by
  intro m
  induction m with
  | zero=>intro i hi;obtain rfl:i=N:=(by omega);exact qde he
  | succ m ih=>intro i hi;rw [qdj (hs i (by omega))];exact ih (i+1) (by omega)
 rw [h0];exact key N 0 (by omega)
@[simp] theorem qbb {α β:Type} (a:α) (f:α→Option β):qba (some a) f=f a:=rfl
@[simp] theorem bindO_none' {α β:Type} (f:α→Option β):qba none f=none:=rfl
@[simp] theorem qbg {β:Type} (a:Option β):qby true a=a:=rfl
@[simp] theorem chkO_false {β:Type} (a:Option β):qby false a=none:=rfl
@[simp] theorem qco {β:Type} (b:Bool) (x y:Option β):qck (.bool b) x y=if b=true then x else y:=by cases b<;>rfl
@[simp] theorem Qkq {β:Type} (b:Bool) (x y:Option β):qzq b x y=if b=true then x else y:=by cases b<;>rfl
theorem qb6 {β:Type} (x y:Option β):qck (.bool true) x y=x:=rfl
theorem qbm {β:Type} (x y:Option β):qck (.bool false) x y=y:=rfl
section pure
variable {c:TC} {cst:Bool} {k:IntKind}
@[simp] theorem pure_add (a b:Int):qbc (.bin .add c cst (.c (.int k a)) (.c (.int k b)))=some (.int k (k.wrap (a+b))):=by simp [qbc,exec,RX.ev,qn3,chk,qmp]
@[simp] theorem pure_sub (a b:Int):qbc (.bin .sub c cst (.c (.int k a)) (.c (.int k b)))=some (.int k (k.wrap (a - b))):=by simp [qbc,exec,RX.ev,qn3,chk,qmp]
@[simp] theorem pure_mul (a b:Int):qbc (.bin .mul c cst (.c (.int k a)) (.c (.int k b)))=some (.int k (k.wrap (a * b))):=by simp [qbc,exec,RX.ev,qn3,chk,qmp]
@[simp] theorem pure_eql (a b:Int):qbc (.bin .eql c cst (.c (.int k a)) (.c (.int k b)))=some (.bool (a==b)):=by simp [qbc,exec,RX.ev,qn3,chk,qmp,qxa]
@[simp] theorem pure_neq (a b:Int):qbc (.bin .neq c cst (.c (.int k a)) (.c (.int k b)))=some (.bool (a != b)):=by simp [qbc,exec,RX.ev,qn3,chk,qmp,qxa]
@[simp] theorem pure_lss (a b:Int):qbc (.bin .lss c cst (.c (.int k a)) (.c (.int k b)))=some (.bool (decide (a < b))):=by simp [qbc,exec,RX.ev,qn3,chk,qmp,qxa]
@[simp] theorem pure_leq (a b:Int):qbc (.bin .leq c cst (.c (.int k a)) (.c (.int k b)))=some (.bool (decide (a≤b))):=by simp [qbc,exec,RX.ev,qn3,chk,qmp,qxa]
@[simp] theorem pure_gtr (a b:Int):qbc (.bin .gtr c cst (.c (.int k a)) (.c (.int k b)))=some (.bool (decide (b < a))):=by simp [qbc,exec,RX.ev,qn3,chk,qmp,qxa]
@[simp] theorem pure_geq (a b:Int):qbc (.bin .geq c cst (.c (.int k a)) (.c (.int k b)))=some (.bool (decide (b≤a))):=by simp [qbc,exec,RX.ev,qn3,chk,qmp,qxa]
@[simp] theorem pure_eqs (a b:List UInt8):qbc (.bin .eql c cst (.c (.str a)) (.c (.str b)))=some (.bool (a==b)):=by simp [qbc,exec,RX.ev,qn3,Qby]
@[simp] theorem pure_nes (a b:List UInt8):qbc (.bin .neq c cst (.c (.str a)) (.c (.str b)))=some (.bool (!(a==b))):=by simp [qbc,exec,RX.ev,qn3,Qby]
@[simp] theorem pure_eqb (a b:Bool):qbc (.bin .eql .bool cst (.c (.bool a)) (.c (.bool b)))=some (.bool (a==b)):=by simp [qbc,exec,RX.ev,qn3,Qg7]
@[simp] theorem pure_neb (a b:Bool):qbc (.bin .neq .bool cst (.c (.bool a)) (.c (.bool b)))=some (.bool (!(a==b))):=by simp [qbc,exec,RX.ev,qn3,Qg7]
@[simp] theorem qpg (b:Bool):qbc (.un .not (.c (.bool b)))=some (.bool (!b)):=rfl
@[simp] theorem pure_neg (n:Int):qbc (.un .neg (.c (.int k n)))=some (.int k (k.wrap (0 - n))):=rfl
@[simp] theorem pure_conv {k':IntKind} (n:Int):qbc (.conv k (.c (.int k' n)))=some (.int k (k.wrap n)):=rfl
@[simp] theorem pure_lens (s:List UInt8):qbc (.len .str (.c (.str s)))=some (.int .i64 (s.length:Int)):=rfl
@[simp] theorem qgk {j:Nat} (xs:List PV) (f:Bool):qbc (.len .slice (.c (.sl j xs f)))=some (.int .i64 (xs.length:Int)):=rfl
@[simp] theorem pure_lenn:qbc (.len .slice (.c .nilS))=some (.int .i64 0):=rfl
@[simp] theorem pure_tup (j:Nat) (xs:List PV):qbc (.extract j (.c (.tup xs)))=xs[j]?:=by
 simp only [qbc,exec,RX.ev];cases xs[j]?<;>rfl
@[simp] theorem pure_load {n o:Nat} {ag:Bool} (cs:List PV):qbc (.load n ag (.c (.ptr cs o)))=sel cs o n ag:=by
 simp only [qbc,exec,RX.ev];cases sel cs o n ag<;>rfl
@[simp] theorem pure_field {n o:Nat} {ag:Bool} (cs:List PV):qbc (.field o n ag (.c (.agg cs)))=sel cs o n ag:=by
 simp only [qbc,exec,RX.ev];cases sel cs o n ag<;>rfl
@[simp] theorem pure_nilck (cs:List PV) (o:Nat):qbc (.nilck (.c (.ptr cs o)))=some (.ptr cs o):=rfl
@[simp] theorem pure_nilckf (f:Nat) (cs:List PV):qbc (.nilck (.c (.fn f cs)))=some (.fn f cs):=rfl
@[simp] theorem pure_faddr {off o:Nat} (cs:List PV):qbc (.fieldAddr off (.c (.ptr cs o)))=if o+off < cs.length then some (.ptr cs (o+off)) else none:=by
 by_cases hq:o+off < cs.length<;>simp [qbc,exec,RX.ev,chk,hq]
theorem qgj {xs:List PV} {j n:Nat} {f:Bool} {v:PV} (hn:0 < n) (h:xs[j]?=some v):qbc (.idxAddr n (.c (.sl n xs f)) (.c (.int k (j:Int))))=some (.ptr v.cells 0):=by
 simp [qbc,exec,RX.ev,qjv,h,chk,hn]
theorem pure_ssl2 {s:List UInt8} {h:Nat} (hh:h≤s.length):qbc (.strSlice (.c (.str s)) none (some (.c (.int k (h:Int)))))=some (.str (s.take h)):=by
 simp [qbc,exec,RX.ev,evO,qjq,qjv,chk,hh]
end pure
@[simp] theorem sel_one (v:PV):sel [v] 0 1 false=some v:=rfl
@[simp] theorem cells_int (k:IntKind) (n:Int):(PV.int k n).cells=[.int k n]:=rfl
@[simp] theorem cells_str (s:List UInt8):(PV.str s).cells=[.str s]:=rfl
@[simp] theorem cells_bool (b:Bool):(PV.bool b).cells=[.bool b]:=rfl
@[simp] theorem qn2 (cs:List PV):(PV.agg cs).cells=cs:=rfl
@[simp] theorem qd3 (a b:Nat):qc1 a b=a+b:=rfl
@[simp] theorem subN_eq (a b:Nat):subN a b=a - b:=rfl
@[simp] theorem minN_eq (a b:Nat):minN a b=min a b:=rfl
@[simp] theorem qf4 (l:List PV):qbv l=l.length:=rfl
@[simp] theorem qfk (n:Nat) (l:List PV):qbw n l=l.take n:=rfl
@[simp] theorem qfq (n:Nat) (l:List PV):qb5 n l=l.drop n:=rfl
@[simp] theorem qg3 (l m:List PV):ql3 l m=l++m:=rfl
@[simp] theorem replL_eq (n:Nat) (v:PV):ql6 n v=List.replicate n v:=rfl
@[simp] theorem qb1 (k:Nat) (xs:List PV) (f:Bool):qbd (.sl k xs f)=xs:=rfl
@[simp] theorem natP_int (k:IntKind) (n:Int):qbj (.int k n)=n.toNat:=rfl
@[simp] theorem nI_eq (n:Nat):nI n=.int .i64 (n:Int):=rfl
@[simp] theorem qg5 (a b:Bool):qrn a b=(a&&b):=rfl
@[simp] theorem qke (a b:Nat):leN a b=decide (a≤b):=by
 rw [Bool.eq_iff_iff,qzg,decide_eq_true_iff]
@[simp] theorem qru (a b:Nat):ltN a b=decide (a < b):=by
 rw [Bool.eq_iff_iff,qvt,decide_eq_true_iff]
@[simp] theorem eqN_eq (a b:Nat):eqN a b=decide (a=b):=by
 rw [Bool.eq_iff_iff,Qbo,decide_eq_true_iff]
@[simp] theorem qdd (x:PV) (l:List PV):nth (x :: l) 0=x:=rfl
@[simp] theorem qdc (a x:PV) (l:List PV):nth (a :: x :: l) 1=x:=rfl
@[simp] theorem qdg (a b x:PV) (l:List PV):nth (a :: b :: x :: l) 2=x:=rfl
@[simp] theorem qdq (a b c x:PV) (l:List PV):nth (a :: b :: c :: x :: l) 3=x:=rfl
@[simp] theorem qfv (a b c d x:PV) (l:List PV):nth (a :: b :: c :: d :: x :: l) 4=x:=rfl
@[simp] theorem qgl (a b c d e x:PV) (l:List PV):nth (a :: b :: c :: d :: e :: x :: l) 5=x:=rfl
@[simp] theorem qjb (a b c d e f x:PV) (l:List PV):nth (a :: b :: c :: d :: e :: f :: x :: l) 6=x:=rfl
@[simp] theorem qju (a b c d e f g x:PV) (l:List PV):nth (a :: b :: c :: d :: e :: f :: g :: x :: l) 7=x:=rfl
@[simp] theorem qms (a b c d e f g h x:PV) (l:List PV):nth (a :: b :: c :: d :: e :: f :: g :: h :: x :: l) 8=x:=rfl
@[simp] theorem Qmn (v:PV) (o n:Nat) (ag:Bool):Qb5 v o n ag=sel v.cells o n ag:=rfl
@[simp] theorem natO_int (k:IntKind) (n:Nat):qvp (.int k (n:Int))=some n:=by simp [qvp,qjv]
end Go.Ab


namespace Go.Ab
section
variable {cfg:Qb4} {tab:FuncId→Option RFn}
theorem kisUn_eq {x:KV} (h:kisUn x=false):qsi x=false:=by cases x<;>first | rfl | cases h
theorem evalDK_ok (hc:qm1 cfg tab) {nt:Nat}:∀ (c:qdf) {R:Type} {ks:KSt} {K:Ex→KSt→List Nat→Option R} {r:R},ks.Ok→qk5 cfg nt c ks K=some r →
  ∃ x k' l,K x k' l=some r∧k'.Ok∧Evl fun n=>qcu (qkv cfg.b.sp tab n) n nt c ks.st=some (x,k'.st,l):=by
 intro c
 induction c with
 | dreg ops f args lv =>
  intro R ks K r hk hr
  simp only [qk5] at hr
  rw [qc9] at hr
  obtain ⟨c1,c2,_⟩:=qnk hk (qsu ops)
  obtain ⟨k1,e1,hr,hk1,h1⟩:=Qgj (hn:=fun _=>qbe) (dep:=0) hc noH ops c2 hr
  split at hr
  case isFalse=>cases hr
  rename_i hcd
  obtain ⟨a1,a2,a3,a4⟩:=hcd
  rw [qc9] at hr
  simp only [Bool.and_eq_true] at a2
  have hle:args.length+1≤nt:=Nat.le_of_ble_eq_true a2.1
  have hnt:k1.nt=nt:=Nat.eq_of_beq_eq_true a2.2
  have hxf:okX f=true:=List.all_eq_true.1 a3 f (by simp)
  have hxa:args.all okX=true:=List.all_eq_true.2 fun x hm=>List.all_eq_true.1 a3 x (by simp [hm])
  have hfo:=kv_ok hk1 hxf
  have hao:=qza hk1 hxa
  have hfe:=qvi hk1 f
  have hae:args.map (RX.ev k1.st.tmps)=pvL (args.map (RX.kv k1.tmps)):=qqd hk1 args
  generalize hxs:f.kv k1.tmps :: args.map (RX.kv k1.tmps)=xs at hr a4
  have hlen:xs.length=args.length+1:=by rw [← hxs];simp
  have hok:qgs xs:=by rw [← hxs];exact ⟨hfo,hao⟩
  have hpv:pvL xs=f.ev k1.st.tmps :: args.map (RX.ev k1.st.tmps):=by rw [← hxs,hfe,hae];rfl
  obtain ⟨i1,i2⟩:=Qnm (nt:=nt) hok (fun x hx=>kisUn_eq (by
   rw [List.any_eq_false] at a4
   simpa using a4 x hx)) (by omega)
  have e1:qdu nt (xs.zipIdx.map fun p=>(p.2,p.1))=pvL xs++List.replicate (nt - (pvL xs).length) .undef:=congrArg St.tmps i2
  have hk2:({ k1 with keep:=(xs.zipIdx.map fun p=>(p.2,p.1)) :: k1.keep }:KSt).Ok:=⟨hk1.tm,hk1.ob,fun sp hsp=>by
   rcases List.mem_cons.1 hsp with rfl | hsp
   ·rw [hnt];exact i1.tm
   ·exact hk1.kp sp hsp⟩
  have hst2:({ k1 with keep:=(xs.zipIdx.map fun p=>(p.2,p.1)) :: k1.keep }:KSt).st=pushD nt (f.ev k1.st.tmps :: args.map (RX.ev k1.st.tmps)) k1.st:=by
   rw [← hpv]
   unfold pushD KSt.st
   simp only [List.flatMap_cons]
   rw [hnt,e1]
  obtain ⟨t1,t2⟩:=qxu hk2 lv
  have hfn:isFn (f.ev k1.st.tmps)=true:=by
   rw [hfe]
   cases hq:f.kv k1.tmps with
   | fn g cap=>rfl
   | _=>rw [hq] at a1;cases a1
  refine ⟨_,_,_,hr,t2,h1.mono fun n hn'=>?_⟩
  rw [c1] at hn'
  simp only [qcu,hn',t1,hst2,chk,hfn,Bool.and_true,decide_eq_true_eq,if_pos hle]
 | seq a b iha ihb =>
  intro R ks K r hk hr
  simp only [qk5] at hr
  obtain ⟨x,k1,l,hr,hk1,h1⟩:=iha hk hr
  cases x with
  | normal =>
   obtain ⟨x2,k2,l2,hr,hk2,h2⟩:=ihb hk1 hr
   exact ⟨_,_,_,hr,hk2,h1.mono2 h2 fun n a b=>by simp only [qcu,a,b]⟩
  | exit id=>exact ⟨_,_,_,hr,hk1,h1.mono fun n a=>by simp only [qcu,a]⟩
  | ret=>exact ⟨_,_,_,hr,hk1,h1.mono fun n a=>by simp only [qcu,a]⟩
 | cond c a b iha ihb =>
  intro R ks K r hk hr
  simp only [qk5] at hr
  have hev:=qvi hk c
  split at hr
  ·rename_i hv
   obtain ⟨x,k1,e1,hr,hk1,h1⟩:=iha hk hr
   exact ⟨_,_,_,hr,hk1,h1.mono fun n a=>by simp only [qcu,hev,hv,KV.pv,a]⟩
  ·rename_i hv
   obtain ⟨x,k1,e1,hr,hk1,h1⟩:=ihb hk hr
   exact ⟨_,_,_,hr,hk1,h1.mono fun n a=>by simp only [qcu,hev,hv,KV.pv,a]⟩
  ·rename_i v hv
   rcases qto hr with ⟨rfl,hr⟩ | ⟨rfl,hr⟩
   ·obtain ⟨x,k1,e1,hr,hk1,h1⟩:=iha hk hr
    exact ⟨_,_,_,hr,hk1,h1.mono fun n a=>by simp only [qcu,hev,hv,KV.pv,a]⟩
   ·obtain ⟨x,k1,e1,hr,hk1,h1⟩:=ihb hk hr
    exact ⟨_,_,_,hr,hk1,h1.mono fun n a=>by simp only [qcu,hev,hv,KV.pv,a]⟩
  ·cases hr
 | block id b ih =>
  intro R ks K r hk hr
  simp only [qk5] at hr
  obtain ⟨x,k1,l,hr,hk1,h1⟩:=ih hk hr
  cases x with
  | normal=>exact ⟨_,_,_,hr,hk1,h1.mono fun n a=>by simp only [qcu,a]⟩
  | ret=>exact ⟨_,_,_,hr,hk1,h1.mono fun n a=>by simp only [qcu,a]⟩
  | exit id' =>
   simp only at hr
   split at hr
   ·rename_i hid;exact ⟨_,_,_,hr,hk1,h1.mono fun n a=>by simp only [qcu,a,hid,if_true]⟩
   ·rename_i hid;exact ⟨_,_,_,hr,hk1,h1.mono fun n a=>by simp only [qcu,a,hid,if_false]⟩
 | scope b ih =>
  intro R ks K r hk hr
  simp only [qk5] at hr
  split at hr
  ·cases hr
  rename_i hlb
  obtain ⟨x,k1,l,hr,hk1,h1⟩:=ih hk hr
  cases x with
  | normal=>exact ⟨_,_,_,hr,hk1,h1.mono fun n a=>by simp only [qcu,a,hlb,if_false,Bool.false_eq_true]⟩
  | ret=>exact ⟨_,_,_,hr,hk1,h1.mono fun n a=>by simp only [qcu,a,hlb,if_false,Bool.false_eq_true]⟩
  | exit id' =>
   simp only at hr
   split at hr
   ·rename_i hid;exact ⟨_,_,_,hr,hk1,h1.mono fun n a=>by simp only [qcu,a,hlb,hid,if_true,if_false,Bool.false_eq_true]⟩
   ·cases hr
 | _ =>
  intro R ks K r hk hr
  simp only [qk5] at hr
  obtain ⟨x,k1,e1,hr,hk1,h1⟩:=Qg6 hc _ (h:=qbe) (hn:=fun _=>qbe) noH 0 hk hr
  exact ⟨_,_,_,hr,hk1,h1.mono fun n a=>by simp only [qcu,a,qsf]⟩
theorem dfrsK_ok (hc:qm1 cfg tab) {nt:Nat} {R:Type}:∀ (l:List Nat) {ks:KSt} {K:KSt→Option R} {r:R},ks.Ok→dfrsK cfg nt l ks K=some r →
  ∃ k',K k'=some r∧k'.Ok∧Evl fun n=>Qrj (qkv cfg.b.sp tab n) nt l ks.st=some k'.st:=by
 intro l
 induction l with
 | nil=>intro ks K r hk hr;exact ⟨ks,hr,hk,.of fun n=>rfl⟩
 | cons n l ih =>
  intro ks K r hk hr
  simp only [dfrsK] at hr
  split at hr
  ·cases hr
  rename_i sp kp hkeep
  split at hr
  case h_2=>cases hr
  rename_i f caps hget
  split at hr
  case h_2=>cases hr
  rename_i P hP
  split at hr
  case isFalse=>cases hr
  rename_i hcd
  obtain ⟨b1,b2,b3⟩:=hcd
  simp only [Bool.and_eq_true] at b2
  have hle:n+1≤nt:=Nat.le_of_ble_eq_true b2.1
  have hnt:ks.nt=nt:=Nat.eq_of_beq_eq_true b2.2
  have hsp:ql4 nt sp:=by rw [← hnt];exact hk.kp sp (by rw [hkeep];exact List.mem_cons_self)
  have hcaps:qgs caps:=by
   have:=hsp.get_ok 0
   rw [hget] at this
   exact this
  have hargs:qgs ((List.range n).map fun j=>qcm sp (j+1)):=qc8.2 fun x hx=>by
   obtain ⟨j,_,rfl⟩:=List.mem_map.1 hx
   exact hsp.get_ok _
  obtain ⟨out,hr,ho,hspf,hev⟩:=Qds hc hk b3 (Qdq (f:=f) hargs hcaps) hP hr
  split at hr
  case isFalse=>cases hr
  rename_i hnew
  rw [qc9] at hr
  have hk2:({ ks with keep:=kp }:KSt).Ok:=⟨hk.tm,hk.ob,fun sp' h=>hk.kp sp' (by rw [hkeep];exact List.mem_cons_of_mem _ h)⟩
  obtain ⟨s1,s2⟩:=qsh (ks:={ ks with keep:=kp }) hk2 (by show (_||qkg ks.objs)=true;rw [b3];simp) none ho
  obtain ⟨k',hr,hk',h2⟩:=ih s2 hr
  have hkp:ks.st.keep=qdu nt sp++kp.flatMap (qdu nt):=by
   show ks.keep.flatMap (qdu ks.nt)=_
   rw [hkeep,hnt];rfl
  have hget0:ks.st.keep.getD 0 .undef=.fn f (pvL caps):=by
   have:(qdu nt sp)[0]?=some (KV.fn f caps).pv:=by rw [dense_get?,if_pos (by omega),hget]
   rw [hkp,List.getD_eq_getElem?_getD,List.getElem?_append_left (by rw [qb7];omega),this]
   rfl
  have htake:(ks.st.keep.drop 1).take n=pvL ((List.range n).map fun j=>qcm sp (j+1)):=by
   rw [hkp,qgw,List.map_map]
   apply List.ext_getElem?
   intro j
   rw [List.getElem?_take,List.getElem?_drop,List.getElem?_map]
   by_cases hj:j < n
   ·rw [if_pos hj,List.getElem?_append_left (by rw [qb7];omega),dense_get?,if_pos (by omega),List.getElem?_range hj]
    simp [Nat.add_comm]
   ·rw [if_neg hj,List.getElem?_eq_none (by simp;omega)]
    rfl
  have hdrop:({ ks with keep:=kp }:KSt).st={ ks.st with keep:=ks.st.keep.drop nt }:=by
   rw [hkp,List.drop_left' (qb7 nt sp)]
   unfold KSt.st
   simp only [hnt]
  have hvs:qcl f ((ks.st.keep.drop 1).take n) (pvL caps)=pvL (qmv f ((List.range n).map fun j=>qcm sp (j+1)) caps):=by rw [htake,Qdp]
  have hflag:qk4 tab (qf6 f)=true:=by rw [← hc.ioF,hP];rfl
  have hflat:qmj tab (qf6 f)=true:=hc.flat _ b1
  have hnew':(out.out.new.isEmpty||out.out.slot.isSome)=true:=by
   simp only [qcd.out]
   have:(out.new.map KOb.ob).isEmpty=out.new.isEmpty:=by cases out.new<;>rfl
   rw [this];exact hnew
  rw [s1,hdrop] at h2
  refine ⟨k',hr,hk',hev.mono2 h2 fun m a b=>?_⟩
  simp only [Qrj,hget0,hvs,qmb,qq7,machN_flat,hc.spF _ hspf,hflag,hflat,Bool.and_true,if_true,a,chk,hnew',b]
end
end Go.Ab

