/-
  Part 3 of a proof: a machine of our own for the given program, its laws, and what it says of the program. Nothing here is a claim by itself.
-/
import Derived.Test.YtddfndlppfhcaaaGreatDoorK02
import Derived.RangeFuncNested
set_option linter.all false

namespace Go.Ab
def qs0:Ex→Exit
 | .normal=>.normal
 | .exit id=>if id < qf6 then .exit id else .goto (id - qf6)
 | .ret=>.ret
def qtr:Ex→Option Code
 | .normal=>none
 | .exit id=>some (if id < qf6 then .exit id else .goto (id - qf6))
 | .ret=>some .ret
def qfa (cx:Cx) (M:qdb) (fuel:Nat) (r:qcm) (c:Code):Prop :=
 ∀ (E:Type) (h:qbg E) (dep:Nat) (R:qkj E) (lp:Nat→Option Nat) (w0:World) (I0 F0:Nat→Prop) (O0:Own) (Hd:Nat→Option Obj) (suf:List Value) (ro:Option Nat) (st:St) (e:E) (x:Ex) (st2:St) (e2:E),
  qbk M fuel r h dep st e=some (x,st2,e2)→Ref cx lp R h dep w0 I0 F0→(∀ l0,ro=some l0→∃ r0,Hd l0=some (.loop r0)) →
  ∀ (a:Act) (w:World) (I F:Nat→Prop) (L:Loc) (Q:Exit→Act→World→Prop),SR lp I L st a.tmps.toList suf w→Fr cx w0 I0 F0 O0 Hd R e a.defers I F L w →
   (∀ a' w' I' F' L',SR lp I' L' st2 a'.tmps.toList suf w'→Fr cx w0 I0 F0 O0 Hd R e2 a'.defers I' F' L' w'→Q (qs0 x) a' w')→c.wpIn (fen ro) 0 cx.P Q a w
def qr5 (cx:Cx) (dd:qya) (M:qdb) (fuel:Nat) (c:Code):Prop :=
 ∀ (E:Type) (h:qbg E) (dep:Nat) (R:qkj E) (lp:Nat→Option Nat) (w0:World) (I0 F0:Nat→Prop) (O0:Own) (Hd:Nat→Option Obj) (suf:List Value) (ro:Option Nat) (st:St) (e:E) (x:Ex) (st2:St) (e2:E),
  qbk M fuel (qdg cx.P cx.G dd c) h dep st e=some (x,st2,e2)→Ref cx lp R h dep w0 I0 F0→(∀ l0,ro=some l0→∃ r0,Hd l0=some (.loop r0)) →
  ∀ (a:Act) (w:World) (I F:Nat→Prop) (L:Loc) (Q:Exit→Act→World→Prop),SR lp I L st a.tmps.toList suf w→Fr cx w0 I0 F0 O0 Hd R e a.defers I F L w →
   (∀ a' w' I' F' L',SR lp I' L' st2 a'.tmps.toList suf w'→Fr cx w0 I0 F0 O0 Hd R e2 a'.defers I' F' L' w'→Q (qs0 x) a' w')→c.wpIn (fen ro) 0 cx.P Q a w
section
variable {E:Type} {cx:Cx} {w0:World} {I0 F0:Nat→Prop} {O0:Own} {Hd:Nat→Option Obj} {R:qkj E} {e:E} {F:Nat→Prop} {lp:Nat→Option Nat} {suf tmv:List Value}
variable {I:Nat→Prop} {L:Loc} {st:St} {w:World} {ds:List Deferred}
theorem freezeV_ok (hs:SR lp I L st tmv suf w) (hf:Fr cx w0 I0 F0 O0 Hd R e ds I F L w) {x y:PV} {v:Value} {st':St} (hx:qbr w I lp (some L) x v) (h:qnn st x=some (y,st')) :
  ∃ I' L',SR lp I' L' st' tmv suf w∧Fr cx w0 I0 F0 O0 Hd R e ds I' F L' w∧qbr w I' lp none y v:=by
 unfold qnn at h
 split at h
 ·rename_i hn
  cases h
  exact⟨I,L,hs,hf,hx.shut (List.isEmpty_iff.1 hn)⟩
 ·obtain⟨hR,h⟩:=qbh h
  cases h
  exact⟨_,_,hs.freeze hR,hf.freeze _,shut_value hs hR hx fun nm hn=>qcn _ _ nm hn⟩
def blk (L:Loc) (b:Nat):Prop:=∃ nm C,L nm=some (some (b,C))
def qc3 (rc:Loop) (p:Option Ex):Loop :=
 match p with
 | none=>{rc with state:=.ready,pending:=none}
 | some x=>{rc with state:=.done,pending:=qtr x}
def Qk6 (w0:World) (O0:Own) (R:qkj E) (lp:Nat→Option Nat) (l:Nat) (rc:Loop) (tm suf:List Value):qkj (Rec E) where
 rel:=fun r I F w=>∃ L Fo,SR lp I L r.1 tm suf w∧(∀ b,F b↔Fo b∨blk L b∨b=l)∧(∀ b,blk L b→¬ Fo b∧b≠l∧(w0.heap.size≤b∨O0 b))∧¬ Fo l ∧
  (∀ nm nm' b C C',L nm=some (some (b,C))→L nm'=some (some (b,C'))→nm=nm')∧w.heap[l]?=some (.loop (qc3 rc r.2.1))∧R.rel r.2.2 I Fo w
 stab:=by
  rintro r I I' F w w' ⟨L,Fo,h1,h2,h3,h4,h5,h6,h7⟩ hI hk hsz
  exact⟨L,Fo,h1.keeps hI (fun b hb=>hk b (.inl hb)) (fun nm b C hn=>hk b (.inr ((h2 b).2 (.inr (.inl ⟨nm,C,hn⟩))))),h2,h3,h4,h5,
   (hk l (.inr ((h2 l).2 (.inr (.inr rfl))))).trans h6,R.stab r.2.2 I I' Fo w w' h7 hI (fun b hb=>hk b (hb.imp id fun hf=>(h2 b).2 (.inl hf))) hsz⟩
theorem Ext.less {I F I' F' F2:Nat→Prop} {w w':World} (h:Ext I F w I' F' w') (hF:∀ b,F2 b→F' b):Ext I F w I' F2 w' :=
 ⟨h.os,h.tape,h.output,h.size,h.keep,h.subI,h.newI,fun b hb=>h.newF b (hF b hb)⟩
theorem Fr.hput (hf:Fr cx w0 I0 F0 O0 Hd R e ds I F L w) {l:Nat} {ob ob':Obj} (hl:Hd l=some ob) (hF0:w0.heap.size≤l∨F0 l) (hds:∀ D,D∈ds.map (·.target)→D≠.collected l) :
  Fr cx w0 I0 F0 O0 (fun b=>if b=l then some ob' else Hd b) R e ds I F L (w.putObj l ob'):=by
 obtain⟨d1,d2,d3,d4,d5⟩:=hf.hld l ob hl
 have hk:∀ b,b≠l→(w.putObj l ob').heap[b]?=w.heap[b]?:=fun b hb=>World.putObj_heap_other hb
 have hsz:(w.putObj l ob').heap.size=w.heap.size:=World.putObj_size
 refine⟨⟨hf.ext.os,hf.ext.tape,hf.ext.output,by rw[hsz];exact hf.ext.size,fun b hb hF=>?_,hf.ext.subI,hf.ext.newI,hf.ext.newF⟩,⟨fun b hb=>by rw[hsz];exact hf.sep.iB b hb,fun b hb=>⟨by rw[hsz];exact (hf.sep.fB b hb).1,(hf.sep.fB b hb).2⟩⟩,hf.oF,
  fun nm b C hn=>⟨(hf.lB nm b C hn).1,by rw[hsz];exact (hf.lB nm b C hn).2.1,(hf.lB nm b C hn).2.2⟩,hf.inj,?_,?_,?_,?_⟩
 ·have hne:b≠l:=fun e=>by subst e;exact hF0.elim (fun h=>by omega) hF
  exact (hk b hne).trans (hf.ext.keep b hb hF)
 ·exact cx.stab I I w _ hf.wd (fun _ h=>h) (fun b hb=>hk b fun e=>d2 (e ▸ hb)) (by rw[hsz];exact Nat.le_refl _)
 ·exact R.stab e I I F w _ hf.re (fun _ h=>h) (fun b hb=>hk b fun e=>hb.elim (fun h=>d2 (e ▸ h)) fun h=>d3 (e ▸ h)) (by rw[hsz];exact Nat.le_refl _)
 ·have key:∀ ds rs,qgg w0.heap.size I F L w ds rs→(∀ D,D∈ds.map (·.target)→D≠.collected l)→qgg w0.heap.size I F L (w.putObj l ob') ds rs:=by
   intro ds rs h
   induction h with
   | nil=>intro _;exact .nil
   | call d ds rs hd _ ih=>intro hne;exact .call d ds rs hd (ih fun D' hD'=>hne D' (by simp at hD' ⊢;exact .inr hD'))
   | cons D ds rs h1 h2 h3 h4 h5 h6 h7 _ ih =>
    intro hne
    have hD:D≠l:=fun e=>hne (.collected D) (by simp) (by rw[e])
    exact .cons D ds rs h1 (by rw[hsz];exact h2) h3 h4 h5 ((hk D hD).trans h6) h7 (ih fun D' hD'=>hne D' (by simp at hD' ⊢;exact .inr hD'))
  exact key ds _ hf.mks hds
 ·intro b ob2 hb
  by_cases hbl:b=l
  ·subst hbl
   simp only[if_true,Option.some.injEq] at hb
   subst hb
   exact⟨by rw[hsz];exact d1,d2,d3,d4,World.putObj_heap_same d1⟩
  ·simp only[hbl,if_false] at hb
   obtain⟨g1,g2,g3,g4,g5⟩:=hf.hld b ob2 hb
   exact⟨by rw[hsz];exact g1,g2,g3,g4,(hk b hbl).trans g5⟩
theorem SR.hput {I:Nat→Prop} (hs:SR lp I L st tmv suf w) {l:Nat} (ob':Obj) (hI:¬ I l) (hL:∀ nm C,L nm≠some (some (l,C))):SR lp I L st tmv suf (w.putObj l ob') :=
 hs.keeps (fun _ h=>h) (fun b hb=>World.putObj_heap_other fun e=>hI (e ▸ hb)) fun nm b C hn=>World.putObj_heap_other fun e=>hL nm C (e ▸ hn)
theorem setPs_rep {w:World} {I:Nat→Prop} {lp:Nat→Option Nat} {L:Option Loc}:∀ (ps:List Nat) (vs:List PV) (us:List Value) (tm:List PV) (tv:Array Value),qbn w I lp L vs us→qbn w I lp L tm tv.toList→vs.length=ps.length →
  qbn w I lp L (qsc ps vs tm) ((ps.zip us).foldl (fun (tmps:Array Value) (x:Nat×Value)=>tmps.setIfInBounds x.1 x.2) tv).toList:=by
 intro ps
 induction ps with
 | nil=>intro vs us tm tv hv ht _;cases vs<;>exact ht
 | cons p ps ih =>
  intro vs us tm tv hv ht hl
  cases hv with
  | nil=>simp at hl
  | cons v u vs us h hs =>
   simp only[qsc,List.zip_cons_cons,List.foldl_cons]
   refine ih vs us _ _ hs ?_ (by simpa using hl)
   rw[Array.toList_setIfInBounds]
   exact ht.set p h
end
def qy1 (M:qdb) (fuel:Nat) {E:Type} (h:qbg E) (dep:Nat) (ps:List Nat) (assign body:qcm):qbg (Rec E):=fun l args r =>
 if l=dep then
  match r with
  |(s,none,e) =>
   if args.length=ps.length then
    match qbk M fuel assign h (dep+1) {s with tmps:=qsc ps args s.tmps,keep:=s.tmps++s.keep} e with
    | some (.normal,s',e)=>match qbk M fuel body h (dep+1) s' e with
     | some (x,s',e)=>some (x==.normal,({s' with tmps:=s'.keep.take s.tmps.length,keep:=s'.keep.drop s.tmps.length},(if x=.normal then none else some x),e))
     | none=>none
    | _=>none
   else none
  | _=>none
 else
  match r with
  |(s,p,e)=>match h l args e with
   | some (b,e)=>some (b,(s,p,e))
   | none=>none
theorem Qj9 (M:qdb) (fuel:Nat) (f:RX) (ps:List Nat) (assign body:qcm) {E:Type} (h:qbg E) (dep:Nat) (st:St) (e:E) :
  qbk M fuel (.rangeFunc f ps assign body) h dep st e=(if Qct M (f.ev st.tmps) then qmc M (fun h dep=>qy1 M fuel h dep ps assign body) h dep (f.ev st.tmps) st e else match qnn st (f.ev st.tmps) with
   | some (.fn g cap,st)=>match M.call (Rec E) (qy1 M fuel h dep ps assign body) (dep+1) (qd2 g) (qb3 g [.yld dep] cap) (st,none,e) with
    | some (_,_,s,p,e)=>some (p.getD .normal,s,e)
    | none=>none
   | _=>none):=rfl
section round
variable {E:Type} {cx:Cx} {w0:World} {I0 F0:Nat→Prop} {O0:Own} {Hd:Nat→Option Obj} {R:qkj E} {lp:Nat→Option Nat} {suf:List Value}
variable {w1:World} {I1 F1:Nat→Prop} {dd:qya} {M:qdb} {fuel:Nat} {h:qbg E} {dep:Nat}
theorem Qk5 (href:Ref cx lp R h dep w0 I0 F0) (hx1:Ext I0 F0 w0 I1 F1 w1) {l:Nat} {rc:Loop} {ps:Array Nat} {assign body:Code} {rb:qcm} (hps:rc.params=ps) (hra:rc.assign=assign) (hrb:rc.body=body)
  (hl0:w0.heap.size≤l) (hca:qr5 cx dd M fuel assign) (hcb:qfa cx M fuel rb body) :
  Qho cx (fun d=>if d=dep then some (2*l) else lp d) (Qk6 w0 O0 R lp l rc rc.tmps.toList suf) I1 F1 w1 (qy1 M fuel h dep ps.toList (qdg cx.P cx.G dd assign) rb):=by
 obtain⟨Ir,Fr_,wr,hand,hxr⟩:=href.hand
 rintro d args ⟨s,p,e⟩ b r' l' hh hl'
 have key:∃ l2,l'=2*l2∧(d=dep→l2=l)∧(d≠dep→∀ e1,h d args e=some (b,e1)→HandAt cx R Ir Fr_ wr args e b e1 l2):=by
  by_cases hd:d=dep
  ·simp only[hd,if_true,Option.some.injEq] at hl'
   exact⟨l,hl'.symm,fun _=>rfl,fun h=>absurd hd h⟩
  ·have hh2:=hh
   unfold qy1 at hh2
   simp only[hd,if_false] at hl' hh2
   split at hh2
   case h_2=>cases hh2
   rename_i b1 e1 hhe
   cases hh2
   obtain⟨l2,e2,ha⟩:=hand d args e b e1 l' hhe hl'
   exact⟨l2,e2,fun h=>absurd h hd,fun _ e1' he'=>by rw[hhe] at he';cases he';exact ha⟩
 obtain⟨l2,rfl,kl,kh⟩:=key
 refine⟨l2,rfl,?_⟩
 clear hl'
 rintro vs I F w hrep hx hsep hwd ⟨L,Fo,g1,g2,g3,g4,g5,g6,g7⟩
 simp only at g1 g6 g7
 have hFl:F l:=(g2 l).2 (.inr (.inr rfl))
 have hlw:=(hsep.fB l hFl).1
 have hIl:=(hsep.fB l hFl).2
 have hLl:∀ nm C,L nm≠some (some (l,C)):=fun nm C hn=>(g3 l ⟨nm,C,hn⟩).2.1 rfl
 have hxo:Ext Ir Fr_ wr I Fo w:=(hxr.trans (hx1.trans hx)).less fun b hb=>(g2 b).2 (.inl hb)
 have hsepo:IF I Fo w:=⟨hsep.iB,fun b hb=>hsep.fB b ((g2 b).2 (.inl hb))⟩
 have hblk:∀ nm b C,L nm=some (some (b,C))→b < w.heap.size∧¬ I b∧¬ Fo b∧b≠l:=fun nm b C hn=>by
  have hb:blk L b:=⟨nm,C,hn⟩
  have hF:=hsep.fB b ((g2 b).2 (.inr (.inl hb)))
  exact⟨hF.1,hF.2,(g3 b hb).1,(g3 b hb).2.1⟩
 unfold qy1 at hh
 by_cases hd:d=dep
 ·subst hd
  simp only[if_true] at hh
  rw[kl rfl]
  cases p with
  | some x=>simp at hh
  | none =>
   simp only at hh
   split at hh
   case isFalse=>cases hh
   rename_i hlen
   split at hh
   case h_2=>cases hh
   rename_i s1 e1 hev1
   split at hh
   case h_2=>cases hh
   rename_i x s2 e2 hev2
   cases hh
   have hargs:vs.toArray.size=rc.params.size:=by
    have:=hrep.length
    rw[hps]
    simp only[List.size_toArray]
    have h2:ps.toList.length=ps.size:=Array.length_toList
    omega
   have hrec:w.heap[l]?=some (.loop (qc3 rc none)):=g6
   refine⟨_,_,_,_,run_yield hrec (by simpa[qc3] using hargs),?_⟩
   refine roundIn_of_wpIn trivial ?_
   have hst0:SR lp I L {s with tmps:=qsc ps.toList args s.tmps,keep:=s.tmps++s.keep}
     ((((qc3 rc none).params.zip vs.toArray).foldl (fun tmps (x:Nat×Value)=>tmps.setIfInBounds x.1 x.2) (qc3 rc none).tmps)).toList (rc.tmps.toList++suf) w:=by
    refine⟨?_,g1.tm.append g1.kp,g1.ob,g1.dom⟩
    have:=setPs_rep ps.toList args vs s.tmps rc.tmps (qbn.mono (fun _ h=>h) (fun _ _=>rfl) (fun d l h=>by cases h) (hrep.lift (some L))) g1.tm (by simpa using hlen)
    have hfold:(((qc3 rc none).params.zip vs.toArray).foldl (fun tmps (x:Nat×Value)=>tmps.setIfInBounds x.1 x.2) (qc3 rc none).tmps)=(ps.toList.zip vs).foldl (fun (tmps:Array Value) (x:Nat×Value)=>tmps.setIfInBounds x.1 x.2) rc.tmps:=by
     simp only[qc3,hps]
     rw[←Array.foldl_toList,Array.toList_zip]
    rw[hfold]
    exact this
   have hfr0:Fr cx w I F ⟨blk L,[]⟩ (fun b=>if b=l then some (.loop (qc3 rc none)) else none) R e [] I Fo L w:=by
    refine⟨⟨rfl,rfl,rfl,Nat.le_refl _,fun _ _ _=>rfl,fun _ h=>h,fun _ h=>.inl h,fun b hb=>.inl ((g2 b).2 (.inl hb))⟩,hsepo,fun b hb=>(g2 b).2 (.inr (.inl hb)),fun nm b C hn=>?_,g5,hwd,g7,.nil,fun b ob hb=>?_⟩
    ·obtain⟨q1,q2,q3,q4⟩:=hblk nm b C hn
     exact⟨.inr ⟨nm,C,hn⟩,q1,q2,q3⟩
    ·by_cases hbl:b=l
     ·subst hbl
      simp only[if_true,Option.some.injEq] at hb
      subst hb
      exact⟨hlw,hIl,g4,hLl,hrec⟩
     ·simp[hbl] at hb
   have href':Ref cx lp R h (d+1) w I F:=⟨⟨Ir,Fr_,wr,hand,hxr.trans (hx1.trans hx)⟩,fun d' l' hd'=>Nat.lt_succ_of_lt (href.dep d' l' hd')⟩
   have hca':=hca E h (d+1) R lp w I F ⟨blk L,[]⟩ (fun b=>if b=l then some (.loop (qc3 rc none)) else none) (rc.tmps.toList++suf) (some l) _ e .normal s1 e1 hev1 href' (fun l0 he=>by cases he;exact⟨qc3 rc none,by simp⟩)
   have hasn:(qc3 rc none).assign=assign:=hra
   have hbdy:(qc3 rc none).body=body:=hrb
   rw[hasn,hbdy]
   refine hca' {tmps:=_,defers:=[]} w I Fo L _ hst0 hfr0 ?_
   rintro a1 w2 I2 F2 L2 hs2 hf2
   have hheld:=hf2.hld l (.loop (qc3 rc none)) (by simp)
   obtain⟨k1,k2,k3,k4,k5⟩:=hheld
   have hge:∀ {I F:Nat→Prop} {L:Loc} {w':World} {ds rs:List Deferred},qgg w.heap.size I F L w' ds rs→∀ D,D∈ds.map (·.target)→D≠.collected l:=by
    intro I F L w' ds rs hm
    induction hm with
    | nil=>intro D hD;simp at hD
    | call d' ds rs hd _ ih =>
     intro D' hD'
     simp only[List.map_cons,List.mem_cons] at hD'
     rcases hD' with rfl | hD'
     ·exact hd l
     ·exact ih D' hD'
    | cons D ds rs h1 _ _ _ _ _ _ _ ih =>
     intro D' hD'
     simp only[List.map_cons,List.mem_cons] at hD'
     rcases hD' with rfl | hD'
     ·intro he;cases he;omega
     ·exact ih D' hD'
   refine⟨_,run_beginRound k5 rfl,?_⟩
   have hf2':=hf2.hput (ob':=.loop {qc3 rc none with state:=.busy}) (l:=l) (ob:=.loop (qc3 rc none)) (by simp) (.inr hFl) (hge hf2.mks)
   have hs2':=hs2.hput (.loop {qc3 rc none with state:=.busy}) k2 k4
   refine hcb E h (d+1) R lp w I F ⟨blk L,[]⟩ (fun b=>if b=l then some (.loop {qc3 rc none with state:=.busy}) else if b=l then some (.loop (qc3 rc none)) else none) (rc.tmps.toList++suf) (some l) _ e1 x s2 e2 hev2 href' (fun l0 he=>by cases he;exact⟨{qc3 rc none with state:=.busy},by simp⟩) a1 _ I2 F2 L2 _ hs2' hf2' ?_
   rintro a2 w3 I3 F3 L3 hs3 hf3
   have hheld3:=hf3.hld l (.loop {qc3 rc none with state:=.busy}) (by simp)
   obtain⟨m1,m2,m3,m4,m5⟩:=hheld3
   have hend:=run_endRound (P:=cx.P) (qtr x) m5
   have hrc:({({qc3 rc none with state:=.busy}:Loop) with state:=if (qtr x).isNone then .ready else .done,pending:=qtr x}:Loop)=qc3 rc (if x=.normal then none else some x):=by
    cases x<;>rfl
   rw[hrc] at hend
   have hf4:=hf3.hput (ob':=.loop (qc3 rc (if x=.normal then none else some x))) (l:=l) (ob:=.loop {qc3 rc none with state:=.busy}) (by simp) (.inr hFl) (hge hf3.mks)
   have hs4:=hs3.hput (.loop (qc3 rc (if x=.normal then none else some x))) m2 m4
   generalize hw4:w3.putObj l (.loop (qc3 rc (if x=.normal then none else some x)))=w4 at *
   have hl4:=hf4.hld l (.loop (qc3 rc (if x=.normal then none else some x))) (by simp)
   obtain⟨n1,n2,n3,n4,n5⟩:=hl4
   have hpost:(.bool (qtr x).isNone:Value)=.bool (x==.normal)∧∃ I' F',Ext I F w I' F' w4∧IF I' F' w4∧cx.Wd I' w4 ∧
     (Qk6 w0 O0 R lp l rc rc.tmps.toList suf).rel ({s2 with tmps:=s2.keep.take s.tmps.length,keep:=s2.keep.drop s.tmps.length},(if x=.normal then none else some x),e2) I' F' w4:=by
    refine⟨by cases x<;>rfl,I3,(fun b=>F3 b∨blk L3 b∨b=l),⟨hf4.ext.os,hf4.ext.tape,hf4.ext.output,hf4.ext.size,hf4.ext.keep,hf4.ext.subI,hf4.ext.newI,fun b hb=>?_⟩,⟨hf4.sep.iB,fun b hb=>?_⟩,hf4.wd,L3,F3,⟨?_,?_,hs4.ob,hs4.dom⟩,fun b=>Iff.rfl,fun b hb=>?_,n3,hf4.inj,n5,hf4.re⟩
    ·rcases hb with hb | ⟨nm,C,hb⟩ | rfl
     ·exact hf4.ext.newF b hb
     ·exact (hf4.lB nm b C hb).1.elim .inr fun ho=>.inl (hf4.oF b ho)
     ·exact .inl hFl
    ·rcases hb with hb | ⟨nm,C,hb⟩ | rfl
     ·exact hf4.sep.fB b hb
     ·exact⟨(hf4.lB nm b C hb).2.1,(hf4.lB nm b C hb).2.2.1⟩
     ·exact⟨n1,n2⟩
    ·have:=hs4.kp.take s.tmps.length
     rwa [List.take_left' g1.tm.length.symm] at this
    ·have:=hs4.kp.drop s.tmps.length
     rwa [List.drop_left' g1.tm.length.symm] at this
    ·obtain⟨nm,C,hb⟩:=hb
     refine⟨(hf4.lB nm b C hb).2.2.2,fun e=>n4 nm C (e ▸ hb),?_⟩
     have hsz:=hx1.size
     have hsz2:=hx.size
     rcases (hf4.lB nm b C hb).1 with h1 | h1
     ·exact .inl (by omega)
     ·exact (g3 b h1).2.2
   obtain⟨p1,p2⟩:=hpost
   cases x with
   | normal=>exact⟨_,_,hend,p1,p2⟩
   | exit id =>
    simp only[qs0]
    simp only[qtr] at hend p1
    by_cases hid:id < qf6
    ·simp only[hid,if_true] at hend p1 ⊢;exact⟨_,_,hend,p1,p2⟩
    ·simp only[hid,if_false] at hend p1 ⊢;exact⟨_,_,hend,p1,p2⟩
   | ret=>exact⟨_,_,hend,p1,p2⟩
 ·simp only[hd,if_false] at hh
  split at hh
  case h_2=>cases hh
  rename_i b1 e1 hhe
  cases hh
  obtain⟨fn,tmps,as,bd,q1,q2⟩:=kh hd e1 hhe vs I Fo w hrep hxo hsepo hwd g7
  refine⟨fn,tmps,as,bd,q1,RoundIn.mono q2 fun en w' hq=>?_⟩
  cases en with
  | panicked chain=>exact hq.elim
  | outgrown=>exact hq.elim
  | returned v =>
   obtain⟨rfl,I',Fo',r1,r2,r3,r4⟩:=hq
   have hoff:∀ b,b < w.heap.size→¬ I b→¬ Fo b→¬ I' b∧¬ Fo' b∧w'.heap[b]?=w.heap[b]?:=fun b h1 h2 h3 =>
    ⟨fun h=>by rcases r1.newI b h with h | h | h<;>first | exact h2 h | exact h3 h | omega,fun h=>by rcases r1.newF b h with h | h<;>first | exact h3 h | omega,r1.keep b h1 h3⟩
   have hsz:=r1.size
   refine⟨rfl,I',(fun b=>Fo' b∨blk L b∨b=l),⟨r1.os,r1.tape,r1.output,r1.size,fun b hb hF=>r1.keep b hb fun h=>hF ((g2 b).2 (.inl h)),r1.subI,fun b hb=>?_,fun b hb=>?_⟩,⟨r2.iB,fun b hb=>?_⟩,r3,L,Fo',
    g1.keeps r1.subI (fun b hb=>r1.sameI hsepo b hb) (fun nm b C hn=>(hoff b (hblk nm b C hn).1 (hblk nm b C hn).2.1 (hblk nm b C hn).2.2.1).2.2),fun b=>Iff.rfl,fun b hb=>?_,(hoff l hlw hIl g4).2.1,g5,(hoff l hlw hIl g4).2.2.trans g6,r4⟩
   ·rcases r1.newI b hb with h | h | h
    ·exact .inl h
    ·exact .inr (.inl ((g2 b).2 (.inl h)))
    ·exact .inr (.inr h)
   ·rcases hb with hb | hb | rfl
    ·exact (r1.newF b hb).imp (fun h=>(g2 b).2 (.inl h)) id
    ·exact .inl ((g2 b).2 (.inr (.inl hb)))
    ·exact .inl hFl
   ·rcases hb with hb | ⟨nm,C,hb⟩ | rfl
    ·exact r2.fB b hb
    ·obtain⟨u1,u2,u3,_⟩:=hblk nm b C hb
     exact⟨by omega,(hoff b u1 u2 u3).1⟩
    ·exact⟨by omega,(hoff b hlw hIl g4).1⟩
   ·obtain⟨nm,C,hn⟩:=hb
    obtain⟨u1,u2,u3,u4⟩:=hblk nm b C hn
    exact⟨(hoff b u1 u2 u3).2.1,u4,(g3 b ⟨nm,C,hn⟩).2.2⟩
end round
end Go.Ab


namespace Go.Ab
section
variable {w:World} {I:Nat→Prop} {lp lp':Nat→Option Nat}
theorem qbr.narrow {L L':Loc} {x:PV} {v:Value} (h:qbr w I lp (some L) x v) (hn:∀ nm∈x.names,∀ p,L nm=some p→L' nm=some p):qbr w I lp (some L') x v:=by
 have hs:qko w I lp L (some L') (fun nm=>nm∈x.names) (fun _=>none):=fun nm p hS hp=>⟨L',rfl,hn nm hS p hp⟩
 have:=qbr.subst (fun _ h=>h) hs h fun _ h=>h
 rwa [Go.Ab.sub_id] at this
theorem qbn.narrow {L L':Loc} {xs:List PV} {vs:List Value} (h:qbn w I lp (some L) xs vs) (hn:∀ nm∈qbd xs,∀ p,L nm=some p→L' nm=some p):qbn w I lp (some L') xs vs:=by
 have hs:qko w I lp L (some L') (fun nm=>nm∈qbd xs) (fun _=>none):=fun nm p hS hp=>⟨L',rfl,hn nm hS p hp⟩
 have:=qbn.subst (fun _ h=>h) hs h fun _ h=>h
 rwa [Go.Ab.subL_id] at this
theorem qha.narrow {L L':Loc} {ob:Ob} {p:Option (Nat×Nat)} (h:qha w I lp L ob p) (hn:∀ nm∈ob.names,∀ p,L nm=some p→L' nm=some p):qha w I lp L' ob p:=by
 have hs:qko w I lp L (some L') (fun nm=>nm∈ob.names) (fun _=>none):=fun nm p hS hp=>⟨L',rfl,hn nm hS p hp⟩
 have:=qha.subst h (fun _ h=>h) (fun _ _=>rfl) hs (fun _ h=>h) fun _ _ _=>rfl
 rwa [Ob.sub_id] at this
theorem qha.noY {L:Loc} {ob:Ob} {p:Option (Nat×Nat)} (h:qha w I lp L ob p) (hy:ob.hasY=false):qha w I lp' L ob p:=by
 cases p with
 | none=>exact h
 | some p =>
  cases ob with
  | cells ty cs=>obtain⟨c,E,h1,h2,h4,h3⟩:=h;exact⟨c,E,h1,h2,h4,h3.noY hy⟩
  | arr k kt xs=>obtain⟨c,E,h1,h2,h3,h4,h6,h5⟩:=h;exact⟨c,E,h1,h2,h3,h4,h6,h5.noY (qj2 (w:=w) (I:=I) (lp:=lp) (lp':=lp') xs hy)⟩
  | map es=>obtain⟨c,E,h1,h2⟩:=h;exact⟨c,E,h1,h2.noY hy⟩
  | siter s pos=>exact h
def GeP:Option (Nat×Nat)→Option (Nat×Nat)→Prop
 | none,none=>True
 | some (b,C),some (b',C')=>b'=b∧C≤C'
 | _,_=>False
def Qhn (L L':Loc):Prop:=∀ nm p,L nm=some p→∃ p',L' nm=some p'∧GeP p p'
theorem GeP.refl (p:Option (Nat×Nat)):GeP p p:=by
 cases p with
 | none=>trivial
 | some p=>exact⟨rfl,Nat.le_refl _⟩
theorem Qhn.at {L L':Loc} (h:Qhn L L') {nm:Nm} {b C:Nat} (hn:L nm=some (some (b,C))):∃ C',L' nm=some (some (b,C'))∧C≤C':=by
 obtain⟨p,h1,h2⟩:=h nm _ hn
 cases p with
 | none=>exact h2.elim
 | some p=>obtain⟨b',C'⟩:=p;obtain⟨rfl,h3⟩:=h2;exact⟨C',h1,h3⟩
theorem Qhn.atN {L L':Loc} (h:Qhn L L') {nm:Nm} (hn:L nm=some none):L' nm=some none:=by
 obtain⟨p,h1,h2⟩:=h nm _ hn
 cases p with
 | none=>exact h1
 | some p=>exact h2.elim
mutual
theorem qbr.ge {L L':Loc} {x:PV} {v:Value}:qbr w I lp (some L) x v→Qhn L L'→qbr w I lp (some L') x v
 | .undef v,_=>.undef v
 | .bool b,_=>.bool b
 | .int k n,_=>.int k n
 | .str s,_=>.str s
 | .nilS,_=>.nilS
 | .nilP,_=>.nilP
 | .nilF,_=>.nilF
 | .nilI,_=>.nilI
 | .nilM,_=>.nilM
 | .slE k full a cap hf,_=>.slE k full a cap hf
 | .sl k xs full b off cap c E fr h1 h2 h3 h4 h5 h6 h8 h7,_=>.sl k xs full b off cap c E fr h1 h2 h3 h4 h5 h6 h8 h7
 | .ptr cs o b off c E fr h1 h2 h3 h4 h8 h5,_=>.ptr cs o b off c E fr h1 h2 h3 h4 h8 h5
 | .agg cs vs h1 h,e=>.agg cs vs h1 (h.ge e)
 | .iface t x v h,e=>.iface t x v (h.ge e)
 | .fn f cs us vs hk h,e=>.fn f cs us vs hk (h.ge e)
 | .yld d l h,_=>.yld d l h
 | .tup xs vs h,e=>.tup xs vs (h.ge e)
 | .imap es r ents clock h1 h2 h3,_=>.imap es r ents clock h1 h2 h3
 | .glob g t x c E fr h1 h2 h3,_=>.glob g t x c E fr h1 h2 h3
 | .ref nm o b C h,e=>let ⟨C',h',_⟩:=e.at h;.ref nm o b C' h'
 | .aref nm k i o b C h,e=>let ⟨C',h',_⟩:=e.at h;.aref nm k i o b C' h'
 | .arr nm k o n cap b C h hC hn,e=>let ⟨C',h',hle⟩:=e.at h;.arr nm k o n cap b C' h' (Nat.le_trans hC hle) hn
 | .arrN nm k h,e=>.arrN nm k (e.atN h)
 | .mp nm b C h,e=>let ⟨C',h',_⟩:=e.at h;.mp nm b C' h'
 | .it nm b C h,e=>let ⟨C',h',_⟩:=e.at h;.it nm b C' h'
theorem qbn.ge {L L':Loc} {xs:List PV} {vs:List Value}:qbn w I lp (some L) xs vs→Qhn L L'→qbn w I lp (some L') xs vs
 | .nil,_=>.nil
 | .cons x v xs vs h hs,e=>.cons x v xs vs (h.ge e) (hs.ge e)
end
theorem qha.ge {L L':Loc} {ob:Ob} {p:Option (Nat×Nat)} (h:qha w I lp L ob p) (e:Qhn L L'):qha w I lp L' ob p:=by
 cases p with
 | none=>exact h
 | some p =>
  cases ob with
  | cells ty cs=>obtain⟨c,E,h1,h2,h4,h3⟩:=h;exact⟨c,E,h1,h2,h4,h3.ge e⟩
  | arr k kt xs=>exact h
  | map es=>exact h
  | siter s pos=>exact h
theorem qbn.of_get {L:Option Loc}:∀ {xs:List PV} {vs:List Value},xs.length=vs.length→(∀ (i:Nat) (x:PV) (v:Value),xs[i]?=some x→vs[i]?=some v→qbr w I lp L x v)→qbn w I lp L xs vs:=by
 intro xs
 induction xs with
 | nil=>intro vs h _;cases vs with | nil=>exact .nil | cons v vs=>simp at h
 | cons x xs ih =>
  intro vs h hg
  cases vs with
  | nil=>simp at h
  | cons v vs=>exact .cons _ _ _ _ (hg 0 x v rfl rfl) (ih (by simpa using h) fun i y u hy hu=>hg (i+1) y u (by simpa using hy) (by simpa using hu))
end
theorem qn7:∀ {l:List Nm} {x:Nm},x∈qcc l↔x∈l:=by
 intro l
 induction l with
 | nil=>intro x;simp[qcc]
 | cons y l ih =>
  intro x
  simp only[qcc]
  split
  ·rename_i h
   have hy:y∈l:=by simpa using h
   rw[ih,List.mem_cons]
   exact⟨.inr,fun h=>h.elim (fun e=>e ▸ hy) id⟩
  ·rw[List.mem_cons,List.mem_cons,ih]
theorem Qbc:∀ {l:List Nm} (i j:Nat) (x:Nm),(qcc l)[i]?=some x→(qcc l)[j]?=some x→i=j:=by
 intro l
 induction l with
 | nil=>intro i j x h;simp[qcc] at h
 | cons y l ih =>
  intro i j x hi hj
  simp only[qcc] at hi hj
  split at hi
  ·rename_i h
   rw[if_pos h] at hj
   exact ih i j x hi hj
  ·rename_i h
   rw[if_neg h] at hj
   have hy:y ∉ qcc l:=fun hm=>h (by simpa using qn7.1 hm)
   cases i with
   | zero =>
    cases j with
    | zero=>rfl
    | succ j=>simp at hi hj;subst hi;exact absurd (List.mem_of_getElem? hj) hy
   | succ i =>
    cases j with
    | zero=>simp at hi hj;subst hj;exact absurd (List.mem_of_getElem? hi) hy
    | succ j=>simp at hi hj;rw[ih i j x hi hj]
theorem Qj0 {l:List Nm} {x:Nm} (h:x∈l):l[l.idxOf x]?=some x:=by
 have hidx:=List.idxOf_lt_length_of_mem h
 rw[List.getElem?_eq_getElem hidx];simp
theorem qwo:∀ {B:List (Nm×Nm)} {s t:Nm},qff (B.map (·.1))=true→(s,t)∈B→B.lookup s=some t:=by
 intro B
 induction B with
 | nil=>intro s t _ h;cases h
 | cons p B ih =>
  obtain⟨a,b⟩:=p
  intro s t hn h
  simp only[List.map_cons,qff,Bool.and_eq_true,Bool.not_eq_true'] at hn
  rcases List.mem_cons.1 h with h2 | h2
  ·cases h2;simp
  ·have hne:s≠a:=by
    rintro rfl
    have:(B.map (·.1)).contains s=true:=by rw[List.contains_iff_mem];exact List.mem_map.2 ⟨(s,t),h2,rfl⟩
    rw[this] at hn;cases hn.1
   have hb:(s==a)=false:=by simpa using hne
   rw[List.lookup_cons,hb]
   exact ih hn.2 h2
theorem qz5 {B:List (Nm×Nm)} (hn:qff (B.map (·.1))=true) {s t t':Nm} (h:(s,t)∈B) (h':(s,t')∈B):t=t':=by
 have:=(qwo hn h).symm.trans (qwo hn h')
 exact Option.some.inj this
theorem qjz:∀ (l:List (Nm×Ob)) (objs:List (List Ob)) (t:Nm),(∀ p∈l,∃ o,qbf objs p.1=some o) →
  (∀ o,(∀ o',(t,o')∈l→o'=o)→(t,o)∈l→qbf (qdr l objs) t=some o)∧((∀ o,(t,o) ∉ l)→qbf (qdr l objs) t=qbf objs t):=by
 intro l
 induction l with
 | nil=>intro objs t _;exact⟨fun o _ h=>(by cases h),fun _=>rfl⟩
 | cons p l ih =>
  obtain⟨nm,ob⟩:=p
  intro objs t hx
  have hx':∀ p∈l,∃ o,qbf (qb9 objs nm ob) p.1=some o:=by
   intro p hp
   cases hl:qbf (qb9 objs nm ob) p.1 with
   | some o=>exact⟨o,rfl⟩
   | none =>
    obtain⟨o,ho⟩:=hx p (List.mem_cons_of_mem _ hp)
    rw[qdt] at hl
    rw[ho] at hl;cases hl
  obtain⟨i1,i2⟩:=ih (qb9 objs nm ob) t hx'
  refine⟨fun o hu ho=>?_,fun hno=>?_⟩
  ·by_cases hl:∃ o',(t,o')∈l
   ·obtain⟨o',ho'⟩:=hl
    have:=hu o' (List.mem_cons_of_mem _ ho')
    subst this
    exact i1 o' (fun o2 h2=>hu o2 (List.mem_cons_of_mem _ h2)) ho'
   ·have hnl:∀ o',(t,o') ∉ l:=fun o' h=>hl ⟨o',h⟩
    rcases List.mem_cons.1 ho with he | he
    ·have e1:t=nm:=congrArg Prod.fst he
     have e2:o=ob:=congrArg Prod.snd he
     subst e1;subst e2
     obtain⟨o0,h0⟩:=hx (t,o) List.mem_cons_self
     have:=i2 hnl
     exact this.trans (qds o h0)
    ·exact absurd he (hnl o)
  ·have hne:t≠nm:=by rintro rfl;exact hno ob List.mem_cons_self
   show qbf (qdr l (qb9 objs nm ob)) t=qbf objs t
   rw[i2 fun o h=>hno o (List.mem_cons_of_mem _ h),qce ob hne]
noncomputable def qfq (L L':Loc) (B:List (Nm×Nm)):Loc:=fun t =>
 open Classical in if h:∃ s,(s,t)∈B then some ((L' h.choose).getD none) else L t
theorem qmh {L L':Loc} {B:List (Nm×Nm)} (hU:∀ s s' t,(s,t)∈B→(s',t)∈B→s=s') {s t:Nm} (h:(s,t)∈B):qfq L L' B t=some ((L' s).getD none):=by
 unfold qfq
 have hx:∃ s,(s,t)∈B:=⟨s,h⟩
 rw[dif_pos hx,hU _ _ t hx.choose_spec h]
theorem qwp {L L':Loc} {B:List (Nm×Nm)} {t:Nm} (h:∀ s,(s,t) ∉ B):qfq L L' B t=L t:=by
 unfold qfq
 rw[dif_neg fun ⟨s,hs⟩=>h s hs]
def qj9 (B:List (Nm×Nm)) (m:Nm):Option (Option Ob):=if (B.map (·.1)).contains m then none else some none
def qfv (B:List (Nm×Nm)) (m:Nm):Nm:=(B.lookup m).getD m
theorem mem_first {B:List (Nm×Nm)} {m:Nm}:(B.map (·.1)).contains m=true↔∃ t,(m,t)∈B:=by
 rw[List.contains_iff_mem,List.mem_map]
 constructor
 ·rintro ⟨⟨a,b⟩,h1,rfl⟩;exact⟨b,h1⟩
 ·rintro ⟨t,h⟩;exact⟨(m,t),h,rfl⟩
section take
variable {w:World} {I:Nat→Prop} {lp:Nat→Option Nat} {L L':Loc} {B:List (Nm×Nm)}
theorem cut_ok (hn:qff (B.map (·.1))=true) (hU:∀ s s' t,(s,t)∈B→(s',t)∈B→s=s'):qko w I lp L' (some fun m=>if (B.map (·.1)).contains m then L' m else none) (fun _=>True) (qj9 B):=by
 intro nm p _ hp
 by_cases h:(B.map (·.1)).contains nm=true
 ·simp only[qj9,h,if_true];exact⟨_,rfl,by simp only[h,if_true];exact hp⟩
 ·simp only[qj9,h];trivial
theorem name_ok (hn:qff (B.map (·.1))=true) (hU:∀ s s' t,(s,t)∈B→(s',t)∈B→s=s') (nm:Nm) (p:Option (Nat×Nat)) (hp:(fun m=>if (B.map (·.1)).contains m then L' m else none) nm=some p):qfq L L' B (qfv B nm)=some p:=by
 simp only at hp
 split at hp
 ·rename_i h
  obtain⟨t,ht⟩:=mem_first.1 h
  have hl:qfv B nm=t:=by unfold qfv;rw[qwo hn ht];rfl
  rw[hl,qmh hU ht,hp];rfl
 ·cases hp
theorem take_val (hn:qff (B.map (·.1))=true) (hU:∀ s s' t,(s,t)∈B→(s',t)∈B→s=s') {x:PV} {v:Value} (h:qbr w I lp (some L') x v):qbr w I lp (some (qfq L L' B)) ((x.sub (qj9 B)).ren (qfv B)) v :=
 qbr.rename (name_ok hn hU) (qbr.subst (fun _ h=>h) (cut_ok hn hU) h fun _ _=>trivial)
theorem take_ob (hn:qff (B.map (·.1))=true) (hU:∀ s s' t,(s,t)∈B→(s',t)∈B→s=s') {ob:Ob} {p:Option (Nat×Nat)} (h:qha w I lp L' ob p):qha w I lp (qfq L L' B) ((ob.sub (qj9 B)).ren (qfv B)) p :=
 qha.ren (qha.subst h (fun _ h=>h) (fun _ _=>rfl) (cut_ok hn hU) (fun _ _=>trivial) fun _ _ _=>rfl) (name_ok hn hU)
end take
def putP (tm:List PV) (dst:Option Nat) (v:PV):List PV :=
 match dst with
 | some d=>tm.set d v
 | none=>tm
section done
variable {E:Type} {cx:Cx} {w0:World} {I0 F0:Nat→Prop} {O0:Own} {Hd:Nat→Option Obj} {RE:qkj E} {e:E} {ds:List Deferred} {I F I':Nat→Prop} {lp lp':Nat→Option Nat} {L L':Loc} {st st2:St} {tmv tmv2 suf wv:List Value} {w w2:World}
theorem io_taken {d0 i0:Nat} {sl dst:Option Nat} {R N:List Nm} {aN:Nat→Nm} {gone:List Nm} {v0:PV} {v:Value}
  (hs:SR lp I L st tmv suf w) (hf:Fr cx w0 I0 F0 O0 Hd RE e ds I F L w) (hlp:lpLe lp' lp)
  (hd:∀ d,dst=some d→st.objs[d]?=some []∧(sl=none→d=d0)) (hsl:∀ r,sl=some r→r=d0) (hlen:N≠[]→∃ l,st.objs[d0]?=some l∧l.length=i0) (hnew:sl=none→dst=none→N=[])
  (hR:∀ nm∈R,∃ p,L nm=some p) (hRn:∀ (i j:Nat) nm,R[i]?=some nm→R[j]?=some nm→i=j)
  (hs2:SR lp' I' L' st2 tmv2 wv w2) (hv:qbr w2 I' lp' (some L') v0 v)
  (x1:w2.os=w.os) (x2:w2.tape=w.tape) (x3:w2.output=w.output) (x4:w.heap.size≤w2.heap.size)
  (x5:∀ b,b < w.heap.size→(∀ nm C,nm∈R→L nm≠some (some (b,C)))→w2.heap[b]?=w.heap[b]?) (x6:∀ b,I b→I' b)
  (x7:∀ b,I' b→I b∨(b < w2.heap.size∧(w.heap.size≤b∨∃ nm C,nm∈R∧L nm=some (some (b,C)))))
  (x8:∀ nm b C,L' nm=some (some (b,C))→b < w2.heap.size∧¬ I' b∧(w.heap.size≤b∨∃ nm' C',nm'∈R∧L nm'=some (some (b,C'))))
  (x9:∀ nm nm' b C C',L' nm=some (some (b,C))→L' nm'=some (some (b,C'))→nm=nm')
  (hB:qff (((R.zipIdx.map fun p=>(aN p.2,p.1))++N.zipIdx.map fun p=>(p.1,(d0,i0+p.2))).map (·.1))=true)
  (hge:∀ (j:Nat) nm,R[j]?=some nm→nm ∉ gone→∀ p,L nm=some p→∃ p',L' (aN j)=some p'∧GeP p p') {B:List (Nm×Nm)} (hBd:B=(R.zipIdx.map fun p=>(aN p.2,p.1))++N.zipIdx.map fun p=>(p.1,(d0,i0+p.2))) :
  SR lp I' (qfq L L' B) (apply st dst {v:=(v0.sub (qj9 B)).ren (qfv B),new:=N.map fun m=>(((qbf st2.objs m).getD qd5).sub (qj9 B)).ren (qfv B),ups:=(R.zipIdx.map fun p=>(p.1,(((qbf st2.objs (aN p.2)).getD qd5).sub (qj9 B)).ren (qfv B))),gone:=gone,io:=true,slot:=sl}) (Qjb tmv dst v) suf w2 ∧
   Fr cx w0 I0 F0 O0 Hd RE e ds I' F (qfq L L' B) w2:=by
 rw[←hBd] at hB
 have memB:∀ s t,(s,t)∈B↔(∃ j:Nat,R[j]?=some t∧s=aN j)∨(∃ i:Nat,N[i]?=some s∧t=(d0,i0+i)):=by
  intro s t
  rw[hBd,List.mem_append,List.mem_map,List.mem_map]
  constructor
  ·rintro (⟨⟨a,j⟩,h1,h2⟩ | ⟨⟨a,i⟩,h1,h2⟩)
   ·cases h2
    exact .inl ⟨j,(List.mem_zipIdx_iff_getElem?.1 h1),rfl⟩
   ·cases h2
    exact .inr ⟨i,(List.mem_zipIdx_iff_getElem?.1 h1),rfl⟩
  ·rintro (⟨j,h1,rfl⟩ | ⟨i,h1,rfl⟩)
   ·exact .inl ⟨(t,j),List.mem_zipIdx_iff_getElem?.2 h1,rfl⟩
   ·exact .inr ⟨(s,i),List.mem_zipIdx_iff_getElem?.2 h1,rfl⟩
 have hslot:∀ i:Nat,(∃ s,N[i]?=some s)→L (d0,i0+i)=none:=by
  rintro i ⟨s,hs'⟩
  obtain⟨l,h1,h2⟩:=hlen fun h=>by rw[h] at hs';simp at hs'
  refine hs.dom _ ?_
  unfold qbf
  rw[h1]
  exact List.getElem?_eq_none_iff.2 (by simp only;omega)
 have hRL:∀ (j:Nat) t,R[j]?=some t→∃ p,L t=some p:=fun j t h=>hR t (List.mem_of_getElem? h)
 have hU:∀ s s' t,(s,t)∈B→(s',t)∈B→s=s':=by
  intro s s' t h h'
  rcases (memB s t).1 h with ⟨j,h1,rfl⟩ | ⟨i,h1,rfl⟩<;>rcases (memB s' _).1 h' with ⟨j',h2,rfl⟩ | ⟨i',h2,h3⟩
  ·rw[hRn j j' t h1 h2]
  ·obtain⟨p,hp⟩:=hRL j t h1
   rw[h3,hslot i' ⟨_,h2⟩] at hp;cases hp
  ·obtain⟨p,hp⟩:=hRL j' _ h2
   rw[hslot i ⟨_,h1⟩] at hp;cases hp
  ·have h4:i0+i=i0+i':=congrArg Prod.snd h3
   have:i=i':=by omega
   subst this
   exact Option.some.inj (h1.symm.trans h2)
 have hin:∀ s t,(s,t)∈B→qfq L L' B t=some ((L' s).getD none):=fun s t h=>qmh hU h
 have hout:∀ t,(∀ s,(s,t) ∉ B)→qfq L L' B t=L t:=fun t h=>qwp h
 have hfr:Fr cx w0 I0 F0 O0 Hd RE e ds I' F (qfq L L' B) w2:=by
  have hsrc:∀ t b C,qfq L L' B t=some (some (b,C))→(∃ s,(s,t)∈B∧L' s=some (some (b,C)))∨((∀ s,(s,t) ∉ B)∧L t=some (some (b,C))):=by
   intro t b C h
   by_cases hx:∃ s,(s,t)∈B
   ·obtain⟨s,hst⟩:=hx
    rw[hin s t hst] at h
    refine .inl ⟨s,hst,?_⟩
    cases hl:L' s with
    | none=>rw[hl] at h;simp at h
    | some p=>rw[hl] at h;simpa using h
   ·have hx':∀ s,(s,t) ∉ B:=fun s h=>hx ⟨s,h⟩
    rw[hout t hx'] at h
    exact .inr ⟨hx',h⟩
  have hnotR:∀ t,(∀ s,(s,t) ∉ B)→t ∉ R:=by
   intro t h hm
   obtain⟨j,hj,hget⟩:=List.getElem_of_mem hm
   exact h (aN j) ((memB _ _).2 (.inl ⟨j,by rw[List.getElem?_eq_getElem hj,hget],rfl⟩))
  refine hf.own x1 x2 x3 x4 (fun b hb hn=>x5 b hb fun nm C _=>hn nm C) x6 (fun b hb=>(x7 b hb).imp id fun h=>⟨h.1,h.2.imp id fun ⟨nm,C,_,h⟩=>⟨nm,C,h⟩⟩) (fun t b C ht=>?_) (fun t t' b C C' ht ht'=>?_)
  ·rcases hsrc t b C ht with ⟨s,_,h⟩ | ⟨hx,h⟩
   ·obtain⟨g1,g2,g3⟩:=x8 s b C h
    exact⟨g1,g2,g3.imp id fun ⟨nm,C,_,h⟩=>⟨nm,C,h⟩⟩
   ·obtain⟨g1,g2,g3,g4⟩:=hf.lB t b C h
    refine⟨by omega,fun hi=>?_,.inr ⟨t,C,h⟩⟩
    rcases x7 b hi with h1 | ⟨_,h1 | ⟨nm,C',h1,h2⟩⟩
    ·exact g3 h1
    ·omega
    ·have:=hf.inj t nm b C C' h h2
     subst this
     exact hnotR t hx h1
  ·rcases hsrc t b C ht with ⟨s,hb,h⟩ | ⟨hx,h⟩<;>rcases hsrc t' b C' ht' with ⟨s',hb',h'⟩ | ⟨hx',h'⟩
   ·have:=x9 s s' b C C' h h'
    subst this
    exact qz5 hB hb hb'
   ·obtain⟨_,_,g3⟩:=x8 s b C h
    rcases g3 with g3 | ⟨nm,C2,g3,g4⟩
    ·have:=(hf.lB t' b C' h').2.1;omega
    ·have:=hf.inj t' nm b C' C2 h' g4
     subst this
     exact absurd g3 (hnotR t' hx')
   ·obtain⟨_,_,g3⟩:=x8 s' b C' h'
    rcases g3 with g3 | ⟨nm,C2,g3,g4⟩
    ·have:=(hf.lB t b C h).2.1;omega
    ·have:=hf.inj t nm b C C2 h g4
     subst this
     exact absurd g3 (hnotR t hx)
   ·exact hf.inj t t' b C C' h h'
 refine⟨?_,hfr⟩
 have hIk:∀ b,I b→w2.heap[b]?=w.heap[b]?:=fun b hb=>x5 b (hf.sep.iB b hb) fun nm C _ hn=>(hf.lB nm b C hn).2.2.1 hb
 let L1:Loc:=fun t=>if t∈R∧t ∉ gone then qfq L L' B t else L t
 have hnB:∀ t,t ∉ R→∀ p,L t=some p→∀ s,(s,t) ∉ B:=by
  intro t ht p hp s h
  rcases (memB s t).1 h with ⟨j,h1,rfl⟩ | ⟨i,h1,rfl⟩
  ·exact ht (List.mem_of_getElem? h1)
  ·rw[hslot i ⟨_,h1⟩] at hp;cases hp
 have hge1:Qhn L L1:=by
  intro t p hp
  by_cases ht:t∈R∧t ∉ gone
  ·obtain⟨j,hj,hget⟩:=List.getElem_of_mem ht.1
   have hj':R[j]?=some t:=by rw[List.getElem?_eq_getElem hj,hget]
   obtain⟨p',h1,h2⟩:=hge j t hj' ht.2 p hp
   refine⟨p',?_,h2⟩
   simp only[L1,ht,not_false_eq_true,and_self,if_true]
   rw[hin (aN j) t ((memB _ _).2 (.inl ⟨j,hj',rfl⟩)),h1];rfl
  ·exact⟨p,by simp only[L1,ht,if_false];exact hp,GeP.refl p⟩
 let f1:Nm→Option (Option Ob):=fun m=>if gone.contains m then some none else none
 have hsub1:qko w2 I' lp L1 (some (qfq L L' B)) (fun _=>True) f1:=by
  intro t p _ hp
  by_cases hg:gone.contains t=true
  ·simp only[f1,hg,if_true]
  ·simp only[f1,hg]
   refine⟨_,rfl,?_⟩
   have hg':t ∉ gone:=by simpa using hg
   by_cases ht:t∈R
   ·have:t∈R∧t ∉ gone:=⟨ht,hg'⟩
    simpa only [L1,this,not_false_eq_true,and_self,if_true] using hp
   ·have:¬ (t∈R∧t ∉ gone):=fun h=>ht h.1
    simp only[L1,this,if_false] at hp
    rw[hout t (hnB t ht p hp)];exact hp
 have htm:qbn w2 I' lp (some (qfq L L' B)) (qdy f1 st.tmps) tmv:=qbn.subst (fun _ h=>h) hsub1 ((qbn.mono x6 hIk (fun _ _ h=>h) hs.tm).ge hge1) fun _ _=>trivial
 have hkp:qbn w2 I' lp (some (qfq L L' B)) (qdy f1 st.keep) suf:=qbn.subst (fun _ h=>h) hsub1 ((qbn.mono x6 hIk (fun _ _ h=>h) hs.kp).ge hge1) fun _ _=>trivial
 generalize hups:(R.zipIdx.map fun p=>(p.1,(((qbf st2.objs (aN p.2)).getD qd5).sub (qj9 B)).ren (qfv B)))=ups
 have memU:∀ t o,(t,o)∈ups↔∃ j:Nat,R[j]?=some t∧o=(((qbf st2.objs (aN j)).getD qd5).sub (qj9 B)).ren (qfv B):=by
  intro t o
  rw[←hups,List.mem_map]
  constructor
  ·rintro ⟨⟨a,j⟩,h1,h2⟩
   cases h2
   exact⟨j,List.mem_zipIdx_iff_getElem?.1 h1,rfl⟩
  ·rintro ⟨j,h1,rfl⟩
   exact⟨(t,j),List.mem_zipIdx_iff_getElem?.2 h1,rfl⟩
 have hdead:∀ f g,(qd5.sub f).ren g=qd5:=fun f g=>rfl
 have hobj:∀ s t,(s,t)∈B→∃ p,qfq L L' B t=some p∧qha w2 I' lp (qfq L L' B) ((((qbf st2.objs s).getD qd5).sub (qj9 B)).ren (qfv B)) p:=by
  intro s t hst
  refine⟨_,hin s t hst,?_⟩
  cases hl:qbf st2.objs s with
  | none =>
   rw[hs2.dom s hl]
   simp only[Option.getD_none,hdead]
   exact⟨0,0,rfl⟩
  | some ob =>
   obtain⟨p,hp,ha⟩:=hs2.ob s ob hl
   rw[hp]
   simp only[Option.getD_some]
   exact take_ob hB hU (ha.mono (fun _ h=>h) (fun _ _=>rfl) hlp fun _ _ _=>rfl)
 have hlook0:∀ t,qbf (st.objs.map (·.map (Ob.sub f1))) t=(qbf st.objs t).map (Ob.sub f1):=fun t=>qde _ _ t
 have hpres:∀ p∈ups,∃ o,qbf (st.objs.map (·.map (Ob.sub f1))) p.1=some o:=by
  rintro ⟨t,o⟩ hp
  obtain⟨j,hj,_⟩:=(memU t o).1 hp
  obtain⟨p,hL⟩:=hRL j t hj
  obtain⟨ob,hob,_⟩:=hs.some_of_loc hL
  exact⟨_,by rw[hlook0,hob];rfl⟩
 have hlu:∀ t,((∃ j:Nat,R[j]?=some t)→∃ s,(s,t)∈B∧qbf (qdr ups (st.objs.map (·.map (Ob.sub f1)))) t=some ((((qbf st2.objs s).getD qd5).sub (qj9 B)).ren (qfv B))) ∧
   ((∀ j:Nat,R[j]?≠some t)→qbf (qdr ups (st.objs.map (·.map (Ob.sub f1)))) t=(qbf st.objs t).map (Ob.sub f1)):=by
  intro t
  obtain⟨h1,h2⟩:=qjz ups (st.objs.map (·.map (Ob.sub f1))) t hpres
  refine⟨?_,fun hno=>?_⟩
  ·rintro ⟨j,hj⟩
   refine⟨aN j,(memB _ _).2 (.inl ⟨j,hj,rfl⟩),h1 _ (fun o' ho'=>?_) ((memU _ _).2 ⟨j,hj,rfl⟩)⟩
   obtain⟨j',hj',rfl⟩:=(memU _ _).1 ho'
   rw[hRn j j' t hj hj']
  ·rw[h2 fun o ho=>by obtain⟨j,hj,_⟩:=(memU _ _).1 ho;exact hno j hj,hlook0]
 have hother:∀ t ob,(∀ s,(s,t) ∉ B)→qbf st.objs t=some ob→∃ p,qfq L L' B t=some p∧qha w2 I' lp (qfq L L' B) (ob.sub f1) p:=by
  intro t ob hx hl
  obtain⟨p,hp,ha⟩:=hs.ob t ob hl
  refine⟨p,by rw[hout t hx];exact hp,?_⟩
  have ha2:qha w2 I' lp L ob p:=ha.mono x6 hIk (fun _ _ h=>h) fun b C hpb=>by
   subst hpb
   refine x5 b (hf.lB t b C hp).2.1 fun nm C' hm hn=>?_
   have:=hf.inj t nm b C C' hp hn
   subst this
   obtain⟨j,hj,hget⟩:=List.getElem_of_mem hm
   exact hx (aN j) ((memB _ _).2 (.inl ⟨j,by rw[List.getElem?_eq_getElem hj,hget],rfl⟩))
  exact qha.subst (ha2.ge hge1) (fun _ h=>h) (fun _ _=>rfl) hsub1 (fun _ _=>trivial) fun _ _ _=>rfl
 have hlens:∀ (l:List (Nm×Ob)) (objs:List (List Ob)) (d:Nat),(qdr l objs).length=objs.length∧∀ x,objs[d]?=some x→∃ y,(qdr l objs)[d]?=some y∧y.length=x.length:=by
  intro l
  induction l with
  | nil=>intro objs d;exact⟨rfl,fun x h=>⟨x,h,rfl⟩⟩
  | cons p l ih =>
   obtain⟨nm,o⟩:=p
   intro objs d
   obtain⟨q1,q2⟩:=ih (qb9 objs nm o) d
   have hp:(qb9 objs nm o).length=objs.length:=by unfold qb9;split<;>simp
   refine⟨q1.trans hp,fun x hx=>?_⟩
   have:∃ y,(qb9 objs nm o)[d]?=some y∧y.length=x.length:=by
    unfold qb9
    split
    ·rename_i l' hl'
     by_cases hnd:nm.1=d
     ·subst hnd
      rw[hx] at hl';cases hl'
      exact⟨_,List.getElem?_set_self (List.getElem?_eq_some_iff.1 hx).1,by simp⟩
     ·exact⟨x,by rw[List.getElem?_set_ne hnd];exact hx,rfl⟩
    ·exact⟨x,hx,rfl⟩
   obtain⟨y,h1,h2⟩:=this
   obtain⟨z,h3,h4⟩:=q2 y h1
   exact⟨z,h3,h4.trans h2⟩
 generalize hXd:qdr ups (st.objs.map (·.map (Ob.sub f1)))=X at hlu
 have hX1:X.length=st.objs.length:=by rw[←hXd,(hlens ups _ 0).1,List.length_map]
 have hX2:∀ (d:Nat) (l:List Ob),st.objs[d]?=some l→∃ l',X[d]?=some l'∧l'.length=l.length:=by
  intro d l h
  obtain⟨y,h1,h2⟩:=(hlens ups (st.objs.map (·.map (Ob.sub f1))) d).2 (l.map (Ob.sub f1)) (by rw[List.getElem?_map,h];rfl)
  exact⟨y,by rw[←hXd];exact h1,by rw[h2,List.length_map]⟩
 generalize hnews:(N.map fun m=>(((qbf st2.objs m).getD qd5).sub (qj9 B)).ren (qfv B))=news
 have hnn:news.length=N.length:=by rw[←hnews,List.length_map]
 have hset:∀ (X:List (List Ob)) (d:Nat),X.set d (X.getD d []++[])=X:=by
  intro X d
  rw[List.append_nil]
  apply List.ext_getElem?
  intro i
  by_cases hi:i=d
  ·subst hi
   by_cases hlt:i < X.length
   ·rw[List.getElem?_set_self hlt,List.getD_eq_getElem?_getD,List.getElem?_eq_getElem hlt];rfl
   ·rw[List.getElem?_eq_none_iff.2 (by simpa using hlt),List.getElem?_eq_none_iff.2 (by simpa using hlt)]
  ·rw[List.getElem?_set_ne (Ne.symm hi)]
 have hst:apply st dst {v:=(v0.sub (qj9 B)).ren (qfv B),new:=news,ups:=ups,gone:=gone,io:=true,slot:=sl} =
   {tmps:=putP (qdy f1 st.tmps) dst ((v0.sub (qj9 B)).ren (qfv B)),objs:=X.set d0 (X.getD d0 []++news),keep:=qdy f1 st.keep}:=by
  have e1:(if gone.isEmpty=true then st else qhf f1 st)={tmps:=qdy f1 st.tmps,objs:=st.objs.map (·.map (Ob.sub f1)),keep:=qdy f1 st.keep}:=by
   split
   ·rename_i hg
    have hg':f1=fun _=>none:=by funext m;simp only[f1];rw[List.isEmpty_iff.1 hg];rfl
    rw[hg',subL_id,subL_id]
    have:(fun l:List Ob=>l.map (Ob.sub fun _=>none))=id:=by
     funext l
     rw[show (Ob.sub fun _=>none)=id from funext Ob.sub_id,List.map_id];rfl
    rw[this,List.map_id]
   ·rfl
  have e2:∀ s:St,(if ups.isEmpty=true then s else {s with objs:=qdr ups s.objs})={s with objs:=qdr ups s.objs}:=by
   intro s
   split
   ·rename_i hu
    rw[List.isEmpty_iff.1 hu];rfl
   ·rfl
  unfold apply
  simp only[List.isEmpty_nil,if_true]
  rw[e1,e2]
  simp only[hXd]
  cases sl with
  | some r =>
   have:=hsl r rfl
   subst this
   cases dst with
   | none=>rfl
   | some d=>rfl
  | none =>
   cases hdst:dst with
   | none =>
    have hN:=hnew rfl hdst
    have:news=[]:=by rw[←hnews,hN];rfl
    rw[this,hset]
    rfl
   | some d =>
    obtain⟨hcl,h0⟩:=hd d hdst
    have h0:=h0 rfl
    subst h0
    simp only[Option.isSome_none,Bool.false_or]
    obtain⟨l',h1,h2⟩:=hX2 d [] hcl
    have h3:l'=[]:=List.length_eq_zero_iff.1 h2
    subst h3
    cases hn0:news with
    | nil=>simp only[List.isEmpty_nil,if_true,hset];rfl
    | cons n ns =>
     have:X.getD d []=[]:=by rw[List.getD_eq_getElem?_getD,h1];rfl
     simp only[List.isEmpty_cons,Bool.false_eq_true,if_false,this,List.nil_append];rfl
 have key1:∀ (i:Nat) s,N[i]?=some s→qbf (X.set d0 (X.getD d0 []++news)) (d0,i0+i)=some ((((qbf st2.objs s).getD qd5).sub (qj9 B)).ren (qfv B)):=by
  intro i s hi
  obtain⟨l,h1,h2⟩:=hlen fun h=>by rw[h] at hi;simp at hi
  obtain⟨l',h3,h4⟩:=hX2 d0 l h1
  have hlt:d0 < X.length:=(List.getElem?_eq_some_iff.1 h3).1
  rw[qb0 _ hlt,List.getD_eq_getElem?_getD,h3]
  simp only[Option.getD_some]
  rw[List.getElem?_append_right (by omega),show i0+i - l'.length=i by omega,←hnews,List.getElem?_map,hi]
  rfl
 have key2:∀ t:Nm,(∀ (i:Nat) s,N[i]?=some s→t≠(d0,i0+i))→qbf (X.set d0 (X.getD d0 []++news)) t=qbf X t:=by
  intro t ht
  by_cases h1:t.1=d0
  ·obtain⟨a,j⟩:=t
   simp only at h1;subst h1
   by_cases hN:N=[]
   ·have:news=[]:=by rw[←hnews,hN];rfl
    rw[this,hset]
   ·obtain⟨l,g1,g2⟩:=hlen hN
    obtain⟨l',h3,h4⟩:=hX2 a l g1
    have hlt:a < X.length:=(List.getElem?_eq_some_iff.1 h3).1
    rw[qb0 _ hlt,List.getD_eq_getElem?_getD,h3]
    simp only[Option.getD_some]
    have hX:qbf X (a,j)=l'[j]?:=by unfold qbf;rw[h3]
    rw[hX]
    by_cases hj:j < l'.length
    ·rw[List.getElem?_append_left hj]
    ·rw[List.getElem?_append_right (by omega),List.getElem?_eq_none_iff.2 (by omega:l'.length≤j)]
     refine List.getElem?_eq_none_iff.2 ?_
     apply Classical.byContradiction
     intro hlt2
     have hlt3:j - l'.length < N.length:=by omega
     exact ht (j - l'.length) _ (List.getElem?_eq_getElem hlt3) (by rw[show i0+(j - l'.length)=j by omega])
  ·rw[qbw _ h1]
 rw[hst]
 have hnotB:∀ t:Nm,(∀ (i:Nat) s,N[i]?=some s→t≠(d0,i0+i))→(¬ ∃ j:Nat,R[j]?=some t)→∀ s,(s,t) ∉ B:=by
  intro t ht hj s h
  rcases (memB s t).1 h with ⟨j,h1,_⟩ | ⟨i,h1,h2⟩
  ·exact hj ⟨j,h1⟩
  ·exact ht i s h1 h2
 have htmf:qbn w2 I' lp (some (qfq L L' B)) (putP (qdy f1 st.tmps) dst ((v0.sub (qj9 B)).ren (qfv B))) (Qjb tmv dst v):=by
  cases dst with
  | none=>exact htm
  | some d=>exact htm.set d (take_val hB hU (qbr.mono (fun _ h=>h) (fun _ _=>rfl) hlp hv))
 refine⟨htmf,hkp,fun t ob hl=>?_,fun t hl=>?_⟩
 ·simp only at hl
  by_cases ht:∃ (i:Nat) (s:Nm),N[i]?=some s∧t=(d0,i0+i)
  ·obtain⟨i,s,h1,rfl⟩:=ht
   rw[key1 i s h1] at hl;cases hl
   exact hobj s _ ((memB _ _).2 (.inr ⟨i,h1,rfl⟩))
  ·have ht':∀ (i:Nat) s,N[i]?=some s→t≠(d0,i0+i):=fun i s h1 h2=>ht ⟨i,s,h1,h2⟩
   rw[key2 t ht'] at hl
   by_cases hj:∃ j:Nat,R[j]?=some t
   ·obtain⟨s,h1,h2⟩:=(hlu t).1 hj
    rw[h2] at hl;cases hl
    exact hobj s t h1
   ·rw[(hlu t).2 fun j h=>hj ⟨j,h⟩] at hl
    obtain⟨ob0,h0,rfl⟩:=Option.map_eq_some_iff.1 hl
    exact hother t ob0 (hnotB t ht' hj) h0
 ·simp only at hl
  by_cases ht:∃ (i:Nat) (s:Nm),N[i]?=some s∧t=(d0,i0+i)
  ·obtain⟨i,s,h1,rfl⟩:=ht
   rw[key1 i s h1] at hl;cases hl
  ·have ht':∀ (i:Nat) s,N[i]?=some s→t≠(d0,i0+i):=fun i s h1 h2=>ht ⟨i,s,h1,h2⟩
   rw[key2 t ht'] at hl
   by_cases hj:∃ j:Nat,R[j]?=some t
   ·obtain⟨s,h1,h2⟩:=(hlu t).1 hj
    rw[h2] at hl;cases hl
   ·rw[(hlu t).2 fun j h=>hj ⟨j,h⟩] at hl
    rw[hout t (hnotB t ht' hj)]
    exact hs.dom t (by simpa using hl)
end done
theorem qpg {sl:Option Nat} {d0 i0:Nat} {R:List Nm} {st:St} {v:PV} {out:Out} (h:qra sl d0 i0 R st v=some out) :
  ∃ (N:List Nm) (B:List (Nm×Nm)),B=(R.zipIdx.map fun p=>((qhu (st.keep.getD p.2 .undef)).getD (0,p.2),p.1))++N.zipIdx.map (fun p=>(p.1,(d0,i0+p.2)))∧qff (B.map (·.1))=true ∧
   out={v:=(v.sub (qj9 B)).ren (qfv B),new:=N.map fun m=>(((qbf st.objs m).getD qd5).sub (qj9 B)).ren (qfv B),ups:=(R.zipIdx.map fun p=>(p.1,(((qbf st.objs ((qhu (st.keep.getD p.2 .undef)).getD (0,p.2))).getD qd5).sub (qj9 B)).ren (qfv B))),gone:=qps R st.keep,io:=true,slot:=sl}:=by
 unfold qra at h
 obtain⟨h1,h2⟩:=qbh h
 refine⟨_,_,rfl,h1,?_⟩
 cases h2
 simp only[qgd,List.map_map]
 rfl
theorem qyz {objs:List (List Ob)} {d i0 j:Nat} {o:Ob} (hj:qbf objs (d,j)=some o) (h:qm4 (qbf objs) d=some i0):∃ l,objs[d]?=some l∧l.length=i0:=by
 unfold qm4 at h
 rw[List.find?_eq_some_iff_append] at h
 obtain⟨h1,as,bs,h2,h3⟩:=h
 cases hl:objs[d]? with
 | none=>unfold qbf at hj;simp only[hl] at hj;cases hj
 | some l =>
  have hlook:∀ j,qbf objs (d,j)=l[j]?:=fun j=>by unfold qbf;simp only[hl]
  refine⟨l,rfl,?_⟩
  have hle:l.length≤i0:=by
   rw[hlook] at h1
   simpa using h1
  have hlen:as.length=i0∧∀ k,k < as.length→as[k]?=some k:=by
   have hr:=h2
   have hpos:(List.range 64)[as.length]?=some i0:=by rw[hr];simp
   obtain⟨q1,q2⟩:=List.getElem?_eq_some_iff.1 hpos
   simp at q2
   refine⟨q2,fun k hk=>?_⟩
   have:(List.range 64)[k]?=as[k]?:=by rw[hr,List.getElem?_append_left hk]
   rw[←this]
   simp at q1
   exact List.getElem?_range (by omega)
  rcases Nat.lt_or_ge l.length i0 with hlt | hge
  ·have hm:=hlen.2 l.length (by omega)
   have:=h3 _ (List.mem_of_getElem? hm)
   rw[hlook] at this
   simp at this
  ·omega
end Go.Ab


namespace Go.Ab
theorem qwn {σ:Nm→Option Ob}:∀ (S:List Nm) (obs:List Ob),S.mapM σ=some obs→obs.length=S.length∧∀ (j:Nat) (nm:Nm),S[j]?=some nm→∃ ob,obs[j]?=some ob∧σ nm=some ob:=by
 intro S
 induction S with
 | nil=>intro obs h;simp at h;subst h;exact⟨rfl,fun j nm h=>by simp at h⟩
 | cons x S ih =>
  intro obs h
  rw[List.mapM_cons] at h
  simp only[Option.bind_eq_bind,Option.bind_eq_some_iff,Option.pure_def,Option.some.injEq] at h
  obtain⟨ob,ho,obs',hos,rfl⟩:=h
  obtain⟨q1,q2⟩:=ih obs' hos
  refine⟨by simp[q1],fun j nm hj=>?_⟩
  cases j with
  | zero=>simp at hj;subst hj;exact⟨ob,rfl,ho⟩
  | succ j=>simp at hj;obtain⟨o,h1,h2⟩:=q2 j nm hj;exact⟨o,by simpa using h1,h2⟩
section away
variable {w:World} {I:Nat→Prop} {lp lp2:Nat→Option Nat} {L L0:Loc} {dep:Nat} {R:List Nm}
mutual
theorem Qn7 (hlp:lpLe lp lp2) (hL:∀ nm p,nm ∉ R→L nm=some p→L0 nm=some p) (hA:∀ nm b C,nm∈R→L nm=some (some (b,C))→lp2 (dep+R.idxOf nm)=some (2*b+1)) {x:PV} {v:Value} :
  qbr w I lp (some L) x v→qbr w I lp2 (some L0) (Qdj dep R x) v
 | .undef v=>.undef v
 | .bool b=>.bool b
 | .int k n=>.int k n
 | .str s=>.str s
 | .nilS=>.nilS
 | .nilP=>.nilP
 | .nilF=>.nilF
 | .nilI=>.nilI
 | .nilM=>.nilM
 | .slE k full a cap hf=>.slE k full a cap hf
 | .sl k xs full b off cap c E fr h1 h2 h3 h4 h5 h6 h8 h7=>.sl k xs full b off cap c E fr h1 h2 h3 h4 h5 h6 h8 (qbn.mono (fun _ h=>h) (fun _ _=>rfl) hlp h7)
 | .ptr cs o b off c E fr h1 h2 h3 h4 h8 h5=>.ptr cs o b off c E fr h1 h2 h3 h4 h8 (qbn.mono (fun _ h=>h) (fun _ _=>rfl) hlp h5)
 | .agg cs vs h1 h=>.agg _ vs h1 (qkh hlp hL hA h)
 | .iface t x v h=>.iface t _ v (Qn7 hlp hL hA h)
 | .fn f cs us vs hk h=>.fn f _ us vs hk (qkh hlp hL hA h)
 | .yld d l h=>.yld d l (hlp d l h)
 | .tup xs vs h=>.tup _ vs (qkh hlp hL hA h)
 | .imap es r ents clock h1 h2 h3=>.imap es r ents clock h1 h2 (qbn.mono (fun _ h=>h) (fun _ _=>rfl) hlp h3)
 | .glob g t x c E fr h1 h2 h3=>.glob g t x c E fr h1 h2 h3
 | .ref nm o b C h=>by
  unfold Qdj
  by_cases hm:nm∈R
  ·rw[if_pos (by simpa using hm)]
   split
   ·rename_i ho;subst ho
    rw[←yv_odd]
    exact .yld _ _ (hA nm b C hm h)
   ·exact .undef _
  ·rw[if_neg (by simpa using hm)];exact .ref nm o b C (hL nm _ hm h)
 | .aref nm k i o b C h=>by
  unfold Qdj
  by_cases hm:nm∈R
  ·rw[if_pos (by simpa using hm)];exact .undef _
  ·rw[if_neg (by simpa using hm)];exact .aref nm k i o b C (hL nm _ hm h)
 | .arr nm k o n cap b C h hC hn=>by
  unfold Qdj
  by_cases hm:nm∈R
  ·rw[if_pos (by simpa using hm)];exact .undef _
  ·rw[if_neg (by simpa using hm)];exact .arr nm k o n cap b C (hL nm _ hm h) hC hn
 | .arrN nm k h=>by
  unfold Qdj
  by_cases hm:nm∈R
  ·rw[if_pos (by simpa using hm)];exact .undef _
  ·rw[if_neg (by simpa using hm)];exact .arrN nm k (hL nm _ hm h)
 | .mp nm b C h=>by
  unfold Qdj
  by_cases hm:nm∈R
  ·rw[if_pos (by simpa using hm)];exact .undef _
  ·rw[if_neg (by simpa using hm)];exact .mp nm b C (hL nm _ hm h)
 | .it nm b C h=>by
  unfold Qdj
  by_cases hm:nm∈R
  ·rw[if_pos (by simpa using hm)];exact .undef _
  ·rw[if_neg (by simpa using hm)];exact .it nm b C (hL nm _ hm h)
theorem qkh (hlp:lpLe lp lp2) (hL:∀ nm p,nm ∉ R→L nm=some p→L0 nm=some p) (hA:∀ nm b C,nm∈R→L nm=some (some (b,C))→lp2 (dep+R.idxOf nm)=some (2*b+1)) {xs:List PV} {vs:List Value} :
  qbn w I lp (some L) xs vs→qbn w I lp2 (some L0) (Qhf dep R xs) vs
 | .nil=>.nil
 | .cons x v xs vs h hs=>.cons _ v _ vs (Qn7 hlp hL hA h) (qkh hlp hL hA hs)
end
theorem away_ob (hlp:lpLe lp lp2) (hL:∀ nm p,nm ∉ R→L nm=some p→L0 nm=some p) (hA:∀ nm b C,nm∈R→L nm=some (some (b,C))→lp2 (dep+R.idxOf nm)=some (2*b+1)) {ob:Ob} {p:Option (Nat×Nat)}
  (h:qha w I lp L ob p):qha w I lp2 L0 (awayOb dep R ob) p:=by
 have hm:∀ {xs:List PV} {vs:List Value},qbn w I lp none xs vs→qbn w I lp2 none xs vs:=fun h=>qbn.mono (fun _ h=>h) (fun _ _=>rfl) hlp h
 cases p with
 | none=>obtain⟨k,kt,rfl⟩:=h;exact⟨k,kt,rfl⟩
 | some p =>
  cases ob with
  | cells ty cs =>
   obtain⟨c,E,h1,h2,h4,h3⟩:=h
   exact⟨c,E,h1,h2,h4,qkh hlp hL hA h3⟩
  | arr k kt xs=>obtain⟨c,E,h1,h2,h3,h4,h6,h5⟩:=h;exact⟨c,E,h1,h2,h3,h4,h6,hm h5⟩
  | map es=>obtain⟨c,E,h1,h2⟩:=h;exact⟨c,E,h1,hm h2⟩
  | siter s pos=>exact h
variable {Lf:Loc}
mutual
theorem Qn4 (hY:∀ d l,lp2 d=some l→(¬ (dep≤d∧d < dep+R.length)→lp d=some l)∧(dep≤d∧d < dep+R.length→∃ b C,l=2*b+1∧Lf (R.getD (d - dep) (0,0))=some (some (b,C))))
  (hL:∀ nm p,nm ∉ R→L nm=some p→Lf nm=some p) {x:PV} {v:Value}:qbr w I lp2 (some L) x v→qbr w I lp (some Lf) (qr1 dep R x) v
 | .undef v=>.undef v
 | .bool b=>.bool b
 | .int k n=>.int k n
 | .str s=>.str s
 | .nilS=>.nilS
 | .nilP=>.nilP
 | .nilF=>.nilF
 | .nilI=>.nilI
 | .nilM=>.nilM
 | .slE k full a cap hf=>by
  unfold qr1
  split
  ·exact .undef _
  ·exact .slE k full a cap hf
 | .sl k xs full b off cap c E fr h1 h2 h3 h4 h5 h6 h8 h7=>by
  unfold qr1
  split
  ·exact .undef _
  ·rename_i hy
   exact .sl k xs full b off cap c E fr h1 h2 h3 h4 h5 h6 h8 (qbn.noY h7 (qj2 (w:=w) (I:=I) (lp:=lp2) (lp':=lp) xs (by simpa using hy)))
 | .ptr cs o b off c E fr h1 h2 h3 h4 h8 h5=>by
  unfold qr1
  split
  ·exact .undef _
  ·rename_i hy
   exact .ptr cs o b off c E fr h1 h2 h3 h4 h8 (h5.noY (by simpa using hy))
 | .agg cs vs h1 h=>.agg _ vs h1 (qkg hY hL h)
 | .iface t x v h=>.iface t _ v (Qn4 hY hL h)
 | .fn f cs us vs hk h=>.fn f _ us vs hk (qkg hY hL h)
 | .yld d l h=>by
  unfold qr1
  obtain⟨h1,h2⟩:=hY d l h
  split
  ·rename_i hd
   obtain⟨b,C,rfl,hl⟩:=h2 hd
   rw[yv_odd]
   exact .ref _ 0 b C hl
  ·rename_i hd
   exact .yld d l (h1 hd)
 | .tup xs vs h=>.tup _ vs (qkg hY hL h)
 | .imap es r ents clock h1 h2 h3=>by
  unfold qr1
  split
  ·exact .undef _
  ·rename_i hy
   exact .imap es r ents clock h1 h2 (h3.noY (by simpa using hy))
 | .glob g t x c E fr h1 h2 h3=>.glob g t x c E fr h1 h2 h3
 | .ref nm o b C h=>by
  unfold qr1
  by_cases hm:nm∈R
  ·rw[if_pos (by simpa using hm)];exact .undef _
  ·rw[if_neg (by simpa using hm)];exact .ref nm o b C (hL nm _ hm h)
 | .aref nm k i o b C h=>by
  unfold qr1
  by_cases hm:nm∈R
  ·rw[if_pos (by simpa using hm)];exact .undef _
  ·rw[if_neg (by simpa using hm)];exact .aref nm k i o b C (hL nm _ hm h)
 | .arr nm k o n cap b C h hC hn=>by
  unfold qr1
  by_cases hm:nm∈R
  ·rw[if_pos (by simpa using hm)];exact .undef _
  ·rw[if_neg (by simpa using hm)];exact .arr nm k o n cap b C (hL nm _ hm h) hC hn
 | .arrN nm k h=>by
  unfold qr1
  by_cases hm:nm∈R
  ·rw[if_pos (by simpa using hm)];exact .undef _
  ·rw[if_neg (by simpa using hm)];exact .arrN nm k (hL nm _ hm h)
 | .mp nm b C h=>by
  unfold qr1
  by_cases hm:nm∈R
  ·rw[if_pos (by simpa using hm)];exact .undef _
  ·rw[if_neg (by simpa using hm)];exact .mp nm b C (hL nm _ hm h)
 | .it nm b C h=>by
  unfold qr1
  by_cases hm:nm∈R
  ·rw[if_pos (by simpa using hm)];exact .undef _
  ·rw[if_neg (by simpa using hm)];exact .it nm b C (hL nm _ hm h)
theorem qkg (hY:∀ d l,lp2 d=some l→(¬ (dep≤d∧d < dep+R.length)→lp d=some l)∧(dep≤d∧d < dep+R.length→∃ b C,l=2*b+1∧Lf (R.getD (d - dep) (0,0))=some (some (b,C))))
  (hL:∀ nm p,nm ∉ R→L nm=some p→Lf nm=some p) {xs:List PV} {vs:List Value}:qbn w I lp2 (some L) xs vs→qbn w I lp (some Lf) (Qhd dep R xs) vs
 | .nil=>.nil
 | .cons x v xs vs h hs=>.cons _ v _ vs (Qn4 hY hL h) (qkg hY hL hs)
end
theorem back_ob (hY:∀ d l,lp2 d=some l→(¬ (dep≤d∧d < dep+R.length)→lp d=some l)∧(dep≤d∧d < dep+R.length→∃ b C,l=2*b+1∧Lf (R.getD (d - dep) (0,0))=some (some (b,C))))
  (hL:∀ nm p,nm ∉ R→L nm=some p→Lf nm=some p) {ob:Ob} (hy:(match ob with | .cells _ _=>true | ob=>!ob.hasY)=true) {p:Option (Nat×Nat)} (h:qha w I lp2 L ob p):qha w I lp Lf (Qn5 dep R ob) p:=by
 cases p with
 | none=>obtain⟨k,kt,rfl⟩:=h;exact⟨k,kt,rfl⟩
 | some p =>
  cases ob with
  | cells ty cs =>
   obtain⟨c,E,h1,h2,h4,h3⟩:=h
   exact⟨c,E,h1,h2,h4,qkg hY hL h3⟩
  | arr k kt xs =>
   obtain⟨c,E,h1,h2,h3,h4,h6,h5⟩:=h
   exact⟨c,E,h1,h2,h3,h4,h6,h5.noY (qj2 (w:=w) (I:=I) (lp:=lp2) (lp':=lp) xs (by simpa[Ob.hasY] using hy))⟩
  | map es=>obtain⟨c,E,h1,h2⟩:=h;exact⟨c,E,h1,h2.noY (by simpa[Ob.hasY] using hy)⟩
  | siter s pos=>exact h
end away
section st
variable {w:World} {I:Nat→Prop} {lp lp2:Nat→Option Nat} {L:Loc} {dep:Nat} {R:List Nm} {st:St} {tmv suf:List Value}
open Classical in
noncomputable def qk3 (R:List Nm) (L:Loc):Loc:=fun nm=>if nm∈R then some none else L nm
theorem qzi {R:List Nm} {L:Loc} {nm:Nm} (h:nm∈R):qk3 R L nm=some none:=by unfold qk3;rw[if_pos h]
theorem qp9 {R:List Nm} {L:Loc} {nm:Nm} (h:nm ∉ R):qk3 R L nm=L nm:=by unfold qk3;rw[if_neg h]
theorem awaySt_ok (hs:SR lp I L st tmv suf w) (hR:∀ nm∈R,∃ ob,qbf st.objs nm=some ob) (hlp:lpLe lp lp2) (hA:∀ nm b C,nm∈R→L nm=some (some (b,C))→lp2 (dep+R.idxOf nm)=some (2*b+1)) :
  SR lp2 I (qk3 R L) (Qhe dep R st) tmv suf w:=by
 have hL:∀ nm p,nm ∉ R→L nm=some p→qk3 R L nm=some p:=fun nm p h1 h2=>by rw[qp9 h1];exact h2
 have hlk:∀ nm,qbf (Qhe dep R st).objs nm=(qbf (qdr (R.map fun nm=>(nm,qd5)) st.objs) nm).map (awayOb dep R):=fun nm=>qde _ _ nm
 have hpres:∀ p∈R.map (fun nm=>(nm,qd5)),∃ o,qbf st.objs p.1=some o:=by
  intro p hp
  obtain⟨nm,hn,rfl⟩:=List.mem_map.1 hp
  exact hR nm hn
 refine⟨qkh hlp hL hA hs.tm,qkh hlp hL hA hs.kp,fun nm ob hl=>?_,fun nm hl=>?_⟩
 ·rw[hlk] at hl
  obtain⟨h1,h2⟩:=qjz (R.map fun nm=>(nm,qd5)) st.objs nm hpres
  by_cases hm:nm∈R
  ·rw[h1 qd5 (fun o' ho'=>by obtain⟨m,_,he⟩:=List.mem_map.1 ho';cases he;rfl) (List.mem_map.2 ⟨nm,hm,rfl⟩)] at hl
   cases hl
   exact⟨none,qzi hm,0,0,rfl⟩
  ·rw[h2 fun o ho=>by obtain⟨m,hm2,he⟩:=List.mem_map.1 ho;cases he;exact hm hm2] at hl
   obtain⟨ob0,h3,rfl⟩:=Option.map_eq_some_iff.1 hl
   obtain⟨p,hp,ha⟩:=hs.ob nm ob0 h3
   exact⟨p,hL nm p hm hp,away_ob hlp hL hA ha⟩
 ·rw[hlk] at hl
  obtain⟨h1,h2⟩:=qjz (R.map fun nm=>(nm,qd5)) st.objs nm hpres
  by_cases hm:nm∈R
  ·rw[h1 qd5 (fun o' ho'=>by obtain⟨m,_,he⟩:=List.mem_map.1 ho';cases he;rfl) (List.mem_map.2 ⟨nm,hm,rfl⟩)] at hl
   cases hl
  ·rw[h2 fun o ho=>by obtain⟨m,hm2,he⟩:=List.mem_map.1 ho;cases he;exact hm hm2] at hl
   rw[qp9 hm]
   exact hs.dom nm (by simpa using hl)
theorem apply_laid {R N:List Nm} {d0 i0:Nat} {fo:Nat→Ob} {gn:Nm→Ob} {v0:PV} (st:St) (hRn:∀ (i j:Nat) nm,R[i]?=some nm→R[j]?=some nm→i=j) (hR:∀ nm∈R,∃ ob,qbf st.objs nm=some ob)
  (hlen:∃ l,st.objs[d0]?=some l∧l.length=i0) :
  let st':=apply st none {v:=v0,new:=N.map gn,ups:=R.zipIdx.map fun p=>(p.1,fo p.2),gone:=[],io:=true,slot:=some d0}
  st'.tmps=st.tmps∧st'.keep=st.keep∧(∀ (j:Nat) t,R[j]?=some t→qbf st'.objs t=some (fo j))∧(∀ (i:Nat) s,N[i]?=some s→qbf st'.objs (d0,i0+i)=some (gn s)) ∧
   ∀ t,(∀ j:Nat,R[j]?≠some t)→(∀ (i:Nat) s,N[i]?=some s→t≠(d0,i0+i))→qbf st'.objs t=qbf st.objs t:=by
 intro st'
 obtain⟨ups,hups⟩:∃ ups,(R.zipIdx.map fun p=>(p.1,fo p.2))=ups:=⟨_,rfl⟩
 have memU:∀ t o,(t,o)∈ups↔∃ j:Nat,R[j]?=some t∧o=fo j:=by
  intro t o
  rw[←hups,List.mem_map]
  constructor
  ·rintro ⟨⟨a,j⟩,h1,h2⟩
   cases h2
   exact⟨j,List.mem_zipIdx_iff_getElem?.1 h1,rfl⟩
  ·rintro ⟨j,h1,rfl⟩
   exact⟨(t,j),List.mem_zipIdx_iff_getElem?.2 h1,rfl⟩
 have hst:st'={st with objs:=(qdr ups st.objs).set d0 ((qdr ups st.objs).getD d0 []++N.map gn)}:=by
  show apply st none {v:=v0,new:=N.map gn,ups:=R.zipIdx.map fun p=>(p.1,fo p.2),gone:=[],io:=true,slot:=some d0}=_
  rw[hups]
  unfold apply
  simp only[List.isEmpty_nil,if_true]
  cases hu:ups with
  | nil=>rfl
  | cons u us=>rfl
 have hpres:∀ p∈ups,∃ o,qbf st.objs p.1=some o:=by
  rintro ⟨t,o⟩ hp
  obtain⟨j,hj,_⟩:=(memU t o).1 hp
  exact hR t (List.mem_of_getElem? hj)
 have hlens:∀ (l:List (Nm×Ob)) (objs:List (List Ob)) (d:Nat),∀ x,objs[d]?=some x→∃ y,(qdr l objs)[d]?=some y∧y.length=x.length:=by
  intro l
  induction l with
  | nil=>intro objs d x h;exact⟨x,h,rfl⟩
  | cons p l ih =>
   obtain⟨nm,o⟩:=p
   intro objs d x hx
   have:∃ y,(qb9 objs nm o)[d]?=some y∧y.length=x.length:=by
    unfold qb9
    split
    ·rename_i l' hl'
     by_cases hnd:nm.1=d
     ·subst hnd
      rw[hx] at hl';cases hl'
      exact⟨_,List.getElem?_set_self (List.getElem?_eq_some_iff.1 hx).1,by simp⟩
     ·exact⟨x,by rw[List.getElem?_set_ne hnd];exact hx,rfl⟩
    ·exact⟨x,hx,rfl⟩
   obtain⟨y,h1,h2⟩:=this
   obtain⟨z,h3,h4⟩:=ih (qb9 objs nm o) d y h1
   exact⟨z,h3,h4.trans h2⟩
 obtain⟨l,g1,g2⟩:=hlen
 obtain⟨l',h3,h4⟩:=hlens ups st.objs d0 l g1
 have hlt:d0 < (qdr ups st.objs).length:=(List.getElem?_eq_some_iff.1 h3).1
 have hgd:(qdr ups st.objs).getD d0 []=l':=by rw[List.getD_eq_getElem?_getD,h3];rfl
 have key1:∀ (i:Nat) s,N[i]?=some s→qbf st'.objs (d0,i0+i)=some (gn s):=by
  intro i s hi
  rw[hst]
  show qbf (List.set _ _ _) _=_
  rw[qb0 _ hlt,hgd,List.getElem?_append_right (by omega),show i0+i - l'.length=i by omega,List.getElem?_map,hi]
  rfl
 have key2:∀ t:Nm,(∀ (i:Nat) s,N[i]?=some s→t≠(d0,i0+i))→qbf st'.objs t=qbf (qdr ups st.objs) t:=by
  intro t ht
  rw[hst]
  show qbf (List.set _ _ _) _=_
  by_cases h1:t.1=d0
  ·obtain⟨a,j⟩:=t
   simp only at h1;subst h1
   rw[qb0 _ hlt,hgd]
   have hX:qbf (qdr ups st.objs) (a,j)=l'[j]?:=by unfold qbf;rw[h3]
   rw[hX]
   by_cases hj:j < l'.length
   ·rw[List.getElem?_append_left hj]
   ·rw[List.getElem?_append_right (by omega),List.getElem?_eq_none_iff.2 (by omega:l'.length≤j)]
    refine List.getElem?_eq_none_iff.2 ?_
    rw[List.length_map]
    apply Classical.byContradiction
    intro hlt2
    have hlt3:j - l'.length < N.length:=by omega
    exact ht (j - l'.length) _ (List.getElem?_eq_getElem hlt3) (by rw[show i0+(j - l'.length)=j by omega])
  ·rw[qbw _ h1]
 have hnoN:∀ (j:Nat) t,R[j]?=some t→∀ (i:Nat) s,N[i]?=some s→t≠(d0,i0+i):=by
  rintro j t hj i s hi rfl
  obtain⟨ob,ho⟩:=hR _ (List.mem_of_getElem? hj)
  unfold qbf at ho
  rw[g1] at ho
  have:=(List.getElem?_eq_some_iff.1 ho).1
  simp only at this
  omega
 refine⟨by rw[hst],by rw[hst],fun j t hj=>?_,key1,fun t h1 h2=>?_⟩
 ·rw[key2 t (hnoN j t hj)]
  exact (qjz ups st.objs t hpres).1 (fo j) (fun o' ho'=>by obtain⟨j',hj',rfl⟩:=(memU _ _).1 ho';rw[hRn j j' t hj hj']) ((memU _ _).2 ⟨j,hj,rfl⟩)
 ·rw[key2 t h2]
  exact (qjz ups st.objs t hpres).2 fun o ho=>by obtain⟨j,hj,_⟩:=(memU _ _).1 ho;exact h1 j hj
end st
section back
variable {E:Type} {cx:Cx} {w0:World} {I0 F0:Nat→Prop} {O0:Own} {Hd:Nat→Option Obj} {RE:qkj E} {e:E} {ds:List Deferred} {F:Nat→Prop}
variable {w:World} {I:Nat→Prop} {lp lp2 lpc:Nat→Option Nat} {Ls L':Loc} {dep:Nat} {R N:List Nm} {s stE:St} {tmv suf tmE wv:List Value} {aN:Nat→Nm} {B:List (Nm×Nm)} {d0 i0:Nat}
theorem qnd (hBd:B=(R.zipIdx.map fun p=>(aN p.2,p.1))++N.zipIdx.map fun p=>(p.1,(d0,i0+p.2))) (x t:Nm):(x,t)∈B↔(∃ j:Nat,R[j]?=some t∧x=aN j)∨(∃ i:Nat,N[i]?=some x∧t=(d0,i0+i)):=by
 rw[hBd,List.mem_append,List.mem_map,List.mem_map]
 constructor
 ·rintro (⟨⟨a,j⟩,h1,h2⟩ | ⟨⟨a,i⟩,h1,h2⟩)
  ·cases h2
   exact .inl ⟨j,(List.mem_zipIdx_iff_getElem?.1 h1),rfl⟩
  ·cases h2
   exact .inr ⟨i,(List.mem_zipIdx_iff_getElem?.1 h1),rfl⟩
 ·rintro (⟨j,h1,rfl⟩ | ⟨i,h1,rfl⟩)
  ·exact .inl ⟨(t,j),List.mem_zipIdx_iff_getElem?.2 h1,rfl⟩
  ·exact .inr ⟨(x,i),List.mem_zipIdx_iff_getElem?.2 h1,rfl⟩
theorem uniqB (hBd:B=(R.zipIdx.map fun p=>(aN p.2,p.1))++N.zipIdx.map fun p=>(p.1,(d0,i0+p.2))) (hRn:∀ (i j:Nat) nm,R[i]?=some nm→R[j]?=some nm→i=j)
  (hRL:∀ t∈R,∃ p,Ls t=some p) (hslot:∀ i:Nat,(∃ x,N[i]?=some x)→Ls (d0,i0+i)=none):∀ x x' t,(x,t)∈B→(x',t)∈B→x=x':=by
 intro x x' t h h'
 rcases (qnd hBd x t).1 h with ⟨j,h1,rfl⟩ | ⟨i,h1,rfl⟩<;>rcases (qnd hBd x' _).1 h' with ⟨j',h2,rfl⟩ | ⟨i',h2,h3⟩
 ·rw[hRn j j' t h1 h2]
 ·obtain⟨p,hp⟩:=hRL t (List.mem_of_getElem? h1)
  rw[h3,hslot i' ⟨_,h2⟩] at hp;cases hp
 ·obtain⟨p,hp⟩:=hRL _ (List.mem_of_getElem? h2)
  rw[hslot i ⟨_,h1⟩] at hp;cases hp
 ·have h4:i0+i=i0+i':=congrArg Prod.snd h3
  have:i=i':=by omega
  subst this
  exact Option.some.inj (h1.symm.trans h2)
def obTo (stE:St) (B:List (Nm×Nm)) (m:Nm):Ob:=(((qbf stE.objs m).getD qd5).sub (qj9 B)).ren (qfv B)
theorem look_mem {objs:List (List Ob)} {nm:Nm} {ob:Ob} (h:qbf objs nm=some ob):∃ l∈objs,ob∈l:=by
 unfold qbf at h
 split at h
 ·rename_i l hl
  exact⟨l,List.mem_of_getElem? hl,List.mem_of_getElem? h⟩
 ·cases h
theorem Qlj (nm:Nm) (σ:List (List Ob)) (n:Nm):(∀ ob,qbf σ n=some ob→qbf (Qjc nm σ) n=some ob)∧(∀ ob,qbf (Qjc nm σ) n=some ob→qbf σ n=some ob∨(qbf σ n=none∧ob=qd5)):=by
 unfold Qjc
 cases hs:σ[nm.1]? with
 | none=>exact⟨fun _ h=>h,fun _ h=>.inl h⟩
 | some l =>
  have hlt:=(List.getElem?_eq_some_iff.1 hs).1
  by_cases he:nm.1=n.1
  ·have h2:(σ.set nm.1 (l++List.replicate (nm.2+1 - l.length) qd5))[n.1]?=some (l++List.replicate (nm.2+1 - l.length) qd5):=by rw[←he];simp[hlt]
   have h1:qbf σ n=l[n.2]?:=by unfold qbf;rw[←he,hs]
   have h3:qbf (σ.set nm.1 (l++List.replicate (nm.2+1 - l.length) qd5)) n=(l++List.replicate (nm.2+1 - l.length) qd5)[n.2]?:=by unfold qbf;rw[h2]
   simp only[h1,h3]
   refine⟨fun ob h=>?_,fun ob h=>?_⟩
   ·rw[List.getElem?_append_left (List.getElem?_eq_some_iff.1 h).1];exact h
   ·by_cases hl:n.2 < l.length
    ·rw[List.getElem?_append_left hl] at h;exact .inl h
    ·refine .inr ⟨List.getElem?_eq_none_iff.2 (by omega),?_⟩
     rw[List.getElem?_append_right (by omega)] at h
     exact List.eq_of_mem_replicate (List.mem_of_getElem? h)
  ·have h3:qbf (σ.set nm.1 (l++List.replicate (nm.2+1 - l.length) qd5)) n=qbf σ n:=by unfold qbf;rw[List.getElem?_set_ne he]
   rw[h3]
   exact⟨fun _ h=>h,fun _ h=>.inl h⟩
theorem pad_ok {L:Loc} {st:St} (hs:SR lp I L st tmv suf w) (nm:Nm):∃ L',SR lp I L' {st with objs:=Qjc nm st.objs} tmv suf w∧∀ n b C,L' n=some (some (b,C))↔L n=some (some (b,C)):=by
 let L':Loc:=fun n=>if qbf st.objs n=none∧(qbf (Qjc nm st.objs) n).isSome=true then some none else L n
 have hle:Qkq L L':=by
  intro n p hp
  have:¬ (qbf st.objs n=none∧(qbf (Qjc nm st.objs) n).isSome=true):=fun h=>by rw[hs.dom n h.1] at hp;cases hp
  simp only[L',if_neg this,hp]
 refine⟨L',⟨hs.tm.reloc hle,hs.kp.reloc hle,fun n ob ho=>?_,fun n hn=>?_⟩,fun n b C=>⟨fun h=>?_,fun h=>hle _ _ h⟩⟩
 ·rcases (Qlj nm st.objs n).2 ob ho with h | ⟨h,rfl⟩
  ·obtain⟨p,hp,ha⟩:=hs.ob n ob h
   exact⟨p,hle _ _ hp,ha.reloc hle⟩
  ·exact⟨none,by simp only[L'];rw[if_pos ⟨h,by rw[ho];rfl⟩],0,0,rfl⟩
 ·have h1:qbf st.objs n=none:=by
   cases h:qbf st.objs n with
   | none=>rfl
   | some ob=>have:=(Qlj nm st.objs n).1 ob h;rw[this] at hn;cases hn
  simp only[L']
  rw[if_neg (fun h=>by rw[hn] at h;exact absurd h.2 (by simp))]
  exact hs.dom n h1
 ·simp only[L'] at h
  split at h
  ·cases h
  ·exact h
theorem refill_ok {R:List Nm}:∀ {L:Loc} {st:St},SR lp I L st tmv suf w→∃ L',SR lp I L' (Qd8 R st) tmv suf w∧∀ n b C,L' n=some (some (b,C))↔L n=some (some (b,C)):=by
 induction R with
 | nil=>intro L st h;exact⟨L,h,fun _ _ _=>Iff.rfl⟩
 | cons nm R ih =>
  intro L st h
  obtain⟨L1,h1,e1⟩:=pad_ok h nm
  obtain⟨L2,h2,e2⟩:=ih h1
  exact⟨L2,h2,fun n b C=>(e2 n b C).trans (e1 n b C)⟩
theorem Qg2 {R:List Nm} {s:St} (h:Qcg R s=true):(∀ nm∈R,∃ ob,qbf s.objs nm=some ob)∧∀ nm ob,qbf s.objs nm=some ob→(match ob with | .cells _ _=>true | ob=>!ob.hasY)=true:=by
 unfold Qcg at h
 rw[Bool.and_eq_true,List.all_eq_true,List.all_eq_true] at h
 obtain⟨h1,h2⟩:=h
 refine⟨fun nm hn=>?_,fun nm ob hl=>?_⟩
 ·have:=h1 nm hn
  unfold isDead at this
  split at this
  ·rename_i hq;exact⟨_,hq⟩
  ·cases this
 ·obtain⟨l,g1,g2⟩:=look_mem hl
  exact List.all_eq_true.1 (h2 l g1) ob g2
theorem back_sr (hs:SR lp2 I Ls s tmv suf w) (hc:SR lpc I L' stE tmE wv w)
  (hY:∀ d l,lp2 d=some l→(¬ (dep≤d∧d < dep+R.length)→lp d=some l)∧(dep≤d∧d < dep+R.length→∃ b C,l=2*b+1∧qfq Ls L' B (R.getD (d - dep) (0,0))=some (some (b,C))))
  (hmb:Qcg R s=true) (hRn:∀ (i j:Nat) nm,R[i]?=some nm→R[j]?=some nm→i=j) (hlen:∃ l,s.objs[d0]?=some l∧l.length=i0)
  (hB:qff (B.map (·.1))=true) (hBd:B=(R.zipIdx.map fun p=>(aN p.2,p.1))++N.zipIdx.map fun p=>(p.1,(d0,i0+p.2)))
  (hyN:∀ m∈N,(obTo stE B m).hasY=false) (hyR:∀ (j:Nat) t,R[j]?=some t→(obTo stE B (aN j)).hasY=false) {v0:PV} :
  SR lp I (qfq Ls L' B) (apply (Qhc dep R s) none {v:=v0,new:=N.map (obTo stE B),ups:=R.zipIdx.map fun p=>(p.1,obTo stE B (aN p.2)),gone:=[],io:=true,slot:=some d0}) tmv suf w:=by
 obtain⟨hRs,hobY⟩:=Qg2 hmb
 have hslot:∀ i:Nat,(∃ x,N[i]?=some x)→Ls (d0,i0+i)=none:=by
  rintro i _
  obtain⟨l,h1,h2⟩:=hlen
  refine hs.dom _ ?_
  unfold qbf
  rw[h1]
  exact List.getElem?_eq_none_iff.2 (by simp only;omega)
 have hRL:∀ t∈R,∃ p,Ls t=some p:=fun t h=>by
  obtain⟨ob,ho⟩:=hRs t h
  obtain⟨p,hp,_⟩:=hs.ob t ob ho
  exact⟨p,hp⟩
 have hU:=uniqB hBd hRn hRL hslot
 have hin:∀ x t,(x,t)∈B→qfq Ls L' B t=some ((L' x).getD none):=fun x t h=>qmh hU h
 have hout:∀ t,(∀ x,(x,t) ∉ B)→qfq Ls L' B t=Ls t:=fun t h=>qwp h
 have hnB:∀ t,t ∉ R→∀ p,Ls t=some p→∀ x,(x,t) ∉ B:=by
  intro t ht p hp x h
  rcases (qnd hBd x t).1 h with ⟨j,h1,rfl⟩ | ⟨i,h1,rfl⟩
  ·exact ht (List.mem_of_getElem? h1)
  ·rw[hslot i ⟨_,h1⟩] at hp;cases hp
 have hL:∀ nm p,nm ∉ R→Ls nm=some p→qfq Ls L' B nm=some p:=fun nm p h1 h2=>by rw[hout nm (hnB nm h1 p h2)];exact h2
 have hlk:∀ nm,qbf (Qhc dep R s).objs nm=(qbf s.objs nm).map (Qn5 dep R):=fun nm=>qde _ _ nm
 obtain⟨a1,a2,a3,a4,a5⟩:=apply_laid (R:=R) (N:=N) (d0:=d0) (i0:=i0) (fo:=fun j=>obTo stE B (aN j)) (gn:=obTo stE B) (v0:=v0) (Qhc dep R s) hRn (fun nm hn=>by obtain⟨ob,ho⟩:=hRs nm hn;exact⟨_,by rw[hlk,ho];rfl⟩)
  (by obtain⟨l,g1,g2⟩:=hlen;exact⟨l.map (Qn5 dep R),by show (s.objs.map _)[d0]?=_;rw[List.getElem?_map,g1];rfl,by rw[List.length_map];exact g2⟩)
 have hdead:∀ f g,(qd5.sub f).ren g=qd5:=fun f g=>rfl
 have hobj:∀ x t,(x,t)∈B→(obTo stE B x).hasY=false→∃ p,qfq Ls L' B t=some p∧qha w I lp (qfq Ls L' B) (obTo stE B x) p:=by
  intro x t hxt hy
  refine⟨_,hin x t hxt,?_⟩
  unfold obTo at hy ⊢
  cases hl:qbf stE.objs x with
  | none =>
   rw[hc.dom x hl]
   simp only[Option.getD_none,hdead]
   exact⟨0,0,rfl⟩
  | some ob =>
   obtain⟨p,hp,ha⟩:=hc.ob x ob hl
   rw[hl] at hy
   rw[hp]
   simp only[Option.getD_some] at hy ⊢
   exact (take_ob hB hU ha).noY hy
 refine⟨by rw[a1];exact qkg hY hL hs.tm,by rw[a2];exact qkg hY hL hs.kp,fun t ob hl=>?_,fun t hl=>?_⟩
 ·by_cases ht:∃ (i:Nat) (x:Nm),N[i]?=some x∧t=(d0,i0+i)
  ·obtain⟨i,x,h1,rfl⟩:=ht
   rw[a4 i x h1] at hl;cases hl
   exact hobj x _ ((qnd hBd _ _).2 (.inr ⟨i,h1,rfl⟩)) (hyN x (List.mem_of_getElem? h1))
  ·by_cases hj:∃ j:Nat,R[j]?=some t
   ·obtain⟨j,hj⟩:=hj
    rw[a3 j t hj] at hl;cases hl
    exact hobj _ t ((qnd hBd _ _).2 (.inl ⟨j,hj,rfl⟩)) (hyR j t hj)
   ·rw[a5 t (fun j h=>hj ⟨j,h⟩) (fun i x h1 h2=>ht ⟨i,x,h1,h2⟩),hlk] at hl
    obtain⟨ob0,h0,rfl⟩:=Option.map_eq_some_iff.1 hl
    obtain⟨p,hp,ha⟩:=hs.ob t ob0 h0
    have htR:t ∉ R:=fun hm=>by
     obtain⟨j,hj2,hget⟩:=List.getElem_of_mem hm
     exact hj ⟨j,by rw[List.getElem?_eq_getElem hj2,hget]⟩
    exact⟨p,hL t p htR hp,back_ob hY hL (hobY t ob0 h0) ha⟩
 ·by_cases ht:∃ (i:Nat) (x:Nm),N[i]?=some x∧t=(d0,i0+i)
  ·obtain⟨i,x,h1,rfl⟩:=ht
   rw[a4 i x h1] at hl;cases hl
  ·by_cases hj:∃ j:Nat,R[j]?=some t
   ·obtain⟨j,hj⟩:=hj
    rw[a3 j t hj] at hl;cases hl
   ·rw[a5 t (fun j h=>hj ⟨j,h⟩) (fun i x h1 h2=>ht ⟨i,x,h1,h2⟩),hlk] at hl
    rw[hout t fun x h=>by
     rcases (qnd hBd x t).1 h with ⟨j,h1,_⟩ | ⟨i,h1,h2⟩
     ·exact hj ⟨j,h1⟩
     ·exact ht ⟨i,x,h1,h2⟩]
    exact hs.dom t (by simpa using hl)
theorem qw0 {wa:World} {Ia:Nat→Prop} {L Lz:Loc}:∀ {old new:List PV} {vs:List Value},qbn w I lp (some Lz) new vs→qbn wa Ia lp (some L) old vs →
  (∀ nm∈R,∀ v,qbr wa Ia lp (some L) (.arr nm 1 0 0) v→qbr w I lp (some Lz) (.arr nm 1 0 0) v)→qbn w I lp (some Lz) (Qcr R old new) vs
 | [],new,_,h,_,_=>h
 | _ :: _,[],_,h,_,_=>h
 | o :: os,n :: ns,_,.cons _ v _ vs h hs,.cons _ _ _ _ h0 hs0,hR=>by
  refine .cons _ _ _ _ ?_ (qw0 hs hs0 hR)
  unfold keep1
  split
  ·split
   ·rename_i nm hc
    exact hR nm (List.contains_iff_mem.1 hc) v h0
   ·exact h
  ·exact h
theorem back_fr (hf:Fr cx w0 I0 F0 O0 Hd RE e ds I F Ls w) (hU:∀ x x' t,(x,t)∈B→(x',t)∈B→x=x') (hB:qff (B.map (·.1))=true)
  (x8:∀ nm b C,L' nm=some (some (b,C))→b < w.heap.size∧¬ I b∧¬ F b∧(w0.heap.size≤b∨O0 b)∧(∀ nm' C',Ls nm'≠some (some (b,C')))∧(∀ ob,Hd b≠some ob)∧∀ d∈ds,d.target≠.collected b)
  (x9:∀ nm nm' b C C',L' nm=some (some (b,C))→L' nm'=some (some (b,C'))→nm=nm'):Fr cx w0 I0 F0 O0 Hd RE e ds I F (qfq Ls L' B) w:=by
 have hsrc:∀ t b C,qfq Ls L' B t=some (some (b,C))→(∃ x,(x,t)∈B∧L' x=some (some (b,C)))∨Ls t=some (some (b,C)):=by
  intro t b C h
  by_cases hx:∃ x,(x,t)∈B
  ·obtain⟨x,hst⟩:=hx
   rw[qmh hU hst] at h
   refine .inl ⟨x,hst,?_⟩
   cases hl:L' x with
   | none=>rw[hl] at h;simp at h
   | some p=>rw[hl] at h;simpa using h
  ·rw[qwp fun x h=>hx ⟨x,h⟩] at h
   exact .inr h
 have hne:∀ t b C,qfq Ls L' B t=some (some (b,C))→(∃ x C,L' x=some (some (b,C)))∨∃ t C,Ls t=some (some (b,C)):=fun t b C h=>by
  rcases hsrc t b C h with ⟨x,_,h⟩ | h
  ·exact .inl ⟨x,C,h⟩
  ·exact .inr ⟨t,C,h⟩
 refine⟨hf.ext,hf.sep,hf.oF,fun t b C ht=>?_,fun t t' b C C' ht ht'=>?_,hf.wd,hf.re,?_,fun b ob hb=>?_⟩
 ·rcases hsrc t b C ht with ⟨x,_,h⟩ | h
  ·obtain⟨g1,g2,g3,g4,_⟩:=x8 x b C h
   exact⟨g4,g1,g2,g3⟩
  ·exact hf.lB t b C h
 ·rcases hsrc t b C ht with ⟨x,hb,h⟩ | h<;>rcases hsrc t' b C' ht' with ⟨x',hb',h'⟩ | h'
  ·have:=x9 x x' b C C' h h'
   subst this
   exact qz5 hB hb hb'
  ·exact absurd h' ((x8 x b C h).2.2.2.2.1 t' C')
  ·exact absurd h ((x8 x' b C' h').2.2.2.2.1 t C)
  ·exact hf.inj t t' b C C' h h'
 ·have key:∀ ds rs,qgg w0.heap.size I F Ls w ds rs→(∀ nm b C,L' nm=some (some (b,C))→∀ d∈ds,d.target≠.collected b)→qgg w0.heap.size I F (qfq Ls L' B) w ds rs:=by
   intro ds rs hm
   induction hm with
   | nil=>intro _;exact .nil
   | call d ds rs hd _ ih=>intro h;exact .call d ds rs hd (ih fun nm b C hn d hd=>h nm b C hn d (List.mem_cons_of_mem _ hd))
   | cons D ds rs h1 h2 h3 h4 h5 h6 h7 _ ih =>
    intro h
    refine .cons D ds rs h1 h2 h3 h4 (fun t C ht=>?_) h6 h7 (ih fun nm b C hn d hd=>h nm b C hn d (List.mem_cons_of_mem _ hd))
    rcases hne t D C ht with ⟨x,C',hx⟩ | ⟨t',C',hx⟩
    ·exact h x D C' hx _ List.mem_cons_self rfl
    ·exact h5 t' C' hx
  exact key ds _ hf.mks fun nm b C hn=>(x8 nm b C hn).2.2.2.2.2.2
 ·obtain⟨g1,g2,g3,g4,g5⟩:=hf.hld b ob hb
  refine⟨g1,g2,g3,fun t C ht=>?_,g5⟩
  rcases hne t b C ht with ⟨x,C',hx⟩ | ⟨t',C',hx⟩
  ·exact (x8 x b C' hx).2.2.2.2.2.1 ob hb
  ·exact g4 t' C' hx
end back
end Go.Ab


namespace Go.Ab
section
variable {E:Type} {cx:Cx} {w0:World} {I0 F0:Nat→Prop} {O0:Own} {Hd:Nat→Option Obj} {R:qkj E} {e e2:E} {F:Nat→Prop} {lp:Nat→Option Nat} {suf:List Value}
variable {I:Nat→Prop} {L:Loc} {st st2:St} {a:Act} {w:World} {dd:qya} {M:qdb} {fuel:Nat} {h:qbg E} {dep:Nat}
theorem Fr.hold {ds:List Deferred} {Hd':Nat→Option Obj} (hf:Fr cx w0 I0 F0 O0 Hd' R e ds I F L w) (hh:∀ b ob,Hd b=some ob→Hd' b=some ob):Fr cx w0 I0 F0 O0 Hd R e ds I F L w :=
 {hf with hld:=fun b ob hb=>hf.hld b ob (hh b ob hb)}
theorem Qmg {ro:Option Nat} (hro:∀ l0,ro=some l0→∃ r0,Hd l0=some (.loop r0)) {ds:List Deferred} (hf:Fr cx w0 I0 F0 O0 Hd R e ds I F L w) (fn:FuncId) (tmps:Array Value) (ps:Array Tmp) (assign body:Code) :
  ∃ (l:Nat) (mark:List Deferred) (w1:World) (rc:Loop),(Instr.enterLoop fn tmps ps assign body ro).run cx.P w=.ok (l,mark) w1∧rc.params=ps∧rc.assign=assign∧rc.body=body∧rc.tmps=tmps ∧
   w1.heap[l]?=some (.loop (qc3 rc none))∧w.heap.size≤l∧l < w1.heap.size∧w1.os=w.os∧w1.tape=w.tape∧w1.output=w.output∧w.heap.size≤w1.heap.size∧(∀ b,b < w.heap.size→w1.heap[b]?=w.heap[b]?) ∧
   (mark=[]∨(mark=[{target:=.collected w.heap.size,args:=#[]}]∧w1.heap[w.heap.size]?=some (.deferred (some []))∧w.heap.size < l)):=by
 cases ro with
 | none =>
  refine⟨_,_,_,{state:=.ready,pending:=none,fn,tmps,params:=ps,assign,body,defers:=w.heap.size},run_enterLoop_outer fn tmps ps assign body,rfl,rfl,rfl,rfl,?_,by omega,by simp,rfl,rfl,rfl,by simp;omega,fun b hb=>?_,.inr ⟨rfl,?_,by omega⟩⟩
  ·have:=World.alloc_heap_new (w.alloc (.deferred (some []))) (.loop {state:=.ready,pending:=none,fn,tmps,params:=ps,assign,body,defers:=w.heap.size})
   simpa[qc3] using this
  ·rw[heap_alloc_lt _ _ (by simp;omega),heap_alloc_lt _ _ hb]
  ·rw[heap_alloc_lt _ _ (by simp)];exact World.alloc_heap_new _ _
 | some l0 =>
  obtain⟨r0,hr0⟩:=hro l0 rfl
  obtain⟨_,_,_,_,hh⟩:=hf.hld l0 _ hr0
  refine⟨_,_,_,{state:=.ready,pending:=none,fn,tmps,params:=ps,assign,body,defers:=r0.defers},run_enterLoop_inner hh fn tmps ps assign body,rfl,rfl,rfl,rfl,?_,Nat.le_refl _,by simp,rfl,rfl,rfl,by simp,fun b hb=>heap_alloc_lt _ _ hb,.inl rfl⟩
  have:=World.alloc_heap_new w (.loop {state:=.ready,pending:=none,fn,tmps,params:=ps,assign,body,defers:=r0.defers})
  simpa[qc3] using this
theorem qgg.noL {lo:Nat} {I F:Nat→Prop} {L:Loc} {w:World} {ds rs:List Deferred} (h:qgg lo I F L w ds rs):∀ d∈ds,∀ D,d.target=.collected D→∀ nm C,L nm≠some (some (D,C)):=by
 induction h with
 | nil=>intro d hd;cases hd
 | call d ds rs hd _ ih =>
  intro d' hd' D hD
  rcases List.mem_cons.1 hd' with rfl | hd'
  ·exact absurd hD (hd D)
  ·exact ih d' hd' D hD
 | cons D0 ds rs _ _ _ _ h5 _ _ _ ih =>
  intro d' hd' D hD
  rcases List.mem_cons.1 hd' with rfl | hd'
  ·cases hD;exact h5
  ·exact ih d' hd' D hD
theorem rio_ok (hR:RioOK cx M.rio) (href:Ref cx lp R h dep w0 I0 F0) {ro:Option Nat} (hro:∀ l0,ro=some l0→∃ r0,Hd l0=some (.loop r0)) {f:Operand} {ps:Array Nat} {assign body:Code} {rb:qcm} (hca:qr5 cx dd M fuel assign) (hcb:qfa cx M fuel rb body)
  {rf:RX} (hrx:rx cx.G f=some rf) {x:Ex} (hev:qmc M (fun h dep=>qy1 M fuel h dep ps.toList (qdg cx.P cx.G dd assign) rb) h dep (rf.ev st.tmps) st e=some (x,st2,e2))
  (hs:SR lp I L st a.tmps.toList suf w) (hf:Fr cx w0 I0 F0 O0 Hd R e a.defers I F L w) {Q:Exit→Act→World→Prop}
  (hQ:∀ a' w' I' F' L',SR lp I' L' st2 a'.tmps.toList suf w'→Fr cx w0 I0 F0 O0 Hd R e2 a'.defers I' F' L' w'→Q (qs0 x) a' w'):(Code.rangeFunc f ps assign body).wpIn (fen ro) 0 cx.P Q a w:=by
 have hrep:=qb4 hs hf.wd hrx
 unfold qmc at hev
 split at hev
 case h_2=>cases hev
 rename_i g cap hfe
 rw[hfe] at hrep
 simp only at hev
 generalize hRd:qcc (qbs (qbf st.objs) qbe (qbd cap))=Rn at hev
 have hRn:∀ (i j:Nat) nm,Rn[i]?=some nm→Rn[j]?=some nm→i=j:=by rw[←hRd];exact fun i j nm=>Qbc i j nm
 have hmemR:∀ nm∈qbd cap,nm∈Rn:=fun nm hn=>by rw[←hRd];exact qn7.2 (qcn _ _ nm hn)
 split at hev
 case h_1=>cases hev
 rename_i ins hins
 obtain⟨hk,hev⟩:=qbh hev
 simp only[Bool.and_eq_true,Bool.not_eq_true'] at hk
 obtain⟨hne,hy,hshut,hoy⟩:=hk
 split at hev
 case h_2=>cases hev
 rename_i stE s0 p e3 hrio
 obtain⟨hmb,hev⟩:=qbh hev
 split at hev
 case h_2=>cases hev
 rename_i out hend
 obtain⟨hgo,hev⟩:=qbh hev
 simp only[Bool.and_eq_true] at hgo
 obtain⟨hgone,hnewY,hupsY⟩:=hgo
 cases hev
 generalize hrf:Qd8 Rn s0=s at hmb hend hQ
 obtain⟨fst,caps,hfv,hfk,hcaps⟩:=qtt hrep
 obtain⟨m1,m2⟩:=qwn Rn ins hins
 refine wpIn_rangeFunc fun fn _=>?_
 obtain⟨l,mark,w1,rc,hent,c1,c2,c3,c4,c5,c6,c7,c8,c9,c10,c11,c12,c13⟩:=Qmg (ro:=ro) hro hf fn a.tmps ps assign body
 have hoff1:∀ b,I b∨F b∨blk L b→b < w.heap.size:=fun b hb=>by
  rcases hb with hb | hb | ⟨nm,C,hb⟩
  ·exact hf.sep.iB b hb
  ·exact (hf.sep.fB b hb).1
  ·exact (hf.lB nm b C hb).2.1
 have hIk:∀ b,I b→w1.heap[b]?=w.heap[b]?:=fun b hb=>c12 b (hoff1 b (.inl hb))
 have hs1':SR lp I L st a.tmps.toList suf w1:=hs.keeps (fun _ h=>h) hIk fun nm b C hn=>c12 b (hoff1 b (.inr (.inr ⟨nm,C,hn⟩)))
 have hf1':Fr cx w0 I0 F0 O0 Hd R e a.defers I F L w1:=hf.own c8 c9 c10 c11 (fun b hb _=>c12 b hb) (fun _ h=>h) (fun _ h=>.inl h)
  (fun nm b C hn=>⟨by have:=(hf.lB nm b C hn).2.1;omega,(hf.lB nm b C hn).2.2.1,.inr ⟨nm,C,hn⟩⟩) hf.inj
 have hl0:w0.heap.size≤l:=by have:=hf.ext.size;omega
 let lp2:Nat→Option Nat:=fun d=>if dep≤d∧d < dep+Rn.length then (match L (Rn.getD (d - dep) (0,0)) with
  | some (some (b,_))=>some (2*b+1)
  | _=>none) else lp d
 have hlp2:lpLe lp lp2:=fun d l hd=>by
  have:=href.dep d l hd
  simp only[lp2]
  rw[if_neg (by omega)];exact hd
 have hA:∀ nm b C,nm∈Rn→L nm=some (some (b,C))→lp2 (dep+Rn.idxOf nm)=some (2*b+1):=by
  intro nm b C hm hn
  have hi:=List.idxOf_lt_length_of_mem hm
  simp only[lp2]
  rw[if_pos (by omega),show dep+Rn.idxOf nm - dep=Rn.idxOf nm by omega,List.getD_eq_getElem?_getD,Qj0 hm]
  simp[hn]
 have hRs:∀ nm∈Rn,∃ ob,qbf st.objs nm=some ob:=by
  intro nm hn
  obtain⟨j,hj,hget⟩:=List.getElem_of_mem hn
  obtain⟨ob,_,h2⟩:=m2 j nm (by rw[List.getElem?_eq_getElem hj,hget])
  exact⟨ob,h2⟩
 have hs0:=awaySt_ok (dep:=dep) hs1' hRs hlp2 hA
 have href2:Ref cx lp2 R (awayH dep Rn.length h) (dep+Rn.length) w0 I0 F0:=by
  obtain⟨⟨Ir,Fr_,wr,hand,hxr⟩,hdp⟩:=href
  refine⟨⟨Ir,Fr_,wr,?_,hxr⟩,?_⟩
  ·intro d args e b e' l' hh hl'
   unfold awayH at hh
   split at hh
   ·cases hh
   ·rename_i hd
    refine hand d args e b e' l' hh ?_
    simp only[lp2] at hl'
    rwa [if_neg hd] at hl'
  ·intro d l' hd
   simp only[lp2] at hd
   split at hd
   ·omega
   ·have:=hdp d l' hd;omega
 have hx1:Ext I0 F0 w0 I (fun b=>F b∨blk L b∨b=l) w1:=⟨hf1'.ext.os,hf1'.ext.tape,hf1'.ext.output,hf1'.ext.size,hf1'.ext.keep,hf1'.ext.subI,hf1'.ext.newI,fun b hb=>by
  rcases hb with hb | ⟨nm,C,hb⟩ | rfl
  ·exact hf1'.ext.newF b hb
  ·exact (hf1'.lB nm b C hb).1.elim .inr fun ho=>.inl (hf1'.oF b ho)
  ·exact .inr hl0⟩
 have hhand:=Qk5 (O0:=O0) (M:=M) (fuel:=fuel) (suf:=suf) href2 hx1 (l:=l) (rc:=rc) c1 c2 c3 hl0 hca hcb
 obtain⟨hen,gone,nt,hvl,hil,hnt0,hcon⟩:=hR (Rec E) _ _ _ _ _ _ _ _ hrio
 have hIl:¬ I l:=fun hb=>by have:=hf.sep.iB l hb;omega
 have hFl:¬ F l:=fun hb=>by have:=(hf.sep.fB l hb).1;omega
 have hLl:¬ blk L l:=fun hb=>by have:=hoff1 l (.inr (.inr hb));omega
 have hRL:∀ nm∈Rn,∃ p ob,L nm=some p∧qbf st.objs nm=some ob∧qha w1 I lp L ob p:=by
  intro nm hn
  obtain⟨ob,h2⟩:=hRs nm hn
  obtain⟨p,hp,ha⟩:=hs1'.ob nm ob h2
  exact⟨p,ob,hp,h2,ha⟩
 let Lc:Loc:=fun m=>if m.1=0 then (Rn[m.2]?).bind L else none
 let fr:Nm→Nm:=fun m=>(0,Rn.idxOf m)
 let LR:Loc:=fun m=>if m∈Rn then L m else none
 let lpc:Nat→Option Nat:=fun d=>if d=dep+Rn.length then some (2*l) else lp2 d
 have hren:∀ nm p,LR nm=some p→Lc (fr nm)=some p:=by
  intro nm p hp
  simp only[LR] at hp
  split at hp
  ·rename_i hm
   simp only[Lc,fr,if_true,Qj0 hm,Option.bind_some,hp]
  ·cases hp
 have hLc:∀ nm p,Lc nm=some p→∃ t,Rn[nm.2]?=some t∧nm.1=0∧L t=some p:=by
  intro nm p hp
  simp only[Lc] at hp
  split at hp
  ·rename_i h1
   cases hr:Rn[nm.2]? with
   | none=>rw[hr] at hp;simp at hp
   | some t=>rw[hr] at hp;exact⟨t,rfl,h1,by simpa using hp⟩
  ·cases hp
 have hcap2:qbn w1 I lpc (some Lc) (qf1 fr cap) (fst.toList++caps.toList):=by
  have h0:qbn w1 I lp (some L) cap (fst.toList++caps.toList):=qbn.mono (fun _ h=>h) hIk (fun _ _ h=>h) hcaps
  have h1:qbn w1 I lpc (some L) cap (fst.toList++caps.toList):=h0.noY hy
  have h2:qbn w1 I lpc (some LR) cap (fst.toList++caps.toList):=h1.narrow fun nm hn p hp=>by simp only[LR,hmemR nm hn,if_true];exact hp
  exact h2.rename hren
 have hargs:qbn w1 I lpc (some Lc) (qb3 g [.yld (dep+Rn.length)] (qf1 fr cap)) (fst.toList++([.func (.yield l) #[] #[]]++caps.toList)) :=
  qpi hfk hcap2 (.cons _ _ _ _ (by rw[←Qbl];exact .yld (dep+Rn.length) (2*l) (by simp[lpc])) .nil)
 have hil2:(ins.map (Ob.ren fr)).length=Rn.length:=by rw[List.length_map,m1]
 let wv:List Value:=(List.range nt).map fun j=>match (Rn[j]?).bind L with
  | some (some (b,C))=>.slice (some ⟨b,0,none⟩) 0 C
  | _=>.slice none 0 0
 have hRlen:Rn.length≤nt:=by rw[←hil2];exact hil
 have hwvj:∀ (j:Nat) nm,Rn[j]?=some nm→wv.getD j undef=(match L nm with
    | some (some (b,C))=>.slice (some ⟨b,0,none⟩) 0 C
    | _=>.slice none 0 0):=by
  intro j nm hj
  have hjl:j < nt:=by have:=(List.getElem?_eq_some_iff.1 hj).1;omega
  rw[List.getD_eq_getElem?_getD,List.getElem?_map,List.getElem?_range hjl]
  simp only[Option.map_some,Option.getD_some,hj,Option.bind_some]
 have hwit:qbn w1 I lpc (some Lc) (Qhs gone nt Rn.length) wv:=by
  refine qbn.of_get (by simp[Qhs,wv]) fun i y v hy' hv=>?_
  simp only[Qhs,List.getElem?_map,Option.map_eq_some_iff] at hy'
  obtain⟨j,hj,rfl⟩:=hy'
  have hlt:i < nt∧j=i:=by
   obtain⟨h1,h2⟩:=List.getElem?_eq_some_iff.1 hj
   simp at h1 h2
   exact⟨h1,h2.symm⟩
  obtain⟨hlt,rfl⟩:=hlt
  split
  case isFalse=>exact .undef _
  rename_i hjR0
  have hjR:=hjR0.1
  have ht:Rn[j]?=some Rn[j]:=List.getElem?_eq_getElem hjR
  have hv2:=hwvj j _ ht
  rw[List.getD_eq_getElem?_getD,hv] at hv2
  simp only[Option.getD_some] at hv2
  subst hv2
  obtain⟨p,ob,hp,_,_⟩:=hRL _ (List.mem_of_getElem? ht)
  have hlc:Lc (0,j)=some p:=by simp only[Lc,if_true,ht,Option.bind_some,hp]
  rw[hp]
  cases p with
  | none=>exact .arrN _ _ hlc
  | some p =>
   obtain⟨b,C⟩:=p
   have:=qbr.arr (w:=w1) (I:=I) (lp:=lpc) (L:=Lc) (0,j) 1 0 0 C b C hlc (by omega) (Nat.zero_le _)
   simpa using this
 have hst0:SR lpc I Lc (Qdp gone nt (ins.map (Ob.ren fr)) (qb3 g [.yld (dep+Rn.length)] (qf1 fr cap))) ((fst.toList++([.func (.yield l) #[] #[]]++caps.toList))++List.replicate (nt - (fst.toList++([Value.func (.yield l) #[] #[]]++caps.toList)).length) undef) wv w1:=by
  have hlen0:0 < (List.replicate nt ([]:List Ob)).length:=by simpa using hnt0
  have hempty:∀ nm:Nm,nm.1≠0→qbf ((List.replicate nt []).set 0 (ins.map (Ob.ren fr))) nm=none:=by
   intro nm h1
   rw[qbw _ h1]
   unfold qbf
   cases hg:(List.replicate nt ([]:List Ob))[nm.1]? with
   | none=>rfl
   | some l =>
    have:=List.eq_of_mem_replicate (List.mem_of_getElem? hg)
    subst this
    simp
  refine⟨?_,?_,?_,?_⟩
  ·have hl:=hargs.length
   have h2:qbn w1 I lpc (some Lc) (List.replicate (nt - (qb3 g [.yld (dep+Rn.length)] (qf1 fr cap)).length) PV.undef) (List.replicate (nt - (qb3 g [.yld (dep+Rn.length)] (qf1 fr cap)).length) undef):=qbn.undefs _ _ (by simp)
   have:=hargs.append h2
   rw[←hl]
   exact this
  ·show qbn w1 I lpc (some Lc) (Qhs gone nt (ins.map (Ob.ren fr)).length) wv
   rw[hil2];exact hwit
  ·intro nm ob hl
   have hobj:qbf ((List.replicate nt []).set 0 (ins.map (Ob.ren fr))) nm=some ob:=hl
   by_cases h1:nm.1=0
   ·obtain⟨a,j⟩:=nm
    simp only at h1;subst h1
    rw[qb0 _ hlen0,List.getElem?_map] at hobj
    obtain⟨ob0,ho0,rfl⟩:=Option.map_eq_some_iff.1 hobj
    have hj:j < Rn.length:=by have:=(List.getElem?_eq_some_iff.1 ho0).1;omega
    have hRt:Rn[j]?=some Rn[j]:=List.getElem?_eq_getElem hj
    obtain⟨ob1,h3,h4⟩:=m2 j _ hRt
    rw[ho0] at h3;cases h3
    obtain⟨p,hp,ha⟩:=hs1'.ob _ ob0 h4
    refine⟨p,by simp only[Lc,if_true,hRt,Option.bind_some,hp],?_⟩
    have hyo:ob0.hasY=false:=by
     have:=List.all_eq_true.1 hoy ob0 (List.mem_of_getElem? ho0)
     simpa using this
    have hnarrow:qha w1 I lpc LR ob0 p:=(ha.noY hyo).narrow fun m hm q hq=>by
     have:m∈Rn:=qpz hshut (List.mem_of_getElem? hRt) h4 m hm
     simp only[LR,this,if_true];exact hq
    exact hnarrow.ren hren
   ·rw[hempty nm h1] at hobj;cases hobj
  ·intro nm hl
   have hobj:qbf ((List.replicate nt []).set 0 (ins.map (Ob.ren fr))) nm=none:=hl
   simp only[Lc]
   split
   ·rename_i h1
    obtain⟨a,j⟩:=nm
    simp only at h1;subst h1
    rw[qb0 _ hlen0,List.getElem?_map] at hobj
    have h2:ins[j]?=none:=by simpa using hobj
    have:Rn[j]?=none:=List.getElem?_eq_none_iff.2 (by have:=List.getElem?_eq_none_iff.1 h2;omega)
    rw[this];rfl
   ·rfl
 have hAl:∀ nm b C,qk3 Rn L nm=some (some (b,C))→nm ∉ Rn∧L nm=some (some (b,C)):=by
  intro nm b C hn
  by_cases hm:nm∈Rn
  ·rw[qzi hm] at hn;cases hn
  ·rw[qp9 hm] at hn;exact⟨hm,hn⟩
 let O:Nat→Prop:=fun b=>∃ nm C,nm∈Rn∧L nm=some (some (b,C))
 have hFc:∀ b,(F b∨blk (qk3 Rn L) b∨b=l)→(F b∨blk L b∨b=l):=fun b hb=>by
  rcases hb with hb | ⟨nm,C,hb⟩ | rfl
  ·exact .inl hb
  ·exact .inr (.inl ⟨nm,C,(hAl nm b C hb).2⟩)
  ·exact .inr (.inr rfl)
 have hfr0:Fr cx w1 I (fun b=>F b∨blk L b∨b=l) ⟨O,[]⟩ (fun _=>none) (Qk6 w0 O0 R lp2 l rc rc.tmps.toList suf) (Qhe dep Rn st,none,e) [] I (fun b=>F b∨blk (qk3 Rn L) b∨b=l) Lc w1:=by
  refine⟨⟨rfl,rfl,rfl,Nat.le_refl _,fun _ _ _=>rfl,fun _ h=>h,fun _ h=>.inl h,fun b hb=>.inl (hFc b hb)⟩,⟨hf1'.sep.iB,fun b hb=>?_⟩,fun b hb=>?_,fun nm b C hn=>?_,fun nm nm' b C C' hn hn'=>?_,hf1'.wd,?_,.nil,fun b ob hb=>by cases hb⟩
  ·rcases hFc b hb with hb | ⟨nm,C,hb⟩ | rfl
   ·exact hf1'.sep.fB b hb
   ·exact⟨(hf1'.lB nm b C hb).2.1,(hf1'.lB nm b C hb).2.2.1⟩
   ·exact⟨c7,hIl⟩
  ·obtain⟨nm,C,_,hn⟩:=hb
   exact .inr (.inl ⟨nm,C,hn⟩)
  ·obtain⟨t,h1,_,h2⟩:=hLc nm _ hn
   obtain⟨_,g2,g3,g4⟩:=hf1'.lB t b C h2
   refine⟨.inr ⟨t,C,List.mem_of_getElem? h1,h2⟩,g2,g3,fun hb=>?_⟩
   rcases hb with hb | ⟨nm',C',hb⟩ | rfl
   ·exact g4 hb
   ·obtain⟨q1,q2⟩:=hAl nm' b C' hb
    have:=hf1'.inj t nm' b C C' h2 q2
    subst this
    exact q1 (List.mem_of_getElem? h1)
   ·exact hLl ⟨t,C,h2⟩
  ·obtain⟨t,h1,h3,h2⟩:=hLc nm _ hn
   obtain⟨t',h1',h3',h2'⟩:=hLc nm' _ hn'
   have:=hf1'.inj t t' b C C' h2 h2'
   subst this
   exact Prod.ext (h3.trans h3'.symm) (hRn _ _ t h1 h1')
  ·refine⟨qk3 Rn L,F,by rw[c4];exact hs0,fun b=>Iff.rfl,fun b hb=>?_,hFl,fun nm nm' b C C' hn hn'=>hf1'.inj nm nm' b C C' (hAl nm b C hn).2 (hAl nm' b C' hn').2,c5,hf1'.re⟩
   obtain⟨nm,C,hn⟩:=hb
   have hn:=(hAl nm b C hn).2
   exact⟨(hf1'.lB nm b C hn).2.2.2,fun e=>hLl ⟨nm,C,e ▸ hn⟩,(hf1'.lB nm b C hn).1⟩
 have hcalls:=hcon (Qk6 w0 O0 R lp2 l rc rc.tmps.toList suf) lpc w1 I (fun b=>F b∨blk L b∨b=l) _ O Lc _ wv hhand (fun d l' hd=>by
  simp only[lpc] at hd
  split at hd
  ·omega
  ·have:=href2.dep d l' hd;omega) hargs.length.symm hst0 hfr0
 refine⟨l,mark,w1,{target:=.fn (.func (qd2 g)) caps,args:=fst++#[.func (.yield l) #[] #[]]},w1,qd2 g,fst++#[.func (.yield l) #[] #[]]++caps,w1,hent,?_,fun _ _=>trivial,?_,fun h=>by simp[fen] at h,?_⟩
 ·have hfv':a.eval f=.func (.func (qd2 g)) fst caps:=hfv
  have hcv:a.eval (.const (.func (.yield l) #[] #[]))=.func (.yield l) #[] #[]:=rfl
  simp only[resolve,rangeCall,hfv',Deferred.ofValue]
  simp[hcv]
 ·obtain⟨fn',hfn,hname,hbody⟩:=hen
  have hb:¬ fn'.body=none:=by intro h;rw[h] at hbody;cases hbody
  have hname:¬ fn'.name = "runtime.NumGoroutine":=by intro h;rw[h] at hname;simp at hname
  simp[invoke,callFunc,hfn,hname,hb]
 ·have harr:(fst.toList++([Value.func (.yield l) #[] #[]]++caps.toList)).toArray=fst++#[.func (.yield l) #[] #[]]++caps:=by
   apply Array.ext'
   simp
  rw[harr] at hcalls
  refine qql (CallsIn.mono' hcalls fun en w3 hr=>?_)
  cases en with
  | panicked chain=>exact hr.elim
  | outgrown=>exact hr.elim
  | returned v =>
   obtain⟨tmvE,I',F',L',hsE,hfE⟩:=hr
   obtain⟨Ls0,Fo,g1,g2,g3,g4,g5,g6,g7⟩:=hfE.re
   simp only at g1 g6 g7
   obtain⟨Ls,g1,hiff⟩:=refill_ok (R:=Rn) g1
   rw[hrf] at g1
   have hblk:∀ b,blk Ls0 b=blk Ls b:=fun b=>propext ⟨fun ⟨nm,C,h⟩=>⟨nm,C,(hiff _ _ _).2 h⟩,fun ⟨nm,C,h⟩=>⟨nm,C,(hiff _ _ _).1 h⟩⟩
   simp only[hblk,←hiff] at g2 g3 g5
   have hoff:∀ b,b < w1.heap.size→¬ I b→¬ F b→¬ blk L b→b≠l→¬ I' b∧¬ F' b∧w3.heap[b]?=w1.heap[b]?:=fun b h1 h2 h3 h4 h5=>by
    have hF:¬ (F b∨blk L b∨b=l):=fun h=>by rcases h with h | h | h<;>first | exact h3 h | exact h4 h | exact h5 h
    exact⟨fun h=>by rcases hfE.ext.newI b h with h | h | h<;>first | exact h2 h | exact hF h | omega,fun h=>by rcases hfE.ext.newF b h with h | h<;>first | exact hF h | omega,hfE.ext.keep b h1 hF⟩
   have hF'l:F' l:=(g2 l).2 (.inr (.inr rfl))
   have hLl':∀ nm C,Ls nm≠some (some (l,C)):=fun nm C hn=>(g3 l ⟨nm,C,hn⟩).2.1 rfl
   have hnotF:∀ b,¬ F' b→¬ Fo b∧∀ nm C,Ls nm≠some (some (b,C)):=fun b hb=>⟨fun h=>hb ((g2 b).2 (.inl h)),fun nm C hn=>hb ((g2 b).2 (.inr (.inl ⟨nm,C,hn⟩)))⟩
   have hsz:=hfE.ext.size
   have hmk:qgg w0.heap.size I' Fo Ls w3 (mark++a.defers) O0.dfs:=by
    have hm0:qgg w0.heap.size I' Fo Ls w3 a.defers O0.dfs:=hf.mks.move (by omega) fun D d1 d2 d3 d4 d5=>by
     obtain⟨q1,q2,q3⟩:=hoff D (by omega) d3 d4 (fun ⟨nm,C,hn⟩=>d5 nm C hn) (by omega)
     exact⟨q3.trans (c12 D d1),q1,(hnotF D q2).1,(hnotF D q2).2⟩
    rcases c13 with rfl | ⟨rfl,k1,k2⟩
    ·exact hm0
    ·obtain⟨q1,q2,q3⟩:=hoff w.heap.size (by omega) (fun h=>by have:=hoff1 _ (.inl h);omega) (fun h=>by have:=hoff1 _ (.inr (.inl h));omega) (fun h=>by have:=hoff1 _ (.inr (.inr h));omega) (by omega)
     refine .cons w.heap.size _ _ hf.ext.size (by omega) q1 (hnotF _ q2).1 (hnotF _ q2).2 (q3.trans k1) (fun d hd he=>?_) hm0
     have:=hf.mks.lt d.target (List.mem_map.2 ⟨d,hd,rfl⟩) _ he
     omega
   have hmne:∀ D,D∈(mark++a.defers).map (·.target)→D≠.collected l:=by
    intro D hD he
    rw[List.map_append] at hD
    rcases List.mem_append.1 hD with hD | hD
    ·rcases c13 with rfl | ⟨rfl,k1,k2⟩
     ·simp at hD
     ·simp only[List.map_cons,List.map_nil,List.mem_singleton] at hD
      rw[hD] at he
      cases he
      omega
    ·have:=hf.mks.lt D hD l he
     omega
   have hf3:Fr cx w0 I0 F0 O0 (fun b=>if b=l then some (.loop (qc3 rc p)) else Hd b) R e2 (mark++a.defers) I' Fo Ls w3:=by
    refine⟨(hx1.trans hfE.ext).less fun b hb=>(g2 b).2 (.inl hb),⟨hfE.sep.iB,fun b hb=>hfE.sep.fB b ((g2 b).2 (.inl hb))⟩,hf.oF,fun nm b C hn=>?_,g5,hfE.wd,g7,hmk,fun b ob hb=>?_⟩
    ·have hb:blk Ls b:=⟨nm,C,hn⟩
     have hF:=hfE.sep.fB b ((g2 b).2 (.inr (.inl hb)))
     exact⟨(g3 b hb).2.2,hF.1,hF.2,(g3 b hb).1⟩
    ·by_cases hbl:b=l
     ·subst hbl
      simp only[if_true,Option.some.injEq] at hb
      subst hb
      exact⟨(hfE.sep.fB b hF'l).1,(hfE.sep.fB b hF'l).2,g4,hLl',g6⟩
     ·simp only[hbl,if_false] at hb
      obtain⟨d1,d2,d3,d4,d5⟩:=hf.hld b ob hb
      obtain⟨q1,q2,q3⟩:=hoff b (by omega) d2 d3 (fun ⟨nm,C,hn⟩=>d4 nm C hn) hbl
      exact⟨by omega,q1,(hnotF b q2).1,(hnotF b q2).2,(q3.trans (c12 b d1)).trans d5⟩
   have hbusy:(qc3 rc p).state≠.busy:=by cases p<;>simp[qc3]
   have hend2:=run_endLoop (P:=cx.P) g6 hbusy
   have hf4:=hf3.hput (ob':=.loop {qc3 rc p with state:=.exhausted}) (l:=l) (ob:=.loop (qc3 rc p)) (by simp) (.inl hl0) hmne
   have hf5:Fr cx w0 I0 F0 O0 Hd R e2 (mark++a.defers) I' Fo Ls (w3.putObj l (.loop {qc3 rc p with state:=.exhausted})):=hf4.hold fun b ob hb=>by
    have hlt:=(hf.hld b ob hb).1
    have hbl:b≠l:=by omega
    simp[hbl,hb]
   have hs5:SR lp2 I' Ls s a.tmps.toList suf (w3.putObj l (.loop {qc3 rc p with state:=.exhausted})):=by
    rw[c4] at g1
    exact g1.hput _ (hfE.sep.fB l hF'l).2 hLl'
   have hsE5:SR lpc I' L' stE tmvE wv (w3.putObj l (.loop {qc3 rc p with state:=.exhausted})):=hsE.hput _ (hfE.sep.fB l hF'l).2 fun nm C hn=>(hfE.lB nm l C hn).2.2.2 hF'l
   obtain⟨hRs2,hobY⟩:=Qg2 hmb
   obtain⟨r,hr0⟩:∃ r rs,Rn=r :: rs:=by
    cases Rn with
    | nil=>simp at hne
    | cons r rs=>exact⟨r,rs,rfl⟩
   obtain⟨rs,hr0⟩:=hr0
   have hplace:∃ i1,qra (some r.1) r.1 i1 Rn stE (.tup [])=some out∧qm4 (qbf s.objs) r.1=some i1:=by
    unfold qjd at hend
    rw[hr0] at hend ⊢
    simp only at hend
    split at hend
    ·rename_i i1 hi1;exact⟨i1,hend,hi1⟩
    ·cases hend
   obtain⟨i1,hend,hi1⟩:=hplace
   obtain⟨N,B,hB,hBn,hout⟩:=qpg hend
   have hlen:∃ l,s.objs[r.1]?=some l∧l.length=i1:=by
    obtain⟨ob,ho⟩:=hRs2 r (by rw[hr0];exact List.mem_cons_self)
    exact qyz (d:=r.1) (j:=r.2) ho hi1
   have hslot:∀ i:Nat,(∃ x,N[i]?=some x)→Ls (r.1,i1+i)=none:=by
    rintro i _
    obtain⟨l,h1,h2⟩:=hlen
    refine hs5.dom _ ?_
    unfold qbf
    rw[h1]
    exact List.getElem?_eq_none_iff.2 (by simp only;omega)
   have hRLs:∀ t∈Rn,∃ p,Ls t=some p:=fun t h=>by
    obtain⟨ob,ho⟩:=hRs2 t h
    obtain⟨p,hp,_⟩:=hs5.ob t ob ho
    exact⟨p,hp⟩
   have hU:=uniqB (aN:=fun k=>(qhu (stE.keep.getD k .undef)).getD (0,k)) hB hRn hRLs hslot
   have hgone':qps Rn stE.keep=[]:=by
    rw[hout] at hgone
    exact List.isEmpty_iff.1 hgone
   have hwt:∀ (j:Nat) nm,Rn[j]?=some nm→qbr (w3.putObj l (.loop {qc3 rc p with state:=.exhausted})) I' lpc (some L') (.arr ((qhu (stE.keep.getD j .undef)).getD (0,j)) 1 0 0) (match L nm with
    | some (some (b,C))=>.slice (some ⟨b,0,none⟩) 0 C
    | _=>.slice none 0 0):=by
    intro j nm hj
    have hsome:(qhu (stE.keep.getD j .undef)).isSome=true:=by
     cases hw:qhu (stE.keep.getD j .undef) with
     | some q=>rfl
     | none =>
      have:nm∈qps Rn stE.keep:=List.mem_map.2 ⟨(nm,j),List.mem_filter.2 ⟨List.mem_zipIdx_iff_getElem?.2 hj,by simp only[hw];rfl⟩,rfl⟩
      rw[hgone'] at this
      cases this
    obtain⟨q,hq⟩:=Option.isSome_iff_exists.1 hsome
    simp only[hq,Option.getD_some]
    have hkeep:=hsE5.kp.getD j undef
    have hval:=hwvj j nm hj
    have hform:stE.keep.getD j .undef=.arr q 1 0 0:=by
     unfold qhu at hq
     split at hq
     ·rename_i nm' heq;cases hq;exact heq
     ·cases hq
    rw[hform,hval] at hkeep
    exact hkeep
   have hge:∀ (j:Nat) nm b C,Rn[j]?=some nm→L nm=some (some (b,C))→∃ C',C≤C'∧L' ((qhu (stE.keep.getD j .undef)).getD (0,j))=some (some (b,C')):=by
    intro j nm b C hj hp
    have hkeep:=hwt j nm hj
    rw[hp] at hkeep
    rcases qje hkeep with ⟨b',C',cap,h,hv,hC,hn⟩ | ⟨h,hv,_,_⟩
    ·simp only[Value.slice.injEq,Option.some.injEq,Addr.mk.injEq] at hv
     obtain⟨⟨rfl,_,_⟩,_,rfl⟩:=hv
     exact⟨C',by omega,h⟩
    ·simp at hv
   have hgeN:∀ (j:Nat) nm,Rn[j]?=some nm→L nm=some none→L' ((qhu (stE.keep.getD j .undef)).getD (0,j))=some none:=by
    intro j nm hj hp
    have hkeep:=hwt j nm hj
    rw[hp] at hkeep
    rcases qje hkeep with ⟨b',C',cap,h,hv,hC,hn⟩ | ⟨h,hv,_,_⟩
    ·simp at hv
    ·exact h
   have hY:∀ d l,lp2 d=some l→(¬ (dep≤d∧d < dep+Rn.length)→lp d=some l)∧(dep≤d∧d < dep+Rn.length→∃ b C,l=2*b+1∧qfq Ls L' B (Rn.getD (d - dep) (0,0))=some (some (b,C))):=by
    intro d l' hd
    simp only[lp2] at hd
    refine⟨fun hn=>by rwa [if_neg hn] at hd,fun hn=>?_⟩
    rw[if_pos hn] at hd
    have hj:Rn[d - dep]?=some (Rn.getD (d - dep) (0,0)):=by
     have hlt:d - dep < Rn.length:=by omega
     rw[List.getD_eq_getElem?_getD,List.getElem?_eq_getElem hlt];rfl
    split at hd
    ·rename_i b C hLb
     cases hd
     obtain⟨C',_,hC'⟩:=hge _ _ b C hj hLb
     refine⟨b,C',rfl,?_⟩
     rw[qmh hU ((qnd (aN:=fun k=>(qhu (stE.keep.getD k .undef)).getD (0,k)) hB _ _).2 (.inl ⟨d - dep,hj,rfl⟩)),hC'];rfl
    ·cases hd
   have hsF:=back_sr (aN:=fun k=>(qhu (stE.keep.getD k .undef)).getD (0,k)) (v0:=((PV.tup []).sub (qj9 B)).ren (qfv B)) hs5 hsE5 hY hmb hRn hlen hBn hB (fun m hm=>by
     rw[hout] at hnewY
     have:=List.all_eq_true.1 hnewY _ (List.mem_map.2 ⟨m,hm,rfl⟩)
     simpa[obTo] using this) (fun j t hj=>by
     rw[hout] at hupsY
     have:=List.all_eq_true.1 hupsY _ (List.mem_map.2 ⟨(t,j),List.mem_zipIdx_iff_getElem?.2 hj,rfl⟩)
     simpa[obTo] using this)
   have hfF:=back_fr (L':=L') hf5 hU hBn (fun nm b C hn=>by
     obtain⟨q1,q2,q3,q4⟩:=hfE.lB nm b C hn
     have hO:(w0.heap.size≤b∨O0 b)∧(∀ ob,Hd b≠some ob)∧∀ d∈mark++a.defers,d.target≠.collected b:=by
      rcases q1 with q1 | ⟨t,C',ht,hLt⟩
      ·have h00:=hf.ext.size
       refine⟨.inl (by omega),fun ob hb=>by have:=(hf.hld b ob hb).1;omega,fun d hd he=>?_⟩
       rcases List.mem_append.1 hd with hd | hd
       ·rcases c13 with rfl | ⟨rfl,k1,k2⟩
        ·cases hd
        ·rw[List.mem_singleton.1 hd] at he
         cases he
         omega
       ·have:=hf.mks.lt d.target (List.mem_map.2 ⟨d,hd,rfl⟩) b he
        omega
      ·refine⟨(hf.lB t b C' hLt).1,fun ob hb=>(hf.hld b ob hb).2.2.2.1 t C' hLt,fun d hd he=>?_⟩
       rcases List.mem_append.1 hd with hd | hd
       ·rcases c13 with rfl | ⟨rfl,k1,k2⟩
        ·cases hd
        ·rw[List.mem_singleton.1 hd] at he
         cases he
         have:=(hf.lB t _ C' hLt).2.1
         omega
       ·exact hf.mks.noL d hd b he t C' hLt
     exact⟨by rw[World.putObj_size];exact q2,q3,(hnotF b q4).1,hO.1,(hnotF b q4).2,hO.2.1,hO.2.2⟩) hfE.inj
   have hout2:out={v:=((PV.tup []).sub (qj9 B)).ren (qfv B),new:=N.map (obTo stE B),ups:=Rn.zipIdx.map fun p=>(p.1,obTo stE B ((qhu (stE.keep.getD p.2 .undef)).getD (0,p.2))),gone:=[],io:=true,slot:=some r.1}:=by
    rw[hout,hgone']
    rfl
   rw[←hout2] at hsF
   have hsK:SR lp I' (qfq Ls L' B) (Qn6 Rn st.keep (apply (Qhc dep Rn s) none out)) a.tmps.toList suf (w3.putObj l (.loop {qc3 rc p with state:=.exhausted})):=by
    refine⟨hsF.tm,qw0 hsF.kp hs.kp fun nm hm v hv=>?_,hsF.ob,hsF.dom⟩
    obtain⟨j,hj,hget⟩:=List.getElem_of_mem hm
    have hjR:Rn[j]?=some nm:=by rw[List.getElem?_eq_getElem hj,hget]
    have hin:=(qnd (aN:=fun k=>(qhu (stE.keep.getD k .undef)).getD (0,k)) hB _ _).2 (.inl ⟨j,hjR,rfl⟩)
    rcases qje hv with ⟨b,C,cap,h,hv,hC,hn⟩ | ⟨h,hv,_,_⟩
    ·obtain⟨C',hCC,hC'⟩:=hge j nm b C hjR h
     rw[hv]
     exact .arr nm 1 0 0 cap b C' (by rw[qmh hU hin,hC'];rfl) (by omega) hn
    ·rw[hv]
     exact .arrN nm 1 (by rw[qmh hU hin,hgeN j nm hjR h];rfl)
   refine⟨(qc3 rc p).pending,_,hend2,?_⟩
   have hq:=hQ {a with defers:=mark++a.defers} _ I' Fo _ hsK hfF
   cases p with
   | none=>exact hq
   | some x =>
    cases x with
    | normal=>exact hq
    | exit id =>
     generalize w3.putObj l (.loop {qc3 rc (some (.exit id)) with state:=.exhausted})=wz at hq ⊢
     simp only[Option.getD_some,qs0] at hq
     simp only[qc3,qtr]
     by_cases hid:id < qf6
     ·simp only[hid,if_true] at hq ⊢;exact wpIn_exit hq
     ·simp only[hid,if_false] at hq ⊢;exact wpIn_goto hq
    | ret=>exact wpIn_ret hq
theorem Qk8 (hM:qgs cx M.call) (hsp:MSp cx M) (href:Ref cx lp R h dep w0 I0 F0) {ro:Option Nat} (hro:∀ l0,ro=some l0→∃ r0,Hd l0=some (.loop r0)) {f:Operand} {ps:Array Nat} {assign body:Code} {rb:qcm} (hca:qr5 cx dd M fuel assign) (hcb:qfa cx M fuel rb body)
  {rf:RX} (hrx:rx cx.G f=some rf) {x:Ex} (hev:qbk M fuel (.rangeFunc rf ps.toList (qdg cx.P cx.G dd assign) rb) h dep st e=some (x,st2,e2))
  (hs:SR lp I L st a.tmps.toList suf w) (hf:Fr cx w0 I0 F0 O0 Hd R e a.defers I F L w) {Q:Exit→Act→World→Prop}
  (hQ:∀ a' w' I' F' L',SR lp I' L' st2 a'.tmps.toList suf w'→Fr cx w0 I0 F0 O0 Hd R e2 a'.defers I' F' L' w'→Q (qs0 x) a' w'):(Code.rangeFunc f ps assign body).wpIn (fen ro) 0 cx.P Q a w:=by
 rw[Qj9] at hev
 split at hev
 ·exact rio_ok hsp.rio href hro hca hcb hrx hev hs hf hQ
 split at hev
 case h_2=>cases hev
 rename_i g cap st1 hfz
 split at hev
 case h_2=>cases hev
 rename_i r obs s p e3 hcall
 cases hev
 obtain⟨I1,L1,hs1,hf1,hrep⟩:=freezeV_ok hs hf (qb4 hs hf.wd hrx) hfz
 obtain⟨fst,caps,hfv,hfk,hcaps⟩:=qtt hrep
 refine wpIn_rangeFunc fun fn _=>?_
 obtain⟨l,mark,w1,rc,hent,c1,c2,c3,c4,c5,c6,c7,c8,c9,c10,c11,c12,c13⟩:=Qmg (ro:=ro) hro hf1 fn a.tmps ps assign body
 have hoff1:∀ b,I1 b∨F b∨blk L1 b→b < w.heap.size:=fun b hb=>by
  rcases hb with hb | hb | ⟨nm,C,hb⟩
  ·exact hf1.sep.iB b hb
  ·exact (hf1.sep.fB b hb).1
  ·exact (hf1.lB nm b C hb).2.1
 have hs1':SR lp I1 L1 st1 a.tmps.toList suf w1:=hs1.keeps (fun _ h=>h) (fun b hb=>c12 b (hoff1 b (.inl hb))) fun nm b C hn=>c12 b (hoff1 b (.inr (.inr ⟨nm,C,hn⟩)))
 have hf1':Fr cx w0 I0 F0 O0 Hd R e a.defers I1 F L1 w1:=hf1.own c8 c9 c10 c11 (fun b hb _=>c12 b hb) (fun _ h=>h) (fun _ h=>.inl h)
  (fun nm b C hn=>⟨by have:=(hf1.lB nm b C hn).2.1;omega,(hf1.lB nm b C hn).2.2.1,.inr ⟨nm,C,hn⟩⟩) hf1.inj
 have hl0:w0.heap.size≤l:=by have:=hf1.ext.size;omega
 have hx1:Ext I0 F0 w0 I1 (fun b=>F b∨blk L1 b∨b=l) w1:=⟨hf1'.ext.os,hf1'.ext.tape,hf1'.ext.output,hf1'.ext.size,hf1'.ext.keep,hf1'.ext.subI,hf1'.ext.newI,fun b hb=>by
  rcases hb with hb | ⟨nm,C,hb⟩ | rfl
  ·exact hf1'.ext.newF b hb
  ·exact (hf1'.lB nm b C hb).1.elim .inr fun ho=>.inl (hf1'.oF b ho)
  ·exact .inr hl0⟩
 have hhand:=Qk5 (O0:=O0) (M:=M) (fuel:=fuel) (suf:=suf) href hx1 (l:=l) (rc:=rc) c1 c2 c3 hl0 hca hcb
 obtain⟨hen,hcon⟩:=hM (Rec E) _ _ (dep+1) (fun d=>if d=dep then some (2*l) else lp d) _ _ w1 (qd2 g) (qb3 g [.yld dep] cap) (st1,none,e) r obs (st2,p,e2) hcall hhand (fun d l' hd=>by
  by_cases hdd:d=dep
  ·omega
  ·simp only[hdd,if_false] at hd
   have:=href.dep d l' hd
   omega)
 have hll:lpLe lp (fun d=>if d=dep then some (2*l) else lp d):=fun d l' hd=>by
  have:=href.dep d l' hd
  have hne:d≠dep:=by omega
  simp[hne,hd]
 have hIl:¬ I1 l:=fun hb=>by have:=hf1.sep.iB l hb;omega
 have hFl:¬ F l:=fun hb=>by have:=(hf1.sep.fB l hb).1;omega
 have hLl:¬ blk L1 l:=fun hb=>by have:=hoff1 l (.inr (.inr hb));omega
 have hcalls:=hcon I1 (fun b=>F b∨blk L1 b∨b=l) w1 (fst.toList++([.func (.yield l) #[] #[]]++caps.toList)) (Ext.refl _ _ _) ⟨hf1'.sep.iB,fun b hb=>by
   rcases hb with hb | ⟨nm,C,hb⟩ | rfl
   ·exact hf1'.sep.fB b hb
   ·exact⟨(hf1'.lB nm b C hb).2.1,(hf1'.lB nm b C hb).2.2.1⟩
   ·exact⟨c7,hIl⟩⟩ hf1'.wd ⟨L1,F,by rw[c4];exact hs1',fun b=>Iff.rfl,fun b hb=>by
   obtain⟨nm,C,hn⟩:=hb
   exact⟨(hf1'.lB nm b C hn).2.2.2,fun e=>hLl ⟨nm,C,e ▸ hn⟩,(hf1'.lB nm b C hn).1⟩,hFl,hf1'.inj,c5,hf1'.re⟩
  (qpi hfk (qbn.mono (fun _ h=>h) (fun b hb=>c12 b (hoff1 b (.inl hb))) hll hcaps) (.cons _ _ _ _ (by rw[←Qbl];exact .yld dep (2*l) (by simp)) .nil))
 refine⟨l,mark,w1,{target:=.fn (.func (qd2 g)) caps,args:=fst++#[.func (.yield l) #[] #[]]},w1,qd2 g,fst++#[.func (.yield l) #[] #[]]++caps,w1,hent,?_,fun _ _=>trivial,?_,fun h=>by simp[fen] at h,?_⟩
 ·have hfv':a.eval f=.func (.func (qd2 g)) fst caps:=hfv
  have hcv:a.eval (.const (.func (.yield l) #[] #[]))=.func (.yield l) #[] #[]:=rfl
  simp only[resolve,rangeCall,hfv',Deferred.ofValue]
  simp[hcv]
 ·obtain⟨fn',hfn,hname,hbody⟩:=hen
  have hb:¬ fn'.body=none:=by intro h;rw[h] at hbody;cases hbody
  have hname:¬ fn'.name = "runtime.NumGoroutine":=by intro h;rw[h] at hname;simp at hname
  simp[invoke,callFunc,hfn,hname,hb]
 ·have harr:(fst.toList++([Value.func (.yield l) #[] #[]]++caps.toList)).toArray=fst++#[.func (.yield l) #[] #[]]++caps:=by
   apply Array.ext'
   simp
  rw[harr] at hcalls
  refine qql (CallsIn.mono' hcalls fun en w3 hr=>?_)
  cases en with
  | panicked chain=>exact hr.elim
  | outgrown=>exact hr.elim
  | returned v =>
   obtain⟨I',F',ps',hce⟩:=hr
   obtain⟨L',Fo,g1,g2,g3,g4,g5,g6,g7⟩:=hce.re
   simp only at g1 g6 g7
   have hoff:∀ b,b < w1.heap.size→¬ I1 b→¬ F b→¬ blk L1 b→b≠l→¬ I' b∧¬ F' b∧w3.heap[b]?=w1.heap[b]?:=fun b h1 h2 h3 h4 h5=>by
    have hF:¬ (F b∨blk L1 b∨b=l):=fun h=>by rcases h with h | h | h<;>first | exact h3 h | exact h4 h | exact h5 h
    exact⟨fun h=>by rcases hce.ext.newI b h with h | h | h<;>first | exact h2 h | exact hF h | omega,fun h=>by rcases hce.ext.newF b h with h | h<;>first | exact hF h | omega,hce.ext.keep b h1 hF⟩
   have hF'l:F' l:=(g2 l).2 (.inr (.inr rfl))
   have hLl':∀ nm C,L' nm≠some (some (l,C)):=fun nm C hn=>(g3 l ⟨nm,C,hn⟩).2.1 rfl
   have hnotF:∀ b,¬ F' b→¬ Fo b∧∀ nm C,L' nm≠some (some (b,C)):=fun b hb=>⟨fun h=>hb ((g2 b).2 (.inl h)),fun nm C hn=>hb ((g2 b).2 (.inr (.inl ⟨nm,C,hn⟩)))⟩
   have hsz:=hce.ext.size
   have hmk:qgg w0.heap.size I' Fo L' w3 (mark++a.defers) O0.dfs:=by
    have hm0:qgg w0.heap.size I' Fo L' w3 a.defers O0.dfs:=hf1.mks.move (by omega) fun D d1 d2 d3 d4 d5=>by
     obtain⟨q1,q2,q3⟩:=hoff D (by omega) d3 d4 (fun ⟨nm,C,hn⟩=>d5 nm C hn) (by omega)
     exact⟨q3.trans (c12 D d1),q1,(hnotF D q2).1,(hnotF D q2).2⟩
    rcases c13 with rfl | ⟨rfl,k1,k2⟩
    ·exact hm0
    ·obtain⟨q1,q2,q3⟩:=hoff w.heap.size (by omega) (fun h=>by have:=hoff1 _ (.inl h);omega) (fun h=>by have:=hoff1 _ (.inr (.inl h));omega) (fun h=>by have:=hoff1 _ (.inr (.inr h));omega) (by omega)
     refine .cons w.heap.size _ _ hf1.ext.size (by omega) q1 (hnotF _ q2).1 (hnotF _ q2).2 (q3.trans k1) (fun d hd he=>?_) hm0
     have:=hf1.mks.lt d.target (List.mem_map.2 ⟨d,hd,rfl⟩) _ he
     omega
   have hmne:∀ D,D∈(mark++a.defers).map (·.target)→D≠.collected l:=by
    intro D hD he
    rw[List.map_append] at hD
    rcases List.mem_append.1 hD with hD | hD
    ·rcases c13 with rfl | ⟨rfl,k1,k2⟩
     ·simp at hD
     ·simp only[List.map_cons,List.map_nil,List.mem_singleton] at hD
      rw[hD] at he
      cases he
      omega
    ·have:=hf1.mks.lt D hD l he
     omega
   have hf3:Fr cx w0 I0 F0 O0 (fun b=>if b=l then some (.loop (qc3 rc p)) else Hd b) R e2 (mark++a.defers) I' Fo L' w3:=by
    refine⟨(hx1.trans hce.ext).less fun b hb=>(g2 b).2 (.inl hb),⟨hce.sep.iB,fun b hb=>hce.sep.fB b ((g2 b).2 (.inl hb))⟩,hf1.oF,fun nm b C hn=>?_,g5,hce.wd,g7,hmk,fun b ob hb=>?_⟩
    ·have hb:blk L' b:=⟨nm,C,hn⟩
     have hF:=hce.sep.fB b ((g2 b).2 (.inr (.inl hb)))
     exact⟨(g3 b hb).2.2,hF.1,hF.2,(g3 b hb).1⟩
    ·by_cases hbl:b=l
     ·subst hbl
      simp only[if_true,Option.some.injEq] at hb
      subst hb
      exact⟨(hce.sep.fB b hF'l).1,(hce.sep.fB b hF'l).2,g4,hLl',g6⟩
     ·simp only[hbl,if_false] at hb
      obtain⟨d1,d2,d3,d4,d5⟩:=hf1.hld b ob hb
      obtain⟨q1,q2,q3⟩:=hoff b (by omega) d2 d3 (fun ⟨nm,C,hn⟩=>d4 nm C hn) hbl
      exact⟨by omega,q1,(hnotF b q2).1,(hnotF b q2).2,(q3.trans (c12 b d1)).trans d5⟩
   have hbusy:(qc3 rc p).state≠.busy:=by cases p<;>simp[qc3]
   have hend:=run_endLoop (P:=cx.P) g6 hbusy
   have hf4:=hf3.hput (ob':=.loop {qc3 rc p with state:=.exhausted}) (l:=l) (ob:=.loop (qc3 rc p)) (by simp) (.inl hl0) hmne
   have hf5:Fr cx w0 I0 F0 O0 Hd R e2 (mark++a.defers) I' Fo L' (w3.putObj l (.loop {qc3 rc p with state:=.exhausted})):=hf4.hold fun b ob hb=>by
    have hlt:=(hf1.hld b ob hb).1
    have hbl:b≠l:=by omega
    simp[hbl,hb]
   have hs5:SR lp I' L' st2 a.tmps.toList suf (w3.putObj l (.loop {qc3 rc p with state:=.exhausted})):=by
    rw[c4] at g1
    exact g1.hput _ (hce.sep.fB l hF'l).2 hLl'
   refine⟨(qc3 rc p).pending,_,hend,?_⟩
   have hq:=hQ {a with defers:=mark++a.defers} _ I' Fo L' hs5 hf5
   cases p with
   | none=>exact hq
   | some x =>
    cases x with
    | normal=>exact hq
    | exit id =>
     generalize w3.putObj l (.loop {qc3 rc (some (.exit id)) with state:=.exhausted})=wz at hq ⊢
     simp only[Option.getD_some,qs0] at hq
     simp only[qc3,qtr]
     by_cases hid:id < qf6
     ·simp only[hid,if_true] at hq ⊢;exact wpIn_exit hq
     ·simp only[hid,if_false] at hq ⊢;exact wpIn_goto hq
    | ret=>exact wpIn_ret hq
end
end Go.Ab


namespace Go.Ab
theorem qfb {P:Program} {b:Frame} {a:Act} {k:List Item} {cs:List Frame} {w:World} {c:Code}:step P (lone (b.atR a (.code (.scope c) :: k)) cs w)=.next (lone (b.atR a (.code c :: .inScope c :: k)) cs w) :=
 step_lone_go (by simp[Go.stepG,Go.stepG.exec,Frame.atR])
theorem qpp {P:Program} {b:Frame} {a:Act} {k:List Item} {cs:List Frame} {w:World} {c:Code}:step P (lone (b.atR a (.inScope c :: k)) cs w)=.next (lone (b.atR a k) cs w) :=
 step_lone_go (by simp[Go.stepG,Go.stepG.exec,Frame.atR])
def qwb:Ex→Prop
 | .exit id=>id < qf6
 | _=>True
theorem qvq {F:Fence} {n:Nat} {P:Program} {Q:Exit→Act→World→Prop} {a:Act} {w:World} {c:Code} {x:Ex} (hx:qwb x) (h:c.wpIn F n P (fun e a w=>e=qs0 x∧Q e a w) a w):(Code.scope c).wpIn F n P Q a w:=by
 intro b k cs hro hb hr
 have h0:(lone (b.atR a (.code (.scope c) :: k)) cs w).fenced P F:=fenced_calm hb hr rfl
 obtain⟨e,a₁,w₁,⟨rfl,hq⟩,harr⟩:=h b (.inScope c :: k) cs hro hb hr
 cases x with
 | normal=>exact⟨.normal,a₁,w₁,hq,.head h0 qfb (StepsIn.trans harr (.one (fenced_calm hb hr rfl) qpp))⟩
 | exit id =>
  simp only[qwb] at hx
  simp only[qs0,hx,if_true] at hq harr
  have hx:exitTo id (.inScope c :: k)=exitTo id k:=by simp[exitTo]
  exact⟨.exit id,a₁,w₁,hq,fun k' hk=>.head h0 qfb (harr.1 k' (by rw[hx];exact hk)),
   fun hr' hk=>let ⟨k₁,h1,h2⟩:=harr.2 hr' (by rw[hx];exact hk);⟨k₁,h1,.head h0 qfb h2⟩⟩
 | ret=>exact⟨.ret,a₁,w₁,hq,.of_steps (.one h0 qfb) harr⟩
theorem qvp {F:Fence} {n:Nat} {P:Program} {Q:Exit→Act→World→Prop} {a:Act} {w:World} {c rest:Code} {l:Nat} {x:Ex} (hl:findLabel c l=some rest) (hx:qwb x)
  (h:c.wpIn F n P (fun e a w=>e=.goto l∧rest.wpIn F n P (fun e a w=>e=qs0 x∧Q e a w) a w) a w):(Code.scope c).wpIn F n P Q a w:=by
 intro b k cs hro hb hr
 have h0:(lone (b.atR a (.code (.scope c) :: k)) cs w).fenced P F:=fenced_calm hb hr rfl
 have hg:gotoIn l (.inScope c :: k)=some (.code rest :: .inScope c :: k):=by simp[gotoIn,hl]
 obtain⟨e,a₁,w₁,⟨rfl,hq⟩,harr⟩:=h b (.inScope c :: k) cs hro hb hr
 have h1:=harr.1 _ hg
 obtain⟨e,a₂,w₂,⟨rfl,hq⟩,harr⟩:=hq b (.inScope c :: k) cs hro hb hr
 cases x with
 | normal=>exact⟨.normal,a₂,w₂,hq,.head h0 qfb (StepsIn.trans h1 (StepsIn.trans harr (.one (fenced_calm hb hr rfl) qpp)))⟩
 | exit id =>
  simp only[qwb] at hx
  simp only[qs0,hx,if_true] at hq harr
  have hx:exitTo id (.inScope c :: k)=exitTo id k:=by simp[exitTo]
  exact⟨.exit id,a₂,w₂,hq,fun k' hk=>.head h0 qfb (h1.trans (harr.1 k' (by rw[hx];exact hk))),
   fun hr' hk=>let ⟨k₁,g1,g2⟩:=harr.2 hr' (by rw[hx];exact hk);⟨k₁,g1,.head h0 qfb (h1.trans g2)⟩⟩
 | ret=>exact⟨.ret,a₂,w₂,hq,.of_steps (.head h0 qfb h1) harr⟩
theorem qvr {F:Fence} {n:Nat} {P:Program} {Q:Exit→Act→World→Prop} {c:Code} (K:Nat→Act→World→Prop) (round:∀ m a w,K m a w→∃ m',m=m'+1∧c.wpIn F n P (Exit.then (K m') Q) a w) {m:Nat} {a:Act} {w:World} (h:K m a w) :
  (Code.loop c).wpIn F n P Q a w:=by
 classical
 have least:∀ a w,(∃ m,K m a w)→∃ m,K m a w∧∀ j,K j a w→m≤j:=by
  intro a w ⟨m,hm⟩
  induction m using Nat.strongRecOn with
  | _ m ih =>
   by_cases hj:∃ j,j < m∧K j a w
   ·obtain⟨j,hj1,hj2⟩:=hj;exact ih j hj1 hj2
   ·exact⟨m,hm,fun j hk=>Nat.le_of_not_lt fun hlt=>hj ⟨j,hlt,hk⟩⟩
 refine wpIn_loop (fun a w=>∃ m,K m a w) (fun a w=>if h:∃ m,K m a w then Classical.choose (least a w h) else 0) ⟨m,h⟩ fun a w hk=>?_
 obtain⟨q1,q2⟩:=Classical.choose_spec (least a w hk)
 obtain⟨m',hm',hwp⟩:=round _ a w q1
 refine wpIn_mono hwp fun e a' w' hq=>?_
 cases e<;>simp only[Exit.then] at hq ⊢<;>first | exact hq | skip
 refine⟨⟨m',hq⟩,?_⟩
 have hex:∃ m,K m a' w':=⟨m',hq⟩
 have hle:=(Classical.choose_spec (least a' w' hex)).2 m' hq
 simp only[dif_pos hex,dif_pos hk]
 omega
section
variable {cx:Cx} {dd:qya} {M:qdb} {fuel:Nat}
def qx5 (cx:Cx) (dd:qya) (M:qdb) (fuel:Nat) (c:Code):Prop :=
 ∀ (l:Nat) (y z:qcm),qgl l c (qdg cx.P cx.G dd c)=some (y,z)→qfa cx M fuel (.seq y z) c∧∃ rest,findLabel c l=some rest∧qfa cx M fuel z rest
theorem Qbx {r1 r2:qcm} {c1 c2:Code} (h1:qfa cx M fuel r1 c1) (h2:qfa cx M fuel r2 c2):qfa cx M fuel (.seq r1 r2) (.seq c1 c2):=by
 intro E h dep R lp w0 I0 F0 O0 Hd suf ro st e x st2 e2 hev href hro a w I F L Q hs hf hQ
 simp only[qbk] at hev
 refine wpIn_seq ?_
 split at hev
 ·rename_i st3 e3 g1
  exact h1 E h dep R lp w0 I0 F0 O0 Hd suf ro st e .normal st3 e3 g1 href hro a w I F L _ hs hf fun a' w' I' F' L' hs' hf' =>
   h2 E h dep R lp w0 I0 F0 O0 Hd suf ro st3 e3 x st2 e2 hev href hro a' w' I' F' L' Q hs' hf' hQ
 ·rename_i hne
  refine h1 E h dep R lp w0 I0 F0 O0 Hd suf ro st e x st2 e2 hev href hro a w I F L _ hs hf fun a' w' I' F' L' hs' hf'=>?_
  have:=hQ a' w' I' F' L' hs' hf'
  cases x with
  | normal=>exact (hne _ _ hev).elim
  | exit id =>
   simp only[qs0] at this ⊢
   split<;>rename_i hid
   ·simp only[hid,if_true] at this;exact this
   ·simp only[hid,if_false] at this;exact this
  | ret=>exact this
theorem split_none (l:Nat):∀ c:Code,qgl l c (qdg cx.P cx.G dd c)=none→findLabel c l=none:=by
 intro c
 induction c with
 | seq c1 c2 ih1 ih2 =>
  intro h
  simp only[qdg,qgl] at h
  split at h
  ·cases h
  ·rename_i g1
   split at h
   ·cases h
   ·rename_i g2
    simp[findLabel,ih1 g1,ih2 g2]
 | label l' =>
  intro h
  simp only[qgl] at h
  split at h
  ·cases h
  ·rename_i hl
   simp[findLabel,hl]
 | _=>intro _;simp[findLabel]
theorem qxr {y z r:qcm} {E:Type} {h:qbg E} {dep:Nat} {st:St} {e:E}:qbk M fuel (.seq y (.seq z r)) h dep st e=qbk M fuel (.seq (.seq y z) r) h dep st e:=by
 simp only[qbk]
 cases qbk M fuel y h dep st e with
 | none=>rfl
 | some p =>
  obtain⟨x,s,e⟩:=p
  cases x<;>rfl
theorem split_seq {c1 c2:Code} (h1:qr5 cx dd M fuel c1) (s1:qx5 cx dd M fuel c1) (h2:qr5 cx dd M fuel c2) (s2:qx5 cx dd M fuel c2):qx5 cx dd M fuel (.seq c1 c2):=by
 intro l y z h
 simp only[qdg,qgl] at h
 split at h
 ·rename_i x' y' g1
  cases h
  obtain⟨q1,rest,q2,q3⟩:=s1 l _ _ g1
  refine⟨?_,.seq rest c2,by simp[findLabel,q2],Qbx q3 h2⟩
  have:=Qbx q1 h2
  intro E h dep R lp w0 I0 F0 O0 Hd suf ro st e x st2 e2 hev
  rw[qxr] at hev
  exact this E h dep R lp w0 I0 F0 O0 Hd suf ro st e x st2 e2 hev
 ·rename_i g1
  split at h
  case h_2=>cases h
  rename_i x' y' g2
  cases h
  obtain⟨q1,rest,q2,q3⟩:=s2 l _ _ g2
  refine⟨?_,rest,by simp[findLabel,split_none l c1 g1,q2],q3⟩
  have:=Qbx (cx:=cx) (M:=M) (fuel:=fuel) h1 q1
  intro E h dep R lp w0 I0 F0 O0 Hd suf ro st e x st2 e2 hev
  rw[←qxr] at hev
  exact this E h dep R lp w0 I0 F0 O0 Hd suf ro st e x st2 e2 hev
theorem scope_ok {c:Code} (h:qr5 cx dd M fuel c) (s:qx5 cx dd M fuel c):qr5 cx dd M fuel (.scope c):=by
 have plain:∀ (r:qcm),qfa cx M fuel r c→qfa cx M fuel (.scope r) (.scope c):=by
  intro r h E hd dep R lp w0 I0 F0 O0 Hd suf ro st e x st2 e2 hev href hro a w I F L Q hs hf hQ
  simp only[qbk] at hev
  have key:qbk M fuel r hd dep st e=some (x,st2,e2)∧qwb x:=by
   split at hev
   ·rename_i id s3 e3 hq
    split at hev
    ·rename_i hid;cases hev;exact⟨hq,hid⟩
    ·cases hev
   ·rename_i hne
    refine⟨hev,?_⟩
    cases x with
    | exit id=>exact (hne _ _ _ hev).elim
    | _=>trivial
  exact qvq key.2 (h E hd dep R lp w0 I0 F0 O0 Hd suf ro st e x st2 e2 key.1 href hro a w I F L _ hs hf fun a' w' I' F' L' hs' hf'=>⟨rfl,hQ a' w' I' F' L' hs' hf'⟩)
 show qfa cx M fuel (Qd3 c (qdg cx.P cx.G dd c)) (.scope c)
 unfold Qd3
 split
 ·exact plain _ h
 rename_i l hl
 split
 case h_2=>exact plain _ h
 rename_i y z hsp
 obtain⟨q1,rest,q2,q3⟩:=s l y z hsp
 intro E hd dep R lp w0 I0 F0 O0 Hd suf ro st e x st2 e2 hev href hro a w I F L Q hs hf hQ
 cases hy:qbk M fuel y hd dep st e with
 | none=>simp[qbk,hy] at hev
 | some p =>
  obtain⟨xy,sy,ey⟩:=p
  by_cases hj:xy=.exit (qf6+l)
  ·subst hj
   have hz:qbk M fuel z hd dep sy ey=some (x,st2,e2)∧qwb x:=by
    simp only[qbk,hy,if_true] at hev
    split at hev
    ·rename_i id s3 e3 hq
     split at hev
     ·rename_i hid;cases hev;exact⟨hq,hid⟩
     ·cases hev
    ·rename_i hne
     refine⟨hev,?_⟩
     cases x with
     | exit id=>exact (hne _ _ _ hev).elim
     | _=>trivial
   have hyz:qbk M fuel (.seq y z) hd dep st e=some (.exit (qf6+l),sy,ey):=by simp[qbk,hy]
   refine qvp q2 hz.2 (q1 E hd dep R lp w0 I0 F0 O0 Hd suf ro st e _ _ _ hyz href hro a w I F L _ hs hf fun a' w' I' F' L' hs' hf'=>⟨?_,?_⟩)
   ·have:¬ qf6+l < qf6:=by omega
    simp[qs0,this]
   ·exact q3 E hd dep R lp w0 I0 F0 O0 Hd suf ro sy ey x st2 e2 hz.1 href hro a' w' I' F' L' _ hs' hf' fun a2 w2 I2 F2 L2 hs2 hf2=>⟨rfl,hQ a2 w2 I2 F2 L2 hs2 hf2⟩
  ·refine plain _ q1 E hd dep R lp w0 I0 F0 O0 Hd suf ro st e x st2 e2 ?_ href hro a w I F L Q hs hf hQ
   rw[←hev]
   simp only[qbk,hy]
   cases xy with
   | normal=>rfl
   | ret=>rfl
   | exit id =>
    have:id≠qf6+l:=fun h=>hj (by rw[h])
    simp[this]
theorem Qk1 {r:qcm} {c:Code} {g:List (Nat×Nat)} (h:qfa cx M fuel r c):qfa cx M fuel (.seq r (.norm g)) c:=by
 intro E hh dep R lp w0 I0 F0 O0 Hd suf ro st e x st2 e2 hev href hro a w I F L Q hs hf hQ
 simp only[qbk] at hev
 cases hq:qbk M fuel r hh dep st e with
 | none=>rw[hq] at hev;cases hev
 | some p =>
  obtain⟨y,s,e3⟩:=p
  rw[hq] at hev
  refine h E hh dep R lp w0 I0 F0 O0 Hd suf ro st e y s e3 hq href hro a w I F L Q hs hf fun a' w' I' F' L' hs' hf'=>?_
  cases y with
  | normal =>
   cases hev
   obtain⟨L1,hs1,hf1⟩:=Qhw hs' hf'
   obtain⟨L2,hs2,hf2⟩:=qwl [] g hs1 hf1
   exact hQ a' w' I' F' L2 hs2 hf2
  | exit id=>cases hev;exact hQ a' w' I' F' L' hs' hf'
  | ret=>cases hev;exact hQ a' w' I' F' L' hs' hf'
theorem seq_tidy {r:qcm} {c:Code} {l:Option (List Nat)} (h:qfa cx M fuel r c):qfa cx M fuel (.seq r (.region [] none l)) c:=by
 intro E hh dep R lp w0 I0 F0 O0 Hd suf ro st e x st2 e2 hev href hro a w I F L Q hs hf hQ
 simp only[qbk] at hev
 cases hq:qbk M fuel r hh dep st e with
 | none=>rw[hq] at hev;cases hev
 | some p =>
  obtain⟨y,s,e3⟩:=p
  rw[hq] at hev
  refine h E hh dep R lp w0 I0 F0 O0 Hd suf ro st e y s e3 hq href hro a w I F L Q hs hf fun a' w' I' F' L' hs' hf'=>?_
  cases y with
  | normal =>
   cases hev
   obtain⟨L1,hs1,hf1⟩:=Qbr l hs' hf'
   exact hQ a' w' I' F' L1 hs1 hf1
  | exit id=>cases hev;exact hQ a' w' I' F' L' hs' hf'
  | ret=>cases hev;exact hQ a' w' I' F' L' hs' hf'
theorem loop_okr {c:Code} {b:qcm} (p:Bool) (asg:List Nat) (grow:List (Nat×Nat)) (ih:qfa cx M fuel b c):qfa cx M fuel (loopR p asg grow b) (.loop c):=by
 intro E h dep R lp w0 I0 F0 O0 Hd suf ro st e x st2 e2 hev href hro a w I F L Q hs hf hQ
 let K (ds:List Nat) (m:Nat) (a:Act) (w:World):Prop:=∃ st e I F L,SR lp I L st a.tmps.toList suf w∧Fr cx w0 I0 F0 O0 Hd R e a.defers I F L w∧qdo (fun (s:St×E)=>match qbk M fuel b h dep s.1 s.2 with
  | some (.normal,st,e)=>some (.inl (norm asg grow (drop ds st),e))
  | some (x,st,e)=>some (.inr (x,st,e))
  | none=>none) m (st,e)=some (x,st2,e2)
 have hzero:∀ ds a w,¬ K ds 0 a w:=by
  rintro ds a w ⟨st,e,I,F,L,hs,hf,hrep⟩
  simp[qdo] at hrep
 have hround:∀ ds m a w,K ds (m+1) a w→c.wpIn (fen ro) 0 cx.P (Exit.then (K ds m) Q) a w:=by
  rintro ds m a w ⟨st,e,I,F,L,hs,hf,hrep⟩
  simp only[qdo] at hrep
  cases hb:qbk M fuel b h dep st e with
  | none=>rw[hb] at hrep;simp at hrep
  | some r =>
   obtain⟨xb,stb,eb⟩:=r
   rw[hb] at hrep
   refine ih E h dep R lp w0 I0 F0 O0 Hd suf ro st e xb stb eb hb href hro a w I F L _ hs hf fun a' w' I' F' L' hs' hf'=>?_
   cases xb with
   | normal =>
    simp only at hrep
    obtain⟨L2,hs2,hf2⟩:=drop_ok ds hs' hf'
    obtain⟨L3,hs3,hf3⟩:=qwl asg grow hs2 hf2
    exact⟨_,eb,I',F',L3,hs3,hf3,hrep⟩
   | exit id =>
    simp only[Option.some.injEq,Prod.mk.injEq] at hrep
    obtain⟨rfl,rfl,rfl⟩:=hrep
    have:=hQ a' w' I' F' L' hs' hf'
    simp only[qs0] at this ⊢
    split<;>rename_i hid
    ·simp only[hid,if_true] at this;exact this
    ·simp only[hid,if_false] at this;exact this
   | ret =>
    simp only[Option.some.injEq,Prod.mk.injEq] at hrep
    obtain⟨rfl,rfl,rfl⟩:=hrep
    exact hQ a' w' I' F' L' hs' hf'
 have hloop:∀ {st:St} {e:E},qbk M fuel (.loop asg grow b) h dep st e=some (x,st2,e2)→∃ ds,∀ a w I F L,SR lp I L st a.tmps.toList suf w→Fr cx w0 I0 F0 O0 Hd R e a.defers I F L w→K ds fuel a w:=by
  intro st e hev
  simp only[qbk] at hev
  split at hev
  case h_2=>cases hev
  rename_i x' st3 e3 hr
  cases hev
  refine⟨undefs (norm asg grow st),fun a w I F L hs hf=>?_⟩
  obtain⟨L1,hs1,hf1⟩:=qwl asg grow hs hf
  exact⟨_,_,I,F,L1,hs1,hf1,hr⟩
 cases p with
 | false =>
  obtain⟨ds,hk⟩:=hloop hev
  refine qvr (K ds) (fun m a w hm=>?_) (hk a w I F L hs hf)
  cases m with
  | zero=>exact (hzero ds a w hm).elim
  | succ m=>exact⟨m,rfl,hround ds m a w hm⟩
 | true =>
  simp only[loopR,if_true,qbk] at hev
  cases hb:qbk M fuel b h dep st e with
  | none=>rw[hb] at hev;cases hev
  | some r =>
   obtain⟨xb,stb,eb⟩:=r
   rw[hb] at hev
   have key:∀ (ds:List Nat),(∀ a' w' I' F' L',SR lp I' L' stb a'.tmps.toList suf w'→Fr cx w0 I0 F0 O0 Hd R eb a'.defers I' F' L' w'→(Exit.then (K ds fuel) Q) (qs0 xb) a' w')→(Code.loop c).wpIn (fen ro) 0 cx.P Q a w:=by
    intro ds hq
    refine qvr (fun m a' w'=>(m=fuel+1∧a'=a∧w'=w)∨(m≤fuel∧K ds m a' w')) (fun m a' w' hm=>?_) (.inl ⟨rfl,rfl,rfl⟩)
    rcases hm with ⟨rfl,rfl,rfl⟩ | ⟨hle,hm⟩
    ·refine⟨fuel,rfl,ih E h dep R lp w0 I0 F0 O0 Hd suf ro st e xb stb eb hb href hro a' w' I F L _ hs hf fun a2 w2 I2 F2 L2 hs2 hf2=>?_⟩
     have:=hq a2 w2 I2 F2 L2 hs2 hf2
     revert this
     cases qs0 xb<;>intro this<;>first | exact this | exact .inr ⟨Nat.le_refl _,this⟩
    ·cases m with
     | zero=>exact (hzero ds a' w' hm).elim
     | succ m =>
      refine⟨m,rfl,wpIn_mono (hround ds m a' w' hm) fun e2 a2 w2 h2=>?_⟩
      revert h2
      cases e2<;>intro h2<;>first | exact h2 | exact .inr ⟨by omega,h2⟩
   cases xb with
   | normal =>
    obtain⟨ds,hk⟩:=hloop hev
    exact key ds hk
   | exit id =>
    cases hev
    refine key [] fun a' w' I' F' L' hs' hf'=>?_
    have:=hQ a' w' I' F' L' hs' hf'
    simp only[qs0] at this ⊢
    split<;>rename_i hid
    ·simp only[hid,if_true] at this;exact this
    ·simp only[hid,if_false] at this;exact this
   | ret =>
    cases hev
    exact key [] fun a' w' I' F' L' hs' hf'=>hQ a' w' I' F' L' hs' hf'
theorem normR_ok {r:qcm} {c:Code} {g:Option (List (Nat×Nat))} (h:qfa cx M fuel r c):qfa cx M fuel (normR g r) c:=by
 cases g with
 | none=>exact h
 | some g=>exact Qk1 h
theorem code_ok2 (hM:qgs cx M.call) (hsp:MSp cx M) (hloc:Qhr M):∀ c:Code,qr5 cx dd M fuel c∧qx5 cx dd M fuel c:=by
 intro c
 induction c with
 | skip =>
  refine⟨?_,fun l0 y z hsp0=>by simp[qgl] at hsp0⟩
  intro E h dep R lp w0 I0 F0 O0 Hd suf ro st e x st2 e2 hev href hro a w I F L Q hs hf hQ
  simp only[qdg,qbk,Option.some.injEq,Prod.mk.injEq] at hev
  obtain⟨rfl,rfl,rfl⟩:=hev
  exact wpIn_skip (hQ a w I F L hs hf)
 | region id ops draw =>
  refine⟨?_,fun l0 y z hsp0=>by simp[qgl] at hsp0⟩
  refine normR_ok (g:=(dd id).grow) ?_
  intro E h dep R lp w0 I0 F0 O0 Hd suf ro st e x st2 e2 hev href hro a w I F L Q hs hf hQ
  cases draw with
  | false =>
   simp only[Bool.false_eq_true,if_false,Qla] at hev
   split at hev
   ·simp[qbk] at hev
   simp only[qbk] at hev
   split at hev
   ·rename_i st3 e3 hr
    cases hev
    exact Qd7 hM hsp href hr hs hf fun a' w' I' F' L' hs' hf'=>let ⟨L2,h1,h2⟩:=Qbr (dd id).lv hs' hf';hQ a' w' I' F' L2 h1 h2
   ·cases hev
  | true =>
   simp only[if_true] at hev
   split at hev
   ·rename_i l hb
    simp only[qbk] at hev
    split at hev
    ·rename_i st3 e3 hr
     cases hev
     exact Qh9 hM hsp hloc href hb hr hs hf fun a' w' I' F' L' hs' hf'=>let ⟨L2,h1,h2⟩:=Qbr (dd id).lv hs' hf';hQ a' w' I' F' L2 h1 h2
    ·cases hev
   ·simp[qbk] at hev
 | seq c1 c2 ih1 ih2=>exact⟨Qbx ih1.1 ih2.1,split_seq ih1.1 ih1.2 ih2.1 ih2.2⟩
 | cond c c1 c2 ih1 ih2 =>
  refine⟨?_,fun l0 y z hsp0=>by simp[qgl] at hsp0⟩
  intro E h dep R lp w0 I0 F0 O0 Hd suf ro st e x st2 e2 hev href hro a w I F L Q hs hf hQ
  simp only[qdg] at hev
  split at hev
  ·rename_i rc hrc
   simp only[qbk] at hev
   have hc:=qb4 hs hf.wd hrc
   split at hev
   ·rename_i hb
    rw[hb] at hc
    exact wpIn_cond_true (qd4 hc) (ih1.1 E h dep R lp w0 I0 F0 O0 Hd suf ro st e x st2 e2 hev href hro a w I F L Q hs hf hQ)
   ·rename_i hb
    rw[hb] at hc
    exact wpIn_cond_false (qd4 hc) (ih2.1 E h dep R lp w0 I0 F0 O0 Hd suf ro st e x st2 e2 hev href hro a w I F L Q hs hf hQ)
   ·cases hev
  ·simp[qbk] at hev
 | block id c ih =>
  refine⟨?_,fun l0 y z hsp0=>by simp[qgl] at hsp0⟩
  intro E h dep R lp w0 I0 F0 O0 Hd suf ro st e x st2 e2 hev href hro a w I F L Q hs hf hQ
  simp only[qdg] at hev
  split at hev
  case isFalse=>simp[qbk] at hev
  rename_i hidb
  simp only[qbk] at hev
  refine wpIn_block ?_
  split at hev
  ·rename_i id' st3 e3 h1
   refine ih.1 E h dep R lp w0 I0 F0 O0 Hd suf ro st e (.exit id') st3 e3 h1 href hro a w I F L _ hs hf fun a' w' I' F' L' hs' hf'=>?_
   by_cases hid:id'=id
   ·rw[if_pos hid] at hev
    cases hev
    subst hid
    simp only[qs0,hidb,Exit.inBlock,if_true]
    exact hQ a' w' I' F' L' hs' hf'
   ·rw[if_neg hid] at hev
    cases hev
    have:=hQ a' w' I' F' L' hs' hf'
    simp only[qs0] at this ⊢
    split<;>rename_i hid2
    ·simp only[hid2,if_true] at this;simp only[Exit.inBlock,hid,if_false];exact this
    ·simp only[hid2,if_false] at this;exact this
  ·rename_i hne
   refine ih.1 E h dep R lp w0 I0 F0 O0 Hd suf ro st e x st2 e2 hev href hro a w I F L _ hs hf fun a' w' I' F' L' hs' hf'=>?_
   have:=hQ a' w' I' F' L' hs' hf'
   cases x with
   | normal=>exact this
   | exit id=>exact (hne _ _ _ hev).elim
   | ret=>exact this
 | loop c ih =>
  refine⟨?_,fun l0 y z hsp0=>by simp[qgl] at hsp0⟩
  exact loop_okr _ _ _ ih.1
 | rangeFunc f ps assign body iha ihb =>
  refine⟨?_,fun l0 y z hsp0=>by simp[qgl] at hsp0⟩
  intro E h dep R lp w0 I0 F0 O0 Hd suf ro st e x st2 e2 hev href hro a w I F L Q hs hf hQ
  simp only[qdg] at hev
  split at hev
  ·rename_i rf hrf
   unfold rangeR at hev
   split at hev
   ·exact Qk8 hM hsp href hro iha.1 ihb.1 hrf hev hs hf hQ
   ·simp only[qbk] at hev
    obtain⟨L0,hs0,hf0⟩:=Qhw hs hf
    obtain⟨L1,hs1,hf1⟩:=qwl [] (Qkh (qnm (qdg cx.P cx.G dd body))) hs0 hf0
    exact Qk8 hM hsp href hro iha.1 (Qk1 (seq_tidy ihb.1)) hrf hev hs1 hf1 hQ
  ·simp[qbk] at hev
 | exit id =>
  refine⟨?_,fun l0 y z hsp0=>by simp[qgl] at hsp0⟩
  intro E h dep R lp w0 I0 F0 O0 Hd suf ro st e x st2 e2 hev href hro a w I F L Q hs hf hQ
  simp only[qdg] at hev
  split at hev
  case isFalse=>simp[qbk] at hev
  rename_i hid
  simp only[qbk,Option.some.injEq,Prod.mk.injEq] at hev
  obtain⟨rfl,rfl,rfl⟩:=hev
  have:=hQ a w I F L hs hf
  simp only[qs0,hid,if_true] at this
  exact wpIn_exit this
 | scope c ih=>exact⟨scope_ok ih.1 ih.2,fun l y z h=>by simp[qgl] at h⟩
 | label l =>
  refine⟨?_,?_⟩
  rotate_left
  intro l0 y z hsp0
  simp only[qgl] at hsp0
  split at hsp0
  case isFalse=>cases hsp0
  rename_i hl
  cases hsp0
  have hk:qfa cx M fuel .skip .skip:=by
   intro E h dep R lp w0 I0 F0 O0 Hd suf ro st e x st2 e2 hev href hro a w I F L Q hs hf hQ
   simp only[qbk,Option.some.injEq,Prod.mk.injEq] at hev
   obtain⟨rfl,rfl,rfl⟩:=hev
   exact wpIn_skip (hQ a w I F L hs hf)
  refine⟨?_,.skip,by simp[findLabel,hl],hk⟩
  intro E h dep R lp w0 I0 F0 O0 Hd suf ro st e x st2 e2 hev href hro a w I F L Q hs hf hQ
  simp only[qbk,Option.some.injEq,Prod.mk.injEq] at hev
  obtain⟨rfl,rfl,rfl⟩:=hev
  exact wpIn_label (hQ a w I F L hs hf)
  intro E h dep R lp w0 I0 F0 O0 Hd suf ro st e x st2 e2 hev href hro a w I F L Q hs hf hQ
  simp only[qdg,qbk,Option.some.injEq,Prod.mk.injEq] at hev
  obtain⟨rfl,rfl,rfl⟩:=hev
  exact wpIn_label (hQ a w I F L hs hf)
 | goto l =>
  refine⟨?_,fun l0 y z hsp0=>by simp[qgl] at hsp0⟩
  intro E h dep R lp w0 I0 F0 O0 Hd suf ro st e x st2 e2 hev href hro a w I F L Q hs hf hQ
  simp only[qdg,qbk,Option.some.injEq,Prod.mk.injEq] at hev
  obtain⟨rfl,rfl,rfl⟩:=hev
  have hn:¬ qf6+l < qf6:=by omega
  have:=hQ a w I F L hs hf
  simp only[qs0,hn,if_false,Nat.add_sub_cancel_left] at this
  exact wpIn_goto this
 | ret =>
  refine⟨?_,fun l0 y z hsp0=>by simp[qgl] at hsp0⟩
  intro E h dep R lp w0 I0 F0 O0 Hd suf ro st e x st2 e2 hev href hro a w I F L Q hs hf hQ
  simp only[qdg,qbk,Option.some.injEq,Prod.mk.injEq] at hev
  obtain⟨rfl,rfl,rfl⟩:=hev
  exact wpIn_ret (hQ a w I F L hs hf)
 | refuse r =>
  refine⟨?_,fun l0 y z hsp0=>by simp[qgl] at hsp0⟩
  intro E h dep R lp w0 I0 F0 O0 Hd suf ro st e x st2 e2 hev
  simp[qdg,qbk] at hev
theorem Qdc (hM:qgs cx M.call) (hsp:MSp cx M) (hloc:Qhr M):∀ c:Code,qr5 cx dd M fuel c:=fun c=>(code_ok2 hM hsp hloc c).1
end
end Go.Ab


namespace Go.Ab
section
variable {E:Type} {cx:Cx} {w0:World} {I0 F0:Nat→Prop} {O0:Own} {Hd:Nat→Option Obj} {R:qkj E} {e:E} {F:Nat→Prop} {lp:Nat→Option Nat} {suf tmv:List Value}
variable {I:Nat→Prop} {L:Loc} {st:St} {w:World} {ds:List Deferred}
theorem res_ok (hs:SR lp I L st tmv suf w) {P:Program}:∀ (rv:List ResultVar) (rs:List Qkp) (vs:List PV),qs6 P rv=some rs→qkm st rs=some vs →
  ∃ us,(rv.mapM fun (r:ResultVar)=>(match r with
   | .tmp t=>pure (tmv.toArray.getD t undef)
   | .cell a t=>do loadVar t (←asAddr (tmv.toArray.getD a undef)):Sem Value)).run P w=.ok us w∧qbn w I lp (some L) vs us:=by
 intro rv
 induction rv with
 | nil =>
  intro rs vs h1 h2
  simp only[qs6,Option.some.injEq] at h1
  subst h1
  simp only[qkm,Option.some.injEq] at h2
  subst h2
  exact⟨[],rfl,.nil⟩
 | cons r rv ih =>
  intro rs vs h1 h2
  simp only[qs6] at h1
  split at h1
  case h_2=>cases h1
  rename_i x xs hx hxs
  cases h1
  simp only[qkm] at h2
  split at h2
  case h_2=>cases h2
  rename_i v vs' hv hvs
  cases h2
  obtain⟨us,q1,q2⟩:=ih xs vs' hxs hvs
  have key:∃ u,(match r with
   | .tmp t=>pure (tmv.toArray.getD t undef)
   | .cell a t=>do loadVar t (←asAddr (tmv.toArray.getD a undef)):Sem Value).run P w=.ok u w∧qbr w I lp (some L) v u:=by
   cases r with
   | tmp t =>
    simp only[Option.some.injEq] at hx
    subst hx
    simp only[resV,Option.some.injEq] at hv
    subst hv
    refine⟨tmv.toArray.getD t undef,rfl,?_⟩
    rw[Qdm]
    exact hs.tm.getD t undef
   | cell a t =>
    simp only[Option.map_eq_some_iff] at hx
    obtain⟨⟨n,ag⟩,hsh,rfl⟩:=hx
    simp only[resV] at hv
    split at hv
    case h_2=>cases hv
    rename_i nm o hr
    split at hv
    case h_2=>cases hv
    rename_i cs hlk
    have hrep:=hs.tm.getD a undef
    rw[hr] at hrep
    obtain⟨b,C,hL,hbv⟩:=qge hrep
    obtain⟨p,hp,ha⟩:=hs.ob nm _ hlk
    rw[hL] at hp;cases hp
    obtain⟨c,E',hb,hC,hone,hrl⟩:=ha
    obtain⟨u,hu,hru⟩:=qv3 hrl hone.1 hv
    refine⟨u,?_,hru⟩
    have hld:=qhq (P:=P) hsh (off:=o) hb (v:=u) (by
     cases ag
     ·simpa using hu
     ·simp only[if_true] at hu ⊢
      refine⟨by simpa using hu.1,?_⟩
      rw[hu.2,qh3,Nat.add_sub_cancel_left])
    show (do loadVar t (←asAddr (tmv.toArray.getD a undef)):Sem Value).run P w=_
    rw[Qdm]
    have hbv':tmv.toArray.toList.getD a undef=.pointer (some ⟨b,o,none⟩):=hbv
    rw[hbv']
    simpa[Instr.loadAt,Instr.sureAddr,asAddr] using hld
  obtain⟨u,k1,k2⟩:=key
  refine⟨u :: us,?_,.cons _ _ _ _ k2 q2⟩
  rw[List.mapM_cons,Sem.run_bind,k1,Result.andThen_ok,Sem.run_bind,q1,Result.andThen_ok]
  rfl
theorem one_rep {vs:List PV} {us:List Value} (h:qbn w I lp (some L) vs us):qbr w I lp (some L) (qna vs) (if h:us.toArray.size=1 then us.toArray[0] else .tuple us.toArray):=by
 match vs,us,h with
 | [],[],.nil=>exact .tup [] #[] .nil
 | [v],[u],.cons _ _ _ _ h .nil=>exact h
 | v :: v' :: vs,u :: u' :: us,h =>
  have:¬ (u :: u' :: us).toArray.size=1:=by simp
  rw[dif_neg this]
  exact .tup _ _ (by simpa using h)
theorem nodupN_inj:∀ {S:List Nm},qff S=true→∀ (i j:Nat) (nm:Nm),S[i]?=some nm→S[j]?=some nm→i=j:=by
 intro S
 induction S with
 | nil=>intro _ i j nm h;simp at h
 | cons x S ih =>
  intro h i j nm hi hj
  simp only[qff,Bool.and_eq_true,Bool.not_eq_true'] at h
  obtain⟨h1,h2⟩:=h
  have hx:x ∉ S:=by simpa using h1
  cases i with
  | zero =>
   cases j with
   | zero=>rfl
   | succ j=>simp at hi hj;subst hi;exact absurd (List.mem_of_getElem? hj) hx
  | succ i =>
   cases j with
   | zero=>simp at hi hj;subst hj;exact absurd (List.mem_of_getElem? hi) hx
   | succ j=>simp at hi hj;rw[ih h2 i j nm hi hj]
theorem isArr_bare {ob:Ob} (h:Qcu ob=true):Qcu ob.bare=true:=by cases ob<;>first | exact h | rfl
theorem qha.bare {w:World} {I:Nat→Prop} {lp:Nat→Option Nat} {L:Loc} {ob:Ob} {p:Option (Nat×Nat)} (h:qha w I lp L ob p):qha w I lp L ob.bare p:=by
 cases p with
 | none=>obtain⟨k,kt,rfl⟩:=h;exact⟨k,0,rfl⟩
 | some p =>
  cases ob with
  | arr k kt xs=>obtain⟨c,E,h1,h2,h3,h4⟩:=h;exact⟨c,E,h1,h2,⟨h3.1,.inl rfl⟩,h4⟩
  | cells ty cs=>exact h
  | map es=>exact h
  | siter s p=>exact h
theorem hand_ok {shut:Bool} (hs:SR lp I L st tmv suf w) (hf:Fr cx w0 I0 F0 ⟨fun _=>False,[]⟩ Hd R e ds I F L w) {v v':PV} {u:Value} {obs:List Ob} (hv:qbr w I lp (some L) v u) (h:qjo shut st v=some (v',obs)) :
  ∃ I' ps,qtc cx R lp I0 F0 w0 v' obs e u w I' F ps:=by
 simp only[qjo] at h
 generalize hS:(if (qff (qm0 shut v)&&(qm0 shut v).all fun nm=>!(qbs (qbf st.objs) qbe (v.names.filter fun nm=>!(qm0 shut v).contains nm)).contains nm)=true then qm0 shut v else [])=S at h
 generalize hRn:qbs (qbf st.objs) qbe (v.names.filter fun nm=>!S.contains nm)=Rn at h
 split at h
 case h_2=>cases h
 rename_i obs' hm
 obtain⟨hk,h⟩:=qbh h
 cases h
 simp only[Bool.and_eq_true] at hk
 obtain⟨hR,harr⟩:=hk
 obtain⟨m1,m2⟩:=qwn S obs' hm
 have hSnd:qff S=true∧∀ nm∈S,nm ∉ Rn:=by
  by_cases hc:(qff (qm0 shut v)&&(qm0 shut v).all fun nm=>!(qbs (qbf st.objs) qbe (v.names.filter fun nm=>!(qm0 shut v).contains nm)).contains nm)=true
  ·rw[if_pos hc] at hS
   subst hS
   rw[Bool.and_eq_true] at hc
   refine⟨hc.1,fun nm hn=>?_⟩
   have:=List.all_eq_true.1 hc.2 nm hn
   rw[hRn] at this
   simpa using this
  ·rw[if_neg hc] at hS
   subst hS
   exact⟨rfl,fun nm hn=>by cases hn⟩
 obtain⟨hnd,hdis⟩:=hSnd
 have hloc:∀ (j:Nat) (nm:Nm),S[j]?=some nm→∃ p ob,L nm=some p∧obs'[j]?=some ob∧qha w I lp L ob p:=by
  intro j nm hj
  obtain⟨ob,h1,h2⟩:=m2 j nm hj
  obtain⟨p,hp,ha⟩:=hs.ob nm ob h2
  exact⟨p,ob,hp,h1,ha⟩
 refine⟨inR I L Rn,S.map (fun nm=>(L nm).getD none),?_⟩
 have hfz:=hf.freeze Rn
 have hps:∀ (j:Nat) (p:Option (Nat×Nat)),(S.map (fun nm=>(L nm).getD none))[j]?=some p→∃ nm,S[j]?=some nm∧L nm=some p:=by
  intro j p hj
  rw[List.getElem?_map,Option.map_eq_some_iff] at hj
  obtain⟨nm,h1,h2⟩:=hj
  obtain⟨q,ob,hq,_,_⟩:=hloc j nm h1
  rw[hq] at h2
  simp only[Option.getD_some] at h2
  subst h2
  exact⟨nm,h1,hq⟩
 refine⟨hfz.ext,hfz.sep,hfz.wd,hfz.re,by rw[List.length_map,List.length_map,m1],?_,?_,?_,?_,by rw[List.all_map];exact List.all_eq_true.2 fun ob ho=>isArr_bare (List.all_eq_true.1 harr ob ho)⟩
 ·intro j ob p hj hp
  obtain⟨nm,h1,h2⟩:=hps j p hp
  obtain⟨q,ob',hq,ho,ha⟩:=hloc j nm h1
  rw[h2] at hq;cases hq
  rw[List.getElem?_map,ho] at hj;cases hj
  have hj:=ho
  refine qha.bare ?_
  exact (ha.mono (I':=inR I L Rn) (fun _ h=>.inl h) (fun _ _=>rfl) (fun _ _ h=>h) fun _ _ _=>rfl).ofArr (List.all_eq_true.1 harr _ (List.mem_of_getElem? hj))
 ·intro j b C hj
  obtain⟨nm,h1,h2⟩:=hps j _ hj
  obtain⟨g1,g2,g3,g4⟩:=hf.lB nm b C h2
  refine⟨g1.elim id fun h=>h.elim,g2,?_,g4⟩
  rintro (hb | ⟨nm',hm',C',hL'⟩)
  ·exact g3 hb
  ·have:=hf.inj nm nm' b C C' h2 hL'
   subst this
   exact hdis nm (List.mem_of_getElem? h1) hm'
 ·intro j j' b C C' h1 h2
  obtain⟨nm,a1,a2⟩:=hps j _ h1
  obtain⟨nm',b1,b2⟩:=hps j' _ h2
  have:=hf.inj nm nm' b C C' a2 b2
  subst this
  exact nodupN_inj hnd j j' nm a1 b1
 ·have hsub:qko w (inR I L Rn) lp L (some fun nm=>if nm∈S then L nm else none) (fun nm=>nm∈S∨nm∈Rn) (fun nm=>if S.contains nm then none else qb5 (qbf st.objs) nm):=by
   intro nm p hn hp
   by_cases hm:nm∈S
   ·have:S.contains nm=true:=by simpa using hm
    simp only[this,if_true]
    exact⟨_,rfl,by simp[hm,hp]⟩
   ·have:S.contains nm=false:=by simpa using hm
    simp only[this,Bool.false_eq_true,if_false]
    have:=qnw hs hR (none) nm p (hn.resolve_left hm) hp
    cases hcl:qb5 (qbf st.objs) nm with
    | none=>simp[qb5] at hcl
    | some q =>
     rw[hcl] at this
     cases q with
     | none=>trivial
     | some ob=>exact this
  have h1:=qbr.subst (I':=inR I L Rn) (fun b hb=>.inl hb) hsub hv (fun nm hn=>by
   by_cases hm:nm∈S
   ·exact .inl hm
   ·refine .inr ?_
    rw[←hRn]
    exact qcn _ _ _ (List.mem_filter.2 ⟨hn,by simpa using hm⟩))
  refine qbr.rename (fun nm p hp=>?_) h1
  split at hp
  ·rename_i hm
   have hidx:=List.idxOf_lt_length_of_mem hm
   have hget:S[S.idxOf nm]?=some nm:=by rw[List.getElem?_eq_getElem hidx];simp
   simp[Qbq,locOf,qdn,hget,hp]
  ·cases hp
theorem Qfp {P:Program} {fn:Func} {tmps:Array Value} {Rr:Ending→World→Prop}:∀ {ds:List Deferred} {w:World} {lo:Nat} {I F:Nat→Prop} {L:Loc},qgg lo I F L w ds []→(∀ w':World,w'.os=w.os→w'.tape=w.tape→w'.output=w.output→w'.heap.size=w.heap.size →
   (∀ b,(b < lo∨I b∨F b∨∃ nm C,L nm=some (some (b,C)))→w'.heap[b]?=w.heap[b]?)→∃ v,(results fn tmps).run P w'=.ok v w'∧Rr (.returned v) w') →
  LeavesInM Fence.wide 0 P fn tmps Rr ds .returning w:=by
 intro ds
 induction ds with
 | nil =>
  intro w lo I F L _ h
  obtain⟨v,h1,h2⟩:=h w rfl rfl rfl rfl fun _ _=>rfl
  exact⟨v,h1,h2⟩
 | cons d ds ih =>
  intro w lo I F L hm h
  cases hm with
  | cons D _ _ h1 h2 h3 h4 h5 h6 h7 hr =>
   refine⟨by simp,.inl ⟨D,_,rfl,run_takeDeferred h6,?_⟩⟩
   have hk:∀ b,b≠D→(w.putObj D (.deferred none)).heap[b]?=w.heap[b]?:=fun b hb=>World.putObj_heap_other hb
   have hsz:(w.putObj D (.deferred none)).heap.size=w.heap.size:=World.putObj_size
   have hr':qgg lo I F L (w.putObj D (.deferred none)) ds []:=by
    have key:∀ ds rs,qgg lo I F L w ds rs→(∀ d∈ds,d.target≠.collected D)→qgg lo I F L (w.putObj D (.deferred none)) ds rs:=by
     intro ds rs hm
     induction hm with
     | call d' ds rs hd _ ih=>intro hne;exact .call d' ds rs hd (ih fun d hd=>hne d (List.mem_cons_of_mem _ hd))
     | nil=>intro _;exact .nil
     | cons D' ds rs g1 g2 g3 g4 g5 g6 g7 _ ih =>
      intro hne
      have hDD:D'≠D:=fun e=>hne {target:=.collected D',args:=#[]} List.mem_cons_self (by rw[e])
      exact .cons D' ds rs g1 (by rw[hsz];exact g2) g3 g4 g5 ((hk D' hDD).trans g6) g7 (ih fun d hd=>hne d (List.mem_cons_of_mem _ hd))
    exact key ds _ hr h7
   refine ih hr' fun w' e1 e2 e3 e4 e5=>h w' e1 e2 e3 (by rw[e4,hsz]) fun b hb=>?_
   have hne:b≠D:=by
    rintro rfl
    rcases hb with hb | hb | hb | ⟨nm,C,hb⟩
    ·omega
    ·exact h3 hb
    ·exact h4 hb
    ·exact h5 nm C hb
   exact (e5 b hb).trans (hk b hne)
end
def Qhl (cx:Cx) (tab:FuncId→Option RFn) (dd:FuncId→qya):Prop:=∀ f fn,tab f=some fn→Qki cx.P cx.G (dd f) f=some {fn with io:=false,shut:=false,leans:=false,gone:=[],frz:=false}
theorem tab_fn {cx:Cx} {tab:FuncId→Option RFn} {dd:FuncId→qya} (htab:Qhl cx tab dd) {g:FuncId} {rf:RFn} (hrf:tab g=some rf):∃ fn c,cx.P.funcs[g]?=some fn∧fn.body=some c∧qs6 cx.P fn.results.toList=some rf.res∧¬ (fn.name == "runtime.NumGoroutine")=true∧rf.nt=fn.ntmps∧rf.code=qdg cx.P cx.G (dd g) c:=by
 have hcf:=htab g rf hrf
 unfold Qki at hcf
 split at hcf
 case h_2=>cases hcf
 rename_i fn hfn
 split at hcf
 case h_2=>cases hcf
 rename_i c rs hbody hres
 split at hcf
 case isTrue=>cases hcf
 rename_i hname
 obtain⟨nt,code,res,io⟩:=rf
 simp only[Option.some.injEq,RFn.mk.injEq,and_true] at hcf
 obtain⟨rfl,rfl,rfl⟩:=hcf
 exact⟨fn,c,hfn,hbody,hres,hname,rfl,rfl⟩
theorem callOf_ok {cx:Cx} {M:qdb} {tab:FuncId→Option RFn} (hM:qgs cx M.call) (hsp:MSp cx M) (hloc:Qhr M) {dd:FuncId→qya} (htab:Qhl cx tab dd) (n:Nat):qgs cx (qnz M n tab):=by
  intro E h R dep lp Ir Fr_ wr g args e r obs e' hc hand hdep
  simp only[qnz] at hc
  split at hc
  ·cases hc
  rename_i rf hrf
  obtain⟨fn,c,hfn,hbody,hres,hname,hnt,hcode⟩:=tab_fn htab hrf
  rw[hnt,hcode] at hc
  split at hc
  case h_2=>cases hc
  rename_i x st2 e2 hev
  refine⟨⟨fn,hfn,by simpa using hname,by rw[hbody];rfl⟩,fun I F w vs hx hsep hwd hre hrep=>?_⟩
  have hend:x≠.normal→x=.ret∨∃ id,x=.exit id:=by cases x<;>simp
  have hxe:∀ id,x≠.exit id:=by rintro id rfl;simp at hc
  have hc2:(match qkm st2 rf.res with
     | some vs=>match qjo rf.shut st2 (qna vs) with
      | some (v,obs)=>some (v,obs,e2)
      | none=>none
     | none=>none)=some (r,obs,e'):=by
   cases x with
   | normal=>exact hc
   | ret=>exact hc
   | exit id=>exact absurd rfl (hxe id)
  split at hc2
  case h_2=>cases hc2
  rename_i rvs hrvs
  split at hc2
  case h_2=>cases hc2
  rename_i v' obs' hho
  cases hc2
  refine callsIn_of_wp_marks hfn hbody trivial ?_
  have hlen:=hrep.length
  have hst0:SR lp I (fun _=>none) {tmps:=args++List.replicate (fn.ntmps - args.length) .undef,objs:=List.replicate fn.ntmps [],keep:=[]} (vs.toArray++Array.replicate (fn.ntmps - vs.toArray.size) undef).toList [] w:=by
   refine⟨?_,.nil,fun nm ob hl=>?_,fun nm _=>rfl⟩
   ·have h2:qbn w I lp (some fun _=>none) (List.replicate (fn.ntmps - args.length) PV.undef) (List.replicate (fn.ntmps - args.length) undef):=qbn.undefs _ _ (by simp)
    have:=(hrep.lift (some fun _=>none)).append h2
    simpa[hlen] using this
   ·exfalso
    have hnone:qbf (List.replicate fn.ntmps []) nm=none:=by
     unfold qbf
     cases hg:(List.replicate fn.ntmps ([]:List Ob))[nm.1]? with
     | none=>rfl
     | some l =>
      have:=List.eq_of_mem_replicate (List.mem_of_getElem? hg)
      subst this
      simp
    rw[hnone] at hl
    cases hl
  have hfr0:Fr cx w I F ⟨fun _=>False,[]⟩ (fun _=>none) R e [] I F (fun _=>none) w :=
   ⟨Ext.refl _ _ _,hsep,fun b hb=>hb.elim,fun nm b C hn=>(by cases hn),fun nm nm' b C C' hn=>(by cases hn),hwd,hre,.nil,fun b ob hb=>(by cases hb)⟩
  refine Qdc (dd:=dd g) (M:=M) hM hsp hloc c E h dep R lp w I F ⟨fun _=>False,[]⟩ (fun _=>none) [] none _ e x st2 e' hev ⟨⟨Ir,Fr_,wr,hand,hx⟩,hdep⟩ (fun l0 he=>by cases he) {tmps:=_,defers:=[]} w I F _ _ hst0 hfr0 ?_
  rintro a' w' I' F' L' hs' hf'
  have hpost:LeavesInM Fence.wide 0 cx.P fn a'.tmps (Qpc cx R lp I F w r obs e') a'.defers .returning w':=by
   refine Qfp hf'.mks fun w2 e1 e3 e4 e5 e6=>?_
   have hkI:∀ b,I' b→w2.heap[b]?=w'.heap[b]?:=fun b hb=>e6 b (.inr (.inl hb))
   have hkF:∀ b,F' b→w2.heap[b]?=w'.heap[b]?:=fun b hb=>e6 b (.inr (.inr (.inl hb)))
   have hs2:SR lp I' L' st2 a'.tmps.toList [] w2:=hs'.keeps (fun _ h=>h) hkI fun nm b C hn=>e6 b (.inr (.inr (.inr ⟨nm,C,hn⟩)))
   have hf2:Fr cx w I F ⟨fun _=>False,[]⟩ (fun _=>none) R e' [] I' F' L' w2:=by
    refine⟨⟨e1.trans hf'.ext.os,e3.trans hf'.ext.tape,e4.trans hf'.ext.output,by rw[e5];exact hf'.ext.size,fun b hb hF=>(e6 b (.inl hb)).trans (hf'.ext.keep b hb hF),hf'.ext.subI,hf'.ext.newI,hf'.ext.newF⟩,
     ⟨fun b hb=>by rw[e5];exact hf'.sep.iB b hb,fun b hb=>⟨by rw[e5];exact (hf'.sep.fB b hb).1,(hf'.sep.fB b hb).2⟩⟩,fun b hb=>hb.elim,fun nm b C hn=>?_,hf'.inj,?_,?_,.nil,fun b ob hb=>by cases hb⟩
    ·obtain⟨q1,q2,q3,q4⟩:=hf'.lB nm b C hn
     exact⟨q1,by rw[e5];exact q2,q3,q4⟩
    ·exact cx.stab I' I' w' w2 hf'.wd (fun _ h=>h) hkI (by rw[e5];exact Nat.le_refl _)
    ·exact R.stab e' I' I' F' w' w2 hf'.re (fun _ h=>h) (fun b hb=>hb.elim (hkI b) (hkF b)) (by rw[e5];exact Nat.le_refl _)
   obtain⟨us,q1,q2⟩:=res_ok hs2 (P:=cx.P) fn.results.toList rf.res rvs hres hrvs
   obtain⟨I3,ps,hce⟩:=hand_ok hs2 hf2 (one_rep q2) hho
   refine⟨_,?_,⟨I3,F',ps,hce⟩⟩
   unfold results
   rw[Sem.run_bind,Array.mapM_eq_mapM_toList,Sem.run_map]
   rw[Array.toArray_toList] at q1
   exact (congrArg (fun r:Result (List Value)=>(r.andThen fun a w'=>Result.ok a.toArray w').andThen fun a w'=>Sem.run cx.P (pure (if h:a.size=1 then a[0] else Value.tuple a)) w') q1).trans rfl
  cases x with
  | normal=>exact hpost
  | ret=>exact hpost
  | exit id=>exact absurd rfl (hxe id)
theorem rioOf_ok {cx:Cx} {M:qdb} {tab:FuncId→Option RFn} (hM:qgs cx M.call) (hsp:MSp cx M) (hloc:Qhr M) {dd:FuncId→qya} (htab:Qhl cx tab dd) (n:Nat):RioOK cx (Qb0 M n tab):=by
 intro E h dep g ins vs e st2 e2 hc
 unfold Qb0 at hc
 split at hc
 ·cases hc
 rename_i rf hrf
 obtain⟨fn,c,hfn,hbody,hres,hname,hnt,hcode⟩:=tab_fn htab hrf
 obtain⟨hk,hc⟩:=qbh hc
 simp only[Bool.and_eq_true,decide_eq_true_eq,List.isEmpty_iff] at hk
 obtain⟨hre,⟨hvl,hil⟩,hnt0⟩:=hk
 have hx:∃ x,(∀ id,x≠.exit id)∧qbk M n rf.code h dep (Qdp rf.gone rf.nt ins vs) e=some (x,st2,e2):=by
  split at hc
  ·cases hc
  ·rename_i hq;cases hc;exact⟨.normal,by simp,hq⟩
  ·rename_i hq;cases hc;exact⟨.ret,by simp,hq⟩
  ·cases hc
 obtain⟨x,hxe,hev⟩:=hx
 refine⟨⟨fn,hfn,by simpa using hname,by rw[hbody];rfl⟩,rf.gone,rf.nt,hvl,hil,hnt0,?_⟩
 intro R lp w I F0 F O L us wv hand hdep hul hs0 hf0
 rw[hcode] at hev
 refine callsIn_of_wp_marks hfn hbody trivial ?_
 have hst0:SR lp I L (Qdp rf.gone rf.nt ins vs) (us.toArray++Array.replicate (fn.ntmps - us.toArray.size) undef).toList wv w:=by
  simpa[hnt] using hs0
 refine Qdc (dd:=dd g) (M:=M) hM hsp hloc c E h dep R lp w I F0 ⟨O,[]⟩ (fun _=>none) wv none _ e x st2 e2 hev ⟨⟨I,F0,w,hand,Ext.refl _ _ _⟩,hdep⟩ (fun l0 he=>by cases he) {tmps:=_,defers:=[]} w I F L _ hst0 hf0 ?_
 rintro a' w' I' F' L' hs' hf'
 have hpost:LeavesInM Fence.wide 0 cx.P fn a'.tmps (fun
   | .returned _,w'=>∃ tmv I' F' L',SR lp I' L' st2 tmv wv w'∧Fr cx w I F0 ⟨O,[]⟩ (fun _=>none) R e2 [] I' F' L' w'
   | _,_=>False) a'.defers .returning w':=by
  refine Qfp hf'.mks fun w2 e1 e3 e4 e5 e6=>?_
  have hkI:∀ b,I' b→w2.heap[b]?=w'.heap[b]?:=fun b hb=>e6 b (.inr (.inl hb))
  have hkF:∀ b,F' b→w2.heap[b]?=w'.heap[b]?:=fun b hb=>e6 b (.inr (.inr (.inl hb)))
  have hs2:SR lp I' L' st2 a'.tmps.toList wv w2:=hs'.keeps (fun _ h=>h) hkI fun nm b C hn=>e6 b (.inr (.inr (.inr ⟨nm,C,hn⟩)))
  have hf2:Fr cx w I F0 ⟨O,[]⟩ (fun _=>none) R e2 [] I' F' L' w2:=by
   refine⟨⟨e1.trans hf'.ext.os,e3.trans hf'.ext.tape,e4.trans hf'.ext.output,by rw[e5];exact hf'.ext.size,fun b hb hF=>(e6 b (.inl hb)).trans (hf'.ext.keep b hb hF),hf'.ext.subI,hf'.ext.newI,hf'.ext.newF⟩,
    ⟨fun b hb=>by rw[e5];exact hf'.sep.iB b hb,fun b hb=>⟨by rw[e5];exact (hf'.sep.fB b hb).1,(hf'.sep.fB b hb).2⟩⟩,hf'.oF,fun nm b C hn=>?_,hf'.inj,?_,?_,.nil,fun b ob hb=>by cases hb⟩
   ·obtain⟨q1,q2,q3,q4⟩:=hf'.lB nm b C hn
    exact⟨q1,by rw[e5];exact q2,q3,q4⟩
   ·exact cx.stab I' I' w' w2 hf'.wd (fun _ h=>h) hkI (by rw[e5];exact Nat.le_refl _)
   ·exact R.stab e2 I' I' F' w' w2 hf'.re (fun _ h=>h) (fun b hb=>hb.elim (hkI b) (hkF b)) (by rw[e5];exact Nat.le_refl _)
  obtain⟨us',q1,q2⟩:=res_ok hs2 (P:=cx.P) fn.results.toList rf.res [] hres (by rw[hre];rfl)
  refine⟨if h:us'.toArray.size=1 then us'.toArray[0] else .tuple us'.toArray,?_,a'.tmps.toList,I',F',L',hs2,hf2⟩
  unfold results
  rw[Sem.run_bind,Array.mapM_eq_mapM_toList,Sem.run_map]
  rw[Array.toArray_toList] at q1
  exact (congrArg (fun r:Result (List Value)=>(r.andThen fun a w'=>Result.ok a.toArray w').andThen fun a w'=>Sem.run cx.P (pure (if h:a.size=1 then a[0] else Value.tuple a)) w') q1).trans rfl
 cases x with
 | normal=>exact hpost
 | ret=>exact hpost
 | exit id=>exact absurd rfl (hxe id)
end Go.Ab


namespace Go.Ab
inductive Pend (nt:Nat):List Nat→List Value→List Deferred→Prop
 | nil:Pend nt [] [] []
 | cons (k:Nat) (l:List Nat) (us pad:List Value) (rs:List Deferred) (fn:Fn) (fst caps:Array Value) (args:List Value) (hk:args.length=k) (hn:1+k+pad.length=nt) (h:Pend nt l us rs) :
   Pend nt (k :: l) (.func fn fst caps :: (args++pad)++us) ({target:=.fn fn caps,args:=fst++args.toArray} :: rs)
theorem Pend.append {nt:Nat} {l l':List Nat} {us us':List Value} {rs rs':List Deferred} (h:Pend nt l us rs) (h':Pend nt l' us' rs'):Pend nt (l++l') (us++us') (rs++rs'):=by
 induction h with
 | nil=>exact h'
 | cons k l us pad rs fn fst caps args hk hn _ ih =>
  have:=Pend.cons k _ _ pad _ fn fst caps args hk hn ih
  simpa[List.append_assoc] using this
theorem qym.more {M:qdb} {E:Type} {h:qbg E} {dep:Nat} {r1 r2:List qbo} {l:List Nat} {st st2:St} {e e2:E} (hr:qym M h dep r1 l st e st2 e2):qym M h dep (r1++r2) l st e st2 e2:=by
 induction hr with
 | nil st e=>exact .nil st e
 | cons i rest o st st1 st2 e e1 e2 ho hs _ ih =>
  have hi:i < r1.length:=(List.getElem?_eq_some_iff.1 ho).1
  refine .cons i rest o st st1 st2 e e1 e2 (by rw[List.getElem?_append_left hi];exact ho) ?_ ih
  have hw:∀ b,qfo r1 o st.tmps=some b→qfo (r1++r2) o st.tmps=some b:=by
   intro b hb
   unfold qfo at hb ⊢
   split at hb
   ·exact hb
   ·rename_i j want hg
    cases hj:r1[j]? with
    | none=>rw[hj] at hb;cases hb
    | some p =>
     have hlt:j < r1.length:=(List.getElem?_eq_some_iff.1 hj).1
     rw[hj] at hb
     rw[List.getElem?_append_left hlt,hj]
     exact hb
  unfold stepG at hs ⊢
  cases hq:qfo r1 o st.tmps with
  | none=>rw[hq] at hs;cases hs
  | some b =>
   rw[hq] at hs
   rw[hw b hq]
   cases b<;>exact hs
section
variable {cx:Cx} {dd:qya} {M:qdb} {fuel nt:Nat}
theorem seq_leaf (g:List (Nat×Nat)) (f:RX) (ps:List Nat) (a b:qcm) (st:St):qca M fuel nt (.seq (.norm g) (.rangeFunc f ps a b)) st=qqa (qbk M fuel (.seq (.norm g) (.rangeFunc f ps a b)) qba 0 st ()):=by
 have e2:qbk M fuel (.seq (.norm g) (.rangeFunc f ps a b)) qba 0 st ()=qbk M fuel (.rangeFunc f ps a b) qba 0 (norm [] g (trim st)) ():=rfl
 rw[e2]
 show (match qca M fuel nt (.rangeFunc f ps a b) (norm [] g (trim st)) with
  | some (x,st,l')=>some (x,st,l'++[])
  | none=>none)=_
 rw[show qca M fuel nt (.rangeFunc f ps a b) (norm [] g (trim st))=qqa (qbk M fuel (.rangeFunc f ps a b) qba 0 (norm [] g (trim st)) ()) from rfl]
 cases qbk M fuel (.rangeFunc f ps a b) qba 0 (norm [] g (trim st)) () with
 | none=>rfl
 | some p=>rfl
theorem Qcd:∀ (c:qcm) (st:St) (r:Ex×St×List Nat),noD c=true→qca M fuel nt c st=some r→qqa (qbk M fuel c qba 0 st ())=some r:=by
 intro c
 induction c with
 | seq a b iha ihb =>
  intro st r hn hev
  simp only[noD,Bool.and_eq_true] at hn
  simp only[qca] at hev
  cases ha:qca M fuel nt a st with
  | none=>rw[ha] at hev;cases hev
  | some q =>
   obtain⟨x,s1,l1⟩:=q
   have h1:=iha st _ hn.1 ha
   rw[ha] at hev
   simp only[qbk]
   cases hc:qbk M fuel a qba 0 st () with
   | none=>rw[hc] at h1;cases h1
   | some q2 =>
    obtain⟨x2,s2,u⟩:=q2
    rw[hc] at h1
    cases h1
    cases x with
    | normal =>
     simp only at hev ⊢
     cases hb:qca M fuel nt b s1 with
     | none=>rw[hb] at hev;cases hev
     | some q3 =>
      obtain⟨x3,s3,l3⟩:=q3
      rw[hb] at hev
      simp only[List.append_nil] at hev
      rw[←hev]
      exact ihb s1 _ hn.2 hb
    | exit id=>exact hev
    | ret=>exact hev
 | cond c a b iha ihb =>
  intro st r hn hev
  simp only[noD,Bool.and_eq_true] at hn
  simp only[qca] at hev
  simp only[qbk]
  split at hev
  ·exact iha st r hn.1 hev
  ·exact ihb st r hn.2 hev
  ·cases hev
 | block id b ih =>
  intro st r hn hev
  simp only[noD] at hn
  simp only[qca] at hev
  cases ha:qca M fuel nt b st with
  | none=>rw[ha] at hev;cases hev
  | some q =>
   obtain⟨x,s1,l1⟩:=q
   have h1:=ih st _ hn ha
   rw[ha] at hev
   simp only[qbk]
   cases hc:qbk M fuel b qba 0 st () with
   | none=>rw[hc] at h1;cases h1
   | some q2 =>
    obtain⟨x2,s2,u⟩:=q2
    rw[hc] at h1
    cases h1
    cases x with
    | exit id' =>
     simp only at hev ⊢
     split at hev<;>rename_i hid
     ·rw[if_pos hid];exact hev
     ·rw[if_neg hid];exact hev
    | normal=>exact hev
    | ret=>exact hev
 | scope b ih =>
  intro st r hn hev
  simp only[noD] at hn
  simp only[qca] at hev
  split at hev
  ·cases hev
  cases ha:qca M fuel nt b st with
  | none=>rw[ha] at hev;cases hev
  | some q =>
   obtain⟨x,s1,l1⟩:=q
   have h1:=ih st _ hn ha
   rw[ha] at hev
   simp only[qbk]
   cases hc:qbk M fuel b qba 0 st () with
   | none=>rw[hc] at h1;cases h1
   | some q2 =>
    obtain⟨x2,s2,u⟩:=q2
    rw[hc] at h1
    cases h1
    cases x with
    | exit id' =>
     simp only at hev ⊢
     split at hev<;>rename_i hid
     ·rw[if_pos hid];exact hev
     ·cases hev
    | normal=>exact hev
    | ret=>exact hev
 | dreg=>intro st r hn;cases hn
 | _=>intro st r _ hev;exact hev
theorem Qj8 {g:Option (List (Nat×Nat))} {r:qcm} {st st2:St} {x:Ex} {l:List Nat} (h:qca M fuel nt (normR g r) st=some (x,st2,l)) :
  ∃ st4,qca M fuel nt r st=some (x,st4,l)∧(st2=st4∨x=.normal∧∃ g,st2=norm [] g (trim st4)):=by
 cases g with
 | none=>exact⟨st2,h,.inl rfl⟩
 | some g =>
  simp only[normR,qca] at h
  cases ha:qca M fuel nt r st with
  | none=>rw[ha] at h;cases h
  | some q =>
   obtain⟨y,s1,l1⟩:=q
   rw[ha] at h
   cases y with
   | normal =>
    simp only[qbk,qqa,List.nil_append,Option.some.injEq,Prod.mk.injEq] at h
    obtain⟨rfl,rfl,rfl⟩:=h
    exact⟨s1,rfl,.inr ⟨rfl,g,rfl⟩⟩
   | exit id=>cases h;exact⟨_,rfl,.inl rfl⟩
   | ret=>cases h;exact⟨_,rfl,.inl rfl⟩
theorem Qfk {g:Option (List (Nat×Nat))} {r:qcm} (h:noD r=true):noD (normR g r)=true:=by
 cases g with
 | none=>exact h
 | some g=>simp[normR,noD,h]
theorem Qg1 {G:qmx} {o:Oper} {f:RX} {args:List RX} (h:Qdb G o=some (f,args)) :
  ∃ c fo,o.op=.defer c∧o.guard=none∧o.dst=none∧c.callee=.value fo∧rx G fo=some f∧rxs G c.args.toList=some args:=by
 unfold Qdb at h
 split at h
 ·rename_i c h1 h2 h3
  split at h
  ·rename_i fo hc
   split at h
   ·rename_i f' as h4 h5
    cases h
    exact⟨c,fo,h1,h2,h3,hc,h4,h5⟩
   ·cases h
  ·cases h
 ·cases h
theorem evalD_ok (hM:qgs cx M.call) (hsp:MSp cx M) (hloc:Qhr M):∀ (c:Code) (lp:Nat→Option Nat) (w0:World) (I0 F0 own:Nat→Prop) (rs:List Deferred) (suf:List Value) (st:St) (x:Ex) (st2:St) (l:List Nat),
  qca M fuel nt (qdg cx.P cx.G dd c) st=some (x,st2,l)→Ref cx lp qd7 qba 0 w0 I0 F0 →
  ∀ (a:Act) (w:World) (I F:Nat→Prop) (L:Loc) (Q:Exit→Act→World→Prop),SR lp I L st a.tmps.toList suf w→Fr cx w0 I0 F0 ⟨own,rs⟩ (fun _=>none) qd7 () a.defers I F L w →
   (∀ a' w' I' F' L' us rs',SR lp I' L' st2 a'.tmps.toList (us++suf) w'→Fr cx w0 I0 F0 ⟨own,rs'++rs⟩ (fun _=>none) qd7 () a'.defers I' F' L' w'→Pend nt l us rs'→Q (qs0 x) a' w') →
   c.wpIn (fen none) 0 cx.P Q a w:=by
 have leaf:∀ (c:Code) (lp:Nat→Option Nat) (w0:World) (I0 F0 own:Nat→Prop) (rs:List Deferred) (suf:List Value) (st:St) (x:Ex) (st2:St) (l:List Nat),
   qqa (qbk M fuel (qdg cx.P cx.G dd c) qba 0 st ())=some (x,st2,l)→Ref cx lp qd7 qba 0 w0 I0 F0 →
   ∀ (a:Act) (w:World) (I F:Nat→Prop) (L:Loc) (Q:Exit→Act→World→Prop),SR lp I L st a.tmps.toList suf w→Fr cx w0 I0 F0 ⟨own,rs⟩ (fun _=>none) qd7 () a.defers I F L w →
    (∀ a' w' I' F' L' us rs',SR lp I' L' st2 a'.tmps.toList (us++suf) w'→Fr cx w0 I0 F0 ⟨own,rs'++rs⟩ (fun _=>none) qd7 () a'.defers I' F' L' w'→Pend nt l us rs'→Q (qs0 x) a' w') →
    c.wpIn (fen none) 0 cx.P Q a w:=by
  intro c lp w0 I0 F0 own rs suf st x st2 l hev href a w I F L Q hs hf hQ
  unfold qqa at hev
  split at hev
  ·rename_i x' st' u hq
   cases hev
   exact Qdc hM hsp hloc c Unit qba 0 qd7 lp w0 I0 F0 ⟨own,rs⟩ (fun _=>none) suf none st () x st2 u hq href (fun _ h=>by cases h) a w I F L Q hs hf fun a' w' I' F' L' g1 g2=>hQ a' w' I' F' L' [] [] g1 g2 .nil
  ·cases hev
 intro c
 induction c with
 | seq c1 c2 ih1 ih2 =>
  intro lp w0 I0 F0 own rs suf st x st2 l hev href a w I F L Q hs hf hQ
  simp only[qdg,qca] at hev
  refine wpIn_seq ?_
  split at hev
  ·rename_i st3 l1 g1
   split at hev
   case h_2=>cases hev
   rename_i x' st4 l2 g2
   cases hev
   exact ih1 lp w0 I0 F0 own rs suf st .normal st3 l1 g1 href a w I F L _ hs hf fun a' w' I' F' L' us rs' hs' hf' hp =>
    ih2 lp w0 I0 F0 own (rs'++rs) (us++suf) st3 x st2 l2 g2 href a' w' I' F' L' Q hs' hf' fun a2 w2 I2 F2 L2 us2 rs2 hs2 hf2 hp2 =>
     hQ a2 w2 I2 F2 L2 (us2++us) (rs2++rs') (by rw[List.append_assoc];exact hs2) (by rw[List.append_assoc];exact hf2) (hp2.append hp)
  ·rename_i hne
   refine ih1 lp w0 I0 F0 own rs suf st x st2 l hev href a w I F L _ hs hf fun a' w' I' F' L' us rs' hs' hf' hp=>?_
   have:=hQ a' w' I' F' L' us rs' hs' hf' hp
   cases x with
   | normal=>exact (hne _ _ hev).elim
   | exit id =>
    simp only[qs0] at this ⊢
    split<;>rename_i hid
    ·simp only[hid,if_true] at this;exact this
    ·simp only[hid,if_false] at this;exact this
   | ret=>exact this
 | cond c c1 c2 ih1 ih2 =>
  intro lp w0 I0 F0 own rs suf st x st2 l hev href a w I F L Q hs hf hQ
  simp only[qdg] at hev
  split at hev
  ·rename_i rc hrc
   simp only[qca] at hev
   have hc:=qb4 hs hf.wd hrc
   split at hev
   ·rename_i hb
    rw[hb] at hc
    exact wpIn_cond_true (qd4 hc) (ih1 lp w0 I0 F0 own rs suf st x st2 l hev href a w I F L Q hs hf hQ)
   ·rename_i hb
    rw[hb] at hc
    exact wpIn_cond_false (qd4 hc) (ih2 lp w0 I0 F0 own rs suf st x st2 l hev href a w I F L Q hs hf hQ)
   ·cases hev
  ·simp[qca,qbk,qqa] at hev
 | block id c ih =>
  intro lp w0 I0 F0 own rs suf st x st2 l hev href a w I F L Q hs hf hQ
  simp only[qdg] at hev
  split at hev
  case isFalse=>simp[qca,qbk,qqa] at hev
  rename_i hidb
  simp only[qca] at hev
  refine wpIn_block ?_
  split at hev
  ·rename_i id' st3 l3 h1
   refine ih lp w0 I0 F0 own rs suf st (.exit id') st3 l3 h1 href a w I F L _ hs hf fun a' w' I' F' L' us rs' hs' hf' hp=>?_
   by_cases hid:id'=id
   ·rw[if_pos hid] at hev
    cases hev
    subst hid
    simp only[qs0,hidb,Exit.inBlock,if_true]
    exact hQ a' w' I' F' L' us rs' hs' hf' hp
   ·rw[if_neg hid] at hev
    cases hev
    have:=hQ a' w' I' F' L' us rs' hs' hf' hp
    simp only[qs0] at this ⊢
    split<;>rename_i hid2
    ·simp only[hid2,if_true] at this;simp only[Exit.inBlock,hid,if_false];exact this
    ·simp only[hid2,if_false] at this;exact this
  ·rename_i hne
   refine ih lp w0 I0 F0 own rs suf st x st2 l hev href a w I F L _ hs hf fun a' w' I' F' L' us rs' hs' hf' hp=>?_
   have:=hQ a' w' I' F' L' us rs' hs' hf' hp
   cases x with
   | normal=>exact this
   | exit id=>exact (hne _ _ _ hev).elim
   | ret=>exact this
 | scope c ih =>
  intro lp w0 I0 F0 own rs suf st x st2 l hev href a w I F L Q hs hf hQ
  have hev:qca M fuel nt (.scope (qdg cx.P cx.G dd c)) st=some (x,st2,l):=by
   have h:qca M fuel nt (Qd3 c (qdg cx.P cx.G dd c)) st=some (x,st2,l):=hev
   unfold Qd3 at h
   split at h
   ·exact h
   ·split at h
    ·exfalso
     simp[qca,qvf] at h
    ·exact h
  simp only[qca] at hev
  split at hev
  ·cases hev
  have key:qca M fuel nt (qdg cx.P cx.G dd c) st=some (x,st2,l)∧qwb x:=by
   split at hev
   ·rename_i id s3 e3 hq
    split at hev
    ·rename_i hid;cases hev;exact⟨hq,hid⟩
    ·cases hev
   ·rename_i hne
    refine⟨hev,?_⟩
    cases x with
    | exit id=>exact (hne _ _ _ hev).elim
    | _=>trivial
  exact qvq key.2 (ih lp w0 I0 F0 own rs suf st x st2 l key.1 href a w I F L _ hs hf fun a' w' I' F' L' us rs' hs' hf' hp=>⟨rfl,hQ a' w' I' F' L' us rs' hs' hf' hp⟩)
 | region id ops draw =>
  intro lp w0 I0 F0 own rs suf st x st2 l hev href a w I F L Q hs hf hQ
  cases draw with
  | true =>
   refine leaf (.region id ops true) lp w0 I0 F0 own rs suf st x st2 l ?_ href a w I F L Q hs hf hQ
   refine Qcd _ st _ ?_ hev
   simp only[qdg,if_true]
   refine Qfk ?_
   split<;>rfl
  | false =>
   cases hd:ops.toList.getLast?.bind (Qdb cx.G) with
   | none =>
    refine leaf (.region id ops false) lp w0 I0 F0 own rs suf st x st2 l ?_ href a w I F L Q hs hf hQ
    refine Qcd _ st _ ?_ hev
    simp only[qdg,Bool.false_eq_true,if_false,Qla,hd]
    exact Qfk rfl
   | some p =>
    obtain⟨f,args⟩:=p
    simp only[qdg,Bool.false_eq_true,if_false,Qla,hd] at hev
    obtain⟨st4,hev,hst⟩:=Qj8 hev
    simp only[qca] at hev
    split at hev
    case h_2=>cases hev
    rename_i st3 u hr
    obtain⟨hchk,hev2⟩:=qbh hev
    clear hev
    cases hev2
    simp only[Bool.and_eq_true,decide_eq_true_eq] at hchk
    obtain⟨o,ho,hdo⟩:=Option.bind_eq_some_iff.1 hd
    obtain⟨c,fo,q1,q2,q3,q4,q5,q6⟩:=Qg1 hdo
    have hsplit:ops.toList=ops.toList.dropLast++[o]:=by
     have hne:ops.toList≠[]:=fun e=>by rw[e] at ho;cases ho
     obtain⟨l0,hl0⟩:=List.getLast?_eq_some_iff.1 ho
     rw[hl0];simp
    have hm:ops.toList.length=ops.toList.dropLast.length+1:=by rw[hsplit];simp
    obtain⟨L',hs',hf'⟩:=qrv (qmp (ops.toList.dropLast.map (qhb cx.P cx.G))) hs hf
    refine wpIn_region ?_
    have hr0:qf4 M qba 0 (ops.toList.dropLast.map (qhb cx.P cx.G)) ((ops.toList.dropLast.map (qhb cx.P cx.G)).drop 0) (qgf (qmp (ops.toList.dropLast.map (qhb cx.P cx.G))) st) ()=some (st3,u):=by rw[List.drop_zero];exact hr
    have hrun:=(qv4 0 hr0).more (r2:=[qhb cx.P cx.G o])
    rw[List.drop_zero,List.length_map] at hrun
    have hmap:ops.toList.dropLast.map (qhb cx.P cx.G)++[qhb cx.P cx.G o]=ops.toList.map (qhb cx.P cx.G):=by
     conv=>rhs;rw[hsplit]
     simp
    rw[hmap] at hrun
    have hrange:List.range ops.size=List.range ops.toList.dropLast.length++[ops.toList.dropLast.length]:=by
     rw[←Array.length_toList,hm,List.range_succ]
    rw[hrange]
    refine qsd hM hsp href hrun hs' hf' fun a1 w1 I1 F1 L1 hs1 hf1=>?_
    have hget:ops[ops.toList.dropLast.length]?=some o:=by
     rw[←Array.getElem?_toList,hsplit]
     simp
    simp only[wpOpsIn,hget]
    have hwant:Region.wanted o (yielded ops a1.tmps)=true:=by simp[Region.wanted,q2]
    rw[if_pos hwant]
    have hfv:=qb4 hs1 hf1.wd q5
    have hargs:=Qc6 hs1 hf1.wd q6
    obtain⟨g,cap,hfn⟩:∃ g cap,f.ev st3.tmps=.fn g cap:=by
     have:=hchk.2
     unfold isFn at this
     split at this
     ·rename_i g cap hq;exact⟨g,cap,hq⟩
     ·cases this
    have hfv2:=hfv
    rw[hfn] at hfv
    obtain⟨fst,caps,hv,_,_⟩:=qtt hfv
    have hrunD:(execOp a1.eval o).run cx.P w1=.ok (.defer {target:=.fn (.func (qd2 g)) caps,args:=fst++(c.args.toList.map a1.eval).toArray}) w1:=by
     have harr:(c.args.toList.map a1.eval).toArray=c.args.map a1.eval:=by rw[←Array.toList_map,Array.toArray_toList]
     simp[execOp,q1,resolve,q4,hv,Deferred.ofValue,harr]
    refine⟨fun _ _=>trivial,?_⟩
    show o.uponIn (fen none) 0 cx.P a1 _ Q ((execOp a1.eval o).run cx.P w1)
    rw[hrunD,Oper.uponIn_defer,q3]
    show wpOpsIn (fen none) 0 cx.P ops Q [] _ w1
    simp only[wpOpsIn]
    have hal:(c.args.toList.map a1.eval).length=args.length:=by
     have:=hargs.length
     simpa using this.symm
    have hkp:qbn w1 I1 lp (some L1) (f.ev st3.tmps :: args.map (RX.ev st3.tmps)++List.replicate (nt - (f.ev st3.tmps :: args.map (RX.ev st3.tmps)).length) .undef++st3.keep)
      (.func (.func (qd2 g)) fst caps :: (c.args.toList.map a1.eval++List.replicate (nt - (f.ev st3.tmps :: args.map (RX.ev st3.tmps)).length) undef)++suf):=by
     have h1:qbn w1 I1 lp (some L1) (f.ev st3.tmps :: args.map (RX.ev st3.tmps)) (.func (.func (qd2 g)) fst caps :: c.args.toList.map a1.eval):=.cons _ _ _ _ (by rw[←hv];exact hfv2) hargs
     have h2:=(h1.append (qbn.undefs (nt - (f.ev st3.tmps :: args.map (RX.ev st3.tmps)).length) (List.replicate (nt - (f.ev st3.tmps :: args.map (RX.ev st3.tmps)).length) undef) (by simp))).append hs1.kp
     simpa[List.append_assoc] using h2
    have hs2:SR lp I1 L1 (pushD nt (f.ev st3.tmps :: args.map (RX.ev st3.tmps)) st3) a1.tmps.toList (.func (.func (qd2 g)) fst caps :: (c.args.toList.map a1.eval++List.replicate (nt - (f.ev st3.tmps :: args.map (RX.ev st3.tmps)).length) undef)++suf) w1 :=
     ⟨hs1.tm,hkp,hs1.ob,hs1.dom⟩
    have hf2:Fr cx w0 I0 F0 ⟨own,[{target:=.fn (.func (qd2 g)) caps,args:=fst++(c.args.toList.map a1.eval).toArray}]++rs⟩ (fun _=>none) qd7 () ({target:=.fn (.func (qd2 g)) caps,args:=fst++(c.args.toList.map a1.eval).toArray} :: a1.defers) I1 F1 L1 w1 :=
     ⟨hf1.ext,hf1.sep,hf1.oF,hf1.lB,hf1.inj,hf1.wd,hf1.re,.call _ _ _ (fun D h=>by cases h) hf1.mks,hf1.hld⟩
    obtain⟨L2,t1,t2⟩:∃ L2,SR lp I1 L2 st2 a1.tmps.toList (.func (.func (qd2 g)) fst caps :: (c.args.toList.map a1.eval++List.replicate (nt - (f.ev st3.tmps :: args.map (RX.ev st3.tmps)).length) undef)++suf) w1 ∧
      Fr cx w0 I0 F0 ⟨own,[{target:=.fn (.func (qd2 g)) caps,args:=fst++(c.args.toList.map a1.eval).toArray}]++rs⟩ (fun _=>none) qd7 () ({target:=.fn (.func (qd2 g)) caps,args:=fst++(c.args.toList.map a1.eval).toArray} :: a1.defers) I1 F1 L2 w1:=by
     obtain⟨L2,t1,t2⟩:=Qbr (dd id).lv hs2 hf2
     rcases hst with rfl | ⟨_,g',rfl⟩
     ·exact⟨L2,t1,t2⟩
     ·obtain⟨L3,t3,t4⟩:=Qhw t1 t2
      exact qwl [] g' t3 t4
    refine hQ _ w1 I1 F1 L2 (.func (.func (qd2 g)) fst caps :: (c.args.toList.map a1.eval++List.replicate (nt - (f.ev st3.tmps :: args.map (RX.ev st3.tmps)).length) undef)) [_] t1 t2 ?_
    have hp:=Pend.cons (nt:=nt) args.length [] [] (List.replicate (nt - (f.ev st3.tmps :: args.map (RX.ev st3.tmps)).length) undef) [] (.func (qd2 g)) fst caps (c.args.toList.map a1.eval) hal (by simp;omega) .nil
    simpa using hp
 | skip=>intro lp w0 I0 F0 own rs suf st x st2 l hev;exact leaf .skip lp w0 I0 F0 own rs suf st x st2 l hev
 | loop c _ =>
  intro lp w0 I0 F0 own rs suf st x st2 l hev
  refine leaf (.loop c) lp w0 I0 F0 own rs suf st x st2 l (Qcd _ st _ ?_ hev)
  simp only[qdg,loopR]
  split
  ·rename_i hp
   simp only[Bool.and_eq_true] at hp
   simp[noD,hp.2]
  ·rfl
 | rangeFunc f ps asg b _ _ =>
  intro lp w0 I0 F0 own rs suf st x st2 l hev
  exact leaf (.rangeFunc f ps asg b) lp w0 I0 F0 own rs suf st x st2 l (by
   rw[←hev]
   simp only[qdg]
   split
   ·unfold rangeR
    split
    ·rfl
    ·exact (seq_leaf _ _ _ _ _ _).symm
   ·rfl)
 | exit id=>intro lp w0 I0 F0 own rs suf st x st2 l hev;exact leaf (.exit id) lp w0 I0 F0 own rs suf st x st2 l (by rw[←hev];simp only[qdg];split<;>rfl)
 | label n=>intro lp w0 I0 F0 own rs suf st x st2 l hev;exact leaf (.label n) lp w0 I0 F0 own rs suf st x st2 l hev
 | goto n=>intro lp w0 I0 F0 own rs suf st x st2 l hev;exact leaf (.goto n) lp w0 I0 F0 own rs suf st x st2 l hev
 | ret=>intro lp w0 I0 F0 own rs suf st x st2 l hev;exact leaf .ret lp w0 I0 F0 own rs suf st x st2 l hev
 | refuse s=>intro lp w0 I0 F0 own rs suf st x st2 l hev;exact leaf (.refuse s) lp w0 I0 F0 own rs suf st x st2 l hev
theorem qtd {P:Program} {F:Fence} {k:Nat} {fn:Func} {tmps:Array Value} {R:Ending→World→Prop} {cs:List Frame}:∀ (ds:List Deferred) (w:World) (fr:Frame),
  fr.mode=.returning→fr.defers=ds→F.fn fr.fn→F.room (cs.length+1+k)→(∀ d∈ds,∃ r,d.target=.collected r)→LeavesInM F k P fn tmps R ds .returning w →
  ∃ v w',StepsIn (Machine.fenced P F) P (lone fr cs w) (lone {fr with defers:=[]} cs w')∧(results fn tmps).run P w'=.ok v w'∧R (.returned v) w':=by
 intro ds
 induction ds with
 | nil =>
  intro w fr hm hd _ _ _ h
  obtain⟨v,h1,h2⟩:=h
  refine⟨v,w,?_,h1,h2⟩
  have:({fr with defers:=[]}:Frame)=fr:=by rw[←hd]
  rw[this]
  exact StepsIn.refl _
 | cons d ds ih =>
  intro w fr hm hd hb hroom hall h
  obtain⟨hrun,h⟩:=h
  obtain⟨r,hr⟩:=hall d List.mem_cons_self
  rcases h with ⟨r',w',htar,htake,hrest⟩ | ⟨_,fv,cap,f,args,htar,_⟩
  ·have hm':fr.mode≠.run:=by rw[hm];simp
   have h1:=step_collected (cs:=cs) hm' hd htar htake
   have i1:(lone fr cs w).fenced P F:=fenced_out hb hroom hm' hd (fun g hg=>by rw[htar] at hg;simp[Target.leads] at hg)
   obtain⟨v,w'',g1,g2,g3⟩:=ih w' {fr with defers:=[]++ds} hm rfl hb hroom (fun d hd=>hall d (List.mem_cons_of_mem _ hd)) hrest
   exact⟨v,w'',.head i1 h1 g1,g2,g3⟩
  ·rw[hr] at htar;cases htar
def bodyPostMD (F:Fence) (n:Nat) (P:Program) (fn:Func) (R:Ending→World→Prop):Exit→Act→World→Prop
 | .normal,a,w | .ret,a,w=>(∀ d∈a.defers,∃ r,d.target=.collected r)∧LeavesInM F n P fn a.tmps R a.defers .returning w
 | _,_,_=>False
theorem qpn {P:Program} {F:Fence} {n:Nat} {f:FuncId} {fn:Func} {c:Code} {args:Array Value} {u:FrameMode} {w:World} {R:Ending→World→Prop}
  (hf:P.funcs[f]?=some fn) (hb:fn.body=some c) (hF:F.fn f)
  (h:c.wpIn F n P (bodyPostMD F n P fn R) {tmps:=args++Array.replicate (fn.ntmps - args.size) undef,defers:=[]} w) (hro:F.round=none:=by rfl) :
  CallsDIn F n P f args u w fun e u' w'=>u'=u∧R e w':=by
 refine⟨hF,fun c₀ cs hu hr=>?_⟩
 let b:Frame:={(default:Frame) with fn:=f,kind:=.deferred,roundOf:=none}
 have henter:Frame.enter P f args .deferred =
   b.atR {tmps:=args++Array.replicate (fn.ntmps - args.size) undef,defers:=[]} [.code c]:=by
  simp[Frame.enter,Frame.atR,hf,hb,b]
 have hc:({c₀ with mode:=u}:Frame)=c₀:=by subst hu;rfl
 obtain⟨e,a',w',hq,harr⟩:=h b [] (c₀ :: cs) hro.symm hF hr
 rw[←henter] at harr
 cases e with
 | normal =>
  obtain⟨hm,hl⟩:=hq
  obtain⟨v,w'',g1,g2,g3⟩:=qtd a'.defers w' {b.atR a' [] with mode:=.returning} rfl rfl hF hr hm hl
  exact⟨.returned v,u,w'',_,⟨rfl,g3⟩,(by rw[hc];exact StepsIn.trans (StepsIn.trans harr (.one (fenced_calm (fr:=b.atR a' []) hF hr rfl) (stepR_end rfl))) g1),rfl,rfl,rfl,rfl,fn,hf,g2⟩
 | ret =>
  obtain⟨hm,hl⟩:=hq
  obtain⟨todo,hs⟩:=harr.1 rfl
  obtain⟨v,w'',g1,g2,g3⟩:=qtd a'.defers w' {b.atR a' todo with mode:=.returning} rfl rfl hF hr hm hl
  exact⟨.returned v,u,w'',_,⟨rfl,g3⟩,(by rw[hc];exact StepsIn.trans hs g1),rfl,rfl,rfl,rfl,fn,hf,g2⟩
 | panic chain=>exact hq.elim
 | exit id=>exact hq.elim
 | goto l=>exact hq.elim
 | outgrown=>exact hq.elim
def IoDOK (cx:Cx) (M:qdb):Prop :=
 ∀ (g:FuncId) (d0:Nat) (st:St) (vs:List PV) (out:Out),M.flat g=true→M.io g d0 (qbf st.objs) vs=some out→qc8 cx.P g ∧
  ∀ (E:Type) (w0:World) (I0 F0:Nat→Prop) (O0:Own) (Hd:Nat→Option Obj) (R:qkj E) (e:E) (ds:List Deferred) (I F:Nat→Prop) (lp:Nat→Option Nat) (L:Loc) (tmv suf us:List Value) (w:World) (u:FrameMode),
   SR lp I L st tmv suf w→Fr cx w0 I0 F0 O0 Hd R e ds I F L w→qbn w I lp (some L) vs us→(out.new=[]∨out.slot.isSome=true) →
   CallsDIn Fence.wide 0 cx.P g us.toArray u w fun en u' w'=>u'=u∧match en with
    | .returned _=>∃ I' L',SR lp I' L' (apply st none out) tmv suf w'∧Fr cx w0 I0 F0 O0 Hd R e ds I' F L' w'
    | _=>False
theorem Fr.unmark {E:Type} {w0 w:World} {I0 F0 I F:Nat→Prop} {O0:Own} {Hd:Nat→Option Obj} {R:qkj E} {e:E} {ds:List Deferred} {L:Loc} {D:Nat} (hHd:∀ b,Hd b=none)
  (hf:Fr cx w0 I0 F0 O0 Hd R e ({target:=.collected D,args:=#[]} :: ds) I F L w) :
  w.heap[D]?=some (.deferred (some []))∧¬ I D∧(∀ nm C,L nm≠some (some (D,C)))∧Fr cx w0 I0 F0 O0 Hd R e ds I F L (w.putObj D (.deferred none)):=by
 obtain⟨rs,hrs⟩:∃ rs,rs=O0.dfs:=⟨_,rfl⟩
 have hm:=hf.mks
 rw[←hrs] at hm
 cases hm with
 | call d ds rs hd h=>exact absurd rfl (hd D)
 | cons D' ds' rs' h1 h2 h3 h4 h5 h6 h7 hr =>
  have hk:∀ b,b≠D→(w.putObj D (.deferred none)).heap[b]?=w.heap[b]?:=fun b hb=>World.putObj_heap_other hb
  have hsz:(w.putObj D (.deferred none)).heap.size=w.heap.size:=World.putObj_size
  refine⟨h6,h3,h5,⟨hf.ext.os,hf.ext.tape,hf.ext.output,by rw[hsz];exact hf.ext.size,fun b hb hF=>?_,hf.ext.subI,hf.ext.newI,hf.ext.newF⟩,⟨fun b hb=>by rw[hsz];exact hf.sep.iB b hb,fun b hb=>⟨by rw[hsz];exact (hf.sep.fB b hb).1,(hf.sep.fB b hb).2⟩⟩,hf.oF,
   fun nm b C hn=>⟨(hf.lB nm b C hn).1,by rw[hsz];exact (hf.lB nm b C hn).2.1,(hf.lB nm b C hn).2.2⟩,hf.inj,?_,?_,?_,?_⟩
  ·have hne:b≠D:=fun e=>by omega
   exact (hk b hne).trans (hf.ext.keep b hb hF)
  ·exact cx.stab I I w _ hf.wd (fun _ h=>h) (fun b hb=>hk b fun e=>h3 (e ▸ hb)) (by rw[hsz];exact Nat.le_refl _)
  ·exact R.stab e I I F w _ hf.re (fun _ h=>h) (fun b hb=>hk b fun e=>hb.elim (fun h=>h3 (e ▸ h)) fun h=>h4 (e ▸ h)) (by rw[hsz];exact Nat.le_refl _)
  ·have key:∀ ds rs,qgg w0.heap.size I F L w ds rs→(∀ d∈ds,d.target≠.collected D)→qgg w0.heap.size I F L (w.putObj D (.deferred none)) ds rs:=by
    intro ds rs hm
    induction hm with
    | nil=>intro _;exact .nil
    | call d' ds rs hd _ ih=>intro hne;exact .call d' ds rs hd (ih fun d hd=>hne d (List.mem_cons_of_mem _ hd))
    | cons D' ds rs g1 g2 g3 g4 g5 g6 g7 _ ih =>
     intro hne
     have hDD:D'≠D:=fun e=>hne {target:=.collected D',args:=#[]} List.mem_cons_self (by rw[e])
     exact .cons D' ds rs g1 (by rw[hsz];exact g2) g3 g4 g5 ((hk D' hDD).trans g6) g7 (ih fun d hd=>hne d (List.mem_cons_of_mem _ hd))
   rw[←hrs]
   exact key ds _ hr h7
  ·intro b ob hb
   rw[hHd b] at hb
   cases hb
theorem qzj (hiod:IoDOK cx M) {fn:Func} {tmps:Array Value} {Rr:Ending→World→Prop} {w0:World} {I0 F0 own:Nat→Prop} {lp:Nat→Option Nat} {suf:List Value} {st2:St}:∀ (ds:List Deferred) (rs:List Deferred) (l:List Nat) (us:List Value) (st:St) (w:World) (I F:Nat→Prop) (L:Loc),
  SR lp I L st tmps.toList (us++suf) w→Fr cx w0 I0 F0 ⟨own,rs⟩ (fun _=>none) qd7 () ds I F L w→Pend nt l us rs→Qmi M nt l st=some st2 →
  (∀ w2 I2 F2 L2,SR lp I2 L2 st2 tmps.toList suf w2→Fr cx w0 I0 F0 ⟨own,[]⟩ (fun _=>none) qd7 () [] I2 F2 L2 w2→∃ v,(results fn tmps).run cx.P w2=.ok v w2∧Rr (.returned v) w2) →
  LeavesInM Fence.wide 0 cx.P fn tmps Rr ds .returning w:=by
 intro ds
 induction ds with
 | nil =>
  intro rs l us st w I F L hs hf hp hd h
  have hm:=hf.mks
  cases hm
  cases hp
  cases hd
  exact h w I F L hs hf
 | cons d ds ih =>
  intro rs l us st w I F L hs hf hp hd h
  cases hm:hf.mks with
  | cons D _ _ h1 h2 h3 h4 h5 h6 h7 hr =>
   obtain⟨q1,q2,q3,q4⟩:=hf.unmark fun _=>rfl
   exact⟨by simp,.inl ⟨D,_,rfl,run_takeDeferred q1,ih rs l us st _ I F L (hs.hput _ q2 q3) q4 hp hd h⟩⟩
  | call _ _ rs' hdt hr =>
   cases hp with
   | cons k l' us' pad _ fv fst caps args hk hn hp' =>
    unfold Qmi at hd
    have hkp:=hs.kp
    have h0:=hkp.getD 0 undef
    split at hd
    case h_2=>cases hd
    rename_i f cap hfv
    rw[hfv] at h0
    have e0:(Value.func fv fst caps :: (args++pad)++us'++suf).getD 0 undef=.func fv fst caps:=rfl
    rw[e0] at h0
    obtain⟨us0,vs0,hv,hfk,hcap⟩:=qtt h0
    cases hv
    split at hd
    ·cases hd
    split at hd
    case isFalse=>cases hd
    rename_i hflat
    simp only[Bool.and_eq_true] at hflat
    split at hd
    case h_2=>cases hd
    rename_i out hout
    obtain⟨hnew,hd⟩:=qbh hd
    have hargs:qbn w I lp (some L) ((st.keep.drop 1).take k) args:=by
     have:=(hkp.drop 1).take k
     have e:((Value.func (.func (qd2 f)) fst caps :: (args++pad)++us'++suf).drop 1).take k=args:=by
      simp[List.append_assoc,←hk]
     rwa [e] at this
    have hall:=qpi hfk hcap hargs
    have hkeep:qbn w I lp (some L) (st.keep.drop nt) (us'++suf):=by
     have:=hkp.drop nt
     have e:(Value.func (.func (qd2 f)) fst caps :: (args++pad)++us'++suf).drop nt=us'++suf:=by
      have e2:(Value.func (.func (qd2 f)) fst caps :: (args++pad)++us'++suf)=(Value.func (.func (qd2 f)) fst caps :: (args++pad))++(us'++suf):=by simp[List.append_assoc]
      rw[e2,List.drop_append_of_le_length (by simp;omega),List.drop_eq_nil_of_le (by simp;omega)]
      rfl
     rwa [e] at this
    have hs1:SR lp I L {st with keep:=st.keep.drop nt} tmps.toList (us'++suf) w:=⟨hs.tm,hkeep,hs.ob,hs.dom⟩
    have hf1:Fr cx w0 I0 F0 ⟨own,rs'⟩ (fun _=>none) qd7 () ds I F L w:=⟨hf.ext,hf.sep,hf.oF,hf.lB,hf.inj,hf.wd,hf.re,hr,hf.hld⟩
    obtain⟨q1,q2⟩:=hiod (qd2 f) 0 {st with keep:=st.keep.drop nt} _ out hflat.2 hout
    have hnew:out.new=[]∨out.slot.isSome=true:=by simpa using hnew
    have hcall:=q2 Unit w0 I0 F0 ⟨own,rs'⟩ (fun _=>none) qd7 () ds I F lp L tmps.toList (us'++suf) _ w .returning hs1 hf1 hall hnew
    obtain⟨fnG,e1,e2,e3⟩:=q1
    have hb:¬ fnG.body=none:=by intro h;rw[h] at e3;cases e3
    have hname:¬ fnG.name = "runtime.NumGoroutine":=by intro h;rw[h] at e2;simp at e2
    have harr:(fst.toList++(args++caps.toList)).toArray=fst++args.toArray++caps:=by simp[Array.append_assoc]
    refine⟨by simp,.inr ⟨fun h=>by simp[Fence.wide] at h,.func (qd2 f),caps,qd2 f,fst++args.toArray++caps,rfl,by simp[invoke,callFunc,e1,hname,hb],fun _ _=>trivial,?_⟩⟩
    rw[harr] at hcall
    refine hcall.mono fun en u' w' hq=>?_
    obtain⟨rfl,hq⟩:=hq
    cases en with
    | returned v =>
     obtain⟨I',L',g1,g2⟩:=hq
     exact ih rs' l' us' _ w' I' F L' g1 g2 hp' hd h
    | panicked chain=>exact hq.elim
    | outgrown=>exact hq.elim
end
end Go.Ab


namespace Go.Ab
theorem Qjx {cx:Cx} {M:qdb} {tab:FuncId→Option RFn} (hM:qgs cx M.call) (hsp:MSp cx M) (hloc:Qhr M) (hiod:IoDOK cx M) {dd:FuncId→qya} (htab:Qhl cx tab dd) (n:Nat) (g:FuncId) (d0:Nat) (st:St) (vs:List PV) (out:Out) (hc:Qjy M n tab g d0 (qbf st.objs) vs=some out):qc8 cx.P g ∧
  ∀ (E:Type) (w0:World) (I0 F0:Nat→Prop) (O0:Own) (Hd:Nat→Option Obj) (R:qkj E) (e:E) (ds:List Deferred) (I F:Nat→Prop) (lp:Nat→Option Nat) (L:Loc) (tmv suf us:List Value) (w:World) (dst:Option Nat),
   SR lp I L st tmv suf w→Fr cx w0 I0 F0 O0 Hd R e ds I F L w→qbn w I lp (some L) vs us→(∀ d,dst=some d→d=d0∧st.objs[d]?=some [])→(dst=none→out.new=[]∨out.slot.isSome=true) →
   (CallsIn Fence.wide 0 cx.P g us.toArray w fun
    | .returned v,w'=>∃ I' L',SR lp I' L' (apply st dst out) (Qjb tmv dst v) suf w'∧Fr cx w0 I0 F0 O0 Hd R e ds I' F L' w'
    | _,_=>False) ∧
   (qkx tab g=true→∀ u,CallsDIn Fence.wide 0 cx.P g us.toArray u w fun en u' w'=>u'=u∧match en with
    | .returned v=>∃ I' L',SR lp I' L' (apply st dst out) (Qjb tmv dst v) suf w'∧Fr cx w0 I0 F0 O0 Hd R e ds I' F L' w'
    | _=>False):=by
 unfold Qjy at hc
 split at hc
 case h_1=>cases hc
 rename_i rf hrf
 obtain⟨fn,c,hfn,hbody,hres,hname,hnt,hcode⟩:=tab_fn htab hrf
 simp only at hc
 generalize hRd:qcc (qbs (qbf st.objs) qbe (qbd vs))=R at hc
 have hRn:∀ (i j:Nat) nm,R[i]?=some nm→R[j]?=some nm→i=j:=by rw[←hRd];exact fun i j nm=>Qbc i j nm
 have hmemR:∀ nm∈qbd vs,nm∈R:=fun nm hn=>by rw[←hRd];exact qn7.2 (qcn _ _ nm hn)
 split at hc
 case h_1=>cases hc
 rename_i ins hins
 obtain⟨hk,hc⟩:=qbh hc
 simp only[Bool.and_eq_true,Bool.not_eq_true',decide_eq_true_eq] at hk
 obtain⟨⟨⟨hy,hshut⟩,hoy⟩,⟨hlen,hRlen⟩,hnt0⟩:=hk
 split at hc
 case h_2=>cases hc
 rename_i st2 v0 hraw
 have hplace:∃ sl d1 i1,qra sl d1 i1 R st2 v0=some out∧((sl=none∧d1=d0∧i1=0∧R=[])∨(sl=some d1∧∃ j,(d1,j)∈R∧qm4 (qbf st.objs) d1=some i1)):=by
  unfold qjd at hc
  cases R with
  | nil=>exact⟨none,d0,0,hc,.inl ⟨rfl,rfl,rfl,rfl⟩⟩
  | cons r rs =>
   simp only at hc
   split at hc
   ·rename_i i1 hi1
    exact⟨some r.1,r.1,i1,hc,.inr ⟨rfl,r.2,List.mem_cons_self,hi1⟩⟩
   ·cases hc
 obtain⟨sl,d1,i1,hc,hplace⟩:=hplace
 obtain⟨N,B,hB,hBn,hout⟩:=qpg hc
 have hrun:∃ x st3 l rs,((noD rf.code=true∧qbk M n rf.code qba 0 (Qdp rf.gone rf.nt (ins.map (Ob.ren fun m=>(0,R.idxOf m))) (qf1 (fun m=>(0,R.idxOf m)) vs)) ()=some (x,st3,())∧st2=st3) ∨
   (noD rf.code=false∧qca M n rf.nt rf.code (Qdp rf.gone rf.nt (ins.map (Ob.ren fun m=>(0,R.idxOf m))) (qf1 (fun m=>(0,R.idxOf m)) vs))=some (x,st3,l)∧Qmi M rf.nt l st3=some st2))∧(∀ id,x≠.exit id)∧qkm st2 rf.res=some rs∧v0=qna rs:=by
  unfold qls at hraw
  split at hraw
  ·rename_i hq
   split at hraw
   case h_2=>cases hraw
   rename_i x st3 u hev
   have hxe:∀ id,x≠.exit id:=by rintro id rfl;simp at hraw
   have hraw2:(match qkm st3 rf.res with
     | some rs=>some (st3,qna rs)
     | none=>none)=some (st2,v0):=by
    cases x with
    | normal=>exact hraw
    | ret=>exact hraw
    | exit id=>exact absurd rfl (hxe id)
   split at hraw2
   case h_2=>cases hraw2
   rename_i rs hrs
   cases hraw2
   exact⟨x,_,[],rs,.inl ⟨hq,hev,rfl⟩,hxe,hrs,rfl⟩
  ·rename_i hq
   split at hraw
   case h_2=>cases hraw
   rename_i x st3 l hev
   have hxe:∀ id,x≠.exit id:=by rintro id rfl;simp at hraw
   have hraw2:(match Qmi M rf.nt l st3 with
     | some st=>match qkm st rf.res with
      | some rs=>some (st,qna rs)
      | none=>none
     | none=>none)=some (st2,v0):=by
    cases x with
    | normal=>exact hraw
    | ret=>exact hraw
    | exit id=>exact absurd rfl (hxe id)
   split at hraw2
   case h_2=>cases hraw2
   rename_i st4 hd
   split at hraw2
   case h_2=>cases hraw2
   rename_i rs hrs
   cases hraw2
   exact⟨x,st3,l,rs,.inr ⟨by simpa using hq,hev,hd⟩,hxe,hrs,rfl⟩
 obtain⟨x,st3,l,rs,hev,hxe,hrs,rfl⟩:=hrun
 obtain⟨m1,m2⟩:=qwn R ins hins
 refine⟨⟨fn,hfn,by simpa using hname,by rw[hbody];rfl⟩,?_⟩
 intro E w0 I0 F0 O0 Hd RE e ds I F lp L tmv suf us w dst hs hf hrep hd hnew
 have hRL:∀ nm∈R,∃ p ob,L nm=some p∧qbf st.objs nm=some ob∧qha w I lp L ob p:=by
  intro nm hn
  obtain⟨j,hj,hget⟩:=List.getElem_of_mem hn
  obtain⟨ob,_,h2⟩:=m2 j nm (by rw[List.getElem?_eq_getElem hj,hget])
  obtain⟨p,hp,ha⟩:=hs.ob nm ob h2
  exact⟨p,ob,hp,h2,ha⟩
 let Lc:Loc:=fun m=>if m.1=0 then (R[m.2]?).bind L else none
 let fr:Nm→Nm:=fun m=>(0,R.idxOf m)
 let LR:Loc:=fun m=>if m∈R then L m else none
 have hren:∀ nm p,LR nm=some p→Lc (fr nm)=some p:=by
  intro nm p hp
  simp only[LR] at hp
  split at hp
  ·rename_i hm
   simp only[Lc,fr,if_true,Qj0 hm,Option.bind_some,hp]
  ·cases hp
 have hLc:∀ nm p,Lc nm=some p→∃ t,R[nm.2]?=some t∧nm.1=0∧L t=some p:=by
  intro nm p hp
  simp only[Lc] at hp
  split at hp
  ·rename_i h1
   cases hr:R[nm.2]? with
   | none=>rw[hr] at hp;simp at hp
   | some t=>rw[hr] at hp;exact⟨t,rfl,h1,by simpa using hp⟩
  ·cases hp
 let lp':Nat→Option Nat:=fun _=>none
 have hargs:qbn w I lp' (some Lc) (qf1 fr vs) us:=by
  have h1:qbn w I lp' (some L) vs us:=hrep.noY hy
  have h2:qbn w I lp' (some LR) vs us:=h1.narrow fun nm hn p hp=>by simp only[LR,hmemR nm hn,if_true];exact hp
  exact h2.rename hren
 have hil:(ins.map (Ob.ren fr)).length=R.length:=by rw[List.length_map,m1]
 let wv:List Value:=(List.range rf.nt).map fun j=>match (R[j]?).bind L with
  | some (some (b,C))=>.slice (some ⟨b,0,none⟩) 0 C
  | _=>.slice none 0 0
 have hwvj:∀ (j:Nat) nm,R[j]?=some nm→wv.getD j undef=(match L nm with
    | some (some (b,C))=>.slice (some ⟨b,0,none⟩) 0 C
    | _=>.slice none 0 0):=by
  intro j nm hj
  have hjl:j < rf.nt:=by have:=(List.getElem?_eq_some_iff.1 hj).1;omega
  rw[List.getD_eq_getElem?_getD,List.getElem?_map,List.getElem?_range hjl]
  simp only[Option.map_some,Option.getD_some,hj,Option.bind_some]
 have hwit:qbn w I lp' (some Lc) (Qhs rf.gone rf.nt R.length) wv:=by
  refine qbn.of_get (by simp[Qhs,wv]) fun i y v hy' hv=>?_
  simp only[Qhs,List.getElem?_map,Option.map_eq_some_iff] at hy'
  obtain⟨j,hj,rfl⟩:=hy'
  have hlt:i < rf.nt∧j=i:=by
   obtain⟨h1,h2⟩:=List.getElem?_eq_some_iff.1 hj
   simp at h1 h2
   exact⟨h1,h2.symm⟩
  obtain⟨hlt,rfl⟩:=hlt
  split
  case isFalse=>exact .undef _
  rename_i hjR0
  have hjR:=hjR0.1
  have ht:R[j]?=some R[j]:=List.getElem?_eq_getElem hjR
  have hv2:=hwvj j _ ht
  rw[List.getD_eq_getElem?_getD,hv] at hv2
  simp only[Option.getD_some] at hv2
  subst hv2
  obtain⟨p,ob,hp,_,_⟩:=hRL _ (List.mem_of_getElem? ht)
  have hlc:Lc (0,j)=some p:=by simp only[Lc,if_true,ht,Option.bind_some,hp]
  rw[hp]
  cases p with
  | none=>exact .arrN _ _ hlc
  | some p =>
   obtain⟨b,C⟩:=p
   have:=qbr.arr (w:=w) (I:=I) (lp:=lp') (L:=Lc) (0,j) 1 0 0 C b C hlc (by omega) (Nat.zero_le _)
   simpa using this
 have hst0:SR lp' I Lc (Qdp rf.gone rf.nt (ins.map (Ob.ren fr)) (qf1 fr vs)) (us.toArray++Array.replicate (fn.ntmps - us.toArray.size) undef).toList wv w:=by
  have hlen0:0 < (List.replicate rf.nt ([]:List Ob)).length:=by simpa using hnt0
  have hempty:∀ nm:Nm,nm.1≠0→qbf ((List.replicate rf.nt []).set 0 (ins.map (Ob.ren fr))) nm=none:=by
   intro nm h1
   rw[qbw _ h1]
   unfold qbf
   cases hg:(List.replicate rf.nt ([]:List Ob))[nm.1]? with
   | none=>rfl
   | some l =>
    have:=List.eq_of_mem_replicate (List.mem_of_getElem? hg)
    subst this
    simp
  refine⟨?_,?_,?_,?_⟩
  ·have hl:=hargs.length
   have h2:qbn w I lp' (some Lc) (List.replicate (rf.nt - (qf1 fr vs).length) PV.undef) (List.replicate (rf.nt - (qf1 fr vs).length) undef):=qbn.undefs _ _ (by simp)
   have:=hargs.append h2
   show qbn w I lp' (some Lc) (qf1 fr vs++List.replicate (rf.nt - (qf1 fr vs).length) .undef) _
   rw[hl] at this ⊢
   simpa[hnt] using this
  ·show qbn w I lp' (some Lc) (Qhs rf.gone rf.nt (ins.map (Ob.ren fr)).length) wv
   rw[hil];exact hwit
  ·intro nm ob hl
   have hobj:qbf ((List.replicate rf.nt []).set 0 (ins.map (Ob.ren fr))) nm=some ob:=hl
   by_cases h1:nm.1=0
   ·obtain⟨a,j⟩:=nm
    simp only at h1;subst h1
    rw[qb0 _ hlen0,List.getElem?_map] at hobj
    obtain⟨ob0,ho0,rfl⟩:=Option.map_eq_some_iff.1 hobj
    have hj:j < R.length:=by have:=(List.getElem?_eq_some_iff.1 ho0).1;omega
    have hRt:R[j]?=some R[j]:=List.getElem?_eq_getElem hj
    obtain⟨ob1,h3,h4⟩:=m2 j _ hRt
    rw[ho0] at h3;cases h3
    obtain⟨p,hp,ha⟩:=hs.ob _ ob0 h4
    refine⟨p,by simp only[Lc,if_true,hRt,Option.bind_some,hp],?_⟩
    have hyo:ob0.hasY=false:=by
     have:=List.all_eq_true.1 hoy ob0 (List.mem_of_getElem? ho0)
     simpa using this
    have hnarrow:qha w I lp' LR ob0 p:=(ha.noY hyo).narrow fun m hm q hq=>by
     have:m∈R:=qpz hshut (List.mem_of_getElem? hRt) h4 m hm
     simp only[LR,this,if_true];exact hq
    exact hnarrow.ren hren
   ·rw[hempty nm h1] at hobj;cases hobj
  ·intro nm hl
   have hobj:qbf ((List.replicate rf.nt []).set 0 (ins.map (Ob.ren fr))) nm=none:=hl
   simp only[Lc]
   split
   ·rename_i h1
    obtain⟨a,j⟩:=nm
    simp only at h1;subst h1
    rw[qb0 _ hlen0,List.getElem?_map] at hobj
    have h2:ins[j]?=none:=by simpa using hobj
    have:R[j]?=none:=List.getElem?_eq_none_iff.2 (by have:=List.getElem?_eq_none_iff.1 h2;omega)
    rw[this];rfl
   ·rfl
 let O:Nat→Prop:=fun b=>∃ nm C,nm∈R∧L nm=some (some (b,C))
 have hfr0:Fr cx w I O ⟨O,[]⟩ (fun _=>none) qd7 () [] I (fun _=>False) Lc w:=by
  refine⟨⟨rfl,rfl,rfl,Nat.le_refl _,fun _ _ _=>rfl,fun _ h=>h,fun _ h=>.inl h,fun b h=>h.elim⟩,⟨hf.sep.iB,fun b h=>h.elim⟩,fun b h=>h,fun nm b C hn=>?_,fun nm nm' b C C' hn hn'=>?_,hf.wd,trivial,.nil,fun b ob hb=>by cases hb⟩
  ·obtain⟨t,h1,_,h2⟩:=hLc nm _ hn
   obtain⟨_,g2,g3,_⟩:=hf.lB t b C h2
   exact⟨.inr ⟨t,C,List.mem_of_getElem? h1,h2⟩,g2,g3,fun h=>h⟩
  ·obtain⟨t,h1,h3,h2⟩:=hLc nm _ hn
   obtain⟨t',h1',h3',h2'⟩:=hLc nm' _ hn'
   have:=hf.inj t t' b C C' h2 h2'
   subst this
   exact Prod.ext (h3.trans h3'.symm) (hRn _ _ t h1 h1')
 have tail:∀ (tm:Array Value) (w2:World) (I' F':Nat→Prop) (L':Loc),SR lp' I' L' st2 tm.toList wv w2→Fr cx w I O ⟨O,[]⟩ (fun _=>none) qd7 () [] I' F' L' w2 →
   ∃ v,(results fn tm).run cx.P w2=.ok v w2∧∃ I' L',SR lp I' L' (apply st dst out) (Qjb tmv dst v) suf w2∧Fr cx w0 I0 F0 O0 Hd RE e ds I' F L' w2:=by
  intro tm w2 I' F' L' hs2 hf'
  obtain⟨us',q1,q2⟩:=res_ok hs2 (P:=cx.P) fn.results.toList rf.res rs hres hrs
  have hv:=one_rep q2
  have hext:=hf'.ext
  have hge:∀ (j:Nat) nm,R[j]?=some nm→nm ∉ qps R st2.keep→∀ p,L nm=some p→∃ p',L' ((fun k=>(qhu (st2.keep.getD k .undef)).getD (0,k)) j)=some p'∧GeP p p':=by
   intro j nm hj hng p hp
   have hsome:(qhu (st2.keep.getD j .undef)).isSome=true:=by
    cases hw:qhu (st2.keep.getD j .undef) with
    | some q=>rfl
    | none =>
     refine absurd ?_ hng
     unfold qps
     exact List.mem_map.2 ⟨(nm,j),List.mem_filter.2 ⟨List.mem_zipIdx_iff_getElem?.2 hj,by simp only[hw];rfl⟩,rfl⟩
   obtain⟨q,hq⟩:=Option.isSome_iff_exists.1 hsome
   simp only[hq,Option.getD_some]
   have hkeep:=hs2.kp.getD j undef
   have hval:=hwvj j nm hj
   have hform:st2.keep.getD j .undef=.arr q 1 0 0:=by
    unfold qhu at hq
    split at hq
    ·rename_i nm' heq;cases hq;exact heq
    ·cases hq
   rw[hform,hval,hp] at hkeep
   cases p with
   | none =>
    simp only at hkeep
    cases hkeep with
    | arrN _ _ h=>exact⟨none,h,trivial⟩
   | some p =>
    obtain⟨b,C⟩:=p
    simp only at hkeep
    generalize hvv:(Value.slice (some ⟨b,0,none⟩) 0 C)=vv at hkeep
    cases hkeep with
    | arr _ _ _ _ cap b' C' h hC hn =>
     simp only[Value.slice.injEq,Option.some.injEq,Addr.mk.injEq] at hvv
     obtain⟨⟨rfl,_,_⟩,_,rfl⟩:=hvv
     exact⟨some (b,C'),h,rfl,by omega⟩
    | arrN _ _ h=>simp at hvv
  have hOb:∀ b,b < w.heap.size→(∀ nm C,nm∈R→L nm≠some (some (b,C)))→w2.heap[b]?=w.heap[b]?:=fun b hb hn=>hext.keep b hb fun ⟨nm,C,h1,h2⟩=>hn nm C h1 h2
  have htk:=io_taken (d0:=d1) (i0:=i1) (sl:=sl) (dst:=dst) (R:=R) (N:=N) (aN:=fun k=>(qhu (st2.keep.getD k .undef)).getD (0,k)) (gone:=qps R st2.keep) hs hf (lp':=lp') (fun d l h=>by cases h)
   (fun d hdd=>⟨(hd d hdd).2,fun h=>by
    rcases hplace with ⟨_,h1,_,_⟩ | ⟨h1,_⟩
    ·rw[h1];exact (hd d hdd).1
    ·rw[h] at h1;cases h1⟩)
   (fun r hr=>by
    rcases hplace with ⟨h1,_⟩ | ⟨h1,_⟩
    ·rw[hr] at h1;cases h1
    ·rw[hr] at h1;cases h1;rfl)
   (fun hN=>by
    rcases hplace with ⟨h1,h2,h3,h4⟩ | ⟨h1,j,h2,h3⟩
    ·cases hdst:dst with
     | none =>
      rcases hnew hdst with h5 | h5
      ·rw[hout] at h5;exact absurd (by simpa using h5) hN
      ·rw[hout,h1] at h5;cases h5
     | some d =>
      obtain⟨g1,g2⟩:=hd d hdst
      exact⟨[],by rw[h2,←g1];exact g2,by rw[h3];rfl⟩
    ·obtain⟨p,ob,hp,hl,_⟩:=hRL _ h2
     exact qyz hl h3)
   (fun h1 hn=>by
    rcases hnew hn with h5 | h5
    ·rw[hout] at h5;simpa using h5
    ·rw[hout,h1] at h5;cases h5) (fun nm hn=>let ⟨p,_,hp,_⟩:=hRL nm hn;⟨p,hp⟩) hRn hs2 hv
   hext.os hext.tape hext.output hext.size hOb hext.subI
   (fun b hb=>by
    rcases hext.newI b hb with h | h | h
    ·exact .inl h
    ·exact .inr ⟨hf'.sep.iB b hb,.inr h⟩
    ·exact .inr ⟨hf'.sep.iB b hb,.inl h⟩)
   (fun nm b C hn=>by
    obtain⟨g1,g2,g3,_⟩:=hf'.lB nm b C hn
    exact⟨g2,g3,g1⟩) hf'.inj (by rw[←hB];exact hBn) hge hB
  refine⟨if h:us'.toArray.size=1 then us'.toArray[0] else .tuple us'.toArray,?_,I',qfq L L' B,?_⟩
  ·unfold results
   rw[Sem.run_bind,Array.mapM_eq_mapM_toList,Sem.run_map]
   rw[Array.toArray_toList] at q1
   exact (congrArg (fun r:Result (List Value)=>(r.andThen fun a w'=>Result.ok a.toArray w').andThen fun a w'=>Sem.run cx.P (pure (if h:a.size=1 then a[0] else Value.tuple a)) w') q1).trans rfl
  ·rw[hout];exact htk
 have body:∀ (Q:Exit→Act→World→Prop),(∀ a' w',(noD rf.code=true→∀ d∈a'.defers,∃ r,d.target=.collected r)→LeavesInM Fence.wide 0 cx.P fn a'.tmps (fun
    | .returned v,w'=>∃ I' L',SR lp I' L' (apply st dst out) (Qjb tmv dst v) suf w'∧Fr cx w0 I0 F0 O0 Hd RE e ds I' F L' w'
    | _,_=>False) a'.defers .returning w'→Q .normal a' w'∧Q .ret a' w')→c.wpIn (fen none) 0 cx.P Q {tmps:=us.toArray++Array.replicate (fn.ntmps - us.toArray.size) undef,defers:=[]} w:=by
  intro Q hQ
  have hx:∀ a' w',Q .normal a' w'∧Q .ret a' w'→Q (qs0 x) a' w':=by
   intro a' w' h
   cases x with
   | normal=>exact h.1
   | ret=>exact h.2
   | exit id=>exact absurd rfl (hxe id)
  rcases hev with ⟨hq,hev,rfl⟩ | ⟨hq,hev,hd⟩
  ·rw[hcode] at hev
   refine Qdc (dd:=dd g) (M:=M) hM hsp hloc c Unit qba 0 qd7 lp' w I O ⟨O,[]⟩ (fun _=>none) wv none _ () x st2 () hev ⟨⟨I,O,w,qre cx _ _ _ _,Ext.refl _ _ _⟩,fun d l h=>by cases h⟩ (fun l0 he=>by cases he) _ w I (fun _=>False) _ _ hst0 hfr0 fun a' w' I' F' L' hs' hf'=>hx a' w' (hQ a' w' (fun _ d hd=>?_) ?_)
   ·have key:∀ ds rs,qgg w.heap.size I' F' L' w' ds rs→rs=[]→∀ d∈ds,∃ r,d.target=.collected r:=by
     intro ds rs hm
     induction hm with
     | nil=>intro _ d hd;cases hd
     | cons D ds rs _ _ _ _ _ _ _ _ ih =>
      intro h0 d hd
      rcases List.mem_cons.1 hd with rfl | hd
      ·exact⟨D,rfl⟩
      ·exact ih h0 d hd
     | call d ds rs _ _ _=>intro h0;cases h0
    exact key _ _ hf'.mks rfl d hd
   ·exact qzj (nt:=rf.nt) (M:=M) hiod a'.defers [] [] [] st2 w' I' F' L' hs' hf' .nil rfl fun w2 I2 F2 L2 g1 g2=>tail a'.tmps w2 I2 F2 L2 g1 g2
  ·rw[hcode] at hev
   refine evalD_ok (dd:=dd g) (M:=M) hM hsp hloc c lp' w I O O [] wv _ x st3 l hev ⟨⟨I,O,w,qre cx _ _ _ _,Ext.refl _ _ _⟩,fun d l h=>by cases h⟩ _ w I (fun _=>False) _ _ hst0 hfr0 fun a' w' I' F' L' us' rs' hs' hf' hp=>hx a' w' (hQ a' w' (fun h=>by rw[hq] at h;cases h) ?_)
   rw[List.append_nil] at hf'
   exact qzj (nt:=rf.nt) (M:=M) hiod a'.defers rs' l us' st3 w' I' F' L' hs' hf' hp hd fun w2 I2 F2 L2 g1 g2=>tail a'.tmps w2 I2 F2 L2 g1 g2
 refine⟨callsIn_of_wp_marks hfn hbody trivial (body _ fun a' w' _ h=>⟨h,h⟩),fun hfl u=>?_⟩
 have hnd:noD rf.code=true:=by
  unfold qkx at hfl
  rw[hrf] at hfl
  exact hfl
 refine (qpn (R:=fun
    | .returned v,w'=>∃ I' L',SR lp I' L' (apply st dst out) (Qjb tmv dst v) suf w'∧Fr cx w0 I0 F0 O0 Hd RE e ds I' F L' w'
    | _,_=>False) hfn hbody trivial (body _ fun a' w' hm h=>⟨⟨hm hnd,h⟩,⟨hm hnd,h⟩⟩)).mono fun en u' w' hq=>⟨hq.1,?_⟩
 cases en<;>exact hq.2
theorem io_ok {cx:Cx} {M:qdb} {tab:FuncId→Option RFn} (hM:qgs cx M.call) (hsp:MSp cx M) (hloc:Qhr M) (hiod:IoDOK cx M) {dd:FuncId→qya} (htab:Qhl cx tab dd) (n:Nat):IoOK cx (Qjy M n tab):=by
 intro g d0 st vs out hc
 obtain⟨h1,h2⟩:=Qjx hM hsp hloc hiod htab n g d0 st vs out hc
 exact⟨h1,fun E w0 I0 F0 O0 Hd R e ds I F lp L tmv suf us w dst hs hf hr hd hn=>(h2 E w0 I0 F0 O0 Hd R e ds I F lp L tmv suf us w dst hs hf hr hd hn).1⟩
theorem mapM_congr {σ σ':Nm→Option Ob}:∀ (l:List Nm),(∀ nm∈l,σ nm=σ' nm)→l.mapM σ=l.mapM σ':=by
 intro l
 induction l with
 | nil=>intro _;rfl
 | cons x l ih =>
  intro h
  rw[List.mapM_cons,List.mapM_cons,h x List.mem_cons_self,ih fun nm hn=>h nm (List.mem_cons_of_mem _ hn)]
theorem shut_congr {σ σ':Nm→Option Ob} {R:List Nm} (h:∀ nm∈R,σ nm=σ' nm):qf7 σ R=qf7 σ' R:=by
 unfold qf7
 rw[Bool.eq_iff_iff]
 simp only[List.all_eq_true]
 exact⟨fun g nm hn=>by rw[←h nm hn];exact g nm hn,fun g nm hn=>by rw[h nm hn];exact g nm hn⟩
theorem io_loc (M:qdb) (n:Nat) (tab:FuncId→Option RFn):Qdo (Qjy M n tab):=by
 intro g d σ σ' vs out hσ h hst
 unfold Qjy at h ⊢
 cases ht:tab g with
 | none=>rw[ht] at h;cases h
 | some fn =>
  rw[ht] at h
  simp only at h ⊢
  rw[←qhi _ _ hσ]
  have hc:∀ nm∈qcc (qbs σ qbe (qbd vs)),σ nm=σ' nm:=fun nm hn=>hσ nm (qn7.1 hn)
  rw[←mapM_congr _ hc,←shut_congr hc]
  cases hm:(qcc (qbs σ qbe (qbd vs))).mapM σ with
  | none=>rw[hm] at h;cases h
  | some ins =>
   rw[hm] at h
   simp only at h ⊢
   generalize qcc (qbs σ qbe (qbd vs))=R at h ⊢
   obtain⟨h1,h2⟩:=qbh h
   simp only[chk,h1,if_true]
   split at h2
   case h_2=>cases h2
   rename_i st v hraw
   unfold qjd at h2 ⊢
   cases R with
   | nil=>exact h2
   | cons r rs =>
    simp only at h2
    split at h2
    ·obtain⟨N,B,_,_,rfl⟩:=qpg h2
     simp[qbp,qcp] at hst
    ·cases h2
theorem Qlv {sl:Option Nat} {d0 i0:Nat} {R:List Nm} {st:St} {v:PV} {out:Out} (h:qra sl d0 i0 R st v=some out):out.io=true:=by
 obtain⟨_,_,_,_,rfl⟩:=qpg h
 rfl
theorem Qjw (M:qdb) (n:Nat) (tab:FuncId→Option RFn) (g:FuncId) (d:Nat) (σ:Nm→Option Ob) (vs:List PV) (out:Out) (h:Qjy M n tab g d σ vs=some out):out.io=true:=by
 unfold Qjy at h
 split at h
 case h_1=>cases h
 simp only at h
 split at h
 case h_1=>cases h
 obtain⟨_,h⟩:=qbh h
 split at h
 case h_2=>cases h
 unfold qjd at h
 split at h
 ·exact Qlv h
 ·split at h
  ·exact Qlv h
  ·cases h
theorem frzS_eq (st:St) (R:List Nm):frzS (qbf st.objs) R=qbf (qbt (qbf st.objs) R st).objs:=by
 funext nm
 show frzS (qbf st.objs) R nm=qbf (R.foldl (fun objs nm=>qb9 objs nm qd5) (st.objs.map (·.map (Ob.sub (fun m=>if R.contains m then qb5 (qbf st.objs) m else none))))) nm
 rw[qng,qde]
 rfl
theorem fz_args {lp:Nat→Option Nat} {I:Nat→Prop} {L:Loc} {st:St} {tmv suf vs':List Value} {w:World} {R:List Nm} {vs:List PV} (h:SR lp I L st tmv suf w) (hR:qf7 (qbf st.objs) R=true) (hv:qbn w I lp (some L) vs vs') :
  qbn w (inR I L R) lp (some (qhd L R)) (qdy (frzF (qbf st.objs) R) vs) vs':=by
 have hs:qko w (inR I L R) lp L (some (qhd L R)) (fun _=>True) (frzF (qbf st.objs) R):=by
  intro m p _ hp
  by_cases hm:m∈R
  ·have:=qnw h hR (some (qhd L R)) m p hm hp
   simpa[frzF,hm] using this
  ·simp[frzF,hm,qhd,hp]
 exact qbn.subst (fun _ hb=>.inl hb) hs hv fun _ _=>trivial
theorem Ql4 {st:St} {dst:Option Nat} {out:Out} {R:List Nm} (hne:R≠[]) (hfrz:out.frz=[]) (hupd:out.upd=none) (hkill:out.kill=none) :
  apply st dst {out with frz:=R}=apply (qbt (qbf st.objs) R st) dst out:=by
 cases R with
 | nil=>exact absurd rfl hne
 | cons r rs=>simp[apply,hfrz,hupd,hkill]
theorem qpf {tab:FuncId→Option RFn} {io:FuncId→Nat→(Nm→Option Ob)→List PV→Option Out} {g:FuncId} {dst:Nat} {σ:Nm→Option Ob} {vs:List PV} {out:Out} (h:Qlu tab io g dst σ vs=some out) :
  io g dst σ vs=some out∨∃ R out0,R≠[]∧qf7 σ R=true∧io g dst (frzS σ R) (qdy (frzF σ R) vs)=some out0∧out={out0 with frz:=R}∧out0.io=true∧out0.frz=[]∧out0.upd=none∧out0.kill=none:=by
 unfold Qlu at h
 split at h
 ·exact .inl h
 ·rename_i r rs hr
  obtain⟨h1,h⟩:=qbh h
  split at h
  case h_2=>cases h
  rename_i out0 hq
  obtain⟨h2,h⟩:=qbh h
  cases h
  simp only[Bool.and_eq_true,List.isEmpty_iff,Option.isNone_iff_eq_none] at h2
  exact .inr ⟨r :: rs,out0,by simp,h1,hq,rfl,h2.1.1.1,h2.2,h2.1.1.2,h2.1.2⟩
theorem ioFz_ok {cx:Cx} {io:FuncId→Nat→(Nm→Option Ob)→List PV→Option Out} (tab:FuncId→Option RFn) (h:IoOK cx io):IoOK cx (Qlu tab io):=by
 intro g d0 st vs out hc
 rcases qpf hc with hc | ⟨R,out0,hne,hR,hq,rfl,hio,hfrz,hupd,hkill⟩
 ·exact h g d0 st vs out hc
 ·rw[frzS_eq] at hq
  obtain⟨h1,h2⟩:=h g d0 (qbt (qbf st.objs) R st) _ out0 hq
  refine⟨h1,fun E w0 I0 F0 O0 Hd RE e ds I F lp L tmv suf us w dst hs hf hr hd hn=>?_⟩
  rw[Ql4 hne hfrz hupd hkill]
  exact h2 E w0 I0 F0 O0 Hd RE e ds (inR I L R) F lp (qhd L R) tmv suf us w dst (hs.freeze hR) (hf.freeze R) (fz_args hs hR hr) (fun d hd'=>⟨(hd d hd').1,qtv (hd d hd').2⟩) hn
theorem ioFz_loc {io:FuncId→Nat→(Nm→Option Ob)→List PV→Option Out} (tab:FuncId→Option RFn) (h:Qdo io):Qdo (Qlu tab io):=by
 intro g d σ σ' vs out hσ hc hst
 rcases qpf hc with hc' | ⟨R,out0,hne,hR,hq,rfl,hio,hfrz,hupd,hkill⟩
 ·unfold Qlu at hc ⊢
  have hsub:∀ nm∈frzTops vs,nm∈qbd vs:=by
   intro nm hn
   obtain⟨v,hv,hn⟩:=List.mem_flatMap.1 hn
   refine qli.2 ⟨v,hv,?_⟩
   split at hn
   ·rw[List.mem_singleton.1 hn];simp[PV.names]
   ·cases hn
  have he:qtu tab g σ' vs=qtu tab g σ vs:=by
   unfold qtu
   rw[qhi _ _ (fun nm hn=>hσ nm (qhh _ _ _ hsub nm hn))]
  rw[he]
  generalize qtu tab g σ vs=Rz at hc ⊢
  cases Rz with
  | nil=>exact h g d σ σ' vs out hσ hc hst
  | cons r rs =>
   simp only at hc
   obtain⟨_,hc⟩:=qbh hc
   split at hc
   case h_2=>cases hc
   obtain⟨h2,hc⟩:=qbh hc
   cases hc
   simp only[Bool.and_eq_true] at h2
   simp[qbp,qcp,h2.1.1.1] at hst
 ·cases R with
  | nil=>exact absurd rfl hne
  | cons r rs=>simp[qbp,qcp,hio] at hst
theorem ioFz_flag {io:FuncId→Nat→(Nm→Option Ob)→List PV→Option Out} {tab:FuncId→Option RFn} (h:∀ g d σ vs out,io g d σ vs=some out→out.io=true) (g:FuncId) (d:Nat) (σ:Nm→Option Ob) (vs:List PV) (out:Out) (hc:Qlu tab io g d σ vs=some out):out.io=true:=by
 rcases qpf hc with hc | ⟨R,out0,hne,hR,hq,rfl,hio,hfrz,hupd,hkill⟩
 ·exact h g d σ vs out hc
 ·exact hio
theorem evalM_ok {cx:Cx} {sp:FuncId→(Nm→Option Ob)→List PV→Option Out} {tab:FuncId→Option RFn} (hsp:SpOK cx sp) (hloc:Qdn sp) {dd:FuncId→qya} (htab:Qhl cx tab dd):∀ n,qgs cx (qgt sp tab n).call∧MSp cx (qgt sp tab n)∧Qhr (qgt sp tab n)∧IoDOK cx (qgt sp tab n):=by
 intro n
 induction n with
 | zero=>exact⟨fun E h R dep lp Ir Fr_ wr g args e r obs e' hc=>(by cases hc),⟨hsp,fun g d st vs out h=>(by cases h),fun g d σ vs out h=>(by cases h),fun E h dep g ins vs e st2 e2 hc=>(by cases hc)⟩,⟨hloc,fun _ _ _ _ _ _ _ h _=>h⟩,fun g d st vs out _ h=>(by cases h)⟩
 | succ n ih =>
  obtain⟨i1,i2,i3,i4⟩:=ih
  refine⟨callOf_ok i1 i2 i3 htab n,⟨hsp,ioFz_ok tab (io_ok i1 i2 i3 i4 htab n),ioFz_flag (Qjw _ n tab),rioOf_ok i1 i2 i3 htab n⟩,⟨hloc,ioFz_loc tab (io_loc _ n tab)⟩,fun g d st vs out hfl hc=>?_⟩
  rcases qpf hc with hc | ⟨Rz,out0,hne,hR,hq,rfl,hio,hfrz,hupd,hkill⟩
  ·obtain⟨h1,h2⟩:=Qjx i1 i2 i3 i4 htab n g d st vs out hc
   exact⟨h1,fun E w0 I0 F0 O0 Hd R e ds I F lp L tmv suf us w u hs hf hr hn=>(h2 E w0 I0 F0 O0 Hd R e ds I F lp L tmv suf us w none hs hf hr (fun d h=>by cases h) (fun _=>hn)).2 hfl u⟩
  ·rw[frzS_eq] at hq
   obtain⟨h1,h2⟩:=Qjx i1 i2 i3 i4 htab n g d (qbt (qbf st.objs) Rz st) _ out0 hq
   refine⟨h1,fun E w0 I0 F0 O0 Hd R e ds I F lp L tmv suf us w u hs hf hr hn=>?_⟩
   rw[Ql4 hne hfrz hupd hkill]
   exact (h2 E w0 I0 F0 O0 Hd R e ds (inR I L Rz) F lp (qhd L Rz) tmv suf us w none (hs.freeze hR) (hf.freeze Rz) (fz_args hs hR hr) (fun d h=>by cases h) (fun _=>hn)).2 hfl u
theorem fn_ok {cx:Cx} {sp:FuncId→(Nm→Option Ob)→List PV→Option Out} {tab:FuncId→Option RFn} (hsp:SpOK cx sp) (hloc:Qdn sp) {dd:FuncId→qya} (htab:Qhl cx tab dd) (n:Nat):qgs cx (qbi sp tab n):=(evalM_ok hsp hloc htab n).1
end Go.Ab


namespace Go.Ab
theorem qwx {w w':World} {may:MemPlace→Prop} (h1:w'.os=w.os) (h2:w'.output=w.output) (h3:∀ b,b < w.heap.size→w'.heap[b]?=w.heap[b]?):w.keptBut w' may:=by
 refine⟨h1,h2,fun i hi=>?_⟩
 rw[h3 i hi]
 cases hx:w.heap[i]? with
 | none=>rfl
 | some o=>cases o<;>first | rfl | exact⟨rfl,rfl,rfl,fun _ _=>rfl⟩ | exact .inr ⟨rfl,rfl⟩
structure LawEnd (w w':World):Prop where
 os:w'.os=w.os
 tape:w'.tape=w.tape
 output:w'.output=w.output
 size:w.heap.size≤w'.heap.size
 same:∀ b,b < w.heap.size→w'.heap[b]?=w.heap[b]?
theorem law_calls {cx:Cx} {call:qva} (hM:qgs cx call) {g:FuncId} {args:List PV} {b:Bool} {obs:List Ob} (hev:call Unit qba 0 g args ()=some (.bool b,obs,())) {I:Nat→Prop} {w:World} {vs:List Value}
  (hI:∀ b,I b→b < w.heap.size) (hw:cx.Wd I w) (hrep:qbn w I (fun _=>none) none args vs) :
  Calls cx.P g vs.toArray w fun e w'=>e=.returned (.bool b)∧LawEnd w w':=by
 obtain⟨_,h⟩:=hM Unit qba qd7 0 (fun _=>none) I (fun _=>False) w g args () (.bool b) obs () hev (qre cx _ _ _ _) (fun d l h=>by cases h)
 have:=h I (fun _=>False) w vs (Ext.refl _ _ _) ⟨hI,fun b hb=>hb.elim⟩ hw trivial hrep
 refine callsIn_wide.1 (CallsIn.mono' this fun e w' hr=>?_)
 cases e with
 | returned v =>
  obtain⟨I',F',ps,hce⟩:=hr
  exact⟨by rw[qd4 hce.rep],hce.ext.os,hce.ext.tape,hce.ext.output,hce.ext.size,fun b hb=>hce.ext.keep b hb fun h=>h⟩
 | panicked chain=>exact hr.elim
 | outgrown=>exact hr.elim
end Go.Ab

