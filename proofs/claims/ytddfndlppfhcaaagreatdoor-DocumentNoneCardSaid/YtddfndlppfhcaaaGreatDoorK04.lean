/-
  Part 4 of a proof: a machine of our own for the given program, its laws, and what it says of the program. Nothing here is a claim by itself.
-/
import Derived.Test.YtddfndlppfhcaaaGreatDoorK01
import Derived.Test.YtddfndlppfhcaaaGreatDoorK02
import Derived.Test.YtddfndlppfhcaaaGreatDoorK03
set_option linter.all false

namespace Go.Ab
def Evl (P:Nat→Prop):Prop:=∃ m,∀ k,m≤k→P k
theorem Evl.of {P:Nat→Prop} (h:∀ k,P k):Evl P:=⟨0,fun k _=>h k⟩
theorem Evl.and {P Q:Nat→Prop} (h:Evl P) (h':Evl Q):Evl fun k=>P k∧Q k:=by
 obtain⟨a,ha⟩:=h;obtain⟨b,hb⟩:=h'
 exact⟨max a b,fun k hk=>⟨ha k (by omega),hb k (by omega)⟩⟩
theorem Evl.mono {P Q:Nat→Prop} (h:Evl P) (f:∀ k,P k→Q k):Evl Q:=by
 obtain⟨a,ha⟩:=h;exact⟨a,fun k hk=>f k (ha k hk)⟩
theorem Evl.mono2 {P Q S:Nat→Prop} (h:Evl P) (h':Evl Q) (f:∀ k,P k→Q k→S k):Evl S:=(h.and h').mono fun k ⟨a,b⟩=>f k a b
def Qpb {E1 E2:Type} (RE:E1→E2→Prop) (h1:qbg E1) (h2:Nat→qbg E2):Prop :=
 ∀ l args e1 e2,RE e1 e2→∀ b e1',h1 l args e1=some (b,e1')→∃ e2',RE e1' e2'∧Evl fun k=>h2 k l args e2=some (b,e2')
def CallLe (c1:qva) (c2:Nat→qva):Prop :=
 ∀ (E1 E2:Type) (RE:E1→E2→Prop) (h1:qbg E1) (h2:Nat→qbg E2),Qpb RE h1 h2 →
  ∀ dep g args e1 e2,RE e1 e2→∀ r obs e1',c1 E1 h1 dep g args e1=some (r,obs,e1')→∃ e2',RE e1' e2'∧Evl fun k=>c2 k E2 (h2 k) dep g args e2=some (r,obs,e2')
def RioT:Type 1:=(E:Type)→qbg E→Nat→FuncId→List Ob→List PV→E→Option (St×E)
def RioLe (c1:RioT) (c2:Nat→RioT):Prop :=
 ∀ (E1 E2:Type) (RE:E1→E2→Prop) (h1:qbg E1) (h2:Nat→qbg E2),Qpb RE h1 h2 →
  ∀ dep g ins vs e1 e2,RE e1 e2→∀ st e1',c1 E1 h1 dep g ins vs e1=some (st,e1')→∃ e2',RE e1' e2'∧Evl fun k=>c2 k E2 (h2 k) dep g ins vs e2=some (st,e2')
structure MLe (M1:qdb) (M2:Nat→qdb):Prop where
 sp:∀ k,M1.sp=(M2 k).sp
 call:CallLe M1.call fun k=>(M2 k).call
 isIo:∀ k,M1.isIo=(M2 k).isIo
 leans:∀ k,M1.leans=(M2 k).leans
 flat:∀ k,M1.flat=(M2 k).flat
 io:∀ g dst σ vs out,M1.io g dst σ vs=some out→Evl fun k=>(M2 k).io g dst σ vs=some out
 rio:RioLe M1.rio fun k=>(M2 k).rio
section par
variable {M1:qdb} {M2:Nat→qdb} (hM:MLe M1 M2) {E1 E2:Type} {RE:E1→E2→Prop} {h1:qbg E1} {h2:Nat→qbg E2} (hh:Qpb RE h1 h2)
include hM
theorem qvt (g:FuncId) (args:List PV) {r:PV} {obs:List Ob} {u:Unit} (h:M1.call Unit qba 0 g args ()=some (r,obs,u)):Evl fun k=>(M2 k).call Unit qba 0 g args ()=some (r,obs,()):=by
 obtain⟨_,_,h'⟩:=hM.call Unit Unit (fun _ _=>True) qba (fun _=>qba) (fun _ _ _ _ _ _ _ h=>by cases h) 0 g args () () trivial r obs u h
 exact h'
include hh
theorem Qgu (dep dst:Nat) (σ:Nm→Option Ob) (tm:List PV) (f:RX) (args:List RX) {e1:E1} {e2:E2} (he:RE e1 e2) {out:Out} {e1':E1}
  (h:qb1 M1 h1 dep dst σ tm f args e1=some (out,e1')):∃ e2',RE e1' e2'∧Evl fun k=>qb1 (M2 k) (h2 k) dep dst σ tm f args e2=some (out,e2'):=by
 unfold qb1 at h ⊢
 cases hf:f.ev tm with
 | yld d =>
  simp only[hf] at h ⊢
  by_cases hS:(qbd (args.map (RX.ev tm))).isEmpty=true
  ·simp only[hS,if_true] at h ⊢
   unfold chk at h ⊢
   split at h
   ·rename_i hy
    simp only[hy,if_true]
    cases hq:h1 d (args.map (RX.ev tm)) e1 with
    | none=>rw[hq] at h;cases h
    | some p =>
     obtain⟨b,e⟩:=p
     rw[hq] at h;cases h
     obtain⟨e2',hr,h2'⟩:=hh _ _ _ _ he _ _ hq
     exact⟨e2',hr,h2'.mono fun k hk=>by rw[hk]⟩
   ·cases h
  ·simp only[hS] at h ⊢
   unfold chk at h ⊢
   simp only[Bool.false_eq_true,if_false] at h ⊢
   split at h
   ·rename_i hy
    simp only[hy,if_true]
    cases hq:h1 d (qdy (qb5 σ) (args.map (RX.ev tm))) e1 with
    | none=>rw[hq] at h;cases h
    | some p =>
     obtain⟨b,e⟩:=p
     rw[hq] at h;cases h
     obtain⟨e2',hr,h2'⟩:=hh _ _ _ _ he _ _ hq
     exact⟨e2',hr,h2'.mono fun k hk=>by rw[hk]⟩
   ·cases h
 | fn g cap =>
  simp only[hf] at h ⊢
  simp only[←hM.sp,←hM.isIo,←hM.leans]
  cases hs:M1.sp (qd2 g) σ (qb3 g (args.map (RX.ev tm)) cap) with
  | some o=>simp only[hs] at h ⊢;cases h;exact⟨e2,he,.of fun _=>rfl⟩
  | none =>
   simp only[hs] at h ⊢
   cases hio:M1.isIo (qd2 g) with
   | true =>
    simp only[hio,if_true] at h ⊢
    cases hq:M1.io (qd2 g) dst σ (qb3 g (args.map (RX.ev tm)) cap) with
    | none=>rw[hq] at h;cases h
    | some o=>rw[hq] at h;cases h;exact⟨e2,he,(hM.io _ _ _ _ _ hq).mono fun k hk=>by rw[hk]⟩
   | false =>
   simp only[hio,Bool.false_eq_true,if_false] at h ⊢
   by_cases hS:(qbd (qb3 g (args.map (RX.ev tm)) cap)).isEmpty=true
   ·simp only[hS,if_true] at h ⊢
    by_cases hy:qcu (qb3 g (args.map (RX.ev tm)) cap)=true
    ·simp only[hy,if_true] at h ⊢
     cases hq:M1.call E1 h1 dep (qd2 g) (qb3 g (args.map (RX.ev tm)) cap) e1 with
     | none=>rw[hq] at h;cases h
     | some p =>
      obtain⟨r,obs,e⟩:=p
      rw[hq] at h;cases h
      obtain⟨e2',hr,h2'⟩:=hM.call E1 E2 RE h1 h2 hh _ _ _ _ _ he _ _ _ hq
      exact⟨e2',hr,h2'.mono fun k hk=>by simp only at hk;rw[hk]⟩
    ·simp only[hy] at h ⊢
     simp only[Bool.false_eq_true,if_false] at h ⊢
     cases hq:M1.call Unit qba 0 (qd2 g) (qb3 g (args.map (RX.ev tm)) cap) () with
     | none=>rw[hq] at h;cases h
     | some p =>
      obtain⟨r,obs,e⟩:=p
      rw[hq] at h;cases h
      exact⟨e2,he,(qvt hM _ _ hq).mono fun k hk=>by rw[hk]⟩
   ·simp only[hS] at h ⊢
    unfold chk at h ⊢
    simp only[Bool.false_eq_true,if_false] at h ⊢
    split at h
    ·rename_i hy
     simp only[hy,if_true]
     cases hq:M1.call Unit qba 0 (qd2 g) (qdy (qb5 σ) (qb3 g (args.map (RX.ev tm)) cap)) () with
     | none=>rw[hq] at h;cases h
     | some p =>
      obtain⟨r,obs,e⟩:=p
      rw[hq] at h;cases h
      exact⟨e2,he,(qvt hM _ _ hq).mono fun k hk=>by rw[hk]⟩
    ·cases h
 | _=>simp only[hf] at h;cases h
theorem Qfb (dep:Nat) (o:qbo) (st:St) {e1:E1} {e2:E2} (he:RE e1 e2) {out:Out} {e1':E1} (h:qfj M1 h1 dep o st e1=some (out,e1')) :
  ∃ e2',RE e1' e2'∧Evl fun k=>qfj (M2 k) (h2 k) dep o st e2=some (out,e2'):=by
 unfold qfj chk at h ⊢
 split at h
 ·rename_i hf
  simp only[hf,if_true]
  cases hop:o.op with
  | call f args =>
   simp only[hop] at h ⊢
   cases hq:qb1 M1 h1 dep (o.dst.getD 0) (qbf st.objs) st.tmps f args e1 with
   | none=>rw[hq] at h;cases h
   | some p =>
    obtain⟨out1,e3⟩:=p
    rw[hq] at h
    simp only[chk] at h
    split at h
    ·rename_i hg
     cases h
     obtain⟨e2',hr,h2'⟩:=Qgu hM hh dep _ _ _ f args he hq
     exact⟨e2',hr,h2'.mono fun k hk=>by rw[hk];simp only[hg,if_true]⟩
    ·cases h
  | _ =>
   simp only[hop] at h ⊢
   split at h
   ·cases h;exact⟨e2,he,.of fun _=>rfl⟩
   ·cases h
 ·cases h
theorem stepOp_par (dep:Nat) (o:qbo) (st:St) {e1:E1} {e2:E2} (he:RE e1 e2) {st':St} {e1':E1} (h:qpq M1 h1 dep o st e1=some (st',e1')) :
  ∃ e2',RE e1' e2'∧Evl fun k=>qpq (M2 k) (h2 k) dep o st e2=some (st',e2'):=by
 unfold qpq at h ⊢
 cases hq:qfj M1 h1 dep o st e1 with
 | none=>rw[hq] at h;cases h
 | some p =>
  obtain⟨out,e⟩:=p
  rw[hq] at h;cases h
  obtain⟨e2',hr,h2'⟩:=Qfb hM hh dep o st he hq
  exact⟨e2',hr,h2'.mono fun k hk=>by rw[hk]⟩
theorem stepG_par (dep:Nat) (ops:List qbo) (o:qbo) (st:St) {e1:E1} {e2:E2} (he:RE e1 e2) {st':St} {e1':E1} (h:stepG M1 h1 dep ops o st e1=some (st',e1')) :
  ∃ e2',RE e1' e2'∧Evl fun k=>stepG (M2 k) (h2 k) dep ops o st e2=some (st',e2'):=by
 unfold stepG at h ⊢
 cases hw:qfo ops o st.tmps with
 | none=>rw[hw] at h;cases h
 | some b =>
  rw[hw] at h
  cases b with
  | true=>exact stepOp_par hM hh dep o st he h
  | false=>cases h;exact⟨e2,he,.of fun _=>rfl⟩
theorem qy0 (dep:Nat) (ops:List qbo):∀ (l:List qbo) (st:St) {e1:E1} {e2:E2} (_:RE e1 e2) {st':St} {e1':E1} (_:qf4 M1 h1 dep ops l st e1=some (st',e1')),
  ∃ e2',RE e1' e2'∧Evl fun k=>qf4 (M2 k) (h2 k) dep ops l st e2=some (st',e2'):=by
 intro l
 induction l with
 | nil=>intro st e1 e2 he st' e1' h;cases h;exact⟨e2,he,.of fun _=>rfl⟩
 | cons o rest ih =>
  intro st e1 e2 he st' e1' h
  unfold qf4 at h ⊢
  cases hq:stepG M1 h1 dep ops o st e1 with
  | none=>rw[hq] at h;cases h
  | some p =>
   obtain⟨s,e⟩:=p
   rw[hq] at h
   obtain⟨e2',hr,h2'⟩:=stepG_par hM hh dep ops o st he hq
   obtain⟨e3',hr3,h3'⟩:=ih s hr h
   exact⟨e3',hr3,h2'.mono2 h3' fun k hk hk'=>by rw[hk];exact hk'⟩
theorem outD_par (dep:Nat) (ops:List qbo) (i:Nat) (o:qbo) (st:St) {e1:E1} {e2:E2} (he:RE e1 e2) {out:Out} {e1':E1} {inf:qlb} (h:qhc M1 h1 dep ops i o st e1=some (out,e1',inf)) :
  ∃ e2',RE e1' e2'∧Evl fun k=>qhc (M2 k) (h2 k) dep ops i o st e2=some (out,e2',inf):=by
 unfold qhc at h ⊢
 cases hw:qfo ops o st.tmps with
 | none=>rw[hw] at h;cases h
 | some b =>
  rw[hw] at h
  cases b with
  | true =>
   simp only at h ⊢
   cases hq:qfj M1 h1 dep o st e1 with
   | none=>rw[hq] at h;cases h
   | some p =>
    obtain⟨out,e⟩:=p
    rw[hq] at h;cases h
    obtain⟨e2',hr,h2'⟩:=Qfb hM hh dep o st he hq
    exact⟨e2',hr,h2'.mono fun k hk=>by rw[hk]⟩
  | false=>cases h;exact⟨e2,he,.of fun _=>rfl⟩
theorem runD_par (dep:Nat) (ops:List qbo):∀ (l:List (Nat×Nat)) (infos:List qlb) (st:St) {e1:E1} {e2:E2} (_:RE e1 e2) {st':St} {e1':E1} (_:Qhq M1 h1 dep ops l infos st e1=some (st',e1')),
  ∃ e2',RE e1' e2'∧Evl fun k=>Qhq (M2 k) (h2 k) dep ops l infos st e2=some (st',e2'):=by
 intro l
 induction l with
 | nil=>intro infos st e1 e2 he st' e1' h;cases h;exact⟨e2,he,.of fun _=>rfl⟩
 | cons p rest ih =>
  obtain⟨i,bef⟩:=p
  intro infos st e1 e2 he st' e1' h
  unfold Qhq at h ⊢
  cases hi:ops[i]? with
  | none=>rw[hi] at h;cases h
  | some o =>
   simp only[hi] at h ⊢
   unfold qyd at h ⊢
   cases hq:qhc M1 h1 dep ops i o st e1 with
   | none=>rw[hq] at h;cases h
   | some p =>
    obtain⟨out,e,inf⟩:=p
    simp only[hq] at h ⊢
    obtain⟨e2',hr,h2'⟩:=outD_par hM hh dep ops i o st he hq
    unfold chk at h ⊢
    split at h
    ·rename_i hc
     obtain⟨e3',hr3,h3'⟩:=ih _ _ hr h
     exact⟨e3',hr3,h2'.mono2 h3' fun k hk hk'=>by rw[hk];simp only[hc,if_true];exact hk'⟩
    ·cases h
end par
def qm9 (M:qdb) (fuel:Nat) (asg b:qcm) {E:Type} (h:qbg E) (dep:Nat) (ps:List Nat):qbg (Rec E):=fun l args r =>
 if l=dep then
  match r with
  |(s,none,e) =>
   if args.length=ps.length then
    match qbk M fuel asg h (dep+1) {s with tmps:=qsc ps args s.tmps,keep:=s.tmps++s.keep} e with
    | some (.normal,s',e)=>match qbk M fuel b h (dep+1) s' e with
     | some (x,s',e)=>some (x==.normal,({s' with tmps:=s'.keep.take s.tmps.length,keep:=s'.keep.drop s.tmps.length},(if x=.normal then none else some x),e))
     | none=>none
    | _=>none
   else none
  | _=>none
 else
  match r with
  |(s,p,e)=>match h l args e with
   | some (b,e)=>some (b,(s,p,e))
   | none=>none
theorem qt0 (M:qdb) (fuel:Nat) (f:RX) (ps:List Nat) (asg b:qcm) {E:Type} (h:qbg E) (dep:Nat) (st:St) (e:E) :
  qbk M fuel (.rangeFunc f ps asg b) h dep st e=(if Qct M (f.ev st.tmps) then qmc M (fun h dep=>qm9 M fuel asg b h dep ps) h dep (f.ev st.tmps) st e else match qnn st (f.ev st.tmps) with
   | some (.fn g cap,st)=>match M.call (Rec E) (qm9 M fuel asg b h dep ps) (dep+1) (qd2 g) (qb3 g [.yld dep] cap) (st,none,e) with
    | some (_,_,s,p,e)=>some (p.getD .normal,s,e)
    | none=>none
   | _=>none):=rfl
def relR {E1 E2:Type} (RE:E1→E2→Prop) (a:Rec E1) (b:Rec E2):Prop:=a.1=b.1∧a.2.1=b.2.1∧RE a.2.2 b.2.2
theorem away_par {E1 E2:Type} {RE:E1→E2→Prop} {h1:qbg E1} {h2:Nat→qbg E2} (hh:Qpb RE h1 h2) (dep k:Nat):Qpb RE (awayH dep k h1) fun n=>awayH dep k (h2 n):=by
 intro l args e1 e2 he b e1' h
 unfold awayH at h ⊢
 split at h
 ·cases h
 ·rename_i hl
  obtain⟨e2',hr,hv⟩:=hh l args e1 e2 he b e1' h
  exact⟨e2',hr,hv.mono fun n hn=>by show (if dep≤l∧l < dep+k then none else h2 n l args e2)=_;rw[if_neg hl];exact hn⟩
theorem isIoV_par {M1:qdb} {M2:Nat→qdb} (hM:MLe M1 M2) (v:PV) (k:Nat):Qct (M2 k) v=Qct M1 v:=by
 unfold Qct
 rw[hM.isIo k]
theorem Qh6 {M1:qdb} {M2:Nat→qdb} (hM:MLe M1 M2) {E1 E2:Type} {RE:E1→E2→Prop} {h1:qbg E1} {h2:Nat→qbg E2} (hh:Qpb RE h1 h2)
  {rnd1:qbg E1→Nat→qbg (Rec E1)} {rnd2:Nat→qbg E2→Nat→qbg (Rec E2)} (hr:∀ g1 g2,Qpb RE g1 g2→∀ dep,Qpb (relR RE) (rnd1 g1 dep) fun k=>rnd2 k (g2 k) dep)
  (dep:Nat) (f:PV) (st:St) {e1:E1} {e2:E2} (he:RE e1 e2) {x:Ex} {st':St} {e1':E1} (h:qmc M1 rnd1 h1 dep f st e1=some (x,st',e1')) :
  ∃ e2',RE e1' e2'∧Evl fun k=>qmc (M2 k) (rnd2 k) (h2 k) dep f st e2=some (x,st',e2'):=by
 unfold qmc at h ⊢
 cases f with
 | fn g cap =>
  simp only at h ⊢
  cases hm:(qcc (qbs (qbf st.objs) qbe (qbd cap))).mapM (qbf st.objs) with
  | none=>rw[hm] at h;cases h
  | some ins =>
   rw[hm] at h
   simp only at h ⊢
   obtain⟨hk,h⟩:=qs8 h
   simp only[hk,qry]
   split at h
   case h_2=>cases h
   rename_i stE s p e hq
   obtain⟨⟨s2,p2,e2'⟩,⟨q1,q2,q3⟩,hv⟩:=hM.rio _ _ _ _ _ (hr _ _ (away_par hh dep _) _) _ _ _ _ _ (Qhe dep (qcc (qbs (qbf st.objs) qbe (qbd cap))) st,none,e2) ⟨rfl,rfl,he⟩ _ _ hq
   simp only at q1 q2 q3
   subst q1;subst q2
   obtain⟨hk2,h⟩:=qs8 h
   split at h
   case h_2=>cases h
   rename_i out ho
   obtain⟨hk3,h⟩:=qs8 h
   cases h
   refine⟨e2',q3,hv.mono fun k hk=>?_⟩
   simp only at hk
   rw[hk]
   simp only[hk2,ho,hk3,qry]
 | _=>cases h
def qfn (M:qdb) (fuel:Nat) (asg:List Nat) (grow:List (Nat×Nat)) (b:qcm) {E:Type} (h:qbg E) (dep:Nat) (ds:List Nat) (s:St×E):Option (Sum (St×E) (Ex×(St×E))) :=
 match qbk M fuel b h dep s.1 s.2 with
 | some (.normal,st,e)=>some (.inl (norm asg grow (drop ds st),e))
 | some (x,st,e)=>some (.inr (x,st,e))
 | none=>none
theorem qz8 (M:qdb) (fuel:Nat) (asg:List Nat) (grow:List (Nat×Nat)) (b:qcm) {E:Type} (h:qbg E) (dep:Nat) (st:St) (e:E) :
  qbk M fuel (.loop asg grow b) h dep st e=(match qdo (qfn M fuel asg grow b h dep (undefs (norm asg grow st))) fuel (norm asg grow st,e) with
   | some (x,st,e)=>some (x,st,e)
   | none=>none):=rfl
def qwc {σ ρ τ:Type} (f:σ→Option τ) (g:ρ→Option τ):Option (Sum σ ρ)→Option τ
 | some (.inl s)=>f s
 | some (.inr r)=>g r
 | none=>none
theorem repeat_par {σ1 σ2 ρ1 ρ2:Type} {R:σ1→σ2→Prop} {Q:ρ1→ρ2→Prop} {s1:σ1→Option (Sum σ1 ρ1)} {s2:Nat→σ2→Option (Sum σ2 ρ2)}
  (rep1:Nat→σ1→Option ρ1) (hz1:∀ s,rep1 0 s=none) (hs1:∀ n s,rep1 (n+1) s=qwc (rep1 n) some (s1 s))
  (rep2:Nat→Nat→σ2→Option ρ2) (hs2:∀ k n s,rep2 k (n+1) s=qwc (rep2 k n) some (s2 k s))
  (hs:∀ a b,R a b→(∀ a',s1 a=some (.inl a')→∃ b',R a' b'∧Evl fun k=>s2 k b=some (.inl b'))∧(∀ r,s1 a=some (.inr r)→∃ r',Q r r'∧Evl fun k=>s2 k b=some (.inr r'))) :
  ∀ (n:Nat) a b,R a b→∀ r,rep1 n a=some r→∃ r',Q r r'∧Evl fun k=>∀ j,n≤j→rep2 k j b=some r':=by
 intro n
 induction n with
 | zero=>intro a b _ r h;rw[hz1] at h;cases h
 | succ n ih =>
  intro a b hr r h
  rw[hs1] at h
  cases hq:s1 a with
  | none=>rw[hq] at h;cases h
  | some q =>
   rw[hq] at h
   cases q with
   | inl a1 =>
    obtain⟨b1,hr1,h2⟩:=(hs a b hr).1 a1 hq
    obtain⟨r',hq',h3⟩:=ih a1 b1 hr1 r h
    exact⟨r',hq',h2.mono2 h3 fun k hk hk' j hj=>by
     obtain⟨j,rfl⟩:∃ i,j=i+1:=⟨j - 1,by omega⟩
     rw[hs2,hk];exact hk' j (by omega)⟩
   | inr p =>
    cases h
    obtain⟨r',hr1,h2⟩:=(hs a b hr).2 r hq
    exact⟨r',hr1,h2.mono fun k hk j hj=>by
     obtain⟨j,rfl⟩:∃ i,j=i+1:=⟨j - 1,by omega⟩
     rw[hs2,hk];rfl⟩
theorem qn2 {σ:Type} (step:σ→Option (Sum σ (Ex×σ))) (n:Nat) (s:σ) :
  qdo step (n+1) s=qwc (qdo step n) some (step s):=by
 rw[qdo];rcases step s with _ | (_ | _)<;>rfl
theorem Evl.diag {P:Nat→Nat→Prop} {n:Nat} (h:Evl fun k=>∀ j,n≤j→P k j):Evl fun k=>P k k:=by
 obtain⟨a,ha⟩:=h;exact⟨max a n,fun k hk=>ha k (by omega) k (by omega)⟩
theorem qrn {M1:qdb} {M2:Nat→qdb} (hM:MLe M1 M2) {f1:Nat}:∀ (c:qcm) {E1 E2:Type} {RE:E1→E2→Prop} {h1:qbg E1} {h2:Nat→qbg E2} (_:Qpb RE h1 h2) (dep:Nat) (st:St) {e1:E1} {e2:E2} (_:RE e1 e2)
  {x:Ex} {st':St} {e1':E1} (_:qbk M1 f1 c h1 dep st e1=some (x,st',e1')),∃ e2',RE e1' e2'∧Evl fun k=>qbk (M2 k) k c (h2 k) dep st e2=some (x,st',e2'):=by
 intro c
 induction c with
 | skip=>intro E1 E2 RE h1 h2 hh dep st e1 e2 he x st' e1' h;cases h;exact⟨e2,he,.of fun _=>rfl⟩
 | region ops dr lv =>
  intro E1 E2 RE h1 h2 hh dep st e1 e2 he x st' e1' h
  cases dr with
  | none =>
   simp only[qbk] at h ⊢
   cases hq:qf4 M1 h1 dep ops ops (qgf (qmp ops) st) e1 with
   | none=>rw[hq] at h;cases h
   | some p =>
    obtain⟨s,e⟩:=p
    rw[hq] at h;cases h
    obtain⟨e2',hr,h2'⟩:=qy0 hM hh dep ops ops _ he hq
    exact⟨e2',hr,h2'.mono fun k hk=>by rw[hk]⟩
  | some bef =>
   simp only[qbk] at h ⊢
   cases hq:Qhq M1 h1 dep ops bef [] (qgf (qmp ops) st) e1 with
   | none=>rw[hq] at h;cases h
   | some p =>
    obtain⟨s,e⟩:=p
    rw[hq] at h;cases h
    obtain⟨e2',hr,h2'⟩:=runD_par hM hh dep ops bef [] _ he hq
    exact⟨e2',hr,h2'.mono fun k hk=>by rw[hk]⟩
 | seq a b iha ihb =>
  intro E1 E2 RE h1 h2 hh dep st e1 e2 he x st' e1' h
  simp only[qbk] at h ⊢
  cases hq:qbk M1 f1 a h1 dep st e1 with
  | none=>rw[hq] at h;cases h
  | some p =>
   obtain⟨y,s,e⟩:=p
   rw[hq] at h
   obtain⟨e2',hr,h2'⟩:=iha hh dep st he hq
   cases y with
   | normal =>
    obtain⟨e3',hr3,h3'⟩:=ihb hh dep s hr h
    exact⟨e3',hr3,h2'.mono2 h3' fun k hk hk'=>by rw[hk];exact hk'⟩
   | exit id=>cases h;exact⟨e2',hr,h2'.mono fun k hk=>by rw[hk]⟩
   | ret=>cases h;exact⟨e2',hr,h2'.mono fun k hk=>by rw[hk]⟩
 | cond c a b iha ihb =>
  intro E1 E2 RE h1 h2 hh dep st e1 e2 he x st' e1' h
  simp only[qbk] at h ⊢
  cases hc:c.ev st.tmps with
  | bool v =>
   rw[hc] at h
   cases v with
   | true=>exact iha hh dep st he h
   | false=>exact ihb hh dep st he h
  | _=>rw[hc] at h;cases h
 | block id b ih =>
  intro E1 E2 RE h1 h2 hh dep st e1 e2 he x st' e1' h
  simp only[qbk] at h ⊢
  cases hq:qbk M1 f1 b h1 dep st e1 with
  | none=>rw[hq] at h;cases h
  | some p =>
   obtain⟨y,s,e⟩:=p
   rw[hq] at h
   obtain⟨e2',hr,h2'⟩:=ih hh dep st he hq
   cases y with
   | normal=>cases h;exact⟨e2',hr,h2'.mono fun k hk=>by rw[hk]⟩
   | ret=>cases h;exact⟨e2',hr,h2'.mono fun k hk=>by rw[hk]⟩
   | exit id' =>
    simp only at h ⊢
    split at h<;>rename_i hid
    ·cases h;exact⟨e2',hr,h2'.mono fun k hk=>by rw[hk];simp only[hid,if_true]⟩
    ·cases h;exact⟨e2',hr,h2'.mono fun k hk=>by rw[hk];simp only[hid,if_false]⟩
 | loop asg grow b ih =>
  intro E1 E2 RE h1 h2 hh dep st e1 e2 he x st' e1' h
  simp only[qz8] at h ⊢
  generalize norm asg grow st=z0 at h ⊢
  cases hq:qdo (qfn M1 f1 asg grow b h1 dep (undefs z0)) f1 (z0,e1) with
  | none=>rw[hq] at h;cases h
  | some q =>
   obtain⟨x0,st0,e0⟩:=q
   rw[hq] at h
   cases h
   obtain⟨⟨x2,s2,e2'⟩,hr,h2'⟩:=repeat_par (R:=fun (a:St×E1) (b:St×E2)=>a.1=b.1∧RE a.2 b.2) (Q:=fun (a:Ex×St×E1) (b:Ex×St×E2)=>a.1=b.1∧a.2.1=b.2.1∧RE a.2.2 b.2.2)
    (s1:=qfn M1 f1 asg grow b h1 dep (undefs z0)) (s2:=fun k=>qfn (M2 k) k asg grow b (h2 k) dep (undefs z0))
    (qdo (qfn M1 f1 asg grow b h1 dep (undefs z0))) (fun _=>rfl) (fun n s=>qn2 _ n s) (fun k=>qdo (qfn (M2 k) k asg grow b (h2 k) dep (undefs z0))) (fun k n s=>qn2 (qfn (M2 k) k asg grow b (h2 k) dep (undefs z0)) n s) (by
     rintro ⟨a,ea⟩ ⟨b',eb⟩ ⟨h01,hre⟩
     simp only at h01 hre
     subst h01
     refine⟨fun a' ha=>?_,fun r ha=>?_⟩
     ·unfold qfn at ha ⊢
      simp only at ha ⊢
      cases hb:qbk M1 f1 b h1 dep a ea with
      | none=>rw[hb] at ha;cases ha
      | some p =>
       obtain⟨y,s,e⟩:=p
       rw[hb] at ha
       obtain⟨e3,hr3,h3⟩:=ih hh dep a hre hb
       cases y with
       | normal=>cases ha;exact⟨(_,e3),⟨rfl,hr3⟩,h3.mono fun k hk=>by rw[hk]⟩
       | exit id=>cases ha
       | ret=>cases ha
     ·unfold qfn at ha ⊢
      simp only at ha ⊢
      cases hb:qbk M1 f1 b h1 dep a ea with
      | none=>rw[hb] at ha;cases ha
      | some p =>
       obtain⟨y,s,e⟩:=p
       rw[hb] at ha
       obtain⟨e3,hr3,h3⟩:=ih hh dep a hre hb
       cases y with
       | normal=>cases ha
       | exit id=>cases ha;exact⟨(_,_,e3),⟨rfl,rfl,hr3⟩,h3.mono fun k hk=>by rw[hk]⟩
       | ret=>cases ha;exact⟨(_,_,e3),⟨rfl,rfl,hr3⟩,h3.mono fun k hk=>by rw[hk]⟩) f1 (z0,e1) (z0,e2) ⟨rfl,he⟩ _ hq
   simp only at hr
   obtain⟨h00,h01,hre⟩:=hr
   subst h00;subst h01
   exact⟨e2',hre,h2'.diag.mono fun k hk=>by rw[hk]⟩
 | rangeFunc f ps asg b iha ihb =>
  intro E1 E2 RE h1 h2 hh dep st e1 e2 he x st' e1' h
  have hrel:∀ (g1:qbg E1) (g2:Nat→qbg E2),Qpb RE g1 g2→∀ dep,Qpb (relR RE) (qm9 M1 f1 asg b g1 dep ps) fun k=>qm9 (M2 k) k asg b (g2 k) dep ps:=by
   intro g1 g2 hh1 dep
   rintro l args ⟨s,p,e⟩ ⟨s2,p2,e2⟩ ⟨h01,h02,hre⟩ bb ⟨s',p',e'⟩ hq
   simp only at h01 h02 hre
   subst h01;subst h02
   unfold qm9 at hq ⊢
   by_cases hl:l=dep
   ·simp only[hl,if_true] at hq ⊢
    cases p with
    | some x=>cases hq
    | none =>
     simp only at hq ⊢
     by_cases hlen:args.length=ps.length
     ·simp only[hlen,if_true] at hq ⊢
      cases ha:qbk M1 f1 asg g1 (dep+1) {s with tmps:=qsc ps args s.tmps,keep:=s.tmps++s.keep} e with
      | none=>rw[ha] at hq;cases hq
      | some q =>
       obtain⟨y,s3,e3⟩:=q
       rw[ha] at hq
       obtain⟨e4,hr4,h4⟩:=iha hh1 (dep+1) _ hre ha
       cases y with
       | normal =>
        simp only at hq ⊢
        cases hb:qbk M1 f1 b g1 (dep+1) s3 e3 with
        | none=>rw[hb] at hq;cases hq
        | some q =>
         obtain⟨y,s5,e5⟩:=q
         rw[hb] at hq
         obtain⟨e6,hr6,h6⟩:=ihb hh1 (dep+1) _ hr4 hb
         cases hq
         exact⟨(_,_,e6),⟨rfl,rfl,hr6⟩,h4.mono2 h6 fun k hk hk'=>by simp only[hk,hk']<;>rfl⟩
       | exit id=>cases hq
       | ret=>cases hq
     ·simp only[hlen,if_false] at hq;cases hq
   ·simp only[hl,if_false] at hq ⊢
    cases ha:g1 l args e with
    | none=>rw[ha] at hq;cases hq
    | some q =>
     obtain⟨y,e3⟩:=q
     rw[ha] at hq;cases hq
     obtain⟨e4,hr4,h4⟩:=hh1 l args _ _ hre _ _ ha
     exact⟨(_,_,e4),⟨rfl,rfl,hr4⟩,h4.mono fun k hk=>by rw[hk]⟩
  simp only[qt0,isIoV_par hM] at h ⊢
  by_cases hio:Qct M1 (f.ev st.tmps)=true
  ·simp only[hio,if_true] at h ⊢
   exact Qh6 hM hh (rnd2:=fun k h dep=>qm9 (M2 k) k asg b h dep ps) hrel dep _ st he h
  simp only[hio] at h ⊢
  simp only[Bool.false_eq_true,if_false] at h ⊢
  cases hz:qnn st (f.ev st.tmps) with
  | none=>rw[hz] at h;cases h
  | some p =>
   obtain⟨v,s0⟩:=p
   rw[hz] at h
   cases v with
   | fn g cap =>
    simp only at h ⊢
    cases hq:M1.call (Rec E1) (qm9 M1 f1 asg b h1 dep ps) (dep+1) (qd2 g) (qb3 g [.yld dep] cap) (s0,none,e1) with
    | none=>rw[hq] at h;cases h
    | some q =>
     obtain⟨r,obs,s,p,e⟩:=q
     rw[hq] at h
     cases h
     obtain⟨⟨s2,p2,e2'⟩,hr,h2'⟩:=hM.call (Rec E1) (Rec E2) (relR RE) (qm9 M1 f1 asg b h1 dep ps) (fun k=>qm9 (M2 k) k asg b (h2 k) dep ps) (hrel h1 h2 hh dep) (dep+1) (qd2 g) (qb3 g [.yld dep] cap) (s0,none,e1) (s0,none,e2) ⟨rfl,rfl,he⟩ r obs _ hq
     obtain⟨h01,h02,hre⟩:=hr
     subst h01;subst h02
     exact⟨e2',hre,h2'.mono fun k hk=>by simp only at hk;rw[hk]⟩
   | _=>cases h
 | exit id=>intro E1 E2 RE h1 h2 hh dep st e1 e2 he x st' e1' h;cases h;exact⟨e2,he,.of fun _=>rfl⟩
 | norm g=>intro E1 E2 RE h1 h2 hh dep st e1 e2 he x st' e1' h;cases h;exact⟨e2,he,.of fun _=>rfl⟩
 | scope b ih =>
  intro E1 E2 RE h1 h2 hh dep st e1 e2 he x st' e1' h
  simp only[qbk] at h ⊢
  cases hq:qbk M1 f1 b h1 dep st e1 with
  | none=>rw[hq] at h;cases h
  | some p =>
   obtain⟨y,s,e⟩:=p
   rw[hq] at h
   obtain⟨e2',hr,h2'⟩:=ih hh dep st he hq
   cases y with
   | normal=>cases h;exact⟨e2',hr,h2'.mono fun k hk=>by rw[hk]⟩
   | ret=>cases h;exact⟨e2',hr,h2'.mono fun k hk=>by rw[hk]⟩
   | exit id' =>
    simp only at h ⊢
    split at h<;>rename_i hid
    ·cases h;exact⟨e2',hr,h2'.mono fun k hk=>by rw[hk];simp only[hid,if_true]⟩
    ·cases h
 | ret=>intro E1 E2 RE h1 h2 hh dep st e1 e2 he x st' e1' h;cases h;exact⟨e2,he,.of fun _=>rfl⟩
 | dreg=>intro E1 E2 RE h1 h2 hh dep st e1 e2 he x st' e1' h;cases h
 | bad=>intro E1 E2 RE h1 h2 hh dep st e1 e2 he x st' e1' h;cases h
theorem Evl.shift {P:Nat→Prop} (h:Evl P):Evl fun k=>∃ j,k=j+1∧P j:=by
 obtain⟨a,ha⟩:=h;exact⟨a+1,fun k hk=>⟨k - 1,by omega,ha _ (by omega)⟩⟩
theorem Qpb.shift {E1 E2:Type} {RE:E1→E2→Prop} {h1:qbg E1} {h2:Nat→qbg E2} (hh:Qpb RE h1 h2):Qpb RE h1 fun k=>h2 (k+1):=by
 intro l args e1 e2 he b e1' h
 obtain⟨e2',hr,a,ha⟩:=hh l args e1 e2 he b e1' h
 exact⟨e2',hr,a,fun k hk=>ha _ (by omega)⟩
theorem Qbi {M1:qdb} {M2:Nat→qdb} (hM:MLe M1 M2) (n:Nat) (tab:FuncId→Option RFn):CallLe (qnz M1 n tab) (fun k=>qnz (M2 k) k tab):=by
 intro E1 E2 RE h1 h2 hh dep g args e1 e2 he r obs e1' h
 simp only[qnz] at h ⊢
 cases ht:tab g with
 | none=>rw[ht] at h;cases h
 | some fn =>
  rw[ht] at h
  simp only at h ⊢
  cases hq:qbk M1 n fn.code h1 dep {tmps:=args++List.replicate (fn.nt - args.length) .undef,objs:=List.replicate fn.nt [],keep:=[]} e1 with
  | none=>rw[hq] at h;cases h
  | some p =>
   obtain⟨x,s,e⟩:=p
   rw[hq] at h
   obtain⟨e2',hr,h2'⟩:=qrn hM fn.code hh dep _ he hq
   cases x with
   | exit id=>cases h
   | normal =>
    simp only at h
    cases h3:qkm s fn.res with
    | none=>rw[h3] at h;cases h
    | some vs =>
     rw[h3] at h
     simp only at h
     cases h4:qjo fn.shut s (qna vs) with
     | none=>rw[h4] at h;cases h
     | some q =>
      obtain⟨v,obs'⟩:=q;rw[h4] at h;cases h
      exact⟨e2',hr,h2'.mono fun k hk=>by simp only[hk,h3,h4]⟩
   | ret =>
    simp only at h
    cases h3:qkm s fn.res with
    | none=>rw[h3] at h;cases h
    | some vs =>
     rw[h3] at h
     simp only at h
     cases h4:qjo fn.shut s (qna vs) with
     | none=>rw[h4] at h;cases h
     | some q =>
      obtain⟨v,obs'⟩:=q;rw[h4] at h;cases h
      exact⟨e2',hr,h2'.mono fun k hk=>by simp only[hk,h3,h4]⟩
theorem liftD_some {r:Option (Ex×St×Unit)} {x:Ex} {st:St} {l:List Nat} (h:qqa r=some (x,st,l)):r=some (x,st,())∧l=[]:=by
 unfold qqa at h
 split at h
 ·cases h;exact⟨rfl,rfl⟩
 ·cases h
theorem evalD_par {M1:qdb} {M2:Nat→qdb} (hM:MLe M1 M2) {n nt:Nat}:∀ (c:qcm) (st:St) {x:Ex} {st':St} {l:List Nat},qca M1 n nt c st=some (x,st',l)→Evl fun k=>qca (M2 k) k nt c st=some (x,st',l):=by
 have leaf:∀ (c:qcm) (st:St) {x:Ex} {st':St} {l:List Nat},qqa (qbk M1 n c qba 0 st ())=some (x,st',l)→Evl fun k=>qqa (qbk (M2 k) k c qba 0 st ())=some (x,st',l):=by
  intro c st x st' l h
  obtain⟨h1,rfl⟩:=liftD_some h
  obtain⟨e2',_,h2'⟩:=qrn (RE:=fun (_ _:Unit)=>True) (h1:=qba) (h2:=fun _=>qba) hM c (fun _ _ _ _ _ _ _ h=>by cases h) 0 _ (e1:=()) (e2:=()) trivial h1
  exact h2'.mono fun k hk=>by rw[hk];rfl
 intro c
 induction c with
 | dreg ops f args live =>
  intro st x st' l h
  simp only[qca] at h ⊢
  cases hq:qf4 M1 qba 0 ops ops (qgf (qmp ops) st) () with
  | none=>rw[hq] at h;cases h
  | some p =>
   obtain⟨s,u⟩:=p
   rw[hq] at h
   obtain⟨e2',_,h2'⟩:=qy0 (RE:=fun (_ _:Unit)=>True) (h1:=qba) (h2:=fun _=>qba) hM (fun _ _ _ _ _ _ _ h=>by cases h) 0 ops ops _ (e1:=()) (e2:=()) trivial hq
   exact h2'.mono fun k hk=>by rw[hk];exact h
 | seq a b iha ihb =>
  intro st x st' l h
  simp only[qca] at h ⊢
  cases hq:qca M1 n nt a st with
  | none=>rw[hq] at h;cases h
  | some p =>
   obtain⟨y,s,l1⟩:=p
   rw[hq] at h
   have h1:=iha _ hq
   cases y with
   | normal =>
    simp only at h
    cases hb:qca M1 n nt b s with
    | none=>rw[hb] at h;cases h
    | some q =>
     obtain⟨z,s2,l2⟩:=q
     rw[hb] at h
     exact h1.mono2 (ihb _ hb) fun k g1 g2=>by rw[g1];simp only;rw[g2];exact h
   | exit id=>exact h1.mono fun k g1=>by rw[g1];exact h
   | ret=>exact h1.mono fun k g1=>by rw[g1];exact h
 | cond c a b iha ihb =>
  intro st x st' l h
  simp only[qca] at h ⊢
  split at h
  ·exact iha _ h
  ·exact ihb _ h
  ·cases h
 | block id b ih =>
  intro st x st' l h
  simp only[qca] at h ⊢
  cases hq:qca M1 n nt b st with
  | none=>rw[hq] at h;cases h
  | some p =>
   rw[hq] at h
   exact (ih _ hq).mono fun k g=>by rw[g];exact h
 | scope b ih =>
  intro st x st' l h
  simp only[qca] at h ⊢
  split at h
  ·cases h
  rename_i hl
  simp only[hl,Bool.false_eq_true,if_false]
  cases hq:qca M1 n nt b st with
  | none=>rw[hq] at h;cases h
  | some p =>
   rw[hq] at h
   exact (ih _ hq).mono fun k g=>by rw[g];exact h
 | skip=>intro st x st' l h;exact leaf _ st h
 | region ops d lv=>intro st x st' l h;exact leaf _ st h
 | loop a g b _=>intro st x st' l h;exact leaf _ st h
 | rangeFunc f ps a b _ _=>intro st x st' l h;exact leaf _ st h
 | exit id=>intro st x st' l h;exact leaf _ st h
 | ret=>intro st x st' l h;exact leaf _ st h
 | norm g=>intro st x st' l h;exact leaf _ st h
 | bad=>intro st x st' l h;exact leaf _ st h
theorem Qmh {M1:qdb} {M2:Nat→qdb} (hM:MLe M1 M2) {nt:Nat}:∀ (l:List Nat) (st:St) {st':St},Qmi M1 nt l st=some st'→Evl fun k=>Qmi (M2 k) nt l st=some st':=by
 intro l
 induction l with
 | nil=>intro st st' h;exact .of fun _=>h
 | cons n l ih =>
  intro st st' h
  unfold Qmi at h ⊢
  split at h
  case h_2=>cases h
  rename_i f cap hf
  split at h
  ·cases h
  rename_i hsp
  split at h
  case isFalse=>cases h
  rename_i hfl
  split at h
  case h_2=>cases h
  rename_i out hout
  unfold chk at h
  split at h
  case isFalse=>cases h
  rename_i hn
  refine (hM.io _ _ _ _ _ hout).mono2 (ih _ h) fun k g1 g2=>?_
  rw[←hM.sp k,hsp,←hM.isIo k,←hM.flat k]
  simp only[hfl,if_true,g1,chk,hn]
  exact g2
theorem qq9 {M1:qdb} {M2:Nat→qdb} (hM:MLe M1 M2) (n:Nat) (fn:RFn) (ins:List Ob) (vs:List PV) {r:St×PV} (h:qls M1 n fn ins vs=some r):Evl fun k=>qls (M2 k) k fn ins vs=some r:=by
 unfold qls at h ⊢
 cases hd:noD fn.code with
 | true =>
  simp only[hd,if_true] at h ⊢
  cases hq:qbk M1 n fn.code qba 0 (Qdp fn.gone fn.nt ins vs) () with
  | none=>rw[hq] at h;cases h
  | some p =>
   obtain⟨x,s,e⟩:=p
   rw[hq] at h
   obtain⟨e2',_,h2'⟩:=qrn (RE:=fun (_ _:Unit)=>True) (h1:=qba) (h2:=fun _=>qba) hM fn.code (fun _ _ _ _ _ _ _ h=>by cases h) 0 _ (e1:=()) (e2:=()) trivial hq
   refine h2'.mono fun k hk=>?_
   rw[hk]
   exact h
 | false =>
  simp only[hd,Bool.false_eq_true,if_false] at h ⊢
  cases hq:qca M1 n fn.nt fn.code (Qdp fn.gone fn.nt ins vs) with
  | none=>rw[hq] at h;cases h
  | some p =>
   obtain⟨x,s,l⟩:=p
   rw[hq] at h
   have h1:=evalD_par hM fn.code _ hq
   cases x with
   | exit id=>cases h
   | normal =>
    simp only at h
    cases hq2:Qmi M1 fn.nt l s with
    | none=>rw[hq2] at h;cases h
    | some s2 =>
     rw[hq2] at h
     exact h1.mono2 (Qmh hM l s hq2) fun k g1 g2=>by rw[g1];simp only;rw[g2];exact h
   | ret =>
    simp only at h
    cases hq2:Qmi M1 fn.nt l s with
    | none=>rw[hq2] at h;cases h
    | some s2 =>
     rw[hq2] at h
     exact h1.mono2 (Qmh hM l s hq2) fun k g1 g2=>by rw[g1];simp only;rw[g2];exact h
theorem ioOf_par {M1:qdb} {M2:Nat→qdb} (hM:MLe M1 M2) (n:Nat) (tab:FuncId→Option RFn) (g:FuncId) (dst:Nat) (σ:Nm→Option Ob) (vs:List PV) (out:Out) (h:Qjy M1 n tab g dst σ vs=some out) :
  Evl fun k=>Qjy (M2 k) k tab g dst σ vs=some out:=by
 unfold Qjy at h ⊢
 cases ht:tab g with
 | none=>rw[ht] at h;cases h
 | some fn =>
  rw[ht] at h
  simp only at h ⊢
  cases hm:(qcc (qbs σ qbe (qbd vs))).mapM σ with
  | none=>rw[hm] at h;cases h
  | some ins =>
   rw[hm] at h
   simp only at h ⊢
   unfold chk at h ⊢
   split at h
   case isFalse=>cases h
   rename_i hc
   simp only[hc,if_true]
   cases hq:qls M1 n fn (ins.map (Ob.ren fun m=>(0,(qcc (qbs σ qbe (qbd vs))).idxOf m))) (qf1 (fun m=>(0,(qcc (qbs σ qbe (qbd vs))).idxOf m)) vs) with
   | none=>rw[hq] at h;cases h
   | some p =>
    rw[hq] at h
    refine (qq9 hM n fn _ _ hq).mono fun k hk=>?_
    rw[hk]
    exact h
theorem Qd6 {M1:qdb} {M2:Nat→qdb} (hM:MLe M1 M2) (n:Nat) (tab:FuncId→Option RFn):RioLe (Qb0 M1 n tab) fun k=>Qb0 (M2 k) k tab:=by
 intro E1 E2 RE h1 h2 hh dep g ins vs e1 e2 he st e1' h
 unfold Qb0 at h ⊢
 cases ht:tab g with
 | none=>rw[ht] at h;cases h
 | some fn =>
  simp only[ht] at h ⊢
  obtain⟨hk,h⟩:=qs8 h
  simp only[hk,qry]
  cases hq:qbk M1 n fn.code h1 dep (Qdp fn.gone fn.nt ins vs) e1 with
  | none=>rw[hq] at h;cases h
  | some q =>
   obtain⟨x,s,e⟩:=q
   rw[hq] at h
   obtain⟨e2',hr,hv⟩:=qrn hM fn.code hh dep _ he hq
   cases x with
   | exit id=>cases h
   | normal=>cases h;exact⟨e2',hr,hv.mono fun k hk=>by rw[hk]⟩
   | ret=>cases h;exact⟨e2',hr,hv.mono fun k hk=>by rw[hk]⟩
theorem MLe.of_tail {M1:qdb} {M2:Nat→qdb} (h:MLe M1 fun k=>M2 (k+1)) (h0:M1.sp=(M2 0).sp) (h1:M1.isIo=(M2 0).isIo) (h2:M1.leans=(M2 0).leans) (h3:M1.flat=(M2 0).flat):MLe M1 M2 where
 sp k:=by cases k with | zero=>exact h0 | succ k=>exact h.sp k
 call:=by
  intro E1 E2 RE g1 g2 hh dep g args e1 e2 he r obs e1' hq
  obtain⟨e2',hr,h2⟩:=h.call E1 E2 RE g1 (fun k=>g2 (k+1)) hh.shift dep g args e1 e2 he r obs e1' hq
  exact⟨e2',hr,h2.shift.mono fun k ⟨j,hj,hp⟩=>by subst hj;exact hp⟩
 isIo k:=by cases k with | zero=>exact h1 | succ k=>exact h.isIo k
 leans k:=by cases k with | zero=>exact h2 | succ k=>exact h.leans k
 flat k:=by cases k with | zero=>exact h3 | succ k=>exact h.flat k
 io g dst σ vs out hq:=(h.io g dst σ vs out hq).shift.mono fun k ⟨j,hj,hp⟩=>by subst hj;exact hp
 rio:=by
  intro E1 E2 RE g1 g2 hh dep g ins vs e1 e2 he st e1' hq
  obtain⟨e2',hr,h2⟩:=h.rio E1 E2 RE g1 (fun k=>g2 (k+1)) hh.shift dep g ins vs e1 e2 he st e1' hq
  exact⟨e2',hr,h2.shift.mono fun k ⟨j,hj,hp⟩=>by subst hj;exact hp⟩
theorem Qc7 (sp:FuncId→(Nm→Option Ob)→List PV→Option Out) (tab:FuncId→Option RFn) (n:Nat):(qgt sp tab n).sp=sp:=by cases n<;>rfl
theorem qs2 (sp:FuncId→(Nm→Option Ob)→List PV→Option Out) (tab:FuncId→Option RFn) (n:Nat):(qgt sp tab n).isIo=qji tab:=by cases n<;>rfl
theorem qqh (sp:FuncId→(Nm→Option Ob)→List PV→Option Out) (tab:FuncId→Option RFn) (n:Nat):(qgt sp tab n).leans=qpa tab:=by cases n<;>rfl
theorem Qlt {io1:FuncId→Nat→(Nm→Option Ob)→List PV→Option Out} {io2:Nat→FuncId→Nat→(Nm→Option Ob)→List PV→Option Out} (tab:FuncId→Option RFn) (h:∀ g dst σ vs out,io1 g dst σ vs=some out→Evl fun k=>io2 k g dst σ vs=some out)
  (g:FuncId) (dst:Nat) (σ:Nm→Option Ob) (vs:List PV) (out:Out) (hc:Qlu tab io1 g dst σ vs=some out):Evl fun k=>Qlu tab (io2 k) g dst σ vs=some out:=by
 unfold Qlu at hc ⊢
 generalize qtu tab g σ vs=Rz at hc ⊢
 cases Rz with
 | nil=>exact h _ _ _ _ _ hc
 | cons r rs =>
  simp only at hc ⊢
  obtain⟨h1,hc⟩:=qs8 hc
  split at hc
  case h_2=>cases hc
  rename_i out0 hq
  obtain⟨h2,hc⟩:=qs8 hc
  cases hc
  refine (h _ _ _ _ _ hq).mono fun k hk=>?_
  rw[h1,hk]
  simp only[qry,h2]
theorem qs3 (sp:FuncId→(Nm→Option Ob)→List PV→Option Out) (tab:FuncId→Option RFn) (n:Nat):(qgt sp tab n).flat=qkx tab:=by cases n<;>rfl
theorem Qc8 {sp:FuncId→(Nm→Option Ob)→List PV→Option Out} {tab:FuncId→Option RFn}:∀ (n:Nat),MLe (qgt sp tab n) (qgt sp tab):=by
 intro n
 induction n with
 | zero=>exact {sp:=fun k=>(by rw[Qc7,Qc7]),call:=fun E1 E2 RE h1 h2 hh dep g args e1 e2 he r obs e1' h=>(by cases h),isIo:=fun k=>(by rw[qs2,qs2]),leans:=fun k=>(by rw[qqh,qqh]),flat:=fun k=>(by rw[qs3,qs3]),io:=fun g dst σ vs out h=>(by cases h),rio:=fun E1 E2 RE h1 h2 hh dep g ins vs e1 e2 he st e1' h=>(by cases h)}
 | succ n ih =>
  refine MLe.of_tail ⟨fun k=>rfl,?_,fun k=>rfl,fun k=>rfl,fun k=>rfl,fun g dst σ vs out h=>Qlt tab (fun g dst σ vs out h=>ioOf_par ih n tab g dst σ vs out h) g dst σ vs out h,Qd6 ih n tab⟩ rfl rfl rfl rfl
  exact Qbi ih n tab
theorem qs4 {sp:FuncId→(Nm→Option Ob)→List PV→Option Out} {tab:FuncId→Option RFn} (n:Nat):CallLe (qbi sp tab n) (qbi sp tab):=(Qc8 n).call
end Go.Ab


namespace Go.Ab
def qcd {α β:Type} (x:Option α) (f:α→Option β):Option β :=
 match x with
 | some a=>f a
 | none=>none
def Qcs {β:Type} (v:PV) (a b:Option β):Option β :=
 match v with
 | .bool true=>a
 | .bool false=>b
 | _=>none
def iteB {β:Type} (v:Bool) (a b:Option β):Option β :=
 match v with
 | true=>a
 | false=>b
def qfl {β:Type} (v:Bool) (a:Option β):Option β :=
 match v with
 | true=>a
 | false=>none
mutual
def okV:PV→Bool
 | .undef | .bool _ | .int _ _ | .str _ | .nilS | .nilP | .nilF | .nilI | .nilM | .glob _ _=>true
 | .sl _ xs _=>qcy xs | .ptr cs _=>qcy cs | .agg cs=>qcy cs | .iface _ x=>okV x | .fn _ cap=>qcy cap | .tup xs=>qcy xs | .imap es=>qcy es
 | .yld _ | .ref _ _ | .aref _ _ _ _ | .arr _ _ _ _ | .mp _ | .it _=>false
def qcy:List PV→Bool
 | []=>true
 | x :: xs=>okV x&&qcy xs
end
def qbz (op:ROp):Option PV :=
 match exec 0 (fun _=>none) [] op with
 | some out=>some out.v
 | none=>none
def ptrO (cs:List PV) (o:Nat):PV:=if o < cs.length then .ptr cs o else .undef
def arefO (k k':Nat) (xs:List PV) (i o:Nat):PV:=if k=k' then (match xs[i]? with | some x=>if o < x.cells.length then .ptr x.cells o else .undef | none=>.undef) else .undef
def slO (k k':Nat) (xs:List PV) (o n:Nat):PV:=if k=k'∧o+n≤xs.length then .sl k ((xs.drop o).take n) false else .undef
def qt8 (v:PV) (i:Nat):PV:=v.cells.getD i .undef
def qmf (v:PV) (n:Nat):Bool:=v.isVal&&v.cells.length==n
def selO (v:PV) (o n:Nat) (ag:Bool):Option PV:=sel v.cells o n ag
def elemO (xs:List PV) (i o n:Nat) (ag:Bool):Option PV :=
 match xs[i]? with
 | some e=>sel e.cells o n ag
 | none=>none
def setO (k:Nat) (xs:List PV) (i o n:Nat) (v:PV):Option (List PV) :=
 match xs[i]? with
 | some (.agg es)=>qfl (v.isVal&&decide (v.cells.length=n)&&decide (o+n≤es.length)) (some (xs.set i (.agg (splice es o v.cells))))
 | some _=>qfl (k==1&&o==0&&n==1&&v.isCell) (some (xs.set i v))
 | none=>none
def natO (v:PV):Option Nat:=qqx v
def Qha (x:Option PV) (d top:Nat):Option Nat:=ql2 x d top
def elemsO (k:Nat) (v:PV):Option (List PV):=qk8 (fun _=>none) k v
def appO (k:Nat) (v:PV) (ys:List PV):Option (List PV) :=
 match v with
 | .nilS=>qfl (decide (ys.length≤qgx)) (some ys)
 | .sl k' xs true=>match ys with
  | []=>none
  | y :: ys=>qfl (k==k'&&decide (xs.length+(ys.length+1)≤qgx)) (some (xs++y :: ys))
 | _=>none
def insO (c:TC) (es:List PV) (k v:PV):Option (List PV) :=
 match setE k v es with
 | some es'=>qfl (qsp c k&&v.isVal) (some es')
 | none=>none
def lookO (c:TC) (z:PV) (ok:Bool) (es:List PV) (k:PV):Option PV :=
 match qt7 k es with
 | none=>none
 | some r=>qfl (qsp c k) (some (if ok then .tup [r.getD z,.bool r.isSome] else r.getD z))
def mkSO (l c:PV):Option Nat :=
 match qqx l,qqx c with
 | some l,some c=>qfl (decide (l≤c)&&decide (c≤qgx)) (some l)
 | _,_=>none
def strO (v:PV):Option (List UInt8) :=
 match v with
 | .str s=>some s
 | _=>none
def runeP (s:List UInt8) (pos:Nat):PV:=.int .i32 (Utf8.decode ⟨s.toArray⟩ pos).1
def runeN (s:List UInt8) (pos:Nat):Nat:=(Utf8.decode ⟨s.toArray⟩ pos).2
def asP {β:Type} (e:TypeId) (v:PV) (f:PV→Option β) (g:Option β):Option β :=
 match v with
 | .nilI=>g
 | .iface t x=>if t=e then f x else none
 | _=>none
def notNil {β:Type} (v:PV) (a:Option β):Option β :=
 match v with
 | .nilS=>none
 | _=>a
def nilO {β:Type} (v:PV) (a:Option β):Option β :=
 match v with
 | .nilS=>a
 | _=>none
def nilB {β:Type} (v:PV) (a b:Option β):Option β :=
 match v with
 | .nilS=>a
 | _=>b
def Qcb (v:PV) (i:Nat):Bool :=
 match v.cells[i]? with
 | some .nilS=>false
 | _=>true
def nth (vs:List PV) (i:Nat):PV:=vs.getD i .undef
def Qlh (v:PV):Nat :=
 match v with
 | .int _ n=>n.toNat
 | _=>0
def qkv (v:PV):List PV :=
 match v with
 | .sl _ xs _=>xs
 | _=>[]
def Qkb (v:PV):List PV :=
 match v with
 | .imap es=>es
 | _=>[]
def strP (v:PV):List UInt8 :=
 match v with
 | .str s=>s
 | _=>[]
def prjP (v:PV) (i:Nat):PV :=
 match v with
 | .tup xs=>xs.getD i .undef
 | .agg xs=>xs.getD i .undef
 | _=>.undef
def qx9 (a b:Nat):Nat:=a+b
def subN (a b:Nat):Nat:=a - b
def minN (a b:Nat):Nat:=min a b
def leN (a b:Nat):Bool:=Nat.ble a b
def ltN (a b:Nat):Bool:=Nat.blt a b
def eqN (a b:Nat):Bool:=Nat.beq a b
def eqOff (a b:Nat):Bool:=Nat.beq a b
def halfN (a:Nat):Nat:=a / 2
def andB (a b:Bool):Bool:=a&&b
def nI (n:Nat):PV:=.int .i64 (n:Int)
def qmz (l:List PV):Nat:=l.length
def qyc (n:Nat) (l:List PV):List PV:=l.take n
def dropL (n:Nat) (l:List PV):List PV:=l.drop n
def catL (l l':List PV):List PV:=l++l'
def replL (n:Nat) (v:PV):List PV:=List.replicate n v
def lenS (s:List UInt8):Nat:=s.length
def qkd (v:PV):List PV:=v.cells
def okArgs (l:List PV) (n:Nat):Bool:=l.length==n&&qcy l
def okSls (k:Nat) (l:List PV):Bool:=l.all fun x=>x.isVal&&x.cells.length==k
def okSto (u w:PV) (o n:Nat):Bool:=u.isVal&&decide (u.cells.length=n)&&decide (o+n≤w.cells.length)
def stoP (u w:PV) (o:Nat):PV:=.agg (splice w.cells o u.cells)
def isNoneE (p:Option Ex):Bool :=
 match p with
 | none=>true
 | _=>false
def isRetE (p:Option Ex):Bool :=
 match p with
 | some .ret=>true
 | _=>false
def isExitE (p:Option Ex) (id:Nat):Bool :=
 match p with
 | some (.exit id')=>Nat.beq id' id
 | _=>false
def valO (v:PV):Bool:=v.isVal
def okU (v:PV):Bool:=okV v
def qsk (vs:List PV):Bool:=vs.all fun v=>!qcw v
def noYL (vs:List PV):Bool:=!qcu vs
open Classical in
noncomputable def lim {α:Type} (f:Nat→Option α):Option α:=if h:∃ a,Evl fun n=>f n=some a then some h.choose else none
theorem qq0 {α:Type} {f:Nat→Option α} {a:α} (h:lim f=some a):Evl fun n=>f n=some a:=by
 unfold lim at h
 split at h
 ·rename_i hx
  have:=hx.choose_spec
  cases h;exact this
 ·cases h
theorem Evl.unique {α:Type} {f:Nat→Option α} {a b:α} (h:Evl fun n=>f n=some a) (h':Evl fun n=>f n=some b):a=b:=by
 obtain⟨m,hm⟩:=h.and h'
 have:=hm m (Nat.le_refl _)
 exact Option.some.inj (this.1.symm.trans this.2)
theorem lim_of {α:Type} {f:Nat→Option α} {a:α} (h:Evl fun n=>f n=some a):lim f=some a:=by
 unfold lim
 have hx:∃ a,Evl fun n=>f n=some a:=⟨a,h⟩
 rw[dif_pos hx]
 exact congrArg some (Evl.unique hx.choose_spec h)
def repS {σ ρ:Type} (step:σ→Option (Sum σ ρ)):Nat→σ→Option ρ
 | 0,_=>none
 | n+1,s=>qwc (repS step n) some (step s)
noncomputable def loopL {σ ρ:Type} (step:σ→Option (Sum σ ρ)) (s:σ):Option ρ:=lim fun n=>repS step n s
theorem loopL_some {σ ρ:Type} {step:σ→Option (Sum σ ρ)} {s:σ} {r:ρ} (h:loopL step s=some r):∃ n,repS step n s=some r:=by
 obtain⟨m,hm⟩:=qq0 h
 exact⟨m,hm m (Nat.le_refl _)⟩
inductive KV where
 | un | sk
 | lit (b:Bool)
 | nils
 | cv (v:PV)
 | yld (d:Nat)
 | ref (nm:Nm) (o:Nat)
 | aref (nm:Nm) (k i o:Nat)
 | arr (nm:Nm) (k o n:Nat)
 | mp (nm:Nm)
 | it (nm:Nm)
 | wit (nm:Nm)
 | agg (cs:List KV)
 | iface (t:TypeId) (x:KV)
 | fn (f:FuncId) (cap:List KV)
 | tup (xs:List KV)
 deriving Inhabited
mutual
def KV.pv:KV→PV
 | .un=>.undef | .sk=>.tup [] | .lit b=>.bool b | .nils=>.nilS | .cv v=>v | .yld d=>.yld d
 | .ref nm o=>.ref nm o | .aref nm k i o=>.aref nm k i o | .arr nm k o n=>.arr nm k o n | .mp nm=>.mp nm | .it nm=>.it nm | .wit nm=>.arr nm 1 0 0
 | .agg cs=>.agg (pvL cs) | .iface t x=>.iface t x.pv | .fn f cap=>.fn f (pvL cap) | .tup xs=>.tup (pvL xs)
def pvL:List KV→List PV
 | []=>[]
 | x :: xs=>x.pv :: pvL xs
end
mutual
def KV.names:KV→List Nm
 | .un | .sk | .lit _ | .nils | .cv _ | .yld _=>[]
 | .ref nm _=>[nm] | .aref nm _ _ _=>[nm] | .arr nm _ _ _=>[nm] | .mp nm=>[nm] | .it nm=>[nm] | .wit nm=>[nm]
 | .agg cs=>qc9 cs | .iface _ x=>x.names | .fn _ cap=>qc9 cap | .tup xs=>qc9 xs
def qc9:List KV→List Nm
 | []=>[]
 | x :: xs=>x.names++qc9 xs
end
mutual
def KV.hasY:KV→Bool
 | .yld _=>true
 | .agg cs=>qjh cs | .iface _ x=>x.hasY | .fn _ cap=>qjh cap | .tup xs=>qjh xs
 | .un | .sk | .lit _ | .nils | .cv _ | .ref _ _ | .aref _ _ _ _ | .arr _ _ _ _ | .mp _ | .it _ | .wit _=>false
def qjh:List KV→Bool
 | []=>false
 | x :: xs=>x.hasY||qjh xs
end
mutual
def KV.cl:KV→Option PV
 | .lit b=>some (.bool b) | .nils=>some .nilS | .cv v=>some v
 | .agg cs=>(clL cs).map .agg | .iface t x=>x.cl.map (.iface t) | .fn f cap=>(clL cap).map (.fn f)
 | .un | .sk | .yld _ | .ref _ _ | .aref _ _ _ _ | .arr _ _ _ _ | .mp _ | .it _ | .wit _ | .tup _=>none
def clL:List KV→Option (List PV)
 | []=>some []
 | x :: xs=>match x.cl,clL xs with
  | some v,some vs=>some (v :: vs)
  | _,_=>none
end
mutual
def KV.off (p:Nm→Bool):KV→KV
 | .ref nm o=>if p nm then .un else .ref nm o
 | .aref nm k i o=>if p nm then .un else .aref nm k i o
 | .arr nm k o n=>if p nm then .un else .arr nm k o n
 | .mp nm=>if p nm then .un else .mp nm
 | .it nm=>if p nm then .un else .it nm
 | .wit nm=>if p nm then .un else .wit nm
 | .agg cs=>.agg (offL p cs) | .iface t x=>.iface t (x.off p) | .fn f cap=>.fn f (offL p cap) | .tup xs=>.tup (offL p xs)
 | .un=>.un | .sk=>.sk | .lit b=>.lit b | .nils=>.nils | .cv v=>.cv v | .yld d=>.yld d
def offL (p:Nm→Bool):List KV→List KV
 | []=>[]
 | x :: xs=>x.off p :: offL p xs
end
mutual
def KV.ren (f:Nm→Nm):KV→KV
 | .ref nm o=>.ref (f nm) o | .aref nm k i o=>.aref (f nm) k i o | .arr nm k o n=>.arr (f nm) k o n | .mp nm=>.mp (f nm) | .it nm=>.it (f nm) | .wit nm=>.wit (f nm)
 | .agg cs=>.agg (qnj f cs) | .iface t x=>.iface t (x.ren f) | .fn g cap=>.fn g (qnj f cap) | .tup xs=>.tup (qnj f xs)
 | .un=>.un | .sk=>.sk | .lit b=>.lit b | .nils=>.nils | .cv v=>.cv v | .yld d=>.yld d
def qnj (f:Nm→Nm):List KV→List KV
 | []=>[]
 | x :: xs=>x.ren f :: qnj f xs
end
inductive KOb where
 | cells (ty:Nat) (cs:List KV)
 | whole (ty:Nat) (v:PV)
 | arr (k ty:Nat) (xs:List PV)
 | map (es:List PV)
 | siter (s:List UInt8) (pos:Nat)
 deriving Inhabited
def KOb.ob:KOb→Ob
 | .cells ty cs=>.cells ty (pvL cs)
 | .whole ty v=>.cells ty (qkd v)
 | .arr k kt xs=>.arr k kt xs
 | .map es=>.map es
 | .siter s pos=>.siter s pos
def KOb.names:KOb→List Nm
 | .cells _ cs=>qc9 cs
 | _=>[]
def KOb.off (p:Nm→Bool):KOb→KOb
 | .cells ty cs=>.cells ty (offL p cs)
 | o=>o
def KOb.ren (f:Nm→Nm):KOb→KOb
 | .cells ty cs=>.cells ty (qnj f cs)
 | o=>o
abbrev Sp:=List (Nat×KV)
abbrev SpO:=List (Nat×List KOb)
def qb7:Sp→Nat→KV
 | [],_=>.un
 |(j,v) :: l,i=>match Nat.beq i j with
  | true=>v
  | false=>qb7 l i
def qhv (i:Nat) (v:KV):Sp→Sp
 | []=>[(i,v)]
 |(j,u) :: l=>match Nat.beq i j with
  | true=>(i,v) :: l
  | false=>match Nat.blt i j with
   | true=>(i,v) :: (j,u) :: l
   | false=>(j,u) :: qhv i v l
def Qdz (i:Nat):Sp→Sp
 | []=>[]
 |(j,u) :: l=>match Nat.beq i j with
  | true=>Qdz i l
  | false=>(j,u) :: Qdz i l
def spSet (i:Nat) (v:KV) (l:Sp):Sp :=
 match v with
 | .un=>Qdz i l
 | v=>qhv i v l
def qkl (f:KV→KV):Sp→Sp
 | []=>[]
 |(j,u) :: l=>match f u with
  | .un=>qkl f l
  | u=>(j,u) :: qkl f l
def qju (p:Nat→Bool):Sp→Sp
 | []=>[]
 |(j,u) :: l=>match p j with
  | true=>(j,u) :: qju p l
  | false=>qju p l
def qqr:Sp→Nat→Bool
 | [],_=>false
 |(j,_) :: l,i=>match Nat.beq i j with
  | true=>true
  | false=>qqr l i
def qf5:Sp→List Nm
 | []=>[]
 |(_,u) :: l=>u.names++qf5 l
def qch:SpO→Nat→List KOb
 | [],_=>[]
 |(j,v) :: l,i=>match Nat.beq i j with
  | true=>v
  | false=>qch l i
def ql7 (i:Nat) (v:List KOb):SpO→SpO
 | []=>[(i,v)]
 |(j,u) :: l=>match Nat.beq i j with
  | true=>(i,v) :: l
  | false=>match Nat.blt i j with
   | true=>(i,v) :: (j,u) :: l
   | false=>(j,u) :: ql7 i v l
def qm3 (f:KOb→KOb):SpO→SpO
 | []=>[]
 |(j,u) :: l=>(j,u.map f) :: qm3 f l
def qth (p:Nat→Bool):SpO→SpO
 | []=>[]
 |(j,u) :: l=>match p j with
  | true=>(j,u) :: qth p l
  | false=>qth p l
def qjv:SpO→List Nm
 | []=>[]
 |(_,u) :: l=>u.flatMap KOb.names++qjv l
structure KSt where
 nt:Nat
 tmps:Sp
 objs:SpO
 keep:List Sp
 deriving Inhabited
def qc7 (nt:Nat) (l:Sp):List PV:=(List.range nt).map fun i=>(qb7 l i).pv
def qdx (nt:Nat) (l:SpO):List (List Ob):=(List.range nt).map fun i=>(qch l i).map KOb.ob
def KSt.st (ks:KSt):St:={tmps:=qc7 ks.nt ks.tmps,objs:=qdx ks.nt ks.objs,keep:=ks.keep.flatMap (qc7 ks.nt)}
def qck (σ:SpO) (nm:Nm):Option KOb:=(qch σ nm.1)[nm.2]?
def kput (σ:SpO) (nm:Nm) (o:KOb):SpO :=
 match qck σ nm with
 | some _=>ql7 nm.1 ((qch σ nm.1).set nm.2 o) σ
 | none=>σ
def qlm (σ:Nm→Option KOb):Nat→List Nm→List Nm
 | 0,l=>l
 | d+1,l=>l++qlm σ d (l.flatMap fun nm=>((σ nm).map KOb.names).getD [])
def Qfv (σ:Nm→Option KOb) (R:List Nm):Bool:=R.all fun nm=>(((σ nm).map KOb.names).getD []).all fun m=>R.contains m
mutual
def KV.close (g:Nm→Option Ob):KV→PV
 | .ref nm o=>match g nm with
  | some (.cells _ cs)=>ptrO cs o
  | _=>.undef
 | .aref nm k i o=>match g nm with
  | some (.arr k' kt xs)=>arefO k k' xs i o
  | _=>.undef
 | .arr nm k o n=>match g nm with
  | some (.arr k' kt xs)=>slO k k' xs o n
  | _=>.undef
 | .mp nm=>match g nm with
  | some (.map es)=>.imap es
  | _=>.undef
 | .it _=>.undef
 | .wit nm=>match g nm with
  | some (.arr k' kt xs)=>slO 1 k' xs 0 0
  | _=>.undef
 | .agg cs=>.agg (qkb g cs) | .iface t x=>.iface t (x.close g) | .fn f cap=>.fn f (qkb g cap) | .tup xs=>.tup (qkb g xs)
 | .un=>.undef | .sk=>.tup [] | .lit b=>.bool b | .nils=>.nilS | .cv v=>v | .yld d=>.yld d
def qkb (g:Nm→Option Ob):List KV→List PV
 | []=>[]
 | x :: xs=>x.close g :: qkb g xs
end
def KOb.close (g:Nm→Option Ob):KOb→Ob
 | .cells ty cs=>.cells ty (qkb g cs)
 | o=>o.ob
def qda (σ:Nm→Option KOb):Nat→Nm→Option Ob
 | 0,nm=>(σ nm).map (KOb.close fun _=>none)
 | d+1,nm=>(σ nm).map (KOb.close (qda σ d))
mutual
def KV.frz (p:Nm→Bool) (g:Nm→Option Ob):KV→KV
 | .ref nm o=>if p nm then .cv ((KV.ref nm o).close g) else .ref nm o
 | .aref nm k i o=>if p nm then .cv ((KV.aref nm k i o).close g) else .aref nm k i o
 | .arr nm k o n=>if p nm then .cv ((KV.arr nm k o n).close g) else .arr nm k o n
 | .mp nm=>if p nm then .cv ((KV.mp nm).close g) else .mp nm
 | .it nm=>if p nm then .un else .it nm
 | .wit nm=>if p nm then .cv ((KV.wit nm).close g) else .wit nm
 | .agg cs=>.agg (frzL p g cs) | .iface t x=>.iface t (x.frz p g) | .fn f cap=>.fn f (frzL p g cap) | .tup xs=>.tup (frzL p g xs)
 | .un=>.un | .sk=>.sk | .lit b=>.lit b | .nils=>.nils | .cv v=>.cv v | .yld d=>.yld d
def frzL (p:Nm→Bool) (g:Nm→Option Ob):List KV→List KV
 | []=>[]
 | x :: xs=>x.frz p g :: frzL p g xs
end
def KOb.frz (p:Nm→Bool) (g:Nm→Option Ob):KOb→KOb
 | .cells ty cs=>.cells ty (frzL p g cs)
 | o=>o
def qq6:KOb:=.arr 0 0 []
def qzn (p:Nm→Bool) (ks:KSt):KSt:={ks with tmps:=qkl (KV.off p) ks.tmps,objs:=qm3 (KOb.off p) ks.objs,keep:=ks.keep.map (qkl (KV.off p))}
def Qcq (σ:Nm→Option KOb) (R:List Nm) (ks:KSt):KSt :=
 let p:=fun m=>R.contains m
 let g:=qda σ qbe
 {ks with tmps:=qkl (KV.frz p g) ks.tmps,objs:=R.foldl (fun objs nm=>kput objs nm qq6) (qm3 (KOb.frz p g) ks.objs),keep:=ks.keep.map (qkl (KV.frz p g))}
mutual
def qtw {R:Type}:KV→(KV→R)→R
 | .un,K=>K .un | .sk,K=>K .sk | .lit b,K=>(match b with | true=>K (.lit true) | false=>K (.lit false)) | .nils,K=>K .nils | .cv v,K=>K (.cv v) | .yld d,K=>K (.yld d)
 | .ref nm o,K=>(match nm with | (a,b)=>K (.ref (a,b) o)) | .aref nm k i o,K=>(match nm with | (a,b)=>K (.aref (a,b) k i o)) | .arr nm k o n,K=>(match nm with | (a,b)=>K (.arr (a,b) k o n))
 | .mp nm,K=>(match nm with | (a,b)=>K (.mp (a,b))) | .it nm,K=>(match nm with | (a,b)=>K (.it (a,b))) | .wit nm,K=>(match nm with | (a,b)=>K (.wit (a,b)))
 | .agg cs,K=>qxc cs fun cs=>K (.agg cs) | .iface t x,K=>qtw x fun x=>K (.iface t x) | .fn f cap,K=>qxc cap fun cap=>K (.fn f cap) | .tup xs,K=>qxc xs fun xs=>K (.tup xs)
def qxc {R:Type}:List KV→(List KV→R)→R
 | [],K=>K []
 | x :: xs,K=>qtw x fun x=>qxc xs fun xs=>K (x :: xs)
end
def Qj2 {R:Type}:KOb→(KOb→R)→R
 | .cells ty cs,K=>qxc cs fun cs=>K (.cells ty cs)
 | .whole ty v,K=>K (.whole ty v) | .arr k kt xs,K=>K (.arr k kt xs) | .map es,K=>K (.map es) | .siter s pos,K=>K (.siter s pos)
def qvk {R:Type}:List KOb→(List KOb→R)→R
 | [],K=>K []
 | x :: xs,K=>Qj2 x fun x=>qvk xs fun xs=>K (x :: xs)
def qxa {R:Type}:Sp→(Sp→R)→R
 | [],K=>K []
 |(j,x) :: xs,K=>qtw x fun x=>qxa xs fun xs=>K ((j,x) :: xs)
def Qcx {R:Type}:SpO→(SpO→R)→R
 | [],K=>K []
 |(j,x) :: xs,K=>qvk x fun x=>Qcx xs fun xs=>K ((j,x) :: xs)
def Qcy {R:Type}:List Sp→(List Sp→R)→R
 | [],K=>K []
 | x :: xs,K=>qxa x fun x=>Qcy xs fun xs=>K (x :: xs)
def qg2 {R:Type} (ks:KSt) (K:KSt→R):R :=
 match ks with
 | ⟨nt,tmps,objs,keep⟩=>qxa tmps fun a=>Qcx objs fun b=>Qcy keep fun c=>K {nt,tmps:=a,objs:=b,keep:=c}
def cstK (v:PV):KV :=
 match v with
 | .bool b=>.lit b
 | .nilS=>.nils
 | .fn f []=>.fn f []
 | v=>.cv v
def RX.kv (tm:Sp):RX→KV
 | .t i=>qb7 tm i
 | .c v=>cstK v
def okX:RX→Bool
 | .t _=>true
 | .c v=>okV v
def ROp.mapX (g:RX→RX):ROp→ROp
 | .mov x=>.mov (g x) | .pick c a b=>.pick (g c) (g a) (g b) | .box x=>.box (g x) | .alloc ty z=>.alloc ty z
 | .build z ps=>.build z (ps.map fun p=>(p.1,p.2.1,g p.2.2)) | .mkSl k ps=>.mkSl k (ps.map g) | .load n ag x=>.load n ag (g x) | .store n x v=>.store n (g x) (g v)
 | .nilck x=>.nilck (g x) | .bin op c cst x y=>.bin op c cst (g x) (g y) | .un op x=>.un op (g x) | .conv k x=>.conv k (g x) | .toBytes x=>.toBytes (g x) | .ofBytes x=>.ofBytes (g x)
 | .ofRune x=>.ofRune (g x) | .strId x=>.strId (g x) | .mkI t x=>.mkI t (g x) | .mkF f cap=>.mkF f (cap.map g) | .mkMap=>.mkMap | .insert c x k v=>.insert c (g x) (g k) (g v)
 | .lookup c z ok x k=>.lookup c z ok (g x) (g k) | .mkS k z l c=>.mkS k z (g l) (g c) | .slice k x lo hi mx=>.slice k (g x) (lo.map g) (hi.map g) (mx.map g) | .strSlice x lo hi=>.strSlice (g x) (lo.map g) (hi.map g)
 | .fieldAddr off x=>.fieldAddr off (g x) | .field off n ag x=>.field off n ag (g x) | .idxAddr k x i=>.idxAddr k (g x) (g i) | .idxAddrA k l x i=>.idxAddrA k l (g x) (g i) | .strIdx x i=>.strIdx (g x) (g i)
 | .extract j x=>.extract j (g x) | .len c x=>.len c (g x) | .append k ty s x=>.append k ty (g s) (g x) | .copy k d s=>.copy k (g d) (g s) | .minmax mx xs=>.minmax mx (xs.map g) | .call f args=>.call (g f) (args.map g)
 | .iter x=>.iter (g x) | .next x=>.next (g x) | .tassert t z ok x=>.tassert t z ok (g x) | .bad=>.bad
def instX (tm:Sp) (x:RX):RX:=.c (((x.kv tm).cl).getD .undef)
structure qb2 where
 v:KV
 new:List KOb:=[]
 upd:Option (Nm×KOb):=none
 kill:Option Nm:=none
 frz:List Nm:=[]
 gone:List Nm:=[]
 ups:List (Nm×KOb):=[]
 io:Bool:=false
 slot:Option Nat:=none
def isG:ROp→Bool
 | .build _ _ | .load _ _ _ | .nilck _ | .bin _ _ _ _ _ | .un _ _ | .conv _ _ | .toBytes _ | .ofBytes _ | .ofRune _ | .strId _ | .lookup _ _ _ _ _ | .slice _ _ _ _ _ | .strSlice _ _ _
 | .fieldAddr _ _ | .field _ _ _ _ | .idxAddr _ _ _ | .idxAddrA _ _ _ _ | .strIdx _ _ | .extract _ _ | .len _ _ | .minmax _ _ | .tassert _ _ _ _=>true
 | _=>false
def okOp:ROp→Bool
 | .build z _=>qcy z
 | .lookup _ z _ _ _=>okV z
 | .tassert _ z _ _=>okV z
 | _=>true
def gO {R:Type} (tm:Sp) (op:ROp) (K:qb2→Option R):Option R :=
 if (isG op&&okOp op&&op.xs.all fun x=>((x.kv tm).cl).isSome) then qcd (qbz (op.mapX (instX tm))) fun z=>K {v:=.cv z} else none
def Qms {R:Type} (n:Nat) (x:KV) (K:List KV→Option R):Option R :=
 match x with
 | .agg cs=>if cs.length=n then K cs else none
 | .cv v=>qfl (qmf v n) (K ((List.range n).map fun i=>.cv (qt8 v i)))
 | .un | .sk | .tup _=>none
 | y=>if n=1 then K [y] else none
def kfill {R:Type} (tm:Sp):List KV→List (Nat×Nat×RX)→(List KV→Option R)→Option R
 | z,[],K=>K z
 | z,(off,n,x) :: ps,K=>Qms n (x.kv tm) fun cs=>if off+n≤z.length then kfill tm (z.take off++cs++z.drop (off+n)) ps K else none
def Qgz {R:Type} (σ:Nm→Option KOb) (k:Nat) (x:KV) (K:List PV→Option R):Option R :=
 match x with
 | .arr nm k' o n=>match σ nm with
  | some (.arr k'' kt xs)=>if k=k'∧k'=k'' then qfl (leN (qx9 o n) (qmz xs)) (K (qyc n (dropL o xs))) else none
  | _=>none
 | x=>match x.cl with
  | some v=>qcd (elemsO k v) K
  | none=>none
def qg4 {R:Type} (d:Nat) (σ:Nm→Option KOb) (tm:Sp) (op:ROp) (K:qb2→Option R):Option R :=
 match op with
 | .mov x=>K {v:=x.kv tm}
 | .pick c a b=>match c.kv tm with
  | .lit true=>K {v:=a.kv tm}
  | .lit false=>K {v:=b.kv tm}
  | .cv v=>Qcs v (K {v:=a.kv tm}) (K {v:=b.kv tm})
  | _=>none
 | .box x=>match x.kv tm with
  | .cv v=>qfl (valO v) (K {v:=.ref (d,0) 0,new:=[.whole 0 v]})
  | .agg cs=>K {v:=.ref (d,0) 0,new:=[.cells 0 cs]}
  | .un | .sk | .tup _=>none
  | y=>K {v:=.ref (d,0) 0,new:=[.cells 0 [y]]}
 | .alloc ty z=>if qcy z then K {v:=.ref (d,0) 0,new:=[.cells ty (z.map cstK)]} else none
 | .build z ps =>
  if !ps.isEmpty&&((ps.all fun p=>((p.2.2.kv tm).cl).isSome)&&Nat.ble z.length 6) then gO tm (.build z ps) K
  else if qcy z then kfill tm (z.map cstK) ps fun cs=>K {v:=.agg cs} else none
 | .mkSl k ps =>
  let xs:=ps.map (RX.kv tm)
  match clL xs with
  | some vs=>qfl (okSls k vs) (K {v:=.arr (d,0) k 0 (qmz vs),new:=[.arr k 0 vs]})
  | none =>
   let R:=qlm σ qbe (qc9 xs)
   if (qc9 xs).isEmpty then none
   else if Qfv σ R∧qjh xs=false then
    let ys:=qkb (qda σ qbe) xs
    qfl (okSls k ys) (K {v:=.arr (d,0) k 0 (qmz ys),new:=[.arr k 0 ys],frz:=R})
   else none
 | .load n ag x=>match x.kv tm with
  | .ref nm o=>match σ nm with
   | some (.cells _ cs)=>if ag then (if o+n≤cs.length then K {v:=.agg ((cs.drop o).take n)} else none) else (match cs[o]? with | some c=>K {v:=c} | none=>none)
   | some (.whole _ v)=>qcd (selO v o n ag) fun z=>K {v:=.cv z}
   | _=>none
  | .aref nm k i o=>match σ nm with
   | some (.arr k' kt xs)=>if k=k' then qcd (elemO xs i o n ag) fun z=>K {v:=.cv z} else none
   | _=>none
  | _=>gO tm op K
 | .store n x v=>match x.kv tm with
  | .ref nm o=>match σ nm with
   | some (.cells ty cs)=>Qms n (v.kv tm) fun vs=>if o+n≤cs.length then K {v:=.un,upd:=some (nm,.cells ty (cs.take o++vs++cs.drop (o+n)))} else none
   | some (.whole ty w)=>match (v.kv tm).cl with
    | some u=>qfl (okSto u w o n) (K {v:=.un,upd:=some (nm,.whole ty (stoP u w o))})
    | none=>none
   | _=>none
  | .aref nm k i o=>match σ nm with
   | some (.arr k' kt xs)=>match (v.kv tm).cl with
    | some u=>if k=k' then qcd (setO k xs i o n u) fun ys=>K {v:=.un,upd:=some (nm,.arr k kt ys)} else none
    | none=>none
   | _=>none
  | _=>none
 | .nilck x=>match x.kv tm with
  | .ref nm o=>K {v:=.ref nm o}
  | .aref nm k i o=>K {v:=.aref nm k i o}
  | .fn f cap=>K {v:=.fn f cap}
  | .yld l=>K {v:=.yld l}
  | _=>gO tm op K
 | .bin o c cst x y=>match x.kv tm,y.kv tm with
  | .ref _ _,.cv v=>match o with
   | .eql=>iteB (match c,v with | .ptr,.nilP=>true | _,_=>false) (K {v:=.lit false}) none
   | .neq=>iteB (match c,v with | .ptr,.nilP=>true | _,_=>false) (K {v:=.lit true}) none
   | _=>none
  | _,_=>gO tm op K
 | .un .not x=>match x.kv tm with
  | .lit b=>K {v:=.lit (!b)}
  | _=>gO tm op K
 | .mkI t x=>match (x.kv tm).cl with
  | some v=>K {v:=.cv (.iface t v)}
  | none=>match x.kv tm with
   | .un | .sk | .tup _ | .yld _=>none
   | y=>K {v:=.iface t y}
 | .mkF f cap=>if (cap.map (RX.kv tm)).all fun | .un | .sk | .tup _ | .yld _=>false | _=>true then K {v:=.fn f (cap.map (RX.kv tm))} else none
 | .mkMap=>K {v:=.mp (d,0),new:=[.map []]}
 | .insert c x k v=>match x.kv tm with
  | .mp nm=>match σ nm,(k.kv tm).cl,(v.kv tm).cl with
   | some (.map es),some kk,some vv=>qcd (insO c es kk vv) fun es'=>K {v:=.un,upd:=some (nm,.map es')}
   | some (.map es),some kk,none =>
    let R:=qlm σ qbe (qc9 [v.kv tm])
    if (qc9 [v.kv tm]).isEmpty then none
    else if Qfv σ R∧qjh [v.kv tm]=false∧R.contains nm=false then
     qcd (insO c es kk (nth (qkb (qda σ qbe) [v.kv tm]) 0)) fun es'=>K {v:=.un,upd:=some (nm,.map es'),frz:=R}
    else none
   | _,_,_=>none
  | _=>none
 | .lookup c z ok x k=>match x.kv tm with
  | .mp nm=>match σ nm,(k.kv tm).cl with
   | some (.map es),some kk=>if okV z=true then qcd (lookO c z ok es kk) fun v=>K {v:=.cv v} else none
   | _,_=>none
  | _=>gO tm op K
 | .mkS k z l c=>match (l.kv tm).cl,(c.kv tm).cl with
  | some l,some c=>if z.cells.length=k∧okV z=true then qcd (mkSO l c) fun n=>K {v:=.arr (d,0) k 0 n,new:=[.arr k 0 (replL n z)]} else none
  | _,_=>none
 | .slice k x lo hi mx=>match x.kv tm with
  | .arr nm k' o n =>
   if k=k'∧(mx.isNone∨hi.isSome)∧(lo.toList++hi.toList++mx.toList).all fun y=>((y.kv tm).cl).isSome then
    let ev:=fun (y:RX)=>((y.kv tm).cl).getD .undef
    qcd (Qha (mx.map ev) n n) fun m=>qcd (Qha (hi.map ev) n m) fun h =>
     match lo with
     | none=>K {v:=.arr nm k o h}
     | some lo=>qcd (Qha (some (ev lo)) 0 h) fun l=>iteB (andB (eqN h l) (ltN 0 l)) (K {v:=.cv (.sl k [] false)}) (K {v:=.arr nm k (qx9 o l) (subN h l)})
   else none
  | _=>gO tm op K
 | .fieldAddr off x=>match x.kv tm with
  | .ref nm o=>K {v:=.ref nm (o+off)}
  | .aref nm k i o=>K {v:=.aref nm k i (o+off)}
  | _=>gO tm op K
 | .field off n ag x=>match x.kv tm with
  | .agg cs=>if ag then (if off+n≤cs.length then K {v:=.agg ((cs.drop off).take n)} else none) else (match cs[off]? with | some c=>K {v:=c} | none=>none)
  | _=>gO tm op K
 | .idxAddr k x i=>match x.kv tm with
  | .arr nm k' o n=>match (i.kv tm).cl with
   | some i=>if k=k' then qcd (natO i) fun j=>qfl (ltN j n) (K {v:=.aref nm k (qx9 o j) 0}) else none
   | none=>none
  | _=>gO tm op K
 | .extract j x=>match x.kv tm with
  | .tup xs=>match xs[j]? with
   | some v=>K {v}
   | none=>none
  | _=>gO tm op K
 | .len c x=>match x.kv tm with
  | .arr _ _ _ n=>match c with
   | .slice=>K {v:=.cv (nI n)}
   | _=>none
  | .mp nm=>match c,σ nm with
   | .map,some (.map es)=>K {v:=.cv (nI (halfN (qmz es)))}
   | _,_=>none
  | _=>gO tm op K
 | .ofBytes x=>match x.kv tm with
  | .arr nm k o n=>Qgz σ 1 (.arr nm k o n) fun ys=>qcd (qbz (.ofBytes (.c (.sl 1 ys false)))) fun z=>K {v:=.cv z}
  | _=>gO tm op K
 | .append k ty s x=>Qgz σ k (x.kv tm) fun ys =>
  match s.kv tm with
  | .arr nm k' o n=>match σ nm with
   | some (.arr k'' kt xs)=>if k=k'∧k'=k''∧o=0 then qfl (andB (leN n (qmz xs)) (leN (qx9 n (qmz ys)) qgx)) (K {v:=.arr nm k 0 (qx9 n (qmz ys)),upd:=some (nm,.arr k (if kt=ty then ty else 0) (catL (qyc n xs) ys)),kill:=some nm}) else none
   | _=>none
  | .nils=>qfl (leN (qmz ys) qgx) (K {v:=.arr (d,0) k 0 (qmz ys),new:=[.arr k ty ys]})
  | .cv v=>qcd (appO k v ys) fun zs=>K {v:=.arr (d,0) k 0 (qmz zs),new:=[.arr k ty zs]}
  | _=>none
 | .copy k x s=>Qgz σ k (s.kv tm) fun ys =>
  match x.kv tm with
  | .arr nm k' o n=>match σ nm with
   | some (.arr k'' kt xs)=>if k=k'∧k'=k'' then qfl (leN (qx9 o n) (qmz xs)) (K {v:=.cv (nI (minN (qmz ys) n)),upd:=some (nm,.arr k kt (catL (catL (qyc o xs) (qyc n ys)) (dropL (qx9 o (qmz (qyc n ys))) xs)))}) else none
   | _=>none
  | .nils=>K {v:=.cv (nI 0)}
  | _=>none
 | .iter x=>match (x.kv tm).cl with
  | some v=>qcd (strO v) fun s=>K {v:=.it (d,0),new:=[.siter s 0]}
  | none=>none
 | .next x=>match x.kv tm with
  | .it nm=>match σ nm with
   | some (.siter s pos)=>iteB (ltN pos (lenS s)) (K {v:=.tup [.lit true,.cv (nI pos),.cv (runeP s pos)],upd:=some (nm,.siter s (qx9 pos (runeN s pos)))}) (K {v:=.tup [.lit false]})
   | _=>none
  | _=>none
 | .tassert t z ok x=>match x.kv tm with
  | .iface u y=>if u=t then K {v:=if ok then .tup [y,.lit true] else y} else if ok=true∧okV z=true then K {v:=.tup [.cv z,.lit false]} else none
  | _=>gO tm op K
 | .call _ _=>none
 | .bad=>none
 | _=>gO tm op K
def kupd (u:Option (Nm×KOb)) (ks:KSt):KSt :=
 match u with
 | some (nm,ob)=>{ks with objs:=kput ks.objs nm ob}
 | none=>ks
def kkill (k:Option Nm) (ks:KSt):KSt :=
 match k with
 | some nm=>qzn (fun m=>m==nm) ks
 | none=>ks
def kfrzs (σ:Nm→Option KOb) (R:List Nm) (ks:KSt):KSt :=
 match R with
 | []=>ks
 | nm :: R=>Qcq σ (nm :: R) ks
def kgone (l:List Nm) (ks:KSt):KSt :=
 match l with
 | []=>ks
 | nm :: l=>qzn (fun m=>(nm :: l).contains m) ks
def kups:List (Nm×KOb)→SpO→SpO
 | [],σ=>σ
 |(nm,o) :: l,σ=>kups l (kput σ nm o)
def kset (dst:Option Nat) (v:KV) (new:List KOb) (ks:KSt):KSt :=
 match dst with
 | some d=>match Nat.blt d ks.nt with
  | true=>{ks with tmps:=spSet d v ks.tmps,objs:=match new with | []=>ks.objs | x :: xs=>ql7 d (x :: xs) ks.objs}
  | false=>ks
 | none=>ks
def kturn (l:List (Nm×KOb)) (ks:KSt):KSt:={ks with objs:=kups l ks.objs}
def kext (sl:Option Nat) (new:List KOb) (ks:KSt):KSt :=
 match sl with
 | some r=>match Nat.blt r ks.nt with
  | true=>{ks with objs:=ql7 r (qch ks.objs r++new) ks.objs}
  | false=>ks
 | none=>ks
def newAt (sl:Option Nat) (new:List KOb):List KOb :=
 match sl with
 | some _=>[]
 | none=>new
def qlq (ks:KSt) (dst:Option Nat) (o:qb2):KSt:=kset dst o.v (newAt o.slot o.new) (kext o.slot o.new<|kturn o.ups (kgone o.gone (kfrzs (qck ks.objs) o.frz (kkill o.kill (kupd o.upd ks)))))
mutual
def qgu:KV→KV→Bool
 | .un,x=>match x with | .un=>true | _=>false
 | .sk,x=>match x with | .sk=>true | _=>false
 | .yld _,x=>match x with | .yld _=>true | _=>false
 | .ref nm o,x=>match x with | .ref nm' o'=>nm==nm'&&o==o' | _=>false
 | .aref _ _ _ _,_=>false
 | .arr nm k o _,x=>match x with | .arr nm' k' o' _=>nm==nm'&&k==k'&&Nat.beq o o' | _=>false
 | .mp nm,x=>match x with | .mp nm'=>nm==nm' | _=>false
 | .it nm,x=>match x with | .it nm'=>nm==nm' | _=>false
 | .wit nm,x=>match x with | .wit nm'=>nm==nm' | _=>false
 | .fn f cap,x=>match x with | .fn f' cap'=>f==f'&&qx8 cap cap' | _=>false
 | .tup xs,x=>match x with | .tup ys=>qx8 xs ys | _=>false
 | .lit _,x=>x.cl.isSome
 | .nils,x=>x.cl.isSome
 | .cv _,x=>x.cl.isSome
 | .agg cs,x=>if (clL cs).isSome then x.cl.isSome else match x with | .agg cs'=>qx8 cs cs' | _=>false
 | .iface t y,x=>if y.cl.isSome then x.cl.isSome else match x with | .iface t' y'=>t==t'&&qgu y y' | _=>false
def qx8:List KV→List KV→Bool
 | [],l=>match l with | []=>true | _=>false
 | x :: xs,l=>match l with | y :: ys=>qgu x y&&qx8 xs ys | _=>false
end
mutual
def qc6:KV→KV→List PV
 | .un,_=>[] | .sk,_=>[] | .yld _,x=>(match x with | .yld d=>[nI d] | _=>[]) | .ref _ _,_=>[] | .aref _ _ _ _,_=>[] | .mp _,_=>[] | .it _,_=>[] | .wit _,_=>[]
 | .arr _ _ _ _,x=>match x with | .arr _ _ _ n=>[nI n] | _=>[]
 | .fn _ cap,x=>match x with | .fn _ cap'=>qg0 cap cap' | _=>[]
 | .tup xs,x=>match x with | .tup ys=>qg0 xs ys | _=>[]
 | .lit _,x=>[x.cl.getD .undef]
 | .nils,x=>[x.cl.getD .undef]
 | .cv _,x=>[x.cl.getD .undef]
 | .agg cs,x=>if (clL cs).isSome then [x.cl.getD .undef] else match x with | .agg cs'=>qg0 cs cs' | _=>[]
 | .iface _ y,x=>if y.cl.isSome then [x.cl.getD .undef] else match x with | .iface _ y'=>qc6 y y' | _=>[]
def qg0:List KV→List KV→List PV
 | [],_=>[]
 | x :: xs,l=>match l with | y :: ys=>qc6 x y++qg0 xs ys | _=>[]
end
mutual
def fill:KV→List PV→Nat→KV×Nat
 | .un,_,i=>(.un,i) | .sk,_,i=>(.sk,i) | .yld _,vs,i=>(.yld (Qlh (nth vs i)),i+1) | .ref nm o,_,i=>(.ref nm o,i) | .aref nm k j o,_,i=>(.aref nm k j o,i) | .mp nm,_,i=>(.mp nm,i) | .it nm,_,i=>(.it nm,i) | .wit nm,_,i=>(.wit nm,i)
 | .arr nm k o _,vs,i=>(.arr nm k o (Qlh (nth vs i)),i+1)
 | .fn f cap,vs,i=>let p:=qhj cap vs i;(.fn f p.1,p.2)
 | .tup xs,vs,i=>let p:=qhj xs vs i;(.tup p.1,p.2)
 | .lit _,vs,i=>(.cv (nth vs i),i+1)
 | .nils,vs,i=>(.cv (nth vs i),i+1)
 | .cv _,vs,i=>(.cv (nth vs i),i+1)
 | .agg cs,vs,i=>if (clL cs).isSome then (.cv (nth vs i),i+1) else let p:=qhj cs vs i;(.agg p.1,p.2)
 | .iface t y,vs,i=>if y.cl.isSome then (.cv (nth vs i),i+1) else let p:=fill y vs i;(.iface t p.1,p.2)
def qhj:List KV→List PV→Nat→List KV×Nat
 | [],_,i=>([],i)
 | x :: xs,vs,i=>let p:=fill x vs i;let q:=qhj xs vs p.2;(p.1 :: q.1,q.2)
end
def qjf:KOb→KOb→Bool
 | .cells ty cs,x=>match x with | .cells ty' cs'=>ty==ty'&&qx8 cs cs' | _=>false
 | .whole ty _,x=>match x with | .whole ty' _=>ty==ty' | _=>false
 | .arr k t _,x=>match x with | .arr k' t' _=>k==k'&&t==t' | _=>false
 | .map _,x=>match x with | .map _=>true | _=>false
 | .siter _ _,x=>match x with | .siter _ _=>true | _=>false
def qgb:KOb→KOb→List PV
 | .cells _ cs,x=>match x with | .cells _ cs'=>qg0 cs cs' | _=>[]
 | .whole _ _,x=>match x with | .whole _ v=>[v] | _=>[]
 | .arr k _ _,x=>match x with | .arr _ _ xs=>[.sl k xs false] | _=>[]
 | .map _,x=>match x with | .map es=>[.imap es] | _=>[]
 | .siter _ _,x=>match x with | .siter s pos=>[.str s,nI pos] | _=>[]
def qdf:KOb→List PV→Nat→KOb×Nat
 | .cells ty cs,vs,i=>let p:=qhj cs vs i;(.cells ty p.1,p.2)
 | .whole ty _,vs,i=>(.whole ty (nth vs i),i+1)
 | .arr k t _,vs,i=>(.arr k t (qkv (nth vs i)),i+1)
 | .map _,vs,i=>(.map (Qkb (nth vs i)),i+1)
 | .siter _ _,vs,i=>(.siter (strP (nth vs i)) (Qlh (nth vs (i+1))),i+2)
def qg3:List KOb→List KOb→Bool
 | [],[]=>true
 | x :: xs,y :: ys=>qjf x y&&qg3 xs ys
 | _,_=>false
def qgz:List KOb→List KOb→List PV
 | x :: xs,y :: ys=>qgb x y++qgz xs ys
 | _,_=>[]
def qc0:List KOb→List PV→Nat→List KOb×Nat
 | [],_,i=>([],i)
 | x :: xs,vs,i=>let p:=qdf x vs i;let q:=qc0 xs vs p.2;(p.1 :: q.1,q.2)
def Qcz:Sp→Sp→Bool
 | [],[]=>true
 |(i,x) :: xs,(j,y) :: ys=>Nat.beq i j&&(qgu x y&&Qcz xs ys)
 | _,_=>false
def qga:Sp→Sp→List PV
 |(_,x) :: xs,(_,y) :: ys=>qc6 x y++qga xs ys
 | _,_=>[]
def qh2:Sp→List PV→Nat→Sp×Nat
 | [],_,i=>([],i)
 |(j,x) :: xs,vs,i=>let p:=fill x vs i;let q:=qh2 xs vs p.2;((j,p.1) :: q.1,q.2)
def Qgk:SpO→SpO→Bool
 | [],[]=>true
 |(i,x) :: xs,(j,y) :: ys=>Nat.beq i j&&(qg3 x y&&Qgk xs ys)
 | _,_=>false
def qn9:SpO→SpO→List PV
 |(_,x) :: xs,(_,y) :: ys=>qgz x y++qn9 xs ys
 | _,_=>[]
def qlw:SpO→List PV→Nat→SpO×Nat
 | [],_,i=>([],i)
 |(j,x) :: xs,vs,i=>let p:=qc0 x vs i;let q:=qlw xs vs p.2;((j,p.1) :: q.1,q.2)
def Qgl:List Sp→List Sp→Bool
 | [],[]=>true
 | x :: xs,y :: ys=>Qcz x y&&Qgl xs ys
 | _,_=>false
def qve:List Sp→List Sp→List PV
 | x :: xs,y :: ys=>qga x y++qve xs ys
 | _,_=>[]
def qxo:List Sp→List PV→Nat→List Sp×Nat
 | [],_,i=>([],i)
 | x :: xs,vs,i=>let p:=qh2 x vs i;let q:=qxo xs vs p.2;(p.1 :: q.1,q.2)
def fitSt (p x:KSt):Bool:=Nat.beq p.nt x.nt&&(Qcz p.tmps x.tmps&&(Qgk p.objs x.objs&&Qgl p.keep x.keep))
def qdu (p x:KSt):List PV:=qga p.tmps x.tmps++qn9 p.objs x.objs++qve p.keep x.keep
def qdv (p:KSt) (vs:List PV):KSt :=
 let a:=qh2 p.tmps vs 0
 let b:=qlw p.objs vs a.2
 let c:=qxo p.keep vs b.2
 {nt:=p.nt,tmps:=a.1,objs:=b.1,keep:=c.1}
mutual
def qlv:KV→KV→Bool
 | .un,x=>match x with | .un=>true | _=>false
 | .sk,x=>match x with | .sk=>true | _=>false
 | .yld _,x=>match x with | .yld _=>true | _=>false
 | .ref nm o,x=>match x with | .ref nm' o'=>nm==nm'&&o==o' | _=>false
 | .aref _ _ _ _,_=>false
 | .arr nm k _ _,x=>match x with | .arr nm' k' _ _=>nm==nm'&&k==k' | _=>false
 | .mp nm,x=>match x with | .mp nm'=>nm==nm' | _=>false
 | .it nm,x=>match x with | .it nm'=>nm==nm' | _=>false
 | .wit nm,x=>match x with | .wit nm'=>nm==nm' | _=>false
 | .fn f cap,x=>match x with | .fn f' cap'=>f==f'&&Qc2 cap cap' | _=>false
 | .tup xs,x=>match x with | .tup ys=>Qc2 xs ys | _=>false
 | .lit _,x=>x.cl.isSome
 | .nils,x=>x.cl.isSome
 | .cv _,x=>x.cl.isSome
 | .agg cs,x=>if (clL cs).isSome then x.cl.isSome else match x with | .agg cs'=>Qc2 cs cs' | _=>false
 | .iface t y,x=>if y.cl.isSome then x.cl.isSome else match x with | .iface t' y'=>t==t'&&qlv y y' | _=>false
def Qc2:List KV→List KV→Bool
 | [],l=>match l with | []=>true | _=>false
 | x :: xs,l=>match l with | y :: ys=>qlv x y&&Qc2 xs ys | _=>false
end
mutual
def qwf:KV→KV→List Bool
 | .arr _ _ o _,x=>match x with | .arr _ _ o' _=>[eqOff o o'] | _=>[]
 | .fn _ cap,x=>match x with | .fn _ cap'=>Qb9 cap cap' | _=>[]
 | .tup xs,x=>match x with | .tup ys=>Qb9 xs ys | _=>[]
 | .agg cs,x=>match x with | .agg cs'=>Qb9 cs cs' | _=>[]
 | .iface _ y,x=>match x with | .iface _ y'=>qwf y y' | _=>[]
 | .un,_ | .sk,_ | .yld _,_ | .ref _ _,_ | .aref _ _ _ _,_ | .mp _,_ | .it _,_ | .wit _,_ | .lit _,_ | .nils,_ | .cv _,_=>[]
def Qb9:List KV→List KV→List Bool
 | [],_=>[]
 | x :: xs,l=>match l with | y :: ys=>qwf x y++Qb9 xs ys | _=>[]
end
def fit0Ob:KOb→KOb→Bool
 | .cells ty cs,x=>match x with | .cells ty' cs'=>ty==ty'&&Qc2 cs cs' | _=>false
 | .whole ty v,x=>qjf (.whole ty v) x | .arr k t xs,x=>qjf (.arr k t xs) x | .map es,x=>qjf (.map es) x | .siter s p,x=>qjf (.siter s p) x
def offsOb:KOb→KOb→List Bool
 | .cells _ cs,x=>match x with | .cells _ cs'=>Qb9 cs cs' | _=>[]
 | _,_=>[]
def qsw:List KOb→List KOb→Bool
 | [],[]=>true
 | x :: xs,y :: ys=>fit0Ob x y&&qsw xs ys
 | _,_=>false
def qsj:List KOb→List KOb→List Bool
 | x :: xs,y :: ys=>offsOb x y++qsj xs ys
 | _,_=>[]
def qxk:Sp→Sp→Bool
 | [],[]=>true
 |(i,x) :: xs,(j,y) :: ys=>Nat.beq i j&&(qlv x y&&qxk xs ys)
 | _,_=>false
def qwg:Sp→Sp→List Bool
 |(_,x) :: xs,(_,y) :: ys=>qwf x y++qwg xs ys
 | _,_=>[]
def qz2:SpO→SpO→Bool
 | [],[]=>true
 |(i,x) :: xs,(j,y) :: ys=>Nat.beq i j&&(qsw x y&&qz2 xs ys)
 | _,_=>false
def qy8:SpO→SpO→List Bool
 |(_,x) :: xs,(_,y) :: ys=>qsj x y++qy8 xs ys
 | _,_=>[]
def qz4:List Sp→List Sp→Bool
 | [],[]=>true
 | x :: xs,y :: ys=>qxk x y&&qz4 xs ys
 | _,_=>false
def qy9:List Sp→List Sp→List Bool
 | x :: xs,y :: ys=>qwg x y++qy9 xs ys
 | _,_=>[]
def qxi (p x:KSt):Bool:=Nat.beq p.nt x.nt&&(qxk p.tmps x.tmps&&(qz2 p.objs x.objs&&qz4 p.keep x.keep))
def Qfh (p x:KSt):List Bool:=qwg p.tmps x.tmps++(qy8 p.objs x.objs++qy9 p.keep x.keep)
def chks {β:Type}:List Bool→Option β→Option β
 | [],a=>a
 | b :: l,a=>qfl b (chks l a)
mutual
def qpj:KV→PV→Option (List PV)
 | .un,x=>match x with | .undef=>some [] | _=>none
 | .sk,x=>match x with | .tup []=>some [] | _=>none
 | .yld _,x=>match x with | .yld d=>some [nI d] | _=>none
 | .aref _ _ _ _,_=>none
 | .wit nm,x=>match x with | .arr nm' 1 0 0=>qfl (nm==nm') (some []) | _=>none
 | .ref nm o,x=>match x with | .ref nm' o'=>qfl (nm==nm'&&o==o') (some []) | _=>none
 | .mp nm,x=>match x with | .mp nm'=>qfl (nm==nm') (some []) | _=>none
 | .it nm,x=>match x with | .it nm'=>qfl (nm==nm') (some []) | _=>none
 | .arr nm k o _,x=>match x with | .arr nm' k' o' n=>qfl (nm==nm'&&k==k'&&Nat.beq o o') (some [nI n]) | _=>none
 | .lit _,x=>qfl (okV x) (some [x])
 | .nils,x=>qfl (okV x) (some [x])
 | .cv _,x=>qfl (okV x) (some [x])
 | .fn f cap,x=>match x with | .fn f' cap'=>if f=f' then qxf cap cap' else none | _=>none
 | .tup xs,x=>match x with | .tup ys=>qxf xs ys | _=>none
 | .agg cs,x=>if (clL cs).isSome then qfl (okV x) (some [x]) else match x with | .agg cs'=>qxf cs cs' | _=>none
 | .iface t y,x=>if y.cl.isSome then qfl (okV x) (some [x]) else match x with | .iface t' y'=>if t=t' then qpj y y' else none | _=>none
def qxf:List KV→List PV→Option (List PV)
 | [],l=>match l with | []=>some [] | _=>none
 | x :: xs,l=>match l with
  | y :: ys=>match qpj x y,qxf xs ys with
   | some a,some b=>some (a++b)
   | _,_=>none
  | _=>none
end
def qh0:KOb→Ob→Option (List PV)
 | .cells ty cs,x=>match x with | .cells ty' cs'=>if ty=ty' then qxf cs cs' else none | _=>none
 | .whole ty _,x=>match x with | .cells ty' cs'=>qfl (ty==ty'&&qcy cs') (some [.agg cs']) | _=>none
 | .arr k t _,x=>match x with | .arr k' t' xs=>qfl (k==k'&&t==t'&&qcy xs) (some [.sl k xs false]) | _=>none
 | .map _,x=>match x with | .map es=>qfl (qcy es) (some [.imap es]) | _=>none
 | .siter _ _,x=>match x with | .siter s pos=>some [.str s,nI pos] | _=>none
def qmk:List KOb→List Ob→Option (List PV)
 | [],l=>match l with | []=>some [] | _=>none
 | x :: xs,l=>match l with
  | y :: ys=>match qh0 x y,qmk xs ys with
   | some a,some b=>some (a++b)
   | _,_=>none
  | _=>none
structure qdc where
 args:List KV
 ins:List KOb
 res:KV
 outs:List KOb
 news:List KOb
 gone:List Nat
 deriving Inhabited
def ioFit (P:qdc) (out:Out):Option (List PV) :=
 if out.gone=P.gone.map (fun j=>(0,j)) then
  match qpj P.res out.v,qmk P.outs (out.ups.map (·.2)),qmk P.news out.new with
  | some a,some b,some c=>some (a++(b++c))
  | _,_,_=>none
 else none
def qg9 (k:Nat):List Nm:=(List.range k).map fun j=>(0,j)
inductive RSh where
 | cl
 | own (k:Nat)
 | opt (k:Nat)
 | tup (l:List RSh)
 | agg (l:List RSh)
 deriving Inhabited
mutual
def qhn (obs:List Ob):RSh→Nat→PV→Option (PV×Nat)
 | .cl,j,v=>qfl (okV v) (some (v,j))
 | .own k,j,v=>match v,obs[j]? with
  | .arr nm k' o n,some (.arr k'' kt xs)=>qfl (nm==(0,j)&&k==k'&&k==k''&&o==0&&n==xs.length&&kt==0&&qcy xs) (some (.sl k xs false,j+1))
  | _,_=>none
 | .opt k,j,v=>match v,obs[j]? with
  | .nilS,_=>some (.nilS,j)
  | .arr nm k' o n,some (.arr k'' kt xs)=>qfl (nm==(0,j)&&k==k'&&k==k''&&o==0&&n==xs.length&&kt==0&&qcy xs) (some (.sl k xs false,j+1))
  | _,_=>none
 | .tup l,j,v=>match v with
  | .tup vs=>(qka obs l j vs).map fun p=>(.tup p.1,p.2)
  | _=>none
 | .agg l,j,v=>match v with
  | .agg vs=>(qka obs l j vs).map fun p=>(.agg p.1,p.2)
  | _=>none
def qka (obs:List Ob):List RSh→Nat→List PV→Option (List PV×Nat)
 | [],j,[]=>some ([],j)
 | s :: l,j,v :: vs=>match qhn obs s j v with
  | some (u,j)=>(qka obs l j vs).map fun p=>(u :: p.1,p.2)
  | none=>none
 | _,_,_=>none
end
def qmt (sh:RSh) (v:PV) (obs:List Ob):Option PV :=
 match qhn obs sh 0 v with
 | some (r,j)=>qfl (j==obs.length) (some r)
 | none=>none
mutual
def qwa (d:Nat):RSh→Nat→PV→KV×List KOb×Nat
 | .cl,j,r=>(.cv r,[],j)
 | .own k,j,r=>(.arr (d,j) k 0 (qmz (qkv r)),[.arr k 0 (qkv r)],j+1)
 | .opt _,j,r=>(.cv r,[],j)
 | .tup l,j,r=>let p:=qyg d l j r 0;(.tup p.1,p.2)
 | .agg l,j,r=>let p:=qyg d l j r 0;(.agg p.1,p.2)
def qyg (d:Nat):List RSh→Nat→PV→Nat→List KV×List KOb×Nat
 | [],j,_,_=>([],[],j)
 | s :: l,j,r,i =>
  let p:=qwa d s j (prjP r i)
  let q:=qyg d l p.2.2 r (i+1)
  (p.1 :: q.1,p.2.1++q.2.1,q.2.2)
end
mutual
def ql6 {R:Type}:RSh→PV→(RSh→Option R)→Option R
 | .cl,_,K=>K .cl
 | .own k,_,K=>K (.own k)
 | .opt k,u,K=>nilB u (K .cl) (K (.own k))
 | .tup l,u,K=>qqn l u 0 fun l=>K (.tup l)
 | .agg l,u,K=>qqn l u 0 fun l=>K (.agg l)
def qqn {R:Type}:List RSh→PV→Nat→(List RSh→Option R)→Option R
 | [],_,_,K=>K []
 | s :: l,u,i,K=>ql6 s (prjP u i) fun s=>qqn l u (i+1) fun l=>K (s :: l)
end
mutual
def RSh.fix:RSh→Bool
 | .opt _=>false
 | .cl | .own _=>true
 | .tup l | .agg l=>fixL l
def fixL:List RSh→Bool
 | []=>true
 | s :: l=>s.fix&&fixL l
end
structure KB where
 sp:FuncId→(Nm→Option Ob)→List PV→Option Out
 L:qva
 I:FuncId→List Ob→List PV→Option (St×PV)
 isIo:FuncId→Bool
 leans:FuncId→Bool
structure qx7 where
 b:KB
 spF:FuncId→Bool
 asT:FuncId→TypeId→Option (TypeId×Nat)
 rsh:FuncId→RSh×Bool
 dsh:Nat→RSh
 ioF:FuncId→Option (List KV→List KOb→qdc)
 spK:FuncId→Option ((Nm→Option KOb)→List KV→Option (Bool×qb2)):=fun _=>none
 flatF:FuncId→Bool:=fun _=>false
def spO (sp:FuncId→(Nm→Option Ob)→List PV→Option Out) (g:FuncId) (vs:List PV):Option (Option (PV×List Ob)) :=
 match sp g (fun _=>none) vs with
 | some out=>qfl (out.upd.isNone&&out.kill.isNone&&out.frz.isEmpty&&out.gone.isEmpty&&out.ups.isEmpty&&!out.io&&out.slot.isNone) (some (some (out.v,out.new)))
 | none=>some none
noncomputable def qke (B:KB) (sh:RSh) (f:PV) (args:List PV):Option PV :=
 match f with
 | .fn g cap=>match spO B.sp (qd2 g) (qb3 g args cap) with
  | some (some (v,obs))=>qmt sh v obs
  | some none=>if B.isIo (qd2 g) then none else match B.L Unit qba 0 (qd2 g) (qb3 g args cap) () with
   | some (r,obs,_)=>qmt sh r obs
   | none=>none
  | none=>none
 | _=>none
noncomputable def lendO (B:KB) (sh:RSh) (fr:Bool) (g:FuncId) (args:List PV):Option PV :=
 if qcu args then none
 else match B.L Unit qba 0 g args () with
  | some (r,obs,_)=>qfl ((r.free&&obs.all Ob.free&&!B.leans g)==fr) (qmt sh r obs)
  | none=>none
noncomputable def rangeO (B:KB) {E:Type} (h:qbg E) (dep:Nat) (f:PV) (e:E):Option E :=
 match f with
 | .fn g cap=>match B.L E h (dep+1) (qd2 g) (qb3 g [.yld dep] cap) e with
  | some (_,_,e)=>some e
  | none=>none
 | _=>none
noncomputable def ioO (B:KB) (P:qdc) (g:FuncId) (vs:List PV):Option (List PV) :=
 match B.I g ((qc0 P.ins vs (qhj P.args vs 0).2).1.map KOb.ob) (pvL (qhj P.args vs 0).1) with
 | some (st,v)=>match qra none 1 0 (qg9 P.ins.length) st v with
  | some out=>ioFit P out
  | none=>none
 | none=>none
def qpe (R:List Nm) (d i0:Nat) (m:Nm):Nm:=if m.1=0 then R.getD m.2 (0,0) else (d,i0+m.2)
def ioOut (P:qdc) (R:List Nm) (sl:Option Nat) (d i0:Nat) (rs:List PV):qb2 :=
 let v:=fill P.res rs 0
 let o:=qc0 P.outs rs v.2
 let w:=qc0 P.news rs o.2
 {v:=v.1.ren (qpe R d i0),new:=w.1.map (KOb.ren (qpe R d i0)),gone:=P.gone.map fun j=>R.getD j (0,0),ups:=R.zip (o.1.map (KOb.ren (qpe R d i0))),io:=true,slot:=sl}
noncomputable def qw1 {R:Type} (cfg:qx7) (Pf:List KV→List KOb→qdc) (g:FuncId) (d:Nat) (σ:Nm→Option KOb) (xs:List KV) (K:qb2→Option R):Option R :=
 let S:=qcc (qlm σ qbe (qc9 xs))
 match S.mapM σ with
 | none=>none
 | some ins =>
  let f:Nm→Nm:=fun m=>(0,S.idxOf m)
  let P:=Pf xs ins
  if Qfv σ S=true∧qjh xs=false∧cfg.spF g=false∧(qx8 P.args (qnj f xs)&&qg3 P.ins (ins.map (KOb.ren f)))=true then
   qcd (ioO cfg.b P g (qg0 P.args (qnj f xs)++qgz P.ins (ins.map (KOb.ren f)))) fun rs=>match S with
    | []=>K (ioOut P S none d 0 rs)
    | r :: _=>match qm4 σ r.1 with
     | some i0=>K (ioOut P S (some r.1) r.1 i0 rs)
     | none=>none
  else none
def qk5 (f:FuncId) (vs cap:List KV):List KV:=match Nat.blt f qgo with
 | true=>vs++cap
 | false=>cap.take (fnK f)++(vs++cap.drop (fnK f))
noncomputable def kcall {E R:Type} (cfg:qx7) (h:qbg E) (d:Nat) (σ:Nm→Option KOb) (tm:Sp) (f:RX) (args:List RX) (e:E) (K:qb2→E→Option R):Option R :=
 match f.kv tm with
 | .yld l =>
  let xs:=args.map (RX.kv tm)
  match clL xs with
  | some vs=>qcd (h l vs e) fun p=>K {v:=.cv (.bool p.1)} p.2
  | none =>
   let R:=qlm σ qbe (qc9 xs)
   if (qc9 xs).isEmpty then none
   else if Qfv σ R then
    let ys:=qkb (qda σ qbe) xs
    qfl (noYL ys) (qcd (h l ys e) fun p=>K {v:=.cv (.bool p.1),frz:=R} p.2)
   else none
 | .fn f caps =>
  let g:=qd2 f
  let xs:=qk5 f (args.map (RX.kv tm)) caps
  match cfg.spK g with
  | some s=>(match s σ xs with
   | some p=>qfl p.1 (K p.2 e)
   | none=>none)
  | none =>
  match cfg.ioF g with
  | some P=>qw1 cfg P g d σ xs fun out=>K out e
  | none =>
  match xs with
  | [ex,.iface p (.ref nm 0)]=>match cfg.asT g p,ex.cl,σ nm with
   | some (t,n),some err,some (.cells ty cs)=>qfl (eqN cs.length n) (asP t err (fun x=>qfl (qmf x n) (K {v:=.lit true,upd:=some (nm,.whole ty x)} e)) (K {v:=.lit false} e))
   | _,_,_=>none
  | _=>match clL xs with
   | some vs=>qcd (qke cfg.b (cfg.rsh g).1 (.fn g []) vs) fun r=>ql6 (cfg.rsh g).1 r fun sh=>let p:=qwa d sh 0 r;K {v:=p.1,new:=p.2.1} e
   | none =>
    let R:=qlm σ qbe (qc9 xs)
    if (qc9 xs).isEmpty∨cfg.spF g=true then none
    else if Qfv σ R then
     qcd (lendO cfg.b (cfg.rsh g).1 (cfg.rsh g).2 g (qkb (qda σ qbe) xs)) fun r=>ql6 (cfg.rsh g).1 r fun sh=>let p:=qwa d sh 0 r;K {v:=p.1,new:=p.2.1,frz:=if (cfg.rsh g).2 then [] else R} e
    else none
 | .cv v=>match clL (args.map (RX.kv tm)) with
  | some vs=>qcd (qke cfg.b (cfg.dsh d) v vs) fun r=>ql6 (cfg.dsh d) r fun sh=>let p:=qwa d sh 0 r;K {v:=p.1,new:=p.2.1} e
  | none=>none
 | _=>none
def kfresh (o:qbo) (ks:KSt):Bool :=
 if qlj o.op then
  match o.dst with
  | some d=>Nat.blt d ks.nt&&(qch ks.objs d).isEmpty
  | none=>match o.op with
   | .call _ _=>true
   | _=>false
 else true
def qhz:SpO→Bool
 | []=>true
 |(_,u) :: l=>(u.all fun o=>match o with | .cells _ cs=>!qjh cs | _=>true)&&qhz l
def calmX (cfg:qx7) (op:ROp) (tm:Sp):Bool :=
 match op with
 | .mkSl _ _=>false
 | .insert _ _ _ _=>false
 | .call f _=>match f.kv tm with
  | .fn g _=>(cfg.ioF (qd2 g)).isNone
  | _=>true
 | _=>true
noncomputable def qzm {E R:Type} (cfg:qx7) (h:qbg E) (o:qbo) (ks:KSt) (e:E) (K:qb2→E→Option R):Option R :=
 if kfresh o ks∧o.op.xs.all okX∧(qhz ks.objs||calmX cfg o.op ks.tmps)=true then
  match o.op with
  | .call f args=>kcall cfg h (o.dst.getD 0) (qck ks.objs) ks.tmps f args e fun out e=>if ((!out.io||o.dst.isSome||out.new.isEmpty||out.slot.isSome)&&(out.frz.isEmpty||qhz ks.objs))=true then K out e else none
  | op=>qg4 (o.dst.getD 0) (qck ks.objs) ks.tmps op fun out=>if (out.frz.isEmpty||qhz ks.objs)=true then K out e else none
 else none
def Qlm {R:Type} (ops:List qbo) (o:qbo) (ks:KSt) (K:Bool→KSt→Option R):Option R :=
 match o.guard with
 | none=>K true ks
 | some (j,want) =>
  match ops[j]? with
  | some p=>match p.dst with
   | some d=>match qb7 ks.tmps d with
    | .lit b=>K (b==want) ks
    | .sk=>K false ks
    | .cv v=>Qcs v (K (true==want) {ks with tmps:=qhv d (.lit true) ks.tmps}) (K (false==want) {ks with tmps:=qhv d (.lit false) ks.tmps})
    | _=>none
   | none=>none
  | none=>none
noncomputable def kstep {E R:Type} (cfg:qx7) (h:qbg E) (ops:List qbo) (o:qbo) (ks:KSt) (e:E) (K:KSt→E→Option R):Option R :=
 Qlm ops o ks fun b ks=>match b with
  | true=>qzm cfg h o ks e fun out e=>qg2 (qlq ks o.dst out) fun ks=>K ks e
  | false=>qg2 (qlq ks o.dst {v:=.sk}) fun ks=>K ks e
noncomputable def kruns {E R:Type} (cfg:qx7) (h:qbg E) (ops:List qbo):List qbo→KSt→E→(KSt→E→Option R)→Option R
 | [],ks,e,K=>K ks e
 | o :: rest,ks,e,K=>kstep cfg h ops o ks e fun ks e=>kruns cfg h ops rest ks e K
def Qfu (o:qb2):Bool:=o.upd.isNone&&o.kill.isNone&&o.frz.isEmpty&&o.gone.isEmpty&&o.ups.isEmpty&&o.slot.isNone
def kturns (o:qb2):Bool:=o.gone.isEmpty&&o.ups.isEmpty&&o.slot.isNone&&!o.io
def qws (o:qb2):List Nm :=
 match o.upd with
 | some (nm,_)=>[nm]
 | none=>[]
def spAt (ks:KSt) (s:Nat):KV :=
 match Nat.blt s ks.nt with
 | true=>qb7 ks.tmps s
 | false=>.un
def kisYld (op:ROp) (tm:Sp):Bool :=
 match op with
 | .call f args=>match f.kv tm with
  | .yld _=>(qc9 (args.map (RX.kv tm))).isEmpty
  | _=>false
 | _=>false
def kheldN (σ:Nm→Option KOb) (l:List Nm):List Nm:=l.flatMap fun nm=>((σ nm).map KOb.names).getD []
def krnOf (o:qbo) (ks:KSt) (out:qb2):List Nm :=
 if qr0 o.op&&Qfu out then [] else qlm (qck ks.objs) (qgy o.op (Qfu out)) (qc9 (o.op.xs.map (RX.kv ks.tmps))++out.frz)
def qb2.out (o:qb2):Out:={v:=o.v.pv,new:=o.new.map KOb.ob,upd:=o.upd.map fun p=>(p.1,p.2.ob),kill:=o.kill,frz:=o.frz,gone:=o.gone,ups:=o.ups.map fun p=>(p.1,p.2.ob),io:=o.io,slot:=o.slot}
def kinfo (ops:List qbo) (i:Nat) (o:qbo) (ks:KSt) (out:qb2):qlb :=
 let vs:=o.op.xs.map (RX.kv ks.tmps)
 {i,dst:=o.dst,reads:=qk1 o.op.xs++qby ops o,rn:=krnOf o ks out,rv:=if qgn o.op then [] else kheldN (qck ks.objs) (krnOf o ks out),
  cls:=if qg1 o.op&&qjh vs then (if kisYld o.op ks.tmps then .calls else .other) else if Qfu out then .quiet else if kturns out then .turns else if qyh out.out then .ios else .other,
  on:=out.v.names++out.new.flatMap KOb.names,tch:=qws out++(out.frz++out.kill.toList),frz:=!(out.frz++out.kill.toList).isEmpty,
  vn:=(qk1 o.op.xs++qby ops o).flatMap fun s=>(spAt ks s).names
  nw:=out.out.new.isEmpty&&!qlj o.op,ld:=ldOf o.op ks.st.tmps out.out.v,bef:=out.out.ups.map fun p=>(p.1,qbf ks.st.objs p.1),aft:=out.out.ups}
noncomputable def kstepD {E R:Type} (cfg:qx7) (h:qbg E) (ops:List qbo) (i:Nat) (o:qbo) (ks:KSt) (e:E) (K:KSt→E→qlb→Option R):Option R :=
 Qlm ops o ks fun b ks=>match b with
  | true=>qzm cfg h o ks e fun out e=>qg2 (qlq ks o.dst out) fun k1=>K k1 e (kinfo ops i o ks out)
  | false=>qg2 (qlq ks o.dst {v:=.sk}) fun k1=>K k1 e {i,cls:=.quiet,dst:=o.dst,reads:=qby ops o,rn:=[],vn:=(qby ops o).flatMap fun s=>(spAt ks s).names,nw:=!qlj o.op}
noncomputable def Qlo {E R:Type} (cfg:qx7) (h:qbg E) (ops:List qbo):List (Nat×Nat)→List qlb→KSt→E→(KSt→E→Option R)→Option R
 | [],_,ks,e,K=>K ks e
 |(i,bef) :: rest,infos,ks,e,K=>match ops[i]? with
  | some o=>kstepD cfg h ops i o ks e fun ks e info=>if (infos.all fun j=>bef.testBit j.i||qw5 j info) then Qlo cfg h ops rest (info :: infos) ks e K else none
  | none=>none
def qf9 (ds:List Nat) (ks:KSt):KSt :=
 if ds.all fun d=>(qch ks.objs d).isEmpty then ks
 else
  let ks:=qzn (fun m=>ds.contains m.1) ks
  {ks with objs:=qth (fun i=>!ds.contains i) ks.objs}
def qtp (ks:KSt) (t:Nat):Bool:=Nat.blt t ks.nt&&(qch ks.objs t).isEmpty
def qll (t:Nat) (ks:KSt) (nm:Nm):KSt :=
  if nm≠(t,0)∧qtp ks t=true then
   match qck ks.objs nm with
   | some ob =>
    let f:Nm→Nm:=fun m=>if m=nm then (t,0) else m
    let objs:=qm3 (KOb.ren f) ks.objs
    {ks with tmps:=qkl (KV.ren f) ks.tmps,objs:=ql7 t [ob.ren f] (kput objs nm qq6),keep:=ks.keep.map (qkl (KV.ren f))}
   | none=>ks
  else ks
def qkt (t:Nat) (ks:KSt):KSt :=
 match qb7 ks.tmps t with
 | .arr nm _ _ _=>qll t ks nm
 | .wit nm=>qll t ks nm
 | _=>ks
def qzo (nm:Nm) (ty:Nat) (cs:List KV) (i k:Nat) (ks:KSt):KSt :=
 let l:=qch ks.objs nm.1
 {ks with objs:=ql7 nm.1 (l.set nm.2 (.cells ty (cs.set i (.arr (nm.1,l.length) k 0 0)))++[.arr k 0 []]) ks.objs}
def qlo (nm m:Nm) (ks:KSt):KSt :=
 let l:=qch ks.objs nm.1
 if m.1≠nm.1 then
  match qck ks.objs m with
  | some ob =>
   let f:Nm→Nm:=fun x=>if x=m then (nm.1,l.length) else x
   let objs:=kput (qm3 (KOb.ren f) ks.objs) m qq6
   {ks with tmps:=qkl (KV.ren f) ks.tmps,objs:=ql7 nm.1 (qch objs nm.1++[ob.ren f]) objs,keep:=ks.keep.map (qkl (KV.ren f))}
  | none=>ks
 else ks
def qww {R:Type} (nm:Nm) (ty:Nat) (cs:List KV) (i k:Nat) (ks:KSt) (K:KSt→Option R):Option R :=
 match cs[i]? with
 | some .nils=>K (qzo nm ty cs i k ks)
 | some (.cv v)=>nilO v (K (qzo nm ty cs i k ks))
 | some (.arr m _ _ _)=>K (qlo nm m ks)
 | some (.wit m)=>K (qlo nm m ks)
 | _=>K ks
def kgrowC {R:Type} (x off k:Nat) (ks:KSt) (K:KSt→Option R):Option R :=
 match qb7 ks.tmps x with
 | .ref nm o=>match qck ks.objs nm with
  | some (.cells ty cs)=>qww nm ty cs (o+off) k ks K
  | some (.whole _ v)=>qfl (Qcb v (o+off)) (K ks)
  | _=>K ks
 | _=>K ks
def kgrow1 {R:Type} (t k:Nat) (ks:KSt) (K:KSt→Option R):Option R :=
 if qjj≤t then kgrowC (t%qjj) (t / qjj - 1) k ks K
 else match qb7 ks.tmps t with
 | .nils=>K (if qtp ks t then {ks with tmps:=qhv t (.arr (t,0) k 0 0) ks.tmps,objs:=ql7 t [.arr k 0 []] ks.objs} else ks)
 | .cv v=>notNil v (K ks)
 | _=>K ks
def Qlq {R:Type}:List (Nat×Nat)→KSt→(KSt→Option R)→Option R
 | [],ks,K=>K ks
 |(t,k) :: l,ks,K=>kgrow1 t k ks fun ks=>Qlq l ks K
def qjm (ks:KSt):List Nat :=
 let R:=qf5 ks.tmps++ks.keep.flatMap qf5++qjv ks.objs
 (ks.objs.filter fun p=>!p.2.isEmpty&&R.all fun nm=>nm.1 != p.1).map (·.1)
def knorm {R:Type} (asg:List Nat) (grow:List (Nat×Nat)) (ks:KSt) (K:KSt→Option R):Option R :=
 Qlq grow (asg.foldl (fun ks t=>qkt t ks) ks) fun ks=>K (qf9 (qjm ks) ks)
def qm2 (R:List Nm):SpO→SpO
 | []=>[]
 |(j,u) :: l=>match u.take (qxw R j u.length) with
  | []=>qm2 R l
  | v :: vs=>(j,v :: vs) :: qm2 R l
def ktrim (ks:KSt):KSt:={ks with objs:=qm2 (qf5 ks.tmps++ks.keep.flatMap qf5++qjv ks.objs) ks.objs}
def Qf8 (k0:KSt) (ks:KSt):KSt :=
 let ks:={ks with tmps:=qju (qqr k0.tmps) ks.tmps}
 qf9 (qjm ks) ks
def Qjp (live:Option (List Nat)) (ks:KSt):KSt :=
 match live with
 | none=>ks
 | some l =>
  let ks:={ks with tmps:=qju (fun i=>l.contains i) ks.tmps}
  qf9 (qjm ks) ks
def qy6:ROp→Bool
 | .mov _ | .pick _ _ _ | .build _ _ | .nilck _ | .bin _ _ _ _ _ | .un _ _ | .conv _ _ | .toBytes _ | .ofBytes _ | .ofRune _ | .strId _ | .mkI _ _ | .lookup _ _ _ _ _ | .slice _ _ _ _ _ | .strSlice _ _ _
 | .fieldAddr _ _ | .field _ _ _ _ | .idxAddr _ _ _ | .idxAddrA _ _ _ _ | .strIdx _ _ | .extract _ _ | .len _ _ | .minmax _ _ | .tassert _ _ _ _ | .load _ _ _=>true
 | _=>false
def Qmo (ops:List qbo) (lv:Option (List Nat)):Option Nat :=
 if (ops.any fun o=>o.guard.isSome)&&(ops.all fun o=>qy6 o.op) then
  match lv with
  | some l=>match l.filter fun t=>(ops.filterMap (·.dst)).contains t with
   | [t]=>some t
   | _=>none
  | none=>none
 else none
def qq3:List Nat→List PV→Nat→Sp→Sp
 | p :: ps,vs,i,tm=>qq3 ps vs (i+1) (qhv p (.cv (nth vs i)) tm)
 | [],_,_,tm=>tm
def isNormal:Ex→Bool
 | .normal=>true
 | _=>false
def exitOf:Ex→Option Ex
 | .normal=>none
 | x=>some x
def qmm:qcm→List Nat
 | .seq a b=>qmm a++qmm b
 | .cond _ a b=>qmm a++qmm b
 | .block id b=>(qmm b).filter fun i=>i != id
 | .loop _ _ b=>qmm b
 | .rangeFunc _ _ _ b=>qmm b
 | .scope b=>qmm b
 | .exit id=>[id]
 | _=>[]
def konEx {R:Type}:List Nat→Option Ex→(Nat→Option R)→Option R
 | [],_,_=>none
 | id :: l,p,K=>iteB (isExitE p id) (K id) (konEx l p K)
abbrev KRec (E:Type):=List PV×Option Ex×E
def onRound {E:Type} (dep:Nat) (h:qbg E) (body:List PV→List PV→E→Option (Bool×KRec E)):qbg (KRec E):=fun l args r =>
 if l=dep then
  match r with
  |(vs,none,e)=>body vs args e
  | _=>none
 else
  match r with
  |(vs,p,e)=>match h l args e with
   | some (b,e)=>some (b,(vs,p,e))
   | none=>none
def Qld {E R:Type} (asg:List Nat) (grow:List (Nat×Nat)) (k0:KSt) (K:Ex→KSt→E→Option R) (x:Ex) (ks:KSt) (e:E):Option (Sum (List PV×E) R) :=
 match x with
 | .normal=>knorm asg grow (Qf8 k0 ks) fun k1=>qg2 k1 fun k1=>if qxi k0 k1 then chks (Qfh k0 k1) (some (.inl (qdu k0 k1,e))) else none
 | x=>qcd (K x ks e) fun r=>some (.inr r)
noncomputable def qh4 (cfg:qx7):qcm→{E R:Type}→qbg E→Nat→KSt→E→(Ex→KSt→E→Option R)→Option R
 | .skip,_,_,_,_,ks,e,K=>K .normal ks e
 | .region ops none lv,E,_,h,_,ks,e,K =>
  qg2 (qf9 (qmp ops) ks) fun ks =>
  match Qmo ops lv with
  | some t=>qcd (kruns (E:=E) cfg h ops ops ks e fun ks _=>(qb7 ks.tmps t).cl) fun z=>qg2 (Qjp lv {ks with tmps:=qhv t (.cv z) ks.tmps}) fun ks=>K .normal ks e
  | none=>kruns cfg h ops ops ks e fun ks e=>qg2 (Qjp lv ks) fun ks=>K .normal ks e
 | .region ops (some bef) lv,_,_,h,_,ks,e,K=>qg2 (qf9 (qmp ops) ks) fun ks=>Qlo cfg h ops bef [] ks e fun ks e=>qg2 (Qjp lv ks) fun ks=>K .normal ks e
 | .seq a b,_,_,h,dep,ks,e,K=>qh4 cfg a h dep ks e fun x ks e=>match x with
  | .normal=>qh4 cfg b h dep ks e K
  | x=>K x ks e
 | .cond c a b,_,_,h,dep,ks,e,K=>match c.kv ks.tmps with
  | .lit true=>qh4 cfg a h dep ks e K
  | .lit false=>qh4 cfg b h dep ks e K
  | .cv v=>Qcs v (qh4 cfg a h dep ks e K) (qh4 cfg b h dep ks e K)
  | _=>none
 | .block id body,_,_,h,dep,ks,e,K=>qh4 cfg body h dep ks e fun x ks e=>match x with
  | .exit id'=>if id'=id then K .normal ks e else K (.exit id') ks e
  | x=>K x ks e
 | .loop asg grow body,E,R,h,dep,ks,e,K=>knorm asg grow ks fun k0=>qg2 k0 fun k0=>qfl (qsk (qga k0.tmps k0.tmps))<|if qxi k0 k0=false then none else
  loopL (σ:=List PV×E) (ρ:=R) (fun s=>qg2 (qdv k0 s.1) fun ks=>qh4 cfg body h dep ks s.2 (Qld asg grow k0 K)) (qdu k0 k0,e)
 | .rangeFunc f ps assign body,E,R,h,dep,ks,e,K =>
  match (f.kv ks.tmps).cl with
  | some fv=>if (ps.all fun p=>Nat.blt p ks.nt)&&qxi ks ks&&okX f then qcd (rangeO (E:=KRec E) cfg.b (onRound dep h fun vs args e =>
    qfl (okArgs args ps.length) (
     qg2 (qdv ks vs) fun k0 =>
     qg2 {k0 with tmps:=qq3 ps args 0 k0.tmps,keep:=k0.tmps :: k0.keep} fun k1 =>
     qh4 cfg assign (R:=Bool×KRec E) h (dep+1) k1 e fun x k1 e=>match x with
      | .normal=>qh4 cfg body h (dep+1) k1 e fun x k2 e =>
       match k2.keep with
       | []=>none
       | sp :: kp =>
        qg2 {k2 with tmps:=sp,keep:=kp} fun k3 =>
        if qxi ks k3 then chks (Qfh ks k3) (some (isNormal x,(qdu ks k3,exitOf x,e))) else none
      | _=>none)) dep fv (qdu ks ks,none,e)) fun r=>qg2 (qdv ks r.1) fun k1 =>
    iteB (isNoneE r.2.1) (K .normal k1 r.2.2) (iteB (isRetE r.2.1) (K .ret k1 r.2.2)
     (konEx (qmm body) r.2.1 fun id=>K (.exit id) k1 r.2.2)) else none
  | none=>none
 | .exit id,_,_,_,_,ks,e,K=>K (.exit id) ks e
 | .scope b,_,_,h,dep,ks,e,K=>qh4 cfg b h dep ks e fun x ks e=>match x with
  | .exit id=>if id < qf6 then K (.exit id) ks e else none
  | x=>K x ks e
 | .ret,_,_,_,_,ks,e,K=>K .ret ks e
 | .norm grow,_,_,_,_,ks,e,K=>knorm [] grow (ktrim ks) fun k0=>qg2 k0 fun k0=>K .normal k0 e
 | .dreg _ _ _ _,_,_,_,_,_,_,_=>none
 | .bad,_,_,_,_,_,_,_=>none
def kisFn:KV→Bool
 | .fn _ _=>true
 | _=>false
def kisUn:KV→Bool
 | .un=>true
 | _=>false
noncomputable def qjl (cfg:qx7) (nt:Nat):qcm→{R:Type}→KSt→(Ex→KSt→List Nat→Option R)→Option R
 | .dreg ops f args live,_,ks,K=>qg2 (qf9 (qmp ops) ks) fun ks=>kruns (E:=Unit) cfg qba ops ops ks () fun ks _ =>
  if kisFn (f.kv ks.tmps)=true∧(Nat.ble (args.length+1) nt&&Nat.beq ks.nt nt)=true∧(f :: args).all okX=true∧(f.kv ks.tmps :: args.map (RX.kv ks.tmps)).any kisUn=false then
   qg2 (Qjp live {ks with keep:=((f.kv ks.tmps :: args.map (RX.kv ks.tmps)).zipIdx.map fun p=>(p.2,p.1)) :: ks.keep}) fun ks=>K .normal ks [args.length]
  else none
 | .seq a b,_,ks,K=>qjl cfg nt a ks fun x ks l=>match x with
  | .normal=>qjl cfg nt b ks fun x ks l'=>K x ks (l'++l)
  | x=>K x ks l
 | .cond c a b,_,ks,K=>match c.kv ks.tmps with
  | .lit true=>qjl cfg nt a ks K
  | .lit false=>qjl cfg nt b ks K
  | .cv v=>Qcs v (qjl cfg nt a ks K) (qjl cfg nt b ks K)
  | _=>none
 | .block id body,_,ks,K=>qjl cfg nt body ks fun x ks l=>match x with
  | .exit id'=>if id'=id then K .normal ks l else K (.exit id') ks l
  | x=>K x ks l
 | .scope body,_,ks,K=>if qvf body then none else qjl cfg nt body ks fun x ks l=>match x with
  | .exit id=>if id < qf6 then K (.exit id) ks l else none
  | x=>K x ks l
 | c,_,ks,K=>qh4 cfg c (E:=Unit) qba 0 ks () fun x ks _=>K x ks []
noncomputable def dfrsK (cfg:qx7) (nt:Nat) {R:Type}:List Nat→KSt→(KSt→Option R)→Option R
 | [],ks,K=>K ks
 | n :: l,ks,K=>match ks.keep with
  | []=>none
  | sp :: kp=>match qb7 sp 0 with
   | .fn f caps=>match cfg.ioF (qd2 f) with
    | some P =>
     let xs:=qk5 f ((List.range n).map fun j=>qb7 sp (j+1)) caps
     if cfg.flatF (qd2 f)=true∧(Nat.ble (n+1) nt&&Nat.beq ks.nt nt)=true∧qhz ks.objs=true then
      qw1 cfg P (qd2 f) 0 (qck ks.objs) xs fun out=>if out.new.isEmpty||out.slot.isSome then qg2 (qlq {ks with keep:=kp} none out) fun ks=>dfrsK cfg nt l ks K else none
     else none
    | none=>none
   | _=>none
def kresV {R:Type} (ks:KSt) (r:Qkp) (K:KV→Option R):Option R :=
 match r with
 | .tmp t=>K (qb7 ks.tmps t)
 | .cell t n ag=>match qb7 ks.tmps t with
  | .ref nm o=>match qck ks.objs nm with
   | some (.cells _ cs)=>if ag then (if o+n≤cs.length then K (.agg ((cs.drop o).take n)) else none) else (match cs[o]? with | some c=>K c | none=>none)
   | some (.whole _ v)=>qcd (selO v o n ag) fun z=>K (.cv z)
   | _=>none
  | _=>none
def qtl {R:Type} (ks:KSt):List Qkp→(List KV→Option R)→Option R
 | [],K=>K []
 | r :: rs,K=>kresV ks r fun v=>qtl ks rs fun vs=>K (v :: vs)
def qtn:List KV→KV
 | [v]=>v
 | vs=>.tup vs
def qpr:Nat→Bool
 | 0=>true
 | _=>false
def ktops:KV→List Nm
 | .arr nm _ o _=>if qpr o then [nm] else []
 | .wit nm=>[nm]
 | .agg cs=>cs.flatMap fun | .arr nm _ o _=>if qpr o then [nm] else [] | .wit nm=>[nm] | _=>[]
 | .tup xs=>xs.flatMap fun | .arr nm _ o _=>if qpr o then [nm] else [] | .wit nm=>[nm] | .agg cs=>cs.flatMap (fun | .arr nm _ o _=>if qpr o then [nm] else [] | .wit nm=>[nm] | _=>[]) | _=>[]
 | _=>[]
mutual
def qr6:RSh→KV→List Nm
 | .own _,x=>match x with | .arr nm _ _ _=>[nm] | _=>[]
 | .opt _,x=>match x with | .arr nm _ _ _=>[nm] | _=>[]
 | .tup l,x=>match x with | .tup xs=>qt6 l xs | _=>[]
 | .agg l,x=>match x with | .agg xs=>qt6 l xs | _=>[]
 | .cl,_=>[]
def qt6:List RSh→List KV→List Nm
 | s :: l,x :: xs=>qr6 s x++qt6 l xs
 | _,_=>[]
end
mutual
def qqb {R:Type} (σ:Nm→Option KOb) (S:List Nm):RSh→KV→(PV→Option R)→Option R
 | .cl,x,K=>match x.cl with
  | some u=>K u
  | none=>match x with
   | .tup xs=>match clL xs with
    | some us=>K (.tup us)
    | none=>if x.names.all fun nm=>!S.contains nm then qfl (okU (x.close (qda σ qbe))) (K (x.close (qda σ qbe))) else none
   | _=>if x.names.all fun nm=>!S.contains nm then qfl (okU (x.close (qda σ qbe))) (K (x.close (qda σ qbe))) else none
 | .own k,x,K=>match x with
  | .arr nm k' o n=>match σ nm with
   | some (.arr k'' kt xs)=>if k=k'∧k=k''∧qpr o=true then qfl (eqN n (qmz xs)) (K (.sl k xs false)) else none
   | _=>none
  | _=>none
 | .opt k,x,K=>match x with
  | .arr nm k' o n=>match σ nm with
   | some (.arr k'' kt xs)=>if k=k'∧k=k''∧qpr o=true then qfl (eqN n (qmz xs)) (K (.sl k xs false)) else none
   | _=>none
  | .nils=>K .nilS
  | .cv v=>nilO v (K .nilS)
  | _=>none
 | .tup l,x,K=>match x with
  | .tup xs=>qnk σ S l xs fun us=>K (.tup us)
  | _=>none
 | .agg l,x,K=>match x with
  | .agg xs=>qnk σ S l xs fun us=>K (.agg us)
  | _=>none
def qnk {R:Type} (σ:Nm→Option KOb) (S:List Nm):List RSh→List KV→(List PV→Option R)→Option R
 | [],[],K=>K []
 | s :: l,x :: xs,K=>qqb σ S s x fun u=>qnk σ S l xs fun us=>K (u :: us)
 | _,_,_=>none
end
def qsn (shut:Bool) (v:KV):List Nm :=
 match shut with
 | true=>[]
 | false=>ktops v
def qq4 {R:Type} (ks:KSt) (shut:Bool) (sh:RSh) (v:KV) (K:PV→Option R):Option R :=
 let σ:=qck ks.objs
 let S:=qsn shut v
 let R:=qlm σ qbe (v.names.filter fun nm=>!S.contains nm)
 if S=qr6 sh v∧qff S=true∧(S.all (fun nm=>!R.contains nm))=true∧Qfv σ R=true then qqb σ S sh v K else none
noncomputable def runK (cfg:qx7) (fn:RFn) (sh:RSh) {E:Type} (h:qbg E) (dep:Nat) (args:List KV) (e:E):Option (PV×E) :=
 qg2 {nt:=fn.nt,tmps:=args.zipIdx.map fun p=>(p.2,p.1),objs:=[],keep:=[]} fun ks=>qh4 cfg fn.code h dep ks e fun x ks e=>match x with
  | .exit _=>none
  | _=>qtl ks fn.res fun vs=>qq4 ks fn.shut sh (qtn vs) fun v=>some (v,e)
def qzl:KV→Option Nm
 | .wit nm=>some nm
 | .arr nm k o n=>if k=1∧o=0∧n=0 then some nm else none
 | _=>none
def Qjt (σ:Nm→Option KOb) (B:List (Nm×Nm)) (nm:Nm):KOb :=
 (((σ nm).getD qq6).off fun m=>!(B.map (·.1)).contains m).ren fun m=>(B.lookup m).getD m
def Qco (σ:Nm→Option KOb) (A:List (Nm×Nm)) (v:KV):List Nm :=
 qcc ((qlm σ qbe (v.names++A.flatMap fun p=>((σ p.1).map KOb.names).getD [])).filter fun m=>!(A.map (·.1)).contains m)
def qku (k:Nat) (sp:Sp):List (Nm×Nm):=(qg9 k).zipIdx.map fun p=>((qzl (qb7 sp p.2)).getD (0,p.2),p.1)
def Qcp (k:Nat) (sp:Sp):List Nm:=((qg9 k).zipIdx.filter fun p=>(qzl (qb7 sp p.2)).isNone).map (·.1)
def qnh (p x:KOb):List PV :=
 match x with
 | .whole _ v=>[.agg (qkd v)]
 | x=>qgb p x
def qlk:List KOb→List KOb→List PV
 | x :: xs,y :: ys=>qnh x y++qlk xs ys
 | _,_=>[]
def Qfz (P:qdc) (ks:KSt) (v:KV):Option (List PV) :=
 match ks.keep with
 | [sp] =>
  let A:=qku P.ins.length sp
  let N:=Qco (qck ks.objs) A v
  let B:=A++N.zipIdx.map fun p=>(p.1,(1,0+p.2))
  let u:=(v.off fun m=>!(B.map (·.1)).contains m).ren fun m=>(B.lookup m).getD m
  let os:=A.map fun p=>Qjt (qck ks.objs) B p.1
  let ns:=N.map (Qjt (qck ks.objs) B)
  if qff (B.map (·.1))=true∧Qcp P.ins.length sp=P.gone.map (fun j=>(0,j))∧(qgu P.res u&&(qg3 P.outs os&&qg3 P.news ns))=true then
   some (qc6 P.res u++(qlk P.outs os++qlk P.news ns))
  else none
 | _=>none
noncomputable def qv6 (cfg:qx7) (fn:RFn) (P:qdc) (vs:List PV):Option (List PV) :=
 let a:=qhj P.args vs 0
 let b:=qc0 P.ins vs a.2
 qg2 {nt:=fn.nt,tmps:=a.1.zipIdx.map fun p=>(p.2,p.1),objs:=[(0,b.1)],keep:=[((List.range P.ins.length).filter fun j=>!fn.gone.contains j).map fun j=>(j,.wit (0,j))]} fun ks =>
 if noD fn.code then qh4 (E:=Unit) cfg fn.code qba 0 ks () fun x ks _=>match x with
  | .exit _=>none
  | _=>qtl ks fn.res fun vs=>Qfz P ks (qtn vs)
 else qjl cfg fn.nt fn.code ks fun x ks l=>match x with
  | .exit _=>none
  | _=>dfrsK cfg fn.nt l ks fun ks=>qtl ks fn.res fun vs=>Qfz P ks (qtn vs)
end Go.Ab


namespace Go.Ab
theorem qdm {xs:List PV}:qcy xs=true↔∀ x∈xs,okV x=true:=by
 induction xs with
 | nil=>simp[qcy]
 | cons x xs ih=>simp[qcy,ih]
mutual
theorem qfk:∀ {v:PV},okV v=true→v.names=[]∧v.hasY=false
 | .undef,_ | .bool _,_ | .int _ _,_ | .str _,_ | .nilS,_ | .nilP,_ | .nilF,_ | .nilI,_ | .nilM,_ | .glob _ _,_=>by simp[PV.names,PV.hasY]
 | .sl _ xs _,h=>by simp only[okV] at h;simp[PV.names,PV.hasY,(qbx h).2]
 | .ptr cs _,h=>by simp only[okV] at h;simp[PV.names,PV.hasY,(qbx h).2]
 | .imap es,h=>by simp only[okV] at h;simp[PV.names,PV.hasY,(qbx h).2]
 | .agg cs,h=>by simp only[okV] at h;simp[PV.names,PV.hasY,qbx h]
 | .fn _ cap,h=>by simp only[okV] at h;simp[PV.names,PV.hasY,qbx h]
 | .tup xs,h=>by simp only[okV] at h;simp[PV.names,PV.hasY,qbx h]
 | .iface _ x,h=>by simp only[okV] at h;simp[PV.names,PV.hasY,qfk h]
 | .yld _,h | .ref _ _,h | .aref _ _ _ _,h | .arr _ _ _ _,h | .mp _,h | .it _,h=>by simp[okV] at h
theorem qbx:∀ {xs:List PV},qcy xs=true→qbd xs=[]∧qcu xs=false
 | [],_=>by simp[qbd,qcu]
 | x :: xs,h=>by
  simp only[qcy,Bool.and_eq_true] at h
  simp[qbd,qcu,qfk h.1,qbx h.2]
end
theorem qkq {v:PV} (h:v.names=[]) (f:Nm→Option (Option Ob)):v.sub f=v:=by
 rw[PV.sub_congr (g:=fun _=>none) v (by rw[h];simp)]
 exact sub_id v
where
 sub_id:∀ (x:PV),x.sub (fun _=>none)=x
  | .undef | .bool _ | .int _ _ | .str _ | .nilS | .nilP | .nilF | .nilI | .nilM | .sl _ _ _ | .ptr _ _ | .yld _ | .imap _ | .glob _ _ | .ref _ _ | .aref _ _ _ _ | .arr _ _ _ _ | .mp _ | .it _=>by simp[PV.sub]
  | .agg cs=>by simp[PV.sub,subL_id cs]
  | .iface t x=>by simp[PV.sub,sub_id x]
  | .fn g cap=>by simp[PV.sub,subL_id cap]
  | .tup xs=>by simp[PV.sub,subL_id xs]
 subL_id:∀ (xs:List PV),qdy (fun _=>none) xs=xs
  | []=>rfl
  | x :: xs=>by simp[qdy,sub_id x,subL_id xs]
mutual
theorem qmd:∀ {v:PV},v.names=[]→∀ (f:Nm→Nm),v.ren f=v
 | .undef,_,_ | .bool _,_,_ | .int _ _,_,_ | .str _,_,_ | .nilS,_,_ | .nilP,_,_ | .nilF,_,_ | .nilI,_,_ | .nilM,_,_ | .sl _ _ _,_,_ | .ptr _ _,_,_ | .yld _,_,_ | .imap _,_,_ | .glob _ _,_,_=>by simp[PV.ren]
 | .agg cs,h,f=>by simp[PV.names] at h;simp[PV.ren,qm8 h f]
 | .iface t x,h,f=>by simp[PV.names] at h;simp[PV.ren,qmd h f]
 | .fn g cap,h,f=>by simp[PV.names] at h;simp[PV.ren,qm8 h f]
 | .tup xs,h,f=>by simp[PV.names] at h;simp[PV.ren,qm8 h f]
 | .ref _ _,h,_ | .aref _ _ _ _,h,_ | .arr _ _ _ _,h,_ | .mp _,h,_ | .it _,h,_=>by simp[PV.names] at h
theorem qm8:∀ {xs:List PV},qbd xs=[]→∀ (f:Nm→Nm),qf1 f xs=xs
 | [],_,_=>rfl
 | x :: xs,h,f=>by simp[qbd] at h;simp[qf1,qmd h.1 f,qm8 h.2 f]
end
mutual
def KV.ok:KV→Prop
 | .cv v=>okV v=true
 | .agg cs=>qfp cs
 | .iface _ x=>x.ok
 | .fn _ cap=>qfp cap
 | .tup xs=>qfp xs
 | .un | .sk | .lit _ | .nils | .yld _ | .ref _ _ | .aref _ _ _ _ | .arr _ _ _ _ | .mp _ | .it _ | .wit _=>True
def qfp:List KV→Prop
 | []=>True
 | x :: xs=>x.ok∧qfp xs
end
theorem qcq {xs:List KV}:qfp xs↔∀ x∈xs,x.ok:=by
 induction xs with
 | nil=>simp[qfp]
 | cons x xs ih=>simp[qfp,ih]
theorem qft (xs:List KV):pvL xs=xs.map KV.pv:=by
 induction xs with
 | nil=>rfl
 | cons x xs ih=>simp[pvL,ih]
mutual
theorem KV.pv_names:∀ {x:KV},x.ok→x.pv.names=x.names
 | .un,_ | .sk,_ | .lit _,_ | .nils,_ | .yld _,_ | .ref _ _,_ | .aref _ _ _ _,_ | .arr _ _ _ _,_ | .mp _,_ | .it _,_ | .wit _,_=>by simp[KV.pv,PV.names,KV.names,qbd]
 | .cv v,h=>by simp[KV.pv,KV.names,(qfk h).1]
 | .agg cs,h=>by simp[KV.pv,PV.names,KV.names,qdi h]
 | .iface t x,h=>by simp[KV.pv,PV.names,KV.names,KV.pv_names (x:=x) h]
 | .fn f cap,h=>by simp[KV.pv,PV.names,KV.names,qdi h]
 | .tup xs,h=>by simp[KV.pv,PV.names,KV.names,qdi h]
theorem qdi:∀ {xs:List KV},qfp xs→qbd (pvL xs)=qc9 xs
 | [],_=>rfl
 | x :: xs,h=>by simp[pvL,qbd,qc9,KV.pv_names h.1,qdi h.2]
end
mutual
theorem KV.pv_hasY:∀ {x:KV},x.ok→x.pv.hasY=x.hasY
 | .un,_ | .sk,_ | .lit _,_ | .nils,_ | .yld _,_ | .ref _ _,_ | .aref _ _ _ _,_ | .arr _ _ _ _,_ | .mp _,_ | .it _,_ | .wit _,_=>by simp[KV.pv,PV.hasY,KV.hasY,qcu]
 | .cv v,h=>by simp[KV.pv,KV.hasY,(qfk h).2]
 | .agg cs,h=>by simp[KV.pv,PV.hasY,KV.hasY,qme h]
 | .iface t x,h=>by simp[KV.pv,PV.hasY,KV.hasY,KV.pv_hasY (x:=x) h]
 | .fn f cap,h=>by simp[KV.pv,PV.hasY,KV.hasY,qme h]
 | .tup xs,h=>by simp[KV.pv,PV.hasY,KV.hasY,qme h]
theorem qme:∀ {xs:List KV},qfp xs→qcu (pvL xs)=qjh xs
 | [],_=>rfl
 | x :: xs,h=>by simp[pvL,qcu,qjh,KV.pv_hasY h.1,qme h.2]
end
mutual
theorem KV.cl_pv:∀ {x:KV} {v:PV},x.cl=some v→x.pv=v
 | .lit b,v,h=>by simp[KV.cl] at h;simp[KV.pv,h]
 | .nils,v,h=>by simp[KV.cl] at h;simp[KV.pv,h]
 | .cv u,v,h=>by simp[KV.cl] at h;simp[KV.pv,h]
 | .agg cs,v,h=>by
  simp only[KV.cl,Option.map_eq_some_iff] at h
  obtain⟨vs,hv,rfl⟩:=h
  simp[KV.pv,qt4 hv]
 | .iface t x,v,h=>by
  simp only[KV.cl,Option.map_eq_some_iff] at h
  obtain⟨u,hv,rfl⟩:=h
  simp[KV.pv,KV.cl_pv hv]
 | .fn f cap,v,h=>by
  simp only[KV.cl,Option.map_eq_some_iff] at h
  obtain⟨vs,hv,rfl⟩:=h
  simp[KV.pv,qt4 hv]
 | .un,v,h | .sk,v,h | .yld _,v,h | .ref _ _,v,h | .aref _ _ _ _,v,h | .arr _ _ _ _,v,h | .mp _,v,h | .it _,v,h | .wit _,v,h | .tup _,v,h=>by simp[KV.cl] at h
theorem qt4:∀ {xs:List KV} {vs:List PV},clL xs=some vs→pvL xs=vs
 | [],vs,h=>by simp[clL] at h;simp[pvL,h]
 | x :: xs,vs,h=>by
  simp only[clL] at h
  split at h
  ·rename_i v us h1 h2
   cases h
   simp[pvL,KV.cl_pv h1,qt4 h2]
  ·cases h
end
mutual
theorem KV.cl_ok:∀ {x:KV} {v:PV},x.ok→x.cl=some v→okV v=true
 | .lit b,v,_,h=>by simp[KV.cl] at h;subst h;rfl
 | .nils,v,_,h=>by simp[KV.cl] at h;subst h;rfl
 | .cv u,v,hx,h=>by simp[KV.cl] at h;subst h;exact hx
 | .agg cs,v,hx,h=>by
  simp only[KV.cl,Option.map_eq_some_iff] at h
  obtain⟨vs,hv,rfl⟩:=h
  simpa[okV] using qrx (xs:=cs) hx hv
 | .iface t x,v,hx,h=>by
  simp only[KV.cl,Option.map_eq_some_iff] at h
  obtain⟨u,hv,rfl⟩:=h
  simpa[okV] using KV.cl_ok (x:=x) hx hv
 | .fn f cap,v,hx,h=>by
  simp only[KV.cl,Option.map_eq_some_iff] at h
  obtain⟨vs,hv,rfl⟩:=h
  simpa[okV] using qrx (xs:=cap) hx hv
 | .un,v,_,h | .sk,v,_,h | .yld _,v,_,h | .ref _ _,v,_,h | .aref _ _ _ _,v,_,h | .arr _ _ _ _,v,_,h | .mp _,v,_,h | .it _,v,_,h | .wit _,v,_,h | .tup _,v,_,h=>by simp[KV.cl] at h
theorem qrx:∀ {xs:List KV} {vs:List PV},qfp xs→clL xs=some vs→qcy vs=true
 | [],vs,_,h=>by simp[clL] at h;subst h;rfl
 | x :: xs,vs,hx,h=>by
  simp only[clL] at h
  split at h
  ·rename_i v us h1 h2
   cases h
   simp[qcy,KV.cl_ok hx.1 h1,qrx hx.2 h2]
  ·cases h
end
def qpo (p:Nm→Bool):Nm→Option (Option Ob):=fun m=>if p m=true then some none else none
mutual
theorem KV.off_pv (p:Nm→Bool):∀ {x:KV},x.ok→(x.off p).pv=x.pv.sub (qpo p)
 | .un,_ | .sk,_ | .lit _,_ | .nils,_ | .yld _,_=>by simp[KV.off,KV.pv,PV.sub,qdy]
 | .cv v,h=>by simp[KV.off,KV.pv,qkq (qfk h).1]
 | .ref nm _,_ | .aref nm _ _ _,_ | .arr nm _ _ _,_ | .mp nm,_ | .it nm,_ | .wit nm,_=>by
  simp only[KV.off,KV.pv,PV.sub,qpo]
  cases hp:p nm<;>simp[KV.pv]
 | .agg cs,h=>by simp[KV.off,KV.pv,PV.sub,qwj p h]
 | .iface t x,h=>by simp[KV.off,KV.pv,PV.sub,KV.off_pv p (x:=x) h]
 | .fn f cap,h=>by simp[KV.off,KV.pv,PV.sub,qwj p h]
 | .tup xs,h=>by simp[KV.off,KV.pv,PV.sub,qwj p h]
theorem qwj (p:Nm→Bool):∀ {xs:List KV},qfp xs→pvL (offL p xs)=qdy (qpo p) (pvL xs)
 | [],_=>rfl
 | x :: xs,h=>by simp[offL,pvL,qdy,KV.off_pv p h.1,qwj p h.2]
end
mutual
theorem KV.off_ok (p:Nm→Bool):∀ {x:KV},x.ok→(x.off p).ok
 | .un,_ | .sk,_ | .lit _,_ | .nils,_ | .yld _,_=>by simp[KV.off,KV.ok]
 | .cv v,h=>by simpa[KV.off,KV.ok] using h
 | .ref nm _,_ | .aref nm _ _ _,_ | .arr nm _ _ _,_ | .mp nm,_ | .it nm,_ | .wit nm,_=>by
  simp only[KV.off]
  cases hp:p nm<;>simp[KV.ok]
 | .agg cs,h=>by simpa[KV.off,KV.ok] using qwk p h
 | .iface t x,h=>by simpa[KV.off,KV.ok] using KV.off_ok p (x:=x) h
 | .fn f cap,h=>by simpa[KV.off,KV.ok] using qwk p h
 | .tup xs,h=>by simpa[KV.off,KV.ok] using qwk p h
theorem qwk (p:Nm→Bool):∀ {xs:List KV},qfp xs→qfp (offL p xs)
 | [],_=>trivial
 | x :: xs,h=>⟨KV.off_ok p h.1,qwk p h.2⟩
end
mutual
theorem KV.ren_pv (f:Nm→Nm):∀ {x:KV},x.ok→(x.ren f).pv=x.pv.ren f
 | .un,_ | .sk,_ | .lit _,_ | .nils,_ | .yld _,_ | .ref _ _,_ | .aref _ _ _ _,_ | .arr _ _ _ _,_ | .mp _,_ | .it _,_ | .wit _,_=>by simp[KV.ren,KV.pv,PV.ren,qf1]
 | .cv v,h=>by simp[KV.ren,KV.pv,qmd (qfk h).1]
 | .agg cs,h=>by simp[KV.ren,KV.pv,PV.ren,qse f h]
 | .iface t x,h=>by simp[KV.ren,KV.pv,PV.ren,KV.ren_pv f (x:=x) h]
 | .fn g cap,h=>by simp[KV.ren,KV.pv,PV.ren,qse f h]
 | .tup xs,h=>by simp[KV.ren,KV.pv,PV.ren,qse f h]
theorem qse (f:Nm→Nm):∀ {xs:List KV},qfp xs→pvL (qnj f xs)=qf1 f (pvL xs)
 | [],_=>rfl
 | x :: xs,h=>by simp[qnj,pvL,qf1,KV.ren_pv f h.1,qse f h.2]
end
mutual
theorem KV.ren_ok (f:Nm→Nm):∀ {x:KV},x.ok→(x.ren f).ok
 | .un,_ | .sk,_ | .lit _,_ | .nils,_ | .yld _,_ | .ref _ _,_ | .aref _ _ _ _,_ | .arr _ _ _ _,_ | .mp _,_ | .it _,_ | .wit _,_=>by simp[KV.ren,KV.ok]
 | .cv v,h=>by simpa[KV.ren,KV.ok] using h
 | .agg cs,h=>by simpa[KV.ren,KV.ok] using qpd f h
 | .iface t x,h=>by simpa[KV.ren,KV.ok] using KV.ren_ok f (x:=x) h
 | .fn g cap,h=>by simpa[KV.ren,KV.ok] using qpd f h
 | .tup xs,h=>by simpa[KV.ren,KV.ok] using qpd f h
theorem qpd (f:Nm→Nm):∀ {xs:List KV},qfp xs→qfp (qnj f xs)
 | [],_=>trivial
 | x :: xs,h=>⟨KV.ren_ok f h.1,qpd f h.2⟩
end
def ql5 (g:Nm→Option Ob):Nm→Option (Option Ob):=fun m=>some (g m)
mutual
theorem KV.close_pv (g:Nm→Option Ob):∀ {x:KV},x.ok→x.close g=x.pv.sub (ql5 g)
 | .un,_ | .sk,_ | .lit _,_ | .nils,_ | .yld _,_=>by simp[KV.close,KV.pv,PV.sub,qdy]
 | .cv v,h=>by simp[KV.close,KV.pv,qkq (qfk h).1]
 | .ref nm o,_=>by
  simp only[KV.close,KV.pv,PV.sub,ql5]
  cases g nm with
  | none=>rfl
  | some ob=>cases ob<;>simp[ptrO]
 | .aref nm k i o,_=>by
  simp only[KV.close,KV.pv,PV.sub,ql5]
  cases g nm with
  | none=>rfl
  | some ob =>
   cases ob with
   | arr k' kt xs =>
    simp only[arefO]
    by_cases hk:k=k'
    ·simp only[hk,if_true];cases xs[i]?<;>rfl
    ·simp[hk]
   | _=>rfl
 | .arr nm k o n,_=>by
  simp only[KV.close,KV.pv,PV.sub,ql5]
  cases g nm with
  | none=>rfl
  | some ob=>cases ob<;>simp[slO]
 | .mp nm,_=>by
  simp only[KV.close,KV.pv,PV.sub,ql5]
  cases g nm with
  | none=>rfl
  | some ob=>cases ob<;>rfl
 | .it nm,_=>by simp[KV.close,KV.pv,PV.sub,ql5]
 | .wit nm,_=>by
  simp only[KV.close,KV.pv,PV.sub,ql5]
  cases g nm with
  | none=>rfl
  | some ob=>cases ob<;>simp[slO]
 | .agg cs,h=>by simp[KV.close,KV.pv,PV.sub,ql1 g h]
 | .iface t x,h=>by simp[KV.close,KV.pv,PV.sub,KV.close_pv g (x:=x) h]
 | .fn f cap,h=>by simp[KV.close,KV.pv,PV.sub,ql1 g h]
 | .tup xs,h=>by simp[KV.close,KV.pv,PV.sub,ql1 g h]
theorem ql1 (g:Nm→Option Ob):∀ {xs:List KV},qfp xs→qkb g xs=qdy (ql5 g) (pvL xs)
 | [],_=>rfl
 | x :: xs,h=>by simp[qkb,pvL,qdy,KV.close_pv g h.1,ql1 g h.2]
end
def qgi (p:Nm→Bool) (g:Nm→Option Ob):Nm→Option (Option Ob):=fun m=>if p m=true then some (g m) else none
mutual
theorem KV.frz_pv (p:Nm→Bool) (g:Nm→Option Ob):∀ {x:KV},x.ok→(x.frz p g).pv=x.pv.sub (qgi p g)
 | .un,_ | .sk,_ | .lit _,_ | .nils,_ | .yld _,_=>by simp[KV.frz,KV.pv,PV.sub,qdy]
 | .cv v,h=>by simp[KV.frz,KV.pv,qkq (qfk h).1]
 | .ref nm o,_=>by
  cases hp:p nm with
  | false=>simp[KV.frz,hp,KV.pv,PV.sub,qgi]
  | true =>
   have:=KV.close_pv g (x:=.ref nm o) trivial
   simp only[KV.frz,hp,if_true,KV.pv];rw[this];simp[KV.pv,PV.sub,qgi,ql5,hp]
 | .aref nm k i o,_=>by
  cases hp:p nm with
  | false=>simp[KV.frz,hp,KV.pv,PV.sub,qgi]
  | true =>
   have:=KV.close_pv g (x:=.aref nm k i o) trivial
   simp only[KV.frz,hp,if_true,KV.pv];rw[this];simp[KV.pv,PV.sub,qgi,ql5,hp]
 | .arr nm k o n,_=>by
  cases hp:p nm with
  | false=>simp[KV.frz,hp,KV.pv,PV.sub,qgi]
  | true =>
   have:=KV.close_pv g (x:=.arr nm k o n) trivial
   simp only[KV.frz,hp,if_true,KV.pv];rw[this];simp[KV.pv,PV.sub,qgi,ql5,hp]
 | .mp nm,_=>by
  cases hp:p nm with
  | false=>simp[KV.frz,hp,KV.pv,PV.sub,qgi]
  | true =>
   have:=KV.close_pv g (x:=.mp nm) trivial
   simp only[KV.frz,hp,if_true,KV.pv];rw[this];simp[KV.pv,PV.sub,qgi,ql5,hp]
 | .it nm,_=>by
  cases hp:p nm with
  | false=>simp[KV.frz,hp,KV.pv,PV.sub,qgi]
  | true=>simp[KV.frz,hp,KV.pv,PV.sub,qgi]
 | .wit nm,_=>by
  cases hp:p nm with
  | false=>simp[KV.frz,hp,KV.pv,PV.sub,qgi]
  | true =>
   have:=KV.close_pv g (x:=.wit nm) trivial
   simp only[KV.frz,hp,if_true,KV.pv];rw[this];simp[KV.pv,PV.sub,qgi,ql5,hp]
 | .agg cs,h=>by simp[KV.frz,KV.pv,PV.sub,qw7 p g h]
 | .iface t x,h=>by simp[KV.frz,KV.pv,PV.sub,KV.frz_pv p g (x:=x) h]
 | .fn f cap,h=>by simp[KV.frz,KV.pv,PV.sub,qw7 p g h]
 | .tup xs,h=>by simp[KV.frz,KV.pv,PV.sub,qw7 p g h]
theorem qw7 (p:Nm→Bool) (g:Nm→Option Ob):∀ {xs:List KV},qfp xs→pvL (frzL p g xs)=qdy (qgi p g) (pvL xs)
 | [],_=>rfl
 | x :: xs,h=>by simp[frzL,pvL,qdy,KV.frz_pv p g h.1,qw7 p g h.2]
end
def Ob.shut (o:Ob):Prop :=
 match o with
 | .cells _ cs=>qcy cs=true
 | .arr _ _ xs=>qcy xs=true
 | .map es=>qcy es=true
 | .siter _ _=>True
theorem qcb {v:PV} (h:okV v=true):qcy v.cells=true:=by
 cases v<;>simp_all [PV.cells,qcy,okV]
theorem Qb8 {xs ys:List PV} (h:qcy xs=true) (hs:∀ y∈ys,y∈xs):qcy ys=true:=qdm.2 fun y hy=>qdm.1 h y (hs y hy)
theorem qfu {xs:List PV} (h:qcy xs=true) (n:Nat):qcy (xs.take n)=true:=Qb8 h fun _ hy=>List.mem_of_mem_take hy
theorem qgw {xs:List PV} (h:qcy xs=true) (n:Nat):qcy (xs.drop n)=true:=Qb8 h fun _ hy=>List.mem_of_mem_drop hy
theorem qd0 {xs ys:List PV} (h:qcy xs=true) (h':qcy ys=true):qcy (xs++ys)=true :=
 qdm.2 fun y hy=>(List.mem_append.1 hy).elim (qdm.1 h y) (qdm.1 h' y)
theorem qhs {xs:List PV} (h:qcy xs=true) {i:Nat} {x:PV} (hx:xs[i]?=some x):okV x=true:=qdm.1 h x (List.mem_of_getElem? hx)
theorem Qle {xs:List PV} (h:qcy xs=true) (i:Nat) {x:PV} (hx:okV x=true):qcy (xs.set i x)=true :=
 qdm.2 fun y hy=>(List.mem_or_eq_of_mem_set hy).elim (qdm.1 h y) fun e=>e ▸ hx
mutual
theorem KV.close_ok {g:Nm→Option Ob} (hg:∀ nm ob,g nm=some ob→ob.shut):∀ {x:KV},x.ok→x.hasY=false→okV (x.close g)=true
 | .un,_,_ | .sk,_,_ | .lit _,_,_ | .nils,_,_=>by simp[KV.close,okV,qcy]
 | .yld _,_,h=>by simp[KV.hasY] at h
 | .cv v,h,_=>by have:okV v=true:=h;simpa[KV.close] using this
 | .ref nm o,_,_=>by
  simp only[KV.close]
  cases hn:g nm with
  | none=>rfl
  | some ob =>
   cases ob with
   | cells ty cs =>
    have:qcy cs=true:=hg _ _ hn
    simp only[ptrO]
    split
    ·simpa[okV] using this
    ·rfl
   | _=>rfl
 | .aref nm k i o,_,_=>by
  simp only[KV.close]
  cases hn:g nm with
  | none=>rfl
  | some ob =>
   cases ob with
   | arr k' kt xs =>
    have:qcy xs=true:=hg _ _ hn
    simp only[arefO]
    split
    ·split
     ·rename_i x hx
      split
      ·simpa[okV] using qcb (qhs this hx)
      ·rfl
     ·rfl
    ·rfl
   | _=>rfl
 | .arr nm k o n,_,_=>by
  simp only[KV.close]
  cases hn:g nm with
  | none=>rfl
  | some ob =>
   cases ob with
   | arr k' kt xs =>
    have:qcy xs=true:=hg _ _ hn
    simp only[slO]
    split
    ·simpa[okV] using qfu (qgw this o) n
    ·rfl
   | _=>rfl
 | .mp nm,_,_=>by
  simp only[KV.close]
  cases hn:g nm with
  | none=>rfl
  | some ob =>
   cases ob with
   | map es =>
    have:qcy es=true:=hg _ _ hn
    simpa[okV] using this
   | _=>rfl
 | .it nm,_,_=>by simp[KV.close,okV,PV.names,PV.hasY]
 | .wit nm,_,_=>by
  simp only[KV.close]
  cases hn:g nm with
  | none=>rfl
  | some ob =>
   cases ob with
   | arr k' kt xs =>
    have:qcy xs=true:=hg _ _ hn
    simp only[slO]
    split
    ·simpa[okV] using qfu (qgw this 0) 0
    ·rfl
   | _=>rfl
 | .agg cs,h,hy=>by simpa[KV.close,okV] using qh7 hg (xs:=cs) h (by simpa[KV.hasY] using hy)
 | .iface t x,h,hy=>by simpa[KV.close,okV] using KV.close_ok hg (x:=x) h (by simpa[KV.hasY] using hy)
 | .fn f cap,h,hy=>by simpa[KV.close,okV] using qh7 hg (xs:=cap) h (by simpa[KV.hasY] using hy)
 | .tup xs,h,hy=>by simpa[KV.close,okV] using qh7 hg (xs:=xs) h (by simpa[KV.hasY] using hy)
theorem qh7 {g:Nm→Option Ob} (hg:∀ nm ob,g nm=some ob→ob.shut):∀ {xs:List KV},qfp xs→qjh xs=false→qcy (qkb g xs)=true
 | [],_,_=>rfl
 | x :: xs,h,hy=>by
  simp only[qjh,Bool.or_eq_false_iff] at hy
  simp[qkb,qcy,KV.close_ok hg h.1 hy.1,qh7 hg h.2 hy.2]
end
mutual
theorem KV.frz_ok {p:Nm→Bool} {g:Nm→Option Ob} (hg:∀ nm ob,g nm=some ob→ob.shut):∀ {x:KV},x.ok→(x.frz p g).ok
 | .un,_ | .sk,_ | .lit _,_ | .nils,_ | .yld _,_=>by simp[KV.frz,KV.ok]
 | .cv v,h=>by simpa[KV.frz,KV.ok] using h
 | .ref nm o,_=>by
  simp only[KV.frz];split
  ·exact KV.close_ok hg (x:=.ref nm o) trivial rfl
  ·trivial
 | .aref nm k i o,_=>by
  simp only[KV.frz];split
  ·exact KV.close_ok hg (x:=.aref nm k i o) trivial rfl
  ·trivial
 | .arr nm k o n,_=>by
  simp only[KV.frz];split
  ·exact KV.close_ok hg (x:=.arr nm k o n) trivial rfl
  ·trivial
 | .mp nm,_=>by
  simp only[KV.frz];split
  ·exact KV.close_ok hg (x:=.mp nm) trivial rfl
  ·trivial
 | .it nm,_=>by
  simp only[KV.frz];split<;>trivial
 | .wit nm,_=>by
  simp only[KV.frz];split
  ·exact KV.close_ok hg (x:=.wit nm) trivial rfl
  ·trivial
 | .agg cs,h=>by simpa[KV.frz,KV.ok] using qw8 hg h
 | .iface t x,h=>by simpa[KV.frz,KV.ok] using KV.frz_ok hg (x:=x) h
 | .fn f cap,h=>by simpa[KV.frz,KV.ok] using qw8 hg h
 | .tup xs,h=>by simpa[KV.frz,KV.ok] using qw8 hg h
theorem qw8 {p:Nm→Bool} {g:Nm→Option Ob} (hg:∀ nm ob,g nm=some ob→ob.shut):∀ {xs:List KV},qfp xs→qfp (frzL p g xs)
 | [],_=>trivial
 | x :: xs,h=>⟨KV.frz_ok hg h.1,qw8 hg h.2⟩
end
end Go.Ab


namespace Go.Ab
theorem qcg {i j:Nat} (h:Nat.beq i j=true):i=j:=Nat.eq_of_beq_eq_true h
theorem qd9 {i j:Nat} (h:Nat.beq i j=false):i≠j:=Nat.ne_of_beq_eq_false h
theorem qvz (i:Nat) (v:KV):∀ (l:Sp) (j:Nat),qb7 (qhv i v l) j=if j=i then v else qb7 l j:=by
 intro l
 induction l with
 | nil =>
  intro j
  simp only[qhv,qb7]
  cases h:Nat.beq j i with
  | true=>simp[qcg h]
  | false=>simp[qd9 h]
 | cons p l ih =>
  obtain⟨k,u⟩:=p
  intro j
  simp only[qhv]
  cases h:Nat.beq i k with
  | true =>
   have:=qcg h;subst this
   simp only[qb7]
   cases h2:Nat.beq j i with
   | true=>simp[qcg h2]
   | false=>simp[qd9 h2]
  | false =>
   cases h3:Nat.blt i k with
   | true =>
    simp only[qb7]
    cases h2:Nat.beq j i with
    | true=>simp[qcg h2]
    | false=>simp[qd9 h2]
   | false =>
    simp only[qb7]
    cases h2:Nat.beq j k with
    | true =>
     have h4:=qcg h2;have h5:=qd9 h
     subst h4
     simp[Ne.symm h5]
    | false=>exact ih j
theorem spGet_out (i:Nat):∀ (l:Sp) (j:Nat),qb7 (Qdz i l) j=if j=i then .un else qb7 l j:=by
 intro l
 induction l with
 | nil=>intro j;simp[Qdz,qb7]
 | cons p l ih =>
  obtain⟨k,u⟩:=p
  intro j
  simp only[Qdz]
  cases h:Nat.beq i k with
  | true =>
   have:=qcg h;subst this
   simp only[qb7]
   rw[ih j]
   cases h2:Nat.beq j i with
   | true=>simp[qcg h2]
   | false=>simp[qd9 h2]
  | false =>
   simp only[qb7]
   cases h2:Nat.beq j k with
   | true =>
    have h4:=qcg h2;have h5:=qd9 h
    subst h4
    simp[Ne.symm h5]
   | false=>exact ih j
theorem spGet_set (i:Nat) (v:KV) (l:Sp) (j:Nat):qb7 (spSet i v l) j=if j=i then v else qb7 l j:=by
 unfold spSet
 split
 ·exact spGet_out i l j
 ·exact qvz i v l j
theorem spGet_keep (p:Nat→Bool):∀ (l:Sp) (j:Nat),qb7 (qju p l) j=if p j=true then qb7 l j else .un:=by
 intro l
 induction l with
 | nil=>intro j;simp[qju,qb7]
 | cons q l ih =>
  obtain⟨k,u⟩:=q
  intro j
  simp only[qju]
  cases hp:p k with
  | true =>
   simp only[qb7]
   cases h2:Nat.beq j k with
   | true=>have:=qcg h2;subst this;simp[hp]
   | false=>exact ih j
  | false =>
   simp only[qb7]
   rw[ih j]
   cases h2:Nat.beq j k with
   | true=>have:=qcg h2;subst this;simp[hp]
   | false=>rfl
def qqd:KV→Bool
 | .un=>true
 | _=>false
structure qkk (nt:Nat) (l:Sp):Prop where
 srt:(l.map (·.1)).Pairwise (· < ·)
 lt:∀ p∈l,p.1 < nt
 ok:∀ p∈l,p.2.ok
 nu:∀ p∈l,qqd p.2=false
theorem qkk.nil (nt:Nat):qkk nt []:=⟨.nil,by simp,by simp,by simp⟩
theorem qkk.tail {nt:Nat} {p:Nat×KV} {l:Sp} (h:qkk nt (p :: l)):qkk nt l :=
 ⟨(List.pairwise_cons.1 h.srt).2,fun q hq=>h.lt q (by simp[hq]),fun q hq=>h.ok q (by simp[hq]),fun q hq=>h.nu q (by simp[hq])⟩
theorem qv0 {l:Sp} {i:Nat} (h:∀ p∈l,p.1≠i):qb7 l i=.un:=by
 induction l with
 | nil=>rfl
 | cons p l ih =>
  obtain⟨k,u⟩:=p
  simp only[qb7]
  cases h2:Nat.beq i k with
  | true=>exact absurd (qcg h2).symm (h (k,u) (by simp))
  | false=>exact ih fun q hq=>h q (by simp[hq])
theorem qkk.get_mem {nt:Nat} {l:Sp} (h:qkk nt l) {p:Nat×KV} (hp:p∈l):qb7 l p.1=p.2:=by
 induction l with
 | nil=>cases hp
 | cons q l ih =>
  obtain⟨k,u⟩:=q
  simp only[qb7]
  rcases List.mem_cons.1 hp with rfl | hp'
  ·simp
  ·have h1:=(List.pairwise_cons.1 h.srt).1 p.1 (List.mem_map.2 ⟨p,hp',rfl⟩)
   simp only at h1
   cases h2:Nat.beq p.1 k with
   | true=>have:=qcg h2;omega
   | false=>exact ih h.tail hp'
theorem qm1 {l:Sp} {i:Nat} (h:qb7 l i≠.un):(i,qb7 l i)∈l:=by
 induction l with
 | nil=>exact absurd rfl h
 | cons p l ih =>
  obtain⟨k,u⟩:=p
  simp only[qb7] at h ⊢
  cases h2:Nat.beq i k with
  | true=>have:=qcg h2;subst this;simp
  | false=>rw[h2] at h;simp only at h ⊢;exact List.mem_cons_of_mem _ (ih h)
theorem Qkw (x:KV):x=.un∨x≠.un:=by cases x<;>simp
theorem qkk.get_ok {nt:Nat} {l:Sp} (h:qkk nt l) (i:Nat):(qb7 l i).ok:=by
 rcases Qkw (qb7 l i) with h1 | h1
 ·rw[h1];trivial
 ·exact h.ok _ (qm1 h1)
theorem qkk.get_ge {nt:Nat} {l:Sp} (h:qkk nt l) {i:Nat} (hi:nt≤i):qb7 l i=.un:=by
 rcases Qkw (qb7 l i) with h1 | h1
 ·exact h1
 ·have:=h.lt _ (qm1 h1);simp only at this;omega
theorem qqp {i:Nat} {v:KV}:∀ {l:Sp} {p:Nat×KV},p∈qhv i v l→p=(i,v)∨p∈l:=by
 intro l
 induction l with
 | nil=>intro p hp;simp[qhv] at hp;exact .inl hp
 | cons q l ih =>
  obtain⟨k,u⟩:=q
  intro p hp
  simp only[qhv] at hp
  cases h:Nat.beq i k with
  | true =>
   rw[h] at hp;simp only[List.mem_cons] at hp ⊢
   rcases hp with rfl | hp
   ·exact .inl rfl
   ·exact .inr (.inr hp)
  | false =>
   rw[h] at hp
   cases h3:Nat.blt i k with
   | true =>
    rw[h3] at hp;simp only[List.mem_cons] at hp ⊢
    rcases hp with rfl | hp | hp
    ·exact .inl rfl
    ·exact .inr (.inl hp)
    ·exact .inr (.inr hp)
   | false =>
    rw[h3] at hp;simp only[List.mem_cons] at hp ⊢
    rcases hp with rfl | hp
    ·exact .inr (.inl rfl)
    ·exact (ih hp).imp id .inr
theorem spPut_srt {i:Nat} {v:KV}:∀ {l:Sp},(l.map (·.1)).Pairwise (· < ·)→((qhv i v l).map (·.1)).Pairwise (· < ·):=by
 intro l
 induction l with
 | nil=>intro _;simp[qhv]
 | cons q l ih =>
  obtain⟨k,u⟩:=q
  intro h
  have h1:=List.pairwise_cons.1 h
  simp only[qhv]
  cases h2:Nat.beq i k with
  | true =>
   have:=qcg h2;subst this
   exact List.pairwise_cons.2 ⟨h1.1,h1.2⟩
  | false =>
   cases h3:Nat.blt i k with
   | true =>
    have h4:i < k:=by simpa[Nat.blt_eq] using h3
    refine List.pairwise_cons.2 ⟨fun a ha=>?_,h⟩
    simp only[List.map_cons,List.mem_cons] at ha
    rcases ha with rfl | ha
    ·exact h4
    ·exact Nat.lt_trans h4 (h1.1 a ha)
   | false =>
    have h5:=qd9 h2
    have h4:¬ i < k:=by intro h6;rw[show Nat.blt i k=true by simpa[Nat.blt_eq] using h6] at h3;cases h3
    refine List.pairwise_cons.2 ⟨fun a ha=>?_,ih h1.2⟩
    obtain⟨p,hp,rfl⟩:=List.mem_map.1 ha
    rcases qqp hp with rfl | hp
    ·simp only;omega
    ·exact h1.1 _ (List.mem_map.2 ⟨p,hp,rfl⟩)
theorem qkk.put {nt:Nat} {l:Sp} (h:qkk nt l) {i:Nat} (hi:i < nt) {v:KV} (hv:v.ok) (hu:qqd v=false):qkk nt (qhv i v l) where
 srt:=spPut_srt h.srt
 lt p hp:=(qqp hp).elim (fun e=>by rw[e];exact hi) (h.lt p)
 ok p hp:=(qqp hp).elim (fun e=>by rw[e];exact hv) (h.ok p)
 nu p hp:=(qqp hp).elim (fun e=>by rw[e];exact hu) (h.nu p)
theorem spOut_sub (i:Nat):∀ (l:Sp),(Qdz i l).Sublist l:=by
 intro l
 induction l with
 | nil=>exact .slnil
 | cons q l ih =>
  obtain⟨k,u⟩:=q
  simp only[Qdz]
  cases Nat.beq i k with
  | true=>exact .cons _ ih
  | false=>exact .cons_cons _ ih
theorem spKeep_sub (p:Nat→Bool):∀ (l:Sp),(qju p l).Sublist l:=by
 intro l
 induction l with
 | nil=>exact .slnil
 | cons q l ih =>
  obtain⟨k,u⟩:=q
  simp only[qju]
  cases p k with
  | true=>exact .cons_cons _ ih
  | false=>exact .cons _ ih
theorem qkk.sub {nt:Nat} {l l':Sp} (h:qkk nt l) (hs:l'.Sublist l):qkk nt l' :=
 ⟨h.srt.sublist (hs.map _),fun p hp=>h.lt p (hs.subset hp),fun p hp=>h.ok p (hs.subset hp),fun p hp=>h.nu p (hs.subset hp)⟩
theorem qkk.set {nt:Nat} {l:Sp} (h:qkk nt l) {i:Nat} (hi:i < nt) {v:KV} (hv:v.ok):qkk nt (spSet i v l):=by
 unfold spSet
 split
 ·exact h.sub (spOut_sub i l)
 ·rename_i hu
  refine h.put hi hv ?_
  cases v<;>simp_all [qqd]
theorem spMap_keys (f:KV→KV):∀ (l:Sp),((qkl f l).map (·.1)).Sublist (l.map (·.1)):=by
 intro l
 induction l with
 | nil=>exact .slnil
 | cons q l ih =>
  obtain⟨k,u⟩:=q
  simp only[qkl]
  split
  ·exact .cons _ ih
  ·exact .cons_cons _ ih
theorem qqq {f:KV→KV}:∀ {l:Sp} {p:Nat×KV},p∈qkl f l→∃ q∈l,p=(q.1,f q.2)∧qqd p.2=false:=by
 intro l
 induction l with
 | nil=>intro p hp;cases hp
 | cons q l ih =>
  obtain⟨k,u⟩:=q
  intro p hp
  simp only[qkl] at hp
  split at hp
  ·obtain⟨q,hq,h⟩:=ih hp;exact⟨q,by simp[hq],h⟩
  ·rename_i hne
   rcases List.mem_cons.1 hp with rfl | hp
   ·exact⟨(k,u),by simp,rfl,by cases hf:f u<;>simp_all [qqd]⟩
   ·obtain⟨q,hq,h⟩:=ih hp;exact⟨q,by simp[hq],h⟩
theorem qkk.map {nt:Nat} {l:Sp} (h:qkk nt l) {f:KV→KV} (hf:∀ x:KV,x.ok→(f x).ok):qkk nt (qkl f l) where
 srt:=h.srt.sublist (spMap_keys f l)
 lt p hp:=by obtain⟨q,hq,rfl,_⟩:=qqq hp;exact h.lt q hq
 ok p hp:=by obtain⟨q,hq,rfl,_⟩:=qqq hp;exact hf _ (h.ok q hq)
 nu p hp:=by obtain⟨q,hq,_,h⟩:=qqq hp;exact h
theorem Qd1 {nt:Nat} {f:KV→KV} (hf:f .un=.un):∀ {l:Sp} (_:qkk nt l) (i:Nat),qb7 (qkl f l) i=f (qb7 l i):=by
 intro l
 induction l with
 | nil=>intro _ i;simp[qkl,qb7,hf]
 | cons q l ih =>
  obtain⟨k,u⟩:=q
  intro h i
  have h1:=List.pairwise_cons.1 h.srt
  simp only[qkl,qb7]
  split
  ·rename_i hu
   cases h2:Nat.beq i k with
   | true =>
    have:=qcg h2;subst this
    simp only
    rw[hu]
    refine qv0 fun p hp=>?_
    obtain⟨q,hq,rfl,_⟩:=qqq hp
    have:=h1.1 q.1 (List.mem_map.2 ⟨q,hq,rfl⟩)
    simp only at this ⊢;omega
   | false=>exact ih h.tail i
  ·simp only[qb7]
   cases h2:Nat.beq i k with
   | true=>rfl
   | false=>exact ih h.tail i
theorem spHas_iff {l:Sp} {i:Nat}:qqr l i=true↔∃ p∈l,p.1=i:=by
 induction l with
 | nil=>simp[qqr]
 | cons q l ih =>
  obtain⟨k,u⟩:=q
  simp only[qqr]
  cases h2:Nat.beq i k with
  | true=>simp[qcg h2]
  | false=>simp[ih,Ne.symm (qd9 h2)]
theorem Qhy {l:Sp} {nm:Nm}:nm∈qf5 l↔∃ p∈l,nm∈p.2.names:=by
 induction l with
 | nil=>simp[qf5]
 | cons q l ih=>obtain⟨k,u⟩:=q;simp[qf5,ih]
theorem qkk.has_iff {nt:Nat} {l:Sp} (h:qkk nt l) (i:Nat):qqr l i=true↔qb7 l i≠.un:=by
 rw[spHas_iff]
 constructor
 ·rintro ⟨p,hp,rfl⟩ hu
  rw[h.get_mem hp] at hu
  have:=h.nu p hp
  rw[hu] at this;cases this
 ·intro hu;exact⟨_,qm1 hu,rfl⟩
theorem dense_get? (nt:Nat) (l:Sp) (i:Nat):(qc7 nt l)[i]?=if i < nt then some (qb7 l i).pv else none:=by
 unfold qc7
 rw[List.getElem?_map]
 split
 ·rename_i h;rw[List.getElem?_range h];rfl
 ·rename_i h;rw[List.getElem?_eq_none (by simpa using h)];rfl
theorem qbu (nt:Nat) (l:Sp):(qc7 nt l).length=nt:=by simp[qc7]
theorem qhk {nt:Nat} {l:Sp} (h:qkk nt l) (i:Nat):(qc7 nt l).getD i .undef=(qb7 l i).pv:=by
 rw[List.getD_eq_getElem?_getD,dense_get?]
 split
 ·rfl
 ·rename_i hi;rw[h.get_ge (by omega)];rfl
theorem qj6 {nt:Nat} {l:Sp} {xs:List PV} (hl:xs.length=nt) (h:∀ i,i < nt→xs[i]?=some (qb7 l i).pv):qc7 nt l=xs:=by
 apply List.ext_getElem?
 intro i
 rw[dense_get?]
 split
 ·rename_i hi;exact (h i hi).symm
 ·rename_i hi;rw[List.getElem?_eq_none (by omega)]
theorem Qg0 {nt:Nat} {l:Sp} (d:Nat) (v:KV):qc7 nt (spSet d v l)=(qc7 nt l).set d v.pv:=by
 refine qj6 (by simp[qbu]) fun i hi=>?_
 rw[List.getElem?_set,qbu,dense_get?,spGet_set]
 by_cases h:d=i
 ·subst h;simp[hi]
 ·simp[h,Ne.symm h,hi]
theorem qrs {nt:Nat} {l:Sp} (d:Nat) (v:KV):qc7 nt (qhv d v l)=(qc7 nt l).set d v.pv:=by
 refine qj6 (by simp[qbu]) fun i hi=>?_
 rw[List.getElem?_set,qbu,dense_get?,qvz]
 by_cases h:d=i
 ·subst h;simp[hi]
 ·simp[h,Ne.symm h,hi]
theorem qrt {nt:Nat} {l:Sp} (h:qkk nt l) {f:KV→KV} {g:Nm→Option (Option Ob)} (hu:f .un=.un) (hf:∀ x:KV,x.ok→(f x).pv=x.pv.sub g) :
  qc7 nt (qkl f l)=qdy g (qc7 nt l):=by
 refine qj6 (by rw[ql4,qbu]) fun i hi=>?_
 rw[subL_getElem?,dense_get?,Qd1 hu h,if_pos hi,hf _ (h.get_ok i)]
 rfl
theorem Qh8 (f:Nm→Nm) (xs:List PV):(qf1 f xs).length=xs.length:=by
 induction xs with
 | nil=>rfl
 | cons x xs ih=>simp[qf1,ih]
theorem renL_getElem? (f:Nm→Nm) (xs:List PV) (i:Nat):(qf1 f xs)[i]?=(xs[i]?).map (PV.ren f):=by
 induction xs generalizing i with
 | nil=>rfl
 | cons x xs ih=>cases i<;>simp[qf1,ih]
theorem qrr {nt:Nat} {l:Sp} (h:qkk nt l) (f:Nm→Nm):qc7 nt (qkl (KV.ren f) l)=qf1 f (qc7 nt l):=by
 refine qj6 (by rw[Qh8,qbu]) fun i hi=>?_
 rw[renL_getElem?,dense_get?,Qd1 (by simp[KV.ren]) h,if_pos hi,KV.ren_pv f (h.get_ok i)]
 rfl
theorem qmq {nt:Nat} {l:Sp} (h:qkk nt l) (nm:Nm):nm∈qbd (qc7 nt l)↔nm∈qf5 l:=by
 have hm:∀ (xs:List PV),nm∈qbd xs↔∃ x∈xs,nm∈x.names:=by
  intro xs
  induction xs with
  | nil=>simp[qbd]
  | cons x xs ih=>simp[qbd,ih]
 rw[hm,Qhy]
 constructor
 ·rintro ⟨x,hx,hn⟩
  obtain⟨i,hi⟩:=List.getElem?_of_mem hx
  rw[dense_get?] at hi
  split at hi
  ·cases hi
   rw[KV.pv_names (h.get_ok i)] at hn
   have hne:qb7 l i≠.un:=by intro hu;rw[hu] at hn;simp[KV.names] at hn
   exact⟨_,qm1 hne,hn⟩
  ·cases hi
 ·rintro ⟨p,hp,hn⟩
  have:=h.get_mem hp
  refine⟨p.2.pv,List.mem_of_getElem? (i:=p.1) ?_,?_⟩
  ·rw[dense_get?,if_pos (h.lt p hp),this]
  ·rw[KV.pv_names (h.ok p hp)];exact hn
def KOb.ok:KOb→Prop
 | .cells _ cs=>qfp cs
 | .whole _ v=>okV v=true
 | .arr _ _ xs=>qcy xs=true
 | .map es=>qcy es=true
 | .siter _ _=>True
structure qjq (nt:Nat) (l:SpO):Prop where
 srt:(l.map (·.1)).Pairwise (· < ·)
 lt:∀ p∈l,p.1 < nt
 ok:∀ p∈l,∀ o∈p.2,o.ok
theorem qjq.nil (nt:Nat):qjq nt []:=⟨.nil,by simp,by simp⟩
theorem qjq.tail {nt:Nat} {p:Nat×List KOb} {l:SpO} (h:qjq nt (p :: l)):qjq nt l :=
 ⟨(List.pairwise_cons.1 h.srt).2,fun q hq=>h.lt q (by simp[hq]),fun q hq=>h.ok q (by simp[hq])⟩
theorem KOb.ob_names {o:KOb} (h:o.ok):o.ob.names=o.names:=by
 cases o with
 | cells ty cs=>exact qdi h
 | whole ty v=>exact (qbx (qcb h)).1
 | _=>rfl
theorem soGet_put (i:Nat) (v:List KOb):∀ (l:SpO) (j:Nat),qch (ql7 i v l) j=if j=i then v else qch l j:=by
 intro l
 induction l with
 | nil =>
  intro j
  simp only[ql7,qch]
  cases h:Nat.beq j i with
  | true=>simp[qcg h]
  | false=>simp[qd9 h]
 | cons p l ih =>
  obtain⟨k,u⟩:=p
  intro j
  simp only[ql7]
  cases h:Nat.beq i k with
  | true =>
   have:=qcg h;subst this
   simp only[qch]
   cases h2:Nat.beq j i with
   | true=>simp[qcg h2]
   | false=>simp[qd9 h2]
  | false =>
   cases h3:Nat.blt i k with
   | true =>
    simp only[qch]
    cases h2:Nat.beq j i with
    | true=>simp[qcg h2]
    | false=>simp[qd9 h2]
   | false =>
    simp only[qch]
    cases h2:Nat.beq j k with
    | true =>
     have h4:=qcg h2;have h5:=qd9 h
     subst h4
     simp[Ne.symm h5]
    | false=>exact ih j
theorem soGet_keep (p:Nat→Bool):∀ (l:SpO) (j:Nat),qch (qth p l) j=if p j=true then qch l j else []:=by
 intro l
 induction l with
 | nil=>intro j;simp[qth,qch]
 | cons q l ih =>
  obtain⟨k,u⟩:=q
  intro j
  simp only[qth]
  cases hp:p k with
  | true =>
   simp only[qch]
   cases h2:Nat.beq j k with
   | true=>have:=qcg h2;subst this;simp[hp]
   | false=>exact ih j
  | false =>
   simp only[qch]
   rw[ih j]
   cases h2:Nat.beq j k with
   | true=>have:=qcg h2;subst this;simp[hp]
   | false=>rfl
theorem soGet_map (f:KOb→KOb):∀ (l:SpO) (j:Nat),qch (qm3 f l) j=(qch l j).map f:=by
 intro l
 induction l with
 | nil=>intro j;simp[qm3,qch]
 | cons q l ih =>
  obtain⟨k,u⟩:=q
  intro j
  simp only[qm3,qch]
  cases h2:Nat.beq j k with
  | true=>rfl
  | false=>exact ih j
theorem qlc {l:SpO} {i:Nat} (h:qch l i≠[]):(i,qch l i)∈l:=by
 induction l with
 | nil=>exact absurd rfl h
 | cons p l ih =>
  obtain⟨k,u⟩:=p
  simp only[qch] at h ⊢
  cases h2:Nat.beq i k with
  | true=>have:=qcg h2;subst this;simp
  | false=>rw[h2] at h;simp only at h ⊢;exact List.mem_cons_of_mem _ (ih h)
theorem qjq.get_mem {nt:Nat} {l:SpO} (h:qjq nt l) {p:Nat×List KOb} (hp:p∈l):qch l p.1=p.2:=by
 induction l with
 | nil=>cases hp
 | cons q l ih =>
  obtain⟨k,u⟩:=q
  simp only[qch]
  rcases List.mem_cons.1 hp with rfl | hp'
  ·simp
  ·have h1:=(List.pairwise_cons.1 h.srt).1 p.1 (List.mem_map.2 ⟨p,hp',rfl⟩)
   simp only at h1
   cases h2:Nat.beq p.1 k with
   | true=>have:=qcg h2;omega
   | false=>exact ih h.tail hp'
theorem qjq.get_ok {nt:Nat} {l:SpO} (h:qjq nt l) {i:Nat} {o:KOb} (ho:o∈qch l i):o.ok:=by
 have:qch l i≠[]:=by intro h1;rw[h1] at ho;cases ho
 exact h.ok _ (qlc this) o ho
theorem qjq.get_ge {nt:Nat} {l:SpO} (h:qjq nt l) {i:Nat} (hi:nt≤i):qch l i=[]:=by
 by_cases h1:qch l i=[]
 ·exact h1
 ·have:=h.lt _ (qlc h1);simp only at this;omega
theorem qv2 {i:Nat} {v:List KOb}:∀ {l:SpO} {p:Nat×List KOb},p∈ql7 i v l→p=(i,v)∨p∈l:=by
 intro l
 induction l with
 | nil=>intro p hp;simp[ql7] at hp;exact .inl hp
 | cons q l ih =>
  obtain⟨k,u⟩:=q
  intro p hp
  simp only[ql7] at hp
  cases h:Nat.beq i k with
  | true =>
   rw[h] at hp;simp only[List.mem_cons] at hp ⊢
   rcases hp with rfl | hp
   ·exact .inl rfl
   ·exact .inr (.inr hp)
  | false =>
   rw[h] at hp
   cases h3:Nat.blt i k with
   | true =>
    rw[h3] at hp;simp only[List.mem_cons] at hp ⊢
    rcases hp with rfl | hp | hp
    ·exact .inl rfl
    ·exact .inr (.inl hp)
    ·exact .inr (.inr hp)
   | false =>
    rw[h3] at hp;simp only[List.mem_cons] at hp ⊢
    rcases hp with rfl | hp
    ·exact .inr (.inl rfl)
    ·exact (ih hp).imp id .inr
theorem soPut_srt {i:Nat} {v:List KOb}:∀ {l:SpO},(l.map (·.1)).Pairwise (· < ·)→((ql7 i v l).map (·.1)).Pairwise (· < ·):=by
 intro l
 induction l with
 | nil=>intro _;simp[ql7]
 | cons q l ih =>
  obtain⟨k,u⟩:=q
  intro h
  have h1:=List.pairwise_cons.1 h
  simp only[ql7]
  cases h2:Nat.beq i k with
  | true =>
   have:=qcg h2;subst this
   exact List.pairwise_cons.2 ⟨h1.1,h1.2⟩
  | false =>
   cases h3:Nat.blt i k with
   | true =>
    have h4:i < k:=by simpa[Nat.blt_eq] using h3
    refine List.pairwise_cons.2 ⟨fun a ha=>?_,h⟩
    simp only[List.map_cons,List.mem_cons] at ha
    rcases ha with rfl | ha
    ·exact h4
    ·exact Nat.lt_trans h4 (h1.1 a ha)
   | false =>
    have h5:=qd9 h2
    have h4:¬ i < k:=by intro h6;rw[show Nat.blt i k=true by simpa[Nat.blt_eq] using h6] at h3;cases h3
    refine List.pairwise_cons.2 ⟨fun a ha=>?_,ih h1.2⟩
    obtain⟨p,hp,rfl⟩:=List.mem_map.1 ha
    rcases qv2 hp with rfl | hp
    ·simp only;omega
    ·exact h1.1 _ (List.mem_map.2 ⟨p,hp,rfl⟩)
theorem qjq.put {nt:Nat} {l:SpO} (h:qjq nt l) {i:Nat} (hi:i < nt) {v:List KOb} (hv:∀ o∈v,o.ok):qjq nt (ql7 i v l) where
 srt:=soPut_srt h.srt
 lt p hp:=(qv2 hp).elim (fun e=>by rw[e];exact hi) (h.lt p)
 ok p hp:=(qv2 hp).elim (fun e=>by rw[e];exact hv) (h.ok p)
theorem soKeep_sub (p:Nat→Bool):∀ (l:SpO),(qth p l).Sublist l:=by
 intro l
 induction l with
 | nil=>exact .slnil
 | cons q l ih =>
  obtain⟨k,u⟩:=q
  simp only[qth]
  cases p k with
  | true=>exact .cons_cons _ ih
  | false=>exact .cons _ ih
theorem qjq.sub {nt:Nat} {l l':SpO} (h:qjq nt l) (hs:l'.Sublist l):qjq nt l' :=
 ⟨h.srt.sublist (hs.map _),fun p hp=>h.lt p (hs.subset hp),fun p hp=>h.ok p (hs.subset hp)⟩
theorem soMap_keys (f:KOb→KOb):∀ (l:SpO),(qm3 f l).map (·.1)=l.map (·.1):=by
 intro l
 induction l with
 | nil=>rfl
 | cons q l ih=>obtain⟨k,u⟩:=q;simp[qm3,ih]
theorem Qd2 {f:KOb→KOb}:∀ {l:SpO} {p:Nat×List KOb},p∈qm3 f l→∃ q∈l,p=(q.1,q.2.map f):=by
 intro l
 induction l with
 | nil=>intro p hp;cases hp
 | cons q l ih =>
  obtain⟨k,u⟩:=q
  intro p hp
  rcases List.mem_cons.1 hp with rfl | hp
  ·exact⟨(k,u),by simp,rfl⟩
  ·obtain⟨q,hq,h⟩:=ih hp;exact⟨q,by simp[hq],h⟩
theorem qjq.map {nt:Nat} {l:SpO} (h:qjq nt l) {f:KOb→KOb} (hf:∀ x:KOb,x.ok→(f x).ok):qjq nt (qm3 f l) where
 srt:=by rw[soMap_keys];exact h.srt
 lt p hp:=by obtain⟨q,hq,rfl⟩:=Qd2 hp;exact h.lt q hq
 ok p hp o ho:=by
  obtain⟨q,hq,rfl⟩:=Qd2 hp
  obtain⟨o',ho',rfl⟩:=List.mem_map.1 ho
  exact hf _ (h.ok q hq o' ho')
theorem Qh1 {l:SpO} {nm:Nm}:nm∈qjv l↔∃ p∈l,∃ o∈p.2,nm∈o.names:=by
 induction l with
 | nil=>simp[qjv]
 | cons q l ih=>obtain⟨k,u⟩:=q;simp[qjv,ih]
theorem denseO_get? (nt:Nat) (l:SpO) (i:Nat):(qdx nt l)[i]?=if i < nt then some ((qch l i).map KOb.ob) else none:=by
 unfold qdx
 rw[List.getElem?_map]
 split
 ·rename_i h;rw[List.getElem?_range h];rfl
 ·rename_i h;rw[List.getElem?_eq_none (by simpa using h)];rfl
theorem qc4 (nt:Nat) (l:SpO):(qdx nt l).length=nt:=by simp[qdx]
theorem qhm {nt:Nat} {l:SpO} {xs:List (List Ob)} (hl:xs.length=nt) (h:∀ i,i < nt→xs[i]?=some ((qch l i).map KOb.ob)):qdx nt l=xs:=by
 apply List.ext_getElem?
 intro i
 rw[denseO_get?]
 split
 ·rename_i hi;exact (h i hi).symm
 ·rename_i hi;rw[List.getElem?_eq_none (by omega)]
theorem qhl {nt:Nat} {l:SpO} (d:Nat) (v:List KOb):qdx nt (ql7 d v l)=(qdx nt l).set d (v.map KOb.ob):=by
 refine qhm (by simp[qc4]) fun i hi=>?_
 rw[List.getElem?_set,qc4,denseO_get?,soGet_put]
 by_cases h:d=i
 ·subst h;simp[hi]
 ·simp[h,Ne.symm h,hi]
theorem qpm {nt:Nat} {l:SpO} (h:qjq nt l) {f:KOb→KOb} {g:Ob→Ob} (hf:∀ x:KOb,x.ok→(f x).ob=g x.ob):qdx nt (qm3 f l)=(qdx nt l).map (·.map g):=by
 refine qhm (by simp[qc4]) fun i hi=>?_
 rw[List.getElem?_map,denseO_get?,if_pos hi,soGet_map]
 simp only[Option.map_some,List.map_map,Option.some.injEq]
 apply List.map_congr_left
 intro o ho
 simp[hf o (h.get_ok ho)]
theorem Qke {nt:Nat} {l:SpO} (h:qjq nt l) (nm:Nm):qbf (qdx nt l) nm=(qck l nm).map KOb.ob:=by
 unfold qbf qck
 rw[denseO_get?]
 split
 ·rename_i x hx
  split at hx
  ·cases hx;rw[List.getElem?_map]
  ·cases hx
 ·rename_i hx
  split at hx
  ·cases hx
  ·rw[h.get_ge (by omega)];rfl
theorem qvh {nt:Nat} {l:SpO} (h:qjq nt l) {nm:Nm} {o:KOb} (ho:qck l nm=some o):nm.1 < nt:=by
 apply Classical.byContradiction
 intro hn
 unfold qck at ho
 rw[h.get_ge (by omega)] at ho
 cases ho
theorem qcx {nt:Nat} {l:SpO} (h:qjq nt l) {nm:Nm} {o:KOb} (ho:qck l nm=some o):o.ok:=h.get_ok (List.mem_of_getElem? ho)
theorem qj7 {nt:Nat} {l:SpO} (h:qjq nt l) (nm:Nm) (o:KOb):qdx nt (kput l nm o)=qb9 (qdx nt l) nm o.ob:=by
 unfold kput qb9
 cases hk:qck l nm with
 | some o' =>
  have hlt:=qvh h hk
  simp only
  rw[qhl,denseO_get?,if_pos hlt]
  simp[List.map_set]
 | none =>
  simp only
  rw[denseO_get?]
  split
  ·rename_i x hx
   split at hx
   ·cases hx
    have h1:((qch l nm.1).map KOb.ob).set nm.2 o.ob=(qch l nm.1).map KOb.ob:=by
     rw[List.set_eq_of_length_le]
     have:=List.getElem?_eq_none_iff.1 hk
     simpa using this
    rw[h1]
    refine qhm (by simp[qc4]) fun i hi=>?_
    rw[List.getElem?_set,qc4,denseO_get?]
    by_cases h2:nm.1=i
    ·subst h2;simp[hi]
    ·simp[h2,hi]
   ·cases hx
  ·rfl
theorem qjq.kput {nt:Nat} {l:SpO} (h:qjq nt l) (nm:Nm) {o:KOb} (ho:o.ok):qjq nt (kput l nm o):=by
 unfold Go.Ab.kput
 cases hk:qck l nm with
 | some o' =>
  refine h.put (qvh h hk) fun x hx=>?_
  rcases List.mem_or_eq_of_mem_set hx with h1 | rfl
  ·exact h.get_ok h1
  ·exact ho
 | none=>exact h
theorem qt2 {nt:Nat} {l:SpO} (h:qjq nt l) (nm:Nm):nm∈(qdx nt l).flatMap (fun l=>l.flatMap Ob.names)↔nm∈qjv l:=by
 rw[Qh1]
 simp only[List.mem_flatMap]
 constructor
 ·rintro ⟨x,hx,ob,hob,hn⟩
  obtain⟨i,hi⟩:=List.getElem?_of_mem hx
  rw[denseO_get?] at hi
  split at hi
  ·cases hi
   obtain⟨o,ho,rfl⟩:=List.mem_map.1 hob
   rw[KOb.ob_names (h.get_ok ho)] at hn
   have:qch l i≠[]:=by intro h1;rw[h1] at ho;cases ho
   exact⟨_,qlc this,o,ho,hn⟩
  ·cases hi
 ·rintro ⟨p,hp,o,ho,hn⟩
  have:=h.get_mem hp
  refine⟨p.2.map KOb.ob,List.mem_of_getElem? (i:=p.1) ?_,o.ob,List.mem_map.2 ⟨o,ho,rfl⟩,?_⟩
  ·rw[denseO_get?,if_pos (h.lt p hp),this]
  ·rw[KOb.ob_names (h.ok p hp o ho)];exact hn
end Go.Ab


namespace Go.Ab
mutual
theorem qw9 {R:Type}:∀ (x:KV) (K:KV→R),qtw x K=K x
 | .un,_ | .sk,_ | .nils,_ | .cv _,_ | .yld _,_=>rfl
 | .lit b,K=>by cases b<;>rfl
 | .ref nm _,_ | .aref nm _ _ _,_ | .arr nm _ _ _,_ | .mp nm,_ | .it nm,_ | .wit nm,_=>by cases nm;rfl
 | .agg cs,K=>by simp only[qtw];rw[qno cs]
 | .iface t x,K=>by simp only[qtw];rw[qw9 x]
 | .fn f cap,K=>by simp only[qtw];rw[qno cap]
 | .tup xs,K=>by simp only[qtw];rw[qno xs]
theorem qno {R:Type}:∀ (xs:List KV) (K:List KV→R),qxc xs K=K xs
 | [],_=>rfl
 | x :: xs,K=>by simp only[qxc];rw[qw9 x,qno xs]
end
theorem forceOb_eq {R:Type} (x:KOb) (K:KOb→R):Qj2 x K=K x:=by cases x<;>simp[Qj2,qno]
theorem qxb {R:Type}:∀ (xs:List KOb) (K:List KOb→R),qvk xs K=K xs
 | [],_=>rfl
 | x :: xs,K=>by simp only[qvk];rw[forceOb_eq x,qxb xs]
theorem qsu {R:Type}:∀ (xs:Sp) (K:Sp→R),qxa xs K=K xs
 | [],_=>rfl
 |(j,x) :: xs,K=>by simp only[qxa];rw[qw9 x,qsu xs]
theorem qzy {R:Type}:∀ (xs:SpO) (K:SpO→R),Qcx xs K=K xs
 | [],_=>rfl
 |(j,x) :: xs,K=>by simp only[Qcx];rw[qxb x,qzy xs]
theorem qzz {R:Type}:∀ (xs:List Sp) (K:List Sp→R),Qcy xs K=K xs
 | [],_=>rfl
 | x :: xs,K=>by simp only[Qcy];rw[qsu x,qzz xs]
theorem qcr {R:Type} (ks:KSt) (K:KSt→R):qg2 ks K=K ks:=by
 cases ks;simp only[qg2];rw[qsu,qzy,qzz]
structure KSt.Ok (ks:KSt):Prop where
 tm:qkk ks.nt ks.tmps
 ob:qjq ks.nt ks.objs
 kp:∀ sp∈ks.keep,qkk ks.nt sp
theorem cstK_pv (v:PV):(cstK v).pv=v:=by
 unfold cstK
 split<;>simp[KV.pv,pvL]
theorem cstK_ok {v:PV} (h:okV v=true):(cstK v).ok:=by
 unfold cstK
 split
 ·trivial
 ·trivial
 ·trivial
 ·exact h
variable {ks:KSt}
theorem qsb (h:ks.Ok) (x:RX):x.ev ks.st.tmps=(x.kv ks.tmps).pv:=by
 cases x with
 | t i=>exact qhk h.tm i
 | c v=>exact (cstK_pv v).symm
theorem kv_ok (h:ks.Ok) {x:RX} (hx:okX x=true):(x.kv ks.tmps).ok:=by
 cases x with
 | t i=>exact h.tm.get_ok i
 | c v=>exact cstK_ok hx
theorem qja (h:ks.Ok) (nm:Nm):qbf ks.st.objs nm=(qck ks.objs nm).map KOb.ob:=Qke h.ob nm
theorem qdd (h:ks.Ok):qbf ks.st.objs=fun nm=>(qck ks.objs nm).map KOb.ob:=funext (qja h)
theorem KOb.off_ob (p:Nm→Bool) {o:KOb} (h:o.ok):(o.off p).ob=o.ob.sub (qpo p):=by
 cases o with
 | cells ty cs=>simp[KOb.off,KOb.ob,Ob.sub,qwj p h]
 | whole ty v =>
  have:=(qbx (qcb h)).1
  simp only[KOb.off,KOb.ob,Ob.sub,qkd]
  rw[subL_none this]
 | _=>rfl
where
 subL_none {xs:List PV} (h:qbd xs=[]):qdy (qpo p) xs=xs:=by
  induction xs with
  | nil=>rfl
  | cons x xs ih =>
   simp[qbd] at h
   simp[qdy,qkq h.1,ih h.2]
theorem KOb.off_ok (p:Nm→Bool) {o:KOb} (h:o.ok):(o.off p).ok:=by
 cases o with
 | cells ty cs=>exact qwk p h
 | _=>exact h
theorem qvw (f:Nm→Option (Option Ob)) (xs ys:List PV):qdy f (xs++ys)=qdy f xs++qdy f ys:=by
 induction xs with
 | nil=>rfl
 | cons x xs ih=>simp[qdy,ih]
theorem qvl {nt:Nat} {l:List Sp} {f:KV→KV} {g:List PV→List PV} (hg:g []=[]) (ha:∀ xs ys,g (xs++ys)=g xs++g ys) (h:∀ sp∈l,qc7 nt (qkl f sp)=g (qc7 nt sp)) :
  (l.map (qkl f)).flatMap (qc7 nt)=g (l.flatMap (qc7 nt)):=by
 induction l with
 | nil=>simp[hg]
 | cons x l ih =>
  simp only[List.map_cons,List.flatMap_cons,ha]
  rw[h x (by simp),ih fun sp hsp=>h sp (by simp[hsp])]
theorem Qjr (p:Nm→Bool) (h:ks.Ok):(qzn p ks).st=qhf (qpo p) ks.st:=by
 unfold qzn KSt.st qhf
 simp only
 rw[qrt h.tm (by simp[KV.off]) (fun x hx=>KV.off_pv p hx),qpm h.ob (fun o ho=>KOb.off_ob p ho),
  qvl (g:=qdy (qpo p)) rfl (qvw _) fun sp hsp=>qrt (h.kp sp hsp) (by simp[KV.off]) fun x hx=>KV.off_pv p hx]
theorem Qjs (p:Nm→Bool) (h:ks.Ok):(qzn p ks).Ok where
 tm:=h.tm.map fun x hx=>KV.off_ok p hx
 ob:=h.ob.map fun x hx=>KOb.off_ok p hx
 kp sp hsp:=by
  obtain⟨q,hq,rfl⟩:=List.mem_map.1 hsp
  exact (h.kp q hq).map fun x hx=>KV.off_ok p hx
theorem KOb.close_ob (g:Nm→Option Ob) {o:KOb} (h:o.ok):o.close g=o.ob.sub (ql5 g):=by
 cases o with
 | cells ty cs=>simp[KOb.close,KOb.ob,Ob.sub,ql1 g h]
 | whole ty v =>
  have:=(qbx (qcb h)).1
  simp only[KOb.close,KOb.ob,Ob.sub,qkd]
  rw[subL_none this]
 | _=>rfl
where
 subL_none {xs:List PV} (h:qbd xs=[]):qdy (ql5 g) xs=xs:=by
  induction xs with
  | nil=>rfl
  | cons x xs ih =>
   simp[qbd] at h
   simp[qdy,qkq h.1,ih h.2]
theorem qso {σ:Nm→Option KOb} (hσ:∀ nm o,σ nm=some o→o.ok):∀ (d:Nat) (nm:Nm),qda σ d nm=(σ nm).map fun o=>qk9 (fun nm=>(σ nm).map KOb.ob) d o.ob:=by
 intro d
 induction d with
 | zero =>
  intro nm
  unfold qda
  cases h:σ nm with
  | none=>rfl
  | some o=>simp only[Option.map_some];rw[KOb.close_ob _ (hσ _ _ h)];rfl
 | succ d ih =>
  intro nm
  unfold qda
  cases h:σ nm with
  | none=>rfl
  | some o =>
   simp only[Option.map_some]
   rw[KOb.close_ob _ (hσ _ _ h)]
   congr 1
   unfold qk9
   congr 1
   funext m
   unfold ql5
   rw[ih m,Option.map_map]
   rfl
def Qk9 (σ:Nm→Option KOb):Prop:=∀ nm ty cs,σ nm=some (.cells ty cs)→qjh cs=false
theorem qgm {σ:Nm→Option KOb} (hσ:∀ nm o,σ nm=some o→o.ok) (hq:Qk9 σ):∀ (d:Nat) (nm:Nm) (ob:Ob),qda σ d nm=some ob→ob.shut:=by
 intro d
 induction d with
 | zero =>
  intro nm ob h
  unfold qda at h
  cases ho:σ nm with
  | none=>rw[ho] at h;cases h
  | some o =>
   rw[ho] at h;cases h
   have hok:=hσ _ _ ho
   cases o with
   | cells ty cs=>exact (qh7 (fun _ _ h=>by cases h) hok (hq _ _ _ ho))
   | whole ty v=>exact (qcb hok)
   | arr k kt xs=>exact hok
   | map es=>exact hok
   | siter s pos=>trivial
 | succ d ih =>
  intro nm ob h
  unfold qda at h
  cases ho:σ nm with
  | none=>rw[ho] at h;cases h
  | some o =>
   rw[ho] at h;cases h
   have hok:=hσ _ _ ho
   cases o with
   | cells ty cs=>exact (qh7 ih hok (hq _ _ _ ho))
   | whole ty v=>exact (qcb hok)
   | arr k kt xs=>exact hok
   | map es=>exact hok
   | siter s pos=>trivial
theorem KOb.frz_ob (p:Nm→Bool) (g:Nm→Option Ob) {o:KOb} (h:o.ok):(o.frz p g).ob=o.ob.sub (qgi p g):=by
 cases o with
 | cells ty cs=>simp[KOb.frz,KOb.ob,Ob.sub,qw7 p g h]
 | whole ty v =>
  have:=(qbx (qcb h)).1
  simp only[KOb.frz,KOb.ob,Ob.sub,qkd]
  rw[subL_none this]
 | _=>rfl
where
 subL_none {xs:List PV} (h:qbd xs=[]):qdy (qgi p g) xs=xs:=by
  induction xs with
  | nil=>rfl
  | cons x xs ih =>
   simp[qbd] at h
   simp[qdy,qkq h.1,ih h.2]
theorem KOb.frz_ok {p:Nm→Bool} {g:Nm→Option Ob} (hg:∀ nm ob,g nm=some ob→ob.shut) {o:KOb} (h:o.ok):(o.frz p g).ok:=by
 cases o with
 | cells ty cs=>exact qw8 hg h
 | _=>exact h
theorem kputs_ok {nt:Nat}:∀ (R:List Nm) {l:SpO},qjq nt l→qjq nt (R.foldl (fun objs nm=>kput objs nm qq6) l):=by
 intro R
 induction R with
 | nil=>intro l h;exact h
 | cons nm R ih=>intro l h;exact ih (h.kput nm (o:=qq6) rfl)
theorem kputs_st {nt:Nat}:∀ (R:List Nm) {l:SpO},qjq nt l→qdx nt (R.foldl (fun objs nm=>kput objs nm qq6) l)=R.foldl (fun objs nm=>qb9 objs nm qd5) (qdx nt l):=by
 intro R
 induction R with
 | nil=>intro l _;rfl
 | cons nm R ih =>
  intro l h
  simp only[List.foldl_cons]
  rw[ih (h.kput nm (o:=qq6) rfl),qj7 h]
  rfl
theorem qb8 (h:ks.Ok):∀ nm o,qck ks.objs nm=some o→o.ok:=fun _ _ ho=>qcx h.ob ho
theorem kclosed_st (h:ks.Ok) (nm:Nm):ql5 (qda (qck ks.objs) qbe) nm=qb5 (qbf ks.st.objs) nm:=by
 unfold ql5 qb5
 rw[qso (qb8 h),qdd h,Option.map_map]
 rfl
theorem kquiet_ok {l:SpO} (h:qhz l=true):∀ p∈l,∀ ty cs,KOb.cells ty cs∈p.2→qjh cs=false:=by
 induction l with
 | nil=>intro p hp;cases hp
 | cons q l ih =>
  obtain⟨k,u⟩:=q
  simp only[qhz,Bool.and_eq_true] at h
  intro p hp ty cs hcs
  rcases List.mem_cons.1 hp with rfl | hp
  ·have:=List.all_eq_true.1 h.1 _ hcs
   simpa using this
  ·exact ih h.2 p hp ty cs hcs
theorem qlf {l:SpO} (h:qhz l=true):Qk9 (qck l):=by
 intro nm ty cs ho
 have hm:qch l nm.1≠[]:=by intro h1;unfold qck at ho;rw[h1] at ho;cases ho
 exact kquiet_ok h _ (qlc hm) ty cs (List.mem_of_getElem? ho)
theorem Qju {l:KSt} (hl:l.Ok) {σ:Nm→Option KOb} (hσ:∀ nm o,σ nm=some o→o.ok) (hq:Qk9 σ) (R:List Nm) :
  (Qcq σ R l).st=qbt (fun nm=>(σ nm).map KOb.ob) R l.st:=by
 have hf:qgi (fun m=>R.contains m) (qda σ qbe)=fun m=>if R.contains m=true then qb5 (fun nm=>(σ nm).map KOb.ob) m else none:=by
  funext m
  unfold qgi qb5
  rw[qso hσ,Option.map_map]
  rfl
 unfold Qcq qbt qhf KSt.st
 simp only
 rw[qrt hl.tm (g:=qgi (fun m=>R.contains m) (qda σ qbe)) (by simp[KV.frz]) (fun x hx=>KV.frz_pv _ _ hx),
  kputs_st R (hl.ob.map fun x hx=>KOb.frz_ok (qgm hσ hq qbe) hx),qpm hl.ob (fun o ho=>KOb.frz_ob _ _ ho),
  qvl (g:=qdy (qgi (fun m=>R.contains m) (qda σ qbe))) rfl (qvw _) fun sp hsp=>qrt (hl.kp sp hsp) (by simp[KV.frz]) fun x hx=>KV.frz_pv _ _ hx,hf]
theorem kfreeze_ok {l:KSt} (hl:l.Ok) {σ:Nm→Option KOb} (hσ:∀ nm o,σ nm=some o→o.ok) (hq:Qk9 σ) (R:List Nm):(Qcq σ R l).Ok where
 tm:=hl.tm.map fun x hx=>KV.frz_ok (qgm hσ hq qbe) hx
 ob:=kputs_ok R (hl.ob.map fun x hx=>KOb.frz_ok (qgm hσ hq qbe) hx)
 kp sp hsp:=by
  obtain⟨q,hq',rfl⟩:=List.mem_map.1 hsp
  exact (hl.kp q hq').map fun x hx=>KV.frz_ok (qgm hσ hq qbe) hx
structure qb2.Ok (o:qb2):Prop where
 v:o.v.ok
 new:∀ x∈o.new,x.ok
 upd:∀ nm x,o.upd=some (nm,x)→x.ok
 ups:∀ p∈o.ups,p.2.ok:=by simp
def bupd (u:Option (Nm×Ob)) (st:St):St :=
 match u with
 | some (nm,ob)=>{st with objs:=qb9 st.objs nm ob}
 | none=>st
def Qkn (k:Option Nm) (st:St):St :=
 match k with
 | some nm=>qhf (fun m=>if m=nm then some none else none) st
 | none=>st
def bset (dst:Option Nat) (v:PV) (new:List Ob) (st:St):St :=
 match dst with
 | some d=>{st with tmps:=st.tmps.set d v,objs:=if new.isEmpty then st.objs else st.objs.set d new}
 | none=>st
def bgone (l:List Nm) (st:St):St:=if l.isEmpty then st else qhf (fun m=>if l.contains m then some none else none) st
def Qkm (l:List (Nm×Ob)) (st:St):St:=if l.isEmpty then st else {st with objs:=qdr l st.objs}
def bext (sl:Option Nat) (new:List Ob) (st:St):St :=
 match sl with
 | some r=>{st with objs:=st.objs.set r (st.objs.getD r []++new)}
 | none=>st
def Qfm (sl:Option Nat) (new:List Ob):List Ob :=
 match sl with
 | some _=>[]
 | none=>new
theorem Qdl (st:St) (dst:Option Nat) (o:Out):apply st dst o=bset dst o.v (Qfm o.slot o.new) (bext o.slot o.new<|Qkm o.ups (bgone o.gone (if o.frz.isEmpty then Qkn o.kill (bupd o.upd st) else qbt (qbf st.objs) o.frz (Qkn o.kill (bupd o.upd st))))):=by
 unfold apply bset Qkn bupd bgone Qkm bext Qfm
 cases dst<;>cases o.upd<;>cases o.kill<;>cases o.slot<;>rfl
theorem kups_ok {nt:Nat}:∀ (l:List (Nm×KOb)) {σ:SpO},(∀ p∈l,p.2.ok)→qjq nt σ→qjq nt (kups l σ):=by
 intro l
 induction l with
 | nil=>intro σ _ h;exact h
 | cons p l ih =>
  obtain⟨nm,o⟩:=p
  intro σ hl h
  exact ih (fun q hq=>hl q (List.mem_cons_of_mem _ hq)) (h.kput nm (hl (nm,o) List.mem_cons_self))
theorem kups_st {nt:Nat}:∀ (l:List (Nm×KOb)) {σ:SpO},(∀ p∈l,p.2.ok)→qjq nt σ→qdx nt (kups l σ)=qdr (l.map fun p=>(p.1,p.2.ob)) (qdx nt σ):=by
 intro l
 induction l with
 | nil=>intro σ _ h;rfl
 | cons p l ih =>
  obtain⟨nm,o⟩:=p
  intro σ hl h
  show qdx nt (kups l (kput σ nm o))=qdr (l.map fun p=>(p.1,p.2.ob)) (qb9 (qdx nt σ) nm o.ob)
  rw[ih (fun q hq=>hl q (List.mem_cons_of_mem _ hq)) (h.kput nm (hl (nm,o) List.mem_cons_self)),qj7 h]
theorem qqc (h:ks.Ok) {o:qb2} (hq:(o.frz.isEmpty||qhz ks.objs)=true) (dst:Option Nat) (ho:o.Ok):(qlq ks dst o).st=apply ks.st dst o.out∧(qlq ks dst o).Ok:=by
 rw[Qdl]
 unfold qlq qb2.out
 simp only
 have h1:(kupd o.upd ks).Ok∧(kupd o.upd ks).st=bupd (o.upd.map fun p=>(p.1,p.2.ob)) ks.st:=by
  cases hu:o.upd with
  | none=>exact⟨h,rfl⟩
  | some p =>
   obtain⟨nm,ob⟩:=p
   refine⟨⟨h.tm,h.ob.kput nm (ho.upd _ _ hu),h.kp⟩,?_⟩
   simp only[Option.map_some,kupd,bupd,KSt.st]
   rw[qj7 h.ob]
 rw[←h1.2]
 generalize kupd o.upd ks=k1 at h1 ⊢
 have h2:(kkill o.kill k1).Ok∧(kkill o.kill k1).st=Qkn o.kill k1.st:=by
  cases hu:o.kill with
  | none=>exact⟨h1.1,rfl⟩
  | some nm =>
   refine⟨Qjs _ h1.1,?_⟩
   simp only[kkill,Qkn]
   rw[Qjr _ h1.1]
   congr 1
   funext m
   unfold qpo
   by_cases hm:m=nm
   ·simp[hm]
   ·simp[hm]
 rw[←h2.2]
 generalize kkill o.kill k1=k2 at h2 ⊢
 have h3:(kfrzs (qck ks.objs) o.frz k2).Ok∧(kfrzs (qck ks.objs) o.frz k2).st=(if o.frz.isEmpty=true then k2.st else qbt (qbf ks.st.objs) o.frz k2.st):=by
  cases hf:o.frz with
  | nil=>exact⟨h2.1,rfl⟩
  | cons nm R =>
   have hq:qhz ks.objs=true:=by rw[hf] at hq;simpa using hq
   refine⟨kfreeze_ok h2.1 (qb8 h) (qlf hq) _,?_⟩
   rw[qdd h]
   exact Qju h2.1 (qb8 h) (qlf hq) _
 rw[←h3.2]
 generalize kfrzs (qck ks.objs) o.frz k2=k4 at h3 ⊢
 have h5:(kgone o.gone k4).Ok∧(kgone o.gone k4).st=bgone o.gone k4.st:=by
  cases hg:o.gone with
  | nil=>exact⟨h3.1,rfl⟩
  | cons nm l =>
   refine⟨Qjs _ h3.1,?_⟩
   simp only[kgone,bgone,List.isEmpty_cons,Bool.false_eq_true,if_false]
   rw[Qjr _ h3.1]
   congr 1
 rw[←h5.2]
 generalize kgone o.gone k4=k5 at h5 ⊢
 have h6:(kturn o.ups k5).Ok∧(kturn o.ups k5).st=Qkm (o.ups.map fun p=>(p.1,p.2.ob)) k5.st:=by
  refine⟨⟨h5.1.tm,kups_ok _ ho.ups h5.1.ob,h5.1.kp⟩,?_⟩
  have:∀ (l:List (Nm×Ob)) (s:St),Qkm l s={s with objs:=qdr l s.objs}:=by
   intro l s
   unfold Qkm
   split
   ·rename_i hl;rw[List.isEmpty_iff.1 hl];rfl
   ·rfl
  rw[this]
  simp only[kturn,KSt.st]
  rw[kups_st _ ho.ups h5.1.ob]
 rw[←h6.2]
 generalize kturn o.ups k5=k6 at h6 ⊢
 have h7:(kext o.slot o.new k6).Ok∧(kext o.slot o.new k6).st=bext o.slot (o.new.map KOb.ob) k6.st:=by
  cases hs:o.slot with
  | none=>exact⟨h6.1,rfl⟩
  | some r =>
   simp only[kext,bext]
   cases hr:Nat.blt r k6.nt with
   | true =>
    have hr':r < k6.nt:=by simpa[Nat.blt_eq] using hr
    refine⟨⟨h6.1.tm,h6.1.ob.put hr' fun x hx=>?_,h6.1.kp⟩,?_⟩
    ·rcases List.mem_append.1 hx with hx | hx
     ·exact h6.1.ob.get_ok hx
     ·exact ho.new x hx
    ·unfold KSt.st
     simp only
     rw[qhl,List.map_append]
     congr 3
     rw[List.getD_eq_getElem?_getD,denseO_get?,if_pos hr']
     rfl
   | false =>
    have hr':¬ r < k6.nt:=by intro h;rw[show Nat.blt r k6.nt=true by simpa[Nat.blt_eq] using h] at hr;cases hr
    refine⟨h6.1,?_⟩
    unfold KSt.st
    simp only
    rw[List.set_eq_of_length_le (by rw[qc4];omega)]
 rw[←h7.2]
 have hnew2:Qfm o.slot (o.new.map KOb.ob)=(newAt o.slot o.new).map KOb.ob:=by cases o.slot<;>rfl
 rw[hnew2]
 have honew:∀ x∈newAt o.slot o.new,x.ok:=by
  cases o.slot with
  | none=>exact ho.new
  | some r=>intro x hx;cases hx
 generalize newAt o.slot o.new=nw at honew ⊢
 generalize kext o.slot o.new k6=k3 at h7 ⊢
 obtain⟨ok3,_⟩:=h7
 cases dst with
 | none=>exact⟨rfl,ok3⟩
 | some d =>
  simp only[kset,bset]
  cases hd:Nat.blt d k3.nt with
  | true =>
   have hd':d < k3.nt:=by simpa[Nat.blt_eq] using hd
   refine⟨?_,?_⟩
   ·unfold KSt.st
    simp only
    rw[Qg0]
    cases hn:nw with
    | nil=>simp
    | cons x xs=>simp[qhl]
   ·refine⟨ok3.tm.set hd' ho.v,?_,ok3.kp⟩
    simp only
    cases hn:nw with
    | nil=>exact ok3.ob
    | cons x xs=>rw[hn] at honew;exact ok3.ob.put hd' honew
  | false =>
   have hd':¬ d < k3.nt:=by intro h;rw[show Nat.blt d k3.nt=true by simpa[Nat.blt_eq] using h] at hd;cases hd
   refine⟨?_,ok3⟩
   unfold KSt.st
   simp only
   rw[List.set_eq_of_length_le (by rw[qbu];omega)]
   split
   ·rfl
   ·rw[List.set_eq_of_length_le (by rw[qc4];omega)]
end Go.Ab


namespace Go.Ab
theorem Qma (T:List PV):∀ (ps:List (Nat×Nat×RX)) (z:List PV),qjk [] z (ps.map fun p=>(p.1,p.2.1,.c (p.2.2.ev T)))=qjk T z ps:=by
 intro ps
 induction ps with
 | nil=>intro z;rfl
 | cons p ps ih =>
  obtain⟨off,n,x⟩:=p
  intro z
  simp only[List.map_cons,qjk]
  rw[ih]
  rfl
theorem qk7 (T:List PV) (x:Option RX):evO [] (x.map fun y=>.c (y.ev T))=evO T x:=by cases x<;>rfl
theorem exec_inst (d:Nat) (σ:Nm→Option Ob) (T:List PV) (op:ROp) (hg:isG op=true):exec d σ [] (op.mapX fun x=>.c (x.ev T))=exec d σ T op:=by
 cases op with
 | build z ps=>simp only[ROp.mapX,exec];rw[Qma T]
 | slice k x lo hi mx=>simp only[ROp.mapX,exec];rw[qk7,qk7,qk7];rfl
 | strSlice x lo hi=>simp only[ROp.mapX,exec];rw[qk7,qk7];rfl
 | minmax mx xs=>simp only[ROp.mapX,exec,List.map_map];rfl
 | mov | pick | box | alloc | mkSl | store | mkI | mkF | mkMap | insert | mkS | append | copy | call | iter | next | bad=>simp[isG] at hg
 | _=>rfl
theorem qhx {f g:RX→RX} {o:Option RX} (h:∀ a∈o.toList,f a=g a):o.map f=o.map g:=by
 cases o with
 | none=>rfl
 | some a=>simp[h a (by simp)]
theorem mapX_congr {f g:RX→RX} (op:ROp) (hg:isG op=true) (h:∀ x∈op.xs,f x=g x):op.mapX f=op.mapX g:=by
 cases op with
 | build z ps =>
  simp only[ROp.mapX]
  congr 1
  apply List.map_congr_left
  intro p hp
  rw[h p.2.2 (List.mem_map.2 ⟨p,hp,rfl⟩)]
 | slice k x lo hi mx =>
  simp only[ROp.mapX,ROp.xs] at h ⊢
  rw[h x (by simp),qhx (o:=lo) fun a ha=>h a (by simp[ha]),qhx (o:=hi) fun a ha=>h a (by simp[ha]),qhx (o:=mx) fun a ha=>h a (by simp[ha])]
 | strSlice x lo hi =>
  simp only[ROp.mapX,ROp.xs] at h ⊢
  rw[h x (by simp),qhx (o:=lo) fun a ha=>h a (by simp[ha]),qhx (o:=hi) fun a ha=>h a (by simp[ha])]
 | minmax mx xs=>simp only[ROp.mapX];congr 1;exact List.map_congr_left h
 | mov | pick | box | alloc | mkSl | store | mkI | mkF | mkMap | insert | mkS | append | copy | call | iter | next | bad=>simp[isG] at hg
 | bin op c cst x y=>simp only[ROp.mapX,ROp.xs] at h ⊢;rw[h x (by simp),h y (by simp)]
 | lookup c z ok x k=>simp only[ROp.mapX,ROp.xs] at h ⊢;rw[h x (by simp),h k (by simp)]
 | idxAddr k x i=>simp only[ROp.mapX,ROp.xs] at h ⊢;rw[h x (by simp),h i (by simp)]
 | idxAddrA k l x i=>simp only[ROp.mapX,ROp.xs] at h ⊢;rw[h x (by simp),h i (by simp)]
 | strIdx x i=>simp only[ROp.mapX,ROp.xs] at h ⊢;rw[h x (by simp),h i (by simp)]
 | load n ag x | nilck x | un op x | conv k x | toBytes x | ofBytes x | ofRune x | strId x | fieldAddr off x | field off n ag x | extract j x | len c x | tassert t z ok x=>simp only[ROp.mapX,ROp.xs] at h ⊢;rw[h x (by simp)]
theorem reach_nil' (σ:Nm→Option Ob):∀ d,qbs σ d []=[]:=by
 intro d;induction d with
 | zero=>rfl
 | succ d ih=>simp[qbs,ih]
theorem Qgt {d:Nat} {σ:Nm→Option Ob} {T:List PV} {op:ROp} (hg:isG op=true) (hx:∀ x∈op.xs,okV (x.ev T)=true):exec d σ T op=exec 0 (fun _=>none) T op:=by
 have h1:exec d σ T op=exec 0 σ T op:=by cases op<;>simp[isG] at hg<;>rfl
 rw[h1]
 refine qsz op (fun _ _=>rfl) ?_
 have:qbd (op.xs.map (RX.ev T))=[]:=(qbx (qdm.2 fun v hv=>by
  obtain⟨x,hx',rfl⟩:=List.mem_map.1 hv
  exact hx x hx')).1
 rw[this]
 intro nm hnm
 rw[reach_nil'] at hnm;cases hnm
theorem okV_fill {T:List PV}:∀ (ps:List (Nat×Nat×RX)) (z cs:List PV),qcy z=true→(∀ x∈ps.map (·.2.2),okV (x.ev T)=true)→qjk T z ps=some cs→qcy cs=true:=by
 intro ps
 induction ps with
 | nil=>intro z cs hz _ h;simp[qjk] at h;subst h;exact hz
 | cons p ps ih =>
  obtain⟨off,n,y⟩:=p
  intro z cs hz hp h
  simp only[qjk] at h
  obtain⟨_,h⟩:=qdj h
  refine ih _ cs ?_ (fun x hx=>hp x (by simp only[List.map_cons,List.mem_cons];exact .inr hx)) h
  exact qd0 (qd0 (qfu hz _) (qcb (hp y (by simp)))) (qgw hz _)
theorem qwd {cs:List PV} (h:qcy cs=true) {o n:Nat} {ag:Bool} {v:PV} (hs:sel cs o n ag=some v):okV v=true:=by
 unfold sel at hs
 split at hs
 ·obtain⟨_,hs⟩:=qdj hs
  cases hs
  simpa[okV] using qfu (qgw h o) n
 ·exact qhs h hs
theorem Qb7 {k:PV}:∀ {es:List PV} {v:PV},qt7 k es=some (some v)→qcy es=true→okV v=true
 | [],v,h,_=>by simp[qt7] at h
 | [_],v,h,_=>by simp[qt7] at h
 | a :: u :: es,v,h,he=>by
  simp only[qcy,Bool.and_eq_true] at he
  simp only[qt7] at h
  split at h
  ·cases h;exact he.2.1
  ·exact Qb7 h he.2.2
  ·cases h
theorem Qjh {k:Nat} {x v:PV} {lo hi mx:Option PV} (hx:okV x=true) (h:ql8 k x lo hi mx=some v):okV v=true:=by
 cases x with
 | sl k' xs full =>
  simp only[ql8] at h
  split at h
  ·cases h
  split at h
  ·cases h
  split at h
  ·cases h
  obtain⟨_,h⟩:=qdj h
  cases h
  simp only[okV] at hx ⊢
  exact qgw (qfu hx _) _
 | nilS =>
  simp only[ql8] at h
  split at h
  ·cases h
  split at h
  ·cases h
  split at h
  ·cases h
  obtain⟨_,h⟩:=qdj h
  cases h;rfl
 | arr nm k' o n=>simp[okV] at hx
 | _=>simp[ql8] at h
theorem Qfg (s:List UInt8):qcy (qcs s)=true:=qdm.2 fun x hx=>by
 obtain⟨b,_,rfl⟩:=List.mem_map.1 hx
 rfl
theorem okV_binPV {op:BinOp} {c:TC} {cst:Bool} {x y v:PV} (h:qmu op c cst x y=some v):okV v=true:=by
 have hI:∀ {op k a b v},qk0 op k a b=some v→okV v=true:=by
  intro op k a b v h
  unfold qk0 at h
  split at h
  all_goals first
   |(cases h;rfl)
   |(obtain⟨_,h⟩:=qdj h;cases h;rfl)
   |(obtain⟨b,_,rfl⟩:=Option.map_eq_some_iff.1 h;rfl)
 have hS:∀ {op a b v},qx2 op a b=some v→okV v=true:=by
  intro op a b v h
  unfold qx2 at h
  split at h
  all_goals first
   |(cases h;rfl)
   |(obtain⟨_,h⟩:=qdj h;cases h;rfl)
   | cases h
 unfold qmu at h
 split at h
 ·split at h
  ·obtain⟨_,h⟩:=qdj h;cases h;rfl
  ·obtain⟨_,h⟩:=qdj h;cases h;rfl
  ·obtain⟨_,h⟩:=qdj h;exact hI h
 ·exact hS h
 ·split at h
  ·obtain⟨b,_,rfl⟩:=Option.map_eq_some_iff.1 h;rfl
  ·obtain⟨b,_,rfl⟩:=Option.map_eq_some_iff.1 h;rfl
  ·cases h
structure Plain (o:Out):Prop where
 eq:o={v:=o.v}
 ok:okV o.v=true
theorem Plain.mk' {v:PV} (h:okV v=true):Plain {v:=v}:=⟨rfl,h⟩
theorem qqw {x:Option PV} {out:Out} (h:(x.map fun v=>({v:=v}:Out))=some out) (hv:∀ v,x=some v→okV v=true):Plain out:=by
 obtain⟨v,hx,rfl⟩:=Option.map_eq_some_iff.1 h
 exact .mk' (hv v hx)
theorem exec_plain {T:List PV} {op:ROp} (hg:isG op=true) (hx:∀ x∈op.xs,okV (x.ev T)=true) (hz:∀ z ps,op=.build z ps→qcy z=true) (hl:∀ c z ok x k,op=.lookup c z ok x k→okV z=true)
  (ht:∀ t z ok x,op=.tassert t z ok x→okV z=true) {out:Out} (h:exec 0 (fun _=>none) T op=some out):Plain out:=by
 cases op with
 | mov | pick | box | alloc | mkSl | store | mkI | mkF | mkMap | insert | mkS | append | copy | call | iter | next | bad=>simp[isG] at hg
 | build z ps =>
  simp only[exec] at h
  split at h
  ·rename_i cs hc
   cases h
   exact .mk' (by simpa[okV] using okV_fill ps z cs (hz z ps rfl) hx hc)
  ·cases h
 | load n ag x =>
  have hv:=hx x (by simp[ROp.xs])
  simp only[exec] at h
  split at h
  ·rename_i e;rw[e] at hv;simp[okV] at hv
  ·rename_i e;rw[e] at hv
   exact qqw h fun v hs=>qwd (by simpa[okV] using hv) hs
  ·rename_i e;rw[e] at hv;simp[okV] at hv
  ·cases h
 | nilck x =>
  have hv:=hx x (by simp[ROp.xs])
  simp only[exec] at h
  split at h
  all_goals first
   |(rename_i e;rw[e] at hv;cases h;exact .mk' hv)
   | cases h
 | bin op c cst x y=>simp only[exec] at h;exact qqw h fun v=>okV_binPV
 | un op x =>
  simp only[exec] at h
  split at h
  ·cases h;exact .mk' rfl
  ·cases h;exact .mk' rfl
  ·cases h
 | conv k x=>simp only[exec] at h;split at h;(cases h;exact .mk' rfl);cases h
 | toBytes x =>
  simp only[exec] at h;split at h
  ·obtain⟨_,h⟩:=qdj h;cases h;exact .mk' (by simpa[okV] using Qfg _)
  ·cases h
 | ofBytes x =>
  simp only[exec] at h;split at h
  ·split at h
   ·cases h;exact .mk' rfl
   ·cases h
  ·cases h
 | ofRune x=>simp only[exec] at h;split at h;(cases h;exact .mk' rfl);cases h
 | strId x=>simp only[exec] at h;split at h;(cases h;exact .mk' rfl);cases h
 | lookup c z ok x k =>
  have hv:=hx x (by simp[ROp.xs])
  have hz:=hl c z ok x k rfl
  simp only[exec] at h
  have hes:∀ es,(match x.ev T with | .mp nm=>(none:Option (List PV)) | .imap es=>some es | .nilM=>some [] | _=>none)=some es→qcy es=true:=by
   intro es he
   cases hq:x.ev T<;>rw[hq] at he hv<;>simp only[reduceCtorEq,Option.some.injEq] at he
   ·subst he;rfl
   ·subst he;simpa[okV] using hv
  split at h
  ·cases h
  ·rename_i es he
   split at h
   ·cases h
   ·rename_i r hr
    obtain⟨_,h⟩:=qdj h
    cases h
    have hes':qcy es=true:=hes es (by revert he;cases x.ev T<;>exact id)
    have hrz:okV (r.getD z)=true:=by
     cases r with
     | none=>exact hz
     | some v=>exact Qb7 hr hes'
    refine .mk' ?_
    split
    ·simp[okV,qcy,hrz]
    ·exact hrz
 | slice k x lo hi mx=>simp only[exec] at h;exact qqw h fun v hs=>Qjh (hx x (by simp[ROp.xs])) hs
 | strSlice x lo hi =>
  simp only[exec] at h
  split at h
  ·split at h
   ·cases h
   ·split at h
    ·cases h
    ·cases h;exact .mk' rfl
  ·cases h
 | fieldAddr off x =>
  have hv:=hx x (by simp[ROp.xs])
  simp only[exec] at h
  split at h
  ·rename_i e;rw[e] at hv;simp[okV] at hv
  ·rename_i e;rw[e] at hv;obtain⟨_,h⟩:=qdj h;cases h;exact .mk' (by simpa[okV] using hv)
  ·rename_i e;rw[e] at hv;simp[okV] at hv
  ·cases h
 | field off n ag x =>
  have hv:=hx x (by simp[ROp.xs])
  simp only[exec] at h
  split at h
  ·rename_i e;rw[e] at hv;exact qqw h fun v hs=>qwd (by simpa[okV] using hv) hs
  ·cases h
 | idxAddr k x i =>
  have hv:=hx x (by simp[ROp.xs])
  simp only[exec] at h
  split at h
  ·rename_i e;rw[e] at hv
   split at h
   ·rename_i y hy
    obtain⟨_,h⟩:=qdj h;cases h
    exact .mk' (by simpa[okV] using qcb (qhs (by simpa[okV] using hv) hy))
   ·cases h
  ·rename_i e;rw[e] at hv;simp[okV] at hv
  ·cases h
 | idxAddrA k l x i =>
  have hv:=hx x (by simp[ROp.xs])
  simp only[exec] at h
  split at h
  ·rename_i e;rw[e] at hv;obtain⟨_,h⟩:=qdj h;cases h;exact .mk' (by simpa[okV] using hv)
  ·rename_i e;rw[e] at hv;simp[okV] at hv
  ·cases h
 | strIdx x i =>
  simp only[exec] at h
  split at h
  ·split at h
   ·cases h;exact .mk' rfl
   ·cases h
  ·cases h
 | extract j x =>
  have hv:=hx x (by simp[ROp.xs])
  simp only[exec] at h
  split at h
  ·rename_i e;rw[e] at hv
   split at h
   ·rename_i v hg'
    cases h;exact .mk' (qhs (by simpa[okV] using hv) hg')
   ·cases h
  ·cases h
 | len c x=>simp only[exec] at h;obtain⟨n,_,rfl⟩:=Option.map_eq_some_iff.1 h;exact .mk' rfl
 | minmax mx xs =>
  simp only[exec] at h
  split at h
  ·obtain⟨n,_,rfl⟩:=Option.map_eq_some_iff.1 h;exact .mk' rfl
  ·cases h
 | tassert t z ok x =>
  have hv:=hx x (by simp[ROp.xs])
  have hz:=ht t z ok x rfl
  simp only[exec] at h
  split at h
  ·rename_i e;rw[e] at hv
   split at h
   ·cases h
    refine .mk' ?_
    simp only[okV] at hv
    split
    ·simp[okV,qcy,hv]
    ·exact hv
   ·obtain⟨_,h⟩:=qdj h;cases h;exact .mk' (by simp[okV,qcy,hz])
  ·obtain⟨_,h⟩:=qdj h;cases h;exact .mk' (by simp[okV,qcy,hz])
  ·cases h
end Go.Ab


namespace Go.Ab
theorem qbv {α β:Type} {x:Option α} {f:α→Option β} {r:β} (h:qcd x f=some r):∃ a,x=some a∧f a=some r:=by
 cases x with
 | none=>cases h
 | some a=>exact⟨a,rfl,h⟩
theorem qbj {β:Type} {b:Bool} {a:Option β} {r:β} (h:qfl b a=some r):b=true∧a=some r:=by
 cases b with
 | false=>cases h
 | true=>exact⟨rfl,h⟩
theorem qj0 {β:Type} {b:Bool} {x y:Option β} {r:β} (h:iteB b x y=some r):(b=true∧x=some r)∨(b=false∧y=some r):=by
 cases b with
 | false=>exact .inr ⟨rfl,h⟩
 | true=>exact .inl ⟨rfl,h⟩
theorem qq7 {β:Type} {v:PV} {x y:Option β} {r:β} (h:Qcs v x y=some r):(v=.bool true∧x=some r)∨(v=.bool false∧y=some r):=by
 unfold Qcs at h
 split at h
 ·exact .inl ⟨rfl,h⟩
 ·exact .inr ⟨rfl,h⟩
 ·cases h
theorem qwr {a b:Nat}:leN a b=true↔a≤b:=by unfold leN;rw[Nat.ble_eq]
theorem qsm {a b:Nat}:ltN a b=true↔a < b:=by unfold ltN;rw[Nat.blt_eq]
theorem qxs {a b:Nat}:eqN a b=true↔a=b:=by unfold eqN;rw[Nat.beq_eq]
def Tells {R:Type} (K:qb2→Option R) (r:R) (x:Option Out):Prop:=∃ out:qb2,K out=some r∧out.Ok∧x=some out.out
theorem qb2.plain {v:KV} (h:v.ok):qb2.Ok {v}:=⟨h,by simp,by simp,by simp⟩
theorem qb2.one {v:KV} {o:KOb} (h:v.ok) (ho:o.ok):qb2.Ok {v,new:=[o]}:=⟨h,by simpa using ho,by simp,by simp⟩
theorem qb2.turn {v:KV} {nm:Nm} {o:KOb} (h:v.ok) (ho:o.ok):qb2.Ok {v,upd:=some (nm,o)}:=⟨h,by simp,fun _ _ e=>(by cases e;exact ho),by simp⟩
variable {ks:KSt} {d:Nat} {R:Type} {K:qb2→Option R} {r:R}
theorem ops_ok (h:ks.Ok) {xs:List RX} (hx:xs.all okX=true) {x:RX} (hm:x∈xs):(x.kv ks.tmps).ok:=kv_ok h (List.all_eq_true.1 hx x hm)
theorem cl_ev (h:ks.Ok) {x:RX} {v:PV} (hv:(x.kv ks.tmps).cl=some v):x.ev ks.st.tmps=v:=by rw[qsb h,KV.cl_pv hv]
theorem qj4 (h:ks.Ok) {op:ROp} (hx:op.xs.all okX=true) (hk:gO ks.tmps op K=some r):Tells K r (exec d (qbf ks.st.objs) ks.st.tmps op):=by
 unfold gO at hk
 split at hk
 ·rename_i hc
  simp only[Bool.and_eq_true] at hc
  obtain⟨⟨hg,hop⟩,hcl⟩:=hc
  obtain⟨z,hz,hk⟩:=qbv hk
  have hall:∀ x∈op.xs,∃ v,(x.kv ks.tmps).cl=some v:=fun x hm=>Option.isSome_iff_exists.1 (List.all_eq_true.1 hcl x hm)
  have hev:∀ x∈op.xs,okV (x.ev ks.st.tmps)=true:=fun x hm=>by
   obtain⟨v,hv⟩:=hall x hm
   rw[cl_ev h hv];exact KV.cl_ok (ops_ok h hx hm) hv
  have hmap:op.mapX (instX ks.tmps)=op.mapX (fun x=>.c (x.ev ks.st.tmps)):=mapX_congr op hg fun x hm=>by
   obtain⟨v,hv⟩:=hall x hm
   unfold instX;rw[hv,cl_ev h hv];rfl
  unfold qbz at hz
  rw[hmap,exec_inst _ _ _ _ hg] at hz
  split at hz
  ·rename_i out ho
   cases hz
   have hp:=exec_plain hg hev (fun z ps e=>by subst e;exact hop) (fun c z ok x k e=>by subst e;exact hop) (fun t z ok x e=>by subst e;exact hop) ho
   refine⟨{v:=.cv out.v},hk,qb2.plain hp.ok,?_⟩
   rw[Qgt hg hev,ho,hp.eq]
   rfl
  ·cases hz
 ·cases hk
theorem Qg7 {n:Nat} {x:KV} (hx:x.ok) {K:List KV→Option R} (hk:Qms n x K=some r):∃ cs,K cs=some r∧qfp cs∧pvL cs=x.pv.cells∧cs.length=n∧x.pv.isVal=true:=by
 unfold Qms at hk
 split at hk
 ·split at hk
  ·rename_i hn;exact⟨_,hk,hx,rfl,hn,rfl⟩
  ·cases hk
 ·rename_i v
  obtain⟨h1,h2⟩:=qbj hk
  unfold qmf at h1
  simp only[Bool.and_eq_true,beq_iff_eq] at h1
  refine⟨_,h2,?_,?_,by simp,h1.1⟩
  ·refine qcq.2 fun y hy=>?_
   obtain⟨i,hi,rfl⟩:=List.mem_map.1 hy
   have hv:okV v=true:=hx
   show okV (qt8 v i)=true
   unfold qt8
   rw[List.getD_eq_getElem?_getD]
   cases hg:v.cells[i]? with
   | none=>rfl
   | some c=>exact qhs (qcb hv) hg
  ·rw[qft,List.map_map]
   show _=v.cells
   apply List.ext_getElem?
   intro i
   rw[List.getElem?_map]
   by_cases hi:i < n
   ·rw[List.getElem?_range hi]
    show some (qt8 v i)=_
    unfold qt8
    rw[List.getD_eq_getElem?_getD]
    have:i < v.cells.length:=by omega
    simp[List.getElem?_eq_getElem this]
   ·rw[List.getElem?_eq_none (by simpa using hi),List.getElem?_eq_none (by omega)];rfl
 ·cases hk
 ·cases hk
 ·cases hk
 ·rename_i h1 h2 h3 h4 h5
  split at hk
  ·rename_i hn
   refine⟨_,hk,⟨hx,trivial⟩,?_,by simp[hn],?_⟩
   ·simp only[pvL]
    cases x<;>simp_all [KV.pv,PV.cells]
   ·cases x<;>simp_all [KV.pv,PV.isVal]
  ·cases hk
theorem qnb {l:List KV} (h:qfp l) (n:Nat):qfp (l.take n):=qcq.2 fun x hx=>qcq.1 h x (List.mem_of_mem_take hx)
theorem qnc {l:List KV} (h:qfp l) (n:Nat):qfp (l.drop n):=qcq.2 fun x hx=>qcq.1 h x (List.mem_of_mem_drop hx)
theorem qgc {l m:List KV} (h:qfp l) (h':qfp m):qfp (l++m):=qcq.2 fun x hx=>(List.mem_append.1 hx).elim (qcq.1 h x) (qcq.1 h' x)
theorem qn3 (l:List KV) (n:Nat):pvL (l.take n)=(pvL l).take n:=by rw[qft,qft,List.map_take]
theorem qn4 (l:List KV) (n:Nat):pvL (l.drop n)=(pvL l).drop n:=by rw[qft,qft,List.map_drop]
theorem qn5 (l m:List KV):pvL (l++m)=pvL l++pvL m:=by rw[qft,qft,qft,List.map_append]
theorem qdp (l:List KV):(pvL l).length=l.length:=by rw[qft,List.length_map]
theorem pvL_get? (l:List KV) (i:Nat):(pvL l)[i]?=(l[i]?).map KV.pv:=by rw[qft,List.getElem?_map]
theorem kfill_ok (h:ks.Ok):∀ (ps:List (Nat×Nat×RX)) {z:List KV} {K:List KV→Option R},(∀ x∈ps.map (·.2.2),okX x=true)→qfp z→kfill ks.tmps z ps K=some r→∃ cs,K cs=some r∧qfp cs∧qjk ks.st.tmps (pvL z) ps=some (pvL cs):=by
 intro ps
 induction ps with
 | nil=>intro z K _ hz hk;exact⟨z,hk,hz,rfl⟩
 | cons p ps ih =>
  obtain⟨off,n,x⟩:=p
  intro z K hx hz hk
  simp only[kfill] at hk
  obtain⟨cs,hk,hcs,hpv,hlen,hval⟩:=Qg7 (kv_ok h (hx x (by simp))) hk
  split at hk
  ·rename_i hle
   obtain⟨cs',h1,h2,h3⟩:=ih (fun y hy=>hx y (by simp only[List.map_cons,List.mem_cons];exact .inr hy)) (qgc (qgc (qnb hz _) hcs) (qnc hz _)) hk
   refine⟨cs',h1,h2,?_⟩
   have hl2:(pvL cs).length=n:=by rw[qdp,hlen]
   have hval':(x.ev ks.st.tmps).isVal=true:=by rw[qsb h];exact hval
   have hcl':(x.ev ks.st.tmps).cells=pvL cs:=by rw[qsb h];exact hpv.symm
   simp only[qjk]
   rw[hcl']
   unfold chk splice
   simp only[hval',hl2,qdp,decide_true,Bool.and_self,Bool.true_and,hle,if_true]
   rw[qn5,qn5,qn3,qn4] at h3
   exact h3
  ·cases hk
theorem qxt (h:ks.Ok) {k:Nat} {x:KV} (hx:x.ok) {K:List PV→Option R} (hk:Qgz (qck ks.objs) k x K=some r):∃ ys,K ys=some r∧qcy ys=true∧qk8 (qbf ks.st.objs) k x.pv=some ys:=by
 unfold Qgz at hk
 split at hk
 ·rename_i nm k' o n
  split at hk
  ·rename_i k'' kt xs hl
   split at hk
   ·rename_i hkk
    obtain⟨h1,h2⟩:=qbj hk
    rw[qwr] at h1
    have hok:qcy xs=true:=qcx h.ob hl
    refine⟨_,h2,qfu (qgw hok _) _,?_⟩
    have hl':qbf ks.st.objs nm=some (.arr k'' kt xs):=by rw[qja h,hl];rfl
    unfold qx9 qmz at h1
    simp[KV.pv,qk8,hl',chk,hkk.1,hkk.2,h1,qyc,dropL]
   ·cases hk
  ·cases hk
 ·split at hk
  ·rename_i v hv
   obtain⟨ys,h1,h2⟩:=qbv hk
   have hok:=KV.cl_ok hx hv
   have hpv:=KV.cl_pv hv
   unfold elemsO at h1
   have h3:qk8 (qbf ks.st.objs) k v=some ys:=by
    rw[←h1]
    exact qmo (by rw[(qfk hok).1];simp)
   refine⟨ys,h2,?_,by rw[hpv];exact h3⟩
   cases v with
   | sl k' xs f=>simp only[qk8] at h1;obtain⟨_,h1⟩:=qdj h1;cases h1;simpa[okV] using hok
   | nilS=>cases h1;rfl
   | str s=>simp only[qk8] at h1;obtain⟨_,h1⟩:=qdj h1;cases h1;exact Qfg _
   | arr nm k' o n=>simp[okV] at hok
   | _=>simp[qk8] at h1
  ·cases hk
theorem qxu {xs:List KV} (hx:qfp xs):(qbd (pvL xs)).isEmpty=(qc9 xs).isEmpty:=by rw[qdi hx]
theorem qfw {σ:Nm→Option KOb} (hσ:∀ nm o,σ nm=some o→o.ok):∀ (d:Nat) (l:List Nm),qlm σ d l=qbs (fun nm=>(σ nm).map KOb.ob) d l:=by
 intro d
 induction d with
 | zero=>intro l;rfl
 | succ d ih =>
  intro l
  simp only[qlm,qbs]
  have e:(l.flatMap fun nm=>((σ nm).map KOb.names).getD [])=l.flatMap fun nm=>(((σ nm).map KOb.ob).map Ob.names).getD []:=by
   congr 1
   funext nm
   cases ho:σ nm with
   | none=>rfl
   | some o=>simp[KOb.ob_names (hσ _ _ ho)]
  rw[ih,e]
theorem names_eq {σ:Nm→Option KOb} (hσ:∀ nm o,σ nm=some o→o.ok) (nm:Nm):((σ nm).map KOb.names).getD []=(((σ nm).map KOb.ob).map Ob.names).getD []:=by
 cases ho:σ nm with
 | none=>rfl
 | some o=>simp[KOb.ob_names (hσ _ _ ho)]
theorem qpc {σ:Nm→Option KOb} (hσ:∀ nm o,σ nm=some o→o.ok) (R:List Nm):Qfv σ R=qf7 (fun nm=>(σ nm).map KOb.ob) R:=by
 unfold Qfv qf7
 congr 1
 funext nm
 simp only
 rw[names_eq hσ]
theorem qnx (h:ks.Ok) {xs:List KV} (hx:qfp xs):qkb (qda (qck ks.objs) qbe) xs=qdy (qb5 (qbf ks.st.objs)) (pvL xs):=by
 rw[ql1 _ hx]
 congr 1
 funext nm
 exact kclosed_st h nm
theorem qnf (h:ks.Ok) (ps:List RX):ps.map (RX.ev ks.st.tmps)=pvL (ps.map (RX.kv ks.tmps)):=by
 rw[qft,List.map_map]
 exact List.map_congr_left fun x _=>qsb h x
theorem qwm (h:ks.Ok) {ps:List RX} (hx:ps.all okX=true):qfp (ps.map (RX.kv ks.tmps)):=qcq.2 fun v hv=>by
 obtain⟨x,hm,rfl⟩:=List.mem_map.1 hv
 exact ops_ok h hx hm
theorem qyi {z:PV} (hz:okV z=true) (n:Nat):qcy (List.replicate n z)=true:=qdm.2 fun x hx=>by rw[(List.mem_replicate.1 hx).2];exact hz
theorem Qlf {z:List PV} (hz:qcy z=true):qfp (z.map cstK):=qcq.2 fun v hv=>by
 obtain⟨x,hm,rfl⟩:=List.mem_map.1 hv
 exact cstK_ok (qdm.1 hz x hm)
theorem pvL_cst (z:List PV):pvL (z.map cstK)=z:=by
 rw[qft,List.map_map]
 have:KV.pv∘cstK=id:=funext fun v=>cstK_pv v
 rw[this,List.map_id]
theorem qwe {k v:PV}:∀ {es es':List PV},setE k v es=some es'→qcy es=true→okV k=true→okV v=true→qcy es'=true
 | [],es',h,_,hk,hv=>by simp[setE] at h;subst h;simp[qcy,hk,hv]
 | [_],es',h,_,_,_=>by simp[setE] at h
 | a :: u :: es,es',h,he,hk,hv=>by
  simp only[qcy,Bool.and_eq_true] at he
  simp only[setE] at h
  split at h
  ·cases h;simp[qcy,hk,hv,he.2.2]
  ·obtain⟨l,hl,rfl⟩:=Option.map_eq_some_iff.1 h
   simp[qcy,he.1,he.2.1,qwe hl he.2.2 hk hv]
  ·cases h
end Go.Ab


namespace Go.Ab
variable {ks:KSt} {d:Nat} {R:Type} {K:qb2→Option R} {r:R}
theorem cells_agg (cs:List PV):(PV.agg cs).cells=cs:=rfl
theorem execK_ok {cfg:qx7} (h:ks.Ok) {op:ROp} (hq:(qhz ks.objs||calmX cfg op ks.tmps)=true) (hx:op.xs.all okX=true) (hk:qg4 d (qck ks.objs) ks.tmps op K=some r):Tells K r (exec d (qbf ks.st.objs) ks.st.tmps op):=by
 have ev:=qsb h
 have lk:=qja h
 have hkv:∀ {x:RX},x∈op.xs→(x.kv ks.tmps).ok:=fun hm=>ops_ok h hx hm
 cases op with
 | mov x =>
  refine⟨_,hk,qb2.plain (hkv (by simp[ROp.xs])),?_⟩
  simp[exec,qb2.out,ev]
 | pick c a b =>
  have ha:=hkv (x:=a) (by simp[ROp.xs])
  have hb:=hkv (x:=b) (by simp[ROp.xs])
  simp only[qg4] at hk
  split at hk
  ·rename_i hc
   exact⟨_,hk,qb2.plain ha,by simp[exec,qb2.out,ev,hc,KV.pv]⟩
  ·rename_i hc
   exact⟨_,hk,qb2.plain hb,by simp[exec,qb2.out,ev,hc,KV.pv]⟩
  ·rename_i v hc
   rcases qq7 hk with ⟨rfl,hk⟩ | ⟨rfl,hk⟩
   ·exact⟨_,hk,qb2.plain ha,by simp[exec,qb2.out,ev,hc,KV.pv]⟩
   ·exact⟨_,hk,qb2.plain hb,by simp[exec,qb2.out,ev,hc,KV.pv]⟩
  ·cases hk
 | box x =>
  have ha:=hkv (x:=x) (by simp[ROp.xs])
  simp only[qg4] at hk
  split at hk
  ·rename_i v hv
   obtain⟨h1,hk⟩:=qbj hk
   rw[hv] at ha
   unfold valO at h1
   exact⟨_,hk,qb2.one (o:=.whole 0 v) trivial ha,by simp[exec,qb2.out,ev,hv,KV.pv,chk,h1,KOb.ob,qkd]⟩
  ·rename_i cs hv
   rw[hv] at ha
   exact⟨_,hk,qb2.one (o:=.cells 0 cs) trivial ha,by simp[exec,qb2.out,ev,hv,KV.pv,chk,PV.isVal,KOb.ob,PV.cells]⟩
  ·cases hk
  ·cases hk
  ·cases hk
  ·refine⟨_,hk,qb2.one (v:=.ref (d,0) 0) (o:=.cells 0 [x.kv ks.tmps]) trivial ⟨ha,trivial⟩,?_⟩
   simp only[exec,qb2.out,ev]
   cases hy:x.kv ks.tmps<;>simp_all [KV.pv,chk,PV.isVal,KOb.ob,PV.cells,pvL]
 | alloc ty z =>
  simp only[qg4] at hk
  split at hk
  ·rename_i hz
   exact⟨_,hk,qb2.one (o:=.cells _ (z.map cstK)) trivial (Qlf hz),by simp[exec,qb2.out,KV.pv,KOb.ob,pvL_cst]⟩
  ·cases hk
 | build z ps =>
  simp only[qg4] at hk
  split at hk
  ·exact qj4 h hx hk
  ·split at hk
   ·rename_i hz
    obtain⟨cs,h1,h2,h3⟩:=kfill_ok h ps (fun x hm=>List.all_eq_true.1 hx x hm) (Qlf hz) hk
    rw[pvL_cst] at h3
    exact⟨_,h1,qb2.plain (v:=.agg cs) h2,by simp[exec,qb2.out,h3,KV.pv]⟩
   ·cases hk
 | mkSl k ps =>
  have hok:=qwm h (ps:=ps) hx
  simp only[qg4] at hk
  split at hk
  ·rename_i vs hv
   obtain⟨h1,hk⟩:=qbj hk
   have hpv:=qt4 hv
   refine⟨_,hk,qb2.one (o:=.arr k 0 vs) trivial (qrx hok hv),?_⟩
   have hn:(qbd vs).isEmpty=true:=by rw[(qbx (qrx hok hv)).1];rfl
   unfold okSls at h1
   simp only[exec,qnf h,hpv,hn,if_true,qb2.out,KV.pv,KOb.ob,chk,h1,qmz,List.map_cons,List.map_nil,Option.map_none]
  ·split at hk
   ·cases hk
   ·rename_i hne
    split at hk
    ·rename_i hc
     obtain⟨h1,hk⟩:=qbj hk
     refine⟨_,hk,⟨trivial,?_,by simp,by simp⟩,?_⟩
     ·intro o ho
      simp only[List.mem_singleton] at ho
      subst ho
      exact qh7 (qgm (qb8 h) (qlf (by simpa[calmX] using hq)) qbe) hok hc.2
     ·have hne':(qbd (pvL (ps.map (RX.kv ks.tmps)))).isEmpty=false:=by rw[qxu hok];simpa using hne
      unfold okSls at h1
      rw[qnx h hok] at h1
      have hsh:=hc.1
      rw[qfw (qb8 h),qpc (qb8 h),←qdd h,←qdi hok] at hsh
      simp only[exec,qnf h,hne',Bool.false_eq_true,if_false,qb2.out,KV.pv,KOb.ob,qmz,List.map_cons,List.map_nil,Option.map_none]
      rw[qnx h hok,qfw (qb8 h),←qdd h,←qdi hok]
      unfold chk
      rw[h1,hsh]
      rfl
    ·cases hk
 | load n ag x =>
  have ha:=hkv (x:=x) (by simp[ROp.xs])
  simp only[qg4] at hk
  split at hk
  ·rename_i nm o hv
   split at hk
   ·rename_i cs hl
    have hcs:qfp cs:=qcx h.ob hl
    split at hk
    ·rename_i hag
     split at hk
     ·rename_i hle
      refine⟨_,hk,qb2.plain (v:=.agg ((cs.drop o).take n)) (qnb (qnc hcs _) _),?_⟩
      simp[exec,ev,hv,KV.pv,lk,hl,KOb.ob,sel,hag,chk,qdp,hle,qb2.out,qn3,qn4]
     ·cases hk
    ·rename_i hag
     split at hk
     ·rename_i c hc
      refine⟨_,hk,qb2.plain (qcq.1 hcs c (List.mem_of_getElem? hc)),?_⟩
      simp[exec,ev,hv,KV.pv,lk,hl,KOb.ob,sel,hag,pvL_get?,hc,qb2.out]
     ·cases hk
   ·rename_i v hl
    obtain⟨z,hz,hk⟩:=qbv hk
    have hv':okV v=true:=qcx h.ob hl
    unfold selO at hz
    refine⟨_,hk,qb2.plain (v:=.cv z) (qwd (qcb hv') hz),?_⟩
    simp[exec,ev,hv,KV.pv,lk,hl,KOb.ob,qkd,hz,qb2.out]
   ·cases hk
  ·rename_i nm k i o hv
   split at hk
   ·rename_i k' kt xs hl
    split at hk
    ·rename_i hkk
     obtain⟨z,hz,hk⟩:=qbv hk
     have hxs:qcy xs=true:=qcx h.ob hl
     unfold elemO at hz
     split at hz
     ·rename_i e he
      refine⟨_,hk,qb2.plain (v:=.cv z) (qwd (qcb (qhs hxs he)) hz),?_⟩
      simp[exec,ev,hv,KV.pv,lk,hl,KOb.ob,he,hz,chk,hkk,qb2.out]
     ·cases hz
    ·cases hk
   ·cases hk
  ·exact qj4 h hx hk
 | store n x v =>
  have ha:=hkv (x:=x) (by simp[ROp.xs])
  have hb:=hkv (x:=v) (by simp[ROp.xs])
  simp only[qg4] at hk
  split at hk
  ·rename_i nm o hv
   split at hk
   ·rename_i cs hl
    have hcs:qfp cs:=qcx h.ob hl
    obtain⟨vs,hk,hvs,hpv,hlen,hval⟩:=Qg7 hb hk
    split at hk
    ·rename_i hle
     refine⟨_,hk,qb2.turn (o:=.cells _ (cs.take o++vs++cs.drop (o+n))) trivial (qgc (qgc (qnb hcs _) hvs) (qnc hcs _)),?_⟩
     have hl2:(pvL vs).length=n:=by rw[qdp,hlen]
     simp[exec,ev,hv,KV.pv,lk,hl,KOb.ob,←hpv,hval,hl2,chk,qdp,hle,qb2.out,splice,qn5,qn3,qn4]
    ·cases hk
   ·rename_i w hl
    split at hk
    ·rename_i u hu
     obtain⟨h1,hk⟩:=qbj hk
     have hw:okV w=true:=qcx h.ob hl
     have huo:=KV.cl_ok hb hu
     unfold okSto at h1
     simp only[Bool.and_eq_true,decide_eq_true_eq] at h1
     refine⟨_,hk,qb2.turn (o:=.whole _ (stoP u w o)) trivial ?_,?_⟩
     ·show okV (stoP u w o)=true
      simpa[stoP,okV,splice] using qd0 (qfu (qcb hw) o) (qd0 (qcb huo) (qgw (qcb hw) _))
     ·have hpv:=KV.cl_pv hu
      simp[exec,ev,hv,KV.pv,lk,hl,KOb.ob,qkd,hpv,h1.1.1,h1.1.2,h1.2,chk,qb2.out,stoP,cells_agg]
    ·cases hk
   ·cases hk
  ·rename_i nm k i o hv
   split at hk
   ·rename_i k' kt xs hl
    split at hk
    ·rename_i u hu
     split at hk
     ·rename_i hkk
      obtain⟨ys,hys,hk⟩:=qbv hk
      have hxs:qcy xs=true:=qcx h.ob hl
      have huo:=KV.cl_ok hb hu
      have hpv:=KV.cl_pv hu
      unfold setO at hys
      split at hys
      ·rename_i es he
       obtain⟨h1,h2⟩:=qbj hys
       cases h2
       simp only[Bool.and_eq_true,decide_eq_true_eq] at h1
       have heo:qcy es=true:=by simpa[okV] using qhs hxs he
       refine⟨_,hk,qb2.turn (o:=.arr k kt _) trivial ?_,?_⟩
       ·refine Qle hxs i ?_
        simpa[okV,splice] using qd0 (qfu heo o) (qd0 (qcb huo) (qgw heo _))
       ·have hn:(qbd u.cells).isEmpty=true:=by rw[(qbx (qcb huo)).1];rfl
        simp[exec,ev,hv,KV.pv,lk,hl,KOb.ob,he,hpv,h1.1.1,h1.1.2,h1.2,chk,hkk,qb2.out]
        rw[(qbx (qcb huo)).1]
      ·rename_i e hne he
       obtain⟨h1,h2⟩:=qbj hys
       cases h2
       simp only[Bool.and_eq_true,beq_iff_eq] at h1
       refine⟨_,hk,qb2.turn (o:=.arr k kt _) trivial (Qle hxs i huo),?_⟩
       have hn:u.names=[]:=(qfk huo).1
       simp only[exec,ev,hv,KV.pv,lk,hl,Option.map_some,KOb.ob,he,hpv]
       subst hkk
       simp[chk,h1.1.1.1,h1.1.1.2,h1.1.2,h1.2,hn,qb2.out,KOb.ob,KV.pv]
      ·cases hys
     ·cases hk
    ·cases hk
   ·cases hk
  ·cases hk
 | nilck x =>
  have ha:=hkv (x:=x) (by simp[ROp.xs])
  simp only[qg4] at hk
  split at hk
  ·rename_i hv;exact⟨_,hk,qb2.plain (by trivial),by simp[exec,ev,hv,KV.pv,qb2.out]⟩
  ·rename_i hv;exact⟨_,hk,qb2.plain (by trivial),by simp[exec,ev,hv,KV.pv,qb2.out]⟩
  ·rename_i hv;rw[hv] at ha;exact⟨_,hk,qb2.plain ha,by simp[exec,ev,hv,KV.pv,qb2.out]⟩
  ·rename_i hv;exact⟨_,hk,qb2.plain (by trivial),by simp[exec,ev,hv,KV.pv,qb2.out]⟩
  ·exact qj4 h hx hk
 | bin o c cst x y =>
  simp only[qg4] at hk
  split at hk
  ·rename_i nm o' v h1 h2
   split at hk
   ·rcases qj0 hk with ⟨hc,hk⟩ | ⟨_,hk⟩
    ·split at hc
     ·refine⟨_,hk,qb2.plain (v:=.lit false) trivial,?_⟩
      simp[exec,ev,h1,h2,KV.pv,qmu,Qgw,qb2.out]
     ·cases hc
    ·cases hk
   ·rcases qj0 hk with ⟨hc,hk⟩ | ⟨_,hk⟩
    ·split at hc
     ·refine⟨_,hk,qb2.plain (v:=.lit true) trivial,?_⟩
      simp[exec,ev,h1,h2,KV.pv,qmu,Qgw,qb2.out]
     ·cases hc
    ·cases hk
   ·cases hk
  ·exact qj4 h hx hk
 | un o x =>
  cases o with
  | not =>
   simp only[qg4] at hk
   split at hk
   ·rename_i b hv
    exact⟨_,hk,qb2.plain (v:=.lit (!b)) trivial,by simp[exec,ev,hv,KV.pv,qb2.out]⟩
   ·exact qj4 h hx hk
  | _=>exact qj4 h hx hk
 | mkI t x =>
  have ha:=hkv (x:=x) (by simp[ROp.xs])
  simp only[qg4] at hk
  split at hk
  ·rename_i v hv
   refine⟨_,hk,qb2.plain (v:=.cv (.iface t v)) ?_,?_⟩
   ·show okV (.iface t v)=true
    simpa[okV] using KV.cl_ok ha hv
   ·simp[exec,ev,KV.cl_pv hv,KV.pv,qb2.out]
  ·split at hk
   ·cases hk
   ·cases hk
   ·cases hk
   ·cases hk
   ·exact⟨_,hk,qb2.plain (v:=.iface t (x.kv ks.tmps)) ha,by simp[exec,ev,KV.pv,qb2.out]⟩
 | mkF f cap =>
  simp only[qg4] at hk
  split at hk
  ·refine⟨_,hk,qb2.plain (v:=.fn f (cap.map (RX.kv ks.tmps))) (qwm h hx),?_⟩
   simp[exec,qb2.out,KV.pv,qnf h]
  ·cases hk
 | mkMap=>exact⟨_,hk,qb2.one (o:=.map []) trivial rfl,by simp[exec,qb2.out,KV.pv,KOb.ob]⟩
 | insert c x k v =>
  have hb:=hkv (x:=k) (by simp[ROp.xs])
  have hc:=hkv (x:=v) (by simp[ROp.xs])
  simp only[qg4] at hk
  split at hk
  ·rename_i nm hv
   split at hk
   ·rename_i es kk vv hl h1 h2
    obtain⟨es',he,hk⟩:=qbv hk
    have hes:qcy es=true:=qcx h.ob hl
    have hko:=KV.cl_ok hb h1
    have hvo:=KV.cl_ok hc h2
    unfold insO at he
    split at he
    ·rename_i es2 hs
     obtain⟨h3,h4⟩:=qbj he
     cases h4
     simp only[Bool.and_eq_true] at h3
     refine⟨_,hk,qb2.turn (o:=.map es') trivial (qwe hs hes hko hvo),?_⟩
     have hn:vv.names=[]:=(qfk hvo).1
     simp[exec,ev,hv,KV.pv,lk,hl,KOb.ob,KV.cl_pv h1,KV.cl_pv h2,hs,chk,h3.1,h3.2,hn,qb2.out]
    ·cases he
   ·rename_i es kk hl h1 h2
    split at hk
    ·cases hk
    ·rename_i hne
     split at hk
     ·rename_i hcond
      obtain⟨hsh,hy,hcn⟩:=hcond
      obtain⟨es',he,hk⟩:=qbv hk
      have hes:qcy es=true:=qcx h.ob hl
      have hko:=KV.cl_ok hb h1
      have hok1:qfp [v.kv ks.tmps]:=⟨hc,trivial⟩
      have hcl:=qnx h hok1
      have hclo:=qh7 (qgm (qb8 h) (qlf (by simpa[calmX] using hq)) qbe) hok1 hy
      have e1:nth (qkb (qda (qck ks.objs) qbe) [v.kv ks.tmps]) 0=((v.kv ks.tmps).pv).sub (qb5 (qbf ks.st.objs)):=by
       rw[hcl];simp[pvL,qdy,nth]
      have hvo:okV (((v.kv ks.tmps).pv).sub (qb5 (qbf ks.st.objs)))=true:=by
       rw[←e1]
       rw[hcl] at hclo ⊢
       exact (Bool.and_eq_true_iff.1 hclo).1
      rw[e1] at he
      have hn2:((v.kv ks.tmps).pv).names.isEmpty=false:=by
       rw[KV.pv_names hc];simpa[qc9] using hne
      have hrch:qlm (qck ks.objs) qbe (qc9 [v.kv ks.tmps])=qbs (qbf ks.st.objs) qbe ((v.kv ks.tmps).pv).names:=by
       rw[qfw (qb8 h),←qdd h,KV.pv_names hc];simp[qc9]
      rw[hrch,qpc (qb8 h),←qdd h] at hsh
      rw[hrch] at hcn hk
      have hcn':¬ nm∈qbs (qbf ks.st.objs) qbe ((v.kv ks.tmps).pv).names:=fun hm=>by rw[List.contains_iff_mem.2 hm] at hcn;cases hcn
      unfold insO at he
      split at he
      ·rename_i es2 hs
       obtain⟨h3,h4⟩:=qbj he
       cases h4
       simp only[Bool.and_eq_true] at h3
       refine⟨_,hk,⟨trivial,by simp,fun m o' e=>by cases e;exact qwe hs hes hko hvo,by simp⟩,?_⟩
       simp[exec,ev,hv,KV.pv,lk,hl,KOb.ob,KV.cl_pv h1,hn2,hs,chk,h3.1,h3.2,hsh,hcn',qb2.out]
      ·cases he
     ·cases hk
   ·cases hk
  ·cases hk
 | lookup c z ok x k =>
  have hb:=hkv (x:=k) (by simp[ROp.xs])
  simp only[qg4] at hk
  split at hk
  ·rename_i nm hv
   split at hk
   ·rename_i es kk hl h1
    split at hk
    case isFalse=>cases hk
    rename_i hz
    obtain⟨u,hu,hk⟩:=qbv hk
    have hes:qcy es=true:=qcx h.ob hl
    unfold lookO at hu
    split at hu
    ·cases hu
    ·rename_i r' hr
     obtain⟨h3,h4⟩:=qbj hu
     cases h4
     have hrz:okV (r'.getD z)=true:=by
      cases r' with
      | none=>exact hz
      | some v=>exact Qb7 hr hes
     refine⟨_,hk,qb2.plain (v:=.cv _) ?_,?_⟩
     ·show okV _=true
      split
      ·simp[okV,qcy,hrz]
      ·exact hrz
     ·simp[exec,ev,hv,KV.pv,lk,hl,KOb.ob,KV.cl_pv h1,hr,chk,h3,qb2.out]
   ·cases hk
  ·exact qj4 h hx hk
 | mkS k z l c =>
  simp only[qg4] at hk
  split at hk
  ·rename_i lv cv hl hc
   split at hk
   ·rename_i hz
    obtain⟨n,hn,hk⟩:=qbv hk
    unfold mkSO at hn
    split at hn
    ·rename_i a b h1 h2
     obtain⟨h3,h4⟩:=qbj hn
     cases h4
     refine⟨_,hk,qb2.one (o:=.arr k 0 (replL _ z)) trivial (qyi hz.2 _),?_⟩
     simp only[Bool.and_eq_true,decide_eq_true_eq] at h3
     simp[exec,ev,KV.cl_pv hl,KV.cl_pv hc,h1,h2,chk,h3.1,h3.2,hz.1,qb2.out,KV.pv,KOb.ob,replL]
    ·cases hn
   ·cases hk
  ·cases hk
 | slice k x lo hi mx =>
  simp only[qg4] at hk
  split at hk
  ·rename_i nm k' o n hv
   split at hk
   ·rename_i hc
    obtain⟨hkk,hmx,hall⟩:=hc
    obtain⟨m,hm,hk⟩:=qbv hk
    obtain⟨hh,hhi,hk⟩:=qbv hk
    have hev:∀ (y:Option RX),(∀ z∈y.toList,z∈lo.toList++hi.toList++mx.toList)→(y.map fun z=>((z.kv ks.tmps).cl).getD .undef)=evO ks.st.tmps y:=by
     intro y hy
     cases y with
     | none=>rfl
     | some z =>
      have:=List.all_eq_true.1 hall z (hy z (by simp))
      obtain⟨v,hv⟩:=Option.isSome_iff_exists.1 this
      simp[evO,hv,ev,KV.cl_pv hv]
    rw[hev mx (fun z hz=>by simp only[List.mem_append];exact .inr hz)] at hm
    rw[hev hi (fun z hz=>by simp only[List.mem_append];exact .inl (.inr hz))] at hhi
    unfold Qha at hm hhi
    subst hkk
    have hmx':((mx.map (RX.ev ks.st.tmps)).isNone||(hi.map (RX.ev ks.st.tmps)).isSome)=true:=by
     rcases hmx with e | e
     ·cases mx with
      | none=>rfl
      | some _=>cases e
     ·cases hi with
      | none=>cases e
      | some _=>simp
    have hevO:∀ y:Option RX,evO ks.st.tmps y=y.map (RX.ev ks.st.tmps):=fun y=>by cases y<;>rfl
    rw[hevO] at hm hhi
    cases lo with
    | none =>
     refine⟨_,hk,qb2.plain (v:=.arr nm k o hh) trivial,?_⟩
     have hb0:ql2 (none:Option PV) 0 hh=some 0:=rfl
     simp only[exec,ev,hv,KV.pv,ql8,hevO,hm,hhi,Option.map_none,hb0,chk,beq_self_eq_true,Bool.true_and,hmx',if_true,qb2.out]
     simp
    | some lo' =>
     obtain⟨l,hl,hk⟩:=qbv hk
     have hlo:=hev (some lo') (by simp)
     simp only[Option.map_some] at hlo
     rw[hlo] at hl
     unfold Qha at hl
     rw[hevO] at hl
     rcases qj0 hk with ⟨h1,hk⟩ | ⟨h1,hk⟩
     ·unfold andB at h1
      simp only[Bool.and_eq_true,qxs,qsm] at h1
      refine⟨_,hk,qb2.plain (v:=.cv (.sl k [] false)) rfl,?_⟩
      have h2:hh=l∧0 < l:=h1
      simp only[exec,ev,hv,KV.pv,ql8,hevO,hm,hhi,hl,chk,beq_self_eq_true,Bool.true_and,hmx',if_true,qb2.out,if_pos h2]
      rfl
     ·unfold andB at h1
      simp only[Bool.and_eq_false_iff] at h1
      have h2:¬ (hh=l∧0 < l):=by
       rintro ⟨a,b⟩
       rcases h1 with h1 | h1
       ·rw[show eqN hh l=true from qxs.2 a] at h1;cases h1
       ·rw[show ltN 0 l=true from qsm.2 b] at h1;cases h1
      refine⟨_,hk,qb2.plain (v:=.arr nm k (qx9 o l) (subN hh l)) trivial,?_⟩
      simp only[exec,ev,hv,KV.pv,ql8,hevO,hm,hhi,hl,chk,beq_self_eq_true,Bool.true_and,hmx',if_true,qb2.out,if_neg h2,qx9,subN]
      rfl
   ·cases hk
  ·exact qj4 h hx hk
 | fieldAddr off x =>
  simp only[qg4] at hk
  split at hk
  ·rename_i hv;exact⟨_,hk,qb2.plain (by trivial),by simp[exec,ev,hv,KV.pv,qb2.out]⟩
  ·rename_i hv;exact⟨_,hk,qb2.plain (by trivial),by simp[exec,ev,hv,KV.pv,qb2.out]⟩
  ·exact qj4 h hx hk
 | field off n ag x =>
  have ha:=hkv (x:=x) (by simp[ROp.xs])
  simp only[qg4] at hk
  split at hk
  ·rename_i cs hv
   rw[hv] at ha
   have hcs:qfp cs:=ha
   split at hk
   ·rename_i hag
    split at hk
    ·rename_i hle
     refine⟨_,hk,qb2.plain (v:=.agg ((cs.drop off).take n)) (qnb (qnc hcs _) _),?_⟩
     simp[exec,ev,hv,KV.pv,sel,hag,chk,qdp,hle,qb2.out,qn3,qn4]
    ·cases hk
   ·rename_i hag
    split at hk
    ·rename_i c hc
     refine⟨_,hk,qb2.plain (qcq.1 hcs c (List.mem_of_getElem? hc)),?_⟩
     simp[exec,ev,hv,KV.pv,sel,hag,pvL_get?,hc,qb2.out]
    ·cases hk
  ·exact qj4 h hx hk
 | idxAddr k x i =>
  simp only[qg4] at hk
  split at hk
  ·rename_i nm k' o n hv
   split at hk
   ·rename_i iv hi
    split at hk
    ·rename_i hkk
     obtain⟨j,hj,hk⟩:=qbv hk
     obtain⟨h1,hk⟩:=qbj hk
     rw[qsm] at h1
     unfold natO at hj
     refine⟨_,hk,qb2.plain (v:=.aref nm k (qx9 o j) 0) trivial,?_⟩
     simp[exec,ev,hv,KV.pv,KV.cl_pv hi,hj,chk,hkk,h1,qb2.out,qx9]
    ·cases hk
   ·cases hk
  ·exact qj4 h hx hk
 | extract j x =>
  have ha:=hkv (x:=x) (by simp[ROp.xs])
  simp only[qg4] at hk
  split at hk
  ·rename_i xs hv
   rw[hv] at ha
   have hxs:qfp xs:=ha
   split at hk
   ·rename_i v hj
    refine⟨_,hk,qb2.plain (qcq.1 hxs v (List.mem_of_getElem? hj)),?_⟩
    simp[exec,ev,hv,KV.pv,pvL_get?,hj,qb2.out]
   ·cases hk
  ·exact qj4 h hx hk
 | len c x =>
  simp only[qg4] at hk
  split at hk
  ·rename_i nm k o n hv
   split at hk
   ·exact⟨_,hk,qb2.plain (v:=.cv (nI n)) rfl,by simp[exec,ev,hv,KV.pv,Qci,qb2.out,nI]⟩
   ·cases hk
  ·rename_i nm hv
   split at hk
   ·rename_i es hl
    exact⟨_,hk,qb2.plain (v:=.cv (nI (halfN (qmz es)))) rfl,by simp[exec,ev,hv,KV.pv,Qci,lk,hl,KOb.ob,qb2.out,nI,halfN,qmz]⟩
   ·cases hk
  ·exact qj4 h hx hk
 | append k ty s x =>
  have ha:=hkv (x:=s) (by simp[ROp.xs])
  have hb:=hkv (x:=x) (by simp[ROp.xs])
  simp only[qg4] at hk
  obtain⟨ys,hk,hyo,hys⟩:=qxt h hb hk
  split at hk
  ·rename_i nm k' o n hv
   split at hk
   ·rename_i k'' kt xs hl
    split at hk
    ·rename_i hkk
     obtain⟨rfl,rfl,rfl⟩:=hkk
     obtain⟨h1,hk⟩:=qbj hk
     unfold andB at h1
     simp only[Bool.and_eq_true,qwr,qmz,qx9] at h1
     have hxs:qcy xs=true:=qcx h.ob hl
     refine⟨_,hk,⟨trivial,by simp,?_,by simp⟩,?_⟩
     ·intro m o' e;cases e;exact qd0 (qfu hxs n) hyo
     ·simp[exec,ev,hys,hv,KV.pv,lk,hl,KOb.ob,chk,h1.1,h1.2,qb2.out,qx9,qmz,catL,qyc]
    ·cases hk
   ·cases hk
  ·rename_i hv
   obtain⟨h1,hk⟩:=qbj hk
   simp only[qwr,qmz] at h1
   exact⟨_,hk,qb2.one (o:=.arr k ty ys) trivial hyo,by simp[exec,ev,hys,hv,KV.pv,chk,h1,qb2.out,KOb.ob,qmz]⟩
  ·rename_i v hv
   obtain⟨zs,hz,hk2⟩:=qbv hk
   rw[hv] at ha
   have hvo:okV v=true:=ha
   unfold appO at hz
   split at hz
   ·obtain⟨h1,h2⟩:=qbj hz
    cases h2
    exact⟨_,hk2,qb2.one (o:=.arr k ty ys) trivial hyo,by simp at h1;simp[exec,ev,hys,hv,KV.pv,chk,h1,qb2.out,KOb.ob,qmz]⟩
   ·rename_i k' xs
    split at hz
    ·cases hz
    ·rename_i y ys'
     obtain⟨h1,h2⟩:=qbj hz
     cases h2
     simp only[Bool.and_eq_true,beq_iff_eq,decide_eq_true_eq] at h1
     obtain⟨rfl,h1⟩:=h1
     refine⟨_,hk2,qb2.one (o:=.arr k ty (xs++y :: ys')) trivial (qd0 (by simpa[okV] using hvo) hyo),?_⟩
     simp[exec,ev,hys,hv,KV.pv,chk,h1,qb2.out,KOb.ob,qmz]
   ·cases hz
  ·cases hk
 | copy k x s =>
  have ha:=hkv (x:=x) (by simp[ROp.xs])
  have hb:=hkv (x:=s) (by simp[ROp.xs])
  simp only[qg4] at hk
  obtain⟨ys,hk,hyo,hys⟩:=qxt h hb hk
  split at hk
  ·rename_i nm k' o n hv
   split at hk
   ·rename_i k'' kt xs hl
    split at hk
    ·rename_i hkk
     obtain⟨rfl,rfl⟩:=hkk
     obtain⟨h1,hk⟩:=qbj hk
     simp only[qwr,qmz,qx9] at h1
     have hxs:qcy xs=true:=qcx h.ob hl
     refine⟨_,hk,qb2.turn (o:=.arr k kt _) rfl (qd0 (qd0 (qfu hxs o) (qfu hyo n)) (qgw hxs _)),?_⟩
     simp[exec,ev,hys,hv,KV.pv,lk,hl,KOb.ob,chk,h1,qb2.out,qx9,qmz,catL,qyc,dropL,nI,minN]
     omega
    ·cases hk
   ·cases hk
  ·rename_i hv
   exact⟨_,hk,qb2.plain (v:=.cv (nI 0)) rfl,by simp[exec,ev,hys,hv,KV.pv,qb2.out,nI]⟩
  ·cases hk
 | iter x =>
  simp only[qg4] at hk
  split at hk
  ·rename_i v hv
   obtain⟨s,hs,hk⟩:=qbv hk
   unfold strO at hs
   split at hs
   ·cases hs
    exact⟨_,hk,qb2.one (o:=.siter s 0) trivial trivial,by simp[exec,ev,KV.cl_pv hv,qb2.out,KV.pv,KOb.ob]⟩
   ·cases hs
  ·cases hk
 | next x =>
  simp only[qg4] at hk
  split at hk
  ·rename_i nm hv
   split at hk
   ·rename_i s pos hl
    rcases qj0 hk with ⟨h1,hk⟩ | ⟨h1,hk⟩
    ·rw[qsm] at h1
     unfold lenS at h1
     refine⟨_,hk,qb2.turn (o:=.siter s (qx9 pos (runeN s pos))) (v:=.tup [.lit true,.cv (nI pos),.cv (runeP s pos)]) ⟨trivial,rfl,rfl,trivial⟩ trivial,?_⟩
     simp[exec,ev,hv,KV.pv,lk,hl,KOb.ob,h1,qb2.out,pvL,nI,runeP,runeN,qx9]
    ·have h2:¬ pos < s.length:=by
      intro h3;rw[show ltN pos (lenS s)=true from qsm.2 h3] at h1;cases h1
     refine⟨_,hk,qb2.plain (v:=.tup [.lit false]) ⟨trivial,trivial⟩,?_⟩
     simp[exec,ev,hv,KV.pv,lk,hl,KOb.ob,h2,qb2.out,pvL]
   ·cases hk
  ·cases hk
 | tassert t z ok x =>
  have ha:=hkv (x:=x) (by simp[ROp.xs])
  simp only[qg4] at hk
  split at hk
  ·rename_i u y hv
   rw[hv] at ha
   have hy:y.ok:=ha
   split at hk
   ·rename_i hut
    refine⟨_,hk,qb2.plain ?_,?_⟩
    ·split
     ·exact⟨hy,trivial,trivial⟩
     ·exact hy
    ·simp only[exec,ev,hv,KV.pv,hut,if_true,qb2.out]
     cases ok<;>simp[KV.pv,pvL]
   ·rename_i hut
    split at hk
    ·rename_i hz
     refine⟨_,hk,qb2.plain (v:=.tup [.cv z,.lit false]) ⟨hz.2,trivial,trivial⟩,?_⟩
     simp[exec,ev,hv,KV.pv,hut,chk,hz.1,qb2.out,pvL]
    ·cases hk
  ·exact qj4 h hx hk
 | call f args=>cases hk
 | bad=>cases hk
 | conv k x=>exact qj4 h hx hk
 | toBytes x=>exact qj4 h hx hk
 | ofBytes x =>
  have ha:=hkv (x:=x) (by simp[ROp.xs])
  simp only[qg4] at hk
  split at hk
  ·rename_i nm k o n hv
   rw[hv] at ha
   obtain⟨ys,hk,hyo,hys⟩:=qxt h ha hk
   obtain⟨z,hz,hk⟩:=qbv hk
   simp only[qbz,exec,RX.ev,isStr,Bool.not_false,chk,if_true,qk8,beq_self_eq_true] at hz
   cases hb:qhp ys with
   | none=>rw[hb] at hz;cases hz
   | some s =>
    rw[hb] at hz
    cases hz
    refine⟨_,hk,qb2.plain (v:=.cv (.str s)) rfl,?_⟩
    have hys':qk8 (qbf ks.st.objs) 1 (.arr nm k o n)=some ys:=hys
    simp[exec,ev,hv,KV.pv,isStr,chk,hys',hb,qb2.out]
  ·exact qj4 h hx hk
 | ofRune x=>exact qj4 h hx hk
 | strId x=>exact qj4 h hx hk
 | strSlice x lo hi=>exact qj4 h hx hk
 | idxAddrA k l x i=>exact qj4 h hx hk
 | strIdx x i=>exact qj4 h hx hk
 | minmax mx xs=>exact qj4 h hx hk
end Go.Ab


namespace Go.Ab
theorem KOb.ren_ob (f:Nm→Nm) {o:KOb} (h:o.ok):(o.ren f).ob=o.ob.ren f:=by
 cases o with
 | cells ty cs=>simp[KOb.ren,KOb.ob,Ob.ren,qse f h]
 | whole ty v =>
  have:=(qbx (qcb h)).1
  simp only[KOb.ren,KOb.ob,Ob.ren,qkd]
  rw[qm8 this]
 | _=>rfl
theorem KOb.ren_ok (f:Nm→Nm) {o:KOb} (h:o.ok):(o.ren f).ok:=by
 cases o with
 | cells ty cs=>exact qpd f h
 | _=>exact h
theorem qv9 (f:Nm→Nm) (xs ys:List PV):qf1 f (xs++ys)=qf1 f xs++qf1 f ys:=by
 induction xs with
 | nil=>rfl
 | cons x xs ih=>simp[qf1,ih]
def Seg (vs:List PV) (i:Nat) (l:List PV):Prop:=∀ m v,l[m]?=some v→nth vs (i+m)=v
theorem Seg.left {vs:List PV} {i:Nat} {a b:List PV} (h:Seg vs i (a++b)):Seg vs i a:=fun m v hm=>h m v (by
 rw[List.getElem?_append_left (List.getElem?_eq_some_iff.1 hm).1];exact hm)
theorem Seg.right {vs:List PV} {i:Nat} {a b:List PV} (h:Seg vs i (a++b)):Seg vs (i+a.length) b:=fun m v hm=>by
 have:=h (a.length+m) v (by rw[List.getElem?_append_right (by omega)];simpa using hm)
 rw[←this,Nat.add_assoc]
theorem Seg.head {vs:List PV} {i:Nat} {x:PV} {l:List PV} (h:Seg vs i (x :: l)):nth vs i=x:=h 0 x rfl
theorem Seg.all (vs:List PV):Seg vs 0 vs:=fun m v hm=>by
 unfold nth;rw[List.getD_eq_getElem?_getD,Nat.zero_add,hm];rfl
theorem qwq {x:KV} (hx:x.ok) (hf:x.cl.isSome=true) {vs:List PV} {i:Nat} (h:Seg vs i [x.cl.getD .undef]):(KV.cv (nth vs i)).pv=x.pv∧(KV.cv (nth vs i)).ok:=by
 obtain⟨v,hv⟩:=Option.isSome_iff_exists.1 hf
 have:=h.head
 rw[hv] at this
 simp only[Option.getD_some] at this
 rw[this]
 exact⟨(KV.cl_pv hv).symm,KV.cl_ok hx hv⟩
theorem un_fill {p:KV} {vs:List PV} {i:Nat} (h:qqd p=false):qqd (fill p vs i).1=false:=by
 cases p<;>simp[qqd] at h<;>simp only[fill]<;>first | rfl | (split<;>rfl)
mutual
theorem Qj4:∀ (p x:KV),qgu p x=true→x.ok→∀ (vs:List PV) (i:Nat),Seg vs i (qc6 p x)→(fill p vs i).1.pv=x.pv∧(fill p vs i).1.ok∧(fill p vs i).2=i+(qc6 p x).length
 | .un,x,h,_,vs,i,_=>by cases x<;>simp[qgu] at h;exact⟨rfl,trivial,rfl⟩
 | .sk,x,h,_,vs,i,_=>by cases x<;>simp[qgu] at h;exact⟨rfl,trivial,rfl⟩
 | .yld d,x,h,_,vs,i,hs=>by
  cases x with
  | yld d' =>
   have h1:nth vs i=nI d':=hs.head
   simp[fill,KV.pv,h1,nI,Qlh,KV.ok,qc6]
  | _=>simp[qgu] at h
 | .ref nm o,x,h,_,vs,i,_=>by cases x<;>simp[qgu] at h;obtain⟨rfl,rfl⟩:=h;exact⟨rfl,trivial,rfl⟩
 | .aref _ _ _ _,x,h,_,vs,i,_=>by simp[qgu] at h
 | .mp nm,x,h,_,vs,i,_=>by cases x<;>simp[qgu] at h;subst h;exact⟨rfl,trivial,rfl⟩
 | .it nm,x,h,_,vs,i,_=>by cases x<;>simp[qgu] at h;subst h;exact⟨rfl,trivial,rfl⟩
 | .wit nm,x,h,_,vs,i,_=>by cases x<;>simp[qgu] at h;subst h;exact⟨rfl,trivial,rfl⟩
 | .arr nm k o n,x,h,_,vs,i,hs=>by
  cases x with
  | arr nm' k' o' n' =>
   simp only[qgu,Bool.and_eq_true,beq_iff_eq] at h
   obtain⟨⟨rfl,rfl⟩,ho⟩:=h
   have:=Nat.eq_of_beq_eq_true ho
   subst this
   have h1:nth vs i=nI n':=hs.head
   simp[fill,KV.pv,h1,nI,Qlh,KV.ok,qc6]
  | _=>simp[qgu] at h
 | .lit b,x,h,hx,vs,i,hs=>by
  have:=qwq hx (by simpa[qgu] using h) (by simpa[qc6] using hs)
  exact⟨this.1,this.2,by simp[fill,qc6]⟩
 | .nils,x,h,hx,vs,i,hs=>by
  have:=qwq hx (by simpa[qgu] using h) (by simpa[qc6] using hs)
  exact⟨this.1,this.2,by simp[fill,qc6]⟩
 | .cv v,x,h,hx,vs,i,hs=>by
  have:=qwq hx (by simpa[qgu] using h) (by simpa[qc6] using hs)
  exact⟨this.1,this.2,by simp[fill,qc6]⟩
 | .fn f cap,x,h,hx,vs,i,hs=>by
  cases x with
  | fn f' cap' =>
   simp only[qgu,Bool.and_eq_true,beq_iff_eq] at h
   obtain⟨rfl,h⟩:=h
   obtain⟨a,b,c⟩:=qpl cap cap' h hx vs i (by simpa[qc6] using hs)
   exact⟨by simp[fill,KV.pv,a],b,by simp[fill,qc6,c]⟩
  | _=>simp[qgu] at h
 | .tup xs,x,h,hx,vs,i,hs=>by
  cases x with
  | tup ys =>
   simp only[qgu] at h
   obtain⟨a,b,c⟩:=qpl xs ys h hx vs i (by simpa[qc6] using hs)
   exact⟨by simp[fill,KV.pv,a],b,by simp[fill,qc6,c]⟩
  | _=>simp[qgu] at h
 | .agg cs,x,h,hx,vs,i,hs=>by
  simp only[qgu] at h
  simp only[qc6] at hs
  by_cases hc:(clL cs).isSome=true
  ·rw[if_pos hc] at h hs
   have:=qwq hx h hs
   simp only[fill,hc,if_true]
   exact⟨this.1,this.2,by simp[qc6,hc]⟩
  ·rw[if_neg hc] at h hs
   cases x with
   | agg cs' =>
    obtain⟨a,b,c⟩:=qpl cs cs' h hx vs i hs
    simp only[fill,if_neg hc]
    exact⟨by simp[KV.pv,a],b,by simp[qc6,hc,c]⟩
   | _=>simp at h
 | .iface t y,x,h,hx,vs,i,hs=>by
  simp only[qgu] at h
  simp only[qc6] at hs
  by_cases hc:y.cl.isSome=true
  ·rw[if_pos hc] at h hs
   have:=qwq hx h hs
   simp only[fill,hc,if_true]
   exact⟨this.1,this.2,by simp[qc6,hc]⟩
  ·rw[if_neg hc] at h hs
   cases x with
   | iface t' y' =>
    simp only[Bool.and_eq_true,beq_iff_eq] at h
    obtain⟨rfl,h⟩:=h
    obtain⟨a,b,c⟩:=Qj4 y y' h hx vs i hs
    simp only[fill,if_neg hc]
    exact⟨by simp[KV.pv,a],b,by simp[qc6,hc,c]⟩
   | _=>simp at h
theorem qpl:∀ (ps xs:List KV),qx8 ps xs=true→qfp xs→∀ (vs:List PV) (i:Nat),Seg vs i (qg0 ps xs)→pvL (qhj ps vs i).1=pvL xs∧qfp (qhj ps vs i).1∧(qhj ps vs i).2=i+(qg0 ps xs).length
 | [],xs,h,_,vs,i,_=>by cases xs<;>simp[qx8] at h;exact⟨rfl,trivial,rfl⟩
 | p :: ps,xs,h,hx,vs,i,hs=>by
  cases xs with
  | nil=>simp[qx8] at h
  | cons x xs =>
   simp only[qx8,Bool.and_eq_true] at h
   simp only[qg0] at hs
   obtain⟨a,b,c⟩:=Qj4 p x h.1 hx.1 vs i hs.left
   obtain⟨a',b',c'⟩:=qpl ps xs h.2 hx.2 vs (fill p vs i).2 (by rw[c];exact hs.right)
   refine⟨by simp[qhj,pvL,a,a'],⟨b,b'⟩,?_⟩
   simp only[qhj,qg0,List.length_append]
   rw[c',c]
   omega
end
theorem fillOb_ok (p x:KOb) (h:qjf p x=true) (hx:x.ok) (vs:List PV) (i:Nat) (hs:Seg vs i (qgb p x)):(qdf p vs i).1.ob=x.ob∧(qdf p vs i).1.ok∧(qdf p vs i).2=i+(qgb p x).length:=by
 cases p with
 | cells ty cs =>
  cases x with
  | cells ty' cs' =>
   simp only[qjf,Bool.and_eq_true,beq_iff_eq] at h
   obtain⟨rfl,h⟩:=h
   obtain⟨a,b,c⟩:=qpl cs cs' h hx vs i (by simpa[qgb] using hs)
   exact⟨by simp[qdf,KOb.ob,a],b,by simp[qdf,qgb,c]⟩
  | _=>simp[qjf] at h
 | whole ty w =>
  cases x with
  | whole ty' v =>
   simp only[qjf,beq_iff_eq] at h
   subst h
   have:nth vs i=v:=hs.head
   exact⟨by simp[qdf,KOb.ob,this],by simp only[qdf,this];exact hx,by simp[qdf,qgb]⟩
  | _=>simp[qjf] at h
 | arr k kt ws =>
  cases x with
  | arr k' kt' xs =>
   simp only[qjf,Bool.and_eq_true,beq_iff_eq] at h
   obtain⟨rfl,rfl⟩:=h
   have:nth vs i=.sl k xs false:=hs.head
   exact⟨by simp[qdf,KOb.ob,this,qkv],by simp only[qdf,this,qkv];exact hx,by simp[qdf,qgb]⟩
  | _=>simp[qjf] at h
 | map ws =>
  cases x with
  | map es =>
   have:nth vs i=.imap es:=hs.head
   exact⟨by simp[qdf,KOb.ob,this,Qkb],by simp only[qdf,this,Qkb];exact hx,by simp[qdf,qgb]⟩
  | _=>simp[qjf] at h
 | siter s0 p0 =>
  cases x with
  | siter s pos =>
   have h1:nth vs i=.str s:=hs.head
   have h2:nth vs (i+1)=nI pos:=hs 1 _ rfl
   exact⟨by simp[qdf,KOb.ob,h1,h2,strP,Qlh,nI],trivial,by simp[qdf,qgb]⟩
  | _=>simp[qjf] at h
theorem qsy:∀ (ps xs:List KOb),qg3 ps xs=true→(∀ o∈xs,o.ok)→∀ (vs:List PV) (i:Nat),Seg vs i (qgz ps xs)→(qc0 ps vs i).1.map KOb.ob=xs.map KOb.ob∧(∀ o∈(qc0 ps vs i).1,o.ok)∧(qc0 ps vs i).2=i+(qgz ps xs).length
 | [],[],_,_,vs,i,_=>⟨rfl,by simp[qc0],rfl⟩
 | [],_ :: _,h,_,_,_,_=>by simp[qg3] at h
 | _ :: _,[],h,_,_,_,_=>by simp[qg3] at h
 | p :: ps,x :: xs,h,hx,vs,i,hs=>by
  simp only[qg3,Bool.and_eq_true] at h
  simp only[qgz] at hs
  obtain⟨a,b,c⟩:=fillOb_ok p x h.1 (hx x (by simp)) vs i hs.left
  obtain⟨a',b',c'⟩:=qsy ps xs h.2 (fun o ho=>hx o (by simp[ho])) vs (qdf p vs i).2 (by rw[c];exact hs.right)
  refine⟨by simp[qc0,a,a'],?_,?_⟩
  ·intro o ho
   simp only[qc0,List.mem_cons] at ho
   rcases ho with rfl | ho
   ·exact b
   ·exact b' o ho
  ·simp only[qc0,qgz,List.length_append]
   rw[c',c]
   omega
mutual
theorem qxe:∀ (p:KV) (x:PV) {l:List PV},qpj p x=some l→∀ (vs:List PV) (i:Nat),Seg vs i l→(fill p vs i).1.pv=x∧(fill p vs i).1.ok∧(fill p vs i).2=i+l.length
 | .un,x,l,h,vs,i,_=>by cases x<;>simp[qpj] at h;subst h;exact⟨rfl,trivial,rfl⟩
 | .sk,x,l,h,vs,i,_=>by
  simp only[qpj] at h
  split at h
  ·cases h;exact⟨rfl,trivial,rfl⟩
  ·cases h
 | .yld d,x,l,h,vs,i,hs=>by
  cases x with
  | yld d' =>
   simp only[qpj] at h
   cases h
   have h1:nth vs i=nI d':=hs.head
   simp[fill,KV.pv,h1,nI,Qlh,KV.ok]
  | _=>simp[qpj] at h
 | .aref _ _ _ _,x,l,h,vs,i,_=>by simp[qpj] at h
 | .wit nm,x,l,h,vs,i,_=>by
  simp only[qpj] at h
  split at h
  ·obtain⟨h1,h2⟩:=qbj h
   simp at h1 h2;subst h1;subst h2;exact⟨rfl,trivial,rfl⟩
  ·cases h
 | .ref nm o,x,l,h,vs,i,_=>by
  cases x<;>simp[qpj] at h
  obtain⟨h1,h2⟩:=qbj h
  simp at h1 h2;obtain⟨rfl,rfl⟩:=h1;subst h2;exact⟨rfl,trivial,rfl⟩
 | .mp nm,x,l,h,vs,i,_=>by
  cases x<;>simp[qpj] at h
  obtain⟨h1,h2⟩:=qbj h
  simp at h1 h2;subst h1;subst h2;exact⟨rfl,trivial,rfl⟩
 | .it nm,x,l,h,vs,i,_=>by
  cases x<;>simp[qpj] at h
  obtain⟨h1,h2⟩:=qbj h
  simp at h1 h2;subst h1;subst h2;exact⟨rfl,trivial,rfl⟩
 | .arr nm k o n,x,l,h,vs,i,hs=>by
  cases x with
  | arr nm' k' o' n' =>
   simp only[qpj] at h
   obtain⟨h1,h2⟩:=qbj h
   cases h2
   simp only[Bool.and_eq_true,beq_iff_eq] at h1
   obtain⟨⟨rfl,rfl⟩,ho⟩:=h1
   have:=Nat.eq_of_beq_eq_true ho
   subst this
   have h1:nth vs i=nI n':=hs.head
   simp[fill,KV.pv,h1,nI,Qlh,KV.ok]
  | _=>simp[qpj] at h
 | .lit b,x,l,h,vs,i,hs=>by
  simp only[qpj] at h
  obtain⟨h1,h2⟩:=qbj h
  cases h2
  have:=hs.head
  exact⟨this,by simp only[fill,KV.ok,this];exact h1,rfl⟩
 | .nils,x,l,h,vs,i,hs=>by
  simp only[qpj] at h
  obtain⟨h1,h2⟩:=qbj h
  cases h2
  have:=hs.head
  exact⟨this,by simp only[fill,KV.ok,this];exact h1,rfl⟩
 | .cv v,x,l,h,vs,i,hs=>by
  simp only[qpj] at h
  obtain⟨h1,h2⟩:=qbj h
  cases h2
  have:=hs.head
  exact⟨this,by simp only[fill,KV.ok,this];exact h1,rfl⟩
 | .fn f cap,x,l,h,vs,i,hs=>by
  cases x with
  | fn f' cap' =>
   simp only[qpj] at h
   split at h
   ·rename_i hf
    subst hf
    obtain⟨a,b,c⟩:=qlu cap cap' h vs i hs
    exact⟨by simp[fill,KV.pv,a],b,c⟩
   ·cases h
  | _=>simp[qpj] at h
 | .tup xs,x,l,h,vs,i,hs=>by
  cases x with
  | tup ys =>
   simp only[qpj] at h
   obtain⟨a,b,c⟩:=qlu xs ys h vs i hs
   exact⟨by simp[fill,KV.pv,a],b,c⟩
  | _=>simp[qpj] at h
 | .agg cs,x,l,h,vs,i,hs=>by
  simp only[qpj] at h
  by_cases hc:(clL cs).isSome=true
  ·rw[if_pos hc] at h
   obtain⟨h1,h2⟩:=qbj h
   cases h2
   have:=hs.head
   simp only[fill,hc,if_true]
   exact⟨this,by simp only[KV.ok,this];exact h1,rfl⟩
  ·rw[if_neg hc] at h
   cases x with
   | agg cs' =>
    obtain⟨a,b,c⟩:=qlu cs cs' h vs i hs
    simp only[fill,if_neg hc]
    exact⟨by simp[KV.pv,a],b,c⟩
   | _=>simp at h
 | .iface t y,x,l,h,vs,i,hs=>by
  simp only[qpj] at h
  by_cases hc:y.cl.isSome=true
  ·rw[if_pos hc] at h
   obtain⟨h1,h2⟩:=qbj h
   cases h2
   have:=hs.head
   simp only[fill,hc,if_true]
   exact⟨this,by simp only[KV.ok,this];exact h1,rfl⟩
  ·rw[if_neg hc] at h
   cases x with
   | iface t' y' =>
    simp only at h
    split at h
    ·rename_i ht
     subst ht
     obtain⟨a,b,c⟩:=qxe y y' h vs i hs
     simp only[fill,if_neg hc]
     exact⟨by simp[KV.pv,a],b,c⟩
    ·cases h
   | _=>simp at h
theorem qlu:∀ (ps:List KV) (xs:List PV) {l:List PV},qxf ps xs=some l→∀ (vs:List PV) (i:Nat),Seg vs i l→pvL (qhj ps vs i).1=xs∧qfp (qhj ps vs i).1∧(qhj ps vs i).2=i+l.length
 | [],xs,l,h,vs,i,_=>by cases xs<;>simp[qxf] at h;subst h;exact⟨rfl,trivial,rfl⟩
 | p :: ps,xs,l,h,vs,i,hs=>by
  cases xs with
  | nil=>simp[qxf] at h
  | cons y ys =>
   simp only[qxf] at h
   split at h
   ·rename_i a b ha hb
    cases h
    obtain⟨a1,a2,a3⟩:=qxe p y ha vs i hs.left
    obtain⟨b1,b2,b3⟩:=qlu ps ys hb vs (fill p vs i).2 (by rw[a3];exact hs.right)
    refine⟨by simp[qhj,pvL,a1,b1],⟨a2,b2⟩,?_⟩
    simp only[qhj,List.length_append]
    rw[b3,a3];omega
   ·cases h
end
theorem Qj3 (p:KOb) (x:Ob) {l:List PV} (h:qh0 p x=some l) (vs:List PV) (i:Nat) (hs:Seg vs i l):(qdf p vs i).1.ob=x∧(qdf p vs i).1.ok∧(qdf p vs i).2=i+l.length:=by
 cases p with
 | cells ty cs =>
  cases x with
  | cells ty' cs' =>
   simp only[qh0] at h
   split at h
   case isFalse=>cases h
   rename_i hty
   subst hty
   obtain⟨a,b,c⟩:=qlu cs cs' h vs i hs
   exact⟨by simp[qdf,KOb.ob,a],b,c⟩
  | _=>simp[qh0] at h
 | whole ty w =>
  cases x with
  | cells ty' cs' =>
   simp only[qh0] at h
   obtain⟨h1,h2⟩:=qbj h
   cases h2
   simp only[Bool.and_eq_true,beq_iff_eq] at h1
   obtain⟨rfl,h1⟩:=h1
   have:nth vs i=.agg cs':=hs.head
   exact⟨by simp[qdf,KOb.ob,this,qkd,PV.cells],by simp only[qdf,this];simpa[KOb.ok,okV] using h1,rfl⟩
  | _=>simp[qh0] at h
 | arr k kt ws =>
  cases x with
  | arr k' kt' xs =>
   simp only[qh0] at h
   obtain⟨h1,h2⟩:=qbj h
   cases h2
   simp only[Bool.and_eq_true,beq_iff_eq] at h1
   obtain⟨⟨rfl,rfl⟩,h1⟩:=h1
   have:nth vs i=.sl k xs false:=hs.head
   exact⟨by simp[qdf,KOb.ob,this,qkv],by simp only[qdf,this,qkv];exact h1,rfl⟩
  | _=>simp[qh0] at h
 | map ws =>
  cases x with
  | map es =>
   simp only[qh0] at h
   obtain⟨h1,h2⟩:=qbj h
   cases h2
   have:nth vs i=.imap es:=hs.head
   exact⟨by simp[qdf,KOb.ob,this,Qkb],by simp only[qdf,this,Qkb];exact h1,rfl⟩
  | _=>simp[qh0] at h
 | siter s0 p0 =>
  cases x with
  | siter s pos =>
   simp only[qh0] at h
   cases h
   have h1:nth vs i=.str s:=hs.head
   have h2:nth vs (i+1)=nI pos:=hs 1 _ rfl
   exact⟨by simp[qdf,KOb.ob,h1,h2,strP,Qlh,nI],trivial,rfl⟩
  | _=>simp[qh0] at h
theorem qnp:∀ (ps:List KOb) (xs:List Ob) {l:List PV},qmk ps xs=some l→∀ (vs:List PV) (i:Nat),Seg vs i l→(qc0 ps vs i).1.map KOb.ob=xs∧(∀ o∈(qc0 ps vs i).1,o.ok)∧(qc0 ps vs i).2=i+l.length
 | [],xs,l,h,vs,i,_=>by cases xs<;>simp[qmk] at h;subst h;exact⟨rfl,by simp[qc0],rfl⟩
 | p :: ps,xs,l,h,vs,i,hs=>by
  cases xs with
  | nil=>simp[qmk] at h
  | cons y ys =>
   simp only[qmk] at h
   split at h
   ·rename_i a b ha hb
    cases h
    obtain⟨a1,a2,a3⟩:=Qj3 p y ha vs i hs.left
    obtain⟨b1,b2,b3⟩:=qnp ps ys hb vs (qdf p vs i).2 (by rw[a3];exact hs.right)
    refine⟨by simp[qc0,a1,b1],?_,?_⟩
    ·intro o ho
     simp only[qc0,List.mem_cons] at ho
     rcases ho with rfl | ho
     ·exact a2
     ·exact b2 o ho
    ·simp only[qc0,List.length_append]
     rw[b3,a3];omega
   ·cases h
mutual
theorem ren_ren (f g:Nm→Nm):∀ (x:PV),(x.ren f).ren g=x.ren fun m=>g (f m)
 | .agg cs=>by simp[PV.ren,qm7 f g cs]
 | .iface t x=>by simp[PV.ren,ren_ren f g x]
 | .fn h cap=>by simp[PV.ren,qm7 f g cap]
 | .tup xs=>by simp[PV.ren,qm7 f g xs]
 | .undef | .bool _ | .int _ _ | .str _ | .nilS | .nilP | .nilF | .nilI | .nilM | .sl _ _ _ | .ptr _ _ | .yld _ | .imap _ | .glob _ _ | .ref _ _ | .aref _ _ _ _ | .arr _ _ _ _ | .mp _ | .it _=>by simp[PV.ren]
theorem qm7 (f g:Nm→Nm):∀ (xs:List PV),qf1 g (qf1 f xs)=qf1 (fun m=>g (f m)) xs
 | []=>rfl
 | x :: xs=>by simp[qf1,ren_ren f g x,qm7 f g xs]
end
mutual
theorem ren_congr {f g:Nm→Nm}:∀ {x:PV},(∀ m∈x.names,f m=g m)→x.ren f=x.ren g
 | .agg cs,h=>by simp only[PV.ren];rw[qle (xs:=cs) h]
 | .iface t x,h=>by simp only[PV.ren];rw[ren_congr (x:=x) h]
 | .fn _ cap,h=>by simp only[PV.ren];rw[qle (xs:=cap) h]
 | .tup xs,h=>by simp only[PV.ren];rw[qle (xs:=xs) h]
 | .ref nm _,h | .aref nm _ _ _,h | .arr nm _ _ _,h | .mp nm,h | .it nm,h=>by simp only[PV.ren];rw[h nm (by simp[PV.names])]
 | .undef,_ | .bool _,_ | .int _ _,_ | .str _,_ | .nilS,_ | .nilP,_ | .nilF,_ | .nilI,_ | .nilM,_ | .sl _ _ _,_ | .ptr _ _,_ | .yld _,_ | .imap _,_ | .glob _ _,_=>by simp[PV.ren]
theorem qle {f g:Nm→Nm}:∀ {xs:List PV},(∀ m∈qbd xs,f m=g m)→qf1 f xs=qf1 g xs
 | [],_=>rfl
 | x :: xs,h=>by
  simp only[qf1]
  rw[ren_congr (x:=x) fun m hm=>h m (List.mem_append_left _ hm),qle (xs:=xs) fun m hm=>h m (List.mem_append_right _ hm)]
end
mutual
theorem cut_names {p:Nm→Bool}:∀ {x:PV} {m:Nm},m∈(x.sub fun m=>if p m then none else some none).names→p m=true
 | .agg cs,m,h=>qlz (xs:=cs) (by simpa[PV.sub,PV.names] using h)
 | .iface t x,m,h=>cut_names (x:=x) (by simpa[PV.sub,PV.names] using h)
 | .fn _ cap,m,h=>qlz (xs:=cap) (by simpa[PV.sub,PV.names] using h)
 | .tup xs,m,h=>qlz (xs:=xs) (by simpa[PV.sub,PV.names] using h)
 | .ref nm _,m,h | .aref nm _ _ _,m,h | .arr nm _ _ _,m,h | .mp nm,m,h | .it nm,m,h=>by
  simp only[PV.sub] at h
  cases hp:p nm with
  | true=>simp[hp,PV.names] at h;rw[h];exact hp
  | false=>simp[hp,PV.names] at h
 | .undef,m,h | .bool _,m,h | .int _ _,m,h | .str _,m,h | .nilS,m,h | .nilP,m,h | .nilF,m,h | .nilI,m,h | .nilM,m,h | .sl _ _ _,m,h | .ptr _ _,m,h | .yld _,m,h | .imap _,m,h | .glob _ _,m,h=>by simp[PV.sub,PV.names] at h
theorem qlz {p:Nm→Bool}:∀ {xs:List PV} {m:Nm},m∈qbd (qdy (fun m=>if p m then none else some none) xs)→p m=true
 | [],m,h=>by simp[qdy,qbd] at h
 | x :: xs,m,h=>by
  simp only[qdy,qbd] at h
  rcases List.mem_append.1 h with h | h
  ·exact cut_names h
  ·exact qlz h
end
theorem Ob.ren_ren (f g:Nm→Nm) (o:Ob):(o.ren f).ren g=o.ren fun m=>g (f m):=by
 cases o<;>simp[Ob.ren,qm7]
theorem Ob.ren_congr {f g:Nm→Nm} {o:Ob} (h:∀ m∈o.names,f m=g m):o.ren f=o.ren g:=by
 cases o with
 | cells ty cs=>simp only[Ob.ren];rw[qle h]
 | _=>rfl
theorem Ob.cut_names {p:Nm→Bool} {o:Ob} {m:Nm} (h:m∈(o.sub fun m=>if p m then none else some none).names):p m=true:=by
 cases o with
 | cells ty cs=>exact qlz h
 | _=>simp[Ob.sub,Ob.names] at h
theorem Qjm (g:Nm→Nm):∀ (B:List (Nm×Nm)) (m:Nm),(B.map fun p=>(p.1,g p.2)).lookup m=(B.lookup m).map g:=by
 intro B
 induction B with
 | nil=>intro m;rfl
 | cons p B ih =>
  obtain⟨a,b⟩:=p
  intro m
  simp only[List.map_cons,List.lookup_cons]
  split<;>simp_all
theorem Qjl {B:List (Nm×Nm)}:∀ {m:Nm},(B.map (·.1)).contains m=true→∃ t,B.lookup m=some t:=by
 induction B with
 | nil=>intro m h;simp at h
 | cons p B ih =>
  obtain⟨a,b⟩:=p
  intro m h
  rw[List.lookup_cons]
  split
  ·exact⟨_,rfl⟩
  ·rename_i hne
   refine ih ?_
   simp only[List.map_cons,List.contains_cons,hne,Bool.false_or] at h
   exact h
theorem ioEnd_ren {R:List Nm} {sl:Option Nat} {d i0:Nat} {st:St} {v:PV} {out:Out} (h:qra none 1 0 (qg9 R.length) st v=some out) :
  qra sl d i0 R st v=some {v:=out.v.ren (qpe R d i0),new:=out.new.map (Ob.ren (qpe R d i0)),gone:=out.gone.map (qpe R d i0),ups:=R.zip (out.ups.map fun p=>p.2.ren (qpe R d i0)),io:=true,slot:=sl}:=by
 have hcl:(qg9 R.length).length=R.length:=by simp[qg9]
 have hA:qgd R st.keep=(qgd (qg9 R.length) st.keep).map fun p=>(p.1,qpe R d i0 p.2):=by
  apply List.ext_getElem?
  intro i
  simp only[qgd,List.getElem?_map,List.getElem?_zipIdx,Nat.zero_add,qg9]
  by_cases hi:i < R.length
  ·rw[List.getElem?_eq_getElem hi,List.getElem?_range hi]
   simp[qpe,List.getD_eq_getElem?_getD,List.getElem?_eq_getElem hi]
  ·rw[List.getElem?_eq_none_iff.2 (by omega),List.getElem?_eq_none_iff.2 (by simp;omega)]
   rfl
 have hF:(qgd R st.keep).map (·.1)=(qgd (qg9 R.length) st.keep).map (·.1):=by
  rw[hA,List.map_map];rfl
 have hN:qw3 (qbf st.objs) (qgd R st.keep) v=qw3 (qbf st.objs) (qgd (qg9 R.length) st.keep) v:=by
  unfold qw3
  rw[hF]
  have:∀ A A':List (Nm×Nm),A.map (·.1)=A'.map (·.1)→(A.flatMap fun p=>((qbf st.objs p.1).map Ob.names).getD [])=A'.flatMap fun p=>((qbf st.objs p.1).map Ob.names).getD []:=by
   intro A A' h
   have e:∀ A:List (Nm×Nm),(A.flatMap fun p=>((qbf st.objs p.1).map Ob.names).getD [])=(A.map (·.1)).flatMap fun m=>((qbf st.objs m).map Ob.names).getD []:=by
    intro A;rw[List.flatMap_map]
   rw[e,e,h]
  rw[this _ _ hF]
 unfold qra at h ⊢
 simp only at h ⊢
 rw[hN]
 generalize qw3 (qbf st.objs) (qgd (qg9 R.length) st.keep) v=N at h ⊢
 generalize hA0:qgd (qg9 R.length) st.keep=A0 at h hA
 generalize hB0:(A0++N.zipIdx.map fun p=>(p.1,(1,0+p.2)))=B0 at h
 have hB:qgd R st.keep++N.zipIdx.map (fun p=>(p.1,(d,i0+p.2)))=B0.map fun p=>(p.1,qpe R d i0 p.2):=by
  rw[←hB0,List.map_append,hA,List.map_map]
  congr 1
  exact List.map_congr_left fun p _=>by simp[qpe]
 rw[hB]
 have hBf:(B0.map fun p=>(p.1,qpe R d i0 p.2)).map (·.1)=B0.map (·.1):=by rw[List.map_map];rfl
 rw[hBf]
 obtain⟨h1,h2⟩:=qdj h
 cases h2
 have hnm:∀ m,(B0.map (·.1)).contains m=true→((B0.map fun p=>(p.1,qpe R d i0 p.2)).lookup m).getD m=qpe R d i0 ((B0.lookup m).getD m):=by
  intro m hm
  obtain⟨t,ht⟩:=Qjl hm
  rw[Qjm,ht];rfl
 have hob:∀ nm,ioOb (qbf st.objs) (B0.map fun p=>(p.1,qpe R d i0 p.2)) nm=(ioOb (qbf st.objs) B0 nm).ren (qpe R d i0):=by
  intro nm
  unfold ioOb
  rw[hBf,Ob.ren_ren]
  exact Ob.ren_congr fun m hm=>hnm m (Ob.cut_names hm)
 simp only[chk,h1,if_true,Option.some.injEq,Out.mk.injEq,true_and,and_true]
 refine⟨?_,?_,?_,?_⟩
 ·rw[ren_ren]
  exact ren_congr fun m hm=>hnm m (cut_names hm)
 ·rw[List.map_map]
  exact List.map_congr_left fun m _=>hob m
 ·simp only[qps]
  apply List.ext_getElem?
  intro i
  have e:(R.zipIdx.filter fun p=>(qhu (st.keep.getD p.2 .undef)).isNone).map (·.1)=(((qg9 R.length).zipIdx.filter fun p=>(qhu (st.keep.getD p.2 .undef)).isNone).map (·.1)).map (qpe R d i0):=by
   have hz:R.zipIdx=(qg9 R.length).zipIdx.map fun p=>(qpe R d i0 p.1,p.2):=by
    apply List.ext_getElem?
    intro i
    simp only[List.getElem?_map,List.getElem?_zipIdx,Nat.zero_add,qg9]
    by_cases hi:i < R.length
    ·rw[List.getElem?_eq_getElem hi,List.getElem?_range hi]
     simp[qpe,List.getD_eq_getElem?_getD,List.getElem?_eq_getElem hi]
    ·rw[List.getElem?_eq_none_iff.2 (by omega),List.getElem?_eq_none_iff.2 (by simp;omega)]
     rfl
   rw[hz,List.filter_map,List.map_map,List.map_map]
   rfl
  rw[e]
 ·have hR2:A0.map (fun p=>qpe R d i0 p.2)=R:=by
   rw[←hA0]
   apply List.ext_getElem?
   intro i
   simp only[qgd,List.getElem?_map,List.getElem?_zipIdx,Nat.zero_add,qg9]
   by_cases hi:i < R.length
   ·rw[List.getElem?_eq_getElem hi,List.getElem?_range hi]
    simp[qpe,List.getD_eq_getElem?_getD,List.getElem?_eq_getElem hi]
   ·rw[List.getElem?_eq_none_iff.2 (by omega:R.length≤i),List.getElem?_eq_none_iff.2 (by simp;omega)]
    rfl
  have hz:∀ (l:List (Nm×Nm)) (f:Nm×Nm→Nm) (g:Nm×Nm→Ob),l.map (fun p=>(f p,g p))=(l.map f).zip (l.map g):=by
   intro l f g
   induction l with
   | nil=>rfl
   | cons p l ih=>simp[ih]
  have e1:(A0.map fun p=>(p.1,qpe R d i0 p.2)).map (fun p=>(p.2,ioOb (qbf st.objs) (B0.map fun p=>(p.1,qpe R d i0 p.2)) p.1))=A0.map fun p=>(qpe R d i0 p.2,(ioOb (qbf st.objs) B0 p.1).ren (qpe R d i0)):=by
   rw[List.map_map]
   exact List.map_congr_left fun p _=>by simp only[Function.comp,hob]
  rw[hA,e1,hz,hR2,List.map_map]
  rfl
end Go.Ab

