/-
  Part 3 of a proof: a machine of our own for the given program, its laws, and what it says of the program. Nothing here is a claim by itself.
-/
import Derived.Test.YtbeonejdegijfaaGreatDoorK02
import Derived.Test.YtbeonejdegijfaaGreatDoorK01
set_option linter.all false

namespace Go.Ab
theorem qfy {P:Program} {b:Frame} {a:Act} {k:List Item} {cs:List Frame} {w:World} {c:Code}:step P (lone (b.atR a (.code (.scope c) :: k)) cs w)=.next (lone (b.atR a (.code c :: .inScope c :: k)) cs w) :=
 step_lone_go (by simp[Go.stepG,Go.stepG.exec,Frame.atR])
theorem qqf {P:Program} {b:Frame} {a:Act} {k:List Item} {cs:List Frame} {w:World} {c:Code}:step P (lone (b.atR a (.inScope c :: k)) cs w)=.next (lone (b.atR a k) cs w) :=
 step_lone_go (by simp[Go.stepG,Go.stepG.exec,Frame.atR])
def qxm:Ex→Prop
 | .exit id=>id < qg7
 | _=>True
theorem qwx {F:Fence} {n:Nat} {P:Program} {Q:Exit→Act→World→Prop} {a:Act} {w:World} {c:Code} {x:Ex} (hx:qxm x) (h:c.wpIn F n P (fun e a w=>e=qwb x∧Q e a w) a w):(Code.scope c).wpIn F n P Q a w:=by
 intro b k cs hro hb hr
 have h0:(lone (b.atR a (.code (.scope c) :: k)) cs w).fenced P F:=fenced_calm hb hr rfl
 obtain⟨e,a₁,w₁,⟨rfl,hq⟩,harr⟩:=h b (.inScope c :: k) cs hro hb hr
 cases x with
 | normal=>exact⟨.normal,a₁,w₁,hq,.head h0 qfy (StepsIn.trans harr (.one (fenced_calm hb hr rfl) qqf))⟩
 | exit id =>
  simp only[qxm] at hx
  simp only[qwb,hx,if_true] at hq harr
  have hx:exitTo id (.inScope c :: k)=exitTo id k:=by simp[exitTo]
  exact⟨.exit id,a₁,w₁,hq,fun k' hk=>.head h0 qfy (harr.1 k' (by rw[hx];exact hk)),
   fun hr' hk=>let ⟨k₁,h1,h2⟩:=harr.2 hr' (by rw[hx];exact hk);⟨k₁,h1,.head h0 qfy h2⟩⟩
 | ret=>exact⟨.ret,a₁,w₁,hq,.of_steps (.one h0 qfy) harr⟩
theorem qww {F:Fence} {n:Nat} {P:Program} {Q:Exit→Act→World→Prop} {a:Act} {w:World} {c rest:Code} {l:Nat} {x:Ex} (hl:findLabel c l=some rest) (hx:qxm x)
  (h:c.wpIn F n P (fun e a w=>e=.goto l∧rest.wpIn F n P (fun e a w=>e=qwb x∧Q e a w) a w) a w):(Code.scope c).wpIn F n P Q a w:=by
 intro b k cs hro hb hr
 have h0:(lone (b.atR a (.code (.scope c) :: k)) cs w).fenced P F:=fenced_calm hb hr rfl
 have hg:gotoIn l (.inScope c :: k)=some (.code rest :: .inScope c :: k):=by simp[gotoIn,hl]
 obtain⟨e,a₁,w₁,⟨rfl,hq⟩,harr⟩:=h b (.inScope c :: k) cs hro hb hr
 have h1:=harr.1 _ hg
 obtain⟨e,a₂,w₂,⟨rfl,hq⟩,harr⟩:=hq b (.inScope c :: k) cs hro hb hr
 cases x with
 | normal=>exact⟨.normal,a₂,w₂,hq,.head h0 qfy (StepsIn.trans h1 (StepsIn.trans harr (.one (fenced_calm hb hr rfl) qqf)))⟩
 | exit id =>
  simp only[qxm] at hx
  simp only[qwb,hx,if_true] at hq harr
  have hx:exitTo id (.inScope c :: k)=exitTo id k:=by simp[exitTo]
  exact⟨.exit id,a₂,w₂,hq,fun k' hk=>.head h0 qfy (h1.trans (harr.1 k' (by rw[hx];exact hk))),
   fun hr' hk=>let ⟨k₁,g1,g2⟩:=harr.2 hr' (by rw[hx];exact hk);⟨k₁,g1,.head h0 qfy (h1.trans g2)⟩⟩
 | ret=>exact⟨.ret,a₂,w₂,hq,.of_steps (.head h0 qfy h1) harr⟩
theorem qwy {F:Fence} {n:Nat} {P:Program} {Q:Exit→Act→World→Prop} {c:Code} (K:Nat→Act→World→Prop) (round:∀ m a w,K m a w→∃ m',m=m'+1∧c.wpIn F n P (Exit.then (K m') Q) a w) {m:Nat} {a:Act} {w:World} (h:K m a w) :
  (Code.loop c).wpIn F n P Q a w:=by
 classical
 have least:∀ a w,(∃ m,K m a w)→∃ m,K m a w∧∀ j,K j a w→m≤j:=by
  intro a w ⟨m,hm⟩
  induction m using Nat.strongRecOn with
  | _ m ih =>
   by_cases hj:∃ j,j < m∧K j a w
   ·obtain⟨j,hj1,hj2⟩:=hj;exact ih j hj1 hj2
   ·exact⟨m,hm,fun j hk=>Nat.le_of_not_lt fun hlt=>hj ⟨j,hlt,hk⟩⟩
 refine wpIn_loop (fun a w=>∃ m,K m a w) (fun a w=>if h:∃ m,K m a w then Classical.choose (least a w h) else 0) ⟨m,h⟩ fun a w hk=>?_
 obtain⟨q1,q2⟩:=Classical.choose_spec (least a w hk)
 obtain⟨m',hm',hwp⟩:=round _ a w q1
 refine wpIn_mono hwp fun e a' w' hq=>?_
 cases e<;>simp only[Exit.then] at hq ⊢<;>first | exact hq | skip
 refine⟨⟨m',hq⟩,?_⟩
 have hex:∃ m,K m a' w':=⟨m',hq⟩
 have hle:=(Classical.choose_spec (least a' w' hex)).2 m' hq
 simp only[dif_pos hex,dif_pos hk]
 omega
section
variable {cx:Cx} {dd:qz0} {M:qfk} {fuel:Nat}
def qzm (cx:Cx) (dd:qz0) (M:qfk) (fuel:Nat) (c:Code):Prop :=
 ∀ (l:Nat) (y z:qc6),qhd l c (qd0 cx.P cx.G dd c)=some (y,z)→qf5 cx M fuel (.seq y z) c∧∃ rest,findLabel c l=some rest∧qf5 cx M fuel z rest
theorem Qct {r1 r2:qc6} {c1 c2:Code} (h1:qf5 cx M fuel r1 c1) (h2:qf5 cx M fuel r2 c2):qf5 cx M fuel (.seq r1 r2) (.seq c1 c2):=by
 intro E h dep R lp w0 I0 F0 O0 Hd suf ro st e x st2 e2 hev href hro a w I F L Q hs hf hQ
 simp only[qbt] at hev
 refine wpIn_seq ?_
 split at hev
 ·rename_i st3 e3 g1
  exact h1 E h dep R lp w0 I0 F0 O0 Hd suf ro st e .normal st3 e3 g1 href hro a w I F L _ hs hf fun a' w' I' F' L' hs' hf' =>
   h2 E h dep R lp w0 I0 F0 O0 Hd suf ro st3 e3 x st2 e2 hev href hro a' w' I' F' L' Q hs' hf' hQ
 ·rename_i hne
  refine h1 E h dep R lp w0 I0 F0 O0 Hd suf ro st e x st2 e2 hev href hro a w I F L _ hs hf fun a' w' I' F' L' hs' hf'=>?_
  have:=hQ a' w' I' F' L' hs' hf'
  cases x with
  | normal=>exact (hne _ _ hev).elim
  | exit id =>
   simp only[qwb] at this ⊢
   split<;>rename_i hid
   ·simp only[hid,if_true] at this;exact this
   ·simp only[hid,if_false] at this;exact this
  | ret=>exact this
theorem split_none (l:Nat):∀ c:Code,qhd l c (qd0 cx.P cx.G dd c)=none→findLabel c l=none:=by
 intro c
 induction c with
 | seq c1 c2 ih1 ih2 =>
  intro h
  simp only[qd0,qhd] at h
  split at h
  ·cases h
  ·rename_i g1
   split at h
   ·cases h
   ·rename_i g2
    simp[findLabel,ih1 g1,ih2 g2]
 | label l' =>
  intro h
  simp only[qhd] at h
  split at h
  ·cases h
  ·rename_i hl
   simp[findLabel,hl]
 | _=>intro _;simp[findLabel]
theorem qy5 {y z r:qc6} {E:Type} {h:qbg E} {dep:Nat} {st:St} {e:E}:qbt M fuel (.seq y (.seq z r)) h dep st e=qbt M fuel (.seq (.seq y z) r) h dep st e:=by
 simp only[qbt]
 cases qbt M fuel y h dep st e with
 | none=>rfl
 | some p =>
  obtain⟨x,s,e⟩:=p
  cases x<;>rfl
theorem split_seq {c1 c2:Code} (h1:qv7 cx dd M fuel c1) (s1:qzm cx dd M fuel c1) (h2:qv7 cx dd M fuel c2) (s2:qzm cx dd M fuel c2):qzm cx dd M fuel (.seq c1 c2):=by
 intro l y z h
 simp only[qd0,qhd] at h
 split at h
 ·rename_i x' y' g1
  cases h
  obtain⟨q1,rest,q2,q3⟩:=s1 l _ _ g1
  refine⟨?_,.seq rest c2,by simp[findLabel,q2],Qct q3 h2⟩
  have:=Qct q1 h2
  intro E h dep R lp w0 I0 F0 O0 Hd suf ro st e x st2 e2 hev
  rw[qy5] at hev
  exact this E h dep R lp w0 I0 F0 O0 Hd suf ro st e x st2 e2 hev
 ·rename_i g1
  split at h
  case h_2=>cases h
  rename_i x' y' g2
  cases h
  obtain⟨q1,rest,q2,q3⟩:=s2 l _ _ g2
  refine⟨?_,rest,by simp[findLabel,split_none l c1 g1,q2],q3⟩
  have:=Qct (cx:=cx) (M:=M) (fuel:=fuel) h1 q1
  intro E h dep R lp w0 I0 F0 O0 Hd suf ro st e x st2 e2 hev
  rw[←qy5] at hev
  exact this E h dep R lp w0 I0 F0 O0 Hd suf ro st e x st2 e2 hev
theorem scope_ok {c:Code} (h:qv7 cx dd M fuel c) (s:qzm cx dd M fuel c):qv7 cx dd M fuel (.scope c):=by
 have plain:∀ (r:qc6),qf5 cx M fuel r c→qf5 cx M fuel (.scope r) (.scope c):=by
  intro r h E hd dep R lp w0 I0 F0 O0 Hd suf ro st e x st2 e2 hev href hro a w I F L Q hs hf hQ
  simp only[qbt] at hev
  have key:qbt M fuel r hd dep st e=some (x,st2,e2)∧qxm x:=by
   split at hev
   ·rename_i id s3 e3 hq
    split at hev
    ·rename_i hid;cases hev;exact⟨hq,hid⟩
    ·cases hev
   ·rename_i hne
    refine⟨hev,?_⟩
    cases x with
    | exit id=>exact (hne _ _ _ hev).elim
    | _=>trivial
  exact qwx key.2 (h E hd dep R lp w0 I0 F0 O0 Hd suf ro st e x st2 e2 key.1 href hro a w I F L _ hs hf fun a' w' I' F' L' hs' hf'=>⟨rfl,hQ a' w' I' F' L' hs' hf'⟩)
 show qf5 cx M fuel (Qfw c (qd0 cx.P cx.G dd c)) (.scope c)
 unfold Qfw
 split
 ·exact plain _ h
 rename_i l hl
 split
 case h_2=>exact plain _ h
 rename_i y z hsp
 obtain⟨q1,rest,q2,q3⟩:=s l y z hsp
 intro E hd dep R lp w0 I0 F0 O0 Hd suf ro st e x st2 e2 hev href hro a w I F L Q hs hf hQ
 cases hy:qbt M fuel y hd dep st e with
 | none=>simp[qbt,hy] at hev
 | some p =>
  obtain⟨xy,sy,ey⟩:=p
  by_cases hj:xy=.exit (qg7+l)
  ·subst hj
   have hz:qbt M fuel z hd dep sy ey=some (x,st2,e2)∧qxm x:=by
    simp only[qbt,hy,if_true] at hev
    split at hev
    ·rename_i id s3 e3 hq
     split at hev
     ·rename_i hid;cases hev;exact⟨hq,hid⟩
     ·cases hev
    ·rename_i hne
     refine⟨hev,?_⟩
     cases x with
     | exit id=>exact (hne _ _ _ hev).elim
     | _=>trivial
   have hyz:qbt M fuel (.seq y z) hd dep st e=some (.exit (qg7+l),sy,ey):=by simp[qbt,hy]
   refine qww q2 hz.2 (q1 E hd dep R lp w0 I0 F0 O0 Hd suf ro st e _ _ _ hyz href hro a w I F L _ hs hf fun a' w' I' F' L' hs' hf'=>⟨?_,?_⟩)
   ·have:¬ qg7+l < qg7:=by omega
    simp[qwb,this]
   ·exact q3 E hd dep R lp w0 I0 F0 O0 Hd suf ro sy ey x st2 e2 hz.1 href hro a' w' I' F' L' _ hs' hf' fun a2 w2 I2 F2 L2 hs2 hf2=>⟨rfl,hQ a2 w2 I2 F2 L2 hs2 hf2⟩
  ·refine plain _ q1 E hd dep R lp w0 I0 F0 O0 Hd suf ro st e x st2 e2 ?_ href hro a w I F L Q hs hf hQ
   rw[←hev]
   simp only[qbt,hy]
   cases xy with
   | normal=>rfl
   | ret=>rfl
   | exit id =>
    have:id≠qg7+l:=fun h=>hj (by rw[h])
    simp[this]
theorem Qml {r:qc6} {c:Code} {g:List (Nat×Nat)} (h:qf5 cx M fuel r c):qf5 cx M fuel (.seq r (.norm g)) c:=by
 intro E hh dep R lp w0 I0 F0 O0 Hd suf ro st e x st2 e2 hev href hro a w I F L Q hs hf hQ
 simp only[qbt] at hev
 cases hq:qbt M fuel r hh dep st e with
 | none=>rw[hq] at hev;cases hev
 | some p =>
  obtain⟨y,s,e3⟩:=p
  rw[hq] at hev
  refine h E hh dep R lp w0 I0 F0 O0 Hd suf ro st e y s e3 hq href hro a w I F L Q hs hf fun a' w' I' F' L' hs' hf'=>?_
  cases y with
  | normal =>
   cases hev
   obtain⟨L1,hs1,hf1⟩:=Qj1 hs' hf'
   obtain⟨L2,hs2,hf2⟩:=qxw [] g hs1 hf1
   exact hQ a' w' I' F' L2 hs2 hf2
  | exit id=>cases hev;exact hQ a' w' I' F' L' hs' hf'
  | ret=>cases hev;exact hQ a' w' I' F' L' hs' hf'
theorem seq_tidy {r:qc6} {c:Code} {l:Option (List Nat)} (h:qf5 cx M fuel r c):qf5 cx M fuel (.seq r (.region [] none l)) c:=by
 intro E hh dep R lp w0 I0 F0 O0 Hd suf ro st e x st2 e2 hev href hro a w I F L Q hs hf hQ
 simp only[qbt] at hev
 cases hq:qbt M fuel r hh dep st e with
 | none=>rw[hq] at hev;cases hev
 | some p =>
  obtain⟨y,s,e3⟩:=p
  rw[hq] at hev
  refine h E hh dep R lp w0 I0 F0 O0 Hd suf ro st e y s e3 hq href hro a w I F L Q hs hf fun a' w' I' F' L' hs' hf'=>?_
  cases y with
  | normal =>
   cases hev
   obtain⟨L1,hs1,hf1⟩:=Qcp l hs' hf'
   exact hQ a' w' I' F' L1 hs1 hf1
  | exit id=>cases hev;exact hQ a' w' I' F' L' hs' hf'
  | ret=>cases hev;exact hQ a' w' I' F' L' hs' hf'
theorem loop_okr {c:Code} {b:qc6} (p:Bool) (asg:List Nat) (grow:List (Nat×Nat)) (ih:qf5 cx M fuel b c):qf5 cx M fuel (loopR p asg grow b) (.loop c):=by
 intro E h dep R lp w0 I0 F0 O0 Hd suf ro st e x st2 e2 hev href hro a w I F L Q hs hf hQ
 let K (ds:List Nat) (m:Nat) (a:Act) (w:World):Prop:=∃ st e I F L,SR lp I L st a.tmps.toList suf w∧Fr cx w0 I0 F0 O0 Hd R e a.defers I F L w∧qg2 (fun (s:St×E)=>match qbt M fuel b h dep s.1 s.2 with
  | some (.normal,st,e)=>some (.inl (norm asg grow (drop ds st),e))
  | some (x,st,e)=>some (.inr (x,st,e))
  | none=>none) m (st,e)=some (x,st2,e2)
 have hzero:∀ ds a w,¬ K ds 0 a w:=by
  rintro ds a w ⟨st,e,I,F,L,hs,hf,hrep⟩
  simp[qg2] at hrep
 have hround:∀ ds m a w,K ds (m+1) a w→c.wpIn (fen ro) 0 cx.P (Exit.then (K ds m) Q) a w:=by
  rintro ds m a w ⟨st,e,I,F,L,hs,hf,hrep⟩
  simp only[qg2] at hrep
  cases hb:qbt M fuel b h dep st e with
  | none=>rw[hb] at hrep;simp at hrep
  | some r =>
   obtain⟨xb,stb,eb⟩:=r
   rw[hb] at hrep
   refine ih E h dep R lp w0 I0 F0 O0 Hd suf ro st e xb stb eb hb href hro a w I F L _ hs hf fun a' w' I' F' L' hs' hf'=>?_
   cases xb with
   | normal =>
    simp only at hrep
    obtain⟨L2,hs2,hf2⟩:=drop_ok ds hs' hf'
    obtain⟨L3,hs3,hf3⟩:=qxw asg grow hs2 hf2
    exact⟨_,eb,I',F',L3,hs3,hf3,hrep⟩
   | exit id =>
    simp only[Option.some.injEq,Prod.mk.injEq] at hrep
    obtain⟨rfl,rfl,rfl⟩:=hrep
    have:=hQ a' w' I' F' L' hs' hf'
    simp only[qwb] at this ⊢
    split<;>rename_i hid
    ·simp only[hid,if_true] at this;exact this
    ·simp only[hid,if_false] at this;exact this
   | ret =>
    simp only[Option.some.injEq,Prod.mk.injEq] at hrep
    obtain⟨rfl,rfl,rfl⟩:=hrep
    exact hQ a' w' I' F' L' hs' hf'
 have hloop:∀ {st:St} {e:E},qbt M fuel (.loop asg grow b) h dep st e=some (x,st2,e2)→∃ ds,∀ a w I F L,SR lp I L st a.tmps.toList suf w→Fr cx w0 I0 F0 O0 Hd R e a.defers I F L w→K ds fuel a w:=by
  intro st e hev
  simp only[qbt] at hev
  split at hev
  case h_2=>cases hev
  rename_i x' st3 e3 hr
  cases hev
  refine⟨undefs (norm asg grow st),fun a w I F L hs hf=>?_⟩
  obtain⟨L1,hs1,hf1⟩:=qxw asg grow hs hf
  exact⟨_,_,I,F,L1,hs1,hf1,hr⟩
 cases p with
 | false =>
  obtain⟨ds,hk⟩:=hloop hev
  refine qwy (K ds) (fun m a w hm=>?_) (hk a w I F L hs hf)
  cases m with
  | zero=>exact (hzero ds a w hm).elim
  | succ m=>exact⟨m,rfl,hround ds m a w hm⟩
 | true =>
  simp only[loopR,if_true,qbt] at hev
  cases hb:qbt M fuel b h dep st e with
  | none=>rw[hb] at hev;cases hev
  | some r =>
   obtain⟨xb,stb,eb⟩:=r
   rw[hb] at hev
   have key:∀ (ds:List Nat),(∀ a' w' I' F' L',SR lp I' L' stb a'.tmps.toList suf w'→Fr cx w0 I0 F0 O0 Hd R eb a'.defers I' F' L' w'→(Exit.then (K ds fuel) Q) (qwb xb) a' w')→(Code.loop c).wpIn (fen ro) 0 cx.P Q a w:=by
    intro ds hq
    refine qwy (fun m a' w'=>(m=fuel+1∧a'=a∧w'=w)∨(m≤fuel∧K ds m a' w')) (fun m a' w' hm=>?_) (.inl ⟨rfl,rfl,rfl⟩)
    rcases hm with ⟨rfl,rfl,rfl⟩ | ⟨hle,hm⟩
    ·refine⟨fuel,rfl,ih E h dep R lp w0 I0 F0 O0 Hd suf ro st e xb stb eb hb href hro a' w' I F L _ hs hf fun a2 w2 I2 F2 L2 hs2 hf2=>?_⟩
     have:=hq a2 w2 I2 F2 L2 hs2 hf2
     revert this
     cases qwb xb<;>intro this<;>first | exact this | exact .inr ⟨Nat.le_refl _,this⟩
    ·cases m with
     | zero=>exact (hzero ds a' w' hm).elim
     | succ m =>
      refine⟨m,rfl,wpIn_mono (hround ds m a' w' hm) fun e2 a2 w2 h2=>?_⟩
      revert h2
      cases e2<;>intro h2<;>first | exact h2 | exact .inr ⟨by omega,h2⟩
   cases xb with
   | normal =>
    obtain⟨ds,hk⟩:=hloop hev
    exact key ds hk
   | exit id =>
    cases hev
    refine key [] fun a' w' I' F' L' hs' hf'=>?_
    have:=hQ a' w' I' F' L' hs' hf'
    simp only[qwb] at this ⊢
    split<;>rename_i hid
    ·simp only[hid,if_true] at this;exact this
    ·simp only[hid,if_false] at this;exact this
   | ret =>
    cases hev
    exact key [] fun a' w' I' F' L' hs' hf'=>hQ a' w' I' F' L' hs' hf'
theorem normR_ok {r:qc6} {c:Code} {g:Option (List (Nat×Nat))} (h:qf5 cx M fuel r c):qf5 cx M fuel (normR g r) c:=by
 cases g with
 | none=>exact h
 | some g=>exact Qml h
theorem code_ok2 (hM:qhx cx M.call) (hsp:MSp cx M) (hloc:Qpj M):∀ c:Code,qv7 cx dd M fuel c∧qzm cx dd M fuel c:=by
 intro c
 induction c with
 | skip =>
  refine⟨?_,fun l0 y z hsp0=>by simp[qhd] at hsp0⟩
  intro E h dep R lp w0 I0 F0 O0 Hd suf ro st e x st2 e2 hev href hro a w I F L Q hs hf hQ
  simp only[qd0,qbt,Option.some.injEq,Prod.mk.injEq] at hev
  obtain⟨rfl,rfl,rfl⟩:=hev
  exact wpIn_skip (hQ a w I F L hs hf)
 | region id ops draw =>
  refine⟨?_,fun l0 y z hsp0=>by simp[qhd] at hsp0⟩
  refine normR_ok (g:=(dd id).grow) ?_
  intro E h dep R lp w0 I0 F0 O0 Hd suf ro st e x st2 e2 hev href hro a w I F L Q hs hf hQ
  cases draw with
  | false =>
   simp only[Bool.false_eq_true,if_false,Qmv] at hev
   split at hev
   ·simp[qbt] at hev
   simp only[qbt] at hev
   split at hev
   ·rename_i st3 e3 hr
    cases hev
    exact Qfz hM hsp href hr hs hf fun a' w' I' F' L' hs' hf'=>let ⟨L2,h1,h2⟩:=Qcp (dd id).lv hs' hf';hQ a' w' I' F' L2 h1 h2
   ·cases hev
  | true =>
   simp only[if_true] at hev
   split at hev
   ·rename_i l hb
    simp only[qbt] at hev
    split at hev
    ·rename_i st3 e3 hr
     cases hev
     exact Qkd hM hsp hloc href hb hr hs hf fun a' w' I' F' L' hs' hf'=>let ⟨L2,h1,h2⟩:=Qcp (dd id).lv hs' hf';hQ a' w' I' F' L2 h1 h2
    ·cases hev
   ·simp[qbt] at hev
 | seq c1 c2 ih1 ih2=>exact⟨Qct ih1.1 ih2.1,split_seq ih1.1 ih1.2 ih2.1 ih2.2⟩
 | cond c c1 c2 ih1 ih2 =>
  refine⟨?_,fun l0 y z hsp0=>by simp[qhd] at hsp0⟩
  intro E h dep R lp w0 I0 F0 O0 Hd suf ro st e x st2 e2 hev href hro a w I F L Q hs hf hQ
  simp only[qd0] at hev
  split at hev
  ·rename_i rc hrc
   simp only[qbt] at hev
   have hc:=qce hs hf.wd hrc
   split at hev
   ·rename_i hb
    rw[hb] at hc
    exact wpIn_cond_true (qfn hc) (ih1.1 E h dep R lp w0 I0 F0 O0 Hd suf ro st e x st2 e2 hev href hro a w I F L Q hs hf hQ)
   ·rename_i hb
    rw[hb] at hc
    exact wpIn_cond_false (qfn hc) (ih2.1 E h dep R lp w0 I0 F0 O0 Hd suf ro st e x st2 e2 hev href hro a w I F L Q hs hf hQ)
   ·cases hev
  ·simp[qbt] at hev
 | block id c ih =>
  refine⟨?_,fun l0 y z hsp0=>by simp[qhd] at hsp0⟩
  intro E h dep R lp w0 I0 F0 O0 Hd suf ro st e x st2 e2 hev href hro a w I F L Q hs hf hQ
  simp only[qd0] at hev
  split at hev
  case isFalse=>simp[qbt] at hev
  rename_i hidb
  simp only[qbt] at hev
  refine wpIn_block ?_
  split at hev
  ·rename_i id' st3 e3 h1
   refine ih.1 E h dep R lp w0 I0 F0 O0 Hd suf ro st e (.exit id') st3 e3 h1 href hro a w I F L _ hs hf fun a' w' I' F' L' hs' hf'=>?_
   by_cases hid:id'=id
   ·rw[if_pos hid] at hev
    cases hev
    subst hid
    simp only[qwb,hidb,Exit.inBlock,if_true]
    exact hQ a' w' I' F' L' hs' hf'
   ·rw[if_neg hid] at hev
    cases hev
    have:=hQ a' w' I' F' L' hs' hf'
    simp only[qwb] at this ⊢
    split<;>rename_i hid2
    ·simp only[hid2,if_true] at this;simp only[Exit.inBlock,hid,if_false];exact this
    ·simp only[hid2,if_false] at this;exact this
  ·rename_i hne
   refine ih.1 E h dep R lp w0 I0 F0 O0 Hd suf ro st e x st2 e2 hev href hro a w I F L _ hs hf fun a' w' I' F' L' hs' hf'=>?_
   have:=hQ a' w' I' F' L' hs' hf'
   cases x with
   | normal=>exact this
   | exit id=>exact (hne _ _ _ hev).elim
   | ret=>exact this
 | loop c ih =>
  refine⟨?_,fun l0 y z hsp0=>by simp[qhd] at hsp0⟩
  exact loop_okr _ _ _ ih.1
 | rangeFunc f ps assign body iha ihb =>
  refine⟨?_,fun l0 y z hsp0=>by simp[qhd] at hsp0⟩
  intro E h dep R lp w0 I0 F0 O0 Hd suf ro st e x st2 e2 hev href hro a w I F L Q hs hf hQ
  simp only[qd0] at hev
  split at hev
  ·rename_i rf hrf
   unfold rangeR at hev
   split at hev
   ·exact Qmr hM href hro iha.1 ihb.1 hrf hev hs hf hQ
   ·simp only[qbt] at hev
    obtain⟨L0,hs0,hf0⟩:=Qj1 hs hf
    obtain⟨L1,hs1,hf1⟩:=qxw [] (Qlw (qpa (qd0 cx.P cx.G dd body))) hs0 hf0
    exact Qmr hM href hro iha.1 (Qml (seq_tidy ihb.1)) hrf hev hs1 hf1 hQ
  ·simp[qbt] at hev
 | exit id =>
  refine⟨?_,fun l0 y z hsp0=>by simp[qhd] at hsp0⟩
  intro E h dep R lp w0 I0 F0 O0 Hd suf ro st e x st2 e2 hev href hro a w I F L Q hs hf hQ
  simp only[qd0] at hev
  split at hev
  case isFalse=>simp[qbt] at hev
  rename_i hid
  simp only[qbt,Option.some.injEq,Prod.mk.injEq] at hev
  obtain⟨rfl,rfl,rfl⟩:=hev
  have:=hQ a w I F L hs hf
  simp only[qwb,hid,if_true] at this
  exact wpIn_exit this
 | scope c ih=>exact⟨scope_ok ih.1 ih.2,fun l y z h=>by simp[qhd] at h⟩
 | label l =>
  refine⟨?_,?_⟩
  rotate_left
  intro l0 y z hsp0
  simp only[qhd] at hsp0
  split at hsp0
  case isFalse=>cases hsp0
  rename_i hl
  cases hsp0
  have hk:qf5 cx M fuel .skip .skip:=by
   intro E h dep R lp w0 I0 F0 O0 Hd suf ro st e x st2 e2 hev href hro a w I F L Q hs hf hQ
   simp only[qbt,Option.some.injEq,Prod.mk.injEq] at hev
   obtain⟨rfl,rfl,rfl⟩:=hev
   exact wpIn_skip (hQ a w I F L hs hf)
  refine⟨?_,.skip,by simp[findLabel,hl],hk⟩
  intro E h dep R lp w0 I0 F0 O0 Hd suf ro st e x st2 e2 hev href hro a w I F L Q hs hf hQ
  simp only[qbt,Option.some.injEq,Prod.mk.injEq] at hev
  obtain⟨rfl,rfl,rfl⟩:=hev
  exact wpIn_label (hQ a w I F L hs hf)
  intro E h dep R lp w0 I0 F0 O0 Hd suf ro st e x st2 e2 hev href hro a w I F L Q hs hf hQ
  simp only[qd0,qbt,Option.some.injEq,Prod.mk.injEq] at hev
  obtain⟨rfl,rfl,rfl⟩:=hev
  exact wpIn_label (hQ a w I F L hs hf)
 | goto l =>
  refine⟨?_,fun l0 y z hsp0=>by simp[qhd] at hsp0⟩
  intro E h dep R lp w0 I0 F0 O0 Hd suf ro st e x st2 e2 hev href hro a w I F L Q hs hf hQ
  simp only[qd0,qbt,Option.some.injEq,Prod.mk.injEq] at hev
  obtain⟨rfl,rfl,rfl⟩:=hev
  have hn:¬ qg7+l < qg7:=by omega
  have:=hQ a w I F L hs hf
  simp only[qwb,hn,if_false,Nat.add_sub_cancel_left] at this
  exact wpIn_goto this
 | ret =>
  refine⟨?_,fun l0 y z hsp0=>by simp[qhd] at hsp0⟩
  intro E h dep R lp w0 I0 F0 O0 Hd suf ro st e x st2 e2 hev href hro a w I F L Q hs hf hQ
  simp only[qd0,qbt,Option.some.injEq,Prod.mk.injEq] at hev
  obtain⟨rfl,rfl,rfl⟩:=hev
  exact wpIn_ret (hQ a w I F L hs hf)
 | refuse r =>
  refine⟨?_,fun l0 y z hsp0=>by simp[qhd] at hsp0⟩
  intro E h dep R lp w0 I0 F0 O0 Hd suf ro st e x st2 e2 hev
  simp[qd0,qbt] at hev
theorem Qlz (hM:qhx cx M.call) (hsp:MSp cx M) (hloc:Qpj M):∀ c:Code,qv7 cx dd M fuel c:=fun c=>(code_ok2 hM hsp hloc c).1
end
end Go.Ab


namespace Go.Ab
section
variable {E:Type} {cx:Cx} {w0:World} {I0 F0:Nat→Prop} {O0:Own} {Hd:Nat→Option Obj} {R:qlp E} {e:E} {F:Nat→Prop} {lp:Nat→Option Nat} {suf tmv:List Value}
variable {I:Nat→Prop} {L:Loc} {st:St} {w:World} {ds:List Deferred}
theorem res_ok (hs:SR lp I L st tmv suf w) {P:Program}:∀ (rv:List ResultVar) (rs:List RRes) (vs:List PV),qt6 P rv=some rs→qmz st rs=some vs →
  ∃ us,(rv.mapM fun (r:ResultVar)=>(match r with
   | .tmp t=>pure (tmv.toArray.getD t undef)
   | .cell a t=>do loadVar t (←asAddr (tmv.toArray.getD a undef)):Sem Value)).run P w=.ok us w∧qbv w I lp (some L) vs us:=by
 intro rv
 induction rv with
 | nil =>
  intro rs vs h1 h2
  simp only[qt6,Option.some.injEq] at h1
  subst h1
  simp only[qmz,Option.some.injEq] at h2
  subst h2
  exact⟨[],rfl,.nil⟩
 | cons r rv ih =>
  intro rs vs h1 h2
  simp only[qt6] at h1
  split at h1
  case h_2=>cases h1
  rename_i x xs hx hxs
  cases h1
  simp only[qmz] at h2
  split at h2
  case h_2=>cases h2
  rename_i v vs' hv hvs
  cases h2
  obtain⟨us,q1,q2⟩:=ih xs vs' hxs hvs
  have key:∃ u,(match r with
   | .tmp t=>pure (tmv.toArray.getD t undef)
   | .cell a t=>do loadVar t (←asAddr (tmv.toArray.getD a undef)):Sem Value).run P w=.ok u w∧qbx w I lp (some L) v u:=by
   cases r with
   | tmp t =>
    simp only[Option.some.injEq] at hx
    subst hx
    simp only[qqh,Option.some.injEq] at hv
    subst hv
    refine⟨tmv.toArray.getD t undef,rfl,?_⟩
    rw[Qd9]
    exact hs.tm.getD t undef
   | cell a t =>
    simp only[Option.map_eq_some_iff] at hx
    obtain⟨⟨n,ag⟩,hsh,rfl⟩:=hx
    simp only[qqh] at hv
    split at hv
    case h_2=>cases hv
    rename_i nm o hr
    split at hv
    case h_2=>cases hv
    rename_i cs hlk
    have hrep:=hs.tm.getD a undef
    rw[hr] at hrep
    obtain⟨b,C,hL,hbv⟩:=qg6 hrep
    obtain⟨p,hp,ha⟩:=hs.ob nm _ hlk
    rw[hL] at hp;cases hp
    obtain⟨c,E',hb,hC,hone,hrl⟩:=ha
    obtain⟨u,hu,hru⟩:=qxd hrl hone.1 hv
    refine⟨u,?_,hru⟩
    have hld:=qje (P:=P) hsh (off:=o) hb (v:=u) (by
     cases ag
     ·simpa using hu
     ·simp only[if_true] at hu ⊢
      refine⟨by simpa using hu.1,?_⟩
      rw[hu.2,qjt,Nat.add_sub_cancel_left])
    show (do loadVar t (←asAddr (tmv.toArray.getD a undef)):Sem Value).run P w=_
    rw[Qd9]
    have hbv':tmv.toArray.toList.getD a undef=.pointer (some ⟨b,o,none⟩):=hbv
    rw[hbv']
    simpa[Instr.loadAt,Instr.sureAddr,asAddr] using hld
  obtain⟨u,k1,k2⟩:=key
  refine⟨u :: us,?_,.cons _ _ _ _ k2 q2⟩
  rw[List.mapM_cons,Sem.run_bind,k1,Result.andThen_ok,Sem.run_bind,q1,Result.andThen_ok]
  rfl
theorem one_rep {vs:List PV} {us:List Value} (h:qbv w I lp (some L) vs us):qbx w I lp (some L) (qqw vs) (if h:us.toArray.size=1 then us.toArray[0] else .tuple us.toArray):=by
 match vs,us,h with
 | [],[],.nil=>exact .tup [] #[] .nil
 | [v],[u],.cons _ _ _ _ h .nil=>exact h
 | v :: v' :: vs,u :: u' :: us,h =>
  have:¬ (u :: u' :: us).toArray.size=1:=by simp
  rw[dif_neg this]
  exact .tup _ _ (by simpa using h)
theorem Qgo {σ:Nm→Option Ob}:∀ (S:List Nm) (obs:List Ob),S.mapM σ=some obs→obs.length=S.length∧∀ (j:Nat) (nm:Nm),S[j]?=some nm→∃ ob,obs[j]?=some ob∧σ nm=some ob:=by
 intro S
 induction S with
 | nil=>intro obs h;simp at h;subst h;exact⟨rfl,fun j nm h=>by simp at h⟩
 | cons x S ih =>
  intro obs h
  rw[List.mapM_cons] at h
  simp only[Option.bind_eq_bind,Option.bind_eq_some_iff,Option.pure_def,Option.some.injEq] at h
  obtain⟨ob,ho,obs',hos,rfl⟩:=h
  obtain⟨q1,q2⟩:=ih obs' hos
  refine⟨by simp[q1],fun j nm hj=>?_⟩
  cases j with
  | zero=>simp at hj;subst hj;exact⟨ob,rfl,ho⟩
  | succ j=>simp at hj;obtain⟨o,h1,h2⟩:=q2 j nm hj;exact⟨o,by simpa using h1,h2⟩
theorem nodupN_inj:∀ {S:List Nm},qgs S=true→∀ (i j:Nat) (nm:Nm),S[i]?=some nm→S[j]?=some nm→i=j:=by
 intro S
 induction S with
 | nil=>intro _ i j nm h;simp at h
 | cons x S ih =>
  intro h i j nm hi hj
  simp only[qgs,Bool.and_eq_true,Bool.not_eq_true'] at h
  obtain⟨h1,h2⟩:=h
  have hx:x ∉ S:=by simpa using h1
  cases i with
  | zero =>
   cases j with
   | zero=>rfl
   | succ j=>simp at hi hj;subst hi;exact absurd (List.mem_of_getElem? hj) hx
  | succ i =>
   cases j with
   | zero=>simp at hi hj;subst hj;exact absurd (List.mem_of_getElem? hi) hx
   | succ j=>simp at hi hj;rw[ih h2 i j nm hi hj]
theorem isArr_bare {ob:Ob} (h:Qhd ob=true):Qhd ob.bare=true:=by cases ob<;>first | exact h | rfl
theorem qjy.bare {w:World} {I:Nat→Prop} {lp:Nat→Option Nat} {L:Loc} {ob:Ob} {p:Option (Nat×Nat)} (h:qjy w I lp L ob p):qjy w I lp L ob.bare p:=by
 cases p with
 | none=>obtain⟨k,kt,rfl⟩:=h;exact⟨k,0,rfl⟩
 | some p =>
  cases ob with
  | arr k kt xs=>obtain⟨c,E,h1,h2,h3,h4⟩:=h;exact⟨c,E,h1,h2,⟨h3.1,.inl rfl⟩,h4⟩
  | cells ty cs=>exact h
  | map es=>exact h
  | siter s p=>exact h
theorem hand_ok {shut:Bool} (hs:SR lp I L st tmv suf w) (hf:Fr cx w0 I0 F0 ⟨fun _=>False,[]⟩ Hd R e ds I F L w) {v v':PV} {u:Value} {obs:List Ob} (hv:qbx w I lp (some L) v u) (h:qkj shut st v=some (v',obs)) :
  ∃ I' ps,qvc cx R lp I0 F0 w0 v' obs e u w I' F ps:=by
 simp only[qkj] at h
 generalize hS:(if (qgs (qqd shut v)&&(qqd shut v).all fun nm=>!(qcm (qbo st.objs) qbn (v.names.filter fun nm=>!(qqd shut v).contains nm)).contains nm)=true then qqd shut v else [])=S at h
 generalize hRn:qcm (qbo st.objs) qbn (v.names.filter fun nm=>!S.contains nm)=Rn at h
 split at h
 case h_2=>cases h
 rename_i obs' hm
 obtain⟨hk,h⟩:=qbr h
 cases h
 simp only[Bool.and_eq_true] at hk
 obtain⟨hR,harr⟩:=hk
 obtain⟨m1,m2⟩:=Qgo S obs' hm
 have hSnd:qgs S=true∧∀ nm∈S,nm ∉ Rn:=by
  by_cases hc:(qgs (qqd shut v)&&(qqd shut v).all fun nm=>!(qcm (qbo st.objs) qbn (v.names.filter fun nm=>!(qqd shut v).contains nm)).contains nm)=true
  ·rw[if_pos hc] at hS
   subst hS
   rw[Bool.and_eq_true] at hc
   refine⟨hc.1,fun nm hn=>?_⟩
   have:=List.all_eq_true.1 hc.2 nm hn
   rw[hRn] at this
   simpa using this
  ·rw[if_neg hc] at hS
   subst hS
   exact⟨rfl,fun nm hn=>by cases hn⟩
 obtain⟨hnd,hdis⟩:=hSnd
 have hloc:∀ (j:Nat) (nm:Nm),S[j]?=some nm→∃ p ob,L nm=some p∧obs'[j]?=some ob∧qjy w I lp L ob p:=by
  intro j nm hj
  obtain⟨ob,h1,h2⟩:=m2 j nm hj
  obtain⟨p,hp,ha⟩:=hs.ob nm ob h2
  exact⟨p,ob,hp,h1,ha⟩
 refine⟨inR I L Rn,S.map (fun nm=>(L nm).getD none),?_⟩
 have hfz:=hf.freeze Rn
 have hps:∀ (j:Nat) (p:Option (Nat×Nat)),(S.map (fun nm=>(L nm).getD none))[j]?=some p→∃ nm,S[j]?=some nm∧L nm=some p:=by
  intro j p hj
  rw[List.getElem?_map,Option.map_eq_some_iff] at hj
  obtain⟨nm,h1,h2⟩:=hj
  obtain⟨q,ob,hq,_,_⟩:=hloc j nm h1
  rw[hq] at h2
  simp only[Option.getD_some] at h2
  subst h2
  exact⟨nm,h1,hq⟩
 refine⟨hfz.ext,hfz.sep,hfz.wd,hfz.re,by rw[List.length_map,List.length_map,m1],?_,?_,?_,?_,by rw[List.all_map];exact List.all_eq_true.2 fun ob ho=>isArr_bare (List.all_eq_true.1 harr ob ho)⟩
 ·intro j ob p hj hp
  obtain⟨nm,h1,h2⟩:=hps j p hp
  obtain⟨q,ob',hq,ho,ha⟩:=hloc j nm h1
  rw[h2] at hq;cases hq
  rw[List.getElem?_map,ho] at hj;cases hj
  have hj:=ho
  refine qjy.bare ?_
  exact (ha.mono (I':=inR I L Rn) (fun _ h=>.inl h) (fun _ _=>rfl) (fun _ _ h=>h) fun _ _ _=>rfl).ofArr (List.all_eq_true.1 harr _ (List.mem_of_getElem? hj))
 ·intro j b C hj
  obtain⟨nm,h1,h2⟩:=hps j _ hj
  obtain⟨g1,g2,g3,g4⟩:=hf.lB nm b C h2
  refine⟨g1.elim id fun h=>h.elim,g2,?_,g4⟩
  rintro (hb | ⟨nm',hm',C',hL'⟩)
  ·exact g3 hb
  ·have:=hf.inj nm nm' b C C' h2 hL'
   subst this
   exact hdis nm (List.mem_of_getElem? h1) hm'
 ·intro j j' b C C' h1 h2
  obtain⟨nm,a1,a2⟩:=hps j _ h1
  obtain⟨nm',b1,b2⟩:=hps j' _ h2
  have:=hf.inj nm nm' b C C' a2 b2
  subst this
  exact nodupN_inj hnd j j' nm a1 b1
 ·have hsub:qlz w (inR I L Rn) lp L (some fun nm=>if nm∈S then L nm else none) (fun nm=>nm∈S∨nm∈Rn) (fun nm=>if S.contains nm then none else qci (qbo st.objs) nm):=by
   intro nm p hn hp
   by_cases hm:nm∈S
   ·have:S.contains nm=true:=by simpa using hm
    simp only[this,if_true]
    exact⟨_,rfl,by simp[hm,hp]⟩
   ·have:S.contains nm=false:=by simpa using hm
    simp only[this,Bool.false_eq_true,if_false]
    have:=qsx hs hR (none) nm p (hn.resolve_left hm) hp
    cases hcl:qci (qbo st.objs) nm with
    | none=>simp[qci] at hcl
    | some q =>
     rw[hcl] at this
     cases q with
     | none=>trivial
     | some ob=>exact this
  have h1:=qbx.subst (I':=inR I L Rn) (fun b hb=>.inl hb) hsub hv (fun nm hn=>by
   by_cases hm:nm∈S
   ·exact .inl hm
   ·refine .inr ?_
    rw[←hRn]
    exact qdf _ _ _ (List.mem_filter.2 ⟨hn,by simpa using hm⟩))
  refine qbx.rename (fun nm p hp=>?_) h1
  split at hp
  ·rename_i hm
   have hidx:=List.idxOf_lt_length_of_mem hm
   have hget:S[S.idxOf nm]?=some nm:=by rw[List.getElem?_eq_getElem hidx];simp
   simp[Qfj,locOf,qdr,hget,hp]
  ·cases hp
theorem leaves_ok {P:Program} {fn:Func} {tmps:Array Value} {Rr:Ending→World→Prop}:∀ {ds:List Deferred} {w:World} {lo:Nat} {I F:Nat→Prop} {L:Loc},qj6 lo I F L w ds []→(∀ w':World,w'.os=w.os→w'.tape=w.tape→w'.output=w.output→w'.heap.size=w.heap.size →
   (∀ b,(b < lo∨I b∨F b∨∃ nm C,L nm=some (some (b,C)))→w'.heap[b]?=w.heap[b]?)→∃ v,(results fn tmps).run P w'=.ok v w'∧Rr (.returned v) w') →
  LeavesInM Fence.wide 0 P fn tmps Rr ds .returning w:=by
 intro ds
 induction ds with
 | nil =>
  intro w lo I F L _ h
  obtain⟨v,h1,h2⟩:=h w rfl rfl rfl rfl fun _ _=>rfl
  exact⟨v,h1,h2⟩
 | cons d ds ih =>
  intro w lo I F L hm h
  cases hm with
  | cons D _ _ h1 h2 h3 h4 h5 h6 h7 hr =>
   refine⟨by simp,.inl ⟨D,_,rfl,run_takeDeferred h6,?_⟩⟩
   have hk:∀ b,b≠D→(w.putObj D (.deferred none)).heap[b]?=w.heap[b]?:=fun b hb=>World.putObj_heap_other hb
   have hsz:(w.putObj D (.deferred none)).heap.size=w.heap.size:=World.putObj_size
   have hr':qj6 lo I F L (w.putObj D (.deferred none)) ds []:=by
    have key:∀ ds rs,qj6 lo I F L w ds rs→(∀ d∈ds,d.target≠.collected D)→qj6 lo I F L (w.putObj D (.deferred none)) ds rs:=by
     intro ds rs hm
     induction hm with
     | call d' ds rs hd _ ih=>intro hne;exact .call d' ds rs hd (ih fun d hd=>hne d (List.mem_cons_of_mem _ hd))
     | nil=>intro _;exact .nil
     | cons D' ds rs g1 g2 g3 g4 g5 g6 g7 _ ih =>
      intro hne
      have hDD:D'≠D:=fun e=>hne {target:=.collected D',args:=#[]} List.mem_cons_self (by rw[e])
      exact .cons D' ds rs g1 (by rw[hsz];exact g2) g3 g4 g5 ((hk D' hDD).trans g6) g7 (ih fun d hd=>hne d (List.mem_cons_of_mem _ hd))
    exact key ds _ hr h7
   refine ih hr' fun w' e1 e2 e3 e4 e5=>h w' e1 e2 e3 (by rw[e4,hsz]) fun b hb=>?_
   have hne:b≠D:=by
    rintro rfl
    rcases hb with hb | hb | hb | ⟨nm,C,hb⟩
    ·omega
    ·exact h3 hb
    ·exact h4 hb
    ·exact h5 nm C hb
   exact (e5 b hb).trans (hk b hne)
end
def Ql5 (cx:Cx) (tab:FuncId→Option RFn) (dd:FuncId→qz0):Prop:=∀ f fn,tab f=some fn→Qlx cx.P cx.G (dd f) f=some {fn with io:=false,shut:=false,leans:=false,gone:=[]}
theorem tab_fn {cx:Cx} {tab:FuncId→Option RFn} {dd:FuncId→qz0} (htab:Ql5 cx tab dd) {g:FuncId} {rf:RFn} (hrf:tab g=some rf):∃ fn c,cx.P.funcs[g]?=some fn∧fn.body=some c∧qt6 cx.P fn.results.toList=some rf.res∧¬ (fn.name == "runtime.NumGoroutine")=true∧rf.nt=fn.ntmps∧rf.code=qd0 cx.P cx.G (dd g) c:=by
 have hcf:=htab g rf hrf
 unfold Qlx at hcf
 split at hcf
 case h_2=>cases hcf
 rename_i fn hfn
 split at hcf
 case h_2=>cases hcf
 rename_i c rs hbody hres
 split at hcf
 case isTrue=>cases hcf
 rename_i hname
 obtain⟨nt,code,res,io⟩:=rf
 simp only[Option.some.injEq,RFn.mk.injEq,and_true] at hcf
 obtain⟨rfl,rfl,rfl⟩:=hcf
 exact⟨fn,c,hfn,hbody,hres,hname,rfl,rfl⟩
theorem callOf_ok {cx:Cx} {M:qfk} {tab:FuncId→Option RFn} (hM:qhx cx M.call) (hsp:MSp cx M) (hloc:Qpj M) {dd:FuncId→qz0} (htab:Ql5 cx tab dd) (n:Nat):qhx cx (qpm M n tab):=by
  intro E h R dep lp Ir Fr_ wr g args e r obs e' hc hand hdep
  simp only[qpm] at hc
  split at hc
  ·cases hc
  rename_i rf hrf
  obtain⟨fn,c,hfn,hbody,hres,hname,hnt,hcode⟩:=tab_fn htab hrf
  rw[hnt,hcode] at hc
  split at hc
  case h_2=>cases hc
  rename_i x st2 e2 hev
  refine⟨⟨fn,hfn,by simpa using hname,by rw[hbody];rfl⟩,fun I F w vs hx hsep hwd hre hrep=>?_⟩
  have hend:x≠.normal→x=.ret∨∃ id,x=.exit id:=by cases x<;>simp
  have hxe:∀ id,x≠.exit id:=by rintro id rfl;simp at hc
  have hc2:(match qmz st2 rf.res with
     | some vs=>match qkj rf.shut st2 (qqw vs) with
      | some (v,obs)=>some (v,obs,e2)
      | none=>none
     | none=>none)=some (r,obs,e'):=by
   cases x with
   | normal=>exact hc
   | ret=>exact hc
   | exit id=>exact absurd rfl (hxe id)
  split at hc2
  case h_2=>cases hc2
  rename_i rvs hrvs
  split at hc2
  case h_2=>cases hc2
  rename_i v' obs' hho
  cases hc2
  refine callsIn_of_wp_marks hfn hbody trivial ?_
  have hlen:=hrep.length
  have hst0:SR lp I (fun _=>none) {tmps:=args++List.replicate (fn.ntmps - args.length) .undef,objs:=List.replicate fn.ntmps [],keep:=[]} (vs.toArray++Array.replicate (fn.ntmps - vs.toArray.size) undef).toList [] w:=by
   refine⟨?_,.nil,fun nm ob hl=>?_,fun nm _=>rfl⟩
   ·have h2:qbv w I lp (some fun _=>none) (List.replicate (fn.ntmps - args.length) PV.undef) (List.replicate (fn.ntmps - args.length) undef):=qbv.undefs _ _ (by simp)
    have:=(hrep.lift (some fun _=>none)).append h2
    simpa[hlen] using this
   ·exfalso
    have hnone:qbo (List.replicate fn.ntmps []) nm=none:=by
     unfold qbo
     cases hg:(List.replicate fn.ntmps ([]:List Ob))[nm.1]? with
     | none=>rfl
     | some l =>
      have:=List.eq_of_mem_replicate (List.mem_of_getElem? hg)
      subst this
      simp
    rw[hnone] at hl
    cases hl
  have hfr0:Fr cx w I F ⟨fun _=>False,[]⟩ (fun _=>none) R e [] I F (fun _=>none) w :=
   ⟨Ext.refl _ _ _,hsep,fun b hb=>hb.elim,fun nm b C hn=>(by cases hn),fun nm nm' b C C' hn=>(by cases hn),hwd,hre,.nil,fun b ob hb=>(by cases hb)⟩
  refine Qlz (dd:=dd g) (M:=M) hM hsp hloc c E h dep R lp w I F ⟨fun _=>False,[]⟩ (fun _=>none) [] none _ e x st2 e' hev ⟨⟨Ir,Fr_,wr,hand,hx⟩,hdep⟩ (fun l0 he=>by cases he) {tmps:=_,defers:=[]} w I F _ _ hst0 hfr0 ?_
  rintro a' w' I' F' L' hs' hf'
  have hpost:LeavesInM Fence.wide 0 cx.P fn a'.tmps (Qpl cx R lp I F w r obs e') a'.defers .returning w':=by
   refine leaves_ok hf'.mks fun w2 e1 e3 e4 e5 e6=>?_
   have hkI:∀ b,I' b→w2.heap[b]?=w'.heap[b]?:=fun b hb=>e6 b (.inr (.inl hb))
   have hkF:∀ b,F' b→w2.heap[b]?=w'.heap[b]?:=fun b hb=>e6 b (.inr (.inr (.inl hb)))
   have hs2:SR lp I' L' st2 a'.tmps.toList [] w2:=hs'.keeps (fun _ h=>h) hkI fun nm b C hn=>e6 b (.inr (.inr (.inr ⟨nm,C,hn⟩)))
   have hf2:Fr cx w I F ⟨fun _=>False,[]⟩ (fun _=>none) R e' [] I' F' L' w2:=by
    refine⟨⟨e1.trans hf'.ext.os,e3.trans hf'.ext.tape,e4.trans hf'.ext.output,by rw[e5];exact hf'.ext.size,fun b hb hF=>(e6 b (.inl hb)).trans (hf'.ext.keep b hb hF),hf'.ext.subI,hf'.ext.newI,hf'.ext.newF⟩,
     ⟨fun b hb=>by rw[e5];exact hf'.sep.iB b hb,fun b hb=>⟨by rw[e5];exact (hf'.sep.fB b hb).1,(hf'.sep.fB b hb).2⟩⟩,fun b hb=>hb.elim,fun nm b C hn=>?_,hf'.inj,?_,?_,.nil,fun b ob hb=>by cases hb⟩
    ·obtain⟨q1,q2,q3,q4⟩:=hf'.lB nm b C hn
     exact⟨q1,by rw[e5];exact q2,q3,q4⟩
    ·exact cx.stab I' I' w' w2 hf'.wd (fun _ h=>h) hkI (by rw[e5];exact Nat.le_refl _)
    ·exact R.stab e' I' I' F' w' w2 hf'.re (fun _ h=>h) (fun b hb=>hb.elim (hkI b) (hkF b)) (by rw[e5];exact Nat.le_refl _)
   obtain⟨us,q1,q2⟩:=res_ok hs2 (P:=cx.P) fn.results.toList rf.res rvs hres hrvs
   obtain⟨I3,ps,hce⟩:=hand_ok hs2 hf2 (one_rep q2) hho
   refine⟨_,?_,⟨I3,F',ps,hce⟩⟩
   unfold results
   rw[Sem.run_bind,Array.mapM_eq_mapM_toList,Sem.run_map]
   rw[Array.toArray_toList] at q1
   exact (congrArg (fun r:Result (List Value)=>(r.andThen fun a w'=>Result.ok a.toArray w').andThen fun a w'=>Sem.run cx.P (pure (if h:a.size=1 then a[0] else Value.tuple a)) w') q1).trans rfl
  cases x with
  | normal=>exact hpost
  | ret=>exact hpost
  | exit id=>exact absurd rfl (hxe id)
end Go.Ab


namespace Go.Ab
inductive Pend (nt:Nat):List Nat→List Value→List Deferred→Prop
 | nil:Pend nt [] [] []
 | cons (k:Nat) (l:List Nat) (us pad:List Value) (rs:List Deferred) (fn:Fn) (fst caps:Array Value) (args:List Value) (hk:args.length=k) (hn:1+k+pad.length=nt) (h:Pend nt l us rs) :
   Pend nt (k :: l) (.func fn fst caps :: (args++pad)++us) ({target:=.fn fn caps,args:=fst++args.toArray} :: rs)
theorem Pend.append {nt:Nat} {l l':List Nat} {us us':List Value} {rs rs':List Deferred} (h:Pend nt l us rs) (h':Pend nt l' us' rs'):Pend nt (l++l') (us++us') (rs++rs'):=by
 induction h with
 | nil=>exact h'
 | cons k l us pad rs fn fst caps args hk hn _ ih =>
  have:=Pend.cons k _ _ pad _ fn fst caps args hk hn ih
  simpa[List.append_assoc] using this
theorem qzz.more {M:qfk} {E:Type} {h:qbg E} {dep:Nat} {r1 r2:List qbw} {l:List Nat} {st st2:St} {e e2:E} (hr:qzz M h dep r1 l st e st2 e2):qzz M h dep (r1++r2) l st e st2 e2:=by
 induction hr with
 | nil st e=>exact .nil st e
 | cons i rest o st st1 st2 e e1 e2 ho hs _ ih =>
  have hi:i < r1.length:=(List.getElem?_eq_some_iff.1 ho).1
  refine .cons i rest o st st1 st2 e e1 e2 (by rw[List.getElem?_append_left hi];exact ho) ?_ ih
  have hw:∀ b,qji r1 o st.tmps=some b→qji (r1++r2) o st.tmps=some b:=by
   intro b hb
   unfold qji at hb ⊢
   split at hb
   ·exact hb
   ·rename_i j want hg
    cases hj:r1[j]? with
    | none=>rw[hj] at hb;cases hb
    | some p =>
     have hlt:j < r1.length:=(List.getElem?_eq_some_iff.1 hj).1
     rw[hj] at hb
     rw[List.getElem?_append_left hlt,hj]
     exact hb
  unfold stepG at hs ⊢
  cases hq:qji r1 o st.tmps with
  | none=>rw[hq] at hs;cases hs
  | some b =>
   rw[hq] at hs
   rw[hw b hq]
   cases b<;>exact hs
section
variable {cx:Cx} {dd:qz0} {M:qfk} {fuel nt:Nat}
theorem seq_leaf (g:List (Nat×Nat)) (f:RX) (ps:List Nat) (a b:qc6) (st:St):qcn M fuel nt (.seq (.norm g) (.rangeFunc f ps a b)) st=qq1 (qbt M fuel (.seq (.norm g) (.rangeFunc f ps a b)) qbc 0 st ()):=by
 have e2:qbt M fuel (.seq (.norm g) (.rangeFunc f ps a b)) qbc 0 st ()=qbt M fuel (.rangeFunc f ps a b) qbc 0 (norm [] g (trim st)) ():=rfl
 rw[e2]
 show (match qcn M fuel nt (.rangeFunc f ps a b) (norm [] g (trim st)) with
  | some (x,st,l')=>some (x,st,l'++[])
  | none=>none)=_
 rw[show qcn M fuel nt (.rangeFunc f ps a b) (norm [] g (trim st))=qq1 (qbt M fuel (.rangeFunc f ps a b) qbc 0 (norm [] g (trim st)) ()) from rfl]
 cases qbt M fuel (.rangeFunc f ps a b) qbc 0 (norm [] g (trim st)) () with
 | none=>rfl
 | some p=>rfl
theorem Qc5:∀ (c:qc6) (st:St) (r:Ex×St×List Nat),noD c=true→qcn M fuel nt c st=some r→qq1 (qbt M fuel c qbc 0 st ())=some r:=by
 intro c
 induction c with
 | seq a b iha ihb =>
  intro st r hn hev
  simp only[noD,Bool.and_eq_true] at hn
  simp only[qcn] at hev
  cases ha:qcn M fuel nt a st with
  | none=>rw[ha] at hev;cases hev
  | some q =>
   obtain⟨x,s1,l1⟩:=q
   have h1:=iha st _ hn.1 ha
   rw[ha] at hev
   simp only[qbt]
   cases hc:qbt M fuel a qbc 0 st () with
   | none=>rw[hc] at h1;cases h1
   | some q2 =>
    obtain⟨x2,s2,u⟩:=q2
    rw[hc] at h1
    cases h1
    cases x with
    | normal =>
     simp only at hev ⊢
     cases hb:qcn M fuel nt b s1 with
     | none=>rw[hb] at hev;cases hev
     | some q3 =>
      obtain⟨x3,s3,l3⟩:=q3
      rw[hb] at hev
      simp only[List.append_nil] at hev
      rw[←hev]
      exact ihb s1 _ hn.2 hb
    | exit id=>exact hev
    | ret=>exact hev
 | cond c a b iha ihb =>
  intro st r hn hev
  simp only[noD,Bool.and_eq_true] at hn
  simp only[qcn] at hev
  simp only[qbt]
  split at hev
  ·exact iha st r hn.1 hev
  ·exact ihb st r hn.2 hev
  ·cases hev
 | block id b ih =>
  intro st r hn hev
  simp only[noD] at hn
  simp only[qcn] at hev
  cases ha:qcn M fuel nt b st with
  | none=>rw[ha] at hev;cases hev
  | some q =>
   obtain⟨x,s1,l1⟩:=q
   have h1:=ih st _ hn ha
   rw[ha] at hev
   simp only[qbt]
   cases hc:qbt M fuel b qbc 0 st () with
   | none=>rw[hc] at h1;cases h1
   | some q2 =>
    obtain⟨x2,s2,u⟩:=q2
    rw[hc] at h1
    cases h1
    cases x with
    | exit id' =>
     simp only at hev ⊢
     split at hev<;>rename_i hid
     ·rw[if_pos hid];exact hev
     ·rw[if_neg hid];exact hev
    | normal=>exact hev
    | ret=>exact hev
 | scope b ih =>
  intro st r hn hev
  simp only[noD] at hn
  simp only[qcn] at hev
  split at hev
  ·cases hev
  cases ha:qcn M fuel nt b st with
  | none=>rw[ha] at hev;cases hev
  | some q =>
   obtain⟨x,s1,l1⟩:=q
   have h1:=ih st _ hn ha
   rw[ha] at hev
   simp only[qbt]
   cases hc:qbt M fuel b qbc 0 st () with
   | none=>rw[hc] at h1;cases h1
   | some q2 =>
    obtain⟨x2,s2,u⟩:=q2
    rw[hc] at h1
    cases h1
    cases x with
    | exit id' =>
     simp only at hev ⊢
     split at hev<;>rename_i hid
     ·rw[if_pos hid];exact hev
     ·cases hev
    | normal=>exact hev
    | ret=>exact hev
 | dreg=>intro st r hn;cases hn
 | _=>intro st r _ hev;exact hev
theorem Qlo {g:Option (List (Nat×Nat))} {r:qc6} {st st2:St} {x:Ex} {l:List Nat} (h:qcn M fuel nt (normR g r) st=some (x,st2,l)) :
  ∃ st4,qcn M fuel nt r st=some (x,st4,l)∧(st2=st4∨x=.normal∧∃ g,st2=norm [] g (trim st4)):=by
 cases g with
 | none=>exact⟨st2,h,.inl rfl⟩
 | some g =>
  simp only[normR,qcn] at h
  cases ha:qcn M fuel nt r st with
  | none=>rw[ha] at h;cases h
  | some q =>
   obtain⟨y,s1,l1⟩:=q
   rw[ha] at h
   cases y with
   | normal =>
    simp only[qbt,qq1,List.nil_append,Option.some.injEq,Prod.mk.injEq] at h
    obtain⟨rfl,rfl,rfl⟩:=h
    exact⟨s1,rfl,.inr ⟨rfl,g,rfl⟩⟩
   | exit id=>cases h;exact⟨_,rfl,.inl rfl⟩
   | ret=>cases h;exact⟨_,rfl,.inl rfl⟩
theorem Qgj {g:Option (List (Nat×Nat))} {r:qc6} (h:noD r=true):noD (normR g r)=true:=by
 cases g with
 | none=>exact h
 | some g=>simp[normR,noD,h]
theorem Qh7 {G:qnl} {o:Oper} {f:RX} {args:List RX} (h:Qd3 G o=some (f,args)) :
  ∃ c fo,o.op=.defer c∧o.guard=none∧o.dst=none∧c.callee=.value fo∧rx G fo=some f∧rxs G c.args.toList=some args:=by
 unfold Qd3 at h
 split at h
 ·rename_i c h1 h2 h3
  split at h
  ·rename_i fo hc
   split at h
   ·rename_i f' as h4 h5
    cases h
    exact⟨c,fo,h1,h2,h3,hc,h4,h5⟩
   ·cases h
  ·cases h
 ·cases h
theorem evalD_ok (hM:qhx cx M.call) (hsp:MSp cx M) (hloc:Qpj M):∀ (c:Code) (lp:Nat→Option Nat) (w0:World) (I0 F0 own:Nat→Prop) (rs:List Deferred) (suf:List Value) (st:St) (x:Ex) (st2:St) (l:List Nat),
  qcn M fuel nt (qd0 cx.P cx.G dd c) st=some (x,st2,l)→Ref cx lp qfo qbc 0 w0 I0 F0 →
  ∀ (a:Act) (w:World) (I F:Nat→Prop) (L:Loc) (Q:Exit→Act→World→Prop),SR lp I L st a.tmps.toList suf w→Fr cx w0 I0 F0 ⟨own,rs⟩ (fun _=>none) qfo () a.defers I F L w →
   (∀ a' w' I' F' L' us rs',SR lp I' L' st2 a'.tmps.toList (us++suf) w'→Fr cx w0 I0 F0 ⟨own,rs'++rs⟩ (fun _=>none) qfo () a'.defers I' F' L' w'→Pend nt l us rs'→Q (qwb x) a' w') →
   c.wpIn (fen none) 0 cx.P Q a w:=by
 have leaf:∀ (c:Code) (lp:Nat→Option Nat) (w0:World) (I0 F0 own:Nat→Prop) (rs:List Deferred) (suf:List Value) (st:St) (x:Ex) (st2:St) (l:List Nat),
   qq1 (qbt M fuel (qd0 cx.P cx.G dd c) qbc 0 st ())=some (x,st2,l)→Ref cx lp qfo qbc 0 w0 I0 F0 →
   ∀ (a:Act) (w:World) (I F:Nat→Prop) (L:Loc) (Q:Exit→Act→World→Prop),SR lp I L st a.tmps.toList suf w→Fr cx w0 I0 F0 ⟨own,rs⟩ (fun _=>none) qfo () a.defers I F L w →
    (∀ a' w' I' F' L' us rs',SR lp I' L' st2 a'.tmps.toList (us++suf) w'→Fr cx w0 I0 F0 ⟨own,rs'++rs⟩ (fun _=>none) qfo () a'.defers I' F' L' w'→Pend nt l us rs'→Q (qwb x) a' w') →
    c.wpIn (fen none) 0 cx.P Q a w:=by
  intro c lp w0 I0 F0 own rs suf st x st2 l hev href a w I F L Q hs hf hQ
  unfold qq1 at hev
  split at hev
  ·rename_i x' st' u hq
   cases hev
   exact Qlz hM hsp hloc c Unit qbc 0 qfo lp w0 I0 F0 ⟨own,rs⟩ (fun _=>none) suf none st () x st2 u hq href (fun _ h=>by cases h) a w I F L Q hs hf fun a' w' I' F' L' g1 g2=>hQ a' w' I' F' L' [] [] g1 g2 .nil
  ·cases hev
 intro c
 induction c with
 | seq c1 c2 ih1 ih2 =>
  intro lp w0 I0 F0 own rs suf st x st2 l hev href a w I F L Q hs hf hQ
  simp only[qd0,qcn] at hev
  refine wpIn_seq ?_
  split at hev
  ·rename_i st3 l1 g1
   split at hev
   case h_2=>cases hev
   rename_i x' st4 l2 g2
   cases hev
   exact ih1 lp w0 I0 F0 own rs suf st .normal st3 l1 g1 href a w I F L _ hs hf fun a' w' I' F' L' us rs' hs' hf' hp =>
    ih2 lp w0 I0 F0 own (rs'++rs) (us++suf) st3 x st2 l2 g2 href a' w' I' F' L' Q hs' hf' fun a2 w2 I2 F2 L2 us2 rs2 hs2 hf2 hp2 =>
     hQ a2 w2 I2 F2 L2 (us2++us) (rs2++rs') (by rw[List.append_assoc];exact hs2) (by rw[List.append_assoc];exact hf2) (hp2.append hp)
  ·rename_i hne
   refine ih1 lp w0 I0 F0 own rs suf st x st2 l hev href a w I F L _ hs hf fun a' w' I' F' L' us rs' hs' hf' hp=>?_
   have:=hQ a' w' I' F' L' us rs' hs' hf' hp
   cases x with
   | normal=>exact (hne _ _ hev).elim
   | exit id =>
    simp only[qwb] at this ⊢
    split<;>rename_i hid
    ·simp only[hid,if_true] at this;exact this
    ·simp only[hid,if_false] at this;exact this
   | ret=>exact this
 | cond c c1 c2 ih1 ih2 =>
  intro lp w0 I0 F0 own rs suf st x st2 l hev href a w I F L Q hs hf hQ
  simp only[qd0] at hev
  split at hev
  ·rename_i rc hrc
   simp only[qcn] at hev
   have hc:=qce hs hf.wd hrc
   split at hev
   ·rename_i hb
    rw[hb] at hc
    exact wpIn_cond_true (qfn hc) (ih1 lp w0 I0 F0 own rs suf st x st2 l hev href a w I F L Q hs hf hQ)
   ·rename_i hb
    rw[hb] at hc
    exact wpIn_cond_false (qfn hc) (ih2 lp w0 I0 F0 own rs suf st x st2 l hev href a w I F L Q hs hf hQ)
   ·cases hev
  ·simp[qcn,qbt,qq1] at hev
 | block id c ih =>
  intro lp w0 I0 F0 own rs suf st x st2 l hev href a w I F L Q hs hf hQ
  simp only[qd0] at hev
  split at hev
  case isFalse=>simp[qcn,qbt,qq1] at hev
  rename_i hidb
  simp only[qcn] at hev
  refine wpIn_block ?_
  split at hev
  ·rename_i id' st3 l3 h1
   refine ih lp w0 I0 F0 own rs suf st (.exit id') st3 l3 h1 href a w I F L _ hs hf fun a' w' I' F' L' us rs' hs' hf' hp=>?_
   by_cases hid:id'=id
   ·rw[if_pos hid] at hev
    cases hev
    subst hid
    simp only[qwb,hidb,Exit.inBlock,if_true]
    exact hQ a' w' I' F' L' us rs' hs' hf' hp
   ·rw[if_neg hid] at hev
    cases hev
    have:=hQ a' w' I' F' L' us rs' hs' hf' hp
    simp only[qwb] at this ⊢
    split<;>rename_i hid2
    ·simp only[hid2,if_true] at this;simp only[Exit.inBlock,hid,if_false];exact this
    ·simp only[hid2,if_false] at this;exact this
  ·rename_i hne
   refine ih lp w0 I0 F0 own rs suf st x st2 l hev href a w I F L _ hs hf fun a' w' I' F' L' us rs' hs' hf' hp=>?_
   have:=hQ a' w' I' F' L' us rs' hs' hf' hp
   cases x with
   | normal=>exact this
   | exit id=>exact (hne _ _ _ hev).elim
   | ret=>exact this
 | scope c ih =>
  intro lp w0 I0 F0 own rs suf st x st2 l hev href a w I F L Q hs hf hQ
  have hev:qcn M fuel nt (.scope (qd0 cx.P cx.G dd c)) st=some (x,st2,l):=by
   have h:qcn M fuel nt (Qfw c (qd0 cx.P cx.G dd c)) st=some (x,st2,l):=hev
   unfold Qfw at h
   split at h
   ·exact h
   ·split at h
    ·exfalso
     simp[qcn,qwn] at h
    ·exact h
  simp only[qcn] at hev
  split at hev
  ·cases hev
  have key:qcn M fuel nt (qd0 cx.P cx.G dd c) st=some (x,st2,l)∧qxm x:=by
   split at hev
   ·rename_i id s3 e3 hq
    split at hev
    ·rename_i hid;cases hev;exact⟨hq,hid⟩
    ·cases hev
   ·rename_i hne
    refine⟨hev,?_⟩
    cases x with
    | exit id=>exact (hne _ _ _ hev).elim
    | _=>trivial
  exact qwx key.2 (ih lp w0 I0 F0 own rs suf st x st2 l key.1 href a w I F L _ hs hf fun a' w' I' F' L' us rs' hs' hf' hp=>⟨rfl,hQ a' w' I' F' L' us rs' hs' hf' hp⟩)
 | region id ops draw =>
  intro lp w0 I0 F0 own rs suf st x st2 l hev href a w I F L Q hs hf hQ
  cases draw with
  | true =>
   refine leaf (.region id ops true) lp w0 I0 F0 own rs suf st x st2 l ?_ href a w I F L Q hs hf hQ
   refine Qc5 _ st _ ?_ hev
   simp only[qd0,if_true]
   refine Qgj ?_
   split<;>rfl
  | false =>
   cases hd:ops.toList.getLast?.bind (Qd3 cx.G) with
   | none =>
    refine leaf (.region id ops false) lp w0 I0 F0 own rs suf st x st2 l ?_ href a w I F L Q hs hf hQ
    refine Qc5 _ st _ ?_ hev
    simp only[qd0,Bool.false_eq_true,if_false,Qmv,hd]
    exact Qgj rfl
   | some p =>
    obtain⟨f,args⟩:=p
    simp only[qd0,Bool.false_eq_true,if_false,Qmv,hd] at hev
    obtain⟨st4,hev,hst⟩:=Qlo hev
    simp only[qcn] at hev
    split at hev
    case h_2=>cases hev
    rename_i st3 u hr
    obtain⟨hchk,hev2⟩:=qbr hev
    clear hev
    cases hev2
    simp only[Bool.and_eq_true,decide_eq_true_eq] at hchk
    obtain⟨o,ho,hdo⟩:=Option.bind_eq_some_iff.1 hd
    obtain⟨c,fo,q1,q2,q3,q4,q5,q6⟩:=Qh7 hdo
    have hsplit:ops.toList=ops.toList.dropLast++[o]:=by
     have hne:ops.toList≠[]:=fun e=>by rw[e] at ho;cases ho
     obtain⟨l0,hl0⟩:=List.getLast?_eq_some_iff.1 ho
     rw[hl0];simp
    have hm:ops.toList.length=ops.toList.dropLast.length+1:=by rw[hsplit];simp
    obtain⟨L',hs',hf'⟩:=qsy (qre (ops.toList.dropLast.map (qhz cx.P cx.G))) hs hf
    refine wpIn_region ?_
    have hr0:qhe M qbc 0 (ops.toList.dropLast.map (qhz cx.P cx.G)) ((ops.toList.dropLast.map (qhz cx.P cx.G)).drop 0) (qk8 (qre (ops.toList.dropLast.map (qhz cx.P cx.G))) st) ()=some (st3,u):=by rw[List.drop_zero];exact hr
    have hrun:=(qxg 0 hr0).more (r2:=[qhz cx.P cx.G o])
    rw[List.drop_zero,List.length_map] at hrun
    have hmap:ops.toList.dropLast.map (qhz cx.P cx.G)++[qhz cx.P cx.G o]=ops.toList.map (qhz cx.P cx.G):=by
     conv=>rhs;rw[hsplit]
     simp
    rw[hmap] at hrun
    have hrange:List.range ops.size=List.range ops.toList.dropLast.length++[ops.toList.dropLast.length]:=by
     rw[←Array.length_toList,hm,List.range_succ]
    rw[hrange]
    refine qs9 hM hsp href hrun hs' hf' fun a1 w1 I1 F1 L1 hs1 hf1=>?_
    have hget:ops[ops.toList.dropLast.length]?=some o:=by
     rw[←Array.getElem?_toList,hsplit]
     simp
    simp only[wpOpsIn,hget]
    have hwant:Region.wanted o (yielded ops a1.tmps)=true:=by simp[Region.wanted,q2]
    rw[if_pos hwant]
    have hfv:=qce hs1 hf1.wd q5
    have hargs:=Qdz hs1 hf1.wd q6
    obtain⟨g,cap,hfn⟩:∃ g cap,f.ev st3.tmps=.fn g cap:=by
     have:=hchk.2
     unfold isFn at this
     split at this
     ·rename_i g cap hq;exact⟨g,cap,hq⟩
     ·cases this
    have hfv2:=hfv
    rw[hfn] at hfv
    obtain⟨fst,caps,hv,_,_⟩:=qyd hfv
    have hrunD:(execOp a1.eval o).run cx.P w1=.ok (.defer {target:=.fn (.func (qfh g)) caps,args:=fst++(c.args.toList.map a1.eval).toArray}) w1:=by
     have harr:(c.args.toList.map a1.eval).toArray=c.args.map a1.eval:=by rw[←Array.toList_map,Array.toArray_toList]
     simp[execOp,q1,resolve,q4,hv,Deferred.ofValue,harr]
    refine⟨fun _ _=>trivial,?_⟩
    show o.uponIn (fen none) 0 cx.P a1 _ Q ((execOp a1.eval o).run cx.P w1)
    rw[hrunD,Oper.uponIn_defer,q3]
    show wpOpsIn (fen none) 0 cx.P ops Q [] _ w1
    simp only[wpOpsIn]
    have hal:(c.args.toList.map a1.eval).length=args.length:=by
     have:=hargs.length
     simpa using this.symm
    have hkp:qbv w1 I1 lp (some L1) (f.ev st3.tmps :: args.map (RX.ev st3.tmps)++List.replicate (nt - (f.ev st3.tmps :: args.map (RX.ev st3.tmps)).length) .undef++st3.keep)
      (.func (.func (qfh g)) fst caps :: (c.args.toList.map a1.eval++List.replicate (nt - (f.ev st3.tmps :: args.map (RX.ev st3.tmps)).length) undef)++suf):=by
     have h1:qbv w1 I1 lp (some L1) (f.ev st3.tmps :: args.map (RX.ev st3.tmps)) (.func (.func (qfh g)) fst caps :: c.args.toList.map a1.eval):=.cons _ _ _ _ (by rw[←hv];exact hfv2) hargs
     have h2:=(h1.append (qbv.undefs (nt - (f.ev st3.tmps :: args.map (RX.ev st3.tmps)).length) (List.replicate (nt - (f.ev st3.tmps :: args.map (RX.ev st3.tmps)).length) undef) (by simp))).append hs1.kp
     simpa[List.append_assoc] using h2
    have hs2:SR lp I1 L1 (pushD nt (f.ev st3.tmps :: args.map (RX.ev st3.tmps)) st3) a1.tmps.toList (.func (.func (qfh g)) fst caps :: (c.args.toList.map a1.eval++List.replicate (nt - (f.ev st3.tmps :: args.map (RX.ev st3.tmps)).length) undef)++suf) w1 :=
     ⟨hs1.tm,hkp,hs1.ob,hs1.dom⟩
    have hf2:Fr cx w0 I0 F0 ⟨own,[{target:=.fn (.func (qfh g)) caps,args:=fst++(c.args.toList.map a1.eval).toArray}]++rs⟩ (fun _=>none) qfo () ({target:=.fn (.func (qfh g)) caps,args:=fst++(c.args.toList.map a1.eval).toArray} :: a1.defers) I1 F1 L1 w1 :=
     ⟨hf1.ext,hf1.sep,hf1.oF,hf1.lB,hf1.inj,hf1.wd,hf1.re,.call _ _ _ (fun D h=>by cases h) hf1.mks,hf1.hld⟩
    obtain⟨L2,t1,t2⟩:∃ L2,SR lp I1 L2 st2 a1.tmps.toList (.func (.func (qfh g)) fst caps :: (c.args.toList.map a1.eval++List.replicate (nt - (f.ev st3.tmps :: args.map (RX.ev st3.tmps)).length) undef)++suf) w1 ∧
      Fr cx w0 I0 F0 ⟨own,[{target:=.fn (.func (qfh g)) caps,args:=fst++(c.args.toList.map a1.eval).toArray}]++rs⟩ (fun _=>none) qfo () ({target:=.fn (.func (qfh g)) caps,args:=fst++(c.args.toList.map a1.eval).toArray} :: a1.defers) I1 F1 L2 w1:=by
     obtain⟨L2,t1,t2⟩:=Qcp (dd id).lv hs2 hf2
     rcases hst with rfl | ⟨_,g',rfl⟩
     ·exact⟨L2,t1,t2⟩
     ·obtain⟨L3,t3,t4⟩:=Qj1 t1 t2
      exact qxw [] g' t3 t4
    refine hQ _ w1 I1 F1 L2 (.func (.func (qfh g)) fst caps :: (c.args.toList.map a1.eval++List.replicate (nt - (f.ev st3.tmps :: args.map (RX.ev st3.tmps)).length) undef)) [_] t1 t2 ?_
    have hp:=Pend.cons (nt:=nt) args.length [] [] (List.replicate (nt - (f.ev st3.tmps :: args.map (RX.ev st3.tmps)).length) undef) [] (.func (qfh g)) fst caps (c.args.toList.map a1.eval) hal (by simp;omega) .nil
    simpa using hp
 | skip=>intro lp w0 I0 F0 own rs suf st x st2 l hev;exact leaf .skip lp w0 I0 F0 own rs suf st x st2 l hev
 | loop c _ =>
  intro lp w0 I0 F0 own rs suf st x st2 l hev
  refine leaf (.loop c) lp w0 I0 F0 own rs suf st x st2 l (Qc5 _ st _ ?_ hev)
  simp only[qd0,loopR]
  split
  ·rename_i hp
   simp only[Bool.and_eq_true] at hp
   simp[noD,hp.2]
  ·rfl
 | rangeFunc f ps asg b _ _ =>
  intro lp w0 I0 F0 own rs suf st x st2 l hev
  exact leaf (.rangeFunc f ps asg b) lp w0 I0 F0 own rs suf st x st2 l (by
   rw[←hev]
   simp only[qd0]
   split
   ·unfold rangeR
    split
    ·rfl
    ·exact (seq_leaf _ _ _ _ _ _).symm
   ·rfl)
 | exit id=>intro lp w0 I0 F0 own rs suf st x st2 l hev;exact leaf (.exit id) lp w0 I0 F0 own rs suf st x st2 l (by rw[←hev];simp only[qd0];split<;>rfl)
 | label n=>intro lp w0 I0 F0 own rs suf st x st2 l hev;exact leaf (.label n) lp w0 I0 F0 own rs suf st x st2 l hev
 | goto n=>intro lp w0 I0 F0 own rs suf st x st2 l hev;exact leaf (.goto n) lp w0 I0 F0 own rs suf st x st2 l hev
 | ret=>intro lp w0 I0 F0 own rs suf st x st2 l hev;exact leaf .ret lp w0 I0 F0 own rs suf st x st2 l hev
 | refuse s=>intro lp w0 I0 F0 own rs suf st x st2 l hev;exact leaf (.refuse s) lp w0 I0 F0 own rs suf st x st2 l hev
theorem qvd {P:Program} {F:Fence} {k:Nat} {fn:Func} {tmps:Array Value} {R:Ending→World→Prop} {cs:List Frame}:∀ (ds:List Deferred) (w:World) (fr:Frame),
  fr.mode=.returning→fr.defers=ds→F.fn fr.fn→F.room (cs.length+1+k)→(∀ d∈ds,∃ r,d.target=.collected r)→LeavesInM F k P fn tmps R ds .returning w →
  ∃ v w',StepsIn (Machine.fenced P F) P (lone fr cs w) (lone {fr with defers:=[]} cs w')∧(results fn tmps).run P w'=.ok v w'∧R (.returned v) w':=by
 intro ds
 induction ds with
 | nil =>
  intro w fr hm hd _ _ _ h
  obtain⟨v,h1,h2⟩:=h
  refine⟨v,w,?_,h1,h2⟩
  have:({fr with defers:=[]}:Frame)=fr:=by rw[←hd]
  rw[this]
  exact StepsIn.refl _
 | cons d ds ih =>
  intro w fr hm hd hb hroom hall h
  obtain⟨hrun,h⟩:=h
  obtain⟨r,hr⟩:=hall d List.mem_cons_self
  rcases h with ⟨r',w',htar,htake,hrest⟩ | ⟨_,fv,cap,f,args,htar,_⟩
  ·have hm':fr.mode≠.run:=by rw[hm];simp
   have h1:=step_collected (cs:=cs) hm' hd htar htake
   have i1:(lone fr cs w).fenced P F:=fenced_out hb hroom hm' hd (fun g hg=>by rw[htar] at hg;simp[Target.leads] at hg)
   obtain⟨v,w'',g1,g2,g3⟩:=ih w' {fr with defers:=[]++ds} hm rfl hb hroom (fun d hd=>hall d (List.mem_cons_of_mem _ hd)) hrest
   exact⟨v,w'',.head i1 h1 g1,g2,g3⟩
  ·rw[hr] at htar;cases htar
def bodyPostMD (F:Fence) (n:Nat) (P:Program) (fn:Func) (R:Ending→World→Prop):Exit→Act→World→Prop
 | .normal,a,w | .ret,a,w=>(∀ d∈a.defers,∃ r,d.target=.collected r)∧LeavesInM F n P fn a.tmps R a.defers .returning w
 | _,_,_=>False
theorem qqc {P:Program} {F:Fence} {n:Nat} {f:FuncId} {fn:Func} {c:Code} {args:Array Value} {u:FrameMode} {w:World} {R:Ending→World→Prop}
  (hf:P.funcs[f]?=some fn) (hb:fn.body=some c) (hF:F.fn f)
  (h:c.wpIn F n P (bodyPostMD F n P fn R) {tmps:=args++Array.replicate (fn.ntmps - args.size) undef,defers:=[]} w) (hro:F.round=none:=by rfl) :
  CallsDIn F n P f args u w fun e u' w'=>u'=u∧R e w':=by
 refine⟨hF,fun c₀ cs hu hr=>?_⟩
 let b:Frame:={(default:Frame) with fn:=f,kind:=.deferred,roundOf:=none}
 have henter:Frame.enter P f args .deferred =
   b.atR {tmps:=args++Array.replicate (fn.ntmps - args.size) undef,defers:=[]} [.code c]:=by
  simp[Frame.enter,Frame.atR,hf,hb,b]
 have hc:({c₀ with mode:=u}:Frame)=c₀:=by subst hu;rfl
 obtain⟨e,a',w',hq,harr⟩:=h b [] (c₀ :: cs) hro.symm hF hr
 rw[←henter] at harr
 cases e with
 | normal =>
  obtain⟨hm,hl⟩:=hq
  obtain⟨v,w'',g1,g2,g3⟩:=qvd a'.defers w' {b.atR a' [] with mode:=.returning} rfl rfl hF hr hm hl
  exact⟨.returned v,u,w'',_,⟨rfl,g3⟩,(by rw[hc];exact StepsIn.trans (StepsIn.trans harr (.one (fenced_calm (fr:=b.atR a' []) hF hr rfl) (stepR_end rfl))) g1),rfl,rfl,rfl,rfl,fn,hf,g2⟩
 | ret =>
  obtain⟨hm,hl⟩:=hq
  obtain⟨todo,hs⟩:=harr.1 rfl
  obtain⟨v,w'',g1,g2,g3⟩:=qvd a'.defers w' {b.atR a' todo with mode:=.returning} rfl rfl hF hr hm hl
  exact⟨.returned v,u,w'',_,⟨rfl,g3⟩,(by rw[hc];exact StepsIn.trans hs g1),rfl,rfl,rfl,rfl,fn,hf,g2⟩
 | panic chain=>exact hq.elim
 | exit id=>exact hq.elim
 | goto l=>exact hq.elim
 | outgrown=>exact hq.elim
def IoDOK (cx:Cx) (M:qfk):Prop :=
 ∀ (g:FuncId) (d0:Nat) (st:St) (vs:List PV) (out:Out),M.flat g=true→M.io g d0 (qbo st.objs) vs=some out→qfi cx.P g ∧
  ∀ (E:Type) (w0:World) (I0 F0:Nat→Prop) (O0:Own) (Hd:Nat→Option Obj) (R:qlp E) (e:E) (ds:List Deferred) (I F:Nat→Prop) (lp:Nat→Option Nat) (L:Loc) (tmv suf us:List Value) (w:World) (u:FrameMode),
   SR lp I L st tmv suf w→Fr cx w0 I0 F0 O0 Hd R e ds I F L w→qbv w I lp (some L) vs us→(out.new=[]∨out.slot.isSome=true) →
   CallsDIn Fence.wide 0 cx.P g us.toArray u w fun en u' w'=>u'=u∧match en with
    | .returned _=>∃ I' L',SR lp I' L' (apply st none out) tmv suf w'∧Fr cx w0 I0 F0 O0 Hd R e ds I' F L' w'
    | _=>False
theorem Fr.unmark {E:Type} {w0 w:World} {I0 F0 I F:Nat→Prop} {O0:Own} {Hd:Nat→Option Obj} {R:qlp E} {e:E} {ds:List Deferred} {L:Loc} {D:Nat} (hHd:∀ b,Hd b=none)
  (hf:Fr cx w0 I0 F0 O0 Hd R e ({target:=.collected D,args:=#[]} :: ds) I F L w) :
  w.heap[D]?=some (.deferred (some []))∧¬ I D∧(∀ nm C,L nm≠some (some (D,C)))∧Fr cx w0 I0 F0 O0 Hd R e ds I F L (w.putObj D (.deferred none)):=by
 obtain⟨rs,hrs⟩:∃ rs,rs=O0.dfs:=⟨_,rfl⟩
 have hm:=hf.mks
 rw[←hrs] at hm
 cases hm with
 | call d ds rs hd h=>exact absurd rfl (hd D)
 | cons D' ds' rs' h1 h2 h3 h4 h5 h6 h7 hr =>
  have hk:∀ b,b≠D→(w.putObj D (.deferred none)).heap[b]?=w.heap[b]?:=fun b hb=>World.putObj_heap_other hb
  have hsz:(w.putObj D (.deferred none)).heap.size=w.heap.size:=World.putObj_size
  refine⟨h6,h3,h5,⟨hf.ext.os,hf.ext.tape,hf.ext.output,by rw[hsz];exact hf.ext.size,fun b hb hF=>?_,hf.ext.subI,hf.ext.newI,hf.ext.newF⟩,⟨fun b hb=>by rw[hsz];exact hf.sep.iB b hb,fun b hb=>⟨by rw[hsz];exact (hf.sep.fB b hb).1,(hf.sep.fB b hb).2⟩⟩,hf.oF,
   fun nm b C hn=>⟨(hf.lB nm b C hn).1,by rw[hsz];exact (hf.lB nm b C hn).2.1,(hf.lB nm b C hn).2.2⟩,hf.inj,?_,?_,?_,?_⟩
  ·have hne:b≠D:=fun e=>by omega
   exact (hk b hne).trans (hf.ext.keep b hb hF)
  ·exact cx.stab I I w _ hf.wd (fun _ h=>h) (fun b hb=>hk b fun e=>h3 (e ▸ hb)) (by rw[hsz];exact Nat.le_refl _)
  ·exact R.stab e I I F w _ hf.re (fun _ h=>h) (fun b hb=>hk b fun e=>hb.elim (fun h=>h3 (e ▸ h)) fun h=>h4 (e ▸ h)) (by rw[hsz];exact Nat.le_refl _)
  ·have key:∀ ds rs,qj6 w0.heap.size I F L w ds rs→(∀ d∈ds,d.target≠.collected D)→qj6 w0.heap.size I F L (w.putObj D (.deferred none)) ds rs:=by
    intro ds rs hm
    induction hm with
    | nil=>intro _;exact .nil
    | call d' ds rs hd _ ih=>intro hne;exact .call d' ds rs hd (ih fun d hd=>hne d (List.mem_cons_of_mem _ hd))
    | cons D' ds rs g1 g2 g3 g4 g5 g6 g7 _ ih =>
     intro hne
     have hDD:D'≠D:=fun e=>hne {target:=.collected D',args:=#[]} List.mem_cons_self (by rw[e])
     exact .cons D' ds rs g1 (by rw[hsz];exact g2) g3 g4 g5 ((hk D' hDD).trans g6) g7 (ih fun d hd=>hne d (List.mem_cons_of_mem _ hd))
   rw[←hrs]
   exact key ds _ hr h7
  ·intro b ob hb
   rw[hHd b] at hb
   cases hb
theorem Qbp (hiod:IoDOK cx M) {fn:Func} {tmps:Array Value} {Rr:Ending→World→Prop} {w0:World} {I0 F0 own:Nat→Prop} {lp:Nat→Option Nat} {suf:List Value} {st2:St}:∀ (ds:List Deferred) (rs:List Deferred) (l:List Nat) (us:List Value) (st:St) (w:World) (I F:Nat→Prop) (L:Loc),
  SR lp I L st tmps.toList (us++suf) w→Fr cx w0 I0 F0 ⟨own,rs⟩ (fun _=>none) qfo () ds I F L w→Pend nt l us rs→Qn4 M nt l st=some st2 →
  (∀ w2 I2 F2 L2,SR lp I2 L2 st2 tmps.toList suf w2→Fr cx w0 I0 F0 ⟨own,[]⟩ (fun _=>none) qfo () [] I2 F2 L2 w2→∃ v,(results fn tmps).run cx.P w2=.ok v w2∧Rr (.returned v) w2) →
  LeavesInM Fence.wide 0 cx.P fn tmps Rr ds .returning w:=by
 intro ds
 induction ds with
 | nil =>
  intro rs l us st w I F L hs hf hp hd h
  have hm:=hf.mks
  cases hm
  cases hp
  cases hd
  exact h w I F L hs hf
 | cons d ds ih =>
  intro rs l us st w I F L hs hf hp hd h
  cases hm:hf.mks with
  | cons D _ _ h1 h2 h3 h4 h5 h6 h7 hr =>
   obtain⟨q1,q2,q3,q4⟩:=hf.unmark fun _=>rfl
   exact⟨by simp,.inl ⟨D,_,rfl,run_takeDeferred q1,ih rs l us st _ I F L (hs.hput _ q2 q3) q4 hp hd h⟩⟩
  | call _ _ rs' hdt hr =>
   cases hp with
   | cons k l' us' pad _ fv fst caps args hk hn hp' =>
    unfold Qn4 at hd
    have hkp:=hs.kp
    have h0:=hkp.getD 0 undef
    split at hd
    case h_2=>cases hd
    rename_i f cap hfv
    rw[hfv] at h0
    have e0:(Value.func fv fst caps :: (args++pad)++us'++suf).getD 0 undef=.func fv fst caps:=rfl
    rw[e0] at h0
    obtain⟨us0,vs0,hv,hfk,hcap⟩:=qyd h0
    cases hv
    split at hd
    ·cases hd
    split at hd
    case isFalse=>cases hd
    rename_i hflat
    simp only[Bool.and_eq_true] at hflat
    split at hd
    case h_2=>cases hd
    rename_i out hout
    obtain⟨hnew,hd⟩:=qbr hd
    have hargs:qbv w I lp (some L) ((st.keep.drop 1).take k) args:=by
     have:=(hkp.drop 1).take k
     have e:((Value.func (.func (qfh f)) fst caps :: (args++pad)++us'++suf).drop 1).take k=args:=by
      simp[List.append_assoc,←hk]
     rwa [e] at this
    have hall:=qtw hfk hcap hargs
    have hkeep:qbv w I lp (some L) (st.keep.drop nt) (us'++suf):=by
     have:=hkp.drop nt
     have e:(Value.func (.func (qfh f)) fst caps :: (args++pad)++us'++suf).drop nt=us'++suf:=by
      have e2:(Value.func (.func (qfh f)) fst caps :: (args++pad)++us'++suf)=(Value.func (.func (qfh f)) fst caps :: (args++pad))++(us'++suf):=by simp[List.append_assoc]
      rw[e2,List.drop_append_of_le_length (by simp;omega),List.drop_eq_nil_of_le (by simp;omega)]
      rfl
     rwa [e] at this
    have hs1:SR lp I L {st with keep:=st.keep.drop nt} tmps.toList (us'++suf) w:=⟨hs.tm,hkeep,hs.ob,hs.dom⟩
    have hf1:Fr cx w0 I0 F0 ⟨own,rs'⟩ (fun _=>none) qfo () ds I F L w:=⟨hf.ext,hf.sep,hf.oF,hf.lB,hf.inj,hf.wd,hf.re,hr,hf.hld⟩
    obtain⟨q1,q2⟩:=hiod (qfh f) 0 {st with keep:=st.keep.drop nt} _ out hflat.2 hout
    have hnew:out.new=[]∨out.slot.isSome=true:=by simpa using hnew
    have hcall:=q2 Unit w0 I0 F0 ⟨own,rs'⟩ (fun _=>none) qfo () ds I F lp L tmps.toList (us'++suf) _ w .returning hs1 hf1 hall hnew
    obtain⟨fnG,e1,e2,e3⟩:=q1
    have hb:¬ fnG.body=none:=by intro h;rw[h] at e3;cases e3
    have hname:¬ fnG.name = "runtime.NumGoroutine":=by intro h;rw[h] at e2;simp at e2
    have harr:(fst.toList++(args++caps.toList)).toArray=fst++args.toArray++caps:=by simp[Array.append_assoc]
    refine⟨by simp,.inr ⟨fun h=>by simp[Fence.wide] at h,.func (qfh f),caps,qfh f,fst++args.toArray++caps,rfl,by simp[invoke,callFunc,e1,hname,hb],fun _ _=>trivial,?_⟩⟩
    rw[harr] at hcall
    refine hcall.mono fun en u' w' hq=>?_
    obtain⟨rfl,hq⟩:=hq
    cases en with
    | returned v =>
     obtain⟨I',L',g1,g2⟩:=hq
     exact ih rs' l' us' _ w' I' F L' g1 g2 hp' hd h
    | panicked chain=>exact hq.elim
    | outgrown=>exact hq.elim
end
end Go.Ab


namespace Go.Ab
section
variable {w:World} {I:Nat→Prop} {lp lp':Nat→Option Nat}
theorem qbx.narrow {L L':Loc} {x:PV} {v:Value} (h:qbx w I lp (some L) x v) (hn:∀ nm∈x.names,∀ p,L nm=some p→L' nm=some p):qbx w I lp (some L') x v:=by
 have hs:qlz w I lp L (some L') (fun nm=>nm∈x.names) (fun _=>none):=fun nm p hS hp=>⟨L',rfl,hn nm hS p hp⟩
 have:=qbx.subst (fun _ h=>h) hs h fun _ h=>h
 rwa [Go.Ab.sub_id] at this
theorem qbv.narrow {L L':Loc} {xs:List PV} {vs:List Value} (h:qbv w I lp (some L) xs vs) (hn:∀ nm∈qbm xs,∀ p,L nm=some p→L' nm=some p):qbv w I lp (some L') xs vs:=by
 have hs:qlz w I lp L (some L') (fun nm=>nm∈qbm xs) (fun _=>none):=fun nm p hS hp=>⟨L',rfl,hn nm hS p hp⟩
 have:=qbv.subst (fun _ h=>h) hs h fun _ h=>h
 rwa [Go.Ab.subL_id] at this
theorem qjy.narrow {L L':Loc} {ob:Ob} {p:Option (Nat×Nat)} (h:qjy w I lp L ob p) (hn:∀ nm∈ob.names,∀ p,L nm=some p→L' nm=some p):qjy w I lp L' ob p:=by
 have hs:qlz w I lp L (some L') (fun nm=>nm∈ob.names) (fun _=>none):=fun nm p hS hp=>⟨L',rfl,hn nm hS p hp⟩
 have:=qjy.subst h (fun _ h=>h) (fun _ _=>rfl) hs (fun _ h=>h) fun _ _ _=>rfl
 rwa [Ob.sub_id] at this
theorem qjy.noY {L:Loc} {ob:Ob} {p:Option (Nat×Nat)} (h:qjy w I lp L ob p) (hy:ob.hasY=false):qjy w I lp' L ob p:=by
 cases p with
 | none=>exact h
 | some p =>
  cases ob with
  | cells ty cs=>obtain⟨c,E,h1,h2,h4,h3⟩:=h;exact⟨c,E,h1,h2,h4,h3.noY hy⟩
  | arr k kt xs=>obtain⟨c,E,h1,h2,h3,h4,h6,h5⟩:=h;exact⟨c,E,h1,h2,h3,h4,h6,h5.noY (qq6 (w:=w) (I:=I) (lp:=lp) (lp':=lp') xs hy)⟩
  | map es=>obtain⟨c,E,h1,h2⟩:=h;exact⟨c,E,h1,h2.noY hy⟩
  | siter s pos=>exact h
def GeP:Option (Nat×Nat)→Option (Nat×Nat)→Prop
 | none,none=>True
 | some (b,C),some (b',C')=>b'=b∧C≤C'
 | _,_=>False
def Qjv (L L':Loc):Prop:=∀ nm p,L nm=some p→∃ p',L' nm=some p'∧GeP p p'
theorem GeP.refl (p:Option (Nat×Nat)):GeP p p:=by
 cases p with
 | none=>trivial
 | some p=>exact⟨rfl,Nat.le_refl _⟩
theorem Qjv.at {L L':Loc} (h:Qjv L L') {nm:Nm} {b C:Nat} (hn:L nm=some (some (b,C))):∃ C',L' nm=some (some (b,C'))∧C≤C':=by
 obtain⟨p,h1,h2⟩:=h nm _ hn
 cases p with
 | none=>exact h2.elim
 | some p=>obtain⟨b',C'⟩:=p;obtain⟨rfl,h3⟩:=h2;exact⟨C',h1,h3⟩
theorem Qjv.atN {L L':Loc} (h:Qjv L L') {nm:Nm} (hn:L nm=some none):L' nm=some none:=by
 obtain⟨p,h1,h2⟩:=h nm _ hn
 cases p with
 | none=>exact h1
 | some p=>exact h2.elim
mutual
theorem qbx.ge {L L':Loc} {x:PV} {v:Value}:qbx w I lp (some L) x v→Qjv L L'→qbx w I lp (some L') x v
 | .undef v,_=>.undef v
 | .bool b,_=>.bool b
 | .int k n,_=>.int k n
 | .str s,_=>.str s
 | .nilS,_=>.nilS
 | .nilP,_=>.nilP
 | .nilF,_=>.nilF
 | .nilI,_=>.nilI
 | .nilM,_=>.nilM
 | .slE k full a cap hf,_=>.slE k full a cap hf
 | .sl k xs full b off cap c E fr h1 h2 h3 h4 h5 h6 h8 h7,_=>.sl k xs full b off cap c E fr h1 h2 h3 h4 h5 h6 h8 h7
 | .ptr cs o b off c E fr h1 h2 h3 h4 h8 h5,_=>.ptr cs o b off c E fr h1 h2 h3 h4 h8 h5
 | .agg cs vs h1 h,e=>.agg cs vs h1 (h.ge e)
 | .iface t x v h,e=>.iface t x v (h.ge e)
 | .fn f cs us vs hk h,e=>.fn f cs us vs hk (h.ge e)
 | .yld d l h,_=>.yld d l h
 | .tup xs vs h,e=>.tup xs vs (h.ge e)
 | .imap es r ents clock h1 h2 h3,_=>.imap es r ents clock h1 h2 h3
 | .glob g t x c E fr h1 h2 h3,_=>.glob g t x c E fr h1 h2 h3
 | .ref nm o b C h,e=>let ⟨C',h',_⟩:=e.at h;.ref nm o b C' h'
 | .aref nm k i o b C h,e=>let ⟨C',h',_⟩:=e.at h;.aref nm k i o b C' h'
 | .arr nm k o n cap b C h hC hn,e=>let ⟨C',h',hle⟩:=e.at h;.arr nm k o n cap b C' h' (Nat.le_trans hC hle) hn
 | .arrN nm k h,e=>.arrN nm k (e.atN h)
 | .mp nm b C h,e=>let ⟨C',h',_⟩:=e.at h;.mp nm b C' h'
 | .it nm b C h,e=>let ⟨C',h',_⟩:=e.at h;.it nm b C' h'
theorem qbv.ge {L L':Loc} {xs:List PV} {vs:List Value}:qbv w I lp (some L) xs vs→Qjv L L'→qbv w I lp (some L') xs vs
 | .nil,_=>.nil
 | .cons x v xs vs h hs,e=>.cons x v xs vs (h.ge e) (hs.ge e)
end
theorem qjy.ge {L L':Loc} {ob:Ob} {p:Option (Nat×Nat)} (h:qjy w I lp L ob p) (e:Qjv L L'):qjy w I lp L' ob p:=by
 cases p with
 | none=>exact h
 | some p =>
  cases ob with
  | cells ty cs=>obtain⟨c,E,h1,h2,h4,h3⟩:=h;exact⟨c,E,h1,h2,h4,h3.ge e⟩
  | arr k kt xs=>exact h
  | map es=>exact h
  | siter s pos=>exact h
theorem qbv.of_get {L:Option Loc}:∀ {xs:List PV} {vs:List Value},xs.length=vs.length→(∀ (i:Nat) (x:PV) (v:Value),xs[i]?=some x→vs[i]?=some v→qbx w I lp L x v)→qbv w I lp L xs vs:=by
 intro xs
 induction xs with
 | nil=>intro vs h _;cases vs with | nil=>exact .nil | cons v vs=>simp at h
 | cons x xs ih =>
  intro vs h hg
  cases vs with
  | nil=>simp at h
  | cons v vs=>exact .cons _ _ _ _ (hg 0 x v rfl rfl) (ih (by simpa using h) fun i y u hy hu=>hg (i+1) y u (by simpa using hy) (by simpa using hu))
end
theorem qti:∀ {l:List Nm} {x:Nm},x∈qgh l↔x∈l:=by
 intro l
 induction l with
 | nil=>intro x;simp[qgh]
 | cons y l ih =>
  intro x
  simp only[qgh]
  split
  ·rename_i h
   have hy:y∈l:=by simpa using h
   rw[ih,List.mem_cons]
   exact⟨.inr,fun h=>h.elim (fun e=>e ▸ hy) id⟩
  ·rw[List.mem_cons,List.mem_cons,ih]
theorem dedupN_inj:∀ {l:List Nm} (i j:Nat) (x:Nm),(qgh l)[i]?=some x→(qgh l)[j]?=some x→i=j:=by
 intro l
 induction l with
 | nil=>intro i j x h;simp[qgh] at h
 | cons y l ih =>
  intro i j x hi hj
  simp only[qgh] at hi hj
  split at hi
  ·rename_i h
   rw[if_pos h] at hj
   exact ih i j x hi hj
  ·rename_i h
   rw[if_neg h] at hj
   have hy:y ∉ qgh l:=fun hm=>h (by simpa using qti.1 hm)
   cases i with
   | zero =>
    cases j with
    | zero=>rfl
    | succ j=>simp at hi hj;subst hi;exact absurd (List.mem_of_getElem? hj) hy
   | succ i =>
    cases j with
    | zero=>simp at hi hj;subst hj;exact absurd (List.mem_of_getElem? hi) hy
    | succ j=>simp at hi hj;rw[ih i j x hi hj]
theorem idx_get {l:List Nm} {x:Nm} (h:x∈l):l[l.idxOf x]?=some x:=by
 have hidx:=List.idxOf_lt_length_of_mem h
 rw[List.getElem?_eq_getElem hidx];simp
theorem qxz:∀ {B:List (Nm×Nm)} {s t:Nm},qgs (B.map (·.1))=true→(s,t)∈B→B.lookup s=some t:=by
 intro B
 induction B with
 | nil=>intro s t _ h;cases h
 | cons p B ih =>
  obtain⟨a,b⟩:=p
  intro s t hn h
  simp only[List.map_cons,qgs,Bool.and_eq_true,Bool.not_eq_true'] at hn
  rcases List.mem_cons.1 h with h2 | h2
  ·cases h2;simp
  ·have hne:s≠a:=by
    rintro rfl
    have:(B.map (·.1)).contains s=true:=by rw[List.contains_iff_mem];exact List.mem_map.2 ⟨(s,t),h2,rfl⟩
    rw[this] at hn;cases hn.1
   have hb:(s==a)=false:=by simpa using hne
   rw[List.lookup_cons,hb]
   exact ih hn.2 h2
theorem first_uniq {B:List (Nm×Nm)} (hn:qgs (B.map (·.1))=true) {s t t':Nm} (h:(s,t)∈B) (h':(s,t')∈B):t=t':=by
 have:=(qxz hn h).symm.trans (qxz hn h')
 exact Option.some.inj this
theorem Qky:∀ (l:List (Nm×Ob)) (objs:List (List Ob)) (t:Nm),(∀ p∈l,∃ o,qbo objs p.1=some o) →
  (∀ o,(∀ o',(t,o')∈l→o'=o)→(t,o)∈l→qbo (qj7 l objs) t=some o)∧((∀ o,(t,o) ∉ l)→qbo (qj7 l objs) t=qbo objs t):=by
 intro l
 induction l with
 | nil=>intro objs t _;exact⟨fun o _ h=>(by cases h),fun _=>rfl⟩
 | cons p l ih =>
  obtain⟨nm,ob⟩:=p
  intro objs t hx
  have hx':∀ p∈l,∃ o,qbo (qcz objs nm ob) p.1=some o:=by
   intro p hp
   cases hl:qbo (qcz objs nm ob) p.1 with
   | some o=>exact⟨o,rfl⟩
   | none =>
    obtain⟨o,ho⟩:=hx p (List.mem_cons_of_mem _ hp)
    rw[qd8] at hl
    rw[ho] at hl;cases hl
  obtain⟨i1,i2⟩:=ih (qcz objs nm ob) t hx'
  refine⟨fun o hu ho=>?_,fun hno=>?_⟩
  ·by_cases hl:∃ o',(t,o')∈l
   ·obtain⟨o',ho'⟩:=hl
    have:=hu o' (List.mem_cons_of_mem _ ho')
    subst this
    exact i1 o' (fun o2 h2=>hu o2 (List.mem_cons_of_mem _ h2)) ho'
   ·have hnl:∀ o',(t,o') ∉ l:=fun o' h=>hl ⟨o',h⟩
    rcases List.mem_cons.1 ho with he | he
    ·have e1:t=nm:=congrArg Prod.fst he
     have e2:o=ob:=congrArg Prod.snd he
     subst e1;subst e2
     obtain⟨o0,h0⟩:=hx (t,o) List.mem_cons_self
     have:=i2 hnl
     exact this.trans (qf1 o h0)
    ·exact absurd he (hnl o)
  ·have hne:t≠nm:=by rintro rfl;exact hno ob List.mem_cons_self
   show qbo (qj7 l (qcz objs nm ob)) t=qbo objs t
   rw[i2 fun o h=>hno o (List.mem_cons_of_mem _ h),qcw ob hne]
noncomputable def qky (L L':Loc) (B:List (Nm×Nm)):Loc:=fun t =>
 open Classical in if h:∃ s,(s,t)∈B then some ((L' h.choose).getD none) else L t
theorem Qm8 {L L':Loc} {B:List (Nm×Nm)} (hU:∀ s s' t,(s,t)∈B→(s',t)∈B→s=s') {s t:Nm} (h:(s,t)∈B):qky L L' B t=some ((L' s).getD none):=by
 unfold qky
 have hx:∃ s,(s,t)∈B:=⟨s,h⟩
 rw[dif_pos hx,hU _ _ t hx.choose_spec h]
theorem locIo_out {L L':Loc} {B:List (Nm×Nm)} {t:Nm} (h:∀ s,(s,t) ∉ B):qky L L' B t=L t:=by
 unfold qky
 rw[dif_neg fun ⟨s,hs⟩=>h s hs]
def qmm (B:List (Nm×Nm)) (m:Nm):Option (Option Ob):=if (B.map (·.1)).contains m then none else some none
def qhf (B:List (Nm×Nm)) (m:Nm):Nm:=(B.lookup m).getD m
theorem mem_first {B:List (Nm×Nm)} {m:Nm}:(B.map (·.1)).contains m=true↔∃ t,(m,t)∈B:=by
 rw[List.contains_iff_mem,List.mem_map]
 constructor
 ·rintro ⟨⟨a,b⟩,h1,rfl⟩;exact⟨b,h1⟩
 ·rintro ⟨t,h⟩;exact⟨(m,t),h,rfl⟩
section take
variable {w:World} {I:Nat→Prop} {lp:Nat→Option Nat} {L L':Loc} {B:List (Nm×Nm)}
theorem cut_ok (hn:qgs (B.map (·.1))=true) (hU:∀ s s' t,(s,t)∈B→(s',t)∈B→s=s'):qlz w I lp L' (some fun m=>if (B.map (·.1)).contains m then L' m else none) (fun _=>True) (qmm B):=by
 intro nm p _ hp
 by_cases h:(B.map (·.1)).contains nm=true
 ·simp only[qmm,h,if_true];exact⟨_,rfl,by simp only[h,if_true];exact hp⟩
 ·simp only[qmm,h];trivial
theorem name_ok (hn:qgs (B.map (·.1))=true) (hU:∀ s s' t,(s,t)∈B→(s',t)∈B→s=s') (nm:Nm) (p:Option (Nat×Nat)) (hp:(fun m=>if (B.map (·.1)).contains m then L' m else none) nm=some p):qky L L' B (qhf B nm)=some p:=by
 simp only at hp
 split at hp
 ·rename_i h
  obtain⟨t,ht⟩:=mem_first.1 h
  have hl:qhf B nm=t:=by unfold qhf;rw[qxz hn ht];rfl
  rw[hl,Qm8 hU ht,hp];rfl
 ·cases hp
theorem take_val (hn:qgs (B.map (·.1))=true) (hU:∀ s s' t,(s,t)∈B→(s',t)∈B→s=s') {x:PV} {v:Value} (h:qbx w I lp (some L') x v):qbx w I lp (some (qky L L' B)) ((x.sub (qmm B)).ren (qhf B)) v :=
 qbx.rename (name_ok hn hU) (qbx.subst (fun _ h=>h) (cut_ok hn hU) h fun _ _=>trivial)
theorem take_ob (hn:qgs (B.map (·.1))=true) (hU:∀ s s' t,(s,t)∈B→(s',t)∈B→s=s') {ob:Ob} {p:Option (Nat×Nat)} (h:qjy w I lp L' ob p):qjy w I lp (qky L L' B) ((ob.sub (qmm B)).ren (qhf B)) p :=
 qjy.ren (qjy.subst h (fun _ h=>h) (fun _ _=>rfl) (cut_ok hn hU) (fun _ _=>trivial) fun _ _ _=>rfl) (name_ok hn hU)
end take
def putP (tm:List PV) (dst:Option Nat) (v:PV):List PV :=
 match dst with
 | some d=>tm.set d v
 | none=>tm
section done
variable {E:Type} {cx:Cx} {w0:World} {I0 F0:Nat→Prop} {O0:Own} {Hd:Nat→Option Obj} {RE:qlp E} {e:E} {ds:List Deferred} {I F I':Nat→Prop} {lp lp':Nat→Option Nat} {L L':Loc} {st st2:St} {tmv tmv2 suf wv:List Value} {w w2:World}
theorem io_taken {d0 i0:Nat} {sl dst:Option Nat} {R N:List Nm} {aN:Nat→Nm} {gone:List Nm} {v0:PV} {v:Value}
  (hs:SR lp I L st tmv suf w) (hf:Fr cx w0 I0 F0 O0 Hd RE e ds I F L w) (hlp:lpLe lp' lp)
  (hd:∀ d,dst=some d→st.objs[d]?=some []∧(sl=none→d=d0)) (hsl:∀ r,sl=some r→r=d0) (hlen:N≠[]→∃ l,st.objs[d0]?=some l∧l.length=i0) (hnew:sl=none→dst=none→N=[])
  (hR:∀ nm∈R,∃ p,L nm=some p) (hRn:∀ (i j:Nat) nm,R[i]?=some nm→R[j]?=some nm→i=j)
  (hs2:SR lp' I' L' st2 tmv2 wv w2) (hv:qbx w2 I' lp' (some L') v0 v)
  (x1:w2.os=w.os) (x2:w2.tape=w.tape) (x3:w2.output=w.output) (x4:w.heap.size≤w2.heap.size)
  (x5:∀ b,b < w.heap.size→(∀ nm C,nm∈R→L nm≠some (some (b,C)))→w2.heap[b]?=w.heap[b]?) (x6:∀ b,I b→I' b)
  (x7:∀ b,I' b→I b∨(b < w2.heap.size∧(w.heap.size≤b∨∃ nm C,nm∈R∧L nm=some (some (b,C)))))
  (x8:∀ nm b C,L' nm=some (some (b,C))→b < w2.heap.size∧¬ I' b∧(w.heap.size≤b∨∃ nm' C',nm'∈R∧L nm'=some (some (b,C'))))
  (x9:∀ nm nm' b C C',L' nm=some (some (b,C))→L' nm'=some (some (b,C'))→nm=nm')
  (hB:qgs (((R.zipIdx.map fun p=>(aN p.2,p.1))++N.zipIdx.map fun p=>(p.1,(d0,i0+p.2))).map (·.1))=true)
  (hge:∀ (j:Nat) nm,R[j]?=some nm→nm ∉ gone→∀ p,L nm=some p→∃ p',L' (aN j)=some p'∧GeP p p') {B:List (Nm×Nm)} (hBd:B=(R.zipIdx.map fun p=>(aN p.2,p.1))++N.zipIdx.map fun p=>(p.1,(d0,i0+p.2))) :
  SR lp I' (qky L L' B) (apply st dst {v:=(v0.sub (qmm B)).ren (qhf B),new:=N.map fun m=>(((qbo st2.objs m).getD qhs).sub (qmm B)).ren (qhf B),ups:=(R.zipIdx.map fun p=>(p.1,(((qbo st2.objs (aN p.2)).getD qhs).sub (qmm B)).ren (qhf B))),gone:=gone,io:=true,slot:=sl}) (Qjy tmv dst v) suf w2 ∧
   Fr cx w0 I0 F0 O0 Hd RE e ds I' F (qky L L' B) w2:=by
 rw[←hBd] at hB
 have memB:∀ s t,(s,t)∈B↔(∃ j:Nat,R[j]?=some t∧s=aN j)∨(∃ i:Nat,N[i]?=some s∧t=(d0,i0+i)):=by
  intro s t
  rw[hBd,List.mem_append,List.mem_map,List.mem_map]
  constructor
  ·rintro (⟨⟨a,j⟩,h1,h2⟩ | ⟨⟨a,i⟩,h1,h2⟩)
   ·cases h2
    exact .inl ⟨j,(List.mem_zipIdx_iff_getElem?.1 h1),rfl⟩
   ·cases h2
    exact .inr ⟨i,(List.mem_zipIdx_iff_getElem?.1 h1),rfl⟩
  ·rintro (⟨j,h1,rfl⟩ | ⟨i,h1,rfl⟩)
   ·exact .inl ⟨(t,j),List.mem_zipIdx_iff_getElem?.2 h1,rfl⟩
   ·exact .inr ⟨(s,i),List.mem_zipIdx_iff_getElem?.2 h1,rfl⟩
 have hslot:∀ i:Nat,(∃ s,N[i]?=some s)→L (d0,i0+i)=none:=by
  rintro i ⟨s,hs'⟩
  obtain⟨l,h1,h2⟩:=hlen fun h=>by rw[h] at hs';simp at hs'
  refine hs.dom _ ?_
  unfold qbo
  rw[h1]
  exact List.getElem?_eq_none_iff.2 (by simp only;omega)
 have hRL:∀ (j:Nat) t,R[j]?=some t→∃ p,L t=some p:=fun j t h=>hR t (List.mem_of_getElem? h)
 have hU:∀ s s' t,(s,t)∈B→(s',t)∈B→s=s':=by
  intro s s' t h h'
  rcases (memB s t).1 h with ⟨j,h1,rfl⟩ | ⟨i,h1,rfl⟩<;>rcases (memB s' _).1 h' with ⟨j',h2,rfl⟩ | ⟨i',h2,h3⟩
  ·rw[hRn j j' t h1 h2]
  ·obtain⟨p,hp⟩:=hRL j t h1
   rw[h3,hslot i' ⟨_,h2⟩] at hp;cases hp
  ·obtain⟨p,hp⟩:=hRL j' _ h2
   rw[hslot i ⟨_,h1⟩] at hp;cases hp
  ·have h4:i0+i=i0+i':=congrArg Prod.snd h3
   have:i=i':=by omega
   subst this
   exact Option.some.inj (h1.symm.trans h2)
 have hin:∀ s t,(s,t)∈B→qky L L' B t=some ((L' s).getD none):=fun s t h=>Qm8 hU h
 have hout:∀ t,(∀ s,(s,t) ∉ B)→qky L L' B t=L t:=fun t h=>locIo_out h
 have hfr:Fr cx w0 I0 F0 O0 Hd RE e ds I' F (qky L L' B) w2:=by
  have hsrc:∀ t b C,qky L L' B t=some (some (b,C))→(∃ s,(s,t)∈B∧L' s=some (some (b,C)))∨((∀ s,(s,t) ∉ B)∧L t=some (some (b,C))):=by
   intro t b C h
   by_cases hx:∃ s,(s,t)∈B
   ·obtain⟨s,hst⟩:=hx
    rw[hin s t hst] at h
    refine .inl ⟨s,hst,?_⟩
    cases hl:L' s with
    | none=>rw[hl] at h;simp at h
    | some p=>rw[hl] at h;simpa using h
   ·have hx':∀ s,(s,t) ∉ B:=fun s h=>hx ⟨s,h⟩
    rw[hout t hx'] at h
    exact .inr ⟨hx',h⟩
  have hnotR:∀ t,(∀ s,(s,t) ∉ B)→t ∉ R:=by
   intro t h hm
   obtain⟨j,hj,hget⟩:=List.getElem_of_mem hm
   exact h (aN j) ((memB _ _).2 (.inl ⟨j,by rw[List.getElem?_eq_getElem hj,hget],rfl⟩))
  refine hf.own x1 x2 x3 x4 (fun b hb hn=>x5 b hb fun nm C _=>hn nm C) x6 (fun b hb=>(x7 b hb).imp id fun h=>⟨h.1,h.2.imp id fun ⟨nm,C,_,h⟩=>⟨nm,C,h⟩⟩) (fun t b C ht=>?_) (fun t t' b C C' ht ht'=>?_)
  ·rcases hsrc t b C ht with ⟨s,_,h⟩ | ⟨hx,h⟩
   ·obtain⟨g1,g2,g3⟩:=x8 s b C h
    exact⟨g1,g2,g3.imp id fun ⟨nm,C,_,h⟩=>⟨nm,C,h⟩⟩
   ·obtain⟨g1,g2,g3,g4⟩:=hf.lB t b C h
    refine⟨by omega,fun hi=>?_,.inr ⟨t,C,h⟩⟩
    rcases x7 b hi with h1 | ⟨_,h1 | ⟨nm,C',h1,h2⟩⟩
    ·exact g3 h1
    ·omega
    ·have:=hf.inj t nm b C C' h h2
     subst this
     exact hnotR t hx h1
  ·rcases hsrc t b C ht with ⟨s,hb,h⟩ | ⟨hx,h⟩<;>rcases hsrc t' b C' ht' with ⟨s',hb',h'⟩ | ⟨hx',h'⟩
   ·have:=x9 s s' b C C' h h'
    subst this
    exact first_uniq hB hb hb'
   ·obtain⟨_,_,g3⟩:=x8 s b C h
    rcases g3 with g3 | ⟨nm,C2,g3,g4⟩
    ·have:=(hf.lB t' b C' h').2.1;omega
    ·have:=hf.inj t' nm b C' C2 h' g4
     subst this
     exact absurd g3 (hnotR t' hx')
   ·obtain⟨_,_,g3⟩:=x8 s' b C' h'
    rcases g3 with g3 | ⟨nm,C2,g3,g4⟩
    ·have:=(hf.lB t b C h).2.1;omega
    ·have:=hf.inj t nm b C C2 h g4
     subst this
     exact absurd g3 (hnotR t hx)
   ·exact hf.inj t t' b C C' h h'
 refine⟨?_,hfr⟩
 have hIk:∀ b,I b→w2.heap[b]?=w.heap[b]?:=fun b hb=>x5 b (hf.sep.iB b hb) fun nm C _ hn=>(hf.lB nm b C hn).2.2.1 hb
 let L1:Loc:=fun t=>if t∈R∧t ∉ gone then qky L L' B t else L t
 have hnB:∀ t,t ∉ R→∀ p,L t=some p→∀ s,(s,t) ∉ B:=by
  intro t ht p hp s h
  rcases (memB s t).1 h with ⟨j,h1,rfl⟩ | ⟨i,h1,rfl⟩
  ·exact ht (List.mem_of_getElem? h1)
  ·rw[hslot i ⟨_,h1⟩] at hp;cases hp
 have hge1:Qjv L L1:=by
  intro t p hp
  by_cases ht:t∈R∧t ∉ gone
  ·obtain⟨j,hj,hget⟩:=List.getElem_of_mem ht.1
   have hj':R[j]?=some t:=by rw[List.getElem?_eq_getElem hj,hget]
   obtain⟨p',h1,h2⟩:=hge j t hj' ht.2 p hp
   refine⟨p',?_,h2⟩
   simp only[L1,ht,not_false_eq_true,and_self,if_true]
   rw[hin (aN j) t ((memB _ _).2 (.inl ⟨j,hj',rfl⟩)),h1];rfl
  ·exact⟨p,by simp only[L1,ht,if_false];exact hp,GeP.refl p⟩
 let f1:Nm→Option (Option Ob):=fun m=>if gone.contains m then some none else none
 have hsub1:qlz w2 I' lp L1 (some (qky L L' B)) (fun _=>True) f1:=by
  intro t p _ hp
  by_cases hg:gone.contains t=true
  ·simp only[f1,hg,if_true]
  ·simp only[f1,hg]
   refine⟨_,rfl,?_⟩
   have hg':t ∉ gone:=by simpa using hg
   by_cases ht:t∈R
   ·have:t∈R∧t ∉ gone:=⟨ht,hg'⟩
    simpa only [L1,this,not_false_eq_true,and_self,if_true] using hp
   ·have:¬ (t∈R∧t ∉ gone):=fun h=>ht h.1
    simp only[L1,this,if_false] at hp
    rw[hout t (hnB t ht p hp)];exact hp
 have htm:qbv w2 I' lp (some (qky L L' B)) (qfx f1 st.tmps) tmv:=qbv.subst (fun _ h=>h) hsub1 ((qbv.mono x6 hIk (fun _ _ h=>h) hs.tm).ge hge1) fun _ _=>trivial
 have hkp:qbv w2 I' lp (some (qky L L' B)) (qfx f1 st.keep) suf:=qbv.subst (fun _ h=>h) hsub1 ((qbv.mono x6 hIk (fun _ _ h=>h) hs.kp).ge hge1) fun _ _=>trivial
 generalize hups:(R.zipIdx.map fun p=>(p.1,(((qbo st2.objs (aN p.2)).getD qhs).sub (qmm B)).ren (qhf B)))=ups
 have memU:∀ t o,(t,o)∈ups↔∃ j:Nat,R[j]?=some t∧o=(((qbo st2.objs (aN j)).getD qhs).sub (qmm B)).ren (qhf B):=by
  intro t o
  rw[←hups,List.mem_map]
  constructor
  ·rintro ⟨⟨a,j⟩,h1,h2⟩
   cases h2
   exact⟨j,List.mem_zipIdx_iff_getElem?.1 h1,rfl⟩
  ·rintro ⟨j,h1,rfl⟩
   exact⟨(t,j),List.mem_zipIdx_iff_getElem?.2 h1,rfl⟩
 have hdead:∀ f g,(qhs.sub f).ren g=qhs:=fun f g=>rfl
 have hobj:∀ s t,(s,t)∈B→∃ p,qky L L' B t=some p∧qjy w2 I' lp (qky L L' B) ((((qbo st2.objs s).getD qhs).sub (qmm B)).ren (qhf B)) p:=by
  intro s t hst
  refine⟨_,hin s t hst,?_⟩
  cases hl:qbo st2.objs s with
  | none =>
   rw[hs2.dom s hl]
   simp only[Option.getD_none,hdead]
   exact⟨0,0,rfl⟩
  | some ob =>
   obtain⟨p,hp,ha⟩:=hs2.ob s ob hl
   rw[hp]
   simp only[Option.getD_some]
   exact take_ob hB hU (ha.mono (fun _ h=>h) (fun _ _=>rfl) hlp fun _ _ _=>rfl)
 have hlook0:∀ t,qbo (st.objs.map (·.map (Ob.sub f1))) t=(qbo st.objs t).map (Ob.sub f1):=fun t=>qfm _ _ t
 have hpres:∀ p∈ups,∃ o,qbo (st.objs.map (·.map (Ob.sub f1))) p.1=some o:=by
  rintro ⟨t,o⟩ hp
  obtain⟨j,hj,_⟩:=(memU t o).1 hp
  obtain⟨p,hL⟩:=hRL j t hj
  obtain⟨ob,hob,_⟩:=hs.some_of_loc hL
  exact⟨_,by rw[hlook0,hob];rfl⟩
 have hlu:∀ t,((∃ j:Nat,R[j]?=some t)→∃ s,(s,t)∈B∧qbo (qj7 ups (st.objs.map (·.map (Ob.sub f1)))) t=some ((((qbo st2.objs s).getD qhs).sub (qmm B)).ren (qhf B))) ∧
   ((∀ j:Nat,R[j]?≠some t)→qbo (qj7 ups (st.objs.map (·.map (Ob.sub f1)))) t=(qbo st.objs t).map (Ob.sub f1)):=by
  intro t
  obtain⟨h1,h2⟩:=Qky ups (st.objs.map (·.map (Ob.sub f1))) t hpres
  refine⟨?_,fun hno=>?_⟩
  ·rintro ⟨j,hj⟩
   refine⟨aN j,(memB _ _).2 (.inl ⟨j,hj,rfl⟩),h1 _ (fun o' ho'=>?_) ((memU _ _).2 ⟨j,hj,rfl⟩)⟩
   obtain⟨j',hj',rfl⟩:=(memU _ _).1 ho'
   rw[hRn j j' t hj hj']
  ·rw[h2 fun o ho=>by obtain⟨j,hj,_⟩:=(memU _ _).1 ho;exact hno j hj,hlook0]
 have hother:∀ t ob,(∀ s,(s,t) ∉ B)→qbo st.objs t=some ob→∃ p,qky L L' B t=some p∧qjy w2 I' lp (qky L L' B) (ob.sub f1) p:=by
  intro t ob hx hl
  obtain⟨p,hp,ha⟩:=hs.ob t ob hl
  refine⟨p,by rw[hout t hx];exact hp,?_⟩
  have ha2:qjy w2 I' lp L ob p:=ha.mono x6 hIk (fun _ _ h=>h) fun b C hpb=>by
   subst hpb
   refine x5 b (hf.lB t b C hp).2.1 fun nm C' hm hn=>?_
   have:=hf.inj t nm b C C' hp hn
   subst this
   obtain⟨j,hj,hget⟩:=List.getElem_of_mem hm
   exact hx (aN j) ((memB _ _).2 (.inl ⟨j,by rw[List.getElem?_eq_getElem hj,hget],rfl⟩))
  exact qjy.subst (ha2.ge hge1) (fun _ h=>h) (fun _ _=>rfl) hsub1 (fun _ _=>trivial) fun _ _ _=>rfl
 have hlens:∀ (l:List (Nm×Ob)) (objs:List (List Ob)) (d:Nat),(qj7 l objs).length=objs.length∧∀ x,objs[d]?=some x→∃ y,(qj7 l objs)[d]?=some y∧y.length=x.length:=by
  intro l
  induction l with
  | nil=>intro objs d;exact⟨rfl,fun x h=>⟨x,h,rfl⟩⟩
  | cons p l ih =>
   obtain⟨nm,o⟩:=p
   intro objs d
   obtain⟨q1,q2⟩:=ih (qcz objs nm o) d
   have hp:(qcz objs nm o).length=objs.length:=by unfold qcz;split<;>simp
   refine⟨q1.trans hp,fun x hx=>?_⟩
   have:∃ y,(qcz objs nm o)[d]?=some y∧y.length=x.length:=by
    unfold qcz
    split
    ·rename_i l' hl'
     by_cases hnd:nm.1=d
     ·subst hnd
      rw[hx] at hl';cases hl'
      exact⟨_,List.getElem?_set_self (List.getElem?_eq_some_iff.1 hx).1,by simp⟩
     ·exact⟨x,by rw[List.getElem?_set_ne hnd];exact hx,rfl⟩
    ·exact⟨x,hx,rfl⟩
   obtain⟨y,h1,h2⟩:=this
   obtain⟨z,h3,h4⟩:=q2 y h1
   exact⟨z,h3,h4.trans h2⟩
 generalize hXd:qj7 ups (st.objs.map (·.map (Ob.sub f1)))=X at hlu
 have hX1:X.length=st.objs.length:=by rw[←hXd,(hlens ups _ 0).1,List.length_map]
 have hX2:∀ (d:Nat) (l:List Ob),st.objs[d]?=some l→∃ l',X[d]?=some l'∧l'.length=l.length:=by
  intro d l h
  obtain⟨y,h1,h2⟩:=(hlens ups (st.objs.map (·.map (Ob.sub f1))) d).2 (l.map (Ob.sub f1)) (by rw[List.getElem?_map,h];rfl)
  exact⟨y,by rw[←hXd];exact h1,by rw[h2,List.length_map]⟩
 generalize hnews:(N.map fun m=>(((qbo st2.objs m).getD qhs).sub (qmm B)).ren (qhf B))=news
 have hnn:news.length=N.length:=by rw[←hnews,List.length_map]
 have hset:∀ (X:List (List Ob)) (d:Nat),X.set d (X.getD d []++[])=X:=by
  intro X d
  rw[List.append_nil]
  apply List.ext_getElem?
  intro i
  by_cases hi:i=d
  ·subst hi
   by_cases hlt:i < X.length
   ·rw[List.getElem?_set_self hlt,List.getD_eq_getElem?_getD,List.getElem?_eq_getElem hlt];rfl
   ·rw[List.getElem?_eq_none_iff.2 (by simpa using hlt),List.getElem?_eq_none_iff.2 (by simpa using hlt)]
  ·rw[List.getElem?_set_ne (Ne.symm hi)]
 have hst:apply st dst {v:=(v0.sub (qmm B)).ren (qhf B),new:=news,ups:=ups,gone:=gone,io:=true,slot:=sl} =
   {tmps:=putP (qfx f1 st.tmps) dst ((v0.sub (qmm B)).ren (qhf B)),objs:=X.set d0 (X.getD d0 []++news),keep:=qfx f1 st.keep}:=by
  have e1:(if gone.isEmpty=true then st else qkq f1 st)={tmps:=qfx f1 st.tmps,objs:=st.objs.map (·.map (Ob.sub f1)),keep:=qfx f1 st.keep}:=by
   split
   ·rename_i hg
    have hg':f1=fun _=>none:=by funext m;simp only[f1];rw[List.isEmpty_iff.1 hg];rfl
    rw[hg',subL_id,subL_id]
    have:(fun l:List Ob=>l.map (Ob.sub fun _=>none))=id:=by
     funext l
     rw[show (Ob.sub fun _=>none)=id from funext Ob.sub_id,List.map_id];rfl
    rw[this,List.map_id]
   ·rfl
  have e2:∀ s:St,(if ups.isEmpty=true then s else {s with objs:=qj7 ups s.objs})={s with objs:=qj7 ups s.objs}:=by
   intro s
   split
   ·rename_i hu
    rw[List.isEmpty_iff.1 hu];rfl
   ·rfl
  unfold apply
  simp only[List.isEmpty_nil,if_true]
  rw[e1,e2]
  simp only[hXd]
  cases sl with
  | some r =>
   have:=hsl r rfl
   subst this
   cases dst with
   | none=>rfl
   | some d=>rfl
  | none =>
   cases hdst:dst with
   | none =>
    have hN:=hnew rfl hdst
    have:news=[]:=by rw[←hnews,hN];rfl
    rw[this,hset]
    rfl
   | some d =>
    obtain⟨hcl,h0⟩:=hd d hdst
    have h0:=h0 rfl
    subst h0
    simp only[Option.isSome_none,Bool.false_or]
    obtain⟨l',h1,h2⟩:=hX2 d [] hcl
    have h3:l'=[]:=List.length_eq_zero_iff.1 h2
    subst h3
    cases hn0:news with
    | nil=>simp only[List.isEmpty_nil,if_true,hset];rfl
    | cons n ns =>
     have:X.getD d []=[]:=by rw[List.getD_eq_getElem?_getD,h1];rfl
     simp only[List.isEmpty_cons,Bool.false_eq_true,if_false,this,List.nil_append];rfl
 have key1:∀ (i:Nat) s,N[i]?=some s→qbo (X.set d0 (X.getD d0 []++news)) (d0,i0+i)=some ((((qbo st2.objs s).getD qhs).sub (qmm B)).ren (qhf B)):=by
  intro i s hi
  obtain⟨l,h1,h2⟩:=hlen fun h=>by rw[h] at hi;simp at hi
  obtain⟨l',h3,h4⟩:=hX2 d0 l h1
  have hlt:d0 < X.length:=(List.getElem?_eq_some_iff.1 h3).1
  rw[qc0 _ hlt,List.getD_eq_getElem?_getD,h3]
  simp only[Option.getD_some]
  rw[List.getElem?_append_right (by omega),show i0+i - l'.length=i by omega,←hnews,List.getElem?_map,hi]
  rfl
 have key2:∀ t:Nm,(∀ (i:Nat) s,N[i]?=some s→t≠(d0,i0+i))→qbo (X.set d0 (X.getD d0 []++news)) t=qbo X t:=by
  intro t ht
  by_cases h1:t.1=d0
  ·obtain⟨a,j⟩:=t
   simp only at h1;subst h1
   by_cases hN:N=[]
   ·have:news=[]:=by rw[←hnews,hN];rfl
    rw[this,hset]
   ·obtain⟨l,g1,g2⟩:=hlen hN
    obtain⟨l',h3,h4⟩:=hX2 a l g1
    have hlt:a < X.length:=(List.getElem?_eq_some_iff.1 h3).1
    rw[qc0 _ hlt,List.getD_eq_getElem?_getD,h3]
    simp only[Option.getD_some]
    have hX:qbo X (a,j)=l'[j]?:=by unfold qbo;rw[h3]
    rw[hX]
    by_cases hj:j < l'.length
    ·rw[List.getElem?_append_left hj]
    ·rw[List.getElem?_append_right (by omega),List.getElem?_eq_none_iff.2 (by omega:l'.length≤j)]
     refine List.getElem?_eq_none_iff.2 ?_
     apply Classical.byContradiction
     intro hlt2
     have hlt3:j - l'.length < N.length:=by omega
     exact ht (j - l'.length) _ (List.getElem?_eq_getElem hlt3) (by rw[show i0+(j - l'.length)=j by omega])
  ·rw[qcd _ h1]
 rw[hst]
 have hnotB:∀ t:Nm,(∀ (i:Nat) s,N[i]?=some s→t≠(d0,i0+i))→(¬ ∃ j:Nat,R[j]?=some t)→∀ s,(s,t) ∉ B:=by
  intro t ht hj s h
  rcases (memB s t).1 h with ⟨j,h1,_⟩ | ⟨i,h1,h2⟩
  ·exact hj ⟨j,h1⟩
  ·exact ht i s h1 h2
 have htmf:qbv w2 I' lp (some (qky L L' B)) (putP (qfx f1 st.tmps) dst ((v0.sub (qmm B)).ren (qhf B))) (Qjy tmv dst v):=by
  cases dst with
  | none=>exact htm
  | some d=>exact htm.set d (take_val hB hU (qbx.mono (fun _ h=>h) (fun _ _=>rfl) hlp hv))
 refine⟨htmf,hkp,fun t ob hl=>?_,fun t hl=>?_⟩
 ·simp only at hl
  by_cases ht:∃ (i:Nat) (s:Nm),N[i]?=some s∧t=(d0,i0+i)
  ·obtain⟨i,s,h1,rfl⟩:=ht
   rw[key1 i s h1] at hl;cases hl
   exact hobj s _ ((memB _ _).2 (.inr ⟨i,h1,rfl⟩))
  ·have ht':∀ (i:Nat) s,N[i]?=some s→t≠(d0,i0+i):=fun i s h1 h2=>ht ⟨i,s,h1,h2⟩
   rw[key2 t ht'] at hl
   by_cases hj:∃ j:Nat,R[j]?=some t
   ·obtain⟨s,h1,h2⟩:=(hlu t).1 hj
    rw[h2] at hl;cases hl
    exact hobj s t h1
   ·rw[(hlu t).2 fun j h=>hj ⟨j,h⟩] at hl
    obtain⟨ob0,h0,rfl⟩:=Option.map_eq_some_iff.1 hl
    exact hother t ob0 (hnotB t ht' hj) h0
 ·simp only at hl
  by_cases ht:∃ (i:Nat) (s:Nm),N[i]?=some s∧t=(d0,i0+i)
  ·obtain⟨i,s,h1,rfl⟩:=ht
   rw[key1 i s h1] at hl;cases hl
  ·have ht':∀ (i:Nat) s,N[i]?=some s→t≠(d0,i0+i):=fun i s h1 h2=>ht ⟨i,s,h1,h2⟩
   rw[key2 t ht'] at hl
   by_cases hj:∃ j:Nat,R[j]?=some t
   ·obtain⟨s,h1,h2⟩:=(hlu t).1 hj
    rw[h2] at hl;cases hl
   ·rw[(hlu t).2 fun j h=>hj ⟨j,h⟩] at hl
    rw[hout t (hnotB t ht' hj)]
    exact hs.dom t (by simpa using hl)
end done
theorem qtr {sl:Option Nat} {d0 i0:Nat} {R:List Nm} {st:St} {v:PV} {out:Out} (h:qts sl d0 i0 R st v=some out) :
  ∃ (N:List Nm) (B:List (Nm×Nm)),B=(R.zipIdx.map fun p=>((qqj (st.keep.getD p.2 .undef)).getD (0,p.2),p.1))++N.zipIdx.map (fun p=>(p.1,(d0,i0+p.2)))∧qgs (B.map (·.1))=true ∧
   out={v:=(v.sub (qmm B)).ren (qhf B),new:=N.map fun m=>(((qbo st.objs m).getD qhs).sub (qmm B)).ren (qhf B),ups:=(R.zipIdx.map fun p=>(p.1,(((qbo st.objs ((qqj (st.keep.getD p.2 .undef)).getD (0,p.2))).getD qhs).sub (qmm B)).ren (qhf B))),gone:=qvv R st.keep,io:=true,slot:=sl}:=by
 unfold qts at h
 obtain⟨h1,h2⟩:=qbr h
 refine⟨_,_,rfl,h1,?_⟩
 cases h2
 simp only[qg5,List.map_map]
 rfl
theorem slotLen_ok {objs:List (List Ob)} {d i0 j:Nat} {o:Ob} (hj:qbo objs (d,j)=some o) (h:qqq (qbo objs) d=some i0):∃ l,objs[d]?=some l∧l.length=i0:=by
 unfold qqq at h
 rw[List.find?_eq_some_iff_append] at h
 obtain⟨h1,as,bs,h2,h3⟩:=h
 cases hl:objs[d]? with
 | none=>unfold qbo at hj;simp only[hl] at hj;cases hj
 | some l =>
  have hlook:∀ j,qbo objs (d,j)=l[j]?:=fun j=>by unfold qbo;simp only[hl]
  refine⟨l,rfl,?_⟩
  have hle:l.length≤i0:=by
   rw[hlook] at h1
   simpa using h1
  have hlen:as.length=i0∧∀ k,k < as.length→as[k]?=some k:=by
   have hr:=h2
   have hpos:(List.range 64)[as.length]?=some i0:=by rw[hr];simp
   obtain⟨q1,q2⟩:=List.getElem?_eq_some_iff.1 hpos
   simp at q2
   refine⟨q2,fun k hk=>?_⟩
   have:(List.range 64)[k]?=as[k]?:=by rw[hr,List.getElem?_append_left hk]
   rw[←this]
   simp at q1
   exact List.getElem?_range (by omega)
  rcases Nat.lt_or_ge l.length i0 with hlt | hge
  ·have hm:=hlen.2 l.length (by omega)
   have:=h3 _ (List.mem_of_getElem? hm)
   rw[hlook] at this
   simp at this
  ·omega
theorem io_both {cx:Cx} {M:qfk} {tab:FuncId→Option RFn} (hM:qhx cx M.call) (hsp:MSp cx M) (hloc:Qpj M) (hiod:IoDOK cx M) {dd:FuncId→qz0} (htab:Ql5 cx tab dd) (n:Nat) (g:FuncId) (d0:Nat) (st:St) (vs:List PV) (out:Out) (hc:Qjz M n tab g d0 (qbo st.objs) vs=some out):qfi cx.P g ∧
  ∀ (E:Type) (w0:World) (I0 F0:Nat→Prop) (O0:Own) (Hd:Nat→Option Obj) (R:qlp E) (e:E) (ds:List Deferred) (I F:Nat→Prop) (lp:Nat→Option Nat) (L:Loc) (tmv suf us:List Value) (w:World) (dst:Option Nat),
   SR lp I L st tmv suf w→Fr cx w0 I0 F0 O0 Hd R e ds I F L w→qbv w I lp (some L) vs us→(∀ d,dst=some d→d=d0∧st.objs[d]?=some [])→(dst=none→out.new=[]∨out.slot.isSome=true) →
   (CallsIn Fence.wide 0 cx.P g us.toArray w fun
    | .returned v,w'=>∃ I' L',SR lp I' L' (apply st dst out) (Qjy tmv dst v) suf w'∧Fr cx w0 I0 F0 O0 Hd R e ds I' F L' w'
    | _,_=>False) ∧
   (qlk tab g=true→∀ u,CallsDIn Fence.wide 0 cx.P g us.toArray u w fun en u' w'=>u'=u∧match en with
    | .returned v=>∃ I' L',SR lp I' L' (apply st dst out) (Qjy tmv dst v) suf w'∧Fr cx w0 I0 F0 O0 Hd R e ds I' F L' w'
    | _=>False):=by
 unfold Qjz at hc
 split at hc
 case h_1=>cases hc
 rename_i rf hrf
 obtain⟨fn,c,hfn,hbody,hres,hname,hnt,hcode⟩:=tab_fn htab hrf
 simp only at hc
 generalize hRd:qgh (qcm (qbo st.objs) qbn (qbm vs))=R at hc
 have hRn:∀ (i j:Nat) nm,R[i]?=some nm→R[j]?=some nm→i=j:=by rw[←hRd];exact fun i j nm=>dedupN_inj i j nm
 have hmemR:∀ nm∈qbm vs,nm∈R:=fun nm hn=>by rw[←hRd];exact qti.2 (qdf _ _ nm hn)
 split at hc
 case h_1=>cases hc
 rename_i ins hins
 obtain⟨hk,hc⟩:=qbr hc
 simp only[Bool.and_eq_true,Bool.not_eq_true',decide_eq_true_eq] at hk
 obtain⟨⟨⟨hy,hshut⟩,hoy⟩,⟨hlen,hRlen⟩,hnt0⟩:=hk
 split at hc
 case h_2=>cases hc
 rename_i st2 v0 hraw
 have hplace:∃ sl d1 i1,qts sl d1 i1 R st2 v0=some out∧((sl=none∧d1=d0∧i1=0∧R=[])∨(sl=some d1∧∃ j,(d1,j)∈R∧qqq (qbo st.objs) d1=some i1)):=by
  unfold qq5 at hc
  cases R with
  | nil=>exact⟨none,d0,0,hc,.inl ⟨rfl,rfl,rfl,rfl⟩⟩
  | cons r rs =>
   simp only at hc
   split at hc
   ·rename_i i1 hi1
    exact⟨some r.1,r.1,i1,hc,.inr ⟨rfl,r.2,List.mem_cons_self,hi1⟩⟩
   ·cases hc
 obtain⟨sl,d1,i1,hc,hplace⟩:=hplace
 obtain⟨N,B,hB,hBn,hout⟩:=qtr hc
 have hrun:∃ x st3 l rs,((noD rf.code=true∧qbt M n rf.code qbc 0 (ioSt rf.gone rf.nt (ins.map (Ob.ren fun m=>(0,R.idxOf m))) (qhy (fun m=>(0,R.idxOf m)) vs)) ()=some (x,st3,())∧st2=st3) ∨
   (noD rf.code=false∧qcn M n rf.nt rf.code (ioSt rf.gone rf.nt (ins.map (Ob.ren fun m=>(0,R.idxOf m))) (qhy (fun m=>(0,R.idxOf m)) vs))=some (x,st3,l)∧Qn4 M rf.nt l st3=some st2))∧(∀ id,x≠.exit id)∧qmz st2 rf.res=some rs∧v0=qqw rs:=by
  unfold qtq at hraw
  split at hraw
  ·rename_i hq
   split at hraw
   case h_2=>cases hraw
   rename_i x st3 u hev
   have hxe:∀ id,x≠.exit id:=by rintro id rfl;simp at hraw
   have hraw2:(match qmz st3 rf.res with
     | some rs=>some (st3,qqw rs)
     | none=>none)=some (st2,v0):=by
    cases x with
    | normal=>exact hraw
    | ret=>exact hraw
    | exit id=>exact absurd rfl (hxe id)
   split at hraw2
   case h_2=>cases hraw2
   rename_i rs hrs
   cases hraw2
   exact⟨x,_,[],rs,.inl ⟨hq,hev,rfl⟩,hxe,hrs,rfl⟩
  ·rename_i hq
   split at hraw
   case h_2=>cases hraw
   rename_i x st3 l hev
   have hxe:∀ id,x≠.exit id:=by rintro id rfl;simp at hraw
   have hraw2:(match Qn4 M rf.nt l st3 with
     | some st=>match qmz st rf.res with
      | some rs=>some (st,qqw rs)
      | none=>none
     | none=>none)=some (st2,v0):=by
    cases x with
    | normal=>exact hraw
    | ret=>exact hraw
    | exit id=>exact absurd rfl (hxe id)
   split at hraw2
   case h_2=>cases hraw2
   rename_i st4 hd
   split at hraw2
   case h_2=>cases hraw2
   rename_i rs hrs
   cases hraw2
   exact⟨x,st3,l,rs,.inr ⟨by simpa using hq,hev,hd⟩,hxe,hrs,rfl⟩
 obtain⟨x,st3,l,rs,hev,hxe,hrs,rfl⟩:=hrun
 obtain⟨m1,m2⟩:=Qgo R ins hins
 refine⟨⟨fn,hfn,by simpa using hname,by rw[hbody];rfl⟩,?_⟩
 intro E w0 I0 F0 O0 Hd RE e ds I F lp L tmv suf us w dst hs hf hrep hd hnew
 have hRL:∀ nm∈R,∃ p ob,L nm=some p∧qbo st.objs nm=some ob∧qjy w I lp L ob p:=by
  intro nm hn
  obtain⟨j,hj,hget⟩:=List.getElem_of_mem hn
  obtain⟨ob,_,h2⟩:=m2 j nm (by rw[List.getElem?_eq_getElem hj,hget])
  obtain⟨p,hp,ha⟩:=hs.ob nm ob h2
  exact⟨p,ob,hp,h2,ha⟩
 let Lc:Loc:=fun m=>if m.1=0 then (R[m.2]?).bind L else none
 let fr:Nm→Nm:=fun m=>(0,R.idxOf m)
 let LR:Loc:=fun m=>if m∈R then L m else none
 have hren:∀ nm p,LR nm=some p→Lc (fr nm)=some p:=by
  intro nm p hp
  simp only[LR] at hp
  split at hp
  ·rename_i hm
   simp only[Lc,fr,if_true,idx_get hm,Option.bind_some,hp]
  ·cases hp
 have hLc:∀ nm p,Lc nm=some p→∃ t,R[nm.2]?=some t∧nm.1=0∧L t=some p:=by
  intro nm p hp
  simp only[Lc] at hp
  split at hp
  ·rename_i h1
   cases hr:R[nm.2]? with
   | none=>rw[hr] at hp;simp at hp
   | some t=>rw[hr] at hp;exact⟨t,rfl,h1,by simpa using hp⟩
  ·cases hp
 let lp':Nat→Option Nat:=fun _=>none
 have hargs:qbv w I lp' (some Lc) (qhy fr vs) us:=by
  have h1:qbv w I lp' (some L) vs us:=hrep.noY hy
  have h2:qbv w I lp' (some LR) vs us:=h1.narrow fun nm hn p hp=>by simp only[LR,hmemR nm hn,if_true];exact hp
  exact h2.rename hren
 have hil:(ins.map (Ob.ren fr)).length=R.length:=by rw[List.length_map,m1]
 let wv:List Value:=(List.range rf.nt).map fun j=>match (R[j]?).bind L with
  | some (some (b,C))=>.slice (some ⟨b,0,none⟩) 0 C
  | _=>.slice none 0 0
 have hwvj:∀ (j:Nat) nm,R[j]?=some nm→wv.getD j undef=(match L nm with
    | some (some (b,C))=>.slice (some ⟨b,0,none⟩) 0 C
    | _=>.slice none 0 0):=by
  intro j nm hj
  have hjl:j < rf.nt:=by have:=(List.getElem?_eq_some_iff.1 hj).1;omega
  rw[List.getD_eq_getElem?_getD,List.getElem?_map,List.getElem?_range hjl]
  simp only[Option.map_some,Option.getD_some,hj,Option.bind_some]
 have hwit:qbv w I lp' (some Lc) (wits rf.gone rf.nt R.length) wv:=by
  refine qbv.of_get (by simp[wits,wv]) fun i y v hy' hv=>?_
  simp only[wits,List.getElem?_map,Option.map_eq_some_iff] at hy'
  obtain⟨j,hj,rfl⟩:=hy'
  have hlt:i < rf.nt∧j=i:=by
   obtain⟨h1,h2⟩:=List.getElem?_eq_some_iff.1 hj
   simp at h1 h2
   exact⟨h1,h2.symm⟩
  obtain⟨hlt,rfl⟩:=hlt
  split
  case isFalse=>exact .undef _
  rename_i hjR0
  have hjR:=hjR0.1
  have ht:R[j]?=some R[j]:=List.getElem?_eq_getElem hjR
  have hv2:=hwvj j _ ht
  rw[List.getD_eq_getElem?_getD,hv] at hv2
  simp only[Option.getD_some] at hv2
  subst hv2
  obtain⟨p,ob,hp,_,_⟩:=hRL _ (List.mem_of_getElem? ht)
  have hlc:Lc (0,j)=some p:=by simp only[Lc,if_true,ht,Option.bind_some,hp]
  rw[hp]
  cases p with
  | none=>exact .arrN _ _ hlc
  | some p =>
   obtain⟨b,C⟩:=p
   have:=qbx.arr (w:=w) (I:=I) (lp:=lp') (L:=Lc) (0,j) 1 0 0 C b C hlc (by omega) (Nat.zero_le _)
   simpa using this
 have hst0:SR lp' I Lc (ioSt rf.gone rf.nt (ins.map (Ob.ren fr)) (qhy fr vs)) (us.toArray++Array.replicate (fn.ntmps - us.toArray.size) undef).toList wv w:=by
  have hlen0:0 < (List.replicate rf.nt ([]:List Ob)).length:=by simpa using hnt0
  have hempty:∀ nm:Nm,nm.1≠0→qbo ((List.replicate rf.nt []).set 0 (ins.map (Ob.ren fr))) nm=none:=by
   intro nm h1
   rw[qcd _ h1]
   unfold qbo
   cases hg:(List.replicate rf.nt ([]:List Ob))[nm.1]? with
   | none=>rfl
   | some l =>
    have:=List.eq_of_mem_replicate (List.mem_of_getElem? hg)
    subst this
    simp
  refine⟨?_,?_,?_,?_⟩
  ·have hl:=hargs.length
   have h2:qbv w I lp' (some Lc) (List.replicate (rf.nt - (qhy fr vs).length) PV.undef) (List.replicate (rf.nt - (qhy fr vs).length) undef):=qbv.undefs _ _ (by simp)
   have:=hargs.append h2
   show qbv w I lp' (some Lc) (qhy fr vs++List.replicate (rf.nt - (qhy fr vs).length) .undef) _
   rw[hl] at this ⊢
   simpa[hnt] using this
  ·show qbv w I lp' (some Lc) (wits rf.gone rf.nt (ins.map (Ob.ren fr)).length) wv
   rw[hil];exact hwit
  ·intro nm ob hl
   have hobj:qbo ((List.replicate rf.nt []).set 0 (ins.map (Ob.ren fr))) nm=some ob:=hl
   by_cases h1:nm.1=0
   ·obtain⟨a,j⟩:=nm
    simp only at h1;subst h1
    rw[qc0 _ hlen0,List.getElem?_map] at hobj
    obtain⟨ob0,ho0,rfl⟩:=Option.map_eq_some_iff.1 hobj
    have hj:j < R.length:=by have:=(List.getElem?_eq_some_iff.1 ho0).1;omega
    have hRt:R[j]?=some R[j]:=List.getElem?_eq_getElem hj
    obtain⟨ob1,h3,h4⟩:=m2 j _ hRt
    rw[ho0] at h3;cases h3
    obtain⟨p,hp,ha⟩:=hs.ob _ ob0 h4
    refine⟨p,by simp only[Lc,if_true,hRt,Option.bind_some,hp],?_⟩
    have hyo:ob0.hasY=false:=by
     have:=List.all_eq_true.1 hoy ob0 (List.mem_of_getElem? ho0)
     simpa using this
    have hnarrow:qjy w I lp' LR ob0 p:=(ha.noY hyo).narrow fun m hm q hq=>by
     have:m∈R:=qxc hshut (List.mem_of_getElem? hRt) h4 m hm
     simp only[LR,this,if_true];exact hq
    exact hnarrow.ren hren
   ·rw[hempty nm h1] at hobj;cases hobj
  ·intro nm hl
   have hobj:qbo ((List.replicate rf.nt []).set 0 (ins.map (Ob.ren fr))) nm=none:=hl
   simp only[Lc]
   split
   ·rename_i h1
    obtain⟨a,j⟩:=nm
    simp only at h1;subst h1
    rw[qc0 _ hlen0,List.getElem?_map] at hobj
    have h2:ins[j]?=none:=by simpa using hobj
    have:R[j]?=none:=List.getElem?_eq_none_iff.2 (by have:=List.getElem?_eq_none_iff.1 h2;omega)
    rw[this];rfl
   ·rfl
 let O:Nat→Prop:=fun b=>∃ nm C,nm∈R∧L nm=some (some (b,C))
 have hfr0:Fr cx w I O ⟨O,[]⟩ (fun _=>none) qfo () [] I (fun _=>False) Lc w:=by
  refine⟨⟨rfl,rfl,rfl,Nat.le_refl _,fun _ _ _=>rfl,fun _ h=>h,fun _ h=>.inl h,fun b h=>h.elim⟩,⟨hf.sep.iB,fun b h=>h.elim⟩,fun b h=>h,fun nm b C hn=>?_,fun nm nm' b C C' hn hn'=>?_,hf.wd,trivial,.nil,fun b ob hb=>by cases hb⟩
  ·obtain⟨t,h1,_,h2⟩:=hLc nm _ hn
   obtain⟨_,g2,g3,_⟩:=hf.lB t b C h2
   exact⟨.inr ⟨t,C,List.mem_of_getElem? h1,h2⟩,g2,g3,fun h=>h⟩
  ·obtain⟨t,h1,h3,h2⟩:=hLc nm _ hn
   obtain⟨t',h1',h3',h2'⟩:=hLc nm' _ hn'
   have:=hf.inj t t' b C C' h2 h2'
   subst this
   exact Prod.ext (h3.trans h3'.symm) (hRn _ _ t h1 h1')
 have tail:∀ (tm:Array Value) (w2:World) (I' F':Nat→Prop) (L':Loc),SR lp' I' L' st2 tm.toList wv w2→Fr cx w I O ⟨O,[]⟩ (fun _=>none) qfo () [] I' F' L' w2 →
   ∃ v,(results fn tm).run cx.P w2=.ok v w2∧∃ I' L',SR lp I' L' (apply st dst out) (Qjy tmv dst v) suf w2∧Fr cx w0 I0 F0 O0 Hd RE e ds I' F L' w2:=by
  intro tm w2 I' F' L' hs2 hf'
  obtain⟨us',q1,q2⟩:=res_ok hs2 (P:=cx.P) fn.results.toList rf.res rs hres hrs
  have hv:=one_rep q2
  have hext:=hf'.ext
  have hge:∀ (j:Nat) nm,R[j]?=some nm→nm ∉ qvv R st2.keep→∀ p,L nm=some p→∃ p',L' ((fun k=>(qqj (st2.keep.getD k .undef)).getD (0,k)) j)=some p'∧GeP p p':=by
   intro j nm hj hng p hp
   have hsome:(qqj (st2.keep.getD j .undef)).isSome=true:=by
    cases hw:qqj (st2.keep.getD j .undef) with
    | some q=>rfl
    | none =>
     refine absurd ?_ hng
     unfold qvv
     exact List.mem_map.2 ⟨(nm,j),List.mem_filter.2 ⟨List.mem_zipIdx_iff_getElem?.2 hj,by simp only[hw];rfl⟩,rfl⟩
   obtain⟨q,hq⟩:=Option.isSome_iff_exists.1 hsome
   simp only[hq,Option.getD_some]
   have hkeep:=hs2.kp.getD j undef
   have hval:=hwvj j nm hj
   have hform:st2.keep.getD j .undef=.arr q 1 0 0:=by
    unfold qqj at hq
    split at hq
    ·rename_i nm' heq;cases hq;exact heq
    ·cases hq
   rw[hform,hval,hp] at hkeep
   cases p with
   | none =>
    simp only at hkeep
    cases hkeep with
    | arrN _ _ h=>exact⟨none,h,trivial⟩
   | some p =>
    obtain⟨b,C⟩:=p
    simp only at hkeep
    generalize hvv:(Value.slice (some ⟨b,0,none⟩) 0 C)=vv at hkeep
    cases hkeep with
    | arr _ _ _ _ cap b' C' h hC hn =>
     simp only[Value.slice.injEq,Option.some.injEq,Addr.mk.injEq] at hvv
     obtain⟨⟨rfl,_,_⟩,_,rfl⟩:=hvv
     exact⟨some (b,C'),h,rfl,by omega⟩
    | arrN _ _ h=>simp at hvv
  have hOb:∀ b,b < w.heap.size→(∀ nm C,nm∈R→L nm≠some (some (b,C)))→w2.heap[b]?=w.heap[b]?:=fun b hb hn=>hext.keep b hb fun ⟨nm,C,h1,h2⟩=>hn nm C h1 h2
  have htk:=io_taken (d0:=d1) (i0:=i1) (sl:=sl) (dst:=dst) (R:=R) (N:=N) (aN:=fun k=>(qqj (st2.keep.getD k .undef)).getD (0,k)) (gone:=qvv R st2.keep) hs hf (lp':=lp') (fun d l h=>by cases h)
   (fun d hdd=>⟨(hd d hdd).2,fun h=>by
    rcases hplace with ⟨_,h1,_,_⟩ | ⟨h1,_⟩
    ·rw[h1];exact (hd d hdd).1
    ·rw[h] at h1;cases h1⟩)
   (fun r hr=>by
    rcases hplace with ⟨h1,_⟩ | ⟨h1,_⟩
    ·rw[hr] at h1;cases h1
    ·rw[hr] at h1;cases h1;rfl)
   (fun hN=>by
    rcases hplace with ⟨h1,h2,h3,h4⟩ | ⟨h1,j,h2,h3⟩
    ·cases hdst:dst with
     | none =>
      rcases hnew hdst with h5 | h5
      ·rw[hout] at h5;exact absurd (by simpa using h5) hN
      ·rw[hout,h1] at h5;cases h5
     | some d =>
      obtain⟨g1,g2⟩:=hd d hdst
      exact⟨[],by rw[h2,←g1];exact g2,by rw[h3];rfl⟩
    ·obtain⟨p,ob,hp,hl,_⟩:=hRL _ h2
     exact slotLen_ok hl h3)
   (fun h1 hn=>by
    rcases hnew hn with h5 | h5
    ·rw[hout] at h5;simpa using h5
    ·rw[hout,h1] at h5;cases h5) (fun nm hn=>let ⟨p,_,hp,_⟩:=hRL nm hn;⟨p,hp⟩) hRn hs2 hv
   hext.os hext.tape hext.output hext.size hOb hext.subI
   (fun b hb=>by
    rcases hext.newI b hb with h | h | h
    ·exact .inl h
    ·exact .inr ⟨hf'.sep.iB b hb,.inr h⟩
    ·exact .inr ⟨hf'.sep.iB b hb,.inl h⟩)
   (fun nm b C hn=>by
    obtain⟨g1,g2,g3,_⟩:=hf'.lB nm b C hn
    exact⟨g2,g3,g1⟩) hf'.inj (by rw[←hB];exact hBn) hge hB
  refine⟨if h:us'.toArray.size=1 then us'.toArray[0] else .tuple us'.toArray,?_,I',qky L L' B,?_⟩
  ·unfold results
   rw[Sem.run_bind,Array.mapM_eq_mapM_toList,Sem.run_map]
   rw[Array.toArray_toList] at q1
   exact (congrArg (fun r:Result (List Value)=>(r.andThen fun a w'=>Result.ok a.toArray w').andThen fun a w'=>Sem.run cx.P (pure (if h:a.size=1 then a[0] else Value.tuple a)) w') q1).trans rfl
  ·rw[hout];exact htk
 have body:∀ (Q:Exit→Act→World→Prop),(∀ a' w',(noD rf.code=true→∀ d∈a'.defers,∃ r,d.target=.collected r)→LeavesInM Fence.wide 0 cx.P fn a'.tmps (fun
    | .returned v,w'=>∃ I' L',SR lp I' L' (apply st dst out) (Qjy tmv dst v) suf w'∧Fr cx w0 I0 F0 O0 Hd RE e ds I' F L' w'
    | _,_=>False) a'.defers .returning w'→Q .normal a' w'∧Q .ret a' w')→c.wpIn (fen none) 0 cx.P Q {tmps:=us.toArray++Array.replicate (fn.ntmps - us.toArray.size) undef,defers:=[]} w:=by
  intro Q hQ
  have hx:∀ a' w',Q .normal a' w'∧Q .ret a' w'→Q (qwb x) a' w':=by
   intro a' w' h
   cases x with
   | normal=>exact h.1
   | ret=>exact h.2
   | exit id=>exact absurd rfl (hxe id)
  rcases hev with ⟨hq,hev,rfl⟩ | ⟨hq,hev,hd⟩
  ·rw[hcode] at hev
   refine Qlz (dd:=dd g) (M:=M) hM hsp hloc c Unit qbc 0 qfo lp' w I O ⟨O,[]⟩ (fun _=>none) wv none _ () x st2 () hev ⟨⟨I,O,w,qsg cx _ _ _ _,Ext.refl _ _ _⟩,fun d l h=>by cases h⟩ (fun l0 he=>by cases he) _ w I (fun _=>False) _ _ hst0 hfr0 fun a' w' I' F' L' hs' hf'=>hx a' w' (hQ a' w' (fun _ d hd=>?_) ?_)
   ·have key:∀ ds rs,qj6 w.heap.size I' F' L' w' ds rs→rs=[]→∀ d∈ds,∃ r,d.target=.collected r:=by
     intro ds rs hm
     induction hm with
     | nil=>intro _ d hd;cases hd
     | cons D ds rs _ _ _ _ _ _ _ _ ih =>
      intro h0 d hd
      rcases List.mem_cons.1 hd with rfl | hd
      ·exact⟨D,rfl⟩
      ·exact ih h0 d hd
     | call d ds rs _ _ _=>intro h0;cases h0
    exact key _ _ hf'.mks rfl d hd
   ·exact Qbp (nt:=rf.nt) (M:=M) hiod a'.defers [] [] [] st2 w' I' F' L' hs' hf' .nil rfl fun w2 I2 F2 L2 g1 g2=>tail a'.tmps w2 I2 F2 L2 g1 g2
  ·rw[hcode] at hev
   refine evalD_ok (dd:=dd g) (M:=M) hM hsp hloc c lp' w I O O [] wv _ x st3 l hev ⟨⟨I,O,w,qsg cx _ _ _ _,Ext.refl _ _ _⟩,fun d l h=>by cases h⟩ _ w I (fun _=>False) _ _ hst0 hfr0 fun a' w' I' F' L' us' rs' hs' hf' hp=>hx a' w' (hQ a' w' (fun h=>by rw[hq] at h;cases h) ?_)
   rw[List.append_nil] at hf'
   exact Qbp (nt:=rf.nt) (M:=M) hiod a'.defers rs' l us' st3 w' I' F' L' hs' hf' hp hd fun w2 I2 F2 L2 g1 g2=>tail a'.tmps w2 I2 F2 L2 g1 g2
 refine⟨callsIn_of_wp_marks hfn hbody trivial (body _ fun a' w' _ h=>⟨h,h⟩),fun hfl u=>?_⟩
 have hnd:noD rf.code=true:=by
  unfold qlk at hfl
  rw[hrf] at hfl
  exact hfl
 refine (qqc (R:=fun
    | .returned v,w'=>∃ I' L',SR lp I' L' (apply st dst out) (Qjy tmv dst v) suf w'∧Fr cx w0 I0 F0 O0 Hd RE e ds I' F L' w'
    | _,_=>False) hfn hbody trivial (body _ fun a' w' hm h=>⟨⟨hm hnd,h⟩,⟨hm hnd,h⟩⟩)).mono fun en u' w' hq=>⟨hq.1,?_⟩
 cases en<;>exact hq.2
theorem io_ok {cx:Cx} {M:qfk} {tab:FuncId→Option RFn} (hM:qhx cx M.call) (hsp:MSp cx M) (hloc:Qpj M) (hiod:IoDOK cx M) {dd:FuncId→qz0} (htab:Ql5 cx tab dd) (n:Nat):IoOK cx (Qjz M n tab):=by
 intro g d0 st vs out hc
 obtain⟨h1,h2⟩:=io_both hM hsp hloc hiod htab n g d0 st vs out hc
 exact⟨h1,fun E w0 I0 F0 O0 Hd R e ds I F lp L tmv suf us w dst hs hf hr hd hn=>(h2 E w0 I0 F0 O0 Hd R e ds I F lp L tmv suf us w dst hs hf hr hd hn).1⟩
theorem mapM_congr {σ σ':Nm→Option Ob}:∀ (l:List Nm),(∀ nm∈l,σ nm=σ' nm)→l.mapM σ=l.mapM σ':=by
 intro l
 induction l with
 | nil=>intro _;rfl
 | cons x l ih =>
  intro h
  rw[List.mapM_cons,List.mapM_cons,h x List.mem_cons_self,ih fun nm hn=>h nm (List.mem_cons_of_mem _ hn)]
theorem shut_congr {σ σ':Nm→Option Ob} {R:List Nm} (h:∀ nm∈R,σ nm=σ' nm):qjk σ R=qjk σ' R:=by
 unfold qjk
 rw[Bool.eq_iff_iff]
 simp only[List.all_eq_true]
 exact⟨fun g nm hn=>by rw[←h nm hn];exact g nm hn,fun g nm hn=>by rw[h nm hn];exact g nm hn⟩
theorem io_loc (M:qfk) (n:Nat) (tab:FuncId→Option RFn):IoLocal (Qjz M n tab):=by
 intro g d σ σ' vs out hσ h hst
 unfold Qjz at h ⊢
 cases ht:tab g with
 | none=>rw[ht] at h;cases h
 | some fn =>
  rw[ht] at h
  simp only at h ⊢
  rw[←qku _ _ hσ]
  have hc:∀ nm∈qgh (qcm σ qbn (qbm vs)),σ nm=σ' nm:=fun nm hn=>hσ nm (qti.1 hn)
  rw[←mapM_congr _ hc,←shut_congr hc]
  cases hm:(qgh (qcm σ qbn (qbm vs))).mapM σ with
  | none=>rw[hm] at h;cases h
  | some ins =>
   rw[hm] at h
   simp only at h ⊢
   generalize qgh (qcm σ qbn (qbm vs))=R at h ⊢
   obtain⟨h1,h2⟩:=qbr h
   simp only[chk,h1,if_true]
   split at h2
   case h_2=>cases h2
   rename_i st v hraw
   unfold qq5 at h2 ⊢
   cases R with
   | nil=>exact h2
   | cons r rs =>
    simp only at h2
    split at h2
    ·obtain⟨N,B,_,_,rfl⟩:=qtr h2
     simp[qb7,qdm] at hst
    ·cases h2
theorem Qnl {sl:Option Nat} {d0 i0:Nat} {R:List Nm} {st:St} {v:PV} {out:Out} (h:qts sl d0 i0 R st v=some out):out.io=true:=by
 obtain⟨_,_,_,_,rfl⟩:=qtr h
 rfl
theorem Qld (M:qfk) (n:Nat) (tab:FuncId→Option RFn) (g:FuncId) (d:Nat) (σ:Nm→Option Ob) (vs:List PV) (out:Out) (h:Qjz M n tab g d σ vs=some out):out.io=true:=by
 unfold Qjz at h
 split at h
 case h_1=>cases h
 simp only at h
 split at h
 case h_1=>cases h
 obtain⟨_,h⟩:=qbr h
 split at h
 case h_2=>cases h
 unfold qq5 at h
 split at h
 ·exact Qnl h
 ·split at h
  ·exact Qnl h
  ·cases h
theorem evalM_ok {cx:Cx} {sp:FuncId→(Nm→Option Ob)→List PV→Option Out} {tab:FuncId→Option RFn} (hsp:SpOK cx sp) (hloc:Qfa sp) {dd:FuncId→qz0} (htab:Ql5 cx tab dd):∀ n,qhx cx (qlc sp tab n).call∧MSp cx (qlc sp tab n)∧Qpj (qlc sp tab n)∧IoDOK cx (qlc sp tab n):=by
 intro n
 induction n with
 | zero=>exact⟨fun E h R dep lp Ir Fr_ wr g args e r obs e' hc=>(by cases hc),⟨hsp,fun g d st vs out h=>(by cases h),fun g d σ vs out h=>(by cases h)⟩,⟨hloc,fun _ _ _ _ _ _ _ h _=>h⟩,fun g d st vs out _ h=>(by cases h)⟩
 | succ n ih =>
  obtain⟨i1,i2,i3,i4⟩:=ih
  refine⟨callOf_ok i1 i2 i3 htab n,⟨hsp,io_ok i1 i2 i3 i4 htab n,Qld _ n tab⟩,⟨hloc,io_loc _ n tab⟩,fun g d st vs out hfl hc=>?_⟩
  obtain⟨h1,h2⟩:=io_both i1 i2 i3 i4 htab n g d st vs out hc
  exact⟨h1,fun E w0 I0 F0 O0 Hd R e ds I F lp L tmv suf us w u hs hf hr hn=>(h2 E w0 I0 F0 O0 Hd R e ds I F lp L tmv suf us w none hs hf hr (fun d h=>by cases h) (fun _=>hn)).2 hfl u⟩
theorem fn_ok {cx:Cx} {sp:FuncId→(Nm→Option Ob)→List PV→Option Out} {tab:FuncId→Option RFn} (hsp:SpOK cx sp) (hloc:Qfa sp) {dd:FuncId→qz0} (htab:Ql5 cx tab dd) (n:Nat):qhx cx (qcp sp tab n):=(evalM_ok hsp hloc htab n).1
end Go.Ab


namespace Go.Ab
theorem qx6 {w w':World} {may:MemPlace→Prop} (h1:w'.os=w.os) (h2:w'.output=w.output) (h3:∀ b,b < w.heap.size→w'.heap[b]?=w.heap[b]?):w.keptBut w' may:=by
 refine⟨h1,h2,fun i hi=>?_⟩
 rw[h3 i hi]
 cases hx:w.heap[i]? with
 | none=>rfl
 | some o=>cases o<;>first | rfl | exact⟨rfl,rfl,rfl,fun _ _=>rfl⟩ | exact .inr ⟨rfl,rfl⟩
structure qzn (w w':World):Prop where
 os:w'.os=w.os
 tape:w'.tape=w.tape
 output:w'.output=w.output
 size:w.heap.size≤w'.heap.size
 same:∀ b,b < w.heap.size→w'.heap[b]?=w.heap[b]?
theorem law_calls {cx:Cx} {call:qs2} (hM:qhx cx call) {g:FuncId} {args:List PV} {b:Bool} {obs:List Ob} (hev:call Unit qbc 0 g args ()=some (.bool b,obs,())) {I:Nat→Prop} {w:World} {vs:List Value}
  (hI:∀ b,I b→b < w.heap.size) (hw:cx.Wd I w) (hrep:qbv w I (fun _=>none) none args vs) :
  Calls cx.P g vs.toArray w fun e w'=>e=.returned (.bool b)∧qzn w w':=by
 obtain⟨_,h⟩:=hM Unit qbc qfo 0 (fun _=>none) I (fun _=>False) w g args () (.bool b) obs () hev (qsg cx _ _ _ _) (fun d l h=>by cases h)
 have:=h I (fun _=>False) w vs (Ext.refl _ _ _) ⟨hI,fun b hb=>hb.elim⟩ hw trivial hrep
 refine callsIn_wide.1 (CallsIn.mono' this fun e w' hr=>?_)
 cases e with
 | returned v =>
  obtain⟨I',F',ps,hce⟩:=hr
  exact⟨by rw[qfn hce.rep],hce.ext.os,hce.ext.tape,hce.ext.output,hce.ext.size,fun b hb=>hce.ext.keep b hb fun h=>h⟩
 | panicked chain=>exact hr.elim
 | outgrown=>exact hr.elim
end Go.Ab


namespace Go.Ab
def Evl (P:Nat→Prop):Prop:=∃ m,∀ k,m≤k→P k
theorem Evl.of {P:Nat→Prop} (h:∀ k,P k):Evl P:=⟨0,fun k _=>h k⟩
theorem Evl.and {P Q:Nat→Prop} (h:Evl P) (h':Evl Q):Evl fun k=>P k∧Q k:=by
 obtain⟨a,ha⟩:=h;obtain⟨b,hb⟩:=h'
 exact⟨max a b,fun k hk=>⟨ha k (by omega),hb k (by omega)⟩⟩
theorem Evl.mono {P Q:Nat→Prop} (h:Evl P) (f:∀ k,P k→Q k):Evl Q:=by
 obtain⟨a,ha⟩:=h;exact⟨a,fun k hk=>f k (ha k hk)⟩
theorem Evl.mono2 {P Q S:Nat→Prop} (h:Evl P) (h':Evl Q) (f:∀ k,P k→Q k→S k):Evl S:=(h.and h').mono fun k ⟨a,b⟩=>f k a b
def HRel {E1 E2:Type} (RE:E1→E2→Prop) (h1:qbg E1) (h2:Nat→qbg E2):Prop :=
 ∀ l args e1 e2,RE e1 e2→∀ b e1',h1 l args e1=some (b,e1')→∃ e2',RE e1' e2'∧Evl fun k=>h2 k l args e2=some (b,e2')
def CallLe (c1:qs2) (c2:Nat→qs2):Prop :=
 ∀ (E1 E2:Type) (RE:E1→E2→Prop) (h1:qbg E1) (h2:Nat→qbg E2),HRel RE h1 h2 →
  ∀ dep g args e1 e2,RE e1 e2→∀ r obs e1',c1 E1 h1 dep g args e1=some (r,obs,e1')→∃ e2',RE e1' e2'∧Evl fun k=>c2 k E2 (h2 k) dep g args e2=some (r,obs,e2')
structure MLe (M1:qfk) (M2:Nat→qfk):Prop where
 sp:∀ k,M1.sp=(M2 k).sp
 call:CallLe M1.call fun k=>(M2 k).call
 isIo:∀ k,M1.isIo=(M2 k).isIo
 leans:∀ k,M1.leans=(M2 k).leans
 flat:∀ k,M1.flat=(M2 k).flat
 io:∀ g dst σ vs out,M1.io g dst σ vs=some out→Evl fun k=>(M2 k).io g dst σ vs=some out
section par
variable {M1:qfk} {M2:Nat→qfk} (hM:MLe M1 M2) {E1 E2:Type} {RE:E1→E2→Prop} {h1:qbg E1} {h2:Nat→qbg E2} (hh:HRel RE h1 h2)
include hM
theorem qw1 (g:FuncId) (args:List PV) {r:PV} {obs:List Ob} {u:Unit} (h:M1.call Unit qbc 0 g args ()=some (r,obs,u)):Evl fun k=>(M2 k).call Unit qbc 0 g args ()=some (r,obs,()):=by
 obtain⟨_,_,h'⟩:=hM.call Unit Unit (fun _ _=>True) qbc (fun _=>qbc) (fun _ _ _ _ _ _ _ h=>by cases h) 0 g args () () trivial r obs u h
 exact h'
include hh
theorem Qhx (dep dst:Nat) (σ:Nm→Option Ob) (tm:List PV) (f:RX) (args:List RX) {e1:E1} {e2:E2} (he:RE e1 e2) {out:Out} {e1':E1}
  (h:qck M1 h1 dep dst σ tm f args e1=some (out,e1')):∃ e2',RE e1' e2'∧Evl fun k=>qck (M2 k) (h2 k) dep dst σ tm f args e2=some (out,e2'):=by
 unfold qck at h ⊢
 cases hf:f.ev tm with
 | yld d =>
  simp only[hf] at h ⊢
  by_cases hS:(qbm (args.map (RX.ev tm))).isEmpty=true
  ·simp only[hS,if_true] at h ⊢
   unfold chk at h ⊢
   split at h
   ·rename_i hy
    simp only[hy,if_true]
    cases hq:h1 d (args.map (RX.ev tm)) e1 with
    | none=>rw[hq] at h;cases h
    | some p =>
     obtain⟨b,e⟩:=p
     rw[hq] at h;cases h
     obtain⟨e2',hr,h2'⟩:=hh _ _ _ _ he _ _ hq
     exact⟨e2',hr,h2'.mono fun k hk=>by rw[hk]⟩
   ·cases h
  ·simp only[hS] at h ⊢
   unfold chk at h ⊢
   simp only[Bool.false_eq_true,if_false] at h ⊢
   split at h
   ·rename_i hy
    simp only[hy,if_true]
    cases hq:h1 d (qfx (qci σ) (args.map (RX.ev tm))) e1 with
    | none=>rw[hq] at h;cases h
    | some p =>
     obtain⟨b,e⟩:=p
     rw[hq] at h;cases h
     obtain⟨e2',hr,h2'⟩:=hh _ _ _ _ he _ _ hq
     exact⟨e2',hr,h2'.mono fun k hk=>by rw[hk]⟩
   ·cases h
 | fn g cap =>
  simp only[hf] at h ⊢
  simp only[←hM.sp,←hM.isIo,←hM.leans]
  cases hs:M1.sp (qfh g) σ (qcc g (args.map (RX.ev tm)) cap) with
  | some o=>simp only[hs] at h ⊢;cases h;exact⟨e2,he,.of fun _=>rfl⟩
  | none =>
   simp only[hs] at h ⊢
   cases hio:M1.isIo (qfh g) with
   | true =>
    simp only[hio,if_true] at h ⊢
    cases hq:M1.io (qfh g) dst σ (qcc g (args.map (RX.ev tm)) cap) with
    | none=>rw[hq] at h;cases h
    | some o=>rw[hq] at h;cases h;exact⟨e2,he,(hM.io _ _ _ _ _ hq).mono fun k hk=>by rw[hk]⟩
   | false =>
   simp only[hio,Bool.false_eq_true,if_false] at h ⊢
   by_cases hS:(qbm (qcc g (args.map (RX.ev tm)) cap)).isEmpty=true
   ·simp only[hS,if_true] at h ⊢
    by_cases hy:qdi (qcc g (args.map (RX.ev tm)) cap)=true
    ·simp only[hy,if_true] at h ⊢
     cases hq:M1.call E1 h1 dep (qfh g) (qcc g (args.map (RX.ev tm)) cap) e1 with
     | none=>rw[hq] at h;cases h
     | some p =>
      obtain⟨r,obs,e⟩:=p
      rw[hq] at h;cases h
      obtain⟨e2',hr,h2'⟩:=hM.call E1 E2 RE h1 h2 hh _ _ _ _ _ he _ _ _ hq
      exact⟨e2',hr,h2'.mono fun k hk=>by simp only at hk;rw[hk]⟩
    ·simp only[hy] at h ⊢
     simp only[Bool.false_eq_true,if_false] at h ⊢
     cases hq:M1.call Unit qbc 0 (qfh g) (qcc g (args.map (RX.ev tm)) cap) () with
     | none=>rw[hq] at h;cases h
     | some p =>
      obtain⟨r,obs,e⟩:=p
      rw[hq] at h;cases h
      exact⟨e2,he,(qw1 hM _ _ hq).mono fun k hk=>by rw[hk]⟩
   ·simp only[hS] at h ⊢
    unfold chk at h ⊢
    simp only[Bool.false_eq_true,if_false] at h ⊢
    split at h
    ·rename_i hy
     simp only[hy,if_true]
     cases hq:M1.call Unit qbc 0 (qfh g) (qfx (qci σ) (qcc g (args.map (RX.ev tm)) cap)) () with
     | none=>rw[hq] at h;cases h
     | some p =>
      obtain⟨r,obs,e⟩:=p
      rw[hq] at h;cases h
      exact⟨e2,he,(qw1 hM _ _ hq).mono fun k hk=>by rw[hk]⟩
    ·cases h
 | _=>simp only[hf] at h;cases h
theorem Qf5 (dep:Nat) (o:qbw) (st:St) {e1:E1} {e2:E2} (he:RE e1 e2) {out:Out} {e1':E1} (h:qh4 M1 h1 dep o st e1=some (out,e1')) :
  ∃ e2',RE e1' e2'∧Evl fun k=>qh4 (M2 k) (h2 k) dep o st e2=some (out,e2'):=by
 unfold qh4 chk at h ⊢
 split at h
 ·rename_i hf
  simp only[hf,if_true]
  cases hop:o.op with
  | call f args =>
   simp only[hop] at h ⊢
   cases hq:qck M1 h1 dep (o.dst.getD 0) (qbo st.objs) st.tmps f args e1 with
   | none=>rw[hq] at h;cases h
   | some p =>
    obtain⟨out1,e3⟩:=p
    rw[hq] at h
    simp only[chk] at h
    split at h
    ·rename_i hg
     cases h
     obtain⟨e2',hr,h2'⟩:=Qhx hM hh dep _ _ _ f args he hq
     exact⟨e2',hr,h2'.mono fun k hk=>by rw[hk];simp only[hg,if_true]⟩
    ·cases h
  | _ =>
   simp only[hop] at h ⊢
   split at h
   ·cases h;exact⟨e2,he,.of fun _=>rfl⟩
   ·cases h
 ·cases h
theorem stepOp_par (dep:Nat) (o:qbw) (st:St) {e1:E1} {e2:E2} (he:RE e1 e2) {st':St} {e1':E1} (h:qro M1 h1 dep o st e1=some (st',e1')) :
  ∃ e2',RE e1' e2'∧Evl fun k=>qro (M2 k) (h2 k) dep o st e2=some (st',e2'):=by
 unfold qro at h ⊢
 cases hq:qh4 M1 h1 dep o st e1 with
 | none=>rw[hq] at h;cases h
 | some p =>
  obtain⟨out,e⟩:=p
  rw[hq] at h;cases h
  obtain⟨e2',hr,h2'⟩:=Qf5 hM hh dep o st he hq
  exact⟨e2',hr,h2'.mono fun k hk=>by rw[hk]⟩
theorem stepG_par (dep:Nat) (ops:List qbw) (o:qbw) (st:St) {e1:E1} {e2:E2} (he:RE e1 e2) {st':St} {e1':E1} (h:stepG M1 h1 dep ops o st e1=some (st',e1')) :
  ∃ e2',RE e1' e2'∧Evl fun k=>stepG (M2 k) (h2 k) dep ops o st e2=some (st',e2'):=by
 unfold stepG at h ⊢
 cases hw:qji ops o st.tmps with
 | none=>rw[hw] at h;cases h
 | some b =>
  rw[hw] at h
  cases b with
  | true=>exact stepOp_par hM hh dep o st he h
  | false=>cases h;exact⟨e2,he,.of fun _=>rfl⟩
theorem Qba (dep:Nat) (ops:List qbw):∀ (l:List qbw) (st:St) {e1:E1} {e2:E2} (_:RE e1 e2) {st':St} {e1':E1} (_:qhe M1 h1 dep ops l st e1=some (st',e1')),
  ∃ e2',RE e1' e2'∧Evl fun k=>qhe (M2 k) (h2 k) dep ops l st e2=some (st',e2'):=by
 intro l
 induction l with
 | nil=>intro st e1 e2 he st' e1' h;cases h;exact⟨e2,he,.of fun _=>rfl⟩
 | cons o rest ih =>
  intro st e1 e2 he st' e1' h
  unfold qhe at h ⊢
  cases hq:stepG M1 h1 dep ops o st e1 with
  | none=>rw[hq] at h;cases h
  | some p =>
   obtain⟨s,e⟩:=p
   rw[hq] at h
   obtain⟨e2',hr,h2'⟩:=stepG_par hM hh dep ops o st he hq
   obtain⟨e3',hr3,h3'⟩:=ih s hr h
   exact⟨e3',hr3,h2'.mono2 h3' fun k hk hk'=>by rw[hk];exact hk'⟩
theorem outD_par (dep:Nat) (ops:List qbw) (i:Nat) (o:qbw) (st:St) {e1:E1} {e2:E2} (he:RE e1 e2) {out:Out} {e1':E1} {inf:qrh} (h:qmr M1 h1 dep ops i o st e1=some (out,e1',inf)) :
  ∃ e2',RE e1' e2'∧Evl fun k=>qmr (M2 k) (h2 k) dep ops i o st e2=some (out,e2',inf):=by
 unfold qmr at h ⊢
 cases hw:qji ops o st.tmps with
 | none=>rw[hw] at h;cases h
 | some b =>
  rw[hw] at h
  cases b with
  | true =>
   simp only at h ⊢
   cases hq:qh4 M1 h1 dep o st e1 with
   | none=>rw[hq] at h;cases h
   | some p =>
    obtain⟨out,e⟩:=p
    rw[hq] at h;cases h
    obtain⟨e2',hr,h2'⟩:=Qf5 hM hh dep o st he hq
    exact⟨e2',hr,h2'.mono fun k hk=>by rw[hk]⟩
  | false=>cases h;exact⟨e2,he,.of fun _=>rfl⟩
theorem runD_par (dep:Nat) (ops:List qbw):∀ (l:List (Nat×Nat)) (infos:List qrh) (st:St) {e1:E1} {e2:E2} (_:RE e1 e2) {st':St} {e1':E1} (_:Qmn M1 h1 dep ops l infos st e1=some (st',e1')),
  ∃ e2',RE e1' e2'∧Evl fun k=>Qmn (M2 k) (h2 k) dep ops l infos st e2=some (st',e2'):=by
 intro l
 induction l with
 | nil=>intro infos st e1 e2 he st' e1' h;cases h;exact⟨e2,he,.of fun _=>rfl⟩
 | cons p rest ih =>
  obtain⟨i,bef⟩:=p
  intro infos st e1 e2 he st' e1' h
  unfold Qmn at h ⊢
  cases hi:ops[i]? with
  | none=>rw[hi] at h;cases h
  | some o =>
   simp only[hi] at h ⊢
   unfold Qfp at h ⊢
   cases hq:qmr M1 h1 dep ops i o st e1 with
   | none=>rw[hq] at h;cases h
   | some p =>
    obtain⟨out,e,inf⟩:=p
    simp only[hq] at h ⊢
    obtain⟨e2',hr,h2'⟩:=outD_par hM hh dep ops i o st he hq
    unfold chk at h ⊢
    split at h
    ·rename_i hc
     obtain⟨e3',hr3,h3'⟩:=ih _ _ hr h
     exact⟨e3',hr3,h2'.mono2 h3' fun k hk hk'=>by rw[hk];simp only[hc,if_true];exact hk'⟩
    ·cases h
end par
def qxk (M:qfk) (fuel:Nat) (asg b:qc6) {E:Type} (h:qbg E) (dep:Nat) (ps:List Nat):qbg (Rec E):=fun l args r =>
 if l=dep then
  match r with
  |(s,none,e) =>
   if args.length=ps.length then
    match qbt M fuel asg h (dep+1) {s with tmps:=qv8 ps args s.tmps,keep:=s.tmps++s.keep} e with
    | some (.normal,s',e)=>match qbt M fuel b h (dep+1) s' e with
     | some (x,s',e)=>some (x==.normal,({s' with tmps:=s'.keep.take s.tmps.length,keep:=s'.keep.drop s.tmps.length},(if x=.normal then none else some x),e))
     | none=>none
    | _=>none
   else none
  | _=>none
 else
  match r with
  |(s,p,e)=>match h l args e with
   | some (b,e)=>some (b,(s,p,e))
   | none=>none
theorem qv0 (M:qfk) (fuel:Nat) (f:RX) (ps:List Nat) (asg b:qc6) {E:Type} (h:qbg E) (dep:Nat) (st:St) (e:E) :
  qbt M fuel (.rangeFunc f ps asg b) h dep st e=(match qq8 st (f.ev st.tmps) with
   | some (.fn g cap,st)=>match M.call (Rec E) (qxk M fuel asg b h dep ps) (dep+1) (qfh g) (qcc g [.yld dep] cap) (st,none,e) with
    | some (_,_,s,p,e)=>some (p.getD .normal,s,e)
    | none=>none
   | _=>none):=rfl
def qgf (M:qfk) (fuel:Nat) (asg:List Nat) (grow:List (Nat×Nat)) (b:qc6) {E:Type} (h:qbg E) (dep:Nat) (ds:List Nat) (s:St×E):Option (Sum (St×E) (Ex×(St×E))) :=
 match qbt M fuel b h dep s.1 s.2 with
 | some (.normal,st,e)=>some (.inl (norm asg grow (drop ds st),e))
 | some (x,st,e)=>some (.inr (x,st,e))
 | none=>none
theorem Qb9 (M:qfk) (fuel:Nat) (asg:List Nat) (grow:List (Nat×Nat)) (b:qc6) {E:Type} (h:qbg E) (dep:Nat) (st:St) (e:E) :
  qbt M fuel (.loop asg grow b) h dep st e=(match qg2 (qgf M fuel asg grow b h dep (undefs (norm asg grow st))) fuel (norm asg grow st,e) with
   | some (x,st,e)=>some (x,st,e)
   | none=>none):=rfl
def qvl {σ ρ τ:Type} (f:σ→Option τ) (g:ρ→Option τ):Option (Sum σ ρ)→Option τ
 | some (.inl s)=>f s
 | some (.inr r)=>g r
 | none=>none
theorem repeat_par {σ1 σ2 ρ1 ρ2:Type} {R:σ1→σ2→Prop} {Q:ρ1→ρ2→Prop} {s1:σ1→Option (Sum σ1 ρ1)} {s2:Nat→σ2→Option (Sum σ2 ρ2)}
  (rep1:Nat→σ1→Option ρ1) (hz1:∀ s,rep1 0 s=none) (hs1:∀ n s,rep1 (n+1) s=qvl (rep1 n) some (s1 s))
  (rep2:Nat→Nat→σ2→Option ρ2) (hs2:∀ k n s,rep2 k (n+1) s=qvl (rep2 k n) some (s2 k s))
  (hs:∀ a b,R a b→(∀ a',s1 a=some (.inl a')→∃ b',R a' b'∧Evl fun k=>s2 k b=some (.inl b'))∧(∀ r,s1 a=some (.inr r)→∃ r',Q r r'∧Evl fun k=>s2 k b=some (.inr r'))) :
  ∀ (n:Nat) a b,R a b→∀ r,rep1 n a=some r→∃ r',Q r r'∧Evl fun k=>∀ j,n≤j→rep2 k j b=some r':=by
 intro n
 induction n with
 | zero=>intro a b _ r h;rw[hz1] at h;cases h
 | succ n ih =>
  intro a b hr r h
  rw[hs1] at h
  cases hq:s1 a with
  | none=>rw[hq] at h;cases h
  | some q =>
   rw[hq] at h
   cases q with
   | inl a1 =>
    obtain⟨b1,hr1,h2⟩:=(hs a b hr).1 a1 hq
    obtain⟨r',hq',h3⟩:=ih a1 b1 hr1 r h
    exact⟨r',hq',h2.mono2 h3 fun k hk hk' j hj=>by
     obtain⟨j,rfl⟩:∃ i,j=i+1:=⟨j - 1,by omega⟩
     rw[hs2,hk];exact hk' j (by omega)⟩
   | inr p =>
    cases h
    obtain⟨r',hr1,h2⟩:=(hs a b hr).2 r hq
    exact⟨r',hr1,h2.mono fun k hk j hj=>by
     obtain⟨j,rfl⟩:∃ i,j=i+1:=⟨j - 1,by omega⟩
     rw[hs2,hk];rfl⟩
theorem qpr {σ:Type} (step:σ→Option (Sum σ (Ex×σ))) (n:Nat) (s:σ) :
  qg2 step (n+1) s=qvl (qg2 step n) some (step s):=by
 rw[qg2];rcases step s with _ | (_ | _)<;>rfl
theorem Evl.diag {P:Nat→Nat→Prop} {n:Nat} (h:Evl fun k=>∀ j,n≤j→P k j):Evl fun k=>P k k:=by
 obtain⟨a,ha⟩:=h;exact⟨max a n,fun k hk=>ha k (by omega) k (by omega)⟩
theorem qy4 {M1:qfk} {M2:Nat→qfk} (hM:MLe M1 M2) {f1:Nat}:∀ (c:qc6) {E1 E2:Type} {RE:E1→E2→Prop} {h1:qbg E1} {h2:Nat→qbg E2} (_:HRel RE h1 h2) (dep:Nat) (st:St) {e1:E1} {e2:E2} (_:RE e1 e2)
  {x:Ex} {st':St} {e1':E1} (_:qbt M1 f1 c h1 dep st e1=some (x,st',e1')),∃ e2',RE e1' e2'∧Evl fun k=>qbt (M2 k) k c (h2 k) dep st e2=some (x,st',e2'):=by
 intro c
 induction c with
 | skip=>intro E1 E2 RE h1 h2 hh dep st e1 e2 he x st' e1' h;cases h;exact⟨e2,he,.of fun _=>rfl⟩
 | region ops dr lv =>
  intro E1 E2 RE h1 h2 hh dep st e1 e2 he x st' e1' h
  cases dr with
  | none =>
   simp only[qbt] at h ⊢
   cases hq:qhe M1 h1 dep ops ops (qk8 (qre ops) st) e1 with
   | none=>rw[hq] at h;cases h
   | some p =>
    obtain⟨s,e⟩:=p
    rw[hq] at h;cases h
    obtain⟨e2',hr,h2'⟩:=Qba hM hh dep ops ops _ he hq
    exact⟨e2',hr,h2'.mono fun k hk=>by rw[hk]⟩
  | some bef =>
   simp only[qbt] at h ⊢
   cases hq:Qmn M1 h1 dep ops bef [] (qk8 (qre ops) st) e1 with
   | none=>rw[hq] at h;cases h
   | some p =>
    obtain⟨s,e⟩:=p
    rw[hq] at h;cases h
    obtain⟨e2',hr,h2'⟩:=runD_par hM hh dep ops bef [] _ he hq
    exact⟨e2',hr,h2'.mono fun k hk=>by rw[hk]⟩
 | seq a b iha ihb =>
  intro E1 E2 RE h1 h2 hh dep st e1 e2 he x st' e1' h
  simp only[qbt] at h ⊢
  cases hq:qbt M1 f1 a h1 dep st e1 with
  | none=>rw[hq] at h;cases h
  | some p =>
   obtain⟨y,s,e⟩:=p
   rw[hq] at h
   obtain⟨e2',hr,h2'⟩:=iha hh dep st he hq
   cases y with
   | normal =>
    obtain⟨e3',hr3,h3'⟩:=ihb hh dep s hr h
    exact⟨e3',hr3,h2'.mono2 h3' fun k hk hk'=>by rw[hk];exact hk'⟩
   | exit id=>cases h;exact⟨e2',hr,h2'.mono fun k hk=>by rw[hk]⟩
   | ret=>cases h;exact⟨e2',hr,h2'.mono fun k hk=>by rw[hk]⟩
 | cond c a b iha ihb =>
  intro E1 E2 RE h1 h2 hh dep st e1 e2 he x st' e1' h
  simp only[qbt] at h ⊢
  cases hc:c.ev st.tmps with
  | bool v =>
   rw[hc] at h
   cases v with
   | true=>exact iha hh dep st he h
   | false=>exact ihb hh dep st he h
  | _=>rw[hc] at h;cases h
 | block id b ih =>
  intro E1 E2 RE h1 h2 hh dep st e1 e2 he x st' e1' h
  simp only[qbt] at h ⊢
  cases hq:qbt M1 f1 b h1 dep st e1 with
  | none=>rw[hq] at h;cases h
  | some p =>
   obtain⟨y,s,e⟩:=p
   rw[hq] at h
   obtain⟨e2',hr,h2'⟩:=ih hh dep st he hq
   cases y with
   | normal=>cases h;exact⟨e2',hr,h2'.mono fun k hk=>by rw[hk]⟩
   | ret=>cases h;exact⟨e2',hr,h2'.mono fun k hk=>by rw[hk]⟩
   | exit id' =>
    simp only at h ⊢
    split at h<;>rename_i hid
    ·cases h;exact⟨e2',hr,h2'.mono fun k hk=>by rw[hk];simp only[hid,if_true]⟩
    ·cases h;exact⟨e2',hr,h2'.mono fun k hk=>by rw[hk];simp only[hid,if_false]⟩
 | loop asg grow b ih =>
  intro E1 E2 RE h1 h2 hh dep st e1 e2 he x st' e1' h
  simp only[Qb9] at h ⊢
  generalize norm asg grow st=z0 at h ⊢
  cases hq:qg2 (qgf M1 f1 asg grow b h1 dep (undefs z0)) f1 (z0,e1) with
  | none=>rw[hq] at h;cases h
  | some q =>
   obtain⟨x0,st0,e0⟩:=q
   rw[hq] at h
   cases h
   obtain⟨⟨x2,s2,e2'⟩,hr,h2'⟩:=repeat_par (R:=fun (a:St×E1) (b:St×E2)=>a.1=b.1∧RE a.2 b.2) (Q:=fun (a:Ex×St×E1) (b:Ex×St×E2)=>a.1=b.1∧a.2.1=b.2.1∧RE a.2.2 b.2.2)
    (s1:=qgf M1 f1 asg grow b h1 dep (undefs z0)) (s2:=fun k=>qgf (M2 k) k asg grow b (h2 k) dep (undefs z0))
    (qg2 (qgf M1 f1 asg grow b h1 dep (undefs z0))) (fun _=>rfl) (fun n s=>qpr _ n s) (fun k=>qg2 (qgf (M2 k) k asg grow b (h2 k) dep (undefs z0))) (fun k n s=>qpr (qgf (M2 k) k asg grow b (h2 k) dep (undefs z0)) n s) (by
     rintro ⟨a,ea⟩ ⟨b',eb⟩ ⟨h01,hre⟩
     simp only at h01 hre
     subst h01
     refine⟨fun a' ha=>?_,fun r ha=>?_⟩
     ·unfold qgf at ha ⊢
      simp only at ha ⊢
      cases hb:qbt M1 f1 b h1 dep a ea with
      | none=>rw[hb] at ha;cases ha
      | some p =>
       obtain⟨y,s,e⟩:=p
       rw[hb] at ha
       obtain⟨e3,hr3,h3⟩:=ih hh dep a hre hb
       cases y with
       | normal=>cases ha;exact⟨(_,e3),⟨rfl,hr3⟩,h3.mono fun k hk=>by rw[hk]⟩
       | exit id=>cases ha
       | ret=>cases ha
     ·unfold qgf at ha ⊢
      simp only at ha ⊢
      cases hb:qbt M1 f1 b h1 dep a ea with
      | none=>rw[hb] at ha;cases ha
      | some p =>
       obtain⟨y,s,e⟩:=p
       rw[hb] at ha
       obtain⟨e3,hr3,h3⟩:=ih hh dep a hre hb
       cases y with
       | normal=>cases ha
       | exit id=>cases ha;exact⟨(_,_,e3),⟨rfl,rfl,hr3⟩,h3.mono fun k hk=>by rw[hk]⟩
       | ret=>cases ha;exact⟨(_,_,e3),⟨rfl,rfl,hr3⟩,h3.mono fun k hk=>by rw[hk]⟩) f1 (z0,e1) (z0,e2) ⟨rfl,he⟩ _ hq
   simp only at hr
   obtain⟨h00,h01,hre⟩:=hr
   subst h00;subst h01
   exact⟨e2',hre,h2'.diag.mono fun k hk=>by rw[hk]⟩
 | rangeFunc f ps asg b iha ihb =>
  intro E1 E2 RE h1 h2 hh dep st e1 e2 he x st' e1' h
  simp only[qv0] at h ⊢
  cases hz:qq8 st (f.ev st.tmps) with
  | none=>rw[hz] at h;cases h
  | some p =>
   obtain⟨v,s0⟩:=p
   rw[hz] at h
   cases v with
   | fn g cap =>
    simp only at h ⊢
    cases hq:M1.call (Rec E1) (qxk M1 f1 asg b h1 dep ps) (dep+1) (qfh g) (qcc g [.yld dep] cap) (s0,none,e1) with
    | none=>rw[hq] at h;cases h
    | some q =>
     obtain⟨r,obs,s,p,e⟩:=q
     rw[hq] at h
     cases h
     obtain⟨⟨s2,p2,e2'⟩,hr,h2'⟩:=hM.call (Rec E1) (Rec E2) (fun (a:Rec E1) (b:Rec E2)=>a.1=b.1∧a.2.1=b.2.1∧RE a.2.2 b.2.2) (qxk M1 f1 asg b h1 dep ps) (fun k=>qxk (M2 k) k asg b (h2 k) dep ps) (by
       rintro l args ⟨s,p,e⟩ ⟨s2,p2,e2⟩ ⟨h01,h02,hre⟩ bb ⟨s',p',e'⟩ hq
       simp only at h01 h02 hre
       subst h01;subst h02
       unfold qxk at hq ⊢
       by_cases hl:l=dep
       ·simp only[hl,if_true] at hq ⊢
        cases p with
        | some x=>cases hq
        | none =>
         simp only at hq ⊢
         by_cases hlen:args.length=ps.length
         ·simp only[hlen,if_true] at hq ⊢
          cases ha:qbt M1 f1 asg h1 (dep+1) {s with tmps:=qv8 ps args s.tmps,keep:=s.tmps++s.keep} e with
          | none=>rw[ha] at hq;cases hq
          | some q =>
           obtain⟨y,s3,e3⟩:=q
           rw[ha] at hq
           obtain⟨e4,hr4,h4⟩:=iha hh (dep+1) _ hre ha
           cases y with
           | normal =>
            simp only at hq ⊢
            cases hb:qbt M1 f1 b h1 (dep+1) s3 e3 with
            | none=>rw[hb] at hq;cases hq
            | some q =>
             obtain⟨y,s5,e5⟩:=q
             rw[hb] at hq
             obtain⟨e6,hr6,h6⟩:=ihb hh (dep+1) _ hr4 hb
             cases hq
             exact⟨(_,_,e6),⟨rfl,rfl,hr6⟩,h4.mono2 h6 fun k hk hk'=>by simp only[hk,hk'];rfl⟩
           | exit id=>cases hq
           | ret=>cases hq
         ·simp only[hlen,if_false] at hq;cases hq
       ·simp only[hl,if_false] at hq ⊢
        cases ha:h1 l args e with
        | none=>rw[ha] at hq;cases hq
        | some q =>
         obtain⟨y,e3⟩:=q
         rw[ha] at hq;cases hq
         obtain⟨e4,hr4,h4⟩:=hh l args _ _ hre _ _ ha
         exact⟨(_,_,e4),⟨rfl,rfl,hr4⟩,h4.mono fun k hk=>by rw[hk]⟩) (dep+1) (qfh g) (qcc g [.yld dep] cap) (s0,none,e1) (s0,none,e2) ⟨rfl,rfl,he⟩ r obs _ hq
     simp only at hr
     obtain⟨h01,h02,hre⟩:=hr
     subst h01;subst h02
     exact⟨e2',hre,h2'.mono fun k hk=>by simp only at hk;rw[hk]⟩
   | _=>cases h
 | exit id=>intro E1 E2 RE h1 h2 hh dep st e1 e2 he x st' e1' h;cases h;exact⟨e2,he,.of fun _=>rfl⟩
 | norm g=>intro E1 E2 RE h1 h2 hh dep st e1 e2 he x st' e1' h;cases h;exact⟨e2,he,.of fun _=>rfl⟩
 | scope b ih =>
  intro E1 E2 RE h1 h2 hh dep st e1 e2 he x st' e1' h
  simp only[qbt] at h ⊢
  cases hq:qbt M1 f1 b h1 dep st e1 with
  | none=>rw[hq] at h;cases h
  | some p =>
   obtain⟨y,s,e⟩:=p
   rw[hq] at h
   obtain⟨e2',hr,h2'⟩:=ih hh dep st he hq
   cases y with
   | normal=>cases h;exact⟨e2',hr,h2'.mono fun k hk=>by rw[hk]⟩
   | ret=>cases h;exact⟨e2',hr,h2'.mono fun k hk=>by rw[hk]⟩
   | exit id' =>
    simp only at h ⊢
    split at h<;>rename_i hid
    ·cases h;exact⟨e2',hr,h2'.mono fun k hk=>by rw[hk];simp only[hid,if_true]⟩
    ·cases h
 | ret=>intro E1 E2 RE h1 h2 hh dep st e1 e2 he x st' e1' h;cases h;exact⟨e2,he,.of fun _=>rfl⟩
 | dreg=>intro E1 E2 RE h1 h2 hh dep st e1 e2 he x st' e1' h;cases h
 | bad=>intro E1 E2 RE h1 h2 hh dep st e1 e2 he x st' e1' h;cases h
theorem Evl.shift {P:Nat→Prop} (h:Evl P):Evl fun k=>∃ j,k=j+1∧P j:=by
 obtain⟨a,ha⟩:=h;exact⟨a+1,fun k hk=>⟨k - 1,by omega,ha _ (by omega)⟩⟩
theorem HRel.shift {E1 E2:Type} {RE:E1→E2→Prop} {h1:qbg E1} {h2:Nat→qbg E2} (hh:HRel RE h1 h2):HRel RE h1 fun k=>h2 (k+1):=by
 intro l args e1 e2 he b e1' h
 obtain⟨e2',hr,a,ha⟩:=hh l args e1 e2 he b e1' h
 exact⟨e2',hr,a,fun k hk=>ha _ (by omega)⟩
theorem Qci {M1:qfk} {M2:Nat→qfk} (hM:MLe M1 M2) (n:Nat) (tab:FuncId→Option RFn):CallLe (qpm M1 n tab) (fun k=>qpm (M2 k) k tab):=by
 intro E1 E2 RE h1 h2 hh dep g args e1 e2 he r obs e1' h
 simp only[qpm] at h ⊢
 cases ht:tab g with
 | none=>rw[ht] at h;cases h
 | some fn =>
  rw[ht] at h
  simp only at h ⊢
  cases hq:qbt M1 n fn.code h1 dep {tmps:=args++List.replicate (fn.nt - args.length) .undef,objs:=List.replicate fn.nt [],keep:=[]} e1 with
  | none=>rw[hq] at h;cases h
  | some p =>
   obtain⟨x,s,e⟩:=p
   rw[hq] at h
   obtain⟨e2',hr,h2'⟩:=qy4 hM fn.code hh dep _ he hq
   cases x with
   | exit id=>cases h
   | normal =>
    simp only at h
    cases h3:qmz s fn.res with
    | none=>rw[h3] at h;cases h
    | some vs =>
     rw[h3] at h
     simp only at h
     cases h4:qkj fn.shut s (qqw vs) with
     | none=>rw[h4] at h;cases h
     | some q =>
      obtain⟨v,obs'⟩:=q;rw[h4] at h;cases h
      exact⟨e2',hr,h2'.mono fun k hk=>by simp only[hk,h3,h4]⟩
   | ret =>
    simp only at h
    cases h3:qmz s fn.res with
    | none=>rw[h3] at h;cases h
    | some vs =>
     rw[h3] at h
     simp only at h
     cases h4:qkj fn.shut s (qqw vs) with
     | none=>rw[h4] at h;cases h
     | some q =>
      obtain⟨v,obs'⟩:=q;rw[h4] at h;cases h
      exact⟨e2',hr,h2'.mono fun k hk=>by simp only[hk,h3,h4]⟩
theorem liftD_some {r:Option (Ex×St×Unit)} {x:Ex} {st:St} {l:List Nat} (h:qq1 r=some (x,st,l)):r=some (x,st,())∧l=[]:=by
 unfold qq1 at h
 split at h
 ·cases h;exact⟨rfl,rfl⟩
 ·cases h
theorem evalD_par {M1:qfk} {M2:Nat→qfk} (hM:MLe M1 M2) {n nt:Nat}:∀ (c:qc6) (st:St) {x:Ex} {st':St} {l:List Nat},qcn M1 n nt c st=some (x,st',l)→Evl fun k=>qcn (M2 k) k nt c st=some (x,st',l):=by
 have leaf:∀ (c:qc6) (st:St) {x:Ex} {st':St} {l:List Nat},qq1 (qbt M1 n c qbc 0 st ())=some (x,st',l)→Evl fun k=>qq1 (qbt (M2 k) k c qbc 0 st ())=some (x,st',l):=by
  intro c st x st' l h
  obtain⟨h1,rfl⟩:=liftD_some h
  obtain⟨e2',_,h2'⟩:=qy4 (RE:=fun (_ _:Unit)=>True) (h1:=qbc) (h2:=fun _=>qbc) hM c (fun _ _ _ _ _ _ _ h=>by cases h) 0 _ (e1:=()) (e2:=()) trivial h1
  exact h2'.mono fun k hk=>by rw[hk];rfl
 intro c
 induction c with
 | dreg ops f args live =>
  intro st x st' l h
  simp only[qcn] at h ⊢
  cases hq:qhe M1 qbc 0 ops ops (qk8 (qre ops) st) () with
  | none=>rw[hq] at h;cases h
  | some p =>
   obtain⟨s,u⟩:=p
   rw[hq] at h
   obtain⟨e2',_,h2'⟩:=Qba (RE:=fun (_ _:Unit)=>True) (h1:=qbc) (h2:=fun _=>qbc) hM (fun _ _ _ _ _ _ _ h=>by cases h) 0 ops ops _ (e1:=()) (e2:=()) trivial hq
   exact h2'.mono fun k hk=>by rw[hk];exact h
 | seq a b iha ihb =>
  intro st x st' l h
  simp only[qcn] at h ⊢
  cases hq:qcn M1 n nt a st with
  | none=>rw[hq] at h;cases h
  | some p =>
   obtain⟨y,s,l1⟩:=p
   rw[hq] at h
   have h1:=iha _ hq
   cases y with
   | normal =>
    simp only at h
    cases hb:qcn M1 n nt b s with
    | none=>rw[hb] at h;cases h
    | some q =>
     obtain⟨z,s2,l2⟩:=q
     rw[hb] at h
     exact h1.mono2 (ihb _ hb) fun k g1 g2=>by rw[g1];simp only;rw[g2];exact h
   | exit id=>exact h1.mono fun k g1=>by rw[g1];exact h
   | ret=>exact h1.mono fun k g1=>by rw[g1];exact h
 | cond c a b iha ihb =>
  intro st x st' l h
  simp only[qcn] at h ⊢
  split at h
  ·exact iha _ h
  ·exact ihb _ h
  ·cases h
 | block id b ih =>
  intro st x st' l h
  simp only[qcn] at h ⊢
  cases hq:qcn M1 n nt b st with
  | none=>rw[hq] at h;cases h
  | some p =>
   rw[hq] at h
   exact (ih _ hq).mono fun k g=>by rw[g];exact h
 | scope b ih =>
  intro st x st' l h
  simp only[qcn] at h ⊢
  split at h
  ·cases h
  rename_i hl
  simp only[hl,Bool.false_eq_true,if_false]
  cases hq:qcn M1 n nt b st with
  | none=>rw[hq] at h;cases h
  | some p =>
   rw[hq] at h
   exact (ih _ hq).mono fun k g=>by rw[g];exact h
 | skip=>intro st x st' l h;exact leaf _ st h
 | region ops d lv=>intro st x st' l h;exact leaf _ st h
 | loop a g b _=>intro st x st' l h;exact leaf _ st h
 | rangeFunc f ps a b _ _=>intro st x st' l h;exact leaf _ st h
 | exit id=>intro st x st' l h;exact leaf _ st h
 | ret=>intro st x st' l h;exact leaf _ st h
 | norm g=>intro st x st' l h;exact leaf _ st h
 | bad=>intro st x st' l h;exact leaf _ st h
theorem Qn3 {M1:qfk} {M2:Nat→qfk} (hM:MLe M1 M2) {nt:Nat}:∀ (l:List Nat) (st:St) {st':St},Qn4 M1 nt l st=some st'→Evl fun k=>Qn4 (M2 k) nt l st=some st':=by
 intro l
 induction l with
 | nil=>intro st st' h;exact .of fun _=>h
 | cons n l ih =>
  intro st st' h
  unfold Qn4 at h ⊢
  split at h
  case h_2=>cases h
  rename_i f cap hf
  split at h
  ·cases h
  rename_i hsp
  split at h
  case isFalse=>cases h
  rename_i hfl
  split at h
  case h_2=>cases h
  rename_i out hout
  unfold chk at h
  split at h
  case isFalse=>cases h
  rename_i hn
  refine (hM.io _ _ _ _ _ hout).mono2 (ih _ h) fun k g1 g2=>?_
  rw[←hM.sp k,hsp,←hM.isIo k,←hM.flat k]
  simp only[hfl,if_true,g1,chk,hn]
  exact g2
theorem ioRaw_par {M1:qfk} {M2:Nat→qfk} (hM:MLe M1 M2) (n:Nat) (fn:RFn) (ins:List Ob) (vs:List PV) {r:St×PV} (h:qtq M1 n fn ins vs=some r):Evl fun k=>qtq (M2 k) k fn ins vs=some r:=by
 unfold qtq at h ⊢
 cases hd:noD fn.code with
 | true =>
  simp only[hd,if_true] at h ⊢
  cases hq:qbt M1 n fn.code qbc 0 (ioSt fn.gone fn.nt ins vs) () with
  | none=>rw[hq] at h;cases h
  | some p =>
   obtain⟨x,s,e⟩:=p
   rw[hq] at h
   obtain⟨e2',_,h2'⟩:=qy4 (RE:=fun (_ _:Unit)=>True) (h1:=qbc) (h2:=fun _=>qbc) hM fn.code (fun _ _ _ _ _ _ _ h=>by cases h) 0 _ (e1:=()) (e2:=()) trivial hq
   refine h2'.mono fun k hk=>?_
   rw[hk]
   exact h
 | false =>
  simp only[hd,Bool.false_eq_true,if_false] at h ⊢
  cases hq:qcn M1 n fn.nt fn.code (ioSt fn.gone fn.nt ins vs) with
  | none=>rw[hq] at h;cases h
  | some p =>
   obtain⟨x,s,l⟩:=p
   rw[hq] at h
   have h1:=evalD_par hM fn.code _ hq
   cases x with
   | exit id=>cases h
   | normal =>
    simp only at h
    cases hq2:Qn4 M1 fn.nt l s with
    | none=>rw[hq2] at h;cases h
    | some s2 =>
     rw[hq2] at h
     exact h1.mono2 (Qn3 hM l s hq2) fun k g1 g2=>by rw[g1];simp only;rw[g2];exact h
   | ret =>
    simp only at h
    cases hq2:Qn4 M1 fn.nt l s with
    | none=>rw[hq2] at h;cases h
    | some s2 =>
     rw[hq2] at h
     exact h1.mono2 (Qn3 hM l s hq2) fun k g1 g2=>by rw[g1];simp only;rw[g2];exact h
theorem Qnk {M1:qfk} {M2:Nat→qfk} (hM:MLe M1 M2) (n:Nat) (tab:FuncId→Option RFn) (g:FuncId) (dst:Nat) (σ:Nm→Option Ob) (vs:List PV) (out:Out) (h:Qjz M1 n tab g dst σ vs=some out) :
  Evl fun k=>Qjz (M2 k) k tab g dst σ vs=some out:=by
 unfold Qjz at h ⊢
 cases ht:tab g with
 | none=>rw[ht] at h;cases h
 | some fn =>
  rw[ht] at h
  simp only at h ⊢
  cases hm:(qgh (qcm σ qbn (qbm vs))).mapM σ with
  | none=>rw[hm] at h;cases h
  | some ins =>
   rw[hm] at h
   simp only at h ⊢
   unfold chk at h ⊢
   split at h
   case isFalse=>cases h
   rename_i hc
   simp only[hc,if_true]
   cases hq:qtq M1 n fn (ins.map (Ob.ren fun m=>(0,(qgh (qcm σ qbn (qbm vs))).idxOf m))) (qhy (fun m=>(0,(qgh (qcm σ qbn (qbm vs))).idxOf m)) vs) with
   | none=>rw[hq] at h;cases h
   | some p =>
    rw[hq] at h
    refine (ioRaw_par hM n fn _ _ hq).mono fun k hk=>?_
    rw[hk]
    exact h
theorem MLe.of_tail {M1:qfk} {M2:Nat→qfk} (h:MLe M1 fun k=>M2 (k+1)) (h0:M1.sp=(M2 0).sp) (h1:M1.isIo=(M2 0).isIo) (h2:M1.leans=(M2 0).leans) (h3:M1.flat=(M2 0).flat):MLe M1 M2 where
 sp k:=by cases k with | zero=>exact h0 | succ k=>exact h.sp k
 call:=by
  intro E1 E2 RE g1 g2 hh dep g args e1 e2 he r obs e1' hq
  obtain⟨e2',hr,h2⟩:=h.call E1 E2 RE g1 (fun k=>g2 (k+1)) hh.shift dep g args e1 e2 he r obs e1' hq
  exact⟨e2',hr,h2.shift.mono fun k ⟨j,hj,hp⟩=>by subst hj;exact hp⟩
 isIo k:=by cases k with | zero=>exact h1 | succ k=>exact h.isIo k
 leans k:=by cases k with | zero=>exact h2 | succ k=>exact h.leans k
 flat k:=by cases k with | zero=>exact h3 | succ k=>exact h.flat k
 io g dst σ vs out hq:=(h.io g dst σ vs out hq).shift.mono fun k ⟨j,hj,hp⟩=>by subst hj;exact hp
theorem Qd0 (sp:FuncId→(Nm→Option Ob)→List PV→Option Out) (tab:FuncId→Option RFn) (n:Nat):(qlc sp tab n).sp=sp:=by cases n<;>rfl
theorem qt1 (sp:FuncId→(Nm→Option Ob)→List PV→Option Out) (tab:FuncId→Option RFn) (n:Nat):(qlc sp tab n).isIo=qjp tab:=by cases n<;>rfl
theorem qrb (sp:FuncId→(Nm→Option Ob)→List PV→Option Out) (tab:FuncId→Option RFn) (n:Nat):(qlc sp tab n).leans=qgr tab:=by cases n<;>rfl
theorem qt2 (sp:FuncId→(Nm→Option Ob)→List PV→Option Out) (tab:FuncId→Option RFn) (n:Nat):(qlc sp tab n).flat=qlk tab:=by cases n<;>rfl
theorem Qn0 {sp:FuncId→(Nm→Option Ob)→List PV→Option Out} {tab:FuncId→Option RFn}:∀ (n:Nat),MLe (qlc sp tab n) (qlc sp tab):=by
 intro n
 induction n with
 | zero=>exact {sp:=fun k=>(by rw[Qd0,Qd0]),call:=fun E1 E2 RE h1 h2 hh dep g args e1 e2 he r obs e1' h=>(by cases h),isIo:=fun k=>(by rw[qt1,qt1]),leans:=fun k=>(by rw[qrb,qrb]),flat:=fun k=>(by rw[qt2,qt2]),io:=fun g dst σ vs out h=>(by cases h)}
 | succ n ih =>
  refine MLe.of_tail ⟨fun k=>rfl,?_,fun k=>rfl,fun k=>rfl,fun k=>rfl,fun g dst σ vs out h=>Qnk ih n tab g dst σ vs out h⟩ rfl rfl rfl rfl
  exact Qci ih n tab
theorem qt3 {sp:FuncId→(Nm→Option Ob)→List PV→Option Out} {tab:FuncId→Option RFn} (n:Nat):CallLe (qcp sp tab n) (qcp sp tab):=(Qn0 n).call
end Go.Ab


namespace Go.Ab
def qba {α β:Type} (x:Option α) (f:α→Option β):Option β :=
 match x with
 | some a=>f a
 | none=>none
def qca {β:Type} (v:PV) (a b:Option β):Option β :=
 match v with
 | .bool true=>a
 | .bool false=>b
 | _=>none
def qrk {β:Type} (v:Bool) (a b:Option β):Option β :=
 match v with
 | true=>a
 | false=>b
def qbq {β:Type} (v:Bool) (a:Option β):Option β :=
 match v with
 | true=>a
 | false=>none
mutual
def okV:PV→Bool
 | .undef | .bool _ | .int _ _ | .str _ | .nilS | .nilP | .nilF | .nilI | .nilM | .glob _ _=>true
 | .sl _ xs _=>qb3 xs | .ptr cs _=>qb3 cs | .agg cs=>qb3 cs | .iface _ x=>okV x | .fn _ cap=>qb3 cap | .tup xs=>qb3 xs | .imap es=>qb3 es
 | .yld _ | .ref _ _ | .aref _ _ _ _ | .arr _ _ _ _ | .mp _ | .it _=>false
def qb3:List PV→Bool
 | []=>true
 | x :: xs=>okV x&&qb3 xs
end
def qbb (op:ROp):Option PV :=
 match exec 0 (fun _=>none) [] op with
 | some out=>some out.v
 | none=>none
def Qkj (cs:List PV) (o:Nat):PV:=if o < cs.length then .ptr cs o else .undef
def arefO (k k':Nat) (xs:List PV) (i o:Nat):PV:=if k=k' then (match xs[i]? with | some x=>if o < x.cells.length then .ptr x.cells o else .undef | none=>.undef) else .undef
def slO (k k':Nat) (xs:List PV) (o n:Nat):PV:=if k=k'∧o+n≤xs.length then .sl k ((xs.drop o).take n) false else .undef
def qbf (v:PV) (i:Nat):PV:=v.cells.getD i .undef
def qbi (v:PV) (n:Nat):Bool:=v.isVal&&v.cells.length==n
def qb2 (v:PV) (o n:Nat) (ag:Bool):Option PV:=sel v.cells o n ag
def elemO (xs:List PV) (i o n:Nat) (ag:Bool):Option PV :=
 match xs[i]? with
 | some e=>sel e.cells o n ag
 | none=>none
def setO (k:Nat) (xs:List PV) (i o n:Nat) (v:PV):Option (List PV) :=
 match xs[i]? with
 | some (.agg es)=>qbq (v.isVal&&decide (v.cells.length=n)&&decide (o+n≤es.length)) (some (xs.set i (.agg (splice es o v.cells))))
 | some _=>qbq (k==1&&o==0&&n==1&&v.isCell) (some (xs.set i v))
 | none=>none
def natO (v:PV):Option Nat:=qnk v
def Qjl (x:Option PV) (d top:Nat):Option Nat:=qk9 x d top
def qsp (k:Nat) (v:PV):Option (List PV):=elems (fun _=>none) k v
def appO (k:Nat) (v:PV) (ys:List PV):Option (List PV) :=
 match v with
 | .nilS=>qbq (decide (ys.length≤qhl)) (some ys)
 | .sl k' xs true=>match ys with
  | []=>none
  | y :: ys=>qbq (k==k'&&decide (xs.length+(ys.length+1)≤qhl)) (some (xs++y :: ys))
 | _=>none
def insO (c:TC) (es:List PV) (k v:PV):Option (List PV) :=
 match setE k v es with
 | some es'=>qbq (qtp c k&&v.isVal) (some es')
 | none=>none
def lookO (c:TC) (z:PV) (ok:Bool) (es:List PV) (k:PV):Option PV :=
 match qm5 k es with
 | none=>none
 | some r=>qbq (qtp c k) (some (if ok then .tup [r.getD z,.bool r.isSome] else r.getD z))
def mkSO (l c:PV):Option Nat :=
 match qnk l,qnk c with
 | some l,some c=>qbq (decide (l≤c)&&decide (c≤qhl)) (some l)
 | _,_=>none
def strO (v:PV):Option (List UInt8) :=
 match v with
 | .str s=>some s
 | _=>none
def runeP (s:List UInt8) (pos:Nat):PV:=.int .i32 (Utf8.decode ⟨s.toArray⟩ pos).1
def runeN (s:List UInt8) (pos:Nat):Nat:=(Utf8.decode ⟨s.toArray⟩ pos).2
def asP {β:Type} (e:TypeId) (v:PV) (f:PV→Option β) (g:Option β):Option β :=
 match v with
 | .nilI=>g
 | .iface t x=>if t=e then f x else none
 | _=>none
def notNil {β:Type} (v:PV) (a:Option β):Option β :=
 match v with
 | .nilS=>none
 | _=>a
def Qkt {β:Type} (v:PV) (a:Option β):Option β :=
 match v with
 | .nilS=>a
 | _=>none
def nilB {β:Type} (v:PV) (a b:Option β):Option β :=
 match v with
 | .nilS=>a
 | _=>b
def Qc3 (v:PV) (i:Nat):Bool :=
 match v.cells[i]? with
 | some .nilS=>false
 | _=>true
def nth (vs:List PV) (i:Nat):PV:=vs.getD i .undef
def qbz (v:PV):Nat :=
 match v with
 | .int _ n=>n.toNat
 | _=>0
def qbl (v:PV):List PV :=
 match v with
 | .sl _ xs _=>xs
 | _=>[]
def Qls (v:PV):List PV :=
 match v with
 | .imap es=>es
 | _=>[]
def strP (v:PV):List UInt8 :=
 match v with
 | .str s=>s
 | _=>[]
def prjP (v:PV) (i:Nat):PV :=
 match v with
 | .tup xs=>xs.getD i .undef
 | .agg xs=>xs.getD i .undef
 | _=>.undef
def qdu (a b:Nat):Nat:=a+b
def subN (a b:Nat):Nat:=a - b
def minN (a b:Nat):Nat:=min a b
def leN (a b:Nat):Bool:=Nat.ble a b
def ltN (a b:Nat):Bool:=Nat.blt a b
def eqN (a b:Nat):Bool:=Nat.beq a b
def eqOff (a b:Nat):Bool:=Nat.beq a b
def halfN (a:Nat):Nat:=a / 2
def qnj (a b:Bool):Bool:=a&&b
def nI (n:Nat):PV:=.int .i64 (n:Int)
def qbu (l:List PV):Nat:=l.length
def qb1 (n:Nat) (l:List PV):List PV:=l.take n
def qcx (n:Nat) (l:List PV):List PV:=l.drop n
def qpk (l l':List PV):List PV:=l++l'
def replL (n:Nat) (v:PV):List PV:=List.replicate n v
def lenS (s:List UInt8):Nat:=s.length
def qfu (v:PV):List PV:=v.cells
def qh1 (l:List PV) (n:Nat):Bool:=l.length==n&&qb3 l
def qc7 (k:Nat) (l:List PV):Bool:=l.all fun x=>x.isVal&&x.cells.length==k
def okSto (u w:PV) (o n:Nat):Bool:=u.isVal&&decide (u.cells.length=n)&&decide (o+n≤w.cells.length)
def stoP (u w:PV) (o:Nat):PV:=.agg (splice w.cells o u.cells)
def qj4 (p:Option Ex):Bool :=
 match p with
 | none=>true
 | _=>false
def qni (p:Option Ex):Bool :=
 match p with
 | some .ret=>true
 | _=>false
def isExitE (p:Option Ex) (id:Nat):Bool :=
 match p with
 | some (.exit id')=>Nat.beq id' id
 | _=>false
def qjc (v:PV):Bool:=v.isVal
def okU (v:PV):Bool:=okV v
def qb9 (vs:List PV):Bool:=vs.all fun v=>!qg4 v
def noYL (vs:List PV):Bool:=!qdi vs
def Qhc (k:IntKind) (v:PV):Bool :=
 match v with
 | .int k' _=>decide (k'=k)
 | _=>false
def isIntV (k:IntKind) (x:Int) (v:PV):Bool :=
 match v with
 | .int k' z=>decide (k'=k)&&decide (z=x)
 | _=>false
open Classical in
noncomputable def lim {α:Type} (f:Nat→Option α):Option α:=if h:∃ a,Evl fun n=>f n=some a then some h.choose else none
theorem qr7 {α:Type} {f:Nat→Option α} {a:α} (h:lim f=some a):Evl fun n=>f n=some a:=by
 unfold lim at h
 split at h
 ·rename_i hx
  have:=hx.choose_spec
  cases h;exact this
 ·cases h
theorem Evl.unique {α:Type} {f:Nat→Option α} {a b:α} (h:Evl fun n=>f n=some a) (h':Evl fun n=>f n=some b):a=b:=by
 obtain⟨m,hm⟩:=h.and h'
 have:=hm m (Nat.le_refl _)
 exact Option.some.inj (this.1.symm.trans this.2)
theorem qvo {α:Type} {f:Nat→Option α} {a:α} (h:Evl fun n=>f n=some a):lim f=some a:=by
 unfold lim
 have hx:∃ a,Evl fun n=>f n=some a:=⟨a,h⟩
 rw[dif_pos hx]
 exact congrArg some (Evl.unique hx.choose_spec h)
def repS {σ ρ:Type} (step:σ→Option (Sum σ ρ)):Nat→σ→Option ρ
 | 0,_=>none
 | n+1,s=>qvl (repS step n) some (step s)
noncomputable def qf0 {σ ρ:Type} (step:σ→Option (Sum σ ρ)) (s:σ):Option ρ:=lim fun n=>repS step n s
theorem repS_mono {σ ρ:Type} {step:σ→Option (Sum σ ρ)}:∀ {n m:Nat} {s:σ} {r:ρ},n≤m→repS step n s=some r→repS step m s=some r:=by
 intro n
 induction n with
 | zero=>intro m s r _ h;cases h
 | succ n ih =>
  intro m s r hm h
  obtain⟨m,rfl⟩:∃ k,m=k+1:=⟨m - 1,by omega⟩
  unfold repS at h ⊢
  revert h
  rcases step s with _ | (s1 | r1)<;>intro h
  ·exact h
  ·exact ih (by omega) h
  ·exact h
theorem qpx {σ ρ:Type} {step:σ→Option (Sum σ ρ)} {s:σ} {r:ρ} (h:qf0 step s=some r):∃ n,repS step n s=some r:=by
 obtain⟨m,hm⟩:=qr7 h
 exact⟨m,hm m (Nat.le_refl _)⟩
theorem Qc9 {σ ρ:Type} {step:σ→Option (Sum σ ρ)} {s:σ} {r:ρ} {n:Nat} (h:repS step n s=some r):qf0 step s=some r :=
 qvo ⟨n,fun _ hk=>repS_mono hk h⟩
theorem Qm6 {σ ρ:Type} (step:σ→Option (Sum σ ρ)) (s:σ):qf0 step s=qvl (qf0 step) some (step s):=by
 cases hs:step s with
 | none =>
  cases hl:qf0 step s with
  | none=>rfl
  | some r =>
   obtain⟨n,hn⟩:=qpx hl
   cases n with
   | zero=>cases hn
   | succ n=>unfold repS at hn;rw[hs] at hn;cases hn
 | some q =>
  cases q with
  | inl s1 =>
   show qf0 step s=qf0 step s1
   cases hl:qf0 step s with
   | some r =>
    obtain⟨n,hn⟩:=qpx hl
    cases n with
    | zero=>cases hn
    | succ n=>unfold repS at hn;rw[hs] at hn;exact (Qc9 hn).symm
   | none =>
    cases hl1:qf0 step s1 with
    | none=>rfl
    | some r =>
     obtain⟨n,hn⟩:=qpx hl1
     have:qf0 step s=some r:=Qc9 (n:=n+1) (by unfold repS;rw[hs];exact hn)
     rw[hl] at this;cases this
  | inr r=>exact Qc9 (n:=1) (by unfold repS;rw[hs];rfl)
theorem qdg {σ ρ:Type} {step:σ→Option (Sum σ ρ)} {s s':σ} (h:step s=some (.inl s')):qf0 step s=qf0 step s':=by
 rw[Qm6,h];rfl
theorem qch {σ ρ:Type} {step:σ→Option (Sum σ ρ)} {s:σ} {r:ρ} (h:step s=some (.inr r)):qf0 step s=some r:=by
 rw[Qm6,h];rfl
inductive KV where
 | un | sk
 | lit (b:Bool)
 | nils
 | cv (v:PV)
 | yld (d:Nat)
 | ref (nm:Nm) (o:Nat)
 | aref (nm:Nm) (k i o:Nat)
 | arr (nm:Nm) (k o n:Nat)
 | mp (nm:Nm)
 | it (nm:Nm)
 | wit (nm:Nm)
 | agg (cs:List KV)
 | iface (t:TypeId) (x:KV)
 | fn (f:FuncId) (cap:List KV)
 | tup (xs:List KV)
 deriving Inhabited
mutual
def KV.pv:KV→PV
 | .un=>.undef | .sk=>.tup [] | .lit b=>.bool b | .nils=>.nilS | .cv v=>v | .yld d=>.yld d
 | .ref nm o=>.ref nm o | .aref nm k i o=>.aref nm k i o | .arr nm k o n=>.arr nm k o n | .mp nm=>.mp nm | .it nm=>.it nm | .wit nm=>.arr nm 1 0 0
 | .agg cs=>.agg (pvL cs) | .iface t x=>.iface t x.pv | .fn f cap=>.fn f (pvL cap) | .tup xs=>.tup (pvL xs)
def pvL:List KV→List PV
 | []=>[]
 | x :: xs=>x.pv :: pvL xs
end
mutual
def KV.names:KV→List Nm
 | .un | .sk | .lit _ | .nils | .cv _ | .yld _=>[]
 | .ref nm _=>[nm] | .aref nm _ _ _=>[nm] | .arr nm _ _ _=>[nm] | .mp nm=>[nm] | .it nm=>[nm] | .wit nm=>[nm]
 | .agg cs=>qdn cs | .iface _ x=>x.names | .fn _ cap=>qdn cap | .tup xs=>qdn xs
def qdn:List KV→List Nm
 | []=>[]
 | x :: xs=>x.names++qdn xs
end
mutual
def KV.hasY:KV→Bool
 | .yld _=>true
 | .agg cs=>qj9 cs | .iface _ x=>x.hasY | .fn _ cap=>qj9 cap | .tup xs=>qj9 xs
 | .un | .sk | .lit _ | .nils | .cv _ | .ref _ _ | .aref _ _ _ _ | .arr _ _ _ _ | .mp _ | .it _ | .wit _=>false
def qj9:List KV→Bool
 | []=>false
 | x :: xs=>x.hasY||qj9 xs
end
mutual
def KV.cl:KV→Option PV
 | .lit b=>some (.bool b) | .nils=>some .nilS | .cv v=>some v
 | .agg cs=>(clL cs).map .agg | .iface t x=>x.cl.map (.iface t) | .fn f cap=>(clL cap).map (.fn f)
 | .un | .sk | .yld _ | .ref _ _ | .aref _ _ _ _ | .arr _ _ _ _ | .mp _ | .it _ | .wit _ | .tup _=>none
def clL:List KV→Option (List PV)
 | []=>some []
 | x :: xs=>match x.cl,clL xs with
  | some v,some vs=>some (v :: vs)
  | _,_=>none
end
mutual
def KV.off (p:Nm→Bool):KV→KV
 | .ref nm o=>if p nm then .un else .ref nm o
 | .aref nm k i o=>if p nm then .un else .aref nm k i o
 | .arr nm k o n=>if p nm then .un else .arr nm k o n
 | .mp nm=>if p nm then .un else .mp nm
 | .it nm=>if p nm then .un else .it nm
 | .wit nm=>if p nm then .un else .wit nm
 | .agg cs=>.agg (offL p cs) | .iface t x=>.iface t (x.off p) | .fn f cap=>.fn f (offL p cap) | .tup xs=>.tup (offL p xs)
 | .un=>.un | .sk=>.sk | .lit b=>.lit b | .nils=>.nils | .cv v=>.cv v | .yld d=>.yld d
def offL (p:Nm→Bool):List KV→List KV
 | []=>[]
 | x :: xs=>x.off p :: offL p xs
end
mutual
def KV.ren (f:Nm→Nm):KV→KV
 | .ref nm o=>.ref (f nm) o | .aref nm k i o=>.aref (f nm) k i o | .arr nm k o n=>.arr (f nm) k o n | .mp nm=>.mp (f nm) | .it nm=>.it (f nm) | .wit nm=>.wit (f nm)
 | .agg cs=>.agg (qqa f cs) | .iface t x=>.iface t (x.ren f) | .fn g cap=>.fn g (qqa f cap) | .tup xs=>.tup (qqa f xs)
 | .un=>.un | .sk=>.sk | .lit b=>.lit b | .nils=>.nils | .cv v=>.cv v | .yld d=>.yld d
def qqa (f:Nm→Nm):List KV→List KV
 | []=>[]
 | x :: xs=>x.ren f :: qqa f xs
end
inductive KOb where
 | cells (ty:Nat) (cs:List KV)
 | whole (ty:Nat) (v:PV)
 | arr (k ty:Nat) (xs:List PV)
 | map (es:List PV)
 | siter (s:List UInt8) (pos:Nat)
 deriving Inhabited
def KOb.ob:KOb→Ob
 | .cells ty cs=>.cells ty (pvL cs)
 | .whole ty v=>.cells ty (qfu v)
 | .arr k kt xs=>.arr k kt xs
 | .map es=>.map es
 | .siter s pos=>.siter s pos
def KOb.names:KOb→List Nm
 | .cells _ cs=>qdn cs
 | _=>[]
def KOb.off (p:Nm→Bool):KOb→KOb
 | .cells ty cs=>.cells ty (offL p cs)
 | o=>o
def KOb.ren (f:Nm→Nm):KOb→KOb
 | .cells ty cs=>.cells ty (qqa f cs)
 | o=>o
abbrev Sp:=List (Nat×KV)
abbrev SpO:=List (Nat×List KOb)
def qcg:Sp→Nat→KV
 | [],_=>.un
 |(j,v) :: l,i=>match Nat.beq i j with
  | true=>v
  | false=>qcg l i
def qjj (i:Nat) (v:KV):Sp→Sp
 | []=>[(i,v)]
 |(j,u) :: l=>match Nat.beq i j with
  | true=>(i,v) :: l
  | false=>match Nat.blt i j with
   | true=>(i,v) :: (j,u) :: l
   | false=>(j,u) :: qjj i v l
def Qfq (i:Nat):Sp→Sp
 | []=>[]
 |(j,u) :: l=>match Nat.beq i j with
  | true=>Qfq i l
  | false=>(j,u) :: Qfq i l
def spSet (i:Nat) (v:KV) (l:Sp):Sp :=
 match v with
 | .un=>Qfq i l
 | v=>qjj i v l
def qlb (f:KV→KV):Sp→Sp
 | []=>[]
 |(j,u) :: l=>match f u with
  | .un=>qlb f l
  | u=>(j,u) :: qlb f l
def qkr (p:Nat→Bool):Sp→Sp
 | []=>[]
 |(j,u) :: l=>match p j with
  | true=>(j,u) :: qkr p l
  | false=>qkr p l
def qrt:Sp→Nat→Bool
 | [],_=>false
 |(j,_) :: l,i=>match Nat.beq i j with
  | true=>true
  | false=>qrt l i
def qgv:Sp→List Nm
 | []=>[]
 |(_,u) :: l=>u.names++qgv l
def qcs:SpO→Nat→List KOb
 | [],_=>[]
 |(j,v) :: l,i=>match Nat.beq i j with
  | true=>v
  | false=>qcs l i
def qmw (i:Nat) (v:List KOb):SpO→SpO
 | []=>[(i,v)]
 |(j,u) :: l=>match Nat.beq i j with
  | true=>(i,v) :: l
  | false=>match Nat.blt i j with
   | true=>(i,v) :: (j,u) :: l
   | false=>(j,u) :: qmw i v l
def qno (f:KOb→KOb):SpO→SpO
 | []=>[]
 |(j,u) :: l=>(j,u.map f) :: qno f l
def qvi (p:Nat→Bool):SpO→SpO
 | []=>[]
 |(j,u) :: l=>match p j with
  | true=>(j,u) :: qvi p l
  | false=>qvi p l
def qks:SpO→List Nm
 | []=>[]
 |(_,u) :: l=>u.flatMap KOb.names++qks l
structure KSt where
 nt:Nat
 tmps:Sp
 objs:SpO
 keep:List Sp
 deriving Inhabited
def qdk (nt:Nat) (l:Sp):List PV:=(List.range nt).map fun i=>(qcg l i).pv
def qfb (nt:Nat) (l:SpO):List (List Ob):=(List.range nt).map fun i=>(qcs l i).map KOb.ob
def KSt.st (ks:KSt):St:={tmps:=qdk ks.nt ks.tmps,objs:=qfb ks.nt ks.objs,keep:=ks.keep.flatMap (qdk ks.nt)}
def qc1 (σ:SpO) (nm:Nm):Option KOb:=(qcs σ nm.1)[nm.2]?
def kput (σ:SpO) (nm:Nm) (o:KOb):SpO :=
 match qc1 σ nm with
 | some _=>qmw nm.1 ((qcs σ nm.1).set nm.2 o) σ
 | none=>σ
def ql8 (σ:Nm→Option KOb):Nat→List Nm→List Nm
 | 0,l=>l
 | d+1,l=>l++ql8 σ d (l.flatMap fun nm=>((σ nm).map KOb.names).getD [])
def Qgx (σ:Nm→Option KOb) (R:List Nm):Bool:=R.all fun nm=>(((σ nm).map KOb.names).getD []).all fun m=>R.contains m
mutual
def KV.close (g:Nm→Option Ob):KV→PV
 | .ref nm o=>match g nm with
  | some (.cells _ cs)=>Qkj cs o
  | _=>.undef
 | .aref nm k i o=>match g nm with
  | some (.arr k' kt xs)=>arefO k k' xs i o
  | _=>.undef
 | .arr nm k o n=>match g nm with
  | some (.arr k' kt xs)=>slO k k' xs o n
  | _=>.undef
 | .mp nm=>match g nm with
  | some (.map es)=>.imap es
  | _=>.undef
 | .it _=>.undef
 | .wit nm=>match g nm with
  | some (.arr k' kt xs)=>slO 1 k' xs 0 0
  | _=>.undef
 | .agg cs=>.agg (qk7 g cs) | .iface t x=>.iface t (x.close g) | .fn f cap=>.fn f (qk7 g cap) | .tup xs=>.tup (qk7 g xs)
 | .un=>.undef | .sk=>.tup [] | .lit b=>.bool b | .nils=>.nilS | .cv v=>v | .yld d=>.yld d
def qk7 (g:Nm→Option Ob):List KV→List PV
 | []=>[]
 | x :: xs=>x.close g :: qk7 g xs
end
def KOb.close (g:Nm→Option Ob):KOb→Ob
 | .cells ty cs=>.cells ty (qk7 g cs)
 | o=>o.ob
def qdo (σ:Nm→Option KOb):Nat→Nm→Option Ob
 | 0,nm=>(σ nm).map (KOb.close fun _=>none)
 | d+1,nm=>(σ nm).map (KOb.close (qdo σ d))
mutual
def KV.frz (p:Nm→Bool) (g:Nm→Option Ob):KV→KV
 | .ref nm o=>if p nm then .cv ((KV.ref nm o).close g) else .ref nm o
 | .aref nm k i o=>if p nm then .cv ((KV.aref nm k i o).close g) else .aref nm k i o
 | .arr nm k o n=>if p nm then .cv ((KV.arr nm k o n).close g) else .arr nm k o n
 | .mp nm=>if p nm then .cv ((KV.mp nm).close g) else .mp nm
 | .it nm=>if p nm then .un else .it nm
 | .wit nm=>if p nm then .cv ((KV.wit nm).close g) else .wit nm
 | .agg cs=>.agg (frzL p g cs) | .iface t x=>.iface t (x.frz p g) | .fn f cap=>.fn f (frzL p g cap) | .tup xs=>.tup (frzL p g xs)
 | .un=>.un | .sk=>.sk | .lit b=>.lit b | .nils=>.nils | .cv v=>.cv v | .yld d=>.yld d
def frzL (p:Nm→Bool) (g:Nm→Option Ob):List KV→List KV
 | []=>[]
 | x :: xs=>x.frz p g :: frzL p g xs
end
def KOb.frz (p:Nm→Bool) (g:Nm→Option Ob):KOb→KOb
 | .cells ty cs=>.cells ty (frzL p g cs)
 | o=>o
def qsc:KOb:=.arr 0 0 []
def Qbs (p:Nm→Bool) (ks:KSt):KSt:={ks with tmps:=qlb (KV.off p) ks.tmps,objs:=qno (KOb.off p) ks.objs,keep:=ks.keep.map (qlb (KV.off p))}
def Qdk (σ:Nm→Option KOb) (R:List Nm) (ks:KSt):KSt :=
 let p:=fun m=>R.contains m
 let g:=qdo σ qbn
 {ks with tmps:=qlb (KV.frz p g) ks.tmps,objs:=R.foldl (fun objs nm=>kput objs nm qsc) (qno (KOb.frz p g) ks.objs),keep:=ks.keep.map (qlb (KV.frz p g))}
mutual
def qvx {R:Type}:KV→(KV→R)→R
 | .un,K=>K .un | .sk,K=>K .sk | .lit b,K=>(match b with | true=>K (.lit true) | false=>K (.lit false)) | .nils,K=>K .nils | .cv v,K=>K (.cv v) | .yld d,K=>K (.yld d)
 | .ref nm o,K=>(match nm with | (a,b)=>K (.ref (a,b) o)) | .aref nm k i o,K=>(match nm with | (a,b)=>K (.aref (a,b) k i o)) | .arr nm k o n,K=>(match nm with | (a,b)=>K (.arr (a,b) k o n))
 | .mp nm,K=>(match nm with | (a,b)=>K (.mp (a,b))) | .it nm,K=>(match nm with | (a,b)=>K (.it (a,b))) | .wit nm,K=>(match nm with | (a,b)=>K (.wit (a,b)))
 | .agg cs,K=>qyo cs fun cs=>K (.agg cs) | .iface t x,K=>qvx x fun x=>K (.iface t x) | .fn f cap,K=>qyo cap fun cap=>K (.fn f cap) | .tup xs,K=>qyo xs fun xs=>K (.tup xs)
def qyo {R:Type}:List KV→(List KV→R)→R
 | [],K=>K []
 | x :: xs,K=>qvx x fun x=>qyo xs fun xs=>K (x :: xs)
end
def Qli {R:Type}:KOb→(KOb→R)→R
 | .cells ty cs,K=>qyo cs fun cs=>K (.cells ty cs)
 | .whole ty v,K=>K (.whole ty v) | .arr k kt xs,K=>K (.arr k kt xs) | .map es,K=>K (.map es) | .siter s pos,K=>K (.siter s pos)
def qwt {R:Type}:List KOb→(List KOb→R)→R
 | [],K=>K []
 | x :: xs,K=>Qli x fun x=>qwt xs fun xs=>K (x :: xs)
def qym {R:Type}:Sp→(Sp→R)→R
 | [],K=>K []
 |(j,x) :: xs,K=>qvx x fun x=>qym xs fun xs=>K ((j,x) :: xs)
def Qds {R:Type}:SpO→(SpO→R)→R
 | [],K=>K []
 |(j,x) :: xs,K=>qwt x fun x=>Qds xs fun xs=>K ((j,x) :: xs)
def Qdt {R:Type}:List Sp→(List Sp→R)→R
 | [],K=>K []
 | x :: xs,K=>qym x fun x=>Qdt xs fun xs=>K (x :: xs)
def qh5 {R:Type} (ks:KSt) (K:KSt→R):R :=
 match ks with
 | ⟨nt,tmps,objs,keep⟩=>qym tmps fun a=>Qds objs fun b=>Qdt keep fun c=>K {nt,tmps:=a,objs:=b,keep:=c}
def cstK (v:PV):KV :=
 match v with
 | .bool b=>.lit b
 | .nilS=>.nils
 | .fn f []=>.fn f []
 | v=>.cv v
def RX.kv (tm:Sp):RX→KV
 | .t i=>qcg tm i
 | .c v=>cstK v
def okX:RX→Bool
 | .t _=>true
 | .c v=>okV v
def ROp.mapX (g:RX→RX):ROp→ROp
 | .mov x=>.mov (g x) | .pick c a b=>.pick (g c) (g a) (g b) | .box x=>.box (g x) | .alloc ty z=>.alloc ty z
 | .build z ps=>.build z (ps.map fun p=>(p.1,p.2.1,g p.2.2)) | .mkSl k ps=>.mkSl k (ps.map g) | .load n ag x=>.load n ag (g x) | .store n x v=>.store n (g x) (g v)
 | .nilck x=>.nilck (g x) | .bin op c cst x y=>.bin op c cst (g x) (g y) | .un op x=>.un op (g x) | .conv k x=>.conv k (g x) | .toBytes x=>.toBytes (g x) | .ofBytes x=>.ofBytes (g x)
 | .ofRune x=>.ofRune (g x) | .strId x=>.strId (g x) | .mkI t x=>.mkI t (g x) | .mkF f cap=>.mkF f (cap.map g) | .mkMap=>.mkMap | .insert c x k v=>.insert c (g x) (g k) (g v)
 | .lookup c z ok x k=>.lookup c z ok (g x) (g k) | .mkS k z l c=>.mkS k z (g l) (g c) | .slice k x lo hi mx=>.slice k (g x) (lo.map g) (hi.map g) (mx.map g) | .strSlice x lo hi=>.strSlice (g x) (lo.map g) (hi.map g)
 | .fieldAddr off x=>.fieldAddr off (g x) | .field off n ag x=>.field off n ag (g x) | .idxAddr k x i=>.idxAddr k (g x) (g i) | .idxAddrA k l x i=>.idxAddrA k l (g x) (g i) | .strIdx x i=>.strIdx (g x) (g i)
 | .extract j x=>.extract j (g x) | .len c x=>.len c (g x) | .append k ty s x=>.append k ty (g s) (g x) | .copy k d s=>.copy k (g d) (g s) | .minmax mx xs=>.minmax mx (xs.map g) | .call f args=>.call (g f) (args.map g)
 | .iter x=>.iter (g x) | .next x=>.next (g x) | .tassert t z ok x=>.tassert t z ok (g x) | .bad=>.bad
def instX (tm:Sp) (x:RX):RX:=.c (((x.kv tm).cl).getD .undef)
structure qb8 where
 v:KV
 new:List KOb:=[]
 upd:Option (Nm×KOb):=none
 kill:Option Nm:=none
 frz:List Nm:=[]
 gone:List Nm:=[]
 ups:List (Nm×KOb):=[]
 io:Bool:=false
 slot:Option Nat:=none
def isG:ROp→Bool
 | .build _ _ | .load _ _ _ | .nilck _ | .bin _ _ _ _ _ | .un _ _ | .conv _ _ | .toBytes _ | .ofBytes _ | .ofRune _ | .strId _ | .lookup _ _ _ _ _ | .slice _ _ _ _ _ | .strSlice _ _ _
 | .fieldAddr _ _ | .field _ _ _ _ | .idxAddr _ _ _ | .idxAddrA _ _ _ _ | .strIdx _ _ | .extract _ _ | .len _ _ | .minmax _ _ | .tassert _ _ _ _=>true
 | _=>false
def okOp:ROp→Bool
 | .build z _=>qb3 z
 | .lookup _ z _ _ _=>okV z
 | .tassert _ z _ _=>okV z
 | _=>true
def gO {R:Type} (tm:Sp) (op:ROp) (K:qb8→Option R):Option R :=
 if (isG op&&okOp op&&op.xs.all fun x=>((x.kv tm).cl).isSome) then qba (qbb (op.mapX (instX tm))) fun z=>K {v:=.cv z} else none
def Qpa {R:Type} (n:Nat) (x:KV) (K:List KV→Option R):Option R :=
 match x with
 | .agg cs=>if cs.length=n then K cs else none
 | .cv v=>qbq (qbi v n) (K ((List.range n).map fun i=>.cv (qbf v i)))
 | .un | .sk | .tup _=>none
 | y=>if n=1 then K [y] else none
def kfill {R:Type} (tm:Sp):List KV→List (Nat×Nat×RX)→(List KV→Option R)→Option R
 | z,[],K=>K z
 | z,(off,n,x) :: ps,K=>Qpa n (x.kv tm) fun cs=>if off+n≤z.length then kfill tm (z.take off++cs++z.drop (off+n)) ps K else none
def Qh3 {R:Type} (σ:Nm→Option KOb) (k:Nat) (x:KV) (K:List PV→Option R):Option R :=
 match x with
 | .arr nm k' o n=>match σ nm with
  | some (.arr k'' kt xs)=>if k=k'∧k'=k'' then qbq (leN (qdu o n) (qbu xs)) (K (qb1 n (qcx o xs))) else none
  | _=>none
 | x=>match x.cl with
  | some v=>qba (qsp k v) K
  | none=>none
def qhr {R:Type} (d:Nat) (σ:Nm→Option KOb) (tm:Sp) (op:ROp) (K:qb8→Option R):Option R :=
 match op with
 | .mov x=>K {v:=x.kv tm}
 | .pick c a b=>match c.kv tm with
  | .lit true=>K {v:=a.kv tm}
  | .lit false=>K {v:=b.kv tm}
  | .cv v=>qca v (K {v:=a.kv tm}) (K {v:=b.kv tm})
  | _=>none
 | .box x=>match x.kv tm with
  | .cv v=>qbq (qjc v) (K {v:=.ref (d,0) 0,new:=[.whole 0 v]})
  | .agg cs=>K {v:=.ref (d,0) 0,new:=[.cells 0 cs]}
  | .un | .sk | .tup _=>none
  | y=>K {v:=.ref (d,0) 0,new:=[.cells 0 [y]]}
 | .alloc ty z=>if qb3 z then K {v:=.ref (d,0) 0,new:=[.cells ty (z.map cstK)]} else none
 | .build z ps =>
  if !ps.isEmpty&&((ps.all fun p=>((p.2.2.kv tm).cl).isSome)&&Nat.ble z.length 6) then gO tm (.build z ps) K
  else if qb3 z then kfill tm (z.map cstK) ps fun cs=>K {v:=.agg cs} else none
 | .mkSl k ps =>
  let xs:=ps.map (RX.kv tm)
  match clL xs with
  | some vs=>qbq (qc7 k vs) (K {v:=.arr (d,0) k 0 (qbu vs),new:=[.arr k 0 vs]})
  | none =>
   let R:=ql8 σ qbn (qdn xs)
   if (qdn xs).isEmpty then none
   else if Qgx σ R∧qj9 xs=false then
    let ys:=qk7 (qdo σ qbn) xs
    qbq (qc7 k ys) (K {v:=.arr (d,0) k 0 (qbu ys),new:=[.arr k 0 ys],frz:=R})
   else none
 | .load n ag x=>match x.kv tm with
  | .ref nm o=>match σ nm with
   | some (.cells _ cs)=>if ag then (if o+n≤cs.length then K {v:=.agg ((cs.drop o).take n)} else none) else (match cs[o]? with | some c=>K {v:=c} | none=>none)
   | some (.whole _ v)=>qba (qb2 v o n ag) fun z=>K {v:=.cv z}
   | _=>none
  | .aref nm k i o=>match σ nm with
   | some (.arr k' kt xs)=>if k=k' then qba (elemO xs i o n ag) fun z=>K {v:=.cv z} else none
   | _=>none
  | _=>gO tm op K
 | .store n x v=>match x.kv tm with
  | .ref nm o=>match σ nm with
   | some (.cells ty cs)=>Qpa n (v.kv tm) fun vs=>if o+n≤cs.length then K {v:=.un,upd:=some (nm,.cells ty (cs.take o++vs++cs.drop (o+n)))} else none
   | some (.whole ty w)=>match (v.kv tm).cl with
    | some u=>qbq (okSto u w o n) (K {v:=.un,upd:=some (nm,.whole ty (stoP u w o))})
    | none=>none
   | _=>none
  | .aref nm k i o=>match σ nm with
   | some (.arr k' kt xs)=>match (v.kv tm).cl with
    | some u=>if k=k' then qba (setO k xs i o n u) fun ys=>K {v:=.un,upd:=some (nm,.arr k kt ys)} else none
    | none=>none
   | _=>none
  | _=>none
 | .nilck x=>match x.kv tm with
  | .ref nm o=>K {v:=.ref nm o}
  | .aref nm k i o=>K {v:=.aref nm k i o}
  | .fn f cap=>K {v:=.fn f cap}
  | .yld l=>K {v:=.yld l}
  | _=>gO tm op K
 | .bin o c cst x y=>match x.kv tm,y.kv tm with
  | .ref _ _,.cv v=>match o with
   | .eql=>qrk (match c,v with | .ptr,.nilP=>true | _,_=>false) (K {v:=.lit false}) none
   | .neq=>qrk (match c,v with | .ptr,.nilP=>true | _,_=>false) (K {v:=.lit true}) none
   | _=>none
  | _,_=>gO tm op K
 | .un .not x=>match x.kv tm with
  | .lit b=>K {v:=.lit (!b)}
  | _=>gO tm op K
 | .mkI t x=>match (x.kv tm).cl with
  | some v=>K {v:=.cv (.iface t v)}
  | none=>match x.kv tm with
   | .un | .sk | .tup _ | .yld _=>none
   | y=>K {v:=.iface t y}
 | .mkF f cap=>if (cap.map (RX.kv tm)).all fun | .un | .sk | .tup _ | .yld _=>false | _=>true then K {v:=.fn f (cap.map (RX.kv tm))} else none
 | .mkMap=>K {v:=.mp (d,0),new:=[.map []]}
 | .insert c x k v=>match x.kv tm with
  | .mp nm=>match σ nm,(k.kv tm).cl,(v.kv tm).cl with
   | some (.map es),some kk,some vv=>qba (insO c es kk vv) fun es'=>K {v:=.un,upd:=some (nm,.map es')}
   | some (.map es),some kk,none =>
    let R:=ql8 σ qbn (qdn [v.kv tm])
    if (qdn [v.kv tm]).isEmpty then none
    else if Qgx σ R∧qj9 [v.kv tm]=false∧R.contains nm=false then
     qba (insO c es kk (nth (qk7 (qdo σ qbn) [v.kv tm]) 0)) fun es'=>K {v:=.un,upd:=some (nm,.map es'),frz:=R}
    else none
   | _,_,_=>none
  | _=>none
 | .lookup c z ok x k=>match x.kv tm with
  | .mp nm=>match σ nm,(k.kv tm).cl with
   | some (.map es),some kk=>if okV z=true then qba (lookO c z ok es kk) fun v=>K {v:=.cv v} else none
   | _,_=>none
  | _=>gO tm op K
 | .mkS k z l c=>match (l.kv tm).cl,(c.kv tm).cl with
  | some l,some c=>if z.cells.length=k∧okV z=true then qba (mkSO l c) fun n=>K {v:=.arr (d,0) k 0 n,new:=[.arr k 0 (replL n z)]} else none
  | _,_=>none
 | .slice k x lo hi mx=>match x.kv tm with
  | .arr nm k' o n =>
   if k=k'∧(mx.isNone∨hi.isSome)∧(lo.toList++hi.toList++mx.toList).all fun y=>((y.kv tm).cl).isSome then
    let ev:=fun (y:RX)=>((y.kv tm).cl).getD .undef
    qba (Qjl (mx.map ev) n n) fun m=>qba (Qjl (hi.map ev) n m) fun h =>
     match lo with
     | none=>K {v:=.arr nm k o h}
     | some lo=>qba (Qjl (some (ev lo)) 0 h) fun l=>qrk (qnj (eqN h l) (ltN 0 l)) (K {v:=.cv (.sl k [] false)}) (K {v:=.arr nm k (qdu o l) (subN h l)})
   else none
  | _=>gO tm op K
 | .fieldAddr off x=>match x.kv tm with
  | .ref nm o=>K {v:=.ref nm (o+off)}
  | .aref nm k i o=>K {v:=.aref nm k i (o+off)}
  | _=>gO tm op K
 | .field off n ag x=>match x.kv tm with
  | .agg cs=>if ag then (if off+n≤cs.length then K {v:=.agg ((cs.drop off).take n)} else none) else (match cs[off]? with | some c=>K {v:=c} | none=>none)
  | _=>gO tm op K
 | .idxAddr k x i=>match x.kv tm with
  | .arr nm k' o n=>match (i.kv tm).cl with
   | some i=>if k=k' then qba (natO i) fun j=>qbq (ltN j n) (K {v:=.aref nm k (qdu o j) 0}) else none
   | none=>none
  | _=>gO tm op K
 | .extract j x=>match x.kv tm with
  | .tup xs=>match xs[j]? with
   | some v=>K {v}
   | none=>none
  | _=>gO tm op K
 | .len c x=>match x.kv tm with
  | .arr _ _ _ n=>match c with
   | .slice=>K {v:=.cv (nI n)}
   | _=>none
  | .mp nm=>match c,σ nm with
   | .map,some (.map es)=>K {v:=.cv (nI (halfN (qbu es)))}
   | _,_=>none
  | _=>gO tm op K
 | .ofBytes x=>match x.kv tm with
  | .arr nm k o n=>Qh3 σ 1 (.arr nm k o n) fun ys=>qba (qbb (.ofBytes (.c (.sl 1 ys false)))) fun z=>K {v:=.cv z}
  | _=>gO tm op K
 | .append k ty s x=>Qh3 σ k (x.kv tm) fun ys =>
  match s.kv tm with
  | .arr nm k' o n=>match σ nm with
   | some (.arr k'' kt xs)=>if k=k'∧k'=k''∧o=0 then qbq (qnj (leN n (qbu xs)) (leN (qdu n (qbu ys)) qhl)) (K {v:=.arr nm k 0 (qdu n (qbu ys)),upd:=some (nm,.arr k (if kt=ty then ty else 0) (qpk (qb1 n xs) ys)),kill:=some nm}) else none
   | _=>none
  | .nils=>qbq (leN (qbu ys) qhl) (K {v:=.arr (d,0) k 0 (qbu ys),new:=[.arr k ty ys]})
  | .cv v=>qba (appO k v ys) fun zs=>K {v:=.arr (d,0) k 0 (qbu zs),new:=[.arr k ty zs]}
  | _=>none
 | .copy k x s=>Qh3 σ k (s.kv tm) fun ys =>
  match x.kv tm with
  | .arr nm k' o n=>match σ nm with
   | some (.arr k'' kt xs)=>if k=k'∧k'=k'' then qbq (leN (qdu o n) (qbu xs)) (K {v:=.cv (nI (minN (qbu ys) n)),upd:=some (nm,.arr k kt (qpk (qpk (qb1 o xs) (qb1 n ys)) (qcx (qdu o (qbu (qb1 n ys))) xs)))}) else none
   | _=>none
  | .nils=>K {v:=.cv (nI 0)}
  | _=>none
 | .iter x=>match (x.kv tm).cl with
  | some v=>qba (strO v) fun s=>K {v:=.it (d,0),new:=[.siter s 0]}
  | none=>none
 | .next x=>match x.kv tm with
  | .it nm=>match σ nm with
   | some (.siter s pos)=>qrk (ltN pos (lenS s)) (K {v:=.tup [.lit true,.cv (nI pos),.cv (runeP s pos)],upd:=some (nm,.siter s (qdu pos (runeN s pos)))}) (K {v:=.tup [.lit false]})
   | _=>none
  | _=>none
 | .tassert t z ok x=>match x.kv tm with
  | .iface u y=>if u=t then K {v:=if ok then .tup [y,.lit true] else y} else if ok=true∧okV z=true then K {v:=.tup [.cv z,.lit false]} else none
  | _=>gO tm op K
 | .call _ _=>none
 | .bad=>none
 | _=>gO tm op K
def kupd (u:Option (Nm×KOb)) (ks:KSt):KSt :=
 match u with
 | some (nm,ob)=>{ks with objs:=kput ks.objs nm ob}
 | none=>ks
def kkill (k:Option Nm) (ks:KSt):KSt :=
 match k with
 | some nm=>Qbs (fun m=>m==nm) ks
 | none=>ks
def kfrzs (σ:Nm→Option KOb) (R:List Nm) (ks:KSt):KSt :=
 match R with
 | []=>ks
 | nm :: R=>Qdk σ (nm :: R) ks
def kgone (l:List Nm) (ks:KSt):KSt :=
 match l with
 | []=>ks
 | nm :: l=>Qbs (fun m=>(nm :: l).contains m) ks
def kups:List (Nm×KOb)→SpO→SpO
 | [],σ=>σ
 |(nm,o) :: l,σ=>kups l (kput σ nm o)
def kset (dst:Option Nat) (v:KV) (new:List KOb) (ks:KSt):KSt :=
 match dst with
 | some d=>match Nat.blt d ks.nt with
  | true=>{ks with tmps:=spSet d v ks.tmps,objs:=match new with | []=>ks.objs | x :: xs=>qmw d (x :: xs) ks.objs}
  | false=>ks
 | none=>ks
def kturn (l:List (Nm×KOb)) (ks:KSt):KSt:={ks with objs:=kups l ks.objs}
def kext (sl:Option Nat) (new:List KOb) (ks:KSt):KSt :=
 match sl with
 | some r=>match Nat.blt r ks.nt with
  | true=>{ks with objs:=qmw r (qcs ks.objs r++new) ks.objs}
  | false=>ks
 | none=>ks
def newAt (sl:Option Nat) (new:List KOb):List KOb :=
 match sl with
 | some _=>[]
 | none=>new
def qmb (ks:KSt) (dst:Option Nat) (o:qb8):KSt:=kset dst o.v (newAt o.slot o.new) (kext o.slot o.new<|kturn o.ups (kgone o.gone (kfrzs (qc1 ks.objs) o.frz (kkill o.kill (kupd o.upd ks)))))
mutual
def qhj:KV→KV→Bool
 | .un,x=>match x with | .un=>true | _=>false
 | .sk,x=>match x with | .sk=>true | _=>false
 | .yld _,x=>match x with | .yld _=>true | _=>false
 | .ref nm o,x=>match x with | .ref nm' o'=>nm==nm'&&o==o' | _=>false
 | .aref _ _ _ _,_=>false
 | .arr nm k o _,x=>match x with | .arr nm' k' o' _=>nm==nm'&&k==k'&&Nat.beq o o' | _=>false
 | .mp nm,x=>match x with | .mp nm'=>nm==nm' | _=>false
 | .it nm,x=>match x with | .it nm'=>nm==nm' | _=>false
 | .wit nm,x=>match x with | .wit nm'=>nm==nm' | _=>false
 | .fn f cap,x=>match x with | .fn f' cap'=>f==f'&&qzy cap cap' | _=>false
 | .tup xs,x=>match x with | .tup ys=>qzy xs ys | _=>false
 | .lit _,x=>x.cl.isSome
 | .nils,x=>x.cl.isSome
 | .cv _,x=>x.cl.isSome
 | .agg cs,x=>if (clL cs).isSome then x.cl.isSome else match x with | .agg cs'=>qzy cs cs' | _=>false
 | .iface t y,x=>if y.cl.isSome then x.cl.isSome else match x with | .iface t' y'=>t==t'&&qhj y y' | _=>false
def qzy:List KV→List KV→Bool
 | [],l=>match l with | []=>true | _=>false
 | x :: xs,l=>match l with | y :: ys=>qhj x y&&qzy xs ys | _=>false
end
mutual
def qdh:KV→KV→List PV
 | .un,_=>[] | .sk,_=>[] | .yld _,x=>(match x with | .yld d=>[nI d] | _=>[]) | .ref _ _,_=>[] | .aref _ _ _ _,_=>[] | .mp _,_=>[] | .it _,_=>[] | .wit _,_=>[]
 | .arr _ _ _ _,x=>match x with | .arr _ _ _ n=>[nI n] | _=>[]
 | .fn _ cap,x=>match x with | .fn _ cap'=>qhn cap cap' | _=>[]
 | .tup xs,x=>match x with | .tup ys=>qhn xs ys | _=>[]
 | .lit _,x=>[x.cl.getD .undef]
 | .nils,x=>[x.cl.getD .undef]
 | .cv _,x=>[x.cl.getD .undef]
 | .agg cs,x=>if (clL cs).isSome then [x.cl.getD .undef] else match x with | .agg cs'=>qhn cs cs' | _=>[]
 | .iface _ y,x=>if y.cl.isSome then [x.cl.getD .undef] else match x with | .iface _ y'=>qdh y y' | _=>[]
def qhn:List KV→List KV→List PV
 | [],_=>[]
 | x :: xs,l=>match l with | y :: ys=>qdh x y++qhn xs ys | _=>[]
end
mutual
def fill:KV→List PV→Nat→KV×Nat
 | .un,_,i=>(.un,i) | .sk,_,i=>(.sk,i) | .yld _,vs,i=>(.yld (qbz (nth vs i)),i+1) | .ref nm o,_,i=>(.ref nm o,i) | .aref nm k j o,_,i=>(.aref nm k j o,i) | .mp nm,_,i=>(.mp nm,i) | .it nm,_,i=>(.it nm,i) | .wit nm,_,i=>(.wit nm,i)
 | .arr nm k o _,vs,i=>(.arr nm k o (qbz (nth vs i)),i+1)
 | .fn f cap,vs,i=>let p:=qh6 cap vs i;(.fn f p.1,p.2)
 | .tup xs,vs,i=>let p:=qh6 xs vs i;(.tup p.1,p.2)
 | .lit _,vs,i=>(.cv (nth vs i),i+1)
 | .nils,vs,i=>(.cv (nth vs i),i+1)
 | .cv _,vs,i=>(.cv (nth vs i),i+1)
 | .agg cs,vs,i=>if (clL cs).isSome then (.cv (nth vs i),i+1) else let p:=qh6 cs vs i;(.agg p.1,p.2)
 | .iface t y,vs,i=>if y.cl.isSome then (.cv (nth vs i),i+1) else let p:=fill y vs i;(.iface t p.1,p.2)
def qh6:List KV→List PV→Nat→List KV×Nat
 | [],_,i=>([],i)
 | x :: xs,vs,i=>let p:=fill x vs i;let q:=qh6 xs vs p.2;(p.1 :: q.1,q.2)
end
def qj5:KOb→KOb→Bool
 | .cells ty cs,x=>match x with | .cells ty' cs'=>ty==ty'&&qzy cs cs' | _=>false
 | .whole ty _,x=>match x with | .whole ty' _=>ty==ty' | _=>false
 | .arr k t _,x=>match x with | .arr k' t' _=>k==k'&&t==t' | _=>false
 | .map _,x=>match x with | .map _=>true | _=>false
 | .siter _ _,x=>match x with | .siter _ _=>true | _=>false
def qg1:KOb→KOb→List PV
 | .cells _ cs,x=>match x with | .cells _ cs'=>qhn cs cs' | _=>[]
 | .whole _ _,x=>match x with | .whole _ v=>[v] | _=>[]
 | .arr k _ _,x=>match x with | .arr _ _ xs=>[.sl k xs false] | _=>[]
 | .map _,x=>match x with | .map es=>[.imap es] | _=>[]
 | .siter _ _,x=>match x with | .siter s pos=>[.str s,nI pos] | _=>[]
def qds:KOb→List PV→Nat→KOb×Nat
 | .cells ty cs,vs,i=>let p:=qh6 cs vs i;(.cells ty p.1,p.2)
 | .whole ty _,vs,i=>(.whole ty (nth vs i),i+1)
 | .arr k t _,vs,i=>(.arr k t (qbl (nth vs i)),i+1)
 | .map _,vs,i=>(.map (Qls (nth vs i)),i+1)
 | .siter _ _,vs,i=>(.siter (strP (nth vs i)) (qbz (nth vs (i+1))),i+2)
def qhp:List KOb→List KOb→Bool
 | [],[]=>true
 | x :: xs,y :: ys=>qj5 x y&&qhp xs ys
 | _,_=>false
def qhm:List KOb→List KOb→List PV
 | x :: xs,y :: ys=>qg1 x y++qhm xs ys
 | _,_=>[]
def qdc:List KOb→List PV→Nat→List KOb×Nat
 | [],_,i=>([],i)
 | x :: xs,vs,i=>let p:=qds x vs i;let q:=qdc xs vs p.2;(p.1 :: q.1,q.2)
def Qdu:Sp→Sp→Bool
 | [],[]=>true
 |(i,x) :: xs,(j,y) :: ys=>Nat.beq i j&&(qhj x y&&Qdu xs ys)
 | _,_=>false
def qg0:Sp→Sp→List PV
 |(_,x) :: xs,(_,y) :: ys=>qdh x y++qg0 xs ys
 | _,_=>[]
def qjs:Sp→List PV→Nat→Sp×Nat
 | [],_,i=>([],i)
 |(j,x) :: xs,vs,i=>let p:=fill x vs i;let q:=qjs xs vs p.2;((j,p.1) :: q.1,q.2)
def Qho:SpO→SpO→Bool
 | [],[]=>true
 |(i,x) :: xs,(j,y) :: ys=>Nat.beq i j&&(qhp x y&&Qho xs ys)
 | _,_=>false
def qpy:SpO→SpO→List PV
 |(_,x) :: xs,(_,y) :: ys=>qhm x y++qpy xs ys
 | _,_=>[]
def qmi:SpO→List PV→Nat→SpO×Nat
 | [],_,i=>([],i)
 |(j,x) :: xs,vs,i=>let p:=qdc x vs i;let q:=qmi xs vs p.2;((j,p.1) :: q.1,q.2)
def Qhp:List Sp→List Sp→Bool
 | [],[]=>true
 | x :: xs,y :: ys=>Qdu x y&&Qhp xs ys
 | _,_=>false
def qwm:List Sp→List Sp→List PV
 | x :: xs,y :: ys=>qg0 x y++qwm xs ys
 | _,_=>[]
def qy0:List Sp→List PV→Nat→List Sp×Nat
 | [],_,i=>([],i)
 | x :: xs,vs,i=>let p:=qjs x vs i;let q:=qy0 xs vs p.2;(p.1 :: q.1,q.2)
def fitSt (p x:KSt):Bool:=Nat.beq p.nt x.nt&&(Qdu p.tmps x.tmps&&(Qho p.objs x.objs&&Qhp p.keep x.keep))
def qd9 (p x:KSt):List PV:=qg0 p.tmps x.tmps++qpy p.objs x.objs++qwm p.keep x.keep
def qfa (p:KSt) (vs:List PV):KSt :=
 let a:=qjs p.tmps vs 0
 let b:=qmi p.objs vs a.2
 let c:=qy0 p.keep vs b.2
 {nt:=p.nt,tmps:=a.1,objs:=b.1,keep:=c.1}
mutual
def qmh:KV→KV→Bool
 | .un,x=>match x with | .un=>true | _=>false
 | .sk,x=>match x with | .sk=>true | _=>false
 | .yld _,x=>match x with | .yld _=>true | _=>false
 | .ref nm o,x=>match x with | .ref nm' o'=>nm==nm'&&o==o' | _=>false
 | .aref _ _ _ _,_=>false
 | .arr nm k _ _,x=>match x with | .arr nm' k' _ _=>nm==nm'&&k==k' | _=>false
 | .mp nm,x=>match x with | .mp nm'=>nm==nm' | _=>false
 | .it nm,x=>match x with | .it nm'=>nm==nm' | _=>false
 | .wit nm,x=>match x with | .wit nm'=>nm==nm' | _=>false
 | .fn f cap,x=>match x with | .fn f' cap'=>f==f'&&Qdx cap cap' | _=>false
 | .tup xs,x=>match x with | .tup ys=>Qdx xs ys | _=>false
 | .lit _,x=>x.cl.isSome
 | .nils,x=>x.cl.isSome
 | .cv _,x=>x.cl.isSome
 | .agg cs,x=>if (clL cs).isSome then x.cl.isSome else match x with | .agg cs'=>Qdx cs cs' | _=>false
 | .iface t y,x=>if y.cl.isSome then x.cl.isSome else match x with | .iface t' y'=>t==t'&&qmh y y' | _=>false
def Qdx:List KV→List KV→Bool
 | [],l=>match l with | []=>true | _=>false
 | x :: xs,l=>match l with | y :: ys=>qmh x y&&Qdx xs ys | _=>false
end
mutual
def qxq:KV→KV→List Bool
 | .arr _ _ o _,x=>match x with | .arr _ _ o' _=>[eqOff o o'] | _=>[]
 | .fn _ cap,x=>match x with | .fn _ cap'=>Qc2 cap cap' | _=>[]
 | .tup xs,x=>match x with | .tup ys=>Qc2 xs ys | _=>[]
 | .agg cs,x=>match x with | .agg cs'=>Qc2 cs cs' | _=>[]
 | .iface _ y,x=>match x with | .iface _ y'=>qxq y y' | _=>[]
 | .un,_ | .sk,_ | .yld _,_ | .ref _ _,_ | .aref _ _ _ _,_ | .mp _,_ | .it _,_ | .wit _,_ | .lit _,_ | .nils,_ | .cv _,_=>[]
def Qc2:List KV→List KV→List Bool
 | [],_=>[]
 | x :: xs,l=>match l with | y :: ys=>qxq x y++Qc2 xs ys | _=>[]
end
def fit0Ob:KOb→KOb→Bool
 | .cells ty cs,x=>match x with | .cells ty' cs'=>ty==ty'&&Qdx cs cs' | _=>false
 | .whole ty v,x=>qj5 (.whole ty v) x | .arr k t xs,x=>qj5 (.arr k t xs) x | .map es,x=>qj5 (.map es) x | .siter s p,x=>qj5 (.siter s p) x
def offsOb:KOb→KOb→List Bool
 | .cells _ cs,x=>match x with | .cells _ cs'=>Qc2 cs cs' | _=>[]
 | _,_=>[]
def qty:List KOb→List KOb→Bool
 | [],[]=>true
 | x :: xs,y :: ys=>fit0Ob x y&&qty xs ys
 | _,_=>false
def qtg:List KOb→List KOb→List Bool
 | x :: xs,y :: ys=>offsOb x y++qtg xs ys
 | _,_=>[]
def qyx:Sp→Sp→Bool
 | [],[]=>true
 |(i,x) :: xs,(j,y) :: ys=>Nat.beq i j&&(qmh x y&&qyx xs ys)
 | _,_=>false
def qxr:Sp→Sp→List Bool
 |(_,x) :: xs,(_,y) :: ys=>qxq x y++qxr xs ys
 | _,_=>[]
def Qb5:SpO→SpO→Bool
 | [],[]=>true
 |(i,x) :: xs,(j,y) :: ys=>Nat.beq i j&&(qty x y&&Qb5 xs ys)
 | _,_=>false
def Qbi:SpO→SpO→List Bool
 |(_,x) :: xs,(_,y) :: ys=>qtg x y++Qbi xs ys
 | _,_=>[]
def Qb7:List Sp→List Sp→Bool
 | [],[]=>true
 | x :: xs,y :: ys=>qyx x y&&Qb7 xs ys
 | _,_=>false
def Qbj:List Sp→List Sp→List Bool
 | x :: xs,y :: ys=>qxr x y++Qbj xs ys
 | _,_=>[]
def qyv (p x:KSt):Bool:=Nat.beq p.nt x.nt&&(qyx p.tmps x.tmps&&(Qb5 p.objs x.objs&&Qb7 p.keep x.keep))
def Qgc (p x:KSt):List Bool:=qxr p.tmps x.tmps++(Qbi p.objs x.objs++Qbj p.keep x.keep)
def chks {β:Type}:List Bool→Option β→Option β
 | [],a=>a
 | b :: l,a=>qbq b (chks l a)
mutual
def qp3:KV→PV→Option (List PV)
 | .un,x=>match x with | .undef=>some [] | _=>none
 | .sk,x=>match x with | .tup []=>some [] | _=>none
 | .yld _,x=>match x with | .yld d=>some [nI d] | _=>none
 | .aref _ _ _ _,_=>none
 | .wit nm,x=>match x with | .arr nm' 1 0 0=>qbq (nm==nm') (some []) | _=>none
 | .ref nm o,x=>match x with | .ref nm' o'=>qbq (nm==nm'&&o==o') (some []) | _=>none
 | .mp nm,x=>match x with | .mp nm'=>qbq (nm==nm') (some []) | _=>none
 | .it nm,x=>match x with | .it nm'=>qbq (nm==nm') (some []) | _=>none
 | .arr nm k o _,x=>match x with | .arr nm' k' o' n=>qbq (nm==nm'&&k==k'&&Nat.beq o o') (some [nI n]) | _=>none
 | .lit _,x=>qbq (okV x) (some [x])
 | .nils,x=>qbq (okV x) (some [x])
 | .cv _,x=>qbq (okV x) (some [x])
 | .fn f cap,x=>match x with | .fn f' cap'=>if f=f' then qys cap cap' else none | _=>none
 | .tup xs,x=>match x with | .tup ys=>qys xs ys | _=>none
 | .agg cs,x=>if (clL cs).isSome then qbq (okV x) (some [x]) else match x with | .agg cs'=>qys cs cs' | _=>none
 | .iface t y,x=>if y.cl.isSome then qbq (okV x) (some [x]) else match x with | .iface t' y'=>if t=t' then qp3 y y' else none | _=>none
def qys:List KV→List PV→Option (List PV)
 | [],l=>match l with | []=>some [] | _=>none
 | x :: xs,l=>match l with
  | y :: ys=>match qp3 x y,qys xs ys with
   | some a,some b=>some (a++b)
   | _,_=>none
  | _=>none
end
def qjq:KOb→Ob→Option (List PV)
 | .cells ty cs,x=>match x with | .cells ty' cs'=>if ty=ty' then qys cs cs' else none | _=>none
 | .whole ty _,x=>match x with | .cells ty' cs'=>qbq (ty==ty'&&qb3 cs') (some [.agg cs']) | _=>none
 | .arr k t _,x=>match x with | .arr k' t' xs=>qbq (k==k'&&t==t'&&qb3 xs) (some [.sl k xs false]) | _=>none
 | .map _,x=>match x with | .map es=>qbq (qb3 es) (some [.imap es]) | _=>none
 | .siter _ _,x=>match x with | .siter s pos=>some [.str s,nI pos] | _=>none
def qm4:List KOb→List Ob→Option (List PV)
 | [],l=>match l with | []=>some [] | _=>none
 | x :: xs,l=>match l with
  | y :: ys=>match qjq x y,qm4 xs ys with
   | some a,some b=>some (a++b)
   | _,_=>none
  | _=>none
structure qkc where
 args:List KV
 ins:List KOb
 res:KV
 outs:List KOb
 news:List KOb
 gone:List Nat
 deriving Inhabited
def ioFit (P:qkc) (out:Out):Option (List PV) :=
 if out.gone=P.gone.map (fun j=>(0,j)) then
  match qp3 P.res out.v,qm4 P.outs (out.ups.map (·.2)),qm4 P.news out.new with
  | some a,some b,some c=>some (a++(b++c))
  | _,_,_=>none
 else none
def qhv (k:Nat):List Nm:=(List.range k).map fun j=>(0,j)
inductive RSh where
 | cl
 | own (k:Nat)
 | opt (k:Nat)
 | tup (l:List RSh)
 | agg (l:List RSh)
 deriving Inhabited
mutual
def qht (obs:List Ob):RSh→Nat→PV→Option (PV×Nat)
 | .cl,j,v=>qbq (okV v) (some (v,j))
 | .own k,j,v=>match v,obs[j]? with
  | .arr nm k' o n,some (.arr k'' kt xs)=>qbq (nm==(0,j)&&k==k'&&k==k''&&o==0&&n==xs.length&&kt==0&&qb3 xs) (some (.sl k xs false,j+1))
  | _,_=>none
 | .opt k,j,v=>match v,obs[j]? with
  | .nilS,_=>some (.nilS,j)
  | .arr nm k' o n,some (.arr k'' kt xs)=>qbq (nm==(0,j)&&k==k'&&k==k''&&o==0&&n==xs.length&&kt==0&&qb3 xs) (some (.sl k xs false,j+1))
  | _,_=>none
 | .tup l,j,v=>match v with
  | .tup vs=>(qk6 obs l j vs).map fun p=>(.tup p.1,p.2)
  | _=>none
 | .agg l,j,v=>match v with
  | .agg vs=>(qk6 obs l j vs).map fun p=>(.agg p.1,p.2)
  | _=>none
def qk6 (obs:List Ob):List RSh→Nat→List PV→Option (List PV×Nat)
 | [],j,[]=>some ([],j)
 | s :: l,j,v :: vs=>match qht obs s j v with
  | some (u,j)=>(qk6 obs l j vs).map fun p=>(u :: p.1,p.2)
  | none=>none
 | _,_,_=>none
end
def qlw (sh:RSh) (v:PV) (obs:List Ob):Option PV :=
 match qht obs sh 0 v with
 | some (r,j)=>qbq (j==obs.length) (some r)
 | none=>none
mutual
def qxl (d:Nat):RSh→Nat→PV→KV×List KOb×Nat
 | .cl,j,r=>(.cv r,[],j)
 | .own k,j,r=>(.arr (d,j) k 0 (qbu (qbl r)),[.arr k 0 (qbl r)],j+1)
 | .opt _,j,r=>(.cv r,[],j)
 | .tup l,j,r=>let p:=qzu d l j r 0;(.tup p.1,p.2)
 | .agg l,j,r=>let p:=qzu d l j r 0;(.agg p.1,p.2)
def qzu (d:Nat):List RSh→Nat→PV→Nat→List KV×List KOb×Nat
 | [],j,_,_=>([],[],j)
 | s :: l,j,r,i =>
  let p:=qxl d s j (prjP r i)
  let q:=qzu d l p.2.2 r (i+1)
  (p.1 :: q.1,p.2.1++q.2.1,q.2.2)
end
mutual
def qmv {R:Type}:RSh→PV→(RSh→Option R)→Option R
 | .cl,_,K=>K .cl
 | .own k,_,K=>K (.own k)
 | .opt k,u,K=>nilB u (K .cl) (K (.own k))
 | .tup l,u,K=>qrp l u 0 fun l=>K (.tup l)
 | .agg l,u,K=>qrp l u 0 fun l=>K (.agg l)
def qrp {R:Type}:List RSh→PV→Nat→(List RSh→Option R)→Option R
 | [],_,_,K=>K []
 | s :: l,u,i,K=>qmv s (prjP u i) fun s=>qrp l u (i+1) fun l=>K (s :: l)
end
mutual
def RSh.fix:RSh→Bool
 | .opt _=>false
 | .cl | .own _=>true
 | .tup l | .agg l=>fixL l
def fixL:List RSh→Bool
 | []=>true
 | s :: l=>s.fix&&fixL l
end
structure KB where
 sp:FuncId→(Nm→Option Ob)→List PV→Option Out
 L:qs2
 I:FuncId→List Ob→List PV→Option (St×PV)
 isIo:FuncId→Bool
 leans:FuncId→Bool
structure qzo where
 b:KB
 spF:FuncId→Bool
 asT:FuncId→TypeId→Option (TypeId×Nat)
 rsh:FuncId→RSh×Bool
 dsh:Nat→RSh
 ioF:FuncId→Option (List KV→List KOb→qkc)
 spK:FuncId→Option ((Nm→Option KOb)→List KV→Option (Bool×qb8)):=fun _=>none
 flatF:FuncId→Bool:=fun _=>false
def spO (sp:FuncId→(Nm→Option Ob)→List PV→Option Out) (g:FuncId) (vs:List PV):Option (Option (PV×List Ob)) :=
 match sp g (fun _=>none) vs with
 | some out=>qbq (out.upd.isNone&&out.kill.isNone&&out.frz.isEmpty&&out.gone.isEmpty&&out.ups.isEmpty&&!out.io&&out.slot.isNone) (some (some (out.v,out.new)))
 | none=>some none
noncomputable def qbj (B:KB) (sh:RSh) (f:PV) (args:List PV):Option PV :=
 match f with
 | .fn g cap=>match spO B.sp (qfh g) (qcc g args cap) with
  | some (some (v,obs))=>qlw sh v obs
  | some none=>if B.isIo (qfh g) then none else match B.L Unit qbc 0 (qfh g) (qcc g args cap) () with
   | some (r,obs,_)=>qlw sh r obs
   | none=>none
  | none=>none
 | _=>none
noncomputable def qft (B:KB) (sh:RSh) (fr:Bool) (g:FuncId) (args:List PV):Option PV :=
 if qdi args then none
 else match B.L Unit qbc 0 g args () with
  | some (r,obs,_)=>qbq ((r.free&&obs.all Ob.free&&!B.leans g)==fr) (qlw sh r obs)
  | none=>none
noncomputable def qgd (B:KB) {E:Type} (h:qbg E) (dep:Nat) (f:PV) (e:E):Option E :=
 match f with
 | .fn g cap=>match B.L E h (dep+1) (qfh g) (qcc g [.yld dep] cap) e with
  | some (_,_,e)=>some e
  | none=>none
 | _=>none
noncomputable def ioO (B:KB) (P:qkc) (g:FuncId) (vs:List PV):Option (List PV) :=
 match B.I g ((qdc P.ins vs (qh6 P.args vs 0).2).1.map KOb.ob) (pvL (qh6 P.args vs 0).1) with
 | some (st,v)=>match qts none 1 0 (qhv P.ins.length) st v with
  | some out=>ioFit P out
  | none=>none
 | none=>none
def qp2 (R:List Nm) (d i0:Nat) (m:Nm):Nm:=if m.1=0 then R.getD m.2 (0,0) else (d,i0+m.2)
def ioOut (P:qkc) (R:List Nm) (sl:Option Nat) (d i0:Nat) (rs:List PV):qb8 :=
 let v:=fill P.res rs 0
 let o:=qdc P.outs rs v.2
 let w:=qdc P.news rs o.2
 {v:=v.1.ren (qp2 R d i0),new:=w.1.map (KOb.ren (qp2 R d i0)),gone:=P.gone.map fun j=>R.getD j (0,0),ups:=R.zip (o.1.map (KOb.ren (qp2 R d i0))),io:=true,slot:=sl}
noncomputable def qx9 {R:Type} (cfg:qzo) (Pf:List KV→List KOb→qkc) (g:FuncId) (d:Nat) (σ:Nm→Option KOb) (xs:List KV) (K:qb8→Option R):Option R :=
 let S:=qgh (ql8 σ qbn (qdn xs))
 match S.mapM σ with
 | none=>none
 | some ins =>
  let f:Nm→Nm:=fun m=>(0,S.idxOf m)
  let P:=Pf xs ins
  if Qgx σ S=true∧qj9 xs=false∧cfg.spF g=false∧(qzy P.args (qqa f xs)&&qhp P.ins (ins.map (KOb.ren f)))=true then
   qba (ioO cfg.b P g (qhn P.args (qqa f xs)++qhm P.ins (ins.map (KOb.ren f)))) fun rs=>match S with
    | []=>K (ioOut P S none d 0 rs)
    | r :: _=>match qqq σ r.1 with
     | some i0=>K (ioOut P S (some r.1) r.1 i0 rs)
     | none=>none
  else none
def qlt (f:FuncId) (vs cap:List KV):List KV:=match Nat.blt f qf7 with
 | true=>vs++cap
 | false=>cap.take (fnK f)++(vs++cap.drop (fnK f))
noncomputable def kcall {E R:Type} (cfg:qzo) (h:qbg E) (d:Nat) (σ:Nm→Option KOb) (tm:Sp) (f:RX) (args:List RX) (e:E) (K:qb8→E→Option R):Option R :=
 match f.kv tm with
 | .yld l =>
  let xs:=args.map (RX.kv tm)
  match clL xs with
  | some vs=>qba (h l vs e) fun p=>K {v:=.cv (.bool p.1)} p.2
  | none =>
   let R:=ql8 σ qbn (qdn xs)
   if (qdn xs).isEmpty then none
   else if Qgx σ R then
    let ys:=qk7 (qdo σ qbn) xs
    qbq (noYL ys) (qba (h l ys e) fun p=>K {v:=.cv (.bool p.1),frz:=R} p.2)
   else none
 | .fn f caps =>
  let g:=qfh f
  let xs:=qlt f (args.map (RX.kv tm)) caps
  match cfg.spK g with
  | some s=>(match s σ xs with
   | some p=>qbq p.1 (K p.2 e)
   | none=>none)
  | none =>
  match cfg.ioF g with
  | some P=>qx9 cfg P g d σ xs fun out=>K out e
  | none =>
  match xs with
  | [ex,.iface p (.ref nm 0)]=>match cfg.asT g p,ex.cl,σ nm with
   | some (t,n),some err,some (.cells ty cs)=>qbq (eqN cs.length n) (asP t err (fun x=>qbq (qbi x n) (K {v:=.lit true,upd:=some (nm,.whole ty x)} e)) (K {v:=.lit false} e))
   | _,_,_=>none
  | _=>match clL xs with
   | some vs=>qba (qbj cfg.b (cfg.rsh g).1 (.fn g []) vs) fun r=>qmv (cfg.rsh g).1 r fun sh=>let p:=qxl d sh 0 r;K {v:=p.1,new:=p.2.1} e
   | none =>
    let R:=ql8 σ qbn (qdn xs)
    if (qdn xs).isEmpty∨cfg.spF g=true then none
    else if Qgx σ R then
     qba (qft cfg.b (cfg.rsh g).1 (cfg.rsh g).2 g (qk7 (qdo σ qbn) xs)) fun r=>qmv (cfg.rsh g).1 r fun sh=>let p:=qxl d sh 0 r;K {v:=p.1,new:=p.2.1,frz:=if (cfg.rsh g).2 then [] else R} e
    else none
 | .cv v=>match clL (args.map (RX.kv tm)) with
  | some vs=>qba (qbj cfg.b (cfg.dsh d) v vs) fun r=>qmv (cfg.dsh d) r fun sh=>let p:=qxl d sh 0 r;K {v:=p.1,new:=p.2.1} e
  | none=>none
 | _=>none
def kfresh (o:qbw) (ks:KSt):Bool :=
 if Qgp o.op then
  match o.dst with
  | some d=>Nat.blt d ks.nt&&(qcs ks.objs d).isEmpty
  | none=>match o.op with
   | .call _ _=>true
   | _=>false
 else true
def qjm:SpO→Bool
 | []=>true
 |(_,u) :: l=>(u.all fun o=>match o with | .cells _ cs=>!qj9 cs | _=>true)&&qjm l
def calmX (cfg:qzo) (op:ROp) (tm:Sp):Bool :=
 match op with
 | .mkSl _ _=>false
 | .insert _ _ _ _=>false
 | .call f _=>match f.kv tm with
  | .fn g _=>(cfg.ioF (qfh g)).isNone
  | _=>true
 | _=>true
noncomputable def Qbr {E R:Type} (cfg:qzo) (h:qbg E) (o:qbw) (ks:KSt) (e:E) (K:qb8→E→Option R):Option R :=
 if kfresh o ks∧o.op.xs.all okX∧(qjm ks.objs||calmX cfg o.op ks.tmps)=true then
  match o.op with
  | .call f args=>kcall cfg h (o.dst.getD 0) (qc1 ks.objs) ks.tmps f args e fun out e=>if ((!out.io||o.dst.isSome||out.new.isEmpty||out.slot.isSome)&&(out.frz.isEmpty||qjm ks.objs))=true then K out e else none
  | op=>qhr (o.dst.getD 0) (qc1 ks.objs) ks.tmps op fun out=>if (out.frz.isEmpty||qjm ks.objs)=true then K out e else none
 else none
def Qnb {R:Type} (ops:List qbw) (o:qbw) (ks:KSt) (K:Bool→KSt→Option R):Option R :=
 match o.guard with
 | none=>K true ks
 | some (j,want) =>
  match ops[j]? with
  | some p=>match p.dst with
   | some d=>match qcg ks.tmps d with
    | .lit b=>K (b==want) ks
    | .sk=>K false ks
    | .cv v=>qca v (K (true==want) {ks with tmps:=qjj d (.lit true) ks.tmps}) (K (false==want) {ks with tmps:=qjj d (.lit false) ks.tmps})
    | _=>none
   | none=>none
  | none=>none
noncomputable def kstep {E R:Type} (cfg:qzo) (h:qbg E) (ops:List qbw) (o:qbw) (ks:KSt) (e:E) (K:KSt→E→Option R):Option R :=
 Qnb ops o ks fun b ks=>match b with
  | true=>Qbr cfg h o ks e fun out e=>qh5 (qmb ks o.dst out) fun ks=>K ks e
  | false=>qh5 (qmb ks o.dst {v:=.sk}) fun ks=>K ks e
noncomputable def kruns {E R:Type} (cfg:qzo) (h:qbg E) (ops:List qbw):List qbw→KSt→E→(KSt→E→Option R)→Option R
 | [],ks,e,K=>K ks e
 | o :: rest,ks,e,K=>kstep cfg h ops o ks e fun ks e=>kruns cfg h ops rest ks e K
def Qgw (o:qb8):Bool:=o.upd.isNone&&o.kill.isNone&&o.frz.isEmpty&&o.gone.isEmpty&&o.ups.isEmpty&&o.slot.isNone
def kturns (o:qb8):Bool:=o.gone.isEmpty&&o.ups.isEmpty&&o.slot.isNone&&!o.io
def qx3 (o:qb8):List Nm :=
 match o.upd with
 | some (nm,_)=>[nm]
 | none=>[]
def spAt (ks:KSt) (s:Nat):KV :=
 match Nat.blt s ks.nt with
 | true=>qcg ks.tmps s
 | false=>.un
def kisYld (op:ROp) (tm:Sp):Bool :=
 match op with
 | .call f args=>match f.kv tm with
  | .yld _=>(qdn (args.map (RX.kv tm))).isEmpty
  | _=>false
 | _=>false
def kheldN (σ:Nm→Option KOb) (l:List Nm):List Nm:=l.flatMap fun nm=>((σ nm).map KOb.names).getD []
def krnOf (o:qbw) (ks:KSt) (out:qb8):List Nm :=
 if qwd o.op&&Qgw out then [] else ql8 (qc1 ks.objs) (qkf o.op (Qgw out)) (qdn (o.op.xs.map (RX.kv ks.tmps))++out.frz)
def kinfo (ops:List qbw) (i:Nat) (o:qbw) (ks:KSt) (out:qb8):qrh :=
 let vs:=o.op.xs.map (RX.kv ks.tmps)
 {i,dst:=o.dst,reads:=qs8 o.op.xs++qdb ops o,rn:=krnOf o ks out,rv:=if qjo o.op then [] else kheldN (qc1 ks.objs) (krnOf o ks out),
  cls:=if qh2 o.op&&qj9 vs then (if kisYld o.op ks.tmps then .calls else .other) else if Qgw out then .quiet else if kturns out then .turns else .other,
  on:=out.v.names++out.new.flatMap KOb.names,tch:=qx3 out++(out.frz++out.kill.toList),frz:=!(out.frz++out.kill.toList).isEmpty,
  vn:=(qs8 o.op.xs++qdb ops o).flatMap fun s=>(spAt ks s).names}
noncomputable def kstepD {E R:Type} (cfg:qzo) (h:qbg E) (ops:List qbw) (i:Nat) (o:qbw) (ks:KSt) (e:E) (K:KSt→E→qrh→Option R):Option R :=
 Qnb ops o ks fun b ks=>match b with
  | true=>Qbr cfg h o ks e fun out e=>qh5 (qmb ks o.dst out) fun k1=>K k1 e (kinfo ops i o ks out)
  | false=>qh5 (qmb ks o.dst {v:=.sk}) fun k1=>K k1 e {i,cls:=.quiet,dst:=o.dst,reads:=qdb ops o,rn:=[],vn:=(qdb ops o).flatMap fun s=>(spAt ks s).names}
noncomputable def Qnd {E R:Type} (cfg:qzo) (h:qbg E) (ops:List qbw):List (Nat×Nat)→List qrh→KSt→E→(KSt→E→Option R)→Option R
 | [],_,ks,e,K=>K ks e
 |(i,bef) :: rest,infos,ks,e,K=>match ops[i]? with
  | some o=>kstepD cfg h ops i o ks e fun ks e info=>if (infos.all fun j=>bef.testBit j.i||qzx j info) then Qnd cfg h ops rest (info :: infos) ks e K else none
  | none=>none
def qgw (ds:List Nat) (ks:KSt):KSt :=
 if ds.all fun d=>(qcs ks.objs d).isEmpty then ks
 else
  let ks:=Qbs (fun m=>ds.contains m.1) ks
  {ks with objs:=qvi (fun i=>!ds.contains i) ks.objs}
def qvu (ks:KSt) (t:Nat):Bool:=Nat.blt t ks.nt&&(qcs ks.objs t).isEmpty
def ql7 (t:Nat) (ks:KSt) (nm:Nm):KSt :=
  if nm≠(t,0)∧qvu ks t=true then
   match qc1 ks.objs nm with
   | some ob =>
    let f:Nm→Nm:=fun m=>if m=nm then (t,0) else m
    let objs:=qno (KOb.ren f) ks.objs
    {ks with tmps:=qlb (KV.ren f) ks.tmps,objs:=qmw t [ob.ren f] (kput objs nm qsc),keep:=ks.keep.map (qlb (KV.ren f))}
   | none=>ks
  else ks
def qli (t:Nat) (ks:KSt):KSt :=
 match qcg ks.tmps t with
 | .arr nm _ _ _=>ql7 t ks nm
 | .wit nm=>ql7 t ks nm
 | _=>ks
def Qbt (nm:Nm) (ty:Nat) (cs:List KV) (i k:Nat) (ks:KSt):KSt :=
 let l:=qcs ks.objs nm.1
 {ks with objs:=qmw nm.1 (l.set nm.2 (.cells ty (cs.set i (.arr (nm.1,l.length) k 0 0)))++[.arr k 0 []]) ks.objs}
def ql9 (nm m:Nm) (ks:KSt):KSt :=
 let l:=qcs ks.objs nm.1
 if m.1≠nm.1 then
  match qc1 ks.objs m with
  | some ob =>
   let f:Nm→Nm:=fun x=>if x=m then (nm.1,l.length) else x
   let objs:=kput (qno (KOb.ren f) ks.objs) m qsc
   {ks with tmps:=qlb (KV.ren f) ks.tmps,objs:=qmw nm.1 (qcs objs nm.1++[ob.ren f]) objs,keep:=ks.keep.map (qlb (KV.ren f))}
  | none=>ks
 else ks
def qx5 {R:Type} (nm:Nm) (ty:Nat) (cs:List KV) (i k:Nat) (ks:KSt) (K:KSt→Option R):Option R :=
 match cs[i]? with
 | some .nils=>K (Qbt nm ty cs i k ks)
 | some (.cv v)=>Qkt v (K (Qbt nm ty cs i k ks))
 | some (.arr m _ _ _)=>K (ql9 nm m ks)
 | some (.wit m)=>K (ql9 nm m ks)
 | _=>K ks
def kgrowC {R:Type} (x off k:Nat) (ks:KSt) (K:KSt→Option R):Option R :=
 match qcg ks.tmps x with
 | .ref nm o=>match qc1 ks.objs nm with
  | some (.cells ty cs)=>qx5 nm ty cs (o+off) k ks K
  | some (.whole _ v)=>qbq (Qc3 v (o+off)) (K ks)
  | _=>K ks
 | _=>K ks
def kgrow1 {R:Type} (t k:Nat) (ks:KSt) (K:KSt→Option R):Option R :=
 if qsk≤t then kgrowC (t%qsk) (t / qsk - 1) k ks K
 else match qcg ks.tmps t with
 | .nils=>K (if qvu ks t then {ks with tmps:=qjj t (.arr (t,0) k 0 0) ks.tmps,objs:=qmw t [.arr k 0 []] ks.objs} else ks)
 | .cv v=>notNil v (K ks)
 | _=>K ks
def Qng {R:Type}:List (Nat×Nat)→KSt→(KSt→Option R)→Option R
 | [],ks,K=>K ks
 |(t,k) :: l,ks,K=>kgrow1 t k ks fun ks=>Qng l ks K
def qkg (ks:KSt):List Nat :=
 let R:=qgv ks.tmps++ks.keep.flatMap qgv++qks ks.objs
 (ks.objs.filter fun p=>!p.2.isEmpty&&R.all fun nm=>nm.1 != p.1).map (·.1)
def knorm {R:Type} (asg:List Nat) (grow:List (Nat×Nat)) (ks:KSt) (K:KSt→Option R):Option R :=
 Qng grow (asg.foldl (fun ks t=>qli t ks) ks) fun ks=>K (qgw (qkg ks) ks)
def qnn (R:List Nm):SpO→SpO
 | []=>[]
 |(j,u) :: l=>match u.take (qzc R j u.length) with
  | []=>qnn R l
  | v :: vs=>(j,v :: vs) :: qnn R l
def ktrim (ks:KSt):KSt:={ks with objs:=qnn (qgv ks.tmps++ks.keep.flatMap qgv++qks ks.objs) ks.objs}
def Qha (k0:KSt) (ks:KSt):KSt :=
 let ks:={ks with tmps:=qkr (qrt k0.tmps) ks.tmps}
 qgw (qkg ks) ks
def Qk1 (live:Option (List Nat)) (ks:KSt):KSt :=
 match live with
 | none=>ks
 | some l =>
  let ks:={ks with tmps:=qkr (fun i=>l.contains i) ks.tmps}
  qgw (qkg ks) ks
def Qbg:ROp→Bool
 | .mov _ | .pick _ _ _ | .build _ _ | .nilck _ | .bin _ _ _ _ _ | .un _ _ | .conv _ _ | .toBytes _ | .ofBytes _ | .ofRune _ | .strId _ | .mkI _ _ | .lookup _ _ _ _ _ | .slice _ _ _ _ _ | .strSlice _ _ _
 | .fieldAddr _ _ | .field _ _ _ _ | .idxAddr _ _ _ | .idxAddrA _ _ _ _ | .strIdx _ _ | .extract _ _ | .len _ _ | .minmax _ _ | .tassert _ _ _ _ | .load _ _ _=>true
 | _=>false
def Qn6 (ops:List qbw) (lv:Option (List Nat)):Option Nat :=
 if (ops.any fun o=>o.guard.isSome)&&(ops.all fun o=>Qbg o.op) then
  match lv with
  | some l=>match l.filter fun t=>(ops.filterMap (·.dst)).contains t with
   | [t]=>some t
   | _=>none
  | none=>none
 else none
def qsa:List Nat→List PV→Nat→Sp→Sp
 | p :: ps,vs,i,tm=>qsa ps vs (i+1) (qjj p (.cv (nth vs i)) tm)
 | [],_,_,tm=>tm
def isNormal:Ex→Bool
 | .normal=>true
 | _=>false
def exitOf:Ex→Option Ex
 | .normal=>none
 | x=>some x
def qm7:qc6→List Nat
 | .seq a b=>qm7 a++qm7 b
 | .cond _ a b=>qm7 a++qm7 b
 | .block id b=>(qm7 b).filter fun i=>i != id
 | .loop _ _ b=>qm7 b
 | .rangeFunc _ _ _ b=>qm7 b
 | .scope b=>qm7 b
 | .exit id=>[id]
 | _=>[]
def konEx {R:Type}:List Nat→Option Ex→(Nat→Option R)→Option R
 | [],_,_=>none
 | id :: l,p,K=>qrk (isExitE p id) (K id) (konEx l p K)
abbrev KRec (E:Type):=List PV×Option Ex×E
def qfs {E:Type} (dep:Nat) (h:qbg E) (body:List PV→List PV→E→Option (Bool×KRec E)):qbg (KRec E):=fun l args r =>
 if l=dep then
  match r with
  |(vs,none,e)=>body vs args e
  | _=>none
 else
  match r with
  |(vs,p,e)=>match h l args e with
   | some (b,e)=>some (b,(vs,p,e))
   | none=>none
def Qmx {E R:Type} (asg:List Nat) (grow:List (Nat×Nat)) (k0:KSt) (K:Ex→KSt→E→Option R) (x:Ex) (ks:KSt) (e:E):Option (Sum (List PV×E) R) :=
 match x with
 | .normal=>knorm asg grow (Qha k0 ks) fun k1=>qh5 k1 fun k1=>if qyv k0 k1 then chks (Qgc k0 k1) (some (.inl (qd9 k0 k1,e))) else none
 | x=>qba (K x ks e) fun r=>some (.inr r)
noncomputable def qju (cfg:qzo):qc6→{E R:Type}→qbg E→Nat→KSt→E→(Ex→KSt→E→Option R)→Option R
 | .skip,_,_,_,_,ks,e,K=>K .normal ks e
 | .region ops none lv,E,_,h,_,ks,e,K =>
  qh5 (qgw (qre ops) ks) fun ks =>
  match Qn6 ops lv with
  | some t=>qba (kruns (E:=E) cfg h ops ops ks e fun ks _=>(qcg ks.tmps t).cl) fun z=>qh5 (Qk1 lv {ks with tmps:=qjj t (.cv z) ks.tmps}) fun ks=>K .normal ks e
  | none=>kruns cfg h ops ops ks e fun ks e=>qh5 (Qk1 lv ks) fun ks=>K .normal ks e
 | .region ops (some bef) lv,_,_,h,_,ks,e,K=>qh5 (qgw (qre ops) ks) fun ks=>Qnd cfg h ops bef [] ks e fun ks e=>qh5 (Qk1 lv ks) fun ks=>K .normal ks e
 | .seq a b,_,_,h,dep,ks,e,K=>qju cfg a h dep ks e fun x ks e=>match x with
  | .normal=>qju cfg b h dep ks e K
  | x=>K x ks e
 | .cond c a b,_,_,h,dep,ks,e,K=>match c.kv ks.tmps with
  | .lit true=>qju cfg a h dep ks e K
  | .lit false=>qju cfg b h dep ks e K
  | .cv v=>qca v (qju cfg a h dep ks e K) (qju cfg b h dep ks e K)
  | _=>none
 | .block id body,_,_,h,dep,ks,e,K=>qju cfg body h dep ks e fun x ks e=>match x with
  | .exit id'=>if id'=id then K .normal ks e else K (.exit id') ks e
  | x=>K x ks e
 | .loop asg grow body,E,R,h,dep,ks,e,K=>knorm asg grow ks fun k0=>qh5 k0 fun k0=>qbq (qb9 (qg0 k0.tmps k0.tmps))<|if qyv k0 k0=false then none else
  qf0 (σ:=List PV×E) (ρ:=R) (fun s=>qh5 (qfa k0 s.1) fun ks=>qju cfg body h dep ks s.2 (Qmx asg grow k0 K)) (qd9 k0 k0,e)
 | .rangeFunc f ps assign body,E,R,h,dep,ks,e,K =>
  match (f.kv ks.tmps).cl with
  | some fv=>if (ps.all fun p=>Nat.blt p ks.nt)&&qyv ks ks&&okX f then qba (qgd (E:=KRec E) cfg.b (qfs dep h fun vs args e =>
    qbq (qh1 args ps.length) (
     qh5 (qfa ks vs) fun k0 =>
     qh5 {k0 with tmps:=qsa ps args 0 k0.tmps,keep:=k0.tmps :: k0.keep} fun k1 =>
     qju cfg assign (R:=Bool×KRec E) h (dep+1) k1 e fun x k1 e=>match x with
      | .normal=>qju cfg body h (dep+1) k1 e fun x k2 e =>
       match k2.keep with
       | []=>none
       | sp :: kp =>
        qh5 {k2 with tmps:=sp,keep:=kp} fun k3 =>
        if qyv ks k3 then chks (Qgc ks k3) (some (isNormal x,(qd9 ks k3,exitOf x,e))) else none
      | _=>none)) dep fv (qd9 ks ks,none,e)) fun r=>qh5 (qfa ks r.1) fun k1 =>
    qrk (qj4 r.2.1) (K .normal k1 r.2.2) (qrk (qni r.2.1) (K .ret k1 r.2.2)
     (konEx (qm7 body) r.2.1 fun id=>K (.exit id) k1 r.2.2)) else none
  | none=>none
 | .exit id,_,_,_,_,ks,e,K=>K (.exit id) ks e
 | .scope b,_,_,h,dep,ks,e,K=>qju cfg b h dep ks e fun x ks e=>match x with
  | .exit id=>if id < qg7 then K (.exit id) ks e else none
  | x=>K x ks e
 | .ret,_,_,_,_,ks,e,K=>K .ret ks e
 | .norm grow,_,_,_,_,ks,e,K=>knorm [] grow (ktrim ks) fun k0=>qh5 k0 fun k0=>K .normal k0 e
 | .dreg _ _ _ _,_,_,_,_,_,_,_=>none
 | .bad,_,_,_,_,_,_,_=>none
def kisFn:KV→Bool
 | .fn _ _=>true
 | _=>false
def kisUn:KV→Bool
 | .un=>true
 | _=>false
noncomputable def qka (cfg:qzo) (nt:Nat):qc6→{R:Type}→KSt→(Ex→KSt→List Nat→Option R)→Option R
 | .dreg ops f args live,_,ks,K=>qh5 (qgw (qre ops) ks) fun ks=>kruns (E:=Unit) cfg qbc ops ops ks () fun ks _ =>
  if kisFn (f.kv ks.tmps)=true∧(Nat.ble (args.length+1) nt&&Nat.beq ks.nt nt)=true∧(f :: args).all okX=true∧(f.kv ks.tmps :: args.map (RX.kv ks.tmps)).any kisUn=false then
   qh5 (Qk1 live {ks with keep:=((f.kv ks.tmps :: args.map (RX.kv ks.tmps)).zipIdx.map fun p=>(p.2,p.1)) :: ks.keep}) fun ks=>K .normal ks [args.length]
  else none
 | .seq a b,_,ks,K=>qka cfg nt a ks fun x ks l=>match x with
  | .normal=>qka cfg nt b ks fun x ks l'=>K x ks (l'++l)
  | x=>K x ks l
 | .cond c a b,_,ks,K=>match c.kv ks.tmps with
  | .lit true=>qka cfg nt a ks K
  | .lit false=>qka cfg nt b ks K
  | .cv v=>qca v (qka cfg nt a ks K) (qka cfg nt b ks K)
  | _=>none
 | .block id body,_,ks,K=>qka cfg nt body ks fun x ks l=>match x with
  | .exit id'=>if id'=id then K .normal ks l else K (.exit id') ks l
  | x=>K x ks l
 | .scope body,_,ks,K=>if qwn body then none else qka cfg nt body ks fun x ks l=>match x with
  | .exit id=>if id < qg7 then K (.exit id) ks l else none
  | x=>K x ks l
 | c,_,ks,K=>qju cfg c (E:=Unit) qbc 0 ks () fun x ks _=>K x ks []
noncomputable def dfrsK (cfg:qzo) (nt:Nat) {R:Type}:List Nat→KSt→(KSt→Option R)→Option R
 | [],ks,K=>K ks
 | n :: l,ks,K=>match ks.keep with
  | []=>none
  | sp :: kp=>match qcg sp 0 with
   | .fn f caps=>match cfg.ioF (qfh f) with
    | some P =>
     let xs:=qlt f ((List.range n).map fun j=>qcg sp (j+1)) caps
     if cfg.flatF (qfh f)=true∧(Nat.ble (n+1) nt&&Nat.beq ks.nt nt)=true∧qjm ks.objs=true then
      qx9 cfg P (qfh f) 0 (qc1 ks.objs) xs fun out=>if out.new.isEmpty||out.slot.isSome then qh5 (qmb {ks with keep:=kp} none out) fun ks=>dfrsK cfg nt l ks K else none
     else none
    | none=>none
   | _=>none
def kresV {R:Type} (ks:KSt) (r:RRes) (K:KV→Option R):Option R :=
 match r with
 | .tmp t=>K (qcg ks.tmps t)
 | .cell t n ag=>match qcg ks.tmps t with
  | .ref nm o=>match qc1 ks.objs nm with
   | some (.cells _ cs)=>if ag then (if o+n≤cs.length then K (.agg ((cs.drop o).take n)) else none) else (match cs[o]? with | some c=>K c | none=>none)
   | some (.whole _ v)=>qba (qb2 v o n ag) fun z=>K (.cv z)
   | _=>none
  | _=>none
def qvp {R:Type} (ks:KSt):List RRes→(List KV→Option R)→Option R
 | [],K=>K []
 | r :: rs,K=>kresV ks r fun v=>qvp ks rs fun vs=>K (v :: vs)
def qvr:List KV→KV
 | [v]=>v
 | vs=>.tup vs
def qqi:Nat→Bool
 | 0=>true
 | _=>false
def ktops:KV→List Nm
 | .arr nm _ o _=>if qqi o then [nm] else []
 | .wit nm=>[nm]
 | .agg cs=>cs.flatMap fun | .arr nm _ o _=>if qqi o then [nm] else [] | .wit nm=>[nm] | _=>[]
 | .tup xs=>xs.flatMap fun | .arr nm _ o _=>if qqi o then [nm] else [] | .wit nm=>[nm] | .agg cs=>cs.flatMap (fun | .arr nm _ o _=>if qqi o then [nm] else [] | .wit nm=>[nm] | _=>[]) | _=>[]
 | _=>[]
mutual
def qs3:RSh→KV→List Nm
 | .own _,x=>match x with | .arr nm _ _ _=>[nm] | _=>[]
 | .opt _,x=>match x with | .arr nm _ _ _=>[nm] | _=>[]
 | .tup l,x=>match x with | .tup xs=>qv9 l xs | _=>[]
 | .agg l,x=>match x with | .agg xs=>qv9 l xs | _=>[]
 | .cl,_=>[]
def qv9:List RSh→List KV→List Nm
 | s :: l,x :: xs=>qs3 s x++qv9 l xs
 | _,_=>[]
end
mutual
def qq2 {R:Type} (σ:Nm→Option KOb) (S:List Nm):RSh→KV→(PV→Option R)→Option R
 | .cl,x,K=>match x.cl with
  | some u=>K u
  | none=>match x with
   | .tup xs=>match clL xs with
    | some us=>K (.tup us)
    | none=>if x.names.all fun nm=>!S.contains nm then qbq (okU (x.close (qdo σ qbn))) (K (x.close (qdo σ qbn))) else none
   | _=>if x.names.all fun nm=>!S.contains nm then qbq (okU (x.close (qdo σ qbn))) (K (x.close (qdo σ qbn))) else none
 | .own k,x,K=>match x with
  | .arr nm k' o n=>match σ nm with
   | some (.arr k'' kt xs)=>if k=k'∧k=k''∧qqi o=true then qbq (eqN n (qbu xs)) (K (.sl k xs false)) else none
   | _=>none
  | _=>none
 | .opt k,x,K=>match x with
  | .arr nm k' o n=>match σ nm with
   | some (.arr k'' kt xs)=>if k=k'∧k=k''∧qqi o=true then qbq (eqN n (qbu xs)) (K (.sl k xs false)) else none
   | _=>none
  | .nils=>K .nilS
  | .cv v=>Qkt v (K .nilS)
  | _=>none
 | .tup l,x,K=>match x with
  | .tup xs=>qn5 σ S l xs fun us=>K (.tup us)
  | _=>none
 | .agg l,x,K=>match x with
  | .agg xs=>qn5 σ S l xs fun us=>K (.agg us)
  | _=>none
def qn5 {R:Type} (σ:Nm→Option KOb) (S:List Nm):List RSh→List KV→(List PV→Option R)→Option R
 | [],[],K=>K []
 | s :: l,x :: xs,K=>qq2 σ S s x fun u=>qn5 σ S l xs fun us=>K (u :: us)
 | _,_,_=>none
end
def qtm (shut:Bool) (v:KV):List Nm :=
 match shut with
 | true=>[]
 | false=>ktops v
def qsb {R:Type} (ks:KSt) (shut:Bool) (sh:RSh) (v:KV) (K:PV→Option R):Option R :=
 let σ:=qc1 ks.objs
 let S:=qtm shut v
 let R:=ql8 σ qbn (v.names.filter fun nm=>!S.contains nm)
 if S=qs3 sh v∧qgs S=true∧(S.all (fun nm=>!R.contains nm))=true∧Qgx σ R=true then qq2 σ S sh v K else none
noncomputable def qf8 (cfg:qzo) (fn:RFn) (sh:RSh) {E:Type} (h:qbg E) (dep:Nat) (args:List KV) (e:E):Option (PV×E) :=
 qh5 {nt:=fn.nt,tmps:=args.zipIdx.map fun p=>(p.2,p.1),objs:=[],keep:=[]} fun ks=>qju cfg fn.code h dep ks e fun x ks e=>match x with
  | .exit _=>none
  | _=>qvp ks fn.res fun vs=>qsb ks fn.shut sh (qvr vs) fun v=>some (v,e)
def Qbq:KV→Option Nm
 | .wit nm=>some nm
 | .arr nm k o n=>if k=1∧o=0∧n=0 then some nm else none
 | _=>none
def Qk5 (σ:Nm→Option KOb) (B:List (Nm×Nm)) (nm:Nm):KOb :=
 (((σ nm).getD qsc).off fun m=>!(B.map (·.1)).contains m).ren fun m=>(B.lookup m).getD m
def Qdi (σ:Nm→Option KOb) (A:List (Nm×Nm)) (v:KV):List Nm :=
 qgh ((ql8 σ qbn (v.names++A.flatMap fun p=>((σ p.1).map KOb.names).getD [])).filter fun m=>!(A.map (·.1)).contains m)
def qlj (k:Nat) (sp:Sp):List (Nm×Nm):=(qhv k).zipIdx.map fun p=>((Qbq (qcg sp p.2)).getD (0,p.2),p.1)
def Qdj (k:Nat) (sp:Sp):List Nm:=((qhv k).zipIdx.filter fun p=>(Qbq (qcg sp p.2)).isNone).map (·.1)
def qn3 (p x:KOb):List PV :=
 match x with
 | .whole _ v=>[.agg (qfu v)]
 | x=>qg1 p x
def ql6:List KOb→List KOb→List PV
 | x :: xs,y :: ys=>qn3 x y++ql6 xs ys
 | _,_=>[]
def Qg1 (P:qkc) (ks:KSt) (v:KV):Option (List PV) :=
 match ks.keep with
 | [sp] =>
  let A:=qlj P.ins.length sp
  let N:=Qdi (qc1 ks.objs) A v
  let B:=A++N.zipIdx.map fun p=>(p.1,(1,0+p.2))
  let u:=(v.off fun m=>!(B.map (·.1)).contains m).ren fun m=>(B.lookup m).getD m
  let os:=A.map fun p=>Qk5 (qc1 ks.objs) B p.1
  let ns:=N.map (Qk5 (qc1 ks.objs) B)
  if qgs (B.map (·.1))=true∧Qdj P.ins.length sp=P.gone.map (fun j=>(0,j))∧(qhj P.res u&&(qhp P.outs os&&qhp P.news ns))=true then
   some (qdh P.res u++(ql6 P.outs os++ql6 P.news ns))
  else none
 | _=>none
noncomputable def qnf (cfg:qzo) (fn:RFn) (P:qkc) (vs:List PV):Option (List PV) :=
 let a:=qh6 P.args vs 0
 let b:=qdc P.ins vs a.2
 qh5 {nt:=fn.nt,tmps:=a.1.zipIdx.map fun p=>(p.2,p.1),objs:=[(0,b.1)],keep:=[((List.range P.ins.length).filter fun j=>!fn.gone.contains j).map fun j=>(j,.wit (0,j))]} fun ks =>
 if noD fn.code then qju (E:=Unit) cfg fn.code qbc 0 ks () fun x ks _=>match x with
  | .exit _=>none
  | _=>qvp ks fn.res fun vs=>Qg1 P ks (qvr vs)
 else qka cfg fn.nt fn.code ks fun x ks l=>match x with
  | .exit _=>none
  | _=>dfrsK cfg fn.nt l ks fun ks=>qvp ks fn.res fun vs=>Qg1 P ks (qvr vs)
end Go.Ab


namespace Go.Ab
theorem qd2 {xs:List PV}:qb3 xs=true↔∀ x∈xs,okV x=true:=by
 induction xs with
 | nil=>simp[qb3]
 | cons x xs ih=>simp[qb3,ih]
mutual
theorem qgb:∀ {v:PV},okV v=true→v.names=[]∧v.hasY=false
 | .undef,_ | .bool _,_ | .int _ _,_ | .str _,_ | .nilS,_ | .nilP,_ | .nilF,_ | .nilI,_ | .nilM,_ | .glob _ _,_=>by simp[PV.names,PV.hasY]
 | .sl _ xs _,h=>by simp only[okV] at h;simp[PV.names,PV.hasY,(qb4 h).2]
 | .ptr cs _,h=>by simp only[okV] at h;simp[PV.names,PV.hasY,(qb4 h).2]
 | .imap es,h=>by simp only[okV] at h;simp[PV.names,PV.hasY,(qb4 h).2]
 | .agg cs,h=>by simp only[okV] at h;simp[PV.names,PV.hasY,qb4 h]
 | .fn _ cap,h=>by simp only[okV] at h;simp[PV.names,PV.hasY,qb4 h]
 | .tup xs,h=>by simp only[okV] at h;simp[PV.names,PV.hasY,qb4 h]
 | .iface _ x,h=>by simp only[okV] at h;simp[PV.names,PV.hasY,qgb h]
 | .yld _,h | .ref _ _,h | .aref _ _ _ _,h | .arr _ _ _ _,h | .mp _,h | .it _,h=>by simp[okV] at h
theorem qb4:∀ {xs:List PV},qb3 xs=true→qbm xs=[]∧qdi xs=false
 | [],_=>by simp[qbm,qdi]
 | x :: xs,h=>by
  simp only[qb3,Bool.and_eq_true] at h
  simp[qbm,qdi,qgb h.1,qb4 h.2]
end
theorem qlf {v:PV} (h:v.names=[]) (f:Nm→Option (Option Ob)):v.sub f=v:=by
 rw[PV.sub_congr (g:=fun _=>none) v (by rw[h];simp)]
 exact sub_id v
where
 sub_id:∀ (x:PV),x.sub (fun _=>none)=x
  | .undef | .bool _ | .int _ _ | .str _ | .nilS | .nilP | .nilF | .nilI | .nilM | .sl _ _ _ | .ptr _ _ | .yld _ | .imap _ | .glob _ _ | .ref _ _ | .aref _ _ _ _ | .arr _ _ _ _ | .mp _ | .it _=>by simp[PV.sub]
  | .agg cs=>by simp[PV.sub,subL_id cs]
  | .iface t x=>by simp[PV.sub,sub_id x]
  | .fn g cap=>by simp[PV.sub,subL_id cap]
  | .tup xs=>by simp[PV.sub,subL_id xs]
 subL_id:∀ (xs:List PV),qfx (fun _=>none) xs=xs
  | []=>rfl
  | x :: xs=>by simp[qfx,sub_id x,subL_id xs]
mutual
theorem qm0:∀ {v:PV},v.names=[]→∀ (f:Nm→Nm),v.ren f=v
 | .undef,_,_ | .bool _,_,_ | .int _ _,_,_ | .str _,_,_ | .nilS,_,_ | .nilP,_,_ | .nilF,_,_ | .nilI,_,_ | .nilM,_,_ | .sl _ _ _,_,_ | .ptr _ _,_,_ | .yld _,_,_ | .imap _,_,_ | .glob _ _,_,_=>by simp[PV.ren]
 | .agg cs,h,f=>by simp[PV.names] at h;simp[PV.ren,qnx h f]
 | .iface t x,h,f=>by simp[PV.names] at h;simp[PV.ren,qm0 h f]
 | .fn g cap,h,f=>by simp[PV.names] at h;simp[PV.ren,qnx h f]
 | .tup xs,h,f=>by simp[PV.names] at h;simp[PV.ren,qnx h f]
 | .ref _ _,h,_ | .aref _ _ _ _,h,_ | .arr _ _ _ _,h,_ | .mp _,h,_ | .it _,h,_=>by simp[PV.names] at h
theorem qnx:∀ {xs:List PV},qbm xs=[]→∀ (f:Nm→Nm),qhy f xs=xs
 | [],_,_=>rfl
 | x :: xs,h,f=>by simp[qbm] at h;simp[qhy,qm0 h.1 f,qnx h.2 f]
end
mutual
def KV.ok:KV→Prop
 | .cv v=>okV v=true
 | .agg cs=>qf6 cs
 | .iface _ x=>x.ok
 | .fn _ cap=>qf6 cap
 | .tup xs=>qf6 xs
 | .un | .sk | .lit _ | .nils | .yld _ | .ref _ _ | .aref _ _ _ _ | .arr _ _ _ _ | .mp _ | .it _ | .wit _=>True
def qf6:List KV→Prop
 | []=>True
 | x :: xs=>x.ok∧qf6 xs
end
theorem qct {xs:List KV}:qf6 xs↔∀ x∈xs,x.ok:=by
 induction xs with
 | nil=>simp[qf6]
 | cons x xs ih=>simp[qf6,ih]
theorem qfq (xs:List KV):pvL xs=xs.map KV.pv:=by
 induction xs with
 | nil=>rfl
 | cons x xs ih=>simp[pvL,ih]
mutual
theorem KV.pv_names:∀ {x:KV},x.ok→x.pv.names=x.names
 | .un,_ | .sk,_ | .lit _,_ | .nils,_ | .yld _,_ | .ref _ _,_ | .aref _ _ _ _,_ | .arr _ _ _ _,_ | .mp _,_ | .it _,_ | .wit _,_=>by simp[KV.pv,PV.names,KV.names,qbm]
 | .cv v,h=>by simp[KV.pv,KV.names,(qgb h).1]
 | .agg cs,h=>by simp[KV.pv,PV.names,KV.names,qdy h]
 | .iface t x,h=>by simp[KV.pv,PV.names,KV.names,KV.pv_names (x:=x) h]
 | .fn f cap,h=>by simp[KV.pv,PV.names,KV.names,qdy h]
 | .tup xs,h=>by simp[KV.pv,PV.names,KV.names,qdy h]
theorem qdy:∀ {xs:List KV},qf6 xs→qbm (pvL xs)=qdn xs
 | [],_=>rfl
 | x :: xs,h=>by simp[pvL,qbm,qdn,KV.pv_names h.1,qdy h.2]
end
mutual
theorem KV.pv_hasY:∀ {x:KV},x.ok→x.pv.hasY=x.hasY
 | .un,_ | .sk,_ | .lit _,_ | .nils,_ | .yld _,_ | .ref _ _,_ | .aref _ _ _ _,_ | .arr _ _ _ _,_ | .mp _,_ | .it _,_ | .wit _,_=>by simp[KV.pv,PV.hasY,KV.hasY,qdi]
 | .cv v,h=>by simp[KV.pv,KV.hasY,(qgb h).2]
 | .agg cs,h=>by simp[KV.pv,PV.hasY,KV.hasY,qm1 h]
 | .iface t x,h=>by simp[KV.pv,PV.hasY,KV.hasY,KV.pv_hasY (x:=x) h]
 | .fn f cap,h=>by simp[KV.pv,PV.hasY,KV.hasY,qm1 h]
 | .tup xs,h=>by simp[KV.pv,PV.hasY,KV.hasY,qm1 h]
theorem qm1:∀ {xs:List KV},qf6 xs→qdi (pvL xs)=qj9 xs
 | [],_=>rfl
 | x :: xs,h=>by simp[pvL,qdi,qj9,KV.pv_hasY h.1,qm1 h.2]
end
mutual
theorem KV.cl_pv:∀ {x:KV} {v:PV},x.cl=some v→x.pv=v
 | .lit b,v,h=>by simp[KV.cl] at h;simp[KV.pv,h]
 | .nils,v,h=>by simp[KV.cl] at h;simp[KV.pv,h]
 | .cv u,v,h=>by simp[KV.cl] at h;simp[KV.pv,h]
 | .agg cs,v,h=>by
  simp only[KV.cl,Option.map_eq_some_iff] at h
  obtain⟨vs,hv,rfl⟩:=h
  simp[KV.pv,qv4 hv]
 | .iface t x,v,h=>by
  simp only[KV.cl,Option.map_eq_some_iff] at h
  obtain⟨u,hv,rfl⟩:=h
  simp[KV.pv,KV.cl_pv hv]
 | .fn f cap,v,h=>by
  simp only[KV.cl,Option.map_eq_some_iff] at h
  obtain⟨vs,hv,rfl⟩:=h
  simp[KV.pv,qv4 hv]
 | .un,v,h | .sk,v,h | .yld _,v,h | .ref _ _,v,h | .aref _ _ _ _,v,h | .arr _ _ _ _,v,h | .mp _,v,h | .it _,v,h | .wit _,v,h | .tup _,v,h=>by simp[KV.cl] at h
theorem qv4:∀ {xs:List KV} {vs:List PV},clL xs=some vs→pvL xs=vs
 | [],vs,h=>by simp[clL] at h;simp[pvL,h]
 | x :: xs,vs,h=>by
  simp only[clL] at h
  split at h
  ·rename_i v us h1 h2
   cases h
   simp[pvL,KV.cl_pv h1,qv4 h2]
  ·cases h
end
mutual
theorem KV.cl_ok:∀ {x:KV} {v:PV},x.ok→x.cl=some v→okV v=true
 | .lit b,v,_,h=>by simp[KV.cl] at h;subst h;rfl
 | .nils,v,_,h=>by simp[KV.cl] at h;subst h;rfl
 | .cv u,v,hx,h=>by simp[KV.cl] at h;subst h;exact hx
 | .agg cs,v,hx,h=>by
  simp only[KV.cl,Option.map_eq_some_iff] at h
  obtain⟨vs,hv,rfl⟩:=h
  simpa[okV] using qsz (xs:=cs) hx hv
 | .iface t x,v,hx,h=>by
  simp only[KV.cl,Option.map_eq_some_iff] at h
  obtain⟨u,hv,rfl⟩:=h
  simpa[okV] using KV.cl_ok (x:=x) hx hv
 | .fn f cap,v,hx,h=>by
  simp only[KV.cl,Option.map_eq_some_iff] at h
  obtain⟨vs,hv,rfl⟩:=h
  simpa[okV] using qsz (xs:=cap) hx hv
 | .un,v,_,h | .sk,v,_,h | .yld _,v,_,h | .ref _ _,v,_,h | .aref _ _ _ _,v,_,h | .arr _ _ _ _,v,_,h | .mp _,v,_,h | .it _,v,_,h | .wit _,v,_,h | .tup _,v,_,h=>by simp[KV.cl] at h
theorem qsz:∀ {xs:List KV} {vs:List PV},qf6 xs→clL xs=some vs→qb3 vs=true
 | [],vs,_,h=>by simp[clL] at h;subst h;rfl
 | x :: xs,vs,hx,h=>by
  simp only[clL] at h
  split at h
  ·rename_i v us h1 h2
   cases h
   simp[qb3,KV.cl_ok hx.1 h1,qsz hx.2 h2]
  ·cases h
end
def qqe (p:Nm→Bool):Nm→Option (Option Ob):=fun m=>if p m=true then some none else none
mutual
theorem KV.off_pv (p:Nm→Bool):∀ {x:KV},x.ok→(x.off p).pv=x.pv.sub (qqe p)
 | .un,_ | .sk,_ | .lit _,_ | .nils,_ | .yld _,_=>by simp[KV.off,KV.pv,PV.sub,qfx]
 | .cv v,h=>by simp[KV.off,KV.pv,qlf (qgb h).1]
 | .ref nm _,_ | .aref nm _ _ _,_ | .arr nm _ _ _,_ | .mp nm,_ | .it nm,_ | .wit nm,_=>by
  simp only[KV.off,KV.pv,PV.sub,qqe]
  cases hp:p nm<;>simp[KV.pv]
 | .agg cs,h=>by simp[KV.off,KV.pv,PV.sub,qxu p h]
 | .iface t x,h=>by simp[KV.off,KV.pv,PV.sub,KV.off_pv p (x:=x) h]
 | .fn f cap,h=>by simp[KV.off,KV.pv,PV.sub,qxu p h]
 | .tup xs,h=>by simp[KV.off,KV.pv,PV.sub,qxu p h]
theorem qxu (p:Nm→Bool):∀ {xs:List KV},qf6 xs→pvL (offL p xs)=qfx (qqe p) (pvL xs)
 | [],_=>rfl
 | x :: xs,h=>by simp[offL,pvL,qfx,KV.off_pv p h.1,qxu p h.2]
end
mutual
theorem KV.off_ok (p:Nm→Bool):∀ {x:KV},x.ok→(x.off p).ok
 | .un,_ | .sk,_ | .lit _,_ | .nils,_ | .yld _,_=>by simp[KV.off,KV.ok]
 | .cv v,h=>by simpa[KV.off,KV.ok] using h
 | .ref nm _,_ | .aref nm _ _ _,_ | .arr nm _ _ _,_ | .mp nm,_ | .it nm,_ | .wit nm,_=>by
  simp only[KV.off]
  cases hp:p nm<;>simp[KV.ok]
 | .agg cs,h=>by simpa[KV.off,KV.ok] using qxv p h
 | .iface t x,h=>by simpa[KV.off,KV.ok] using KV.off_ok p (x:=x) h
 | .fn f cap,h=>by simpa[KV.off,KV.ok] using qxv p h
 | .tup xs,h=>by simpa[KV.off,KV.ok] using qxv p h
theorem qxv (p:Nm→Bool):∀ {xs:List KV},qf6 xs→qf6 (offL p xs)
 | [],_=>trivial
 | x :: xs,h=>⟨KV.off_ok p h.1,qxv p h.2⟩
end
mutual
theorem KV.ren_pv (f:Nm→Nm):∀ {x:KV},x.ok→(x.ren f).pv=x.pv.ren f
 | .un,_ | .sk,_ | .lit _,_ | .nils,_ | .yld _,_ | .ref _ _,_ | .aref _ _ _ _,_ | .arr _ _ _ _,_ | .mp _,_ | .it _,_ | .wit _,_=>by simp[KV.ren,KV.pv,PV.ren,qhy]
 | .cv v,h=>by simp[KV.ren,KV.pv,qm0 (qgb h).1]
 | .agg cs,h=>by simp[KV.ren,KV.pv,PV.ren,qtd f h]
 | .iface t x,h=>by simp[KV.ren,KV.pv,PV.ren,KV.ren_pv f (x:=x) h]
 | .fn g cap,h=>by simp[KV.ren,KV.pv,PV.ren,qtd f h]
 | .tup xs,h=>by simp[KV.ren,KV.pv,PV.ren,qtd f h]
theorem qtd (f:Nm→Nm):∀ {xs:List KV},qf6 xs→pvL (qqa f xs)=qhy f (pvL xs)
 | [],_=>rfl
 | x :: xs,h=>by simp[qqa,pvL,qhy,KV.ren_pv f h.1,qtd f h.2]
end
mutual
theorem KV.ren_ok (f:Nm→Nm):∀ {x:KV},x.ok→(x.ren f).ok
 | .un,_ | .sk,_ | .lit _,_ | .nils,_ | .yld _,_ | .ref _ _,_ | .aref _ _ _ _,_ | .arr _ _ _ _,_ | .mp _,_ | .it _,_ | .wit _,_=>by simp[KV.ren,KV.ok]
 | .cv v,h=>by simpa[KV.ren,KV.ok] using h
 | .agg cs,h=>by simpa[KV.ren,KV.ok] using qp1 f h
 | .iface t x,h=>by simpa[KV.ren,KV.ok] using KV.ren_ok f (x:=x) h
 | .fn g cap,h=>by simpa[KV.ren,KV.ok] using qp1 f h
 | .tup xs,h=>by simpa[KV.ren,KV.ok] using qp1 f h
theorem qp1 (f:Nm→Nm):∀ {xs:List KV},qf6 xs→qf6 (qqa f xs)
 | [],_=>trivial
 | x :: xs,h=>⟨KV.ren_ok f h.1,qp1 f h.2⟩
end
def qmu (g:Nm→Option Ob):Nm→Option (Option Ob):=fun m=>some (g m)
mutual
theorem KV.close_pv (g:Nm→Option Ob):∀ {x:KV},x.ok→x.close g=x.pv.sub (qmu g)
 | .un,_ | .sk,_ | .lit _,_ | .nils,_ | .yld _,_=>by simp[KV.close,KV.pv,PV.sub,qfx]
 | .cv v,h=>by simp[KV.close,KV.pv,qlf (qgb h).1]
 | .ref nm o,_=>by
  simp only[KV.close,KV.pv,PV.sub,qmu]
  cases g nm with
  | none=>rfl
  | some ob=>cases ob<;>simp[Qkj]
 | .aref nm k i o,_=>by
  simp only[KV.close,KV.pv,PV.sub,qmu]
  cases g nm with
  | none=>rfl
  | some ob =>
   cases ob with
   | arr k' kt xs =>
    simp only[arefO]
    by_cases hk:k=k'
    ·simp only[hk,if_true];cases xs[i]?<;>rfl
    ·simp[hk]
   | _=>rfl
 | .arr nm k o n,_=>by
  simp only[KV.close,KV.pv,PV.sub,qmu]
  cases g nm with
  | none=>rfl
  | some ob=>cases ob<;>simp[slO]
 | .mp nm,_=>by
  simp only[KV.close,KV.pv,PV.sub,qmu]
  cases g nm with
  | none=>rfl
  | some ob=>cases ob<;>rfl
 | .it nm,_=>by simp[KV.close,KV.pv,PV.sub,qmu]
 | .wit nm,_=>by
  simp only[KV.close,KV.pv,PV.sub,qmu]
  cases g nm with
  | none=>rfl
  | some ob=>cases ob<;>simp[slO]
 | .agg cs,h=>by simp[KV.close,KV.pv,PV.sub,qmp g h]
 | .iface t x,h=>by simp[KV.close,KV.pv,PV.sub,KV.close_pv g (x:=x) h]
 | .fn f cap,h=>by simp[KV.close,KV.pv,PV.sub,qmp g h]
 | .tup xs,h=>by simp[KV.close,KV.pv,PV.sub,qmp g h]
theorem qmp (g:Nm→Option Ob):∀ {xs:List KV},qf6 xs→qk7 g xs=qfx (qmu g) (pvL xs)
 | [],_=>rfl
 | x :: xs,h=>by simp[qk7,pvL,qfx,KV.close_pv g h.1,qmp g h.2]
end
def qha (p:Nm→Bool) (g:Nm→Option Ob):Nm→Option (Option Ob):=fun m=>if p m=true then some (g m) else none
mutual
theorem KV.frz_pv (p:Nm→Bool) (g:Nm→Option Ob):∀ {x:KV},x.ok→(x.frz p g).pv=x.pv.sub (qha p g)
 | .un,_ | .sk,_ | .lit _,_ | .nils,_ | .yld _,_=>by simp[KV.frz,KV.pv,PV.sub,qfx]
 | .cv v,h=>by simp[KV.frz,KV.pv,qlf (qgb h).1]
 | .ref nm o,_=>by
  cases hp:p nm with
  | false=>simp[KV.frz,hp,KV.pv,PV.sub,qha]
  | true =>
   have:=KV.close_pv g (x:=.ref nm o) trivial
   simp only[KV.frz,hp,if_true,KV.pv];rw[this];simp[KV.pv,PV.sub,qha,qmu,hp]
 | .aref nm k i o,_=>by
  cases hp:p nm with
  | false=>simp[KV.frz,hp,KV.pv,PV.sub,qha]
  | true =>
   have:=KV.close_pv g (x:=.aref nm k i o) trivial
   simp only[KV.frz,hp,if_true,KV.pv];rw[this];simp[KV.pv,PV.sub,qha,qmu,hp]
 | .arr nm k o n,_=>by
  cases hp:p nm with
  | false=>simp[KV.frz,hp,KV.pv,PV.sub,qha]
  | true =>
   have:=KV.close_pv g (x:=.arr nm k o n) trivial
   simp only[KV.frz,hp,if_true,KV.pv];rw[this];simp[KV.pv,PV.sub,qha,qmu,hp]
 | .mp nm,_=>by
  cases hp:p nm with
  | false=>simp[KV.frz,hp,KV.pv,PV.sub,qha]
  | true =>
   have:=KV.close_pv g (x:=.mp nm) trivial
   simp only[KV.frz,hp,if_true,KV.pv];rw[this];simp[KV.pv,PV.sub,qha,qmu,hp]
 | .it nm,_=>by
  cases hp:p nm with
  | false=>simp[KV.frz,hp,KV.pv,PV.sub,qha]
  | true=>simp[KV.frz,hp,KV.pv,PV.sub,qha]
 | .wit nm,_=>by
  cases hp:p nm with
  | false=>simp[KV.frz,hp,KV.pv,PV.sub,qha]
  | true =>
   have:=KV.close_pv g (x:=.wit nm) trivial
   simp only[KV.frz,hp,if_true,KV.pv];rw[this];simp[KV.pv,PV.sub,qha,qmu,hp]
 | .agg cs,h=>by simp[KV.frz,KV.pv,PV.sub,qyj p g h]
 | .iface t x,h=>by simp[KV.frz,KV.pv,PV.sub,KV.frz_pv p g (x:=x) h]
 | .fn f cap,h=>by simp[KV.frz,KV.pv,PV.sub,qyj p g h]
 | .tup xs,h=>by simp[KV.frz,KV.pv,PV.sub,qyj p g h]
theorem qyj (p:Nm→Bool) (g:Nm→Option Ob):∀ {xs:List KV},qf6 xs→pvL (frzL p g xs)=qfx (qha p g) (pvL xs)
 | [],_=>rfl
 | x :: xs,h=>by simp[frzL,pvL,qfx,KV.frz_pv p g h.1,qyj p g h.2]
end
def Ob.shut (o:Ob):Prop :=
 match o with
 | .cells _ cs=>qb3 cs=true
 | .arr _ _ xs=>qb3 xs=true
 | .map es=>qb3 es=true
 | .siter _ _=>True
theorem qco {v:PV} (h:okV v=true):qb3 v.cells=true:=by
 cases v<;>simp_all [PV.cells,qb3,okV]
theorem Qc0 {xs ys:List PV} (h:qb3 xs=true) (hs:∀ y∈ys,y∈xs):qb3 ys=true:=qd2.2 fun y hy=>qd2.1 h y (hs y hy)
theorem qgl {xs:List PV} (h:qb3 xs=true) (n:Nat):qb3 (xs.take n)=true:=Qc0 h fun _ hy=>List.mem_of_mem_take hy
theorem qhk {xs:List PV} (h:qb3 xs=true) (n:Nat):qb3 (xs.drop n)=true:=Qc0 h fun _ hy=>List.mem_of_mem_drop hy
theorem qfd {xs ys:List PV} (h:qb3 xs=true) (h':qb3 ys=true):qb3 (xs++ys)=true :=
 qd2.2 fun y hy=>(List.mem_append.1 hy).elim (qd2.1 h y) (qd2.1 h' y)
theorem qjg {xs:List PV} (h:qb3 xs=true) {i:Nat} {x:PV} (hx:xs[i]?=some x):okV x=true:=qd2.1 h x (List.mem_of_getElem? hx)
theorem Qmy {xs:List PV} (h:qb3 xs=true) (i:Nat) {x:PV} (hx:okV x=true):qb3 (xs.set i x)=true :=
 qd2.2 fun y hy=>(List.mem_or_eq_of_mem_set hy).elim (qd2.1 h y) fun e=>e ▸ hx
mutual
theorem KV.close_ok {g:Nm→Option Ob} (hg:∀ nm ob,g nm=some ob→ob.shut):∀ {x:KV},x.ok→x.hasY=false→okV (x.close g)=true
 | .un,_,_ | .sk,_,_ | .lit _,_,_ | .nils,_,_=>by simp[KV.close,okV,qb3]
 | .yld _,_,h=>by simp[KV.hasY] at h
 | .cv v,h,_=>by have:okV v=true:=h;simpa[KV.close] using this
 | .ref nm o,_,_=>by
  simp only[KV.close]
  cases hn:g nm with
  | none=>rfl
  | some ob =>
   cases ob with
   | cells ty cs =>
    have:qb3 cs=true:=hg _ _ hn
    simp only[Qkj]
    split
    ·simpa[okV] using this
    ·rfl
   | _=>rfl
 | .aref nm k i o,_,_=>by
  simp only[KV.close]
  cases hn:g nm with
  | none=>rfl
  | some ob =>
   cases ob with
   | arr k' kt xs =>
    have:qb3 xs=true:=hg _ _ hn
    simp only[arefO]
    split
    ·split
     ·rename_i x hx
      split
      ·simpa[okV] using qco (qjg this hx)
      ·rfl
     ·rfl
    ·rfl
   | _=>rfl
 | .arr nm k o n,_,_=>by
  simp only[KV.close]
  cases hn:g nm with
  | none=>rfl
  | some ob =>
   cases ob with
   | arr k' kt xs =>
    have:qb3 xs=true:=hg _ _ hn
    simp only[slO]
    split
    ·simpa[okV] using qgl (qhk this o) n
    ·rfl
   | _=>rfl
 | .mp nm,_,_=>by
  simp only[KV.close]
  cases hn:g nm with
  | none=>rfl
  | some ob =>
   cases ob with
   | map es =>
    have:qb3 es=true:=hg _ _ hn
    simpa[okV] using this
   | _=>rfl
 | .it nm,_,_=>by simp[KV.close,okV,PV.names,PV.hasY]
 | .wit nm,_,_=>by
  simp only[KV.close]
  cases hn:g nm with
  | none=>rfl
  | some ob =>
   cases ob with
   | arr k' kt xs =>
    have:qb3 xs=true:=hg _ _ hn
    simp only[slO]
    split
    ·simpa[okV] using qgl (qhk this 0) 0
    ·rfl
   | _=>rfl
 | .agg cs,h,hy=>by simpa[KV.close,okV] using qjw hg (xs:=cs) h (by simpa[KV.hasY] using hy)
 | .iface t x,h,hy=>by simpa[KV.close,okV] using KV.close_ok hg (x:=x) h (by simpa[KV.hasY] using hy)
 | .fn f cap,h,hy=>by simpa[KV.close,okV] using qjw hg (xs:=cap) h (by simpa[KV.hasY] using hy)
 | .tup xs,h,hy=>by simpa[KV.close,okV] using qjw hg (xs:=xs) h (by simpa[KV.hasY] using hy)
theorem qjw {g:Nm→Option Ob} (hg:∀ nm ob,g nm=some ob→ob.shut):∀ {xs:List KV},qf6 xs→qj9 xs=false→qb3 (qk7 g xs)=true
 | [],_,_=>rfl
 | x :: xs,h,hy=>by
  simp only[qj9,Bool.or_eq_false_iff] at hy
  simp[qk7,qb3,KV.close_ok hg h.1 hy.1,qjw hg h.2 hy.2]
end
mutual
theorem KV.frz_ok {p:Nm→Bool} {g:Nm→Option Ob} (hg:∀ nm ob,g nm=some ob→ob.shut):∀ {x:KV},x.ok→(x.frz p g).ok
 | .un,_ | .sk,_ | .lit _,_ | .nils,_ | .yld _,_=>by simp[KV.frz,KV.ok]
 | .cv v,h=>by simpa[KV.frz,KV.ok] using h
 | .ref nm o,_=>by
  simp only[KV.frz];split
  ·exact KV.close_ok hg (x:=.ref nm o) trivial rfl
  ·trivial
 | .aref nm k i o,_=>by
  simp only[KV.frz];split
  ·exact KV.close_ok hg (x:=.aref nm k i o) trivial rfl
  ·trivial
 | .arr nm k o n,_=>by
  simp only[KV.frz];split
  ·exact KV.close_ok hg (x:=.arr nm k o n) trivial rfl
  ·trivial
 | .mp nm,_=>by
  simp only[KV.frz];split
  ·exact KV.close_ok hg (x:=.mp nm) trivial rfl
  ·trivial
 | .it nm,_=>by
  simp only[KV.frz];split<;>trivial
 | .wit nm,_=>by
  simp only[KV.frz];split
  ·exact KV.close_ok hg (x:=.wit nm) trivial rfl
  ·trivial
 | .agg cs,h=>by simpa[KV.frz,KV.ok] using qyk hg h
 | .iface t x,h=>by simpa[KV.frz,KV.ok] using KV.frz_ok hg (x:=x) h
 | .fn f cap,h=>by simpa[KV.frz,KV.ok] using qyk hg h
 | .tup xs,h=>by simpa[KV.frz,KV.ok] using qyk hg h
theorem qyk {p:Nm→Bool} {g:Nm→Option Ob} (hg:∀ nm ob,g nm=some ob→ob.shut):∀ {xs:List KV},qf6 xs→qf6 (frzL p g xs)
 | [],_=>trivial
 | x :: xs,h=>⟨KV.frz_ok hg h.1,qyk hg h.2⟩
end
end Go.Ab

