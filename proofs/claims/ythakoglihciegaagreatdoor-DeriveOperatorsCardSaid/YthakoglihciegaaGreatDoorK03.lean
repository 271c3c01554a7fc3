/- Part 3 of a proof: laws of a machine. -/
import Derived.Test.YthakoglihciegaaGreatDoorK02
import Derived.Test.YthakoglihciegaaGreatDoorK01
set_option linter.all false

namespace Go.Ab
variable{E:Type} {D dep k n:Nat} {F:Fence} {G:FR} {Hd:Nat->Option Obj} {L:AK} {O0:Cw} {P:jd} {R Rr:Ending->i7->Prop} {args:jz} {c:Code} {cs:List Frame} {ds:List jf} {f:RX} {fn:Func} {g:Option (List (Nat×Nat))} {l:jm} {lp:Nat->jj} {o:Oper} {r:BJ} {jU:St} {jH:List i8} {tmps:Array i8} {u:FrameMode} {w w0:i7} {x:Ex} {e:E} {h:AA E}
inductive Iq (nt:Nat):jm->List i8->List jf->Prop
 | nil:Iq nt [] [] []
 | cons (k:Nat) (l:jm) (us pad:List i8) (rs:List jf) (fn:Fn) (fst jX:Array i8) (args:List i8) (hk:args.length=k) (hn:1+k+pad.length=nt) (h:Iq nt l us rs) :
   Iq nt (k :: l) (.func fn fst jX :: (args++pad)++us) ({target:=.fn fn jX,args:=fst++args.toArray} :: rs)
theorem Iq.append {nt:Nat} {l':jm} {us pw:List i8} {rs oB:List jf} (h:Iq nt l us rs) (h':Iq nt l' pw oB):Iq nt (l++l') (us++pw) (rs++oB):=by
 induction h with
 | nil=>exact h'
 | cons k l us pad rs fn fst jX args hk hn _ ih =>
  have:=Iq.cons k _ _ pad _ fn fst jX args hk hn ih;simpa[eL] using this
theorem Jo.more {M:Bp} {r1 r2:jv} {Z:St} {e2:E} (T:Jo M h dep r1 l Z e jU e2):Jo M h dep (r1++r2) l Z e jU e2:=by
 induction T with
 | nil Z e=>exact .nil Z e
 | cons i rest o Z xn jU e e1 e2 ho hs _ ih =>
  have hi:i < r1.length:=(dU.1 ho).1;refine .cons i rest o Z xn jU e e1 e2 (by rw[fu hi];exact ho) ?_ ih
  have hw:∀ b,Ew r1 o Z.tmps=some b->Ew (r1++r2) o Z.tmps=some b:=by
   intro b hb;unfold Ew at hb |-;split at hb;{exact hb}
   ·rename_i j want hg;cases hj:r1[j]? with
    | none=>rw[hj] at hb;cases hb
    | some p =>
     have jP:j < r1.length:=(dU.1 hj).1;rw[hj] at hb;rw[fu jP,hj];exact hb
  unfold stepG at hs |-;cases hq:Ew r1 o Z.tmps with
  | none=>rw[hq] at hs;cases hs
  | some b =>
   rw[hq] at hs;rw[hw b hq];cases b<;>exact hs
section
variable {cx:Cx} {dd:E5} {M:Bp} {fuel nt:Nat}
theorem xQ (g:List (Nat×Nat)) (f:RX) (ps:jm) (a b:BJ) (Z:St):Bt M fuel nt (.seq (.norm g) (.rangeFunc f ps a b)) Z=Hk (AT M fuel (.seq (.norm g) (.rangeFunc f ps a b)) AI 0 Z ()):=by
 have e2:AT M fuel (.seq (.norm g) (.rangeFunc f ps a b)) AI 0 Z ()=AT M fuel (.rangeFunc f ps a b) AI 0 (norm [] g (trim Z)) ():=rfl;rw[e2]
 show (match Bt M fuel nt (.rangeFunc f ps a b) (norm [] g (trim Z)) with
  | some (x,Z,l')=>some (x,Z,l'++[])
  | none=>none)=_
 rw[show Bt M fuel nt (.rangeFunc f ps a b) (norm [] g (trim Z))=Hk (AT M fuel (.rangeFunc f ps a b) AI 0 (norm [] g (trim Z)) ()) from rfl];cases AT M fuel (.rangeFunc f ps a b) AI 0 (norm [] g (trim Z)) () with
 | none=>rfl
 | some p=>rfl
theorem T1:∀ (c:BJ) (Z:St) (r:Ex×St×jm),En c=true->Bt M fuel nt c Z=some r->Hk (AT M fuel c AI 0 Z ())=some r:=by
 intro c;induction c with
 | seq a b ov ow =>
  intro Z r hn jL;simp only[En,dF] at hn;simp only[Bt] at jL;cases ha:Bt M fuel nt a Z with
  | none=>rw[ha] at jL;cases jL
  | some q =>
   obtain⟨x,s1,l1⟩:=q;have U:=ov Z _ hn.1 ha;rw[ha] at jL;simp only[AT];cases hc:AT M fuel a AI 0 Z () with
   | none=>rw[hc] at U;cases U
   | some q2 =>
    obtain⟨x2,s2,u⟩:=q2;rw[hc] at U;cases U;cases x with
    | normal =>
     simp only at jL |-;cases hb:Bt M fuel nt b s1 with
     | none=>rw[hb] at jL;cases jL
     | some q3 =>
      obtain⟨x3,s3,l3⟩:=q3;rw[hb] at jL;simp only[ft] at jL;rw[<-jL];exact ow s1 _ hn.2 hb
    | exit id=>exact jL
    | ret=>exact jL
 | cond c a b ov ow =>
  intro Z r hn jL;simp only[En,dF] at hn;simp only[Bt] at jL;simp only[AT];split at jL;{exact ov Z r hn.1 jL};{exact ow Z r hn.2 jL};·cases jL
 | block id b ih =>
  intro Z r hn jL;simp only[En] at hn;simp only[Bt] at jL;cases ha:Bt M fuel nt b Z with
  | none=>rw[ha] at jL;cases jL
  | some q =>
   obtain⟨x,s1,l1⟩:=q;have U:=ih Z _ hn ha;rw[ha] at jL;simp only[AT];cases hc:AT M fuel b AI 0 Z () with
   | none=>rw[hc] at U;cases U
   | some q2 =>
    obtain⟨x2,s2,u⟩:=q2;rw[hc] at U;cases U;cases x with
    | exit oo =>
     simp only at jL |-;split at jL<;>rename_i hid;{rw[iJ hid];exact jL};{rw[iI hid];exact jL}
    | normal=>exact jL
    | ret=>exact jL
 | scope b ih =>
  intro Z r hn jL;simp only[En] at hn;simp only[Bt] at jL;split at jL;·cases jL
  cases ha:Bt M fuel nt b Z with
  | none=>rw[ha] at jL;cases jL
  | some q =>
   obtain⟨x,s1,l1⟩:=q;have U:=ih Z _ hn ha;rw[ha] at jL;simp only[AT];cases hc:AT M fuel b AI 0 Z () with
   | none=>rw[hc] at U;cases U
   | some q2 =>
    obtain⟨x2,s2,u⟩:=q2;rw[hc] at U;cases U;cases x with
    | exit oo =>
     simp only at jL |-;split at jL<;>rename_i hid;{rw[iJ hid];exact jL};·cases jL
    | normal=>exact jL
    | ret=>exact jL
 | o7=>intro Z r hn;cases hn
 | _=>intro Z r _ jL;exact jL
theorem aV {Z:St} (h:Bt M fuel nt (ND g r) Z=some (x,jU,l)) :
  ∃ st4,Bt M fuel nt r Z=some (x,st4,l)/\(jU=st4\/x=.normal/\∃ g,jU=norm [] g (trim st4)):=by
 cases g with
 | none=>exact⟨jU,h,.inl rfl⟩
 | some g =>
  simp only[ND,Bt] at h;cases ha:Bt M fuel nt r Z with
  | none=>rw[ha] at h;cases h
  | some q =>
   obtain⟨y,s1,l1⟩:=q;rw[ha] at h;cases y with
   | normal =>
    simp only[AT,Hk,eM,dL,eC] at h;obtain⟨rfl,rfl,rfl⟩:=h;exact⟨s1,rfl,.inr ⟨rfl,g,rfl⟩⟩
   | exit id=>cases h;exact⟨_,rfl,.inl rfl⟩
   | ret=>cases h;exact⟨_,rfl,.inl rfl⟩
theorem Xa (h:En r=true):En (ND g r)=true:=by
 cases g with
 | none=>exact h
 | some g=>simp[ND,En,h]
theorem ac (h:Q7 G o=some (f,args)) :
  ∃ c fo,o.op=.defer c/\o.guard=none/\o.dst=none/\c.callee=.value fo/\rx G fo=some f/\E6 G c.args.toList=some args:=by
 unfold Q7 at h;split at h;{rename_i c U O h3;split at h;{rename_i fo hc;split at h;{rename_i f' as h4 h5;cases h;exact⟨c,fo,U,O,h3,hc,h4,h5⟩};{cases h}};{cases h}};{cases h}
theorem xR (hM:Fy cx M.call) (kG:vS cx M) (mg:Hq M):∀ (c:Code) (lp:Nat->jj) (w0:i7) (I0 F0 own:Nat->Prop) (rs:List jf) (jH:List i8) (Z:St) (x:Ex) (jU:St) (l:jm),
  Bt M fuel nt (B6 cx.P cx.G dd c) Z=some (x,jU,l)->Ref cx lp Fa AI 0 w0 I0 F0 ->
  ∀ (a:Act) (w:i7) (I F:Nat->Prop) (L:AK) (Q:Exit->Act->i7->Prop),SR lp I L Z a.tmps.toList jH w->Fr cx w0 I0 F0 ⟨own,rs⟩ (fun _=>none) Fa () a.defers I F L w ->
   (∀ a' w' I' F' L' us oB,SR lp I' L' jU a'.tmps.toList (us++jH) w'->Fr cx w0 I0 F0 ⟨own,oB++rs⟩ (fun _=>none) Fa () a'.defers I' F' L' w'->Iq nt l us oB->Q (Eg x) a' w') ->
   c.wpIn (EO none) 0 cx.P Q a w:=by
 have leaf:∀ (c:Code) (lp:Nat->jj) (w0:i7) (I0 F0 own:Nat->Prop) (rs:List jf) (jH:List i8) (Z:St) (x:Ex) (jU:St) (l:jm),
   Hk (AT M fuel (B6 cx.P cx.G dd c) AI 0 Z ())=some (x,jU,l)->Ref cx lp Fa AI 0 w0 I0 F0 ->
   ∀ (a:Act) (w:i7) (I F:Nat->Prop) (L:AK) (Q:Exit->Act->i7->Prop),SR lp I L Z a.tmps.toList jH w->Fr cx w0 I0 F0 ⟨own,rs⟩ (fun _=>none) Fa () a.defers I F L w ->
    (∀ a' w' I' F' L' us oB,SR lp I' L' jU a'.tmps.toList (us++jH) w'->Fr cx w0 I0 F0 ⟨own,oB++rs⟩ (fun _=>none) Fa () a'.defers I' F' L' w'->Iq nt l us oB->Q (Eg x) a' w') ->
    c.wpIn (EO none) 0 cx.P Q a w:=by
  intro c lp w0 I0 F0 own rs jH Z x jU l jL jY a w I F L Q hs hf hQ;unfold Hk at jL;split at jL;{rename_i x' st' u hq;cases jL;exact UI hM kG mg c Unit AI 0 Fa lp w0 I0 F0 ⟨own,rs⟩ (fun _=>none) jH none Z () x jU u hq jY (fun _ h=>by cases h) a w I F L Q hs hf fun a' w' I' F' L' g1 g2=>hQ a' w' I' F' L' [] [] g1 g2 .nil};{cases jL}
 intro c;induction c with
 | seq c1 c2 vX xF =>
  intro lp w0 I0 F0 own rs jH Z x jU l jL jY a w I F L Q hs hf hQ;simp only[B6,Bt] at jL;refine wpIn_seq ?_;split at jL
  ·rename_i lR l1 g1;split at jL
   case h_2=>cases jL
   rename_i x' st4 l2 g2;cases jL
   exact vX lp w0 I0 F0 own rs jH Z .normal lR l1 g1 jY a w I F L _ hs hf fun a' w' I' F' L' us oB kV kK hp =>
    xF lp w0 I0 F0 own (oB++rs) (us++jH) lR x jU l2 g2 jY a' w' I' F' L' Q kV kK fun a2 w2 I2 F2 L2 us2 rs2 na nQ tA =>
     hQ a2 w2 I2 F2 L2 (us2++us) (rs2++oB) (by rw[eL];exact na) (by rw[eL];exact nQ) (tA.append hp)
  ·rename_i jW;refine vX lp w0 I0 F0 own rs jH Z x jU l jL jY a w I F L _ hs hf fun a' w' I' F' L' us oB kV kK hp=>?_;have:=hQ a' w' I' F' L' us oB kV kK hp;cases x with
   | normal=>exact (jW _ _ jL).elim
   | exit id =>
    simp only[Eg] at this |-;split<;>rename_i hid;{simp only[hid,iH] at this;exact this};{simp only[hid,iG] at this;exact this}
   | ret=>exact this
 | cond c c1 c2 vX xF =>
  intro lp w0 I0 F0 own rs jH Z x jU l jL jY a w I F L Q hs hf hQ;simp only[B6] at jL;split at jL;{rename_i rc hrc;simp only[Bt] at jL;have hc:=BM hs hf.wd hrc;split at jL;{rename_i hb;rw[hb] at hc;exact wpIn_cond_true (Gi hc) (vX lp w0 I0 F0 own rs jH Z x jU l jL jY a w I F L Q hs hf hQ)};{rename_i hb;rw[hb] at hc;exact wpIn_cond_false (Gi hc) (xF lp w0 I0 F0 own rs jH Z x jU l jL jY a w I F L Q hs hf hQ)};{cases jL}};{simp[Bt,AT,Hk] at jL}
 | block id c ih =>
  intro lp w0 I0 F0 own rs jH Z x jU l jL jY a w I F L Q hs hf hQ;simp only[B6] at jL;split at jL
  case isFalse=>simp[Bt,AT,Hk] at jL
  rename_i hidb;simp only[Bt] at jL;refine wpIn_block ?_;split at jL;{rename_i oo lR l3 U;refine ih lp w0 I0 F0 own rs jH Z (.exit oo) lR l3 U jY a w I F L _ hs hf fun a' w' I' F' L' us oB kV kK hp=>?_;by_cases hid:oo=id;{rw[iJ hid] at jL;cases jL;subst hid;simp only[Eg,hidb,Exit.inBlock,iH];exact hQ a' w' I' F' L' us oB kV kK hp};{rw[iI hid] at jL;cases jL;have:=hQ a' w' I' F' L' us oB kV kK hp;simp only[Eg] at this |-;split<;>rename_i xL;{simp only[xL,iH] at this;simp only[Exit.inBlock,hid,iG];exact this};{simp only[xL,iG] at this;exact this}}}
  ·rename_i jW;refine ih lp w0 I0 F0 own rs jH Z x jU l jL jY a w I F L _ hs hf fun a' w' I' F' L' us oB kV kK hp=>?_;have:=hQ a' w' I' F' L' us oB kV kK hp;cases x with
   | normal=>exact this
   | exit id=>exact (jW _ _ _ jL).elim
   | ret=>exact this
 | scope c ih =>
  intro lp w0 I0 F0 own rs jH Z x jU l jL jY a w I F L Q hs hf hQ;have jL:Bt M fuel nt (.scope (B6 cx.P cx.G dd c)) Z=some (x,jU,l):=by have h:Bt M fuel nt (Pd c (B6 cx.P cx.G dd c)) Z=some (x,jU,l):=jL;unfold Pd at h;split at h;{exact h};{split at h;{exfalso;simp[Bt,T5] at h};{exact h}}
  simp only[Bt] at jL;split at jL;·cases jL
  have key:Bt M fuel nt (B6 cx.P cx.G dd c) Z=some (x,jU,l)/\LL x:=by
   split at jL;{rename_i id s3 e3 hq;split at jL;{rename_i hid;cases jL;exact⟨hq,hid⟩};·cases jL}
   ·rename_i jW;refine⟨jL,?_⟩;cases x with
    | exit id=>exact (jW _ _ _ jL).elim
    | _=>trivial
  exact VF key.2 (ih lp w0 I0 F0 own rs jH Z x jU l key.1 jY a w I F L _ hs hf fun a' w' I' F' L' us oB kV kK hp=>⟨rfl,hQ a' w' I' F' L' us oB kV kK hp⟩)
 | region id ops draw =>
  intro lp w0 I0 F0 own rs jH Z x jU l jL jY a w I F L Q hs hf hQ;cases draw with
  | true =>
   refine leaf (.region id ops true) lp w0 I0 F0 own rs jH Z x jU l ?_ jY a w I F L Q hs hf hQ;refine T1 _ Z _ ?_ jL;simp only[B6,iH];refine Xa ?_;split<;>rfl
  | false =>
   cases hd:ops.toList.getLast?.bind (Q7 cx.G) with
   | none =>
    refine leaf (.region id ops false) lp w0 I0 F0 own rs jH Z x jU l ?_ jY a w I F L Q hs hf hQ;refine T1 _ Z _ ?_ jL;simp only[B6,dE,iG,Rf,hd];exact Xa rfl
   | some p =>
    obtain⟨f,args⟩:=p;simp only[B6,dE,iG,Rf,hd] at jL;obtain⟨st4,jL,lr⟩:=aV jL;simp only[Bt] at jL;split at jL
    case h_2=>cases jL
    rename_i lR u T;obtain⟨hchk,hev2⟩:=Bx jL;clear jL;cases hev2;simp only[dF,iK] at hchk;obtain⟨o,ho,hdo⟩:=eY.1 hd;obtain⟨c,fo,q1,q2,q3,q4,q5,q6⟩:=ac hdo
    have rR:ops.toList=ops.toList.dropLast++[o]:=by
     have jW:ops.toList≠[]:=fun e=>by rw[e] at ho;cases ho
     obtain⟨l0,pr⟩:=List.getLast?_eq_some_iff.1 ho;rw[pr];simp
    have hm:ops.toList.length=ops.toList.dropLast.length+1:=by rw[rR];simp
    obtain⟨L',kV,kK⟩:=OH (DB (ops.toList.dropLast.map (Dy cx.P cx.G))) hs hf;refine wpIn_region ?_;have oK:FJ M AI 0 (ops.toList.dropLast.map (Dy cx.P cx.G)) ((ops.toList.dropLast.map (Dy cx.P cx.G)).drop 0) (FQ (DB (ops.toList.dropLast.map (Dy cx.P cx.G))) Z) ()=some (lR,u):=by rw[eJ];exact T
    have j9:=(VJ 0 oK).more (r2:=[Dy cx.P cx.G o]);rw[eJ,dY] at j9
    have pB:ops.toList.dropLast.map (Dy cx.P cx.G)++[Dy cx.P cx.G o]=ops.toList.map (Dy cx.P cx.G):=by
     conv=>rhs;rw[rR]
     simp
    rw[pB] at j9;have nq:List.range ops.size=List.range ops.toList.dropLast.length++[ops.toList.dropLast.length]:=by rw[<-fL,hm,List.range_succ]
    rw[nq];refine S3 hM kG jY j9 kV kK fun a1 w1 I1 F1 L1 nj lV=>?_;have kO:ops[ops.toList.dropLast.length]?=some o:=by rw[<-gi,rR];simp
    simp only[wpOpsIn,kO];have hwant:Region.wanted o (yielded ops a1.tmps)=true:=by simp[Region.wanted,q2]
    rw[iJ hwant];have rM:=BM nj lV.wd q5;have kX:=Q5 nj lV.wd q6;obtain⟨g,cap,oT⟩:∃ g cap,f.ev lR.tmps=.fn g cap:=by have:=hchk.2;unfold isFn at this;split at this;{rename_i g cap hq;exact⟨g,cap,hq⟩};·cases this
    have hfv2:=rM;rw[oT] at rM;obtain⟨fst,jX,hv,_,_⟩:=LT rM
    have hrunD:(execOp a1.eval o).run cx.P w1=.ok (.defer {target:=.fn (.func (Ba g)) jX,args:=fst++(c.args.toList.map a1.eval).toArray}) w1:=by
     have lj:(c.args.toList.map a1.eval).toArray=c.args.map a1.eval:=by rw[<-hT,fE]
     simp[execOp,q1,resolve,q4,hv,Deferred.ofValue,lj]
    refine⟨fun _ _=>trivial,?_⟩;show o.uponIn (EO none) 0 cx.P a1 _ Q ((execOp a1.eval o).run cx.P w1);rw[hrunD,Oper.uponIn_defer,q3];show wpOpsIn (EO none) 0 cx.P ops Q [] _ w1;simp only[wpOpsIn];have hal:(c.args.toList.map a1.eval).length=args.length:=by have:=kX.length;simpa using this.symm
    have qU:Av w1 I1 lp (some L1) (f.ev lR.tmps :: args.map (RX.ev lR.tmps)++List.replicate (nt - (f.ev lR.tmps :: args.map (RX.ev lR.tmps)).length) .undef++lR.jG)
      (.func (.func (Ba g)) fst jX :: (c.args.toList.map a1.eval++List.replicate (nt - (f.ev lR.tmps :: args.map (RX.ev lR.tmps)).length) undef)++jH):=by
     have U:Av w1 I1 lp (some L1) (f.ev lR.tmps :: args.map (RX.ev lR.tmps)) (.func (.func (Ba g)) fst jX :: c.args.toList.map a1.eval):=.cons _ _ _ _ (by rw[<-hv];exact hfv2) kX;have O:=(U.append (Av.kC (nt - (f.ev lR.tmps :: args.map (RX.ev lR.tmps)).length) (List.replicate (nt - (f.ev lR.tmps :: args.map (RX.ev lR.tmps)).length) undef) (by simp))).append nj.kp;simpa[eL] using O
    have na:SR lp I1 L1 (RA nt (f.ev lR.tmps :: args.map (RX.ev lR.tmps)) lR) a1.tmps.toList (.func (.func (Ba g)) fst jX :: (c.args.toList.map a1.eval++List.replicate (nt - (f.ev lR.tmps :: args.map (RX.ev lR.tmps)).length) undef)++jH) w1 :=
     ⟨nj.tm,qU,nj.ob,nj.mf⟩
    have nQ:Fr cx w0 I0 F0 ⟨own,[{target:=.fn (.func (Ba g)) jX,args:=fst++(c.args.toList.map a1.eval).toArray}]++rs⟩ (fun _=>none) Fa () ({target:=.fn (.func (Ba g)) jX,args:=fst++(c.args.toList.map a1.eval).toArray} :: a1.defers) I1 F1 L1 w1 :=
     ⟨lV.ext,lV.sep,lV.oF,lV.lB,lV.inj,lV.wd,lV.re,.call _ _ _ (fun D h=>by cases h) lV.qi,lV.py⟩
    obtain⟨L2,t1,t2⟩:∃ L2,SR lp I1 L2 jU a1.tmps.toList (.func (.func (Ba g)) fst jX :: (c.args.toList.map a1.eval++List.replicate (nt - (f.ev lR.tmps :: args.map (RX.ev lR.tmps)).length) undef)++jH) w1 /\
      Fr cx w0 I0 F0 ⟨own,[{target:=.fn (.func (Ba g)) jX,args:=fst++(c.args.toList.map a1.eval).toArray}]++rs⟩ (fun _=>none) Fa () ({target:=.fn (.func (Ba g)) jX,args:=fst++(c.args.toList.map a1.eval).toArray} :: a1.defers) I1 F1 L2 w1:=by
     obtain⟨L2,t1,t2⟩:=QQ (dd id).lv na nQ;rcases lr with rfl | ⟨_,g',rfl⟩;{exact⟨L2,t1,t2⟩}
     {obtain⟨L3,t3,t4⟩:=Um t1 t2;exact OR [] g' t3 t4}
    refine hQ _ w1 I1 F1 L2 (.func (.func (Ba g)) fst jX :: (c.args.toList.map a1.eval++List.replicate (nt - (f.ev lR.tmps :: args.map (RX.ev lR.tmps)).length) undef)) [_] t1 t2 ?_;have hp:=Iq.cons (nt:=nt) args.length [] [] (List.replicate (nt - (f.ev lR.tmps :: args.map (RX.ev lR.tmps)).length) undef) [] (.func (Ba g)) fst jX (c.args.toList.map a1.eval) hal (by simp;omega) .nil;simpa using hp
 | skip=>intro lp w0 I0 F0 own rs jH Z x jU l jL;exact leaf .skip lp w0 I0 F0 own rs jH Z x jU l jL
 | loop c _ =>
  intro lp w0 I0 F0 own rs jH Z x jU l jL;refine leaf (.loop c) lp w0 I0 F0 own rs jH Z x jU l (T1 _ Z _ ?_ jL);simp only[B6,RF];split;{rename_i hp;simp only[dF] at hp;simp[En,hp.2]};{rfl}
 | rangeFunc f ps kN b _ _ =>
  intro lp w0 I0 F0 own rs jH Z x jU l jL
  exact leaf (.rangeFunc f ps kN b) lp w0 I0 F0 own rs jH Z x jU l (by
   rw[<-jL];simp only[B6];split
   ·unfold UY;split;·rfl
    ·exact (xQ _ _ _ _ _ _).symm
   ·rfl)
 | exit id=>intro lp w0 I0 F0 own rs jH Z x jU l jL;exact leaf (.exit id) lp w0 I0 F0 own rs jH Z x jU l (by rw[<-jL];simp only[B6];split<;>rfl)
 | label n=>intro lp w0 I0 F0 own rs jH Z x jU l jL;exact leaf (.label n) lp w0 I0 F0 own rs jH Z x jU l jL
 | goto n=>intro lp w0 I0 F0 own rs jH Z x jU l jL;exact leaf (.goto n) lp w0 I0 F0 own rs jH Z x jU l jL
 | ret=>intro lp w0 I0 F0 own rs jH Z x jU l jL;exact leaf .ret lp w0 I0 F0 own rs jH Z x jU l jL
 | refuse s=>intro lp w0 I0 F0 own rs jH Z x jU l jL;exact leaf (.refuse s) lp w0 I0 F0 own rs jH Z x jU l jL
theorem Vs:∀ (ds:List jf) (w:i7) (fr:Frame),
  fr.mode=.returning->fr.defers=ds->F.fn fr.fn->F.room (cs.length+1+k)->(∀ d∈ds,∃ r,d.target=.collected r)->LeavesInM F k P fn tmps R ds .returning w ->
  ∃ v w',StepsIn (Machine.fenced P F) P (lone fr cs w) (lone {fr with defers:=[]} cs w')/\(results fn tmps).run P w'=.ok v w'/\R (.returned v) w':=by
 intro ds;induction ds with
 | nil =>
  intro w fr hm hd _ _ _ h;obtain⟨v,U,O⟩:=h;refine⟨v,w,?_,U,O⟩;have:({fr with defers:=[]}:Frame)=fr:=by rw[<-hd]
  rw[this];exact StepsIn.refl _
 | cons d ds ih =>
  intro w fr hm hd hb sj kE h;obtain⟨j9,h⟩:=h;obtain⟨r,T⟩:=kE d d7;rcases h with ⟨r',w',xS,qV,xU⟩ | ⟨_,fv,cap,f,args,xS,_⟩
  ·have oY:fr.mode≠.run:=by rw[hm];simp
   have U:=step_collected (cs:=cs) oY hd xS qV;have i1:(lone fr cs w).fenced P F:=fenced_out hb sj oY hd (fun g hg=>by rw[xS] at hg;simp[Target.leads] at hg);obtain⟨v,w'',g1,g2,g3⟩:=ih w' {fr with defers:=[]++ds} hm rfl hb sj (fun d hd=>kE d (dZ _ hd)) xU;exact⟨v,w'',.head i1 U g1,g2,g3⟩
  {rw[T] at xS;cases xS}
def dz (F:Fence) (n:Nat) (P:jd) (fn:Func) (R:Ending->i7->Prop):Exit->Act->i7->Prop
 | .normal,a,w | .ret,a,w=>(∀ d∈a.defers,∃ r,d.target=.collected r)/\LeavesInM F n P fn a.tmps R a.defers .returning w
 | _,_,_=>False
theorem Zz {f:ja} {args:Array i8} 
  (hf:P.funcs[f]?=some fn) (hb:fn.body=some c) (hF:F.fn f)
  (h:c.wpIn F n P (dz F n P fn R) {tmps:=args++Array.replicate (fn.ntmps - args.size) undef,defers:=[]} w) (ml:F.round=none:=by rfl) :
  CallsDIn F n P f args u w fun e u' w'=>u'=u/\R e w':=by
 refine⟨hF,fun c₀ cs hu T=>?_⟩
 let b:Frame:={(default:Frame) with fn:=f,kind:=.deferred,roundOf:=none}
 have henter:Frame.enter P f args .deferred =
   b.atR {tmps:=args++Array.replicate (fn.ntmps - args.size) undef,defers:=[]} [.code c]:=by
  simp[Frame.enter,Frame.atR,hf,hb,b]
 have hc:({c₀ with mode:=u}:Frame)=c₀:=by subst hu;rfl
 obtain⟨e,a',w',hq,lj⟩:=h b [] (c₀ :: cs) ml.symm hF T;rw[<-henter] at lj;cases e with
 | normal =>
  obtain⟨hm,hl⟩:=hq;obtain⟨v,w'',g1,g2,g3⟩:=Vs a'.defers w' {b.atR a' [] with mode:=.returning} rfl rfl hF T hm hl;exact⟨.returned v,u,w'',_,⟨rfl,g3⟩,(by rw[hc];exact StepsIn.trans (StepsIn.trans lj (.one (fenced_calm (fr:=b.atR a' []) hF T rfl) (stepR_end rfl))) g1),rfl,rfl,rfl,rfl,fn,hf,g2⟩
 | ret =>
  obtain⟨hm,hl⟩:=hq;obtain⟨todo,hs⟩:=lj.1 rfl;obtain⟨v,w'',g1,g2,g3⟩:=Vs a'.defers w' {b.atR a' todo with mode:=.returning} rfl rfl hF T hm hl;exact⟨.returned v,u,w'',_,⟨rfl,g3⟩,(by rw[hc];exact StepsIn.trans hs g1),rfl,rfl,rfl,rfl,fn,hf,g2⟩
 | panic chain=>exact hq.elim
 | exit id=>exact hq.elim
 | goto l=>exact hq.elim
 | outgrown=>exact hq.elim
def Sy (cx:Cx) (M:Bp):Prop :=
 ∀ (g:ja) (d0:Nat) (Z:St) (vs:jh) (out:AQ),M.flat g=true->M.io g d0 (Al Z.jC) vs=some out->Dx cx.P g /\
  ∀ (E:Type) (w0:i7) (I0 F0:Nat->Prop) (O0:Cw) (Hd:Nat->Option Obj) (R:Ch E) (e:E) (ds:List jf) (I F:Nat->Prop) (lp:Nat->jj) (L:AK) (j4 jH us:List i8) (w:i7) (u:FrameMode),
   SR lp I L Z j4 jH w->Fr cx w0 I0 F0 O0 Hd R e ds I F L w->Av w I lp (some L) vs us->(out.new=[]\/out.slot.isSome=true) ->
   CallsDIn Fence.wide 0 cx.P g us.toArray u w fun en u' w'=>u'=u/\match en with
    | .returned _=>∃ I' L',SR lp I' L' (apply Z none out) j4 jH w'/\Fr cx w0 I0 F0 O0 Hd R e ds I' F L' w'
    | _=>False
theorem Fr.unmark {I0 F0 I F:Nat->Prop} {R:Ch E} (hHd:∀ b,Hd b=none)
  (hf:Fr cx w0 I0 F0 O0 Hd R e ({target:=.collected D,args:=#[]} :: ds) I F L w) :
  w.heap[D]?=some (.deferred (some []))/\¬ I D/\(∀ V C,L V≠some (some (D,C)))/\Fr cx w0 I0 F0 O0 Hd R e ds I F L (w.putObj D (.deferred none)):=by
 obtain⟨rs,rz⟩:∃ rs,rs=O0.dfs:=⟨_,rfl⟩;have hm:=hf.qi;rw[<-rz] at hm;cases hm with
 | call d ds rs hd h=>exact iW rfl (hd D)
 | cons D' ds' oB U O h3 h4 h5 h6 h7 T =>
  have hk:∀ b,b≠D->(w.putObj D (.deferred none)).heap[b]?=w.heap[b]?:=fun b hb=>World.putObj_heap_other hb;have kS:(w.putObj D (.deferred none)).heap.size=w.heap.size:=World.putObj_size
  refine⟨h6,h3,h5,⟨hf.ext.os,hf.ext.tape,hf.ext.output,by rw[kS];exact hf.ext.size,fun b hb hF=>?_,hf.ext.nA,hf.ext.nh,hf.ext.nB⟩,⟨fun b hb=>by rw[kS];exact hf.sep.iB b hb,fun b hb=>⟨by rw[kS];exact (hf.sep.fB b hb).1,(hf.sep.fB b hb).2⟩⟩,hf.oF,
   fun V b C hn=>⟨(hf.lB V b C hn).1,by rw[kS];exact (hf.lB V b C hn).2.1,(hf.lB V b C hn).2.2⟩,hf.inj,?_,?_,?_,?_⟩
  ·have jW:b≠D:=fun e=>by omega
   exact (hk b jW).trans (hf.ext.jG b hb hF)
  {exact cx.mZ I I w _ hf.wd (fun _ h=>h) (fun b hb=>hk b fun e=>h3 (e ▸ hb)) (by rw[kS];exact dH _)};{exact R.mZ e I I F w _ hf.re (fun _ h=>h) (fun b hb=>hk b fun e=>hb.elim (fun h=>h3 (e ▸ h)) fun h=>h4 (e ▸ h)) (by rw[kS];exact dH _)}
  ·have key:∀ ds rs,Ee w0.heap.size I F L w ds rs->(∀ d∈ds,d.target≠.collected D)->Ee w0.heap.size I F L (w.putObj D (.deferred none)) ds rs:=by
    intro ds rs hm;induction hm with
    | nil=>intro _;exact .nil
    | call d' ds rs hd _ ih=>intro jW;exact .call d' ds rs hd (ih fun d hd=>jW d (dZ _ hd))
    | cons D' ds rs g1 g2 g3 g4 g5 g6 g7 _ ih =>
     intro jW;have hDD:D'≠D:=fun e=>jW {target:=.collected D',args:=#[]} d7 (by rw[e]);exact .cons D' ds rs g1 (by rw[kS];exact g2) g3 g4 g5 ((hk D' hDD).trans g6) g7 (ih fun d hd=>jW d (dZ _ hd))
   rw[<-rz];exact key ds _ T h7
  {intro b ob hb;rw[hHd b] at hb;cases hb}
theorem Wp (tB:Sy cx M) {I0 F0 own:Nat->Prop}:∀ (ds:List jf) (rs:List jf) (l:jm) (us:List i8) (Z:St) (w:i7) (I F:Nat->Prop) (L:AK),
  SR lp I L Z tmps.toList (us++jH) w->Fr cx w0 I0 F0 ⟨own,rs⟩ (fun _=>none) Fa () ds I F L w->Iq nt l us rs->HX M nt l Z=some jU ->
  (∀ w2 I2 F2 L2,SR lp I2 L2 jU tmps.toList jH w2->Fr cx w0 I0 F0 ⟨own,[]⟩ (fun _=>none) Fa () [] I2 F2 L2 w2->∃ v,(results fn tmps).run cx.P w2=.ok v w2/\Rr (.returned v) w2) ->
  LeavesInM Fence.wide 0 cx.P fn tmps Rr ds .returning w:=by
 intro ds;induction ds with
 | nil =>
  intro rs l us Z w I F L hs hf hp hd h;have hm:=hf.qi;cases hm;cases hp;cases hd;exact h w I F L hs hf
 | cons d ds ih =>
  intro rs l us Z w I F L hs hf hp hd h;cases hm:hf.qi with
  | cons D _ _ U O h3 h4 h5 h6 h7 T =>
   obtain⟨q1,q2,q3,q4⟩:=hf.unmark fun _=>rfl;exact⟨by simp,.inl ⟨D,_,rfl,run_takeDeferred q1,ih rs l us Z _ I F L (hs.pD _ q2 q3) q4 hp hd h⟩⟩
  | call _ _ oB hdt T =>
   cases hp with
   | cons k l' pw pad _ fv fst jX args hk hn hp' =>
    unfold HX at hd;have qU:=hs.kp;have h0:=qU.getD 0 undef;split at hd
    case h_2=>cases hd
    rename_i f cap rM;rw[rM] at h0;have e0:(Value.func fv fst jX :: (args++pad)++pw++jH).getD 0 undef=.func fv fst jX:=rfl;rw[e0] at h0;obtain⟨us0,vs0,hv,hfk,pa⟩:=LT h0;cases hv;split at hd;·cases hd
    split at hd
    case isFalse=>cases hd
    rename_i sv
    simp only[dF] at sv
    split at hd
    case h_2=>cases hd
    rename_i out kd;obtain⟨lh,hd⟩:=Bx hd
    have kX:Av w I lp (some L) ((Z.jG.drop 1).take k) args:=by
     have:=(qU.drop 1).take k;have e:((Value.func (.func (Ba f)) fst jX :: (args++pad)++pw++jH).drop 1).take k=args:=by simp[eL,<-hk]
     rwa [e] at this
    have kE:=Tc hfk pa kX
    have lE:Av w I lp (some L) (Z.jG.drop nt) (pw++jH):=by
     have:=qU.drop nt
     have e:(Value.func (.func (Ba f)) fst jX :: (args++pad)++pw++jH).drop nt=pw++jH:=by
      have e2:(Value.func (.func (Ba f)) fst jX :: (args++pad)++pw++jH)=(Value.func (.func (Ba f)) fst jX :: (args++pad))++(pw++jH):=by simp[eL]
      rw[e2,iA (by simp;omega),eP (by simp;omega)];rfl
     rwa [e] at this
    have nj:SR lp I L {Z with jG:=Z.jG.drop nt} tmps.toList (pw++jH) w:=⟨hs.tm,lE,hs.ob,hs.mf⟩;have lV:Fr cx w0 I0 F0 ⟨own,oB⟩ (fun _=>none) Fa () ds I F L w:=⟨hf.ext,hf.sep,hf.oF,hf.lB,hf.inj,hf.wd,hf.re,T,hf.py⟩;obtain⟨q1,q2⟩:=tB (Ba f) 0 {Z with jG:=Z.jG.drop nt} _ out sv.2 kd;have lh:out.new=[]\/out.slot.isSome=true:=by simpa using lh
    have nM:=q2 Unit w0 I0 F0 ⟨own,oB⟩ (fun _=>none) Fa () ds I F lp L tmps.toList (pw++jH) _ w .returning nj lV kE lh;obtain⟨fnG,e1,e2,e3⟩:=q1;have hb:¬ fnG.body=none:=by intro h;rw[h] at e3;cases e3
    have lQ:¬ fnG.name = "runtime.NumGoroutine":=by intro h;rw[h] at e2;simp at e2
    have lj:(fst.toList++(args++jX.toList)).toArray=fst++args.toArray++jX:=by simp[Array.append_assoc]
    refine⟨by simp,.inr ⟨fun h=>by simp[Fence.wide] at h,.func (Ba f),jX,Ba f,fst++args.toArray++jX,rfl,by simp[invoke,callFunc,e1,lQ,hb],fun _ _=>trivial,?_⟩⟩;rw[lj] at nM;refine nM.mono fun en u' w' hq=>?_;obtain⟨rfl,hq⟩:=hq;cases en with
    | returned v =>
     obtain⟨I',L',g1,g2⟩:=hq;exact ih oB l' pw _ w' I' F L' g1 g2 hp' hd h
    | panicked chain=>exact hq.elim
    | outgrown=>exact hq.elim
end
end Go.Ab


namespace Go.Ab
variable{M:Bp} {R gone l:jl} {aN:Nat->Nm} {d0 i0:Nat} {dd:ja->E5} {m V s t x:Nm} {o:Ob} {jC:List jp} {p:Option (Nat×Nat)} {sl:jj} {sp:ja->(Nm->jk)->jh->js} {jO:ja->jt} {v:i8} {v0:W} {vs:List i8} {σ σ':Nm->jk}
section
variable {w:i7} {I:Nat->Prop} {lp mT:Nat->jj}
theorem Av.narrow {L L':AK} {H:jh} (h:Av w I lp (some L) H vs) (hn:∀ V∈AU H,∀ p,L V=some p->L' V=some p):Av w I lp (some L') H vs:=by
 have hs:Fj w I lp L (some L') (fun V=>V∈AU H) (fun _=>none):=fun V p hS hp=>⟨L',rfl,hn V hS p hp⟩;have:=Av.subst (fun _ h=>h) hs h fun _ h=>h
 rwa [Go.Ab.kT] at this
theorem BR.narrow {L L':AK} {ob:Ob} (h:BR w I lp L ob p) (hn:∀ V∈ob.names,∀ p,L V=some p->L' V=some p):BR w I lp L' ob p:=by
 have hs:Fj w I lp L (some L') (fun V=>V∈ob.names) (fun _=>none):=fun V p hS hp=>⟨L',rfl,hn V hS p hp⟩;have:=BR.subst h (fun _ h=>h) (fun _ _=>rfl) hs (fun _ h=>h) fun _ _ _=>rfl
 rwa [Ob.lN] at this
theorem BR.qk {L:AK} {ob:Ob} (h:BR w I lp L ob p) (hy:ob.kf=false):BR w I mT L ob p:=by
 cases p with
 | none=>exact h
 | some p =>
  cases ob with
  | cells ty cs=>obtain⟨c,E,U,O,h4,h3⟩:=h;exact⟨c,E,U,O,h4,h3.qk hy⟩
  | arr k kt H=>obtain⟨c,E,U,O,h3,h4,h6,h5⟩:=h;exact⟨c,E,U,O,h3,h4,h6,h5.qk (SV (w:=w) (I:=I) (lp:=lp) (mT:=mT) H hy)⟩
  | map es=>obtain⟨c,E,U,O⟩:=h;exact⟨c,E,U,O.qk hy⟩
  | jT s pos=>exact h
def GeP:Option (Nat×Nat)->Option (Nat×Nat)->Prop
 | none,none=>True
 | some (b,C),some (b',C')=>b'=b/\C<=C'
 | _,_=>False
def K1 (L L':AK):Prop:=∀ V p,L V=some p->∃ p',L' V=some p'/\GeP p p'
theorem GeP.refl (p:Option (Nat×Nat)):GeP p p:=by
 cases p with
 | none=>trivial
 | some p=>exact⟨rfl,dH _⟩
theorem K1.at {L L':AK} (h:K1 L L') {b C:Nat} (hn:L V=some (some (b,C))):∃ C',L' V=some (some (b,C'))/\C<=C':=by
 obtain⟨p,U,O⟩:=h V _ hn;cases p with
 | none=>exact O.elim
 | some p=>obtain⟨b',C'⟩:=p;obtain⟨rfl,h3⟩:=O;exact⟨C',U,h3⟩
theorem K1.atN {L L':AK} (h:K1 L L') (hn:L V=some none):L' V=some none:=by
 obtain⟨p,U,O⟩:=h V _ hn;cases p with
 | none=>exact U
 | some p=>exact O.elim
mutual
theorem AC.ge {L L':AK} {x:W} {v:i8}:AC w I lp (some L) x v->K1 L L'->AC w I lp (some L') x v
 | .undef v,_=>.undef v
 | .bool b,_=>.bool b
 | .int k n,_=>.int k n
 | .str s,_=>.str s
 | .jD,_=>.jD
 | .kB,_=>.kB
 | .jV,_=>.jV
 | .jK,_=>.jK
 | .kL,_=>.kL
 | .po k full a cap hf,_=>.po k full a cap hf
 | .sl k H full b off cap c E fr U O h3 h4 h5 h6 h8 h7,_=>.sl k H full b off cap c E fr U O h3 h4 h5 h6 h8 h7
 | .ptr cs o b off c E fr U O h3 h4 h8 h5,_=>.ptr cs o b off c E fr U O h3 h4 h8 h5
 | .agg cs vs U h,e=>.agg cs vs U (h.ge e)
 | .iface t x v h,e=>.iface t x v (h.ge e)
 | .fn f cs us vs hk h,e=>.fn f cs us vs hk (h.ge e)
 | .ke d l h,_=>.ke d l h
 | .jE H vs h,e=>.jE H vs (h.ge e)
 | .ki es r kg clock U O h3,_=>.ki es r kg clock U O h3
 | .j8 g t x c E fr U O h3,_=>.j8 g t x c E fr U O h3
 | .ref V o b C h,e=>let ⟨C',h',_⟩:=e.at h;.ref V o b C' h'
 | .jQ V k i o b C h,e=>let ⟨C',h',_⟩:=e.at h;.jQ V k i o b C' h'
 | .arr V k o n cap b C h hC hn,e=>let ⟨C',h',hle⟩:=e.at h;.arr V k o n cap b C' h' (fj hC hle) hn
 | .l6 V k h,e=>.l6 V k (e.atN h)
 | .mp V b C h,e=>let ⟨C',h',_⟩:=e.at h;.mp V b C' h'
 | .it V b C h,e=>let ⟨C',h',_⟩:=e.at h;.it V b C' h'
theorem Av.ge {L L':AK} {H:jh} {vs:List i8}:Av w I lp (some L) H vs->K1 L L'->Av w I lp (some L') H vs
 | .nil,_=>.nil
 | .cons x v H vs h hs,e=>.cons x v H vs (h.ge e) (hs.ge e)
end
theorem BR.ge {L L':AK} {ob:Ob} (h:BR w I lp L ob p) (e:K1 L L'):BR w I lp L' ob p:=by
 cases p with
 | none=>exact h
 | some p =>
  cases ob with
  | cells ty cs=>obtain⟨c,E,U,O,h4,h3⟩:=h;exact⟨c,E,U,O,h4,h3.ge e⟩
  | arr k kt H=>exact h
  | map es=>exact h
  | jT s pos=>exact h
theorem Av.of_get {L:jr}:∀ {H:jh} {vs:List i8},H.length=vs.length->(∀ (i:Nat) (x:W) (v:i8),H[i]?=some x->vs[i]?=some v->AC w I lp L x v)->Av w I lp L H vs:=by
 intro H;induction H with
 | nil=>intro vs h _;cases vs with | nil=>exact .nil | cons v vs=>simp at h
 | cons x H ih =>
  intro vs h hg;cases vs with
  | nil=>simp at h
  | cons v vs=>exact .cons _ _ _ _ (hg 0 x v rfl rfl) (ih (by simpa using h) fun i y u hy hu=>hg (i+1) y u (by simpa using hy) (by simpa using hu))
end
theorem S7:∀ {l:jl} {x:Nm},x∈Et l↔x∈l:=by
 intro l;induction l with
 | nil=>intro x;simp[Et]
 | cons y l ih =>
  intro x;simp only[Et];split
  ·rename_i h;have hy:y∈l:=by simpa using h
   rw[ih,dM];exact⟨.inr,fun h=>h.elim (fun e=>e ▸ hy) id⟩
  {rw[dM,dM,ih]}
theorem dn:∀ {l:jl} (i j:Nat) (x:Nm),(Et l)[i]?=some x->(Et l)[j]?=some x->i=j:=by
 intro l;induction l with
 | nil=>intro i j x h;simp[Et] at h
 | cons y l ih =>
  intro i j x hi hj;simp only[Et] at hi hj;split at hi;{rename_i h;rw[iJ h] at hj;exact ih i j x hi hj}
  ·rename_i h;rw[iI h] at hj;have hy:y ∉ Et l:=fun hm=>h (by simpa using S7.1 hm);cases i with
   | zero =>
    cases j with
    | zero=>rfl
    | succ j=>simp at hi hj;subst hi;exact iW (d9 hj) hy
   | succ i =>
    cases j with
    | zero=>simp at hi hj;subst hj;exact iW (d9 hi) hy
    | succ j=>simp at hi hj;rw[ih i j x hi hj]
theorem idx_get (h:x∈l):l[l.idxOf x]?=some x:=by have rQ:=List.idxOf_lt_length_of_mem h;rw[dQ rQ];simp
theorem Tx:∀ {B:List (Nm×Nm)} {s t:Nm},EJ (B.map (·.1))=true->(s,t)∈B->B.lookup s=some t:=by
 intro B;induction B with
 | nil=>intro s t _ h;cases h
 | cons p B ih =>
  obtain⟨a,b⟩:=p;intro s t hn h;simp only[dI,EJ,dF,fO] at hn;rcases dM.1 h with O | O;·cases O;simp
  ·have jW:s≠a:=by
    rintro rfl;have:(B.map (·.1)).contains s=true:=by rw[fw];exact dJ.2 ⟨(s,t),O,rfl⟩
    rw[this] at hn;cases hn.1
   have hb:(s==a)=false:=by simpa using jW
   rw[gX,hb];exact ih hn.2 O
theorem cw {B:List (Nm×Nm)} (hn:EJ (B.map (·.1))=true) {t':Nm} (h:(s,t)∈B) (h':(s,t')∈B):t=t':=by have:=(Tx hn h).symm.trans (Tx hn h');exact fy this
theorem aJ:∀ (l:List (Nm×Ob)) (jC:List jp) (t:Nm),(∀ p∈l,∃ o,Al jC p.1=some o) ->
  (∀ o,(∀ o',(t,o')∈l->o'=o)->(t,o)∈l->Al (Gr l jC) t=some o)/\((∀ o,(t,o) ∉ l)->Al (Gr l jC) t=Al jC t):=by
 intro l;induction l with
 | nil=>intro jC t _;exact⟨fun o _ h=>(by cases h),fun _=>rfl⟩
 | cons p l ih =>
  obtain⟨V,ob⟩:=p;intro jC t A
  have nn:∀ p∈l,∃ o,Al (Bv jC V ob) p.1=some o:=by
   intro p hp;cases hl:Al (Bv jC V ob) p.1 with
   | some o=>exact⟨o,rfl⟩
   | none =>
    obtain⟨o,ho⟩:=A p (dZ _ hp);rw[J6] at hl;rw[ho] at hl;cases hl
  obtain⟨i1,i2⟩:=ih (Bv jC V ob) t nn;refine⟨fun o hu ho=>?_,fun ny=>?_⟩
  ·by_cases hl:∃ o',(t,o')∈l
   {obtain⟨o',rB⟩:=hl;have:=hu o' (dZ _ rB);subst this;exact i1 o' (fun o2 O=>hu o2 (dZ _ O)) rB}
   ·have hnl:∀ o',(t,o') ∉ l:=fun o' h=>hl ⟨o',h⟩;rcases dM.1 ho with he | he
    {have e1:t=V:=iP Prod.fst he;have e2:o=ob:=iP Prod.snd he;subst e1;subst e2;obtain⟨o0,h0⟩:=A (t,o) d7;have:=i2 hnl;exact this.trans (Ld o h0)};{exact iW he (hnl o)}
  ·have jW:t≠V:=by rintro rfl;exact ny ob d7
   show Al (Gr l (Bv jC V ob)) t=Al jC t;rw[i2 fun o h=>ny o (dZ _ h),It ob jW]
noncomputable def Ey (L L':AK) (B:List (Nm×Nm)):AK:=fun t =>
 open Classical in if h:∃ s,(s,t)∈B then some ((L' h.choose).getD none) else L t
theorem Ya {L L':AK} {B:List (Nm×Nm)} (hU:∀ s s' t,(s,t)∈B->(s',t)∈B->s=s') (h:(s,t)∈B):Ey L L' B t=some ((L' s).getD none):=by unfold Ey;have A:∃ s,(s,t)∈B:=⟨s,h⟩;rw[dif_pos A,hU _ _ t A.choose_spec h]
theorem tC {L L':AK} {B:List (Nm×Nm)} (h:∀ s,(s,t) ∉ B):Ey L L' B t=L t:=by unfold Ey;rw[dif_neg fun ⟨s,hs⟩=>h s hs]
def Fi (B:List (Nm×Nm)) (m:Nm):Option jk:=if (B.map (·.1)).contains m then none else some none
def Fe (B:List (Nm×Nm)) (m:Nm):Nm:=(B.lookup m).getD m
theorem tD {B:List (Nm×Nm)}:(B.map (·.1)).contains m=true↔∃ t,(m,t)∈B:=by rw[fw,dJ];constructor;{rintro ⟨⟨a,b⟩,U,rfl⟩;exact⟨b,U⟩};{rintro ⟨t,h⟩;exact⟨(m,t),h,rfl⟩}
section take
variable {w:i7} {I:Nat->Prop} {lp:Nat->jj} {L L':AK} {B:List (Nm×Nm)}
theorem xV (hn:EJ (B.map (·.1))=true) (hU:∀ s s' t,(s,t)∈B->(s',t)∈B->s=s'):Fj w I lp L' (some fun m=>if (B.map (·.1)).contains m then L' m else none) (fun _=>True) (Fi B):=by intro V p _ hp;by_cases h:(B.map (·.1)).contains V=true;{simp only[Fi,h,iH];exact⟨_,rfl,by simp only[h,iH];exact hp⟩};{simp only[Fi,h];trivial}
theorem YZ (hn:EJ (B.map (·.1))=true) (hU:∀ s s' t,(s,t)∈B->(s',t)∈B->s=s') (V:Nm) (p:Option (Nat×Nat)) (hp:(fun m=>if (B.map (·.1)).contains m then L' m else none) V=some p):Ey L L' B (Fe B V)=some p:=by
 simp only at hp;split at hp
 ·rename_i h;obtain⟨t,ht⟩:=tD.1 h;have hl:Fe B V=t:=by unfold Fe;rw[Tx hn ht];rfl
  rw[hl,Ya hU ht,hp];rfl
 {cases hp}
theorem xW (hn:EJ (B.map (·.1))=true) (hU:∀ s s' t,(s,t)∈B->(s',t)∈B->s=s') {x:W} (h:AC w I lp (some L') x v):AC w I lp (some (Ey L L' B)) ((x.sub (Fi B)).jR (Fe B)) v :=
 AC.rename (YZ hn hU) (AC.subst (fun _ h=>h) (xV hn hU) h fun _ _=>trivial)
theorem take_ob (hn:EJ (B.map (·.1))=true) (hU:∀ s s' t,(s,t)∈B->(s',t)∈B->s=s') {ob:Ob} (h:BR w I lp L' ob p):BR w I lp (Ey L L' B) ((ob.sub (Fi B)).jR (Fe B)) p :=
 BR.jR (BR.subst h (fun _ h=>h) (fun _ _=>rfl) (xV hn hU) (fun _ _=>trivial) fun _ _ _=>rfl) (YZ hn hU)
end take
def putP (tm:jh) (dst:jj) (v:W):jh :=
 match dst with
 | some d=>tm.set d v
 | none=>tm
section done
variable {E:Type} {cx:Cx} {w0:i7} {I0 F0:Nat->Prop} {O0:Cw} {Hd:Nat->Option Obj} {RE:Ch E} {e:E} {ds:List jf} {I F I':Nat->Prop} {lp mT:Nat->jj} {L L':AK} {Z jU:St} {j4 tmv2 jH wv:List i8} {w w2:i7}
theorem xX {dst:jj} {N:jl} 
  (hs:SR lp I L Z j4 jH w) (hf:Fr cx w0 I0 F0 O0 Hd RE e ds I F L w) (hlp:sJ mT lp)
  (hd:∀ d,dst=some d->Z.jC[d]?=some []/\(sl=none->d=d0)) (hsl:∀ r,sl=some r->r=d0) (hlen:N≠[]->∃ l,Z.jC[d0]?=some l/\l.length=i0) (lh:sl=none->dst=none->N=[])
  (hR:∀ V∈R,∃ p,L V=some p) (xd:∀ (i j:Nat) V,R[i]?=some V->R[j]?=some V->i=j)
  (na:SR mT I' L' jU tmv2 wv w2) (hv:AC w2 I' mT (some L') v0 v)
  (x1:w2.os=w.os) (x2:w2.tape=w.tape) (x3:w2.output=w.output) (x4:w.heap.size<=w2.heap.size)
  (x5:∀ b,b < w.heap.size->(∀ V C,V∈R->L V≠some (some (b,C)))->w2.heap[b]?=w.heap[b]?) (x6:∀ b,I b->I' b)
  (x7:∀ b,I' b->I b\/(b < w2.heap.size/\(w.heap.size<=b\/∃ V C,V∈R/\L V=some (some (b,C)))))
  (x8:∀ V b C,L' V=some (some (b,C))->b < w2.heap.size/\¬ I' b/\(w.heap.size<=b\/∃ kR C',kR∈R/\L kR=some (some (b,C'))))
  (x9:∀ V kR b C C',L' V=some (some (b,C))->L' kR=some (some (b,C'))->V=kR)
  (hB:EJ (((R.zipIdx.map fun p=>(aN p.2,p.1))++N.zipIdx.map fun p=>(p.1,(d0,i0+p.2))).map (·.1))=true)
  (oS:∀ (j:Nat) V,R[j]?=some V->V ∉ gone->∀ p,L V=some p->∃ p',L' (aN j)=some p'/\GeP p p') {B:List (Nm×Nm)} (hBd:B=(R.zipIdx.map fun p=>(aN p.2,p.1))++N.zipIdx.map fun p=>(p.1,(d0,i0+p.2))) :
  SR lp I' (Ey L L' B) (apply Z dst {v:=(v0.sub (Fi B)).jR (Fe B),new:=N.map fun m=>(((Al jU.jC m).getD BO).sub (Fi B)).jR (Fe B),l4:=(R.zipIdx.map fun p=>(p.1,(((Al jU.jC (aN p.2)).getD BO).sub (Fi B)).jR (Fe B))),gone:=gone,io:=true,slot:=sl}) (GC j4 dst v) jH w2 /\
   Fr cx w0 I0 F0 O0 Hd RE e ds I' F (Ey L L' B) w2:=by
 rw[<-hBd] at hB;have qq:∀ s t,(s,t)∈B↔(∃ j:Nat,R[j]?=some t/\s=aN j)\/(∃ i:Nat,N[i]?=some s/\t=(d0,i0+i)):=by intro s t;rw[hBd,dX,dJ,dJ];constructor;{rintro (⟨⟨a,j⟩,U,O⟩ | ⟨⟨a,i⟩,U,O⟩);{cases O;exact .inl ⟨j,(fz.1 U),rfl⟩};{cases O;exact .inr ⟨i,(fz.1 U),rfl⟩}};{rintro (⟨j,U,rfl⟩ | ⟨i,U,rfl⟩);{exact .inl ⟨(t,j),fz.2 U,rfl⟩};{exact .inr ⟨(s,i),fz.2 U,rfl⟩}}
 have mW:∀ i:Nat,(∃ s,N[i]?=some s)->L (d0,i0+i)=none:=by
  rintro i ⟨s,kV⟩;obtain⟨l,U,O⟩:=hlen fun h=>by rw[h] at kV;simp at kV
  refine hs.mf _ ?_;unfold Al;rw[U];exact eI.2 (by simp only;omega)
 have hRL:∀ (j:Nat) t,R[j]?=some t->∃ p,L t=some p:=fun j t h=>hR t (d9 h)
 have hU:∀ s s' t,(s,t)∈B->(s',t)∈B->s=s':=by
  intro s s' t h h';rcases (qq s t).1 h with ⟨j,U,rfl⟩ | ⟨i,U,rfl⟩<;>rcases (qq s' _).1 h' with ⟨j',O,rfl⟩ | ⟨i',O,h3⟩;{rw[xd j j' t U O]}
  {obtain⟨p,hp⟩:=hRL j t U;rw[h3,mW i' ⟨_,O⟩] at hp;cases hp};{obtain⟨p,hp⟩:=hRL j' _ O;rw[mW i ⟨_,U⟩] at hp;cases hp}
  ·have h4:i0+i=i0+i':=iP Prod.snd h3;have:i=i':=by omega
   subst this;exact fy (U.symm.trans O)
 have nb:∀ s t,(s,t)∈B->Ey L L' B t=some ((L' s).getD none):=fun s t h=>Ya hU h;have kd:∀ t,(∀ s,(s,t) ∉ B)->Ey L L' B t=L t:=fun t h=>tC h
 have nD:Fr cx w0 I0 F0 O0 Hd RE e ds I' F (Ey L L' B) w2:=by
  have kz:∀ t b C,Ey L L' B t=some (some (b,C))->(∃ s,(s,t)∈B/\L' s=some (some (b,C)))\/((∀ s,(s,t) ∉ B)/\L t=some (some (b,C))):=by
   intro t b C h;by_cases A:∃ s,(s,t)∈B
   ·obtain⟨s,lr⟩:=A;rw[nb s t lr] at h;refine .inl ⟨s,lr,?_⟩;cases hl:L' s with
    | none=>rw[hl] at h;simp at h
    | some p=>rw[hl] at h;simpa using h
   {have nn:∀ s,(s,t) ∉ B:=fun s h=>A ⟨s,h⟩;rw[kd t nn] at h;exact .inr ⟨nn,h⟩}
  have xY:∀ t,(∀ s,(s,t) ∉ B)->t ∉ R:=by intro t h hm;obtain⟨j,hj,kO⟩:=ir hm;exact h (aN j) ((qq _ _).2 (.inl ⟨j,by rw[dQ hj,kO],rfl⟩))
  refine hf.own x1 x2 x3 x4 (fun b hb hn=>x5 b hb fun V C _=>hn V C) x6 (fun b hb=>(x7 b hb).imp id fun h=>⟨h.1,h.2.imp id fun ⟨V,C,_,h⟩=>⟨V,C,h⟩⟩) (fun t b C ht=>?_) (fun t t' b C C' ht vV=>?_)
  ·rcases kz t b C ht with ⟨s,_,h⟩ | ⟨A,h⟩
   {obtain⟨g1,g2,g3⟩:=x8 s b C h;exact⟨g1,g2,g3.imp id fun ⟨V,C,_,h⟩=>⟨V,C,h⟩⟩}
   ·obtain⟨g1,g2,g3,g4⟩:=hf.lB t b C h;refine⟨by omega,fun hi=>?_,.inr ⟨t,C,h⟩⟩;rcases x7 b hi with U | ⟨_,U | ⟨V,C',U,O⟩⟩;{exact g3 U};{omega}
    {have:=hf.inj t V b C C' h O;subst this;exact xY t A U}
  ·rcases kz t b C ht with ⟨s,hb,h⟩ | ⟨A,h⟩<;>rcases kz t' b C' vV with ⟨s',lX,h'⟩ | ⟨nn,h'⟩
   {have:=x9 s s' b C C' h h';subst this;exact cw hB hb lX}
   ·obtain⟨_,_,g3⟩:=x8 s b C h;rcases g3 with g3 | ⟨V,C2,g3,g4⟩;{have:=(hf.lB t' b C' h').2.1;omega}
    {have:=hf.inj t' V b C' C2 h' g4;subst this;exact iW g3 (xY t' nn)}
   ·obtain⟨_,_,g3⟩:=x8 s' b C' h';rcases g3 with g3 | ⟨V,C2,g3,g4⟩;{have:=(hf.lB t b C h).2.1;omega}
    {have:=hf.inj t V b C C2 h g4;subst this;exact iW g3 (xY t A)}
   {exact hf.inj t t' b C C' h h'}
 refine⟨?_,nD⟩;have hIk:∀ b,I b->w2.heap[b]?=w.heap[b]?:=fun b hb=>x5 b (hf.sep.iB b hb) fun V C _ hn=>(hf.lB V b C hn).2.2.1 hb
 let L1:AK:=fun t=>if t∈R/\t ∉ gone then Ey L L' B t else L t
 have hnB:∀ t,t ∉ R->∀ p,L t=some p->∀ s,(s,t) ∉ B:=by intro t ht p hp s h;rcases (qq s t).1 h with ⟨j,U,rfl⟩ | ⟨i,U,rfl⟩;{exact ht (d9 U)};{rw[mW i ⟨_,U⟩] at hp;cases hp}
 have hge1:K1 L L1:=by
  intro t p hp;by_cases ht:t∈R/\t ∉ gone
  ·obtain⟨j,hj,kO⟩:=ir ht.1;have hj':R[j]?=some t:=by rw[dQ hj,kO]
   obtain⟨p',U,O⟩:=oS j t hj' ht.2 p hp;refine⟨p',?_,O⟩;simp only[L1,ht,iV,and_self,iH];rw[nb (aN j) t ((qq _ _).2 (.inl ⟨j,hj',rfl⟩)),U];rfl
  {exact⟨p,by simp only[L1,ht,iG];exact hp,GeP.refl p⟩}
 let f1:Nm->Option jk:=fun m=>if gone.contains m then some none else none
 have xZ:Fj w2 I' lp L1 (some (Ey L L' B)) (fun _=>True) f1:=by
  intro t p _ hp;by_cases hg:gone.contains t=true;{simp only[f1,hg,iH]}
  ·simp only[f1,hg];refine⟨_,rfl,?_⟩;have vY:t ∉ gone:=by simpa using hg
   by_cases ht:t∈R;{have:t∈R/\t ∉ gone:=⟨ht,vY⟩;simpa only [L1,this,iV,and_self,iH] using hp};{have:¬ (t∈R/\t ∉ gone):=fun h=>ht h.1;simp only[L1,this,iG] at hp;rw[kd t (hnB t ht p hp)];exact hp}
 have htm:Av w2 I' lp (some (Ey L L' B)) (Bf f1 Z.tmps) j4:=Av.subst (fun _ h=>h) xZ ((Av.mono x6 hIk (fun _ _ h=>h) hs.tm).ge hge1) fun _ _=>trivial;have qU:Av w2 I' lp (some (Ey L L' B)) (Bf f1 Z.jG) jH:=Av.subst (fun _ h=>h) xZ ((Av.mono x6 hIk (fun _ _ h=>h) hs.kp).ge hge1) fun _ _=>trivial;generalize hups:(R.zipIdx.map fun p=>(p.1,(((Al jU.jC (aN p.2)).getD BO).sub (Fi B)).jR (Fe B)))=l4;have memU:∀ t o,(t,o)∈l4↔∃ j:Nat,R[j]?=some t/\o=(((Al jU.jC (aN j)).getD BO).sub (Fi B)).jR (Fe B):=by intro t o;rw[<-hups,dJ];constructor;{rintro ⟨⟨a,j⟩,U,O⟩;cases O;exact⟨j,fz.1 U,rfl⟩};{rintro ⟨j,U,rfl⟩;exact⟨(t,j),fz.2 U,rfl⟩}
 have hdead:∀ f g,(BO.sub f).jR g=BO:=fun f g=>rfl
 have nR:∀ s t,(s,t)∈B->∃ p,Ey L L' B t=some p/\BR w2 I' lp (Ey L L' B) ((((Al jU.jC s).getD BO).sub (Fi B)).jR (Fe B)) p:=by
  intro s t lr;refine⟨_,nb s t lr,?_⟩;cases hl:Al jU.jC s with
  | none =>
   rw[na.mf s hl];simp only[Option.getD_none,hdead];exact⟨0,0,rfl⟩
  | some ob =>
   obtain⟨p,hp,ha⟩:=na.ob s ob hl;rw[hp];simp only[eN];exact take_ob hB hU (ha.mono (fun _ h=>h) (fun _ _=>rfl) hlp fun _ _ _=>rfl)
 have ya:∀ t,Al (Z.jC.map (·.map (Ob.sub f1))) t=(Al Z.jC t).map (Ob.sub f1):=fun t=>Gh _ _ t;have hpres:∀ p∈l4,∃ o,Al (Z.jC.map (·.map (Ob.sub f1))) p.1=some o:=by rintro ⟨t,o⟩ hp;obtain⟨j,hj,_⟩:=(memU t o).1 hp;obtain⟨p,hL⟩:=hRL j t hj;obtain⟨ob,l7,_⟩:=hs.ni hL;exact⟨_,by rw[ya,l7];rfl⟩
 have hlu:∀ t,((∃ j:Nat,R[j]?=some t)->∃ s,(s,t)∈B/\Al (Gr l4 (Z.jC.map (·.map (Ob.sub f1)))) t=some ((((Al jU.jC s).getD BO).sub (Fi B)).jR (Fe B))) /\
   ((∀ j:Nat,R[j]?≠some t)->Al (Gr l4 (Z.jC.map (·.map (Ob.sub f1)))) t=(Al Z.jC t).map (Ob.sub f1)):=by
  intro t;obtain⟨U,O⟩:=aJ l4 (Z.jC.map (·.map (Ob.sub f1))) t hpres;refine⟨?_,fun ny=>?_⟩;{rintro ⟨j,hj⟩;refine⟨aN j,(qq _ _).2 (.inl ⟨j,hj,rfl⟩),U _ (fun o' rB=>?_) ((memU _ _).2 ⟨j,hj,rfl⟩)⟩;obtain⟨j',hj',rfl⟩:=(memU _ _).1 rB;rw[xd j j' t hj hj']};{rw[O fun o ho=>by obtain⟨j,hj,_⟩:=(memU _ _).1 ho;exact ny j hj,ya]}
 have nS:∀ t ob,(∀ s,(s,t) ∉ B)->Al Z.jC t=some ob->∃ p,Ey L L' B t=some p/\BR w2 I' lp (Ey L L' B) (ob.sub f1) p:=by
  intro t ob A hl;obtain⟨p,hp,ha⟩:=hs.ob t ob hl;refine⟨p,by rw[kd t A];exact hp,?_⟩;have ha2:BR w2 I' lp L ob p:=ha.mono x6 hIk (fun _ _ h=>h) fun b C hpb=>by subst hpb;refine x5 b (hf.lB t b C hp).2.1 fun V C' hm hn=>?_;have:=hf.inj t V b C C' hp hn;subst this;obtain⟨j,hj,kO⟩:=ir hm;exact A (aN j) ((qq _ _).2 (.inl ⟨j,by rw[dQ hj,kO],rfl⟩))
  exact BR.subst (ha2.ge hge1) (fun _ h=>h) (fun _ _=>rfl) xZ (fun _ _=>trivial) fun _ _ _=>rfl
 have hlens:∀ (l:List (Nm×Ob)) (jC:List jp) (d:Nat),(Gr l jC).length=jC.length/\∀ x,jC[d]?=some x->∃ y,(Gr l jC)[d]?=some y/\y.length=x.length:=by
  intro l;induction l with
  | nil=>intro jC d;exact⟨rfl,fun x h=>⟨x,h,rfl⟩⟩
  | cons p l ih =>
   obtain⟨V,o⟩:=p;intro jC d;obtain⟨q1,q2⟩:=ih (Bv jC V o) d;have hp:(Bv jC V o).length=jC.length:=by unfold Bv;split<;>simp
   refine⟨q1.trans hp,fun x A=>?_⟩;have:∃ y,(Bv jC V o)[d]?=some y/\y.length=x.length:=by unfold Bv;split;{rename_i l' r9;by_cases mu:V.1=d;{subst mu;rw[A] at r9;cases r9;exact⟨_,fS (dU.1 A).1,by simp⟩};{exact⟨x,by rw[eB mu];exact A,rfl⟩}};{exact⟨x,A,rfl⟩}
   obtain⟨y,U,O⟩:=this;obtain⟨z,h3,h4⟩:=q2 y U;exact⟨z,h3,h4.trans O⟩
 generalize hXd:Gr l4 (Z.jC.map (·.map (Ob.sub f1)))=X at hlu;have hX1:X.length=Z.jC.length:=by rw[<-hXd,(hlens l4 _ 0).1,dY]
 have hX2:∀ (d:Nat) (l:jp),Z.jC[d]?=some l->∃ l',X[d]?=some l'/\l'.length=l.length:=by intro d l h;obtain⟨y,U,O⟩:=(hlens l4 (Z.jC.map (·.map (Ob.sub f1))) d).2 (l.map (Ob.sub f1)) (by rw[dT,h];rfl);exact⟨y,by rw[<-hXd];exact U,by rw[O,dY]⟩
 generalize sw:(N.map fun m=>(((Al jU.jC m).getD BO).sub (Fi B)).jR (Fe B))=news;have hnn:news.length=N.length:=by rw[<-sw,dY]
 have pc:∀ (X:List jp) (d:Nat),X.set d (X.getD d []++[])=X:=by intro X d;rw[ft];apply eO;intro i;by_cases hi:i=d;{subst hi;by_cases jP:i < X.length;{rw[fS jP,dO,dQ jP];rfl};{rw[eI.2 (by simpa using jP),eI.2 (by simpa using jP)]}};{rw[eB (eH hi)]}
 have lr:apply Z dst {v:=(v0.sub (Fi B)).jR (Fe B),new:=news,l4:=l4,gone:=gone,io:=true,slot:=sl} =
   {tmps:=putP (Bf f1 Z.tmps) dst ((v0.sub (Fi B)).jR (Fe B)),jC:=X.set d0 (X.getD d0 []++news),jG:=Bf f1 Z.jG}:=by
  have e1:(if gone.isEmpty=true then Z else EK f1 Z)={tmps:=Bf f1 Z.tmps,jC:=Z.jC.map (·.map (Ob.sub f1)),jG:=Bf f1 Z.jG}:=by
   split
   ·rename_i hg;have vY:f1=fun _=>none:=by funext m;simp only[f1];rw[eZ.1 hg];rfl
    rw[vY,kT,kT];have:(fun l:jp=>l.map (Ob.sub fun _=>none))=id:=by funext l;rw[show (Ob.sub fun _=>none)=id from funext Ob.lN,List.map_id];rfl
    rw[this,List.map_id]
   {rfl}
  have e2:∀ s:St,(if l4.isEmpty=true then s else {s with jC:=Gr l4 s.jC})={s with jC:=Gr l4 s.jC}:=by intro s;split;{rename_i hu;rw[eZ.1 hu];rfl};{rfl}
  unfold apply;simp only[f8,iH];rw[e1,e2];simp only[hXd];cases sl with
  | some r =>
   have:=hsl r rfl;subst this;cases dst with
   | none=>rfl
   | some d=>rfl
  | none =>
   cases rL:dst with
   | none =>
    have hN:=lh rfl rL;have:news=[]:=by rw[<-sw,hN];rfl
    rw[this,pc];rfl
   | some d =>
    obtain⟨k8,h0⟩:=hd d rL;have h0:=h0 rfl;subst h0;simp only[ic,eQ];obtain⟨l',U,O⟩:=hX2 d [] k8;have h3:l'=[]:=fK.1 O;subst h3;cases hn0:news with
    | nil=>simp only[f8,iH,pc];rfl
    | cons n ns =>
     have:X.getD d []=[]:=by rw[dO,U];rfl
     simp only[List.isEmpty_cons,dE,iG,this,eM];rfl
 have key1:∀ (i:Nat) s,N[i]?=some s->Al (X.set d0 (X.getD d0 []++news)) (d0,i0+i)=some ((((Al jU.jC s).getD BO).sub (Fi B)).jR (Fe B)):=by
  intro i s hi;obtain⟨l,U,O⟩:=hlen fun h=>by rw[h] at hi;simp at hi
  obtain⟨l',h3,h4⟩:=hX2 d0 l U;have jP:d0 < X.length:=(dU.1 h3).1;rw[HZ _ jP,dO,h3];simp only[eN];rw[fN (by omega),show i0+i - l'.length=i by omega,<-sw,dT,hi];rfl
 have key2:∀ t:Nm,(∀ (i:Nat) s,N[i]?=some s->t≠(d0,i0+i))->Al (X.set d0 (X.getD d0 []++news)) t=Al X t:=by
  intro t ht;by_cases U:t.1=d0
  ·obtain⟨a,j⟩:=t;simp only at U;subst U;by_cases hN:N=[]
   ·have:news=[]:=by rw[<-sw,hN];rfl
    rw[this,pc]
   ·obtain⟨l,g1,g2⟩:=hlen hN;obtain⟨l',h3,h4⟩:=hX2 a l g1;have jP:a < X.length:=(dU.1 h3).1;rw[HZ _ jP,dO,h3];simp only[eN];have hX:Al X (a,j)=l'[j]?:=by unfold Al;rw[h3]
    rw[hX];by_cases hj:j < l'.length;{rw[fu hj]}
    ·rw[fN (by omega),eI.2 (by omega:l'.length<=j)];refine eI.2 ?_;apply fh;intro n6;have hlt3:j - l'.length < N.length:=by omega
     exact ht (j - l'.length) _ (dQ hlt3) (by rw[show i0+(j - l'.length)=j by omega])
  {rw[G1 _ U]}
 rw[lr];have hnotB:∀ t:Nm,(∀ (i:Nat) s,N[i]?=some s->t≠(d0,i0+i))->(¬ ∃ j:Nat,R[j]?=some t)->∀ s,(s,t) ∉ B:=by intro t ht hj s h;rcases (qq s t).1 h with ⟨j,U,_⟩ | ⟨i,U,O⟩;{exact hj ⟨j,U⟩};{exact ht i s U O}
 have htmf:Av w2 I' lp (some (Ey L L' B)) (putP (Bf f1 Z.tmps) dst ((v0.sub (Fi B)).jR (Fe B))) (GC j4 dst v):=by
  cases dst with
  | none=>exact htm
  | some d=>exact htm.set d (xW hB hU (AC.mono (fun _ h=>h) (fun _ _=>rfl) hlp hv))
 refine⟨htmf,qU,fun t ob hl=>?_,fun t hl=>?_⟩;{simp only at hl;by_cases ht:∃ (i:Nat) (s:Nm),N[i]?=some s/\t=(d0,i0+i);{obtain⟨i,s,U,rfl⟩:=ht;rw[key1 i s U] at hl;cases hl;exact nR s _ ((qq _ _).2 (.inr ⟨i,U,rfl⟩))};{have vV:∀ (i:Nat) s,N[i]?=some s->t≠(d0,i0+i):=fun i s U O=>ht ⟨i,s,U,O⟩;rw[key2 t vV] at hl;by_cases hj:∃ j:Nat,R[j]?=some t;{obtain⟨s,U,O⟩:=(hlu t).1 hj;rw[O] at hl;cases hl;exact nR s t U};{rw[(hlu t).2 fun j h=>hj ⟨j,h⟩] at hl;obtain⟨p9,h0,rfl⟩:=dG.1 hl;exact nS t p9 (hnotB t vV hj) h0}}};{simp only at hl;by_cases ht:∃ (i:Nat) (s:Nm),N[i]?=some s/\t=(d0,i0+i);{obtain⟨i,s,U,rfl⟩:=ht;rw[key1 i s U] at hl;cases hl};{have vV:∀ (i:Nat) s,N[i]?=some s->t≠(d0,i0+i):=fun i s U O=>ht ⟨i,s,U,O⟩;rw[key2 t vV] at hl;by_cases hj:∃ j:Nat,R[j]?=some t;{obtain⟨s,U,O⟩:=(hlu t).1 hj;rw[O] at hl;cases hl};{rw[(hlu t).2 fun j h=>hj ⟨j,h⟩] at hl;rw[kd t (hnotB t vV hj)];exact hs.mf t (by simpa using hl)}}}
end done
theorem Ta {Z:St} {v:W} {out:AQ} (h:HR sl d0 i0 R Z v=some out) :
  ∃ (N:jl) (B:List (Nm×Nm)),B=(R.zipIdx.map fun p=>((GR (Z.jG.getD p.2 .undef)).getD (0,p.2),p.1))++N.zipIdx.map (fun p=>(p.1,(d0,i0+p.2)))/\EJ (B.map (·.1))=true /\
   out={v:=(v.sub (Fi B)).jR (Fe B),new:=N.map fun m=>(((Al Z.jC m).getD BO).sub (Fi B)).jR (Fe B),l4:=(R.zipIdx.map fun p=>(p.1,(((Al Z.jC ((GR (Z.jG.getD p.2 .undef)).getD (0,p.2))).getD BO).sub (Fi B)).jR (Fe B))),gone:=KF R Z.jG,io:=true,slot:=sl}:=by
 unfold HR at h;obtain⟨U,O⟩:=Bx h;refine⟨_,_,rfl,U,?_⟩;cases O;simp only[GJ,eo];rfl
theorem bz {d j:Nat} (hj:Al jC (d,j)=some o) (h:LA (Al jC) d=some i0):∃ l,jC[d]?=some l/\l.length=i0:=by
 unfold LA at h;rw[List.find?_eq_some_iff_append] at h;obtain⟨U,as,bs,O,h3⟩:=h;cases hl:jC[d]? with
 | none=>unfold Al at hj;simp only[hl] at hj;cases hj
 | some l =>
  have mV:∀ j,Al jC (d,j)=l[j]?:=fun j=>by unfold Al;simp only[hl]
  refine⟨l,rfl,?_⟩;have hle:l.length<=i0:=by rw[mV] at U;simpa using U
  have hlen:as.length=i0/\∀ k,k < as.length->as[k]?=some k:=by
   have T:=O;have sP:(List.range 64)[as.length]?=some i0:=by rw[T];simp
   obtain⟨q1,q2⟩:=dU.1 sP;simp at q2;refine⟨q2,fun k hk=>?_⟩;have:(List.range 64)[k]?=as[k]?:=by rw[T,fu hk]
   rw[<-this];simp at q1;exact fA (by omega)
  rcases Nat.lt_or_ge l.length i0 with jP | oS
  {have hm:=hlen.2 l.length (by omega);have:=h3 _ (d9 hm);rw[mV] at this;simp at this};{omega}
theorem Y9 {cx:Cx} (hM:Fy cx M.call) (kG:vS cx M) (mg:Hq M) (tB:Sy cx M) (nF:Mj cx jO dd) (n:Nat) (g:ja) (d0:Nat) (Z:St) (vs:jh) (out:AQ) (hc:Hp M n jO g d0 (Al Z.jC) vs=some out):Dx cx.P g /\
  ∀ (E:Type) (w0:i7) (I0 F0:Nat->Prop) (O0:Cw) (Hd:Nat->Option Obj) (R:Ch E) (e:E) (ds:List jf) (I F:Nat->Prop) (lp:Nat->jj) (L:AK) (j4 jH us:List i8) (w:i7) (dst:jj),
   SR lp I L Z j4 jH w->Fr cx w0 I0 F0 O0 Hd R e ds I F L w->Av w I lp (some L) vs us->(∀ d,dst=some d->d=d0/\Z.jC[d]?=some [])->(dst=none->out.new=[]\/out.slot.isSome=true) ->
   (CallsIn Fence.wide 0 cx.P g us.toArray w fun
    | .returned v,w'=>∃ I' L',SR lp I' L' (apply Z dst out) (GC j4 dst v) jH w'/\Fr cx w0 I0 F0 O0 Hd R e ds I' F L' w'
    | _,_=>False) /\
   (Kn jO g=true->∀ u,CallsDIn Fence.wide 0 cx.P g us.toArray u w fun en u' w'=>u'=u/\match en with
    | .returned v=>∃ I' L',SR lp I' L' (apply Z dst out) (GC j4 dst v) jH w'/\Fr cx w0 I0 F0 O0 Hd R e ds I' F L' w'
    | _=>False):=by
 unfold Hp at hc;split at hc
 case h_1=>cases hc
 rename_i rf hrf;obtain⟨fn,c,oT,mj,xP,lQ,oN,su⟩:=xO nF hrf;simp only at hc;generalize hRd:Et (Bn (Al Z.jC) A7 (AU vs))=R at hc;have xd:∀ (i j:Nat) V,R[i]?=some V->R[j]?=some V->i=j:=by rw[<-hRd];exact fun i j V=>dn i j V
 have hmemR:∀ V∈AU vs,V∈R:=fun V hn=>by rw[<-hRd];exact S7.2 (FT _ _ V hn)
 split at hc
 case h_1=>cases hc
 rename_i ins hins;obtain⟨hk,hc⟩:=Bx hc;simp only[dF,fO,iK] at hk;obtain⟨⟨⟨hy,hshut⟩,hoy⟩,⟨hlen,hRlen⟩,hnt0⟩:=hk;split at hc
 case h_2=>cases hc
 rename_i jU v0 oC
 have mO:∃ sl d1 i1,HR sl d1 i1 R jU v0=some out/\((sl=none/\d1=d0/\i1=0/\R=[])\/(sl=some d1/\∃ j,(d1,j)∈R/\LA (Al Z.jC) d1=some i1)):=by
  unfold M4 at hc;cases R with
  | nil=>exact⟨none,d0,0,hc,.inl ⟨rfl,rfl,rfl,rfl⟩⟩
  | cons r rs =>
   simp only at hc;split at hc;{rename_i i1 hi1;exact⟨some r.1,r.1,i1,hc,.inr ⟨rfl,r.2,d7,hi1⟩⟩};{cases hc}
 obtain⟨sl,d1,i1,hc,mO⟩:=mO;obtain⟨N,B,hB,hBn,kd⟩:=Ta hc
 have j9:∃ x lR l rs,((En rf.code=true/\AT M n rf.code AI 0 (J1 rf.gone rf.nt (ins.map (Ob.jR fun m=>(0,R.idxOf m))) (BE (fun m=>(0,R.idxOf m)) vs)) ()=some (x,lR,())/\jU=lR) \/
   (En rf.code=false/\Bt M n rf.nt rf.code (J1 rf.gone rf.nt (ins.map (Ob.jR fun m=>(0,R.idxOf m))) (BE (fun m=>(0,R.idxOf m)) vs))=some (x,lR,l)/\HX M rf.nt l lR=some jU))/\(∀ id,x≠.exit id)/\Gz jU rf.res=some rs/\v0=Ig rs:=by
  unfold IM at oC;split at oC
  ·rename_i hq;split at oC
   case h_2=>cases oC
   rename_i x lR u jL;have qM:∀ id,x≠.exit id:=by rintro id rfl;simp at oC
   have oi:(match Gz lR rf.res with
     | some rs=>some (lR,Ig rs)
     | none=>none)=some (jU,v0):=by
    cases x with
    | normal=>exact oC
    | ret=>exact oC
    | exit id=>exact iW rfl (qM id)
   split at oi
   case h_2=>cases oi
   rename_i rs rz;cases oi;exact⟨x,_,[],rs,.inl ⟨hq,jL,rfl⟩,qM,rz,rfl⟩
  ·rename_i hq;split at oC
   case h_2=>cases oC
   rename_i x lR l jL;have qM:∀ id,x≠.exit id:=by rintro id rfl;simp at oC
   have oi:(match HX M rf.nt l lR with
     | some Z=>match Gz Z rf.res with
      | some rs=>some (Z,Ig rs)
      | none=>none
     | none=>none)=some (jU,v0):=by
    cases x with
    | normal=>exact oC
    | ret=>exact oC
    | exit id=>exact iW rfl (qM id)
   split at oi
   case h_2=>cases oi
   rename_i st4 hd;split at oi
   case h_2=>cases oi
   rename_i rs rz;cases oi;exact⟨x,lR,l,rs,.inr ⟨by simpa using hq,jL,hd⟩,qM,rz,rfl⟩
 obtain⟨x,lR,l,rs,jL,qM,rz,rfl⟩:=j9;obtain⟨m1,m2⟩:=Xe R ins hins;refine⟨⟨fn,oT,by simpa using lQ,by rw[mj];rfl⟩,?_⟩;intro E w0 I0 F0 O0 Hd RE e ds I F lp L j4 jH us w dst hs hf jS hd lh;have hRL:∀ V∈R,∃ p ob,L V=some p/\Al Z.jC V=some ob/\BR w I lp L ob p:=by intro V hn;obtain⟨j,hj,kO⟩:=ir hn;obtain⟨ob,_,O⟩:=m2 j V (by rw[dQ hj,kO]);obtain⟨p,hp,ha⟩:=hs.ob V ob O;exact⟨p,ob,hp,O,ha⟩
 let Lc:AK:=fun m=>if m.1=0 then (R[m.2]?).bind L else none
 let fr:Nm->Nm:=fun m=>(0,R.idxOf m)
 let LR:AK:=fun m=>if m∈R then L m else none
 have mM:∀ V p,LR V=some p->Lc (fr V)=some p:=by intro V p hp;simp only[LR] at hp;split at hp;{rename_i hm;simp only[Lc,fr,iH,idx_get hm,gK,hp]};{cases hp}
 have hLc:∀ V p,Lc V=some p->∃ t,R[V.2]?=some t/\V.1=0/\L t=some p:=by
  intro V p hp;simp only[Lc] at hp;split at hp
  ·rename_i U;cases T:R[V.2]? with
   | none=>rw[T] at hp;simp at hp
   | some t=>rw[T] at hp;exact⟨t,rfl,U,by simpa using hp⟩
  {cases hp}
 let mT:Nat->jj:=fun _=>none
 have kX:Av w I mT (some Lc) (BE fr vs) us:=by
  have U:Av w I mT (some L) vs us:=jS.qk hy;have O:Av w I mT (some LR) vs us:=U.narrow fun V hn p hp=>by simp only[LR,hmemR V hn,iH];exact hp
  exact O.rename mM
 have hil:(ins.map (Ob.jR fr)).length=R.length:=by rw[dY,m1]
 let wv:List i8:=(List.range rf.nt).map fun j=>match (R[j]?).bind L with
  | some (some (b,C))=>.slice (some ⟨b,0,none⟩) 0 C
  | _=>.slice none 0 0
 have hwvj:∀ (j:Nat) V,R[j]?=some V->wv.getD j undef=(match L V with
    | some (some (b,C))=>.slice (some ⟨b,0,none⟩) 0 C
    | _=>.slice none 0 0):=by
  intro j V hj;have hjl:j < rf.nt:=by have:=(dU.1 hj).1;omega
  rw[dO,dT,fA hjl];simp only[ed,eN,hj,gK]
 have hwit:Av w I mT (some Lc) (Mn rf.gone rf.nt R.length) wv:=by
  refine Av.of_get (by simp[Mn,wv]) fun i y v hy' hv=>?_;simp only[Mn,dT,dG] at hy';obtain⟨j,hj,rfl⟩:=hy';have jP:i < rf.nt/\j=i:=by obtain⟨U,O⟩:=dU.1 hj;simp at U O;exact⟨U,O.symm⟩
  obtain⟨jP,rfl⟩:=jP;split
  case isFalse=>exact .undef _
  rename_i hjR0;have hjR:=hjR0.1;have ht:R[j]?=some R[j]:=dQ hjR;have rJ:=hwvj j _ ht;rw[dO,hv] at rJ;simp only[eN] at rJ;subst rJ;obtain⟨p,ob,hp,_,_⟩:=hRL _ (d9 ht);have oP:Lc (0,j)=some p:=by simp only[Lc,iH,ht,gK,hp]
  rw[hp];cases p with
  | none=>exact .l6 _ _ oP
  | some p =>
   obtain⟨b,C⟩:=p;have:=AC.arr (w:=w) (I:=I) (lp:=mT) (L:=Lc) (0,j) 1 0 0 C b C oP (by omega) (fp _);simpa using this
 have qS:SR mT I Lc (J1 rf.gone rf.nt (ins.map (Ob.jR fr)) (BE fr vs)) (us.toArray++Array.replicate (fn.ntmps - us.toArray.size) undef).toList wv w:=by
  have hlen0:0 < (List.replicate rf.nt ([]:jp)).length:=by simpa using hnt0
  have hempty:∀ V:Nm,V.1≠0->Al ((List.replicate rf.nt []).set 0 (ins.map (Ob.jR fr))) V=none:=by
   intro V U;rw[G1 _ U];unfold Al;cases hg:(List.replicate rf.nt ([]:jp))[V.1]? with
   | none=>rfl
   | some l =>
    have:=hZ (d9 hg);subst this;simp
  refine⟨?_,?_,?_,?_⟩;{have hl:=kX.length;have O:Av w I mT (some Lc) (List.replicate (rf.nt - (BE fr vs).length) W.undef) (List.replicate (rf.nt - (BE fr vs).length) undef):=Av.kC _ _ (by simp);have:=kX.append O;show Av w I mT (some Lc) (BE fr vs++List.replicate (rf.nt - (BE fr vs).length) .undef) _;rw[hl] at this |-;simpa[oN] using this};{show Av w I mT (some Lc) (Mn rf.gone rf.nt (ins.map (Ob.jR fr)).length) wv;rw[hil];exact hwit}
  ·intro V ob hl;have nR:Al ((List.replicate rf.nt []).set 0 (ins.map (Ob.jR fr))) V=some ob:=hl;by_cases U:V.1=0
   ·obtain⟨a,j⟩:=V;simp only at U;subst U;rw[HZ _ hlen0,dT] at nR;obtain⟨p9,ho0,rfl⟩:=dG.1 nR;have hj:j < R.length:=by have:=(dU.1 ho0).1;omega
    have hRt:R[j]?=some R[j]:=dQ hj;obtain⟨ob1,h3,h4⟩:=m2 j _ hRt;rw[ho0] at h3;cases h3;obtain⟨p,hp,ha⟩:=hs.ob _ p9 h4;refine⟨p,by simp only[Lc,iH,hRt,gK,hp],?_⟩;have hyo:p9.kf=false:=by have:=d6.1 hoy p9 (d9 ho0);simpa using this
    have hnarrow:BR w I mT LR p9 p:=(ha.qk hyo).narrow fun m hm q hq=>by have:m∈R:=VI hshut (d9 hRt) h4 m hm;simp only[LR,this,iH];exact hq
    exact hnarrow.jR mM
   {rw[hempty V U] at nR;cases nR}
  ·intro V hl;have nR:Al ((List.replicate rf.nt []).set 0 (ins.map (Ob.jR fr))) V=none:=hl;simp only[Lc];split
   ·rename_i U;obtain⟨a,j⟩:=V;simp only at U;subst U;rw[HZ _ hlen0,dT] at nR;have O:ins[j]?=none:=by simpa using nR
    have:R[j]?=none:=eI.2 (by have:=eI.1 O;omega);rw[this];rfl
   {rfl}
 let zzb:Nat->Prop:=fun b=>∃ V C,V∈R/\L V=some (some (b,C))
 have tt:Fr cx w I zzb ⟨zzb,[]⟩ (fun _=>none) Fa () [] I (fun _=>False) Lc w:=by refine⟨⟨rfl,rfl,rfl,dH _,fun _ _ _=>rfl,fun _ h=>h,fun _ h=>.inl h,fun b h=>h.elim⟩,⟨hf.sep.iB,fun b h=>h.elim⟩,fun b h=>h,fun V b C hn=>?_,fun V kR b C C' hn kW=>?_,hf.wd,trivial,.nil,fun b ob hb=>by cases hb⟩;{obtain⟨t,U,_,O⟩:=hLc V _ hn;obtain⟨_,g2,g3,_⟩:=hf.lB t b C O;exact⟨.inr ⟨t,C,d9 U,O⟩,g2,g3,fun h=>h⟩};{obtain⟨t,U,h3,O⟩:=hLc V _ hn;obtain⟨t',h1',h3',lZ⟩:=hLc kR _ kW;have:=hf.inj t t' b C C' O lZ;subst this;exact Prod.ext (h3.trans h3'.symm) (xd _ _ t U h1')}
 have tail:∀ (tm:Array i8) (w2:i7) (I' F':Nat->Prop) (L':AK),SR mT I' L' jU tm.toList wv w2->Fr cx w I zzb ⟨zzb,[]⟩ (fun _=>none) Fa () [] I' F' L' w2 ->
   ∃ v,(results fn tm).run cx.P w2=.ok v w2/\∃ I' L',SR lp I' L' (apply Z dst out) (GC j4 dst v) jH w2/\Fr cx w0 I0 F0 O0 Hd RE e ds I' F L' w2:=by
  intro tm w2 I' F' L' na kK;obtain⟨pw,q1,q2⟩:=xM na (P:=cx.P) fn.results.toList rf.res rs xP rz;have hv:=YW q2;have qm:=kK.ext
  have oS:∀ (j:Nat) V,R[j]?=some V->V ∉ KF R jU.jG->∀ p,L V=some p->∃ p',L' ((fun k=>(GR (jU.jG.getD k .undef)).getD (0,k)) j)=some p'/\GeP p p':=by
   intro j V hj hng p hp
   have mc:(GR (jU.jG.getD j .undef)).isSome=true:=by
    cases hw:GR (jU.jG.getD j .undef) with
    | some q=>rfl
    | none =>
     refine iW ?_ hng;unfold KF;exact dJ.2 ⟨(V,j),fX.2 ⟨fz.2 hj,by simp only[hw];rfl⟩,rfl⟩
   obtain⟨q,hq⟩:=fZ.1 mc;simp only[hq,eN];have lE:=na.kp.getD j undef;have n7:=hwvj j V hj;have hform:jU.jG.getD j .undef=.arr q 1 0 0:=by unfold GR at hq;split at hq;{rename_i kR heq;cases hq;exact heq};·cases hq
   rw[hform,n7,hp] at lE;cases p with
   | none =>
    simp only at lE;cases lE with
    | l6 _ _ h=>exact⟨none,h,trivial⟩
   | some p =>
    obtain⟨b,C⟩:=p;simp only at lE;generalize hvv:(Value.slice (some ⟨b,0,none⟩) 0 C)=vv at lE;cases lE with
    | arr _ _ _ _ cap b' C' h hC hn =>
     simp only[Value.slice.injEq,dL,Addr.mk.injEq] at hvv;obtain⟨⟨rfl,_,_⟩,_,rfl⟩:=hvv;exact⟨some (b,C'),h,rfl,by omega⟩
    | l6 _ _ h=>simp at hvv
  have hOb:∀ b,b < w.heap.size->(∀ V C,V∈R->L V≠some (some (b,C)))->w2.heap[b]?=w.heap[b]?:=fun b hb hn=>qm.jG b hb fun ⟨V,C,U,O⟩=>hn V C U O
  have htk:=xX (d0:=d1) (i0:=i1) (sl:=sl) (dst:=dst) (R:=R) (N:=N) (aN:=fun k=>(GR (jU.jG.getD k .undef)).getD (0,k)) (gone:=KF R jU.jG) hs hf (mT:=mT) (fun d l h=>by cases h)
   (fun d hdd=>⟨(hd d hdd).2,fun h=>by
    rcases mO with ⟨_,U,_,_⟩ | ⟨U,_⟩;·rw[U];exact (hd d hdd).1
    ·rw[h] at U;cases U⟩)
   (fun r T=>by
    rcases mO with ⟨U,_⟩ | ⟨U,_⟩;·rw[T] at U;cases U
    ·rw[T] at U;cases U;rfl)
   (fun hN=>by
    rcases mO with ⟨U,O,h3,h4⟩ | ⟨U,j,O,h3⟩
    ·cases rL:dst with
     | none =>
      rcases lh rL with h5 | h5;·rw[kd] at h5;exact iW (by simpa using h5) hN
      ·rw[kd,U] at h5;cases h5
     | some d =>
      obtain⟨g1,g2⟩:=hd d rL;exact⟨[],by rw[O,<-g1];exact g2,by rw[h3];rfl⟩
    ·obtain⟨p,ob,hp,hl,_⟩:=hRL _ O;exact bz hl h3)
   (fun U hn=>by
    rcases lh hn with h5 | h5;·rw[kd] at h5;simpa using h5
    ·rw[kd,U] at h5;cases h5) (fun V hn=>let ⟨p,_,hp,_⟩:=hRL V hn;⟨p,hp⟩) xd na hv
   qm.os qm.tape qm.output qm.size hOb qm.nA
   (fun b hb=>by
    rcases qm.nh b hb with h | h | h;·exact .inl h
    ·exact .inr ⟨kK.sep.iB b hb,.inr h⟩
    ·exact .inr ⟨kK.sep.iB b hb,.inl h⟩)
   (fun V b C hn=>by obtain⟨g1,g2,g3,_⟩:=kK.lB V b C hn;exact⟨g2,g3,g1⟩) kK.inj (by rw[<-hB];exact hBn) oS hB
  refine⟨if h:pw.toArray.size=1 then pw.toArray[0] else .tuple pw.toArray,?_,I',Ey L L' B,?_⟩;{unfold results;rw[Sem.run_bind,iC,Sem.run_map];rw[fE] at q1;exact (iP (fun r:Result (List i8)=>(r.andThen fun a w'=>Result.ok a.toArray w').andThen fun a w'=>Sem.run cx.P (pure (if h:a.size=1 then a[0] else Value.tuple a)) w') q1).trans rfl};{rw[kd];exact htk}
 have body:∀ (Q:Exit->Act->i7->Prop),(∀ a' w',(En rf.code=true->∀ d∈a'.defers,∃ r,d.target=.collected r)->LeavesInM Fence.wide 0 cx.P fn a'.tmps (fun
    | .returned v,w'=>∃ I' L',SR lp I' L' (apply Z dst out) (GC j4 dst v) jH w'/\Fr cx w0 I0 F0 O0 Hd RE e ds I' F L' w'
    | _,_=>False) a'.defers .returning w'->Q .normal a' w'/\Q .ret a' w')->c.wpIn (EO none) 0 cx.P Q {tmps:=us.toArray++Array.replicate (fn.ntmps - us.toArray.size) undef,defers:=[]} w:=by
  intro Q hQ
  have A:∀ a' w',Q .normal a' w'/\Q .ret a' w'->Q (Eg x) a' w':=by
   intro a' w' h;cases x with
   | normal=>exact h.1
   | ret=>exact h.2
   | exit id=>exact iW rfl (qM id)
  rcases jL with ⟨hq,jL,rfl⟩ | ⟨hq,jL,hd⟩
  ·rw[su] at jL;refine UI (dd:=dd g) (M:=M) hM kG mg c Unit AI 0 Fa mT w I zzb ⟨zzb,[]⟩ (fun _=>none) wv none _ () x jU () jL ⟨⟨I,zzb,w,Qp cx _ _ _ _,CI.refl _ _ _⟩,fun d l h=>by cases h⟩ (fun l0 he=>by cases he) _ w I (fun _=>False) _ _ qS tt fun a' w' I' F' L' kV kK=>A a' w' (hQ a' w' (fun _ d hd=>?_) ?_)
   ·have key:∀ ds rs,Ee w.heap.size I' F' L' w' ds rs->rs=[]->∀ d∈ds,∃ r,d.target=.collected r:=by
     intro ds rs hm;induction hm with
     | nil=>intro _ d hd;cases hd
     | cons D ds rs _ _ _ _ _ _ _ _ ih =>
      intro h0 d hd;rcases dM.1 hd with rfl | hd;{exact⟨D,rfl⟩};{exact ih h0 d hd}
     | call d ds rs _ _ _=>intro h0;cases h0
    exact key _ _ kK.qi rfl d hd
   {exact Wp (nt:=rf.nt) (M:=M) tB a'.defers [] [] [] jU w' I' F' L' kV kK .nil rfl fun w2 I2 F2 L2 g1 g2=>tail a'.tmps w2 I2 F2 L2 g1 g2}
  {rw[su] at jL;refine xR (dd:=dd g) (M:=M) hM kG mg c mT w I zzb zzb [] wv _ x lR l jL ⟨⟨I,zzb,w,Qp cx _ _ _ _,CI.refl _ _ _⟩,fun d l h=>by cases h⟩ _ w I (fun _=>False) _ _ qS tt fun a' w' I' F' L' pw oB kV kK hp=>A a' w' (hQ a' w' (fun h=>by rw[hq] at h;cases h) ?_);rw[ft] at kK;exact Wp (nt:=rf.nt) (M:=M) tB a'.defers oB l pw lR w' I' F' L' kV kK hp hd fun w2 I2 F2 L2 g1 g2=>tail a'.tmps w2 I2 F2 L2 g1 g2}
 refine⟨callsIn_of_wp_marks oT mj trivial (body _ fun a' w' _ h=>⟨h,h⟩),fun rF u=>?_⟩;have mu:En rf.code=true:=by unfold Kn at rF;rw[hrf] at rF;exact rF
 refine (Zz (R:=fun
    | .returned v,w'=>∃ I' L',SR lp I' L' (apply Z dst out) (GC j4 dst v) jH w'/\Fr cx w0 I0 F0 O0 Hd RE e ds I' F L' w'
    | _,_=>False) oT mj trivial (body _ fun a' w' hm h=>⟨⟨hm mu,h⟩,⟨hm mu,h⟩⟩)).mono fun en u' w' hq=>⟨hq.1,?_⟩
 cases en<;>exact hq.2
theorem io_ok {cx:Cx} (hM:Fy cx M.call) (kG:vS cx M) (mg:Hq M) (tB:Sy cx M) (nF:Mj cx jO dd) (n:Nat):IoOK cx (Hp M n jO):=by intro g d0 Z vs out hc;obtain⟨U,O⟩:=Y9 hM kG mg tB nF n g d0 Z vs out hc;exact⟨U,fun E w0 I0 F0 O0 Hd R e ds I F lp L j4 jH us w dst hs hf T hd hn=>(O E w0 I0 F0 O0 Hd R e ds I F lp L j4 jH us w dst hs hf T hd hn).1⟩
theorem b8:∀ (l:jl),(∀ V∈l,σ V=σ' V)->l.mapM σ=l.mapM σ':=by
 intro l;induction l with
 | nil=>intro _;rfl
 | cons x l ih =>
  intro h;rw[fq,fq,h x d7,ih fun V hn=>h V (dZ _ hn)]
theorem bB (h:∀ V∈R,σ V=σ' V):D9 σ R=D9 σ' R:=by unfold D9;rw[fe];simp only[d6];exact⟨fun g V hn=>by rw[<-h V hn];exact g V hn,fun g V hn=>by rw[h V hn];exact g V hn⟩
theorem io_loc (M:Bp) (n:Nat) (jO:ja->jt):Zy (Hp M n jO):=by
 intro g d σ σ' vs out hσ h lr;unfold Hp at h |-;cases ht:jO g with
 | none=>rw[ht] at h;cases h
 | some fn =>
  rw[ht] at h;simp only at h |-;rw[<-NY _ _ hσ];have hc:∀ V∈Et (Bn σ A7 (AU vs)),σ V=σ' V:=fun V hn=>hσ V (S7.1 hn);rw[<-b8 _ hc,<-bB hc];cases hm:(Et (Bn σ A7 (AU vs))).mapM σ with
  | none=>rw[hm] at h;cases h
  | some ins =>
   rw[hm] at h;simp only at h |-;generalize Et (Bn σ A7 (AU vs))=R at h |-;obtain⟨U,O⟩:=Bx h;simp only[AN,U,iH];split at O
   case h_2=>cases O
   rename_i Z v oC;unfold M4 at O |-;cases R with
   | nil=>exact O
   | cons r rs =>
    simp only at O;split at O;{obtain⟨N,B,_,_,rfl⟩:=Ta O;simp[De,Ft] at lr};{cases O}
theorem Yg {Z:St} {v:W} {out:AQ} (h:HR sl d0 i0 R Z v=some out):out.io=true:=by obtain⟨_,_,_,_,rfl⟩:=Ta h;rfl
theorem Uy (M:Bp) (n:Nat) (jO:ja->jt) (g:ja) (d:Nat) (σ:Nm->jk) (vs:jh) (out:AQ) (h:Hp M n jO g d σ vs=some out):out.io=true:=by
 unfold Hp at h;split at h
 case h_1=>cases h
 simp only at h;split at h
 case h_1=>cases h
 obtain⟨_,h⟩:=Bx h;split at h
 case h_2=>cases h
 unfold M4 at h;split at h;{exact Yg h};{split at h;{exact Yg h};·cases h}
theorem yb {cx:Cx} (kG:SpOK cx sp) (mg:Ra sp) (nF:Mj cx jO dd):∀ n,Fy cx (Fh sp jO n).call/\vS cx (Fh sp jO n)/\Hq (Fh sp jO n)/\Sy cx (Fh sp jO n):=by
 intro n;induction n with
 | zero=>exact⟨fun E h R dep lp Ir qE wr g args e r obs e' hc=>(by cases hc),⟨kG,fun g d Z vs out h=>(by cases h),fun g d σ vs out h=>(by cases h)⟩,⟨mg,fun _ _ _ _ _ _ _ h _=>h⟩,fun g d Z vs out _ h=>(by cases h)⟩
 | succ n ih =>
  obtain⟨i1,i2,i3,i4⟩:=ih;refine⟨tz i1 i2 i3 nF n,⟨kG,io_ok i1 i2 i3 i4 nF n,Uy _ n jO⟩,⟨mg,io_loc _ n jO⟩,fun g d Z vs out rF hc=>?_⟩;obtain⟨U,O⟩:=Y9 i1 i2 i3 i4 nF n g d Z vs out hc;exact⟨U,fun E w0 I0 F0 O0 Hd R e ds I F lp L j4 jH us w u hs hf T hn=>(O E w0 I0 F0 O0 Hd R e ds I F lp L j4 jH us w none hs hf T (fun d h=>by cases h) fun _=>hn).2 rF u⟩
theorem fn_ok {cx:Cx} (kG:SpOK cx sp) (mg:Ra sp) (nF:Mj cx jO dd) (n:Nat):Fy cx (Br sp jO n):=(yb kG mg nF n).1
end Go.Ab


namespace Go.Ab
variable{args:jh} {b:Bool} {cx:Cx} {g:ja} {may:MemPlace->Prop} {obs:jp} {vs:List i8} {w:i7}
theorem ZC {w':i7} (U:w'.os=w.os) (O:w'.output=w.output) (h3:∀ b,b < w.heap.size->w'.heap[b]?=w.heap[b]?):w.keptBut w' may:=by
 refine⟨U,O,fun i hi=>?_⟩;rw[h3 i hi];cases A:w.heap[i]? with
 | none=>rfl
 | some o=>cases o<;>first | rfl | exact⟨rfl,rfl,rfl,fun _ _=>rfl⟩ | exact .inr ⟨rfl,rfl⟩
structure L5 (w w':i7):Prop where
 os:w'.os=w.os
 tape:w'.tape=w.tape
 output:w'.output=w.output
 size:w.heap.size<=w'.heap.size
 same:∀ b,b < w.heap.size->w'.heap[b]?=w.heap[b]?
theorem tE {call:Ik} (hM:Fy cx call) (jL:call Unit AI 0 g args ()=some (.bool b,obs,())) {I:Nat->Prop} 
  (hI:∀ b,I b->b < w.heap.size) (hw:cx.Wd I w) (jS:Av w I (fun _=>none) none args vs) :
  Calls cx.P g vs.toArray w fun e w'=>e=.returned (.bool b)/\L5 w w':=by
 obtain⟨_,h⟩:=hM Unit AI Fa 0 (fun _=>none) I (fun _=>False) w g args () (.bool b) obs () jL (Qp cx _ _ _ _) (fun d l h=>by cases h);have:=h I (fun _=>False) w vs (CI.refl _ _ _) ⟨hI,fun b hb=>hb.elim⟩ hw trivial jS;refine callsIn_wide.1 (CallsIn.og this fun e w' T=>?_);cases e with
 | returned v =>
  obtain⟨I',F',ps,lu⟩:=T;exact⟨by rw[Gi lu.rep],lu.ext.os,lu.ext.tape,lu.ext.output,lu.ext.size,fun b hb=>lu.ext.jG b hb fun h=>h⟩
 | panicked chain=>exact T.elim
 | outgrown=>exact T.elim
end Go.Ab


namespace Go.Ab
variable{E σ:Type} {P Q:Nat->Prop} {f1 n nt:Nat} {inf:DP} {l:jm} {obs:jp} {r:W} {sp:ja->(Nm->jk)->jh->js} {st':St} {jO:ja->jt} {u:Unit} {x:Ex}
def Bs (P:Nat->Prop):Prop:=∃ m,∀ k,m<=k->P k
theorem Bs.of (h:∀ k,P k):Bs P:=⟨0,fun k _=>h k⟩
theorem Bs.and (h:Bs P) (h':Bs Q):Bs fun k=>P k/\Q k:=by obtain⟨a,ha⟩:=h;obtain⟨b,hb⟩:=h';exact⟨max a b,fun k hk=>⟨ha k (by omega),hb k (by omega)⟩⟩
theorem Bs.mono (h:Bs P) (f:∀ k,P k->Q k):Bs Q:=by obtain⟨a,ha⟩:=h;exact⟨a,fun k hk=>f k (ha k hk)⟩
theorem Bs.lS {S:Nat->Prop} (h:Bs P) (h':Bs Q) (f:∀ k,P k->Q k->S k):Bs S:=(h.and h').mono fun k ⟨a,b⟩=>f k a b
def tF {E1 E2:Type} (RE:E1->E2->Prop) (U:AA E1) (O:Nat->AA E2):Prop :=
 ∀ l args e1 e2,RE e1 e2->∀ b lG,U l args e1=some (b,lG)->∃ kU,RE lG kU/\Bs fun k=>O k l args e2=some (b,kU)
def Vk (c1:Ik) (c2:Nat->Ik):Prop :=
 ∀ (E1 E2:Type) (RE:E1->E2->Prop) (U:AA E1) (O:Nat->AA E2),tF RE U O ->
  ∀ dep g args e1 e2,RE e1 e2->∀ r obs lG,c1 E1 U dep g args e1=some (r,obs,lG)->∃ kU,RE lG kU/\Bs fun k=>c2 k E2 (O k) dep g args e2=some (r,obs,kU)
structure Ht (M1:Bp) (M2:Nat->Bp):Prop where
 sp:∀ k,M1.sp=(M2 k).sp
 call:Vk M1.call fun k=>(M2 k).call
 lC:∀ k,M1.lC=(M2 k).lC
 kr:∀ k,M1.kr=(M2 k).kr
 flat:∀ k,M1.flat=(M2 k).flat
 io:∀ g dst σ vs out,M1.io g dst σ vs=some out->Bs fun k=>(M2 k).io g dst σ vs=some out
section par
variable {M1:Bp} {M2:Nat->Bp} (hM:Ht M1 M2) {E1 E2:Type} {RE:E1->E2->Prop} {U:AA E1} {O:Nat->AA E2} (hh:tF RE U O)
include hM
theorem Tm (g:ja) (args:jh) (h:M1.call Unit AI 0 g args ()=some (r,obs,u)):Bs fun k=>(M2 k).call Unit AI 0 g args ()=some (r,obs,()):=by obtain⟨_,_,h'⟩:=hM.call Unit Unit (fun _ _=>True) AI (fun _=>AI) (fun _ _ _ _ _ _ _ h=>by cases h) 0 g args () () trivial r obs u h;exact h'
include hh
theorem aa (dep dst:Nat) (σ:Nm->jk) (tm:jh) (f:RX) (args:jz) {e1:E1} {e2:E2} (he:RE e1 e2) {out:AQ} {lG:E1}
  (h:D3 M1 U dep dst σ tm f args e1=some (out,lG)):∃ kU,RE lG kU/\Bs fun k=>D3 (M2 k) (O k) dep dst σ tm f args e2=some (out,kU):=by
 unfold D3 at h |-;cases hf:f.ev tm with
 | ke d =>
  simp only[hf] at h |-;by_cases hS:(AU (args.map (RX.ev tm))).isEmpty=true
  ·simp only[hS,iH] at h |-;unfold AN at h |-;split at h
   ·rename_i hy;simp only[hy,iH];cases hq:U d (args.map (RX.ev tm)) e1 with
    | none=>rw[hq] at h;cases h
    | some p =>
     obtain⟨b,e⟩:=p;rw[hq] at h;cases h;obtain⟨kU,T,lZ⟩:=hh _ _ _ _ he _ _ hq;exact⟨kU,T,lZ.mono fun k hk=>by rw[hk]⟩
   {cases h}
  ·simp only[hS] at h |-;unfold AN at h |-;simp only[dE,iG] at h |-;split at h
   ·rename_i hy;simp only[hy,iH];cases hq:U d (Bf (BX σ) (args.map (RX.ev tm))) e1 with
    | none=>rw[hq] at h;cases h
    | some p =>
     obtain⟨b,e⟩:=p;rw[hq] at h;cases h;obtain⟨kU,T,lZ⟩:=hh _ _ _ _ he _ _ hq;exact⟨kU,T,lZ.mono fun k hk=>by rw[hk]⟩
   {cases h}
 | fn g cap =>
  simp only[hf] at h |-;simp only[<-hM.sp,<-hM.lC,<-hM.kr];cases hs:M1.sp (Ba g) σ (BI g (args.map (RX.ev tm)) cap) with
  | some o=>simp only[hs] at h |-;cases h;exact⟨e2,he,.of fun _=>rfl⟩
  | none =>
   simp only[hs] at h |-;cases lF:M1.lC (Ba g) with
   | true =>
    simp only[lF,iH] at h |-;cases hq:M1.io (Ba g) dst σ (BI g (args.map (RX.ev tm)) cap) with
    | none=>rw[hq] at h;cases h
    | some o=>rw[hq] at h;cases h;exact⟨e2,he,(hM.io _ _ _ _ _ hq).mono fun k hk=>by rw[hk]⟩
   | false =>
   simp only[lF,dE,iG] at h |-;by_cases hS:(AU (BI g (args.map (RX.ev tm)) cap)).isEmpty=true
   ·simp only[hS,iH] at h |-;by_cases hy:BV (BI g (args.map (RX.ev tm)) cap)=true
    ·simp only[hy,iH] at h |-;cases hq:M1.call E1 U dep (Ba g) (BI g (args.map (RX.ev tm)) cap) e1 with
     | none=>rw[hq] at h;cases h
     | some p =>
      obtain⟨r,obs,e⟩:=p;rw[hq] at h;cases h;obtain⟨kU,T,lZ⟩:=hM.call E1 E2 RE U O hh _ _ _ _ _ he _ _ _ hq;exact⟨kU,T,lZ.mono fun k hk=>by simp only at hk;rw[hk]⟩
    ·simp only[hy] at h |-;simp only[dE,iG] at h |-;cases hq:M1.call Unit AI 0 (Ba g) (BI g (args.map (RX.ev tm)) cap) () with
     | none=>rw[hq] at h;cases h
     | some p =>
      obtain⟨r,obs,e⟩:=p;rw[hq] at h;cases h;exact⟨e2,he,(Tm hM _ _ hq).mono fun k hk=>by rw[hk]⟩
   ·simp only[hS] at h |-;unfold AN at h |-;simp only[dE,iG] at h |-;split at h
    ·rename_i hy;simp only[hy,iH];cases hq:M1.call Unit AI 0 (Ba g) (Bf (BX σ) (BI g (args.map (RX.ev tm)) cap)) () with
     | none=>rw[hq] at h;cases h
     | some p =>
      obtain⟨r,obs,e⟩:=p;rw[hq] at h;cases h;exact⟨e2,he,(Tm hM _ _ hq).mono fun k hk=>by rw[hk]⟩
    {cases h}
 | _=>simp only[hf] at h;cases h
theorem W3 (dep:Nat) (o:A8) (Z:St) {e1:E1} {e2:E2} (he:RE e1 e2) {out:AQ} {lG:E1} (h:Ej M1 U dep o Z e1=some (out,lG)) :
  ∃ kU,RE lG kU/\Bs fun k=>Ej (M2 k) (O k) dep o Z e2=some (out,kU):=by
 unfold Ej AN at h |-;split at h
 ·rename_i hf;simp only[hf,iH];cases oL:o.op with
  | call f args =>
   simp only[oL] at h |-;cases hq:D3 M1 U dep (o.dst.getD 0) (Al Z.jC) Z.tmps f args e1 with
   | none=>rw[hq] at h;cases h
   | some p =>
    obtain⟨out1,e3⟩:=p;rw[hq] at h;simp only[AN] at h;split at h;{rename_i hg;cases h;obtain⟨kU,T,lZ⟩:=aa hM hh dep _ _ _ f args he hq;exact⟨kU,T,lZ.mono fun k hk=>by rw[hk];simp only[hg,iH]⟩};{cases h}
  | _ =>
   simp only[oL] at h |-;split at h;·cases h;exact⟨e2,he,.of fun _=>rfl⟩
   {cases h}
 {cases h}
theorem bo (dep:Nat) (o:A8) (Z:St) {e1:E1} {e2:E2} (he:RE e1 e2) {lG:E1} (h:Ku M1 U dep o Z e1=some (st',lG)) :
  ∃ kU,RE lG kU/\Bs fun k=>Ku (M2 k) (O k) dep o Z e2=some (st',kU):=by
 unfold Ku at h |-;cases hq:Ej M1 U dep o Z e1 with
 | none=>rw[hq] at h;cases h
 | some p =>
  obtain⟨out,e⟩:=p;rw[hq] at h;cases h;obtain⟨kU,T,lZ⟩:=W3 hM hh dep o Z he hq;exact⟨kU,T,lZ.mono fun k hk=>by rw[hk]⟩
theorem tG (dep:Nat) (ops:jv) (o:A8) (Z:St) {e1:E1} {e2:E2} (he:RE e1 e2) {lG:E1} (h:stepG M1 U dep ops o Z e1=some (st',lG)) :
  ∃ kU,RE lG kU/\Bs fun k=>stepG (M2 k) (O k) dep ops o Z e2=some (st',kU):=by
 unfold stepG at h |-;cases hw:Ew ops o Z.tmps with
 | none=>rw[hw] at h;cases h
 | some b =>
  rw[hw] at h;cases b with
  | true=>exact bo hM hh dep o Z he h
  | false=>cases h;exact⟨e2,he,.of fun _=>rfl⟩
theorem Wc (dep:Nat) (ops:jv):∀ (l:jv) (Z:St) {e1:E1} {e2:E2} (_:RE e1 e2) {st':St} {lG:E1} (_:FJ M1 U dep ops l Z e1=some (st',lG)),
  ∃ kU,RE lG kU/\Bs fun k=>FJ (M2 k) (O k) dep ops l Z e2=some (st',kU):=by
 intro l;induction l with
 | nil=>intro Z e1 e2 he st' lG h;cases h;exact⟨e2,he,.of fun _=>rfl⟩
 | cons o rest ih =>
  intro Z e1 e2 he st' lG h;unfold FJ at h |-;cases hq:stepG M1 U dep ops o Z e1 with
  | none=>rw[hq] at h;cases h
  | some p =>
   obtain⟨s,e⟩:=p;rw[hq] at h;obtain⟨kU,T,lZ⟩:=tG hM hh dep ops o Z he hq;obtain⟨e3',rA,h3'⟩:=ih s T h;exact⟨e3',rA,lZ.lS h3' fun k hk nk=>by rw[hk];exact nk⟩
theorem yc (dep:Nat) (ops:jv) (i:Nat) (o:A8) (Z:St) {e1:E1} {e2:E2} (he:RE e1 e2) {out:AQ} {lG:E1} (h:Cv M1 U dep ops i o Z e1=some (out,lG,inf)) :
  ∃ kU,RE lG kU/\Bs fun k=>Cv (M2 k) (O k) dep ops i o Z e2=some (out,kU,inf):=by
 unfold Cv at h |-;cases hw:Ew ops o Z.tmps with
 | none=>rw[hw] at h;cases h
 | some b =>
  rw[hw] at h;cases b with
  | true =>
   simp only at h |-;cases hq:Ej M1 U dep o Z e1 with
   | none=>rw[hq] at h;cases h
   | some p =>
    obtain⟨out,e⟩:=p;rw[hq] at h;cases h;obtain⟨kU,T,lZ⟩:=W3 hM hh dep o Z he hq;exact⟨kU,T,lZ.mono fun k hk=>by rw[hk]⟩
  | false=>cases h;exact⟨e2,he,.of fun _=>rfl⟩
theorem yd (dep:Nat) (ops:jv):∀ (l:List (Nat×Nat)) (infos:List DP) (Z:St) {e1:E1} {e2:E2} (_:RE e1 e2) {st':St} {lG:E1} (_:Io M1 U dep ops l infos Z e1=some (st',lG)),
  ∃ kU,RE lG kU/\Bs fun k=>Io (M2 k) (O k) dep ops l infos Z e2=some (st',kU):=by
 intro l;induction l with
 | nil=>intro infos Z e1 e2 he st' lG h;cases h;exact⟨e2,he,.of fun _=>rfl⟩
 | cons p rest ih =>
  obtain⟨i,qF⟩:=p;intro infos Z e1 e2 he st' lG h;unfold Io at h |-;cases hi:ops[i]? with
  | none=>rw[hi] at h;cases h
  | some o =>
   simp only[hi] at h |-;unfold Nv at h |-;cases hq:Cv M1 U dep ops i o Z e1 with
   | none=>rw[hq] at h;cases h
   | some p =>
    obtain⟨out,e,inf⟩:=p;simp only[hq] at h |-;obtain⟨kU,T,lZ⟩:=yc hM hh dep ops i o Z he hq;unfold AN at h |-;split at h;{rename_i hc;obtain⟨e3',rA,h3'⟩:=ih _ _ T h;exact⟨e3',rA,lZ.lS h3' fun k hk nk=>by rw[hk];simp only[hc,iH];exact nk⟩};{cases h}
end par
def LK (M:Bp) (fuel:Nat) (kN b:BJ) (h:AA E) (dep:Nat) (ps:jm):AA (Hs E):=fun l args r =>
 if l=dep then
  match r with
  |(s,none,e) =>
   if args.length=ps.length then
    match AT M fuel kN h (dep+1) {s with tmps:=Ie ps args s.tmps,jG:=s.tmps++s.jG} e with
    | some (.normal,s',e)=>match AT M fuel b h (dep+1) s' e with
     | some (x,s',e)=>some (x==.normal,({s' with tmps:=s'.jG.take s.tmps.length,jG:=s'.jG.drop s.tmps.length},(if x=.normal then none else some x),e))
     | none=>none
    | _=>none
   else none
  | _=>none
 else
  match r with
  |(s,p,e)=>match h l args e with
   | some (b,e)=>some (b,(s,p,e))
   | none=>none
theorem VA (M:Bp) (fuel:Nat) (f:RX) (ps:jm) (kN b:BJ) (h:AA E) (dep:Nat) (Z:St) (e:E) :
  AT M fuel (.rangeFunc f ps kN b) h dep Z e=(match LE Z (f.ev Z.tmps) with
   | some (.fn g cap,Z)=>match M.call (Hs E) (LK M fuel kN b h dep ps) (dep+1) (Ba g) (BI g [.ke dep] cap) (Z,none,e) with
    | some (_,_,s,p,e)=>some (p.getD .normal,s,e)
    | none=>none
   | _=>none):=rfl
def G8 (M:Bp) (fuel:Nat) (kN:jm) (grow:List (Nat×Nat)) (b:BJ) (h:AA E) (dep:Nat) (ds:jm) (s:St×E):Option (Sum (St×E) (Ex×(St×E))) :=
 match AT M fuel b h dep s.1 s.2 with
 | some (.normal,Z,e)=>some (.inl (norm kN grow (drop ds Z),e))
 | some (x,Z,e)=>some (.inr (x,Z,e))
 | none=>none
theorem WB (M:Bp) (fuel:Nat) (kN:jm) (grow:List (Nat×Nat)) (b:BJ) (h:AA E) (dep:Nat) (Z:St) (e:E) :
  AT M fuel (.loop kN grow b) h dep Z e=(match Hb (G8 M fuel kN grow b h dep (kC (norm kN grow Z))) fuel (norm kN grow Z,e) with
   | some (x,Z,e)=>some (x,Z,e)
   | none=>none):=rfl
def Ky {ρ τ:Type} (f:σ->Option τ) (g:ρ->Option τ):Option (Sum σ ρ)->Option τ
 | some (.inl s)=>f s
 | some (.inr r)=>g r
 | none=>none
theorem bJ {σ1 σ2 ρ1 ρ2:Type} {R:σ1->σ2->Prop} {Q:ρ1->ρ2->Prop} {s1:σ1->Option (Sum σ1 ρ1)} {s2:Nat->σ2->Option (Sum σ2 ρ2)}
  (rep1:Nat->σ1->Option ρ1) (sf:∀ s,rep1 0 s=none) (nj:∀ n s,rep1 (n+1) s=Ky (rep1 n) some (s1 s))
  (rep2:Nat->Nat->σ2->Option ρ2) (na:∀ k n s,rep2 k (n+1) s=Ky (rep2 k n) some (s2 k s))
  (hs:∀ a b,R a b->(∀ a',s1 a=some (.inl a')->∃ b',R a' b'/\Bs fun k=>s2 k b=some (.inl b'))/\(∀ r,s1 a=some (.inr r)->∃ r',Q r r'/\Bs fun k=>s2 k b=some (.inr r'))) :
  ∀ (n:Nat) a b,R a b->∀ r,rep1 n a=some r->∃ r',Q r r'/\Bs fun k=>∀ j,n<=j->rep2 k j b=some r':=by
 intro n;induction n with
 | zero=>intro a b _ r h;rw[sf] at h;cases h
 | succ n ih =>
  intro a b T r h;rw[nj] at h;cases hq:s1 a with
  | none=>rw[hq] at h;cases h
  | some q =>
   rw[hq] at h;cases q with
   | inl a1 =>
    obtain⟨b1,vR,O⟩:=(hs a b T).1 a1 hq;obtain⟨r',hq',h3⟩:=ih a1 b1 vR r h;exact⟨r',hq',O.lS h3 fun k hk nk j hj=>by obtain⟨j,rfl⟩:∃ i,j=i+1:=⟨j - 1,by omega⟩;rw[na,hk];exact nk j (by omega)⟩
   | inr p =>
    cases h;obtain⟨r',vR,O⟩:=(hs a b T).2 r hq;exact⟨r',vR,O.mono fun k hk j hj=>by obtain⟨j,rfl⟩:∃ i,j=i+1:=⟨j - 1,by omega⟩;rw[na,hk];rfl⟩
theorem P4 (step:σ->Option (Sum σ (Ex×σ))) (n:Nat) (s:σ) :
  Hb step (n+1) s=Ky (Hb step n) some (step s):=by
 rw[Hb];rcases step s with _ | (_ | _)<;>rfl
theorem Bs.diag {P:Nat->Nat->Prop} (h:Bs fun k=>∀ j,n<=j->P k j):Bs fun k=>P k k:=by obtain⟨a,ha⟩:=h;exact⟨max a n,fun k hk=>ha k (by omega) k (by omega)⟩
theorem TJ {M1:Bp} {M2:Nat->Bp} (hM:Ht M1 M2):∀ (c:BJ) {E1 E2:Type} {RE:E1->E2->Prop} {U:AA E1} {O:Nat->AA E2} (_:tF RE U O) (dep:Nat) (Z:St) {e1:E1} {e2:E2} (_:RE e1 e2)
  {x:Ex} {st':St} {lG:E1} (_:AT M1 f1 c U dep Z e1=some (x,st',lG)),∃ kU,RE lG kU/\Bs fun k=>AT (M2 k) k c (O k) dep Z e2=some (x,st',kU):=by
 intro c;induction c with
 | skip=>intro E1 E2 RE U O hh dep Z e1 e2 he x st' lG h;cases h;exact⟨e2,he,.of fun _=>rfl⟩
 | region ops dr lv =>
  intro E1 E2 RE U O hh dep Z e1 e2 he x st' lG h;cases dr with
  | none =>
   simp only[AT] at h |-;cases hq:FJ M1 U dep ops ops (FQ (DB ops) Z) e1 with
   | none=>rw[hq] at h;cases h
   | some p =>
    obtain⟨s,e⟩:=p;rw[hq] at h;cases h;obtain⟨kU,T,lZ⟩:=Wc hM hh dep ops ops _ he hq;exact⟨kU,T,lZ.mono fun k hk=>by rw[hk]⟩
  | some qF =>
   simp only[AT] at h |-;cases hq:Io M1 U dep ops qF [] (FQ (DB ops) Z) e1 with
   | none=>rw[hq] at h;cases h
   | some p =>
    obtain⟨s,e⟩:=p;rw[hq] at h;cases h;obtain⟨kU,T,lZ⟩:=yd hM hh dep ops qF [] _ he hq;exact⟨kU,T,lZ.mono fun k hk=>by rw[hk]⟩
 | seq a b ov ow =>
  intro E1 E2 RE U O hh dep Z e1 e2 he x st' lG h;simp only[AT] at h |-;cases hq:AT M1 f1 a U dep Z e1 with
  | none=>rw[hq] at h;cases h
  | some p =>
   obtain⟨y,s,e⟩:=p;rw[hq] at h;obtain⟨kU,T,lZ⟩:=ov hh dep Z he hq;cases y with
   | normal =>
    obtain⟨e3',rA,h3'⟩:=ow hh dep s T h;exact⟨e3',rA,lZ.lS h3' fun k hk nk=>by rw[hk];exact nk⟩
   | exit id=>cases h;exact⟨kU,T,lZ.mono fun k hk=>by rw[hk]⟩
   | ret=>cases h;exact⟨kU,T,lZ.mono fun k hk=>by rw[hk]⟩
 | cond c a b ov ow =>
  intro E1 E2 RE U O hh dep Z e1 e2 he x st' lG h;simp only[AT] at h |-;cases hc:c.ev Z.tmps with
  | bool v =>
   rw[hc] at h;cases v with
   | true=>exact ov hh dep Z he h
   | false=>exact ow hh dep Z he h
  | _=>rw[hc] at h;cases h
 | block id b ih =>
  intro E1 E2 RE U O hh dep Z e1 e2 he x st' lG h;simp only[AT] at h |-;cases hq:AT M1 f1 b U dep Z e1 with
  | none=>rw[hq] at h;cases h
  | some p =>
   obtain⟨y,s,e⟩:=p;rw[hq] at h;obtain⟨kU,T,lZ⟩:=ih hh dep Z he hq;cases y with
   | normal=>cases h;exact⟨kU,T,lZ.mono fun k hk=>by rw[hk]⟩
   | ret=>cases h;exact⟨kU,T,lZ.mono fun k hk=>by rw[hk]⟩
   | exit oo =>
    simp only at h |-;split at h<;>rename_i hid;·cases h;exact⟨kU,T,lZ.mono fun k hk=>by rw[hk];simp only[hid,iH]⟩
    {cases h;exact⟨kU,T,lZ.mono fun k hk=>by rw[hk];simp only[hid,iG]⟩}
 | loop kN grow b ih =>
  intro E1 E2 RE U O hh dep Z e1 e2 he x st' lG h;simp only[WB] at h |-;generalize norm kN grow Z=z0 at h |-;cases hq:Hb (G8 M1 f1 kN grow b U dep (kC z0)) f1 (z0,e1) with
  | none=>rw[hq] at h;cases h
  | some q =>
   obtain⟨x0,st0,e0⟩:=q;rw[hq] at h;cases h
   obtain⟨⟨x2,s2,kU⟩,T,lZ⟩:=bJ (R:=fun (a:St×E1) (b:St×E2)=>a.1=b.1/\RE a.2 b.2) (Q:=fun (a:Ex×St×E1) (b:Ex×St×E2)=>a.1=b.1/\a.2.1=b.2.1/\RE a.2.2 b.2.2)
    (s1:=G8 M1 f1 kN grow b U dep (kC z0)) (s2:=fun k=>G8 (M2 k) k kN grow b (O k) dep (kC z0))
    (Hb (G8 M1 f1 kN grow b U dep (kC z0))) (fun _=>rfl) (fun n s=>P4 _ n s) (fun k=>Hb (G8 (M2 k) k kN grow b (O k) dep (kC z0))) (fun k n s=>P4 (G8 (M2 k) k kN grow b (O k) dep (kC z0)) n s) (by
     rintro ⟨a,ea⟩ ⟨b',eb⟩ ⟨h01,rC⟩;simp only at h01 rC;subst h01;refine⟨fun a' ha=>?_,fun r ha=>?_⟩
     ·unfold G8 at ha |-;simp only at ha |-;cases hb:AT M1 f1 b U dep a ea with
      | none=>rw[hb] at ha;cases ha
      | some p =>
       obtain⟨y,s,e⟩:=p;rw[hb] at ha;obtain⟨e3,rA,h3⟩:=ih hh dep a rC hb;cases y with
       | normal=>cases ha;exact⟨(_,e3),⟨rfl,rA⟩,h3.mono fun k hk=>by rw[hk]⟩
       | exit id=>cases ha
       | ret=>cases ha
     ·unfold G8 at ha |-;simp only at ha |-;cases hb:AT M1 f1 b U dep a ea with
      | none=>rw[hb] at ha;cases ha
      | some p =>
       obtain⟨y,s,e⟩:=p;rw[hb] at ha;obtain⟨e3,rA,h3⟩:=ih hh dep a rC hb;cases y with
       | normal=>cases ha
       | exit id=>cases ha;exact⟨(_,_,e3),⟨rfl,rfl,rA⟩,h3.mono fun k hk=>by rw[hk]⟩
       | ret=>cases ha;exact⟨(_,_,e3),⟨rfl,rfl,rA⟩,h3.mono fun k hk=>by rw[hk]⟩) f1 (z0,e1) (z0,e2) ⟨rfl,he⟩ _ hq
   simp only at T;obtain⟨h00,h01,rC⟩:=T;subst h00;subst h01;exact⟨kU,rC,lZ.diag.mono fun k hk=>by rw[hk]⟩
 | rangeFunc f ps kN b ov ow =>
  intro E1 E2 RE U O hh dep Z e1 e2 he x st' lG h;simp only[VA] at h |-;cases hz:LE Z (f.ev Z.tmps) with
  | none=>rw[hz] at h;cases h
  | some p =>
   obtain⟨v,s0⟩:=p;rw[hz] at h;cases v with
   | fn g cap =>
    simp only at h |-;cases hq:M1.call (Hs E1) (LK M1 f1 kN b U dep ps) (dep+1) (Ba g) (BI g [.ke dep] cap) (s0,none,e1) with
    | none=>rw[hq] at h;cases h
    | some q =>
     obtain⟨r,obs,s,p,e⟩:=q;rw[hq] at h;cases h
     obtain⟨⟨s2,p2,kU⟩,T,lZ⟩:=hM.call (Hs E1) (Hs E2) (fun (a:Hs E1) (b:Hs E2)=>a.1=b.1/\a.2.1=b.2.1/\RE a.2.2 b.2.2) (LK M1 f1 kN b U dep ps) (fun k=>LK (M2 k) k kN b (O k) dep ps) (by
       rintro l args ⟨s,p,e⟩ ⟨s2,p2,e2⟩ ⟨h01,h02,rC⟩ bb ⟨s',p',e'⟩ hq;simp only at h01 h02 rC;subst h01;subst h02;unfold LK at hq |-;by_cases hl:l=dep
       ·simp only[hl,iH] at hq |-;cases p with
        | some x=>cases hq
        | none =>
         simp only at hq |-;by_cases hlen:args.length=ps.length
         ·simp only[hlen,iH] at hq |-;cases ha:AT M1 f1 kN U (dep+1) {s with tmps:=Ie ps args s.tmps,jG:=s.tmps++s.jG} e with
          | none=>rw[ha] at hq;cases hq
          | some q =>
           obtain⟨y,s3,e3⟩:=q;rw[ha] at hq;obtain⟨e4,hr4,h4⟩:=ov hh (dep+1) _ rC ha;cases y with
           | normal =>
            simp only at hq |-;cases hb:AT M1 f1 b U (dep+1) s3 e3 with
            | none=>rw[hb] at hq;cases hq
            | some q =>
             obtain⟨y,s5,e5⟩:=q;rw[hb] at hq;obtain⟨e6,hr6,h6⟩:=ow hh (dep+1) _ hr4 hb;cases hq;exact⟨(_,_,e6),⟨rfl,rfl,hr6⟩,h4.lS h6 fun k hk nk=>by simp only[hk,nk];rfl⟩
           | exit id=>cases hq
           | ret=>cases hq
         ·simp only[hlen,iG] at hq;cases hq
       ·simp only[hl,iG] at hq |-;cases ha:U l args e with
        | none=>rw[ha] at hq;cases hq
        | some q =>
         obtain⟨y,e3⟩:=q;rw[ha] at hq;cases hq;obtain⟨e4,hr4,h4⟩:=hh l args _ _ rC _ _ ha;exact⟨(_,_,e4),⟨rfl,rfl,hr4⟩,h4.mono fun k hk=>by rw[hk]⟩) (dep+1) (Ba g) (BI g [.ke dep] cap) (s0,none,e1) (s0,none,e2) ⟨rfl,rfl,he⟩ r obs _ hq
     simp only at T;obtain⟨h01,h02,rC⟩:=T;subst h01;subst h02;exact⟨kU,rC,lZ.mono fun k hk=>by simp only at hk;rw[hk]⟩
   | _=>cases h
 | exit id=>intro E1 E2 RE U O hh dep Z e1 e2 he x st' lG h;cases h;exact⟨e2,he,.of fun _=>rfl⟩
 | norm g=>intro E1 E2 RE U O hh dep Z e1 e2 he x st' lG h;cases h;exact⟨e2,he,.of fun _=>rfl⟩
 | scope b ih =>
  intro E1 E2 RE U O hh dep Z e1 e2 he x st' lG h;simp only[AT] at h |-;cases hq:AT M1 f1 b U dep Z e1 with
  | none=>rw[hq] at h;cases h
  | some p =>
   obtain⟨y,s,e⟩:=p;rw[hq] at h;obtain⟨kU,T,lZ⟩:=ih hh dep Z he hq;cases y with
   | normal=>cases h;exact⟨kU,T,lZ.mono fun k hk=>by rw[hk]⟩
   | ret=>cases h;exact⟨kU,T,lZ.mono fun k hk=>by rw[hk]⟩
   | exit oo =>
    simp only at h |-;split at h<;>rename_i hid;·cases h;exact⟨kU,T,lZ.mono fun k hk=>by rw[hk];simp only[hid,iH]⟩
    {cases h}
 | ret=>intro E1 E2 RE U O hh dep Z e1 e2 he x st' lG h;cases h;exact⟨e2,he,.of fun _=>rfl⟩
 | o7=>intro E1 E2 RE U O hh dep Z e1 e2 he x st' lG h;cases h
 | bad=>intro E1 E2 RE U O hh dep Z e1 e2 he x st' lG h;cases h
theorem Bs.shift (h:Bs P):Bs fun k=>∃ j,k=j+1/\P j:=by obtain⟨a,ha⟩:=h;exact⟨a+1,fun k hk=>⟨k - 1,by omega,ha _ (by omega)⟩⟩
theorem tF.shift {E1 E2:Type} {RE:E1->E2->Prop} {U:AA E1} {O:Nat->AA E2} (hh:tF RE U O):tF RE U fun k=>O (k+1):=by intro l args e1 e2 he b lG h;obtain⟨kU,T,a,ha⟩:=hh l args e1 e2 he b lG h;exact⟨kU,T,a,fun k hk=>ha _ (by omega)⟩
theorem WL {M1:Bp} {M2:Nat->Bp} (hM:Ht M1 M2) (n:Nat) (jO:ja->jt):Vk (JU M1 n jO) (fun k=>JU (M2 k) k jO):=by
 intro E1 E2 RE U O hh dep g args e1 e2 he r obs lG h;simp only[JU] at h |-;cases ht:jO g with
 | none=>rw[ht] at h;cases h
 | some fn =>
  rw[ht] at h;simp only at h |-;cases hq:AT M1 n fn.code U dep {tmps:=args++List.replicate (fn.nt - args.length) .undef,jC:=List.replicate fn.nt [],jG:=[]} e1 with
  | none=>rw[hq] at h;cases h
  | some p =>
   obtain⟨x,s,e⟩:=p;rw[hq] at h;obtain⟨kU,T,lZ⟩:=TJ hM fn.code hh dep _ he hq;cases x with
   | exit id=>cases h
   | normal =>
    simp only at h;cases h3:Gz s fn.res with
    | none=>rw[h3] at h;cases h
    | some vs =>
     rw[h3] at h;simp only at h;cases h4:Km fn.shut s (Ig vs) with
     | none=>rw[h4] at h;cases h
     | some q =>
      obtain⟨v,rP⟩:=q;rw[h4] at h;cases h;exact⟨kU,T,lZ.mono fun k hk=>by simp only[hk,h3,h4]⟩
   | ret =>
    simp only at h;cases h3:Gz s fn.res with
    | none=>rw[h3] at h;cases h
    | some vs =>
     rw[h3] at h;simp only at h;cases h4:Km fn.shut s (Ig vs) with
     | none=>rw[h4] at h;cases h
     | some q =>
      obtain⟨v,rP⟩:=q;rw[h4] at h;cases h;exact⟨kU,T,lZ.mono fun k hk=>by simp only[hk,h3,h4]⟩
theorem cc {r:Option (Ex×St×Unit)} {Z:St} (h:Hk r=some (x,Z,l)):r=some (x,Z,())/\l=[]:=by
 unfold Hk at h;split at h;·cases h;exact⟨rfl,rfl⟩
 {cases h}
theorem tH {M1:Bp} {M2:Nat->Bp} (hM:Ht M1 M2):∀ (c:BJ) (Z:St) {x:Ex} {st':St} {l:jm},Bt M1 n nt c Z=some (x,st',l)->Bs fun k=>Bt (M2 k) k nt c Z=some (x,st',l):=by
 have leaf:∀ (c:BJ) (Z:St) {x:Ex} {st':St} {l:jm},Hk (AT M1 n c AI 0 Z ())=some (x,st',l)->Bs fun k=>Hk (AT (M2 k) k c AI 0 Z ())=some (x,st',l):=by intro c Z x st' l h;obtain⟨U,rfl⟩:=cc h;obtain⟨kU,_,lZ⟩:=TJ (RE:=fun (_ _:Unit)=>True) (U:=AI) (O:=fun _=>AI) hM c (fun _ _ _ _ _ _ _ h=>by cases h) 0 _ (e1:=()) (e2:=()) trivial U;exact lZ.mono fun k hk=>by rw[hk];rfl
 intro c;induction c with
 | o7 ops f args live =>
  intro Z x st' l h;simp only[Bt] at h |-;cases hq:FJ M1 AI 0 ops ops (FQ (DB ops) Z) () with
  | none=>rw[hq] at h;cases h
  | some p =>
   obtain⟨s,u⟩:=p;rw[hq] at h;obtain⟨kU,_,lZ⟩:=Wc (RE:=fun (_ _:Unit)=>True) (U:=AI) (O:=fun _=>AI) hM (fun _ _ _ _ _ _ _ h=>by cases h) 0 ops ops _ (e1:=()) (e2:=()) trivial hq;exact lZ.mono fun k hk=>by rw[hk];exact h
 | seq a b ov ow =>
  intro Z x st' l h;simp only[Bt] at h |-;cases hq:Bt M1 n nt a Z with
  | none=>rw[hq] at h;cases h
  | some p =>
   obtain⟨y,s,l1⟩:=p;rw[hq] at h;have U:=ov _ hq;cases y with
   | normal =>
    simp only at h;cases hb:Bt M1 n nt b s with
    | none=>rw[hb] at h;cases h
    | some q =>
     obtain⟨z,s2,l2⟩:=q;rw[hb] at h;exact U.lS (ow _ hb) fun k g1 g2=>by rw[g1];simp only;rw[g2];exact h
   | exit id=>exact U.mono fun k g1=>by rw[g1];exact h
   | ret=>exact U.mono fun k g1=>by rw[g1];exact h
 | cond c a b ov ow =>
  intro Z x st' l h;simp only[Bt] at h |-;split at h;{exact ov _ h};{exact ow _ h};·cases h
 | block id b ih =>
  intro Z x st' l h;simp only[Bt] at h |-;cases hq:Bt M1 n nt b Z with
  | none=>rw[hq] at h;cases h
  | some p =>
   rw[hq] at h;exact (ih _ hq).mono fun k g=>by rw[g];exact h
 | scope b ih =>
  intro Z x st' l h;simp only[Bt] at h |-;split at h;·cases h
  rename_i hl;simp only[hl,dE,iG];cases hq:Bt M1 n nt b Z with
  | none=>rw[hq] at h;cases h
  | some p =>
   rw[hq] at h;exact (ih _ hq).mono fun k g=>by rw[g];exact h
 | skip=>intro Z x st' l h;exact leaf _ Z h
 | region ops d lv=>intro Z x st' l h;exact leaf _ Z h
 | loop a g b _=>intro Z x st' l h;exact leaf _ Z h
 | rangeFunc f ps a b _ _=>intro Z x st' l h;exact leaf _ Z h
 | exit id=>intro Z x st' l h;exact leaf _ Z h
 | ret=>intro Z x st' l h;exact leaf _ Z h
 | norm g=>intro Z x st' l h;exact leaf _ Z h
 | bad=>intro Z x st' l h;exact leaf _ Z h
theorem Yw {M1:Bp} {M2:Nat->Bp} (hM:Ht M1 M2):∀ (l:jm) (Z:St) {st':St},HX M1 nt l Z=some st'->Bs fun k=>HX (M2 k) nt l Z=some st':=by
 intro l;induction l with
 | nil=>intro Z st' h;exact .of fun _=>h
 | cons n l ih =>
  intro Z st' h;unfold HX at h |-;split at h
  case h_2=>cases h
  rename_i f cap hf;split at h;·cases h
  rename_i kG;split at h
  case isFalse=>cases h
  rename_i rF;split at h
  case h_2=>cases h
  rename_i out kd;unfold AN at h;split at h
  case isFalse=>cases h
  rename_i hn;refine (hM.io _ _ _ _ _ kd).lS (ih _ h) fun k g1 g2=>?_;rw[<-hM.sp k,kG,<-hM.lC k,<-hM.flat k];simp only[rF,iH,g1,AN,hn];exact g2
theorem tI {M1:Bp} {M2:Nat->Bp} (hM:Ht M1 M2) (n:Nat) (fn:Au) (ins:jp) (vs:jh) {r:St×W} (h:IM M1 n fn ins vs=some r):Bs fun k=>IM (M2 k) k fn ins vs=some r:=by
 unfold IM at h |-;cases hd:En fn.code with
 | true =>
  simp only[hd,iH] at h |-;cases hq:AT M1 n fn.code AI 0 (J1 fn.gone fn.nt ins vs) () with
  | none=>rw[hq] at h;cases h
  | some p =>
   obtain⟨x,s,e⟩:=p;rw[hq] at h;obtain⟨kU,_,lZ⟩:=TJ (RE:=fun (_ _:Unit)=>True) (U:=AI) (O:=fun _=>AI) hM fn.code (fun _ _ _ _ _ _ _ h=>by cases h) 0 _ (e1:=()) (e2:=()) trivial hq;refine lZ.mono fun k hk=>?_;rw[hk];exact h
 | false =>
  simp only[hd,dE,iG] at h |-;cases hq:Bt M1 n fn.nt fn.code (J1 fn.gone fn.nt ins vs) with
  | none=>rw[hq] at h;cases h
  | some p =>
   obtain⟨x,s,l⟩:=p;rw[hq] at h;have U:=tH hM fn.code _ hq;cases x with
   | exit id=>cases h
   | normal =>
    simp only at h;cases pd:HX M1 fn.nt l s with
    | none=>rw[pd] at h;cases h
    | some s2 =>
     rw[pd] at h;exact U.lS (Yw hM l s pd) fun k g1 g2=>by rw[g1];simp only;rw[g2];exact h
   | ret =>
    simp only at h;cases pd:HX M1 fn.nt l s with
    | none=>rw[pd] at h;cases h
    | some s2 =>
     rw[pd] at h;exact U.lS (Yw hM l s pd) fun k g1 g2=>by rw[g1];simp only;rw[g2];exact h
theorem Yf {M1:Bp} {M2:Nat->Bp} (hM:Ht M1 M2) (n:Nat) (jO:ja->jt) (g:ja) (dst:Nat) (σ:Nm->jk) (vs:jh) (out:AQ) (h:Hp M1 n jO g dst σ vs=some out) :
  Bs fun k=>Hp (M2 k) k jO g dst σ vs=some out:=by
 unfold Hp at h |-;cases ht:jO g with
 | none=>rw[ht] at h;cases h
 | some fn =>
  rw[ht] at h;simp only at h |-;cases hm:(Et (Bn σ A7 (AU vs))).mapM σ with
  | none=>rw[hm] at h;cases h
  | some ins =>
   rw[hm] at h;simp only at h |-;unfold AN at h |-;split at h
   case isFalse=>cases h
   rename_i hc;simp only[hc,iH];cases hq:IM M1 n fn (ins.map (Ob.jR fun m=>(0,(Et (Bn σ A7 (AU vs))).idxOf m))) (BE (fun m=>(0,(Et (Bn σ A7 (AU vs))).idxOf m)) vs) with
   | none=>rw[hq] at h;cases h
   | some p =>
    rw[hq] at h;refine (tI hM n fn _ _ hq).mono fun k hk=>?_;rw[hk];exact h
theorem Ht.sx {M1:Bp} {M2:Nat->Bp} (h:Ht M1 fun k=>M2 (k+1)) (h0:M1.sp=(M2 0).sp) (U:M1.lC=(M2 0).lC) (O:M1.kr=(M2 0).kr) (h3:M1.flat=(M2 0).flat):Ht M1 M2 where
 sp k:=by cases k with | zero=>exact h0 | succ k=>exact h.sp k
 call:=by intro E1 E2 RE g1 g2 hh dep g args e1 e2 he r obs lG hq;obtain⟨kU,T,O⟩:=h.call E1 E2 RE g1 (fun k=>g2 (k+1)) hh.shift dep g args e1 e2 he r obs lG hq;exact⟨kU,T,O.shift.mono fun k ⟨j,hj,hp⟩=>by subst hj;exact hp⟩
 lC k:=by cases k with | zero=>exact U | succ k=>exact h.lC k
 kr k:=by cases k with | zero=>exact O | succ k=>exact h.kr k
 flat k:=by cases k with | zero=>exact h3 | succ k=>exact h.flat k
 io g dst σ vs out hq:=(h.io g dst σ vs out hq).shift.mono fun k ⟨j,hj,hp⟩=>by subst hj;exact hp
theorem Uf (sp:ja->(Nm->jk)->jh->js) (jO:ja->jt) (n:Nat):(Fh sp jO n).sp=sp:=by cases n<;>rfl
theorem Tg (sp:ja->(Nm->jk)->jh->js) (jO:ja->jt) (n:Nat):(Fh sp jO n).lC=FZ jO:=by cases n<;>rfl
theorem SX (sp:ja->(Nm->jk)->jh->js) (jO:ja->jt) (n:Nat):(Fh sp jO n).kr=GI jO:=by cases n<;>rfl
theorem Th (sp:ja->(Nm->jk)->jh->js) (jO:ja->jt) (n:Nat):(Fh sp jO n).flat=Kn jO:=by cases n<;>rfl
theorem Yv:∀ (n:Nat),Ht (Fh sp jO n) (Fh sp jO):=by
 intro n;induction n with
 | zero=>exact {sp:=fun k=>(by rw[Uf,Uf]),call:=fun E1 E2 RE U O hh dep g args e1 e2 he r obs lG h=>(by cases h),lC:=fun k=>(by rw[Tg,Tg]),kr:=fun k=>(by rw[SX,SX]),flat:=fun k=>(by rw[Th,Th]),io:=fun g dst σ vs out h=>(by cases h)}
 | succ n ih =>
  refine Ht.sx ⟨fun k=>rfl,?_,fun k=>rfl,fun k=>rfl,fun k=>rfl,fun g dst σ vs out h=>Yf ih n jO g dst σ vs out h⟩ rfl rfl rfl rfl;exact WL ih n jO
theorem Ti (n:Nat):Vk (Br sp jO n) (Br sp jO):=(Yv n).call
end Go.Ab


namespace Go.Ab
variable{E R α β ρ σ:Type} {n:Nat} {a:α} {f:Nat->Option α} {r:ρ} {s:σ} {step:σ->Option (Sum σ ρ)}
def Ac (x:Option α) (f:α->Option β):Option β :=
 match x with
 | some a=>f a
 | none=>none
def Ai (v:W) (a b:Option β):Option β :=
 match v with
 | .bool true=>a
 | .bool false=>b
 | _=>none
def CJ (v:Bool) (a b:Option β):Option β :=
 match v with
 | true=>a
 | false=>b
def Ae (v:Bool) (a:Option β):Option β :=
 match v with
 | true=>a
 | false=>none
mutual
def jN:W->Bool
 | .undef | .bool _ | .int _ _ | .str _ | .jD | .kB | .jV | .jK | .kL | .j8 _ _=>true
 | .sl _ H _=>Ap H | .ptr cs _=>Ap cs | .agg cs=>Ap cs | .iface _ x=>jN x | .fn _ cap=>Ap cap | .jE H=>Ap H | .ki es=>Ap es
 | .ke _ | .ref _ _ | .jQ _ _ _ _ | .arr _ _ _ _ | .mp _ | .it _=>false
def Ap:jh->Bool
 | []=>true
 | x :: H=>jN x&&Ap H
end
def Ad (op:AG):jx :=
 match exec 0 (fun _=>none) [] op with
 | some out=>some out.v
 | none=>none
def GX (cs:jh) (o:Nat):W:=if o < cs.length then .ptr cs o else .undef
def ye (k k':Nat) (H:jh) (i o:Nat):W:=if k=k' then (match H[i]? with | some x=>if o < x.cells.length then .ptr x.cells o else .undef | none=>.undef) else .undef
def AB (k k':Nat) (H:jh) (o n:Nat):W:=if k=k'/\o+n<=H.length then .sl k ((H.drop o).take n) false else .undef
def Af (v:W) (i:Nat):W:=v.cells.getD i .undef
def Aw (v:W) (n:Nat):Bool:=v.isVal&&v.cells.length==n
def A3 (v:W) (o n:Nat) (ag:Bool):jx:=Ci v.cells o n ag
def IP (H:jh) (i o n:Nat) (ag:Bool):jx :=
 match H[i]? with
 | some e=>Ci e.cells o n ag
 | none=>none
def F9 (k:Nat) (H:jh) (i o n:Nat) (v:W):Option jh :=
 match H[i]? with
 | some (.agg es)=>Ae (v.isVal&&decide (v.cells.length=n)&&decide (o+n<=es.length)) (some (H.set i (.agg (j0 es o v.cells))))
 | some _=>Ae (k==1&&o==0&&n==1&&v.jZ) (some (H.set i v))
 | none=>none
def Fl (v:W):jj:=DL v
def Ev (x:jx) (d top:Nat):jj:=C9 x d top
def GO (k:Nat) (v:W):Option jh:=elems (fun _=>none) k v
def appO (k:Nat) (v:W) (ys:jh):Option jh :=
 match v with
 | .jD=>Ae (decide (ys.length<=Gl)) (some ys)
 | .sl k' H true=>match ys with
  | []=>none
  | y :: ys=>Ae (k==k'&&decide (H.length+(ys.length+1)<=Gl)) (some (H++y :: ys))
 | _=>none
def Ip (c:TC) (es:jh) (k v:W):Option jh :=
 match HU k v es with
 | some nH=>Ae (HQ c k&&v.isVal) (some nH)
 | none=>none
def RG (c:TC) (z:W) (ok:Bool) (es:jh) (k:W):jx :=
 match Ed k es with
 | none=>none
 | some r=>Ae (HQ c k) (some (if ok then .jE [r.getD z,.bool r.isSome] else r.getD z))
def K5 (l c:W):jj :=
 match DL l,DL c with
 | some l,some c=>Ae (decide (l<=c)&&decide (c<=Gl)) (some l)
 | _,_=>none
def strO (v:W):Option ji :=
 match v with
 | .str s=>some s
 | _=>none
def yf (s:ji) (pos:Nat):W:=.int .i32 (Utf8.decode ⟨s.toArray⟩ pos).1
def yg (s:ji) (pos:Nat):Nat:=(Utf8.decode ⟨s.toArray⟩ pos).2
def asP (e:je) (v:W) (f:W->Option β) (g:Option β):Option β :=
 match v with
 | .jK=>g
 | .iface t x=>if t=e then f x else none
 | _=>none
def notNil (v:W) (a:Option β):Option β :=
 match v with
 | .jD=>none
 | _=>a
def CU (v:W) (a:Option β):Option β :=
 match v with
 | .jD=>a
 | _=>none
def yh (v:W) (a b:Option β):Option β :=
 match v with
 | .jD=>a
 | _=>b
def T0 (v:W) (i:Nat):Bool :=
 match v.cells[i]? with
 | some .jD=>false
 | _=>true
def J (vs:jh) (i:Nat):W:=vs.getD i .undef
def Aj (v:W):Nat :=
 match v with
 | .int _ n=>n.toNat
 | _=>0
def Ao (v:W):jh :=
 match v with
 | .sl _ H _=>H
 | _=>[]
def Me (v:W):jh :=
 match v with
 | .ki es=>es
 | _=>[]
def strP (v:W):ji :=
 match v with
 | .str s=>s
 | _=>[]
def Ck (v:W) (i:Nat):W :=
 match v with
 | .jE H=>H.getD i .undef
 | .agg H=>H.getD i .undef
 | _=>.undef
def As (a b:Nat):Nat:=a+b
def yi (a b:Nat):Nat:=a - b
def minN (a b:Nat):Nat:=min a b
def Ay (a b:Nat):Bool:=Nat.ble a b
def CG (a b:Nat):Bool:=Nat.blt a b
def FF (a b:Nat):Bool:=Nat.beq a b
def yj (a b:Nat):Bool:=Nat.beq a b
def yk (a:Nat):Nat:=a / 2
def Bb (a b:Bool):Bool:=a&&b
def nI (n:Nat):W:=.int .i64 (n:Int)
def Ah (l:jh):Nat:=l.length
def Aq (n:Nat) (l:jh):jh:=l.take n
def AE (n:Nat) (l:jh):jh:=l.drop n
def A5 (l l':jh):jh:=l++l'
def HO (n:Nat) (v:W):jh:=List.replicate n v
def lenS (s:ji):Nat:=s.length
def DK (v:W):jh:=v.cells
def ER (l:jh) (n:Nat):Bool:=l.length==n&&Ap l
def AX (k:Nat) (l:jh):Bool:=l.all fun x=>x.isVal&&x.cells.length==k
def RB (u w:W) (o n:Nat):Bool:=u.isVal&&decide (u.cells.length=n)&&decide (o+n<=w.cells.length)
def In (u w:W) (o:Nat):W:=.agg (j0 w.cells o u.cells)
def He (p:Option Ex):Bool :=
 match p with
 | none=>true
 | _=>false
def HK (p:Option Ex):Bool :=
 match p with
 | some .ret=>true
 | _=>false
def Y7 (p:Option Ex) (id:Nat):Bool :=
 match p with
 | some (.exit oo)=>Nat.beq oo id
 | _=>false
def AZ (v:W):Bool:=v.isVal
def A6 (v:W):Bool:=jN v
def AY (vs:jh):Bool:=vs.all fun v=>!HB v
def noYL (vs:jh):Bool:=!BV vs
def JQ (k:jc) (v:W):Bool :=
 match v with
 | .int k' _=>decide (k'=k)
 | _=>false
def Pm (k:jc) (x:Int) (v:W):Bool :=
 match v with
 | .int k' z=>decide (k'=k)&&decide (z=x)
 | _=>false
open Classical in
noncomputable def lim (f:Nat->Option α):Option α:=if h:∃ a,Bs fun n=>f n=some a then some h.choose else none
theorem OC (h:lim f=some a):Bs fun n=>f n=some a:=by unfold lim at h;split at h;{rename_i A;have:=A.choose_spec;cases h;exact this};{cases h}
theorem Bs.unique {b:α} (h:Bs fun n=>f n=some a) (h':Bs fun n=>f n=some b):a=b:=by obtain⟨m,hm⟩:=h.and h';have:=hm m (dH _);exact fy (this.1.symm.trans this.2)
theorem Kz (h:Bs fun n=>f n=some a):lim f=some a:=by unfold lim;have A:∃ a,Bs fun n=>f n=some a:=⟨a,h⟩;rw[dif_pos A];exact iP some (Bs.unique A.choose_spec h)
def HV {σ ρ:Type} (step:σ->Option (Sum σ ρ)):Nat->σ->Option ρ
 | 0,_=>none
 | n+1,s=>Ky (HV step n) some (step s)
noncomputable def Be (step:σ->Option (Sum σ ρ)) (s:σ):Option ρ:=lim fun n=>HV step n s
theorem tJ:∀ {n m:Nat} {s:σ} {r:ρ},n<=m->HV step n s=some r->HV step m s=some r:=by
 intro n;induction n with
 | zero=>intro m s r _ h;cases h
 | succ n ih =>
  intro m s r hm h;obtain⟨m,rfl⟩:∃ k,m=k+1:=⟨m - 1,by omega⟩;unfold HV at h |-;revert h;rcases step s with _ | (s1 | r1)<;>intro h;{exact h};{exact ih (by omega) h};{exact h}
theorem P8 (h:Be step s=some r):∃ n,HV step n s=some r:=by obtain⟨m,hm⟩:=OC h;exact⟨m,hm m (dH _)⟩
theorem T4 (h:HV step n s=some r):Be step s=some r :=
 Kz ⟨n,fun _ hk=>tJ hk h⟩
theorem X8 (step:σ->Option (Sum σ ρ)) (s:σ):Be step s=Ky (Be step) some (step s):=by
 cases hs:step s with
 | none =>
  cases hl:Be step s with
  | none=>rfl
  | some r =>
   obtain⟨n,hn⟩:=P8 hl;cases n with
   | zero=>cases hn
   | succ n=>unfold HV at hn;rw[hs] at hn;cases hn
 | some q =>
  cases q with
  | inl s1 =>
   show Be step s=Be step s1;cases hl:Be step s with
   | some r =>
    obtain⟨n,hn⟩:=P8 hl;cases n with
    | zero=>cases hn
    | succ n=>unfold HV at hn;rw[hs] at hn;exact (T4 hn).symm
   | none =>
    cases hl1:Be step s1 with
    | none=>rfl
    | some r =>
     obtain⟨n,hn⟩:=P8 hl1;have:Be step s=some r:=T4 (n:=n+1) (by unfold HV;rw[hs];exact hn);rw[hl] at this;cases this
  | inr r=>exact T4 (n:=1) (by unfold HV;rw[hs];rfl)
theorem DE {s':σ} (h:step s=some (.inl s')):Be step s=Be step s':=by rw[X8,h];rfl
theorem B3 (h:step s=some (.inr r)):Be step s=some r:=by rw[X8,h];rfl
inductive KV where
 | un | sk
 | lit (b:Bool)
 | kx
 | cv (v:W)
 | ke (d:Nat)
 | ref (V:Nm) (o:Nat)
 | jQ (V:Nm) (k i o:Nat)
 | arr (V:Nm) (k o n:Nat)
 | mp (V:Nm)
 | it (V:Nm)
 | lg (V:Nm)
 | agg (cs:List KV)
 | iface (t:je) (x:KV)
 | fn (f:ja) (cap:List KV)
 | jE (H:List KV)
 deriving Inhabited
abbrev jn:=List KV
mutual
def KV.pv:KV->W
 | .un=>.undef | .sk=>.jE [] | .lit b=>.bool b | .kx=>.jD | .cv v=>v | .ke d=>.ke d
 | .ref V o=>.ref V o | .jQ V k i o=>.jQ V k i o | .arr V k o n=>.arr V k o n | .mp V=>.mp V | .it V=>.it V | .lg V=>.arr V 1 0 0
 | .agg cs=>.agg (AP cs) | .iface t x=>.iface t x.pv | .fn f cap=>.fn f (AP cap) | .jE H=>.jE (AP H)
def AP:jn->jh
 | []=>[]
 | x :: H=>x.pv :: AP H
end
mutual
def KV.names:KV->jl
 | .un | .sk | .lit _ | .kx | .cv _ | .ke _=>[]
 | .ref V _=>[V] | .jQ V _ _ _=>[V] | .arr V _ _ _=>[V] | .mp V=>[V] | .it V=>[V] | .lg V=>[V]
 | .agg cs=>D4 cs | .iface _ x=>x.names | .fn _ cap=>D4 cap | .jE H=>D4 H
def D4:jn->jl
 | []=>[]
 | x :: H=>x.names++D4 H
end
mutual
def KV.kf:KV->Bool
 | .ke _=>true
 | .agg cs=>Gt cs | .iface _ x=>x.kf | .fn _ cap=>Gt cap | .jE H=>Gt H
 | .un | .sk | .lit _ | .kx | .cv _ | .ref _ _ | .jQ _ _ _ _ | .arr _ _ _ _ | .mp _ | .it _ | .lg _=>false
def Gt:jn->Bool
 | []=>false
 | x :: H=>x.kf||Gt H
end
mutual
def KV.cl:KV->jx
 | .lit b=>some (.bool b) | .kx=>some .jD | .cv v=>some v
 | .agg cs=>(EF cs).map .agg | .iface t x=>x.cl.map (.iface t) | .fn f cap=>(EF cap).map (.fn f)
 | .un | .sk | .ke _ | .ref _ _ | .jQ _ _ _ _ | .arr _ _ _ _ | .mp _ | .it _ | .lg _ | .jE _=>none
def EF:jn->Option jh
 | []=>some []
 | x :: H=>match x.cl,EF H with
  | some v,some vs=>some (v :: vs)
  | _,_=>none
end
mutual
def KV.off (p:Nm->Bool):KV->KV
 | .ref V o=>if p V then .un else .ref V o
 | .jQ V k i o=>if p V then .un else .jQ V k i o
 | .arr V k o n=>if p V then .un else .arr V k o n
 | .mp V=>if p V then .un else .mp V
 | .it V=>if p V then .un else .it V
 | .lg V=>if p V then .un else .lg V
 | .agg cs=>.agg (K4 p cs) | .iface t x=>.iface t (x.off p) | .fn f cap=>.fn f (K4 p cap) | .jE H=>.jE (K4 p H)
 | .un=>.un | .sk=>.sk | .lit b=>.lit b | .kx=>.kx | .cv v=>.cv v | .ke d=>.ke d
def K4 (p:Nm->Bool):jn->jn
 | []=>[]
 | x :: H=>x.off p :: K4 p H
end
mutual
def KV.jR (f:Nm->Nm):KV->KV
 | .ref V o=>.ref (f V) o | .jQ V k i o=>.jQ (f V) k i o | .arr V k o n=>.arr (f V) k o n | .mp V=>.mp (f V) | .it V=>.it (f V) | .lg V=>.lg (f V)
 | .agg cs=>.agg (GA f cs) | .iface t x=>.iface t (x.jR f) | .fn g cap=>.fn g (GA f cap) | .jE H=>.jE (GA f H)
 | .un=>.un | .sk=>.sk | .lit b=>.lit b | .kx=>.kx | .cv v=>.cv v | .ke d=>.ke d
def GA (f:Nm->Nm):jn->jn
 | []=>[]
 | x :: H=>x.jR f :: GA f H
end
inductive Ak where
 | cells (ty:Nat) (cs:jn)
 | whole (ty:Nat) (v:W)
 | arr (k ty:Nat) (H:jh)
 | map (es:jh)
 | jT (s:ji) (pos:Nat)
 deriving Inhabited
abbrev jy:=Option Ak
abbrev jq:=List Ak
def Ak.ob:Ak->Ob
 | .cells ty cs=>.cells ty (AP cs)
 | .whole ty v=>.cells ty (DK v)
 | .arr k kt H=>.arr k kt H
 | .map es=>.map es
 | .jT s pos=>.jT s pos
def Ak.names:Ak->jl
 | .cells _ cs=>D4 cs
 | _=>[]
def Ak.off (p:Nm->Bool):Ak->Ak
 | .cells ty cs=>.cells ty (K4 p cs)
 | o=>o
def Ak.jR (f:Nm->Nm):Ak->Ak
 | .cells ty cs=>.cells ty (GA f cs)
 | o=>o
abbrev Sp:=List (Nat×KV)
abbrev jA:=List Sp
abbrev Bl:=List (Nat×jq)
def Bi:Sp->Nat->KV
 | [],_=>.un
 |(j,v) :: l,i=>match Nat.beq i j with
  | true=>v
  | false=>Bi l i
def DV (i:Nat) (v:KV):Sp->Sp
 | []=>[(i,v)]
 |(j,u) :: l=>match Nat.beq i j with
  | true=>(i,v) :: l
  | false=>match Nat.blt i j with
   | true=>(i,v) :: (j,u) :: l
   | false=>(j,u) :: DV i v l
def KQ (i:Nat):Sp->Sp
 | []=>[]
 |(j,u) :: l=>match Nat.beq i j with
  | true=>KQ i l
  | false=>(j,u) :: KQ i l
def Nw (i:Nat) (v:KV) (l:Sp):Sp :=
 match v with
 | .un=>KQ i l
 | v=>DV i v l
def EL (f:KV->KV):Sp->Sp
 | []=>[]
 |(j,u) :: l=>match f u with
  | .un=>EL f l
  | u=>(j,u) :: EL f l
def GM (p:Nat->Bool):Sp->Sp
 | []=>[]
 |(j,u) :: l=>match p j with
  | true=>(j,u) :: GM p l
  | false=>GM p l
def Hi:Sp->Nat->Bool
 | [],_=>false
 |(j,_) :: l,i=>match Nat.beq i j with
  | true=>true
  | false=>Hi l i
def Gk:Sp->jl
 | []=>[]
 |(_,u) :: l=>u.names++Gk l
def Bo:Bl->Nat->jq
 | [],_=>[]
 |(j,v) :: l,i=>match Nat.beq i j with
  | true=>v
  | false=>Bo l i
def FA (i:Nat) (v:jq):Bl->Bl
 | []=>[(i,v)]
 |(j,u) :: l=>match Nat.beq i j with
  | true=>(i,v) :: l
  | false=>match Nat.blt i j with
   | true=>(i,v) :: (j,u) :: l
   | false=>(j,u) :: FA i v l
def F6 (f:Ak->Ak):Bl->Bl
 | []=>[]
 |(j,u) :: l=>(j,u.map f) :: F6 f l
def Kw (p:Nat->Bool):Bl->Bl
 | []=>[]
 |(j,u) :: l=>match p j with
  | true=>(j,u) :: Kw p l
  | false=>Kw p l
def Ix:Bl->jl
 | []=>[]
 |(_,u) :: l=>u.flatMap Ak.names++Ix l
structure AJ where
 nt:Nat
 tmps:Sp
 jC:Bl
 jG:jA
 deriving Inhabited
def BQ (nt:Nat) (l:Sp):jh:=(List.range nt).map fun i=>(Bi l i).pv
def Dn (nt:Nat) (l:Bl):List jp:=(List.range nt).map fun i=>(Bo l i).map Ak.ob
def AJ.Z (ks:AJ):St:={tmps:=BQ ks.nt ks.tmps,jC:=Dn ks.nt ks.jC,jG:=ks.jG.flatMap (BQ ks.nt)}
def Bw (σ:Bl) (V:Nm):jy:=(Bo σ V.1)[V.2]?
def mh (σ:Bl) (V:Nm) (o:Ak):Bl :=
 match Bw σ V with
 | some _=>FA V.1 ((Bo σ V.1).set V.2 o) σ
 | none=>σ
def HI (σ:Nm->jy):Nat->jl->jl
 | 0,l=>l
 | d+1,l=>l++HI σ d (l.flatMap fun V=>((σ V).map Ak.names).getD [])
def KR (σ:Nm->jy) (R:jl):Bool:=R.all fun V=>(((σ V).map Ak.names).getD []).all fun m=>R.contains m
mutual
def KV.close (g:Nm->jk):KV->W
 | .ref V o=>match g V with
  | some (.cells _ cs)=>GX cs o
  | _=>.undef
 | .jQ V k i o=>match g V with
  | some (.arr k' kt H)=>ye k k' H i o
  | _=>.undef
 | .arr V k o n=>match g V with
  | some (.arr k' kt H)=>AB k k' H o n
  | _=>.undef
 | .mp V=>match g V with
  | some (.map es)=>.ki es
  | _=>.undef
 | .it _=>.undef
 | .lg V=>match g V with
  | some (.arr k' kt H)=>AB 1 k' H 0 0
  | _=>.undef
 | .agg cs=>.agg (GQ g cs) | .iface t x=>.iface t (x.close g) | .fn f cap=>.fn f (GQ g cap) | .jE H=>.jE (GQ g H)
 | .un=>.undef | .sk=>.jE [] | .lit b=>.bool b | .kx=>.jD | .cv v=>v | .ke d=>.ke d
def GQ (g:Nm->jk):jn->jh
 | []=>[]
 | x :: H=>x.close g :: GQ g H
end
def Ak.close (g:Nm->jk):Ak->Ob
 | .cells ty cs=>.cells ty (GQ g cs)
 | o=>o.ob
def D5 (σ:Nm->jy):Nat->Nm->jk
 | 0,V=>(σ V).map (Ak.close fun _=>none)
 | d+1,V=>(σ V).map (Ak.close (D5 σ d))
mutual
def KV.kj (p:Nm->Bool) (g:Nm->jk):KV->KV
 | .ref V o=>if p V then .cv ((KV.ref V o).close g) else .ref V o
 | .jQ V k i o=>if p V then .cv ((KV.jQ V k i o).close g) else .jQ V k i o
 | .arr V k o n=>if p V then .cv ((KV.arr V k o n).close g) else .arr V k o n
 | .mp V=>if p V then .cv ((KV.mp V).close g) else .mp V
 | .it V=>if p V then .un else .it V
 | .lg V=>if p V then .cv ((KV.lg V).close g) else .lg V
 | .agg cs=>.agg (K6 p g cs) | .iface t x=>.iface t (x.kj p g) | .fn f cap=>.fn f (K6 p g cap) | .jE H=>.jE (K6 p g H)
 | .un=>.un | .sk=>.sk | .lit b=>.lit b | .kx=>.kx | .cv v=>.cv v | .ke d=>.ke d
def K6 (p:Nm->Bool) (g:Nm->jk):jn->jn
 | []=>[]
 | x :: H=>x.kj p g :: K6 p g H
end
def Ak.kj (p:Nm->Bool) (g:Nm->jk):Ak->Ak
 | .cells ty cs=>.cells ty (K6 p g cs)
 | o=>o
def Hl:Ak:=.arr 0 0 []
def Nq (p:Nm->Bool) (ks:AJ):AJ:={ks with tmps:=EL (KV.off p) ks.tmps,jC:=F6 (Ak.off p) ks.jC,jG:=ks.jG.map (EL (KV.off p))}
def QZ (σ:Nm->jy) (R:jl) (ks:AJ):AJ :=
 let p:=fun m=>R.contains m
 let g:=D5 σ A7
 {ks with tmps:=EL (KV.kj p g) ks.tmps,jC:=R.foldl (fun jC V=>mh jC V Hl) (F6 (Ak.kj p g) ks.jC),jG:=ks.jG.map (EL (KV.kj p g))}
mutual
def KI {R:Type}:KV->(KV->R)->R
 | .un,K=>K .un | .sk,K=>K .sk | .lit b,K=>(match b with | true=>K (.lit true) | false=>K (.lit false)) | .kx,K=>K .kx | .cv v,K=>K (.cv v) | .ke d,K=>K (.ke d)
 | .ref V o,K=>(match V with | (a,b)=>K (.ref (a,b) o)) | .jQ V k i o,K=>(match V with | (a,b)=>K (.jQ (a,b) k i o)) | .arr V k o n,K=>(match V with | (a,b)=>K (.arr (a,b) k o n))
 | .mp V,K=>(match V with | (a,b)=>K (.mp (a,b))) | .it V,K=>(match V with | (a,b)=>K (.it (a,b))) | .lg V,K=>(match V with | (a,b)=>K (.lg (a,b)))
 | .agg cs,K=>LV cs fun cs=>K (.agg cs) | .iface t x,K=>KI x fun x=>K (.iface t x) | .fn f cap,K=>LV cap fun cap=>K (.fn f cap) | .jE H,K=>LV H fun H=>K (.jE H)
def LV {R:Type}:jn->(jn->R)->R
 | [],K=>K []
 | x :: H,K=>KI x fun x=>LV H fun H=>K (x :: H)
end
def UB:Ak->(Ak->R)->R
 | .cells ty cs,K=>LV cs fun cs=>K (.cells ty cs)
 | .whole ty v,K=>K (.whole ty v) | .arr k kt H,K=>K (.arr k kt H) | .map es,K=>K (.map es) | .jT s pos,K=>K (.jT s pos)
def QL {R:Type}:jq->(jq->R)->R
 | [],K=>K []
 | x :: H,K=>UB x fun x=>QL H fun H=>K (x :: H)
def O1 {R:Type}:Sp->(Sp->R)->R
 | [],K=>K []
 |(j,x) :: H,K=>KI x fun x=>O1 H fun H=>K ((j,x) :: H)
def Q3 {R:Type}:Bl->(Bl->R)->R
 | [],K=>K []
 |(j,x) :: H,K=>QL x fun x=>Q3 H fun H=>K ((j,x) :: H)
def Q4 {R:Type}:jA->(jA->R)->R
 | [],K=>K []
 | x :: H,K=>O1 x fun x=>Q4 H fun H=>K (x :: H)
def Eb (ks:AJ) (K:AJ->R):R :=
 match ks with
 | ⟨nt,tmps,jC,jG⟩=>O1 tmps fun a=>Q3 jC fun b=>Q4 jG fun c=>K {nt,tmps:=a,jC:=b,jG:=c}
def IV (v:W):KV :=
 match v with
 | .bool b=>.lit b
 | .jD=>.kx
 | .fn f []=>.fn f []
 | v=>.cv v
def RX.kv (tm:Sp):RX->KV
 | .t i=>Bi tm i
 | .c v=>IV v
def FE:RX->Bool
 | .t _=>true
 | .c v=>jN v
def AG.mw (g:RX->RX):AG->AG
 | .mov x=>.mov (g x) | .pick c a b=>.pick (g c) (g a) (g b) | .box x=>.box (g x) | .alloc ty z=>.alloc ty z
 | .build z ps=>.build z (ps.map fun p=>(p.1,p.2.1,g p.2.2)) | .nO k ps=>.nO k (ps.map g) | .load n ag x=>.load n ag (g x) | .store n x v=>.store n (g x) (g v)
 | .nilck x=>.nilck (g x) | .bin op c nc x y=>.bin op c nc (g x) (g y) | .un op x=>.un op (g x) | .conv k x=>.conv k (g x) | .k7 x=>.k7 (g x) | .ofBytes x=>.ofBytes (g x)
 | .lK x=>.lK (g x) | .mq x=>.mq (g x) | .mkI t x=>.mkI t (g x) | .mkF f cap=>.mkF f (cap.map g) | .mkMap=>.mkMap | .insert c x k v=>.insert c (g x) (g k) (g v)
 | .lookup c z ok x k=>.lookup c z ok (g x) (g k) | .r8 k z l c=>.r8 k z (g l) (g c) | .slice k x lo hi mx=>.slice k (g x) (lo.map g) (hi.map g) (mx.map g) | .kq x lo hi=>.kq (g x) (lo.map g) (hi.map g)
 | .fieldAddr off x=>.fieldAddr off (g x) | .field off n ag x=>.field off n ag (g x) | .jJ k x i=>.jJ k (g x) (g i) | .kM k l x i=>.kM k l (g x) (g i) | .lL x i=>.lL (g x) (g i)
 | .extract j x=>.extract j (g x) | .len c x=>.len c (g x) | .append k ty s x=>.append k ty (g s) (g x) | .copy k d s=>.copy k (g d) (g s) | .j6 mx H=>.j6 mx (H.map g) | .call f args=>.call (g f) (args.map g)
 | .iter x=>.iter (g x) | .next x=>.next (g x) | .kJ t z ok x=>.kJ t z ok (g x) | .bad=>.bad
def ym (tm:Sp) (x:RX):RX:=.c (((x.kv tm).cl).getD .undef)
structure AF where
 v:KV
 new:jq:=[]
 kA:Option (Nm×Ak):=none
 kill:Option Nm:=none
 kj:jl:=[]
 gone:jl:=[]
 l4:List (Nm×Ak):=[]
 io:Bool:=false
 slot:jj:=none
def isG:AG->Bool
 | .build _ _ | .load _ _ _ | .nilck _ | .bin _ _ _ _ _ | .un _ _ | .conv _ _ | .k7 _ | .ofBytes _ | .lK _ | .mq _ | .lookup _ _ _ _ _ | .slice _ _ _ _ _ | .kq _ _ _
 | .fieldAddr _ _ | .field _ _ _ _ | .jJ _ _ _ | .kM _ _ _ _ | .lL _ _ | .extract _ _ | .len _ _ | .j6 _ _ | .kJ _ _ _ _=>true
 | _=>false
def okOp:AG->Bool
 | .build z _=>Ap z
 | .lookup _ z _ _ _=>jN z
 | .kJ _ z _ _=>jN z
 | _=>true
def gO (tm:Sp) (op:AG) (K:AF->Option R):Option R :=
 if (isG op&&okOp op&&op.H.all fun x=>((x.kv tm).cl).isSome) then Ac (Ad (op.mw (ym tm))) fun z=>K {v:=.cv z} else none
def Rt (n:Nat) (x:KV) (K:jn->Option R):Option R :=
 match x with
 | .agg cs=>if cs.length=n then K cs else none
 | .cv v=>Ae (Aw v n) (K ((List.range n).map fun i=>.cv (Af v i)))
 | .un | .sk | .jE _=>none
 | y=>if n=1 then K [y] else none
def RN {R:Type} (tm:Sp):jn->List (Nat×Nat×RX)->(jn->Option R)->Option R
 | z,[],K=>K z
 | z,(off,n,x) :: ps,K=>Rt n (x.kv tm) fun cs=>if off+n<=z.length then RN tm (z.take off++cs++z.drop (off+n)) ps K else none
def Pp (σ:Nm->jy) (k:Nat) (x:KV) (K:jh->Option R):Option R :=
 match x with
 | .arr V k' o n=>match σ V with
  | some (.arr nx kt H)=>if k=k'/\k'=nx then Ae (Ay (As o n) (Ah H)) (K (Aq n (AE o H))) else none
  | _=>none
 | x=>match x.cl with
  | some v=>Ac (GO k v) K
  | none=>none
def Dp (d:Nat) (σ:Nm->jy) (tm:Sp) (op:AG) (K:AF->Option R):Option R :=
 match op with
 | .mov x=>K {v:=x.kv tm}
 | .pick c a b=>match c.kv tm with
  | .lit true=>K {v:=a.kv tm}
  | .lit false=>K {v:=b.kv tm}
  | .cv v=>Ai v (K {v:=a.kv tm}) (K {v:=b.kv tm})
  | _=>none
 | .box x=>match x.kv tm with
  | .cv v=>Ae (AZ v) (K {v:=.ref (d,0) 0,new:=[.whole 0 v]})
  | .agg cs=>K {v:=.ref (d,0) 0,new:=[.cells 0 cs]}
  | .un | .sk | .jE _=>none
  | y=>K {v:=.ref (d,0) 0,new:=[.cells 0 [y]]}
 | .alloc ty z=>if Ap z then K {v:=.ref (d,0) 0,new:=[.cells ty (z.map IV)]} else none
 | .build z ps =>
  if !ps.isEmpty&&((ps.all fun p=>((p.2.2.kv tm).cl).isSome)&&Nat.ble z.length 6) then gO tm (.build z ps) K
  else if Ap z then RN tm (z.map IV) ps fun cs=>K {v:=.agg cs} else none
 | .nO k ps =>
  let H:=ps.map (RX.kv tm)
  match EF H with
  | some vs=>Ae (AX k vs) (K {v:=.arr (d,0) k 0 (Ah vs),new:=[.arr k 0 vs]})
  | none =>
   let R:=HI σ A7 (D4 H)
   if (D4 H).isEmpty then none
   else if KR σ R/\Gt H=false then
    let ys:=GQ (D5 σ A7) H
    Ae (AX k ys) (K {v:=.arr (d,0) k 0 (Ah ys),new:=[.arr k 0 ys],kj:=R})
   else none
 | .load n ag x=>match x.kv tm with
  | .ref V o=>match σ V with
   | some (.cells _ cs)=>if ag then (if o+n<=cs.length then K {v:=.agg ((cs.drop o).take n)} else none) else (match cs[o]? with | some c=>K {v:=c} | none=>none)
   | some (.whole _ v)=>Ac (A3 v o n ag) fun z=>K {v:=.cv z}
   | _=>none
  | .jQ V k i o=>match σ V with
   | some (.arr k' kt H)=>if k=k' then Ac (IP H i o n ag) fun z=>K {v:=.cv z} else none
   | _=>none
  | _=>gO tm op K
 | .store n x v=>match x.kv tm with
  | .ref V o=>match σ V with
   | some (.cells ty cs)=>Rt n (v.kv tm) fun vs=>if o+n<=cs.length then K {v:=.un,kA:=some (V,.cells ty (cs.take o++vs++cs.drop (o+n)))} else none
   | some (.whole ty w)=>match (v.kv tm).cl with
    | some u=>Ae (RB u w o n) (K {v:=.un,kA:=some (V,.whole ty (In u w o))})
    | none=>none
   | _=>none
  | .jQ V k i o=>match σ V with
   | some (.arr k' kt H)=>match (v.kv tm).cl with
    | some u=>if k=k' then Ac (F9 k H i o n u) fun ys=>K {v:=.un,kA:=some (V,.arr k kt ys)} else none
    | none=>none
   | _=>none
  | _=>none
 | .nilck x=>match x.kv tm with
  | .ref V o=>K {v:=.ref V o}
  | .jQ V k i o=>K {v:=.jQ V k i o}
  | .fn f cap=>K {v:=.fn f cap}
  | .ke l=>K {v:=.ke l}
  | _=>gO tm op K
 | .bin o c nc x y=>match x.kv tm,y.kv tm with
  | .ref _ _,.cv v=>match o with
   | .eql=>CJ (match c,v with | .ptr,.kB=>true | _,_=>false) (K {v:=.lit false}) none
   | .neq=>CJ (match c,v with | .ptr,.kB=>true | _,_=>false) (K {v:=.lit true}) none
   | _=>none
  | _,_=>gO tm op K
 | .un .not x=>match x.kv tm with
  | .lit b=>K {v:=.lit (!b)}
  | _=>gO tm op K
 | .mkI t x=>match (x.kv tm).cl with
  | some v=>K {v:=.cv (.iface t v)}
  | none=>match x.kv tm with
   | .un | .sk | .jE _ | .ke _=>none
   | y=>K {v:=.iface t y}
 | .mkF f cap=>if (cap.map (RX.kv tm)).all fun | .un | .sk | .jE _ | .ke _=>false | _=>true then K {v:=.fn f (cap.map (RX.kv tm))} else none
 | .mkMap=>K {v:=.mp (d,0),new:=[.map []]}
 | .insert c x k v=>match x.kv tm with
  | .mp V=>match σ V,(k.kv tm).cl,(v.kv tm).cl with
   | some (.map es),some kk,some vv=>Ac (Ip c es kk vv) fun nH=>K {v:=.un,kA:=some (V,.map nH)}
   | some (.map es),some kk,none =>
    let R:=HI σ A7 (D4 [v.kv tm])
    if (D4 [v.kv tm]).isEmpty then none
    else if KR σ R/\Gt [v.kv tm]=false/\R.contains V=false then
     Ac (Ip c es kk (J (GQ (D5 σ A7) [v.kv tm]) 0)) fun nH=>K {v:=.un,kA:=some (V,.map nH),kj:=R}
    else none
   | _,_,_=>none
  | _=>none
 | .lookup c z ok x k=>match x.kv tm with
  | .mp V=>match σ V,(k.kv tm).cl with
   | some (.map es),some kk=>if jN z=true then Ac (RG c z ok es kk) fun v=>K {v:=.cv v} else none
   | _,_=>none
  | _=>gO tm op K
 | .r8 k z l c=>match (l.kv tm).cl,(c.kv tm).cl with
  | some l,some c=>if z.cells.length=k/\jN z=true then Ac (K5 l c) fun n=>K {v:=.arr (d,0) k 0 n,new:=[.arr k 0 (HO n z)]} else none
  | _,_=>none
 | .slice k x lo hi mx=>match x.kv tm with
  | .arr V k' o n =>
   if k=k'/\(mx.isNone\/hi.isSome)/\(lo.toList++hi.toList++mx.toList).all fun y=>((y.kv tm).cl).isSome then
    let ev:=fun (y:RX)=>((y.kv tm).cl).getD .undef
    Ac (Ev (mx.map ev) n n) fun m=>Ac (Ev (hi.map ev) n m) fun h =>
     match lo with
     | none=>K {v:=.arr V k o h}
     | some lo=>Ac (Ev (some (ev lo)) 0 h) fun l=>CJ (Bb (FF h l) (CG 0 l)) (K {v:=.cv (.sl k [] false)}) (K {v:=.arr V k (As o l) (yi h l)})
   else none
  | _=>gO tm op K
 | .fieldAddr off x=>match x.kv tm with
  | .ref V o=>K {v:=.ref V (o+off)}
  | .jQ V k i o=>K {v:=.jQ V k i (o+off)}
  | _=>gO tm op K
 | .field off n ag x=>match x.kv tm with
  | .agg cs=>if ag then (if off+n<=cs.length then K {v:=.agg ((cs.drop off).take n)} else none) else (match cs[off]? with | some c=>K {v:=c} | none=>none)
  | _=>gO tm op K
 | .jJ k x i=>match x.kv tm with
  | .arr V k' o n=>match (i.kv tm).cl with
   | some i=>if k=k' then Ac (Fl i) fun j=>Ae (CG j n) (K {v:=.jQ V k (As o j) 0}) else none
   | none=>none
  | _=>gO tm op K
 | .extract j x=>match x.kv tm with
  | .jE H=>match H[j]? with
   | some v=>K {v}
   | none=>none
  | _=>gO tm op K
 | .len c x=>match x.kv tm with
  | .arr _ _ _ n=>match c with
   | .slice=>K {v:=.cv (nI n)}
   | _=>none
  | .mp V=>match c,σ V with
   | .map,some (.map es)=>K {v:=.cv (nI (yk (Ah es)))}
   | _,_=>none
  | _=>gO tm op K
 | .ofBytes x=>match x.kv tm with
  | .arr V k o n=>Pp σ 1 (.arr V k o n) fun ys=>Ac (Ad (.ofBytes (.c (.sl 1 ys false)))) fun z=>K {v:=.cv z}
  | _=>gO tm op K
 | .append k ty s x=>Pp σ k (x.kv tm) fun ys =>
  match s.kv tm with
  | .arr V k' o n=>match σ V with
   | some (.arr nx kt H)=>if k=k'/\k'=nx/\o=0 then Ae (Bb (Ay n (Ah H)) (Ay (As n (Ah ys)) Gl)) (K {v:=.arr V k 0 (As n (Ah ys)),kA:=some (V,.arr k (if kt=ty then ty else 0) (A5 (Aq n H) ys)),kill:=some V}) else none
   | _=>none
  | .kx=>Ae (Ay (Ah ys) Gl) (K {v:=.arr (d,0) k 0 (Ah ys),new:=[.arr k ty ys]})
  | .cv v=>Ac (appO k v ys) fun zs=>K {v:=.arr (d,0) k 0 (Ah zs),new:=[.arr k ty zs]}
  | _=>none
 | .copy k x s=>Pp σ k (s.kv tm) fun ys =>
  match x.kv tm with
  | .arr V k' o n=>match σ V with
   | some (.arr nx kt H)=>if k=k'/\k'=nx then Ae (Ay (As o n) (Ah H)) (K {v:=.cv (nI (minN (Ah ys) n)),kA:=some (V,.arr k kt (A5 (A5 (Aq o H) (Aq n ys)) (AE (As o (Ah (Aq n ys))) H)))}) else none
   | _=>none
  | .kx=>K {v:=.cv (nI 0)}
  | _=>none
 | .iter x=>match (x.kv tm).cl with
  | some v=>Ac (strO v) fun s=>K {v:=.it (d,0),new:=[.jT s 0]}
  | none=>none
 | .next x=>match x.kv tm with
  | .it V=>match σ V with
   | some (.jT s pos)=>CJ (CG pos (lenS s)) (K {v:=.jE [.lit true,.cv (nI pos),.cv (yf s pos)],kA:=some (V,.jT s (As pos (yg s pos)))}) (K {v:=.jE [.lit false]})
   | _=>none
  | _=>none
 | .kJ t z ok x=>match x.kv tm with
  | .iface u y=>if u=t then K {v:=if ok then .jE [y,.lit true] else y} else if ok=true/\jN z=true then K {v:=.jE [.cv z,.lit false]} else none
  | _=>gO tm op K
 | .call _ _=>none
 | .bad=>none
 | _=>gO tm op K
def tK (u:Option (Nm×Ak)) (ks:AJ):AJ :=
 match u with
 | some (V,ob)=>{ks with jC:=mh ks.jC V ob}
 | none=>ks
def NK (k:Option Nm) (ks:AJ):AJ :=
 match k with
 | some V=>Nq (fun m=>m==V) ks
 | none=>ks
def PI (σ:Nm->jy) (R:jl) (ks:AJ):AJ :=
 match R with
 | []=>ks
 | V :: R=>QZ σ (V :: R) ks
def NL (l:jl) (ks:AJ):AJ :=
 match l with
 | []=>ks
 | V :: l=>Nq (fun m=>(V :: l).contains m) ks
def yn:List (Nm×Ak)->Bl->Bl
 | [],σ=>σ
 |(V,o) :: l,σ=>yn l (mh σ V o)
def kset (dst:jj) (v:KV) (new:jq) (ks:AJ):AJ :=
 match dst with
 | some d=>match Nat.blt d ks.nt with
  | true=>{ks with tmps:=Nw d v ks.tmps,jC:=match new with | []=>ks.jC | x :: H=>FA d (x :: H) ks.jC}
  | false=>ks
 | none=>ks
def NI (l:List (Nm×Ak)) (ks:AJ):AJ:={ks with jC:=yn l ks.jC}
def tL (sl:jj) (new:jq) (ks:AJ):AJ :=
 match sl with
 | some r=>match Nat.blt r ks.nt with
  | true=>{ks with jC:=FA r (Bo ks.jC r++new) ks.jC}
  | false=>ks
 | none=>ks
def PC (sl:jj) (new:jq):jq :=
 match sl with
 | some _=>[]
 | none=>new
def HJ (ks:AJ) (dst:jj) (o:AF):AJ:=kset dst o.v (PC o.slot o.new) (tL o.slot o.new<|NI o.l4 (NL o.gone (PI (Bw ks.jC) o.kj (NK o.kill (tK o.kA ks)))))
mutual
def Bz:KV->KV->Bool
 | .un,x=>match x with | .un=>true | _=>false
 | .sk,x=>match x with | .sk=>true | _=>false
 | .ke _,x=>match x with | .ke _=>true | _=>false
 | .ref V o,x=>match x with | .ref kR o'=>V==kR&&o==o' | _=>false
 | .jQ _ _ _ _,_=>false
 | .arr V k o _,x=>match x with | .arr kR k' o' _=>V==kR&&k==k'&&Nat.beq o o' | _=>false
 | .mp V,x=>match x with | .mp kR=>V==kR | _=>false
 | .it V,x=>match x with | .it kR=>V==kR | _=>false
 | .lg V,x=>match x with | .lg kR=>V==kR | _=>false
 | .fn f cap,x=>match x with | .fn f' nT=>f==f'&&E4 cap nT | _=>false
 | .jE H,x=>match x with | .jE ys=>E4 H ys | _=>false
 | .lit _,x=>x.cl.isSome
 | .kx,x=>x.cl.isSome
 | .cv _,x=>x.cl.isSome
 | .agg cs,x=>if (EF cs).isSome then x.cl.isSome else match x with | .agg mn=>E4 cs mn | _=>false
 | .iface t y,x=>if y.cl.isSome then x.cl.isSome else match x with | .iface t' y'=>t==t'&&Bz y y' | _=>false
def E4:jn->jn->Bool
 | [],l=>match l with | []=>true | _=>false
 | x :: H,l=>match l with | y :: ys=>Bz x y&&E4 H ys | _=>false
end
mutual
def CC:KV->KV->jh
 | .un,_=>[] | .sk,_=>[] | .ke _,x=>(match x with | .ke d=>[nI d] | _=>[]) | .ref _ _,_=>[] | .jQ _ _ _ _,_=>[] | .mp _,_=>[] | .it _,_=>[] | .lg _,_=>[]
 | .arr _ _ _ _,x=>match x with | .arr _ _ _ n=>[nI n] | _=>[]
 | .fn _ cap,x=>match x with | .fn _ nT=>Hc cap nT | _=>[]
 | .jE H,x=>match x with | .jE ys=>Hc H ys | _=>[]
 | .lit _,x=>[x.cl.getD .undef]
 | .kx,x=>[x.cl.getD .undef]
 | .cv _,x=>[x.cl.getD .undef]
 | .agg cs,x=>if (EF cs).isSome then [x.cl.getD .undef] else match x with | .agg mn=>Hc cs mn | _=>[]
 | .iface _ y,x=>if y.cl.isSome then [x.cl.getD .undef] else match x with | .iface _ y'=>CC y y' | _=>[]
def Hc:jn->jn->jh
 | [],_=>[]
 | x :: H,l=>match l with | y :: ys=>CC x y++Hc H ys | _=>[]
end
mutual
def fill:KV->jh->Nat->KV×Nat
 | .un,_,i=>(.un,i) | .sk,_,i=>(.sk,i) | .ke _,vs,i=>(.ke (Aj (J vs i)),i+1) | .ref V o,_,i=>(.ref V o,i) | .jQ V k j o,_,i=>(.jQ V k j o,i) | .mp V,_,i=>(.mp V,i) | .it V,_,i=>(.it V,i) | .lg V,_,i=>(.lg V,i)
 | .arr V k o _,vs,i=>(.arr V k o (Aj (J vs i)),i+1)
 | .fn f cap,vs,i=>let p:=DM cap vs i;(.fn f p.1,p.2)
 | .jE H,vs,i=>let p:=DM H vs i;(.jE p.1,p.2)
 | .lit _,vs,i=>(.cv (J vs i),i+1)
 | .kx,vs,i=>(.cv (J vs i),i+1)
 | .cv _,vs,i=>(.cv (J vs i),i+1)
 | .agg cs,vs,i=>if (EF cs).isSome then (.cv (J vs i),i+1) else let p:=DM cs vs i;(.agg p.1,p.2)
 | .iface t y,vs,i=>if y.cl.isSome then (.cv (J vs i),i+1) else let p:=fill y vs i;(.iface t p.1,p.2)
def DM:jn->jh->Nat->jn×Nat
 | [],_,i=>([],i)
 | x :: H,vs,i=>let p:=fill x vs i;let q:=DM H vs p.2;(p.1 :: q.1,q.2)
end
def Ec:Ak->Ak->Bool
 | .cells ty cs,x=>match x with | .cells rS mn=>ty==rS&&E4 cs mn | _=>false
 | .whole ty _,x=>match x with | .whole rS _=>ty==rS | _=>false
 | .arr k t _,x=>match x with | .arr k' t' _=>k==k'&&t==t' | _=>false
 | .map _,x=>match x with | .map _=>true | _=>false
 | .jT _ _,x=>match x with | .jT _ _=>true | _=>false
def H2:Ak->Ak->jh
 | .cells _ cs,x=>match x with | .cells _ mn=>Hc cs mn | _=>[]
 | .whole _ _,x=>match x with | .whole _ v=>[v] | _=>[]
 | .arr k _ _,x=>match x with | .arr _ _ H=>[.sl k H false] | _=>[]
 | .map _,x=>match x with | .map es=>[.ki es] | _=>[]
 | .jT _ _,x=>match x with | .jT s pos=>[.str s,nI pos] | _=>[]
def C4:Ak->jh->Nat->Ak×Nat
 | .cells ty cs,vs,i=>let p:=DM cs vs i;(.cells ty p.1,p.2)
 | .whole ty _,vs,i=>(.whole ty (J vs i),i+1)
 | .arr k t _,vs,i=>(.arr k t (Ao (J vs i)),i+1)
 | .map _,vs,i=>(.map (Me (J vs i)),i+1)
 | .jT _ _,vs,i=>(.jT (strP (J vs i)) (Aj (J vs (i+1))),i+2)
def Fw:jq->jq->Bool
 | [],[]=>true
 | x :: H,y :: ys=>Ec x y&&Fw H ys
 | _,_=>false
def Ju:jq->jq->jh
 | x :: H,y :: ys=>H2 x y++Ju H ys
 | _,_=>[]
def DI:jq->jh->Nat->jq×Nat
 | [],_,i=>([],i)
 | x :: H,vs,i=>let p:=C4 x vs i;let q:=DI H vs p.2;(p.1 :: q.1,q.2)
def JZ:Sp->Sp->Bool
 | [],[]=>true
 |(i,x) :: H,(j,y) :: ys=>Nat.beq i j&&(Bz x y&&JZ H ys)
 | _,_=>false
def H1:Sp->Sp->jh
 |(_,x) :: H,(_,y) :: ys=>CC x y++H1 H ys
 | _,_=>[]
def F5:Sp->jh->Nat->Sp×Nat
 | [],_,i=>([],i)
 |(j,x) :: H,vs,i=>let p:=fill x vs i;let q:=F5 H vs p.2;((j,p.1) :: q.1,q.2)
def KW:Bl->Bl->Bool
 | [],[]=>true
 |(i,x) :: H,(j,y) :: ys=>Nat.beq i j&&(Fw x y&&KW H ys)
 | _,_=>false
def MP:Bl->Bl->jh
 |(_,x) :: H,(_,y) :: ys=>Ju x y++MP H ys
 | _,_=>[]
def HM:Bl->jh->Nat->Bl×Nat
 | [],_,i=>([],i)
 |(j,x) :: H,vs,i=>let p:=DI x vs i;let q:=HM H vs p.2;((j,p.1) :: q.1,q.2)
def KX:jA->jA->Bool
 | [],[]=>true
 | x :: H,y :: ys=>JZ x y&&KX H ys
 | _,_=>false
def QG:jA->jA->jh
 | x :: H,y :: ys=>H1 x y++QG H ys
 | _,_=>[]
def LY:jA->jh->Nat->jA×Nat
 | [],_,i=>([],i)
 | x :: H,vs,i=>let p:=F5 x vs i;let q:=LY H vs p.2;(p.1 :: q.1,q.2)
def NP (p x:AJ):Bool:=Nat.beq p.nt x.nt&&(JZ p.tmps x.tmps&&(KW p.jC x.jC&&KX p.jG x.jG))
def FU (p x:AJ):jh:=H1 p.tmps x.tmps++MP p.jC x.jC++QG p.jG x.jG
def Dm (p:AJ) (vs:jh):AJ :=
 let a:=F5 p.tmps vs 0
 let b:=HM p.jC vs a.2
 let c:=LY p.jG vs b.2
 {nt:=p.nt,tmps:=a.1,jC:=b.1,jG:=c.1}
mutual
def Fg:KV->KV->Bool
 | .un,x=>match x with | .un=>true | _=>false
 | .sk,x=>match x with | .sk=>true | _=>false
 | .ke _,x=>match x with | .ke _=>true | _=>false
 | .ref V o,x=>match x with | .ref kR o'=>V==kR&&o==o' | _=>false
 | .jQ _ _ _ _,_=>false
 | .arr V k _ _,x=>match x with | .arr kR k' _ _=>V==kR&&k==k' | _=>false
 | .mp V,x=>match x with | .mp kR=>V==kR | _=>false
 | .it V,x=>match x with | .it kR=>V==kR | _=>false
 | .lg V,x=>match x with | .lg kR=>V==kR | _=>false
 | .fn f cap,x=>match x with | .fn f' nT=>f==f'&&J0 cap nT | _=>false
 | .jE H,x=>match x with | .jE ys=>J0 H ys | _=>false
 | .lit _,x=>x.cl.isSome
 | .kx,x=>x.cl.isSome
 | .cv _,x=>x.cl.isSome
 | .agg cs,x=>if (EF cs).isSome then x.cl.isSome else match x with | .agg mn=>J0 cs mn | _=>false
 | .iface t y,x=>if y.cl.isSome then x.cl.isSome else match x with | .iface t' y'=>t==t'&&Fg y y' | _=>false
def J0:jn->jn->Bool
 | [],l=>match l with | []=>true | _=>false
 | x :: H,l=>match l with | y :: ys=>Fg x y&&J0 H ys | _=>false
end
mutual
def IJ:KV->KV->List Bool
 | .arr _ _ o _,x=>match x with | .arr _ _ o' _=>[yj o o'] | _=>[]
 | .fn _ cap,x=>match x with | .fn _ nT=>JV cap nT | _=>[]
 | .jE H,x=>match x with | .jE ys=>JV H ys | _=>[]
 | .agg cs,x=>match x with | .agg mn=>JV cs mn | _=>[]
 | .iface _ y,x=>match x with | .iface _ y'=>IJ y y' | _=>[]
 | .un,_ | .sk,_ | .ke _,_ | .ref _ _,_ | .jQ _ _ _ _,_ | .mp _,_ | .it _,_ | .lg _,_ | .lit _,_ | .kx,_ | .cv _,_=>[]
def JV:jn->jn->List Bool
 | [],_=>[]
 | x :: H,l=>match l with | y :: ys=>IJ x y++JV H ys | _=>[]
end
def Vi:Ak->Ak->Bool
 | .cells ty cs,x=>match x with | .cells rS mn=>ty==rS&&J0 cs mn | _=>false
 | .whole ty v,x=>Ec (.whole ty v) x | .arr k t H,x=>Ec (.arr k t H) x | .map es,x=>Ec (.map es) x | .jT s p,x=>Ec (.jT s p) x
def U2:Ak->Ak->List Bool
 | .cells _ cs,x=>match x with | .cells _ mn=>JV cs mn | _=>[]
 | _,_=>[]
def M7:jq->jq->Bool
 | [],[]=>true
 | x :: H,y :: ys=>Vi x y&&M7 H ys
 | _,_=>false
def MZ:jq->jq->List Bool
 | x :: H,y :: ys=>U2 x y++MZ H ys
 | _,_=>[]
def LX:Sp->Sp->Bool
 | [],[]=>true
 |(i,x) :: H,(j,y) :: ys=>Nat.beq i j&&(Fg x y&&LX H ys)
 | _,_=>false
def LM:Sp->Sp->List Bool
 |(_,x) :: H,(_,y) :: ys=>IJ x y++LM H ys
 | _,_=>[]
def Ns:Bl->Bl->Bool
 | [],[]=>true
 |(i,x) :: H,(j,y) :: ys=>Nat.beq i j&&(M7 x y&&Ns H ys)
 | _,_=>false
def Nh:Bl->Bl->List Bool
 |(_,x) :: H,(_,y) :: ys=>MZ x y++Nh H ys
 | _,_=>[]
def Nt:jA->jA->Bool
 | [],[]=>true
 | x :: H,y :: ys=>LX x y&&Nt H ys
 | _,_=>false
def Ni:jA->jA->List Bool
 | x :: H,y :: ys=>LM x y++Ni H ys
 | _,_=>[]
def LW (p x:AJ):Bool:=Nat.beq p.nt x.nt&&(LX p.tmps x.tmps&&(Ns p.jC x.jC&&Nt p.jG x.jG))
def Ph (p x:AJ):List Bool:=LM p.tmps x.tmps++(Nh p.jC x.jC++Ni p.jG x.jG)
def chks {β:Type}:List Bool->Option β->Option β
 | [],a=>a
 | b :: l,a=>Ae b (chks l a)
mutual
def CM:KV->W->Option jh
 | .un,x=>match x with | .undef=>some [] | _=>none
 | .sk,x=>match x with | .jE []=>some [] | _=>none
 | .ke _,x=>match x with | .ke d=>some [nI d] | _=>none
 | .jQ _ _ _ _,_=>none
 | .lg V,x=>match x with | .arr kR 1 0 0=>Ae (V==kR) (some []) | _=>none
 | .ref V o,x=>match x with | .ref kR o'=>Ae (V==kR&&o==o') (some []) | _=>none
 | .mp V,x=>match x with | .mp kR=>Ae (V==kR) (some []) | _=>none
 | .it V,x=>match x with | .it kR=>Ae (V==kR) (some []) | _=>none
 | .arr V k o _,x=>match x with | .arr kR k' o' n=>Ae (V==kR&&k==k'&&Nat.beq o o') (some [nI n]) | _=>none
 | .lit _,x=>Ae (jN x) (some [x])
 | .kx,x=>Ae (jN x) (some [x])
 | .cv _,x=>Ae (jN x) (some [x])
 | .fn f cap,x=>match x with | .fn f' nT=>if f=f' then IN cap nT else none | _=>none
 | .jE H,x=>match x with | .jE ys=>IN H ys | _=>none
 | .agg cs,x=>if (EF cs).isSome then Ae (jN x) (some [x]) else match x with | .agg mn=>IN cs mn | _=>none
 | .iface t y,x=>if y.cl.isSome then Ae (jN x) (some [x]) else match x with | .iface t' y'=>if t=t' then CM y y' else none | _=>none
def IN:jn->jh->Option jh
 | [],l=>match l with | []=>some [] | _=>none
 | x :: H,l=>match l with
  | y :: ys=>match CM x y,IN H ys with
   | some a,some b=>some (a++b)
   | _,_=>none
  | _=>none
end
def F4:Ak->Ob->Option jh
 | .cells ty cs,x=>match x with | .cells rS mn=>if ty=rS then IN cs mn else none | _=>none
 | .whole ty _,x=>match x with | .cells rS mn=>Ae (ty==rS&&Ap mn) (some [.agg mn]) | _=>none
 | .arr k t _,x=>match x with | .arr k' t' H=>Ae (k==k'&&t==t'&&Ap H) (some [.sl k H false]) | _=>none
 | .map _,x=>match x with | .map es=>Ae (Ap es) (some [.ki es]) | _=>none
 | .jT _ _,x=>match x with | .jT s pos=>some [.str s,nI pos] | _=>none
def JG:jq->jp->Option jh
 | [],l=>match l with | []=>some [] | _=>none
 | x :: H,l=>match l with
  | y :: ys=>match F4 x y,JG H ys with
   | some a,some b=>some (a++b)
   | _,_=>none
  | _=>none
structure BY where
 args:jn
 ins:jq
 res:KV
 outs:jq
 news:jq
 gone:jm
 deriving Inhabited
def RQ (P:BY) (out:AQ):Option jh :=
 if out.gone=P.gone.map (fun j=>(0,j)) then
  match CM P.res out.v,JG P.outs (out.l4.map (·.2)),JG P.news out.new with
  | some a,some b,some c=>some (a++(b++c))
  | _,_,_=>none
 else none
def Fx (k:Nat):jl:=(List.range k).map fun j=>(0,j)
inductive Bu where
 | cl
 | own (k:Nat)
 | opt (k:Nat)
 | jE (l:List Bu)
 | agg (l:List Bu)
 deriving Inhabited
mutual
def Dq (obs:jp):Bu->Nat->W->Option (W×Nat)
 | .cl,j,v=>Ae (jN v) (some (v,j))
 | .own k,j,v=>match v,obs[j]? with
  | .arr V k' o n,some (.arr nx kt H)=>Ae (V==(0,j)&&k==k'&&k==nx&&o==0&&n==H.length&&kt==0&&Ap H) (some (.sl k H false,j+1))
  | _,_=>none
 | .opt k,j,v=>match v,obs[j]? with
  | .jD,_=>some (.jD,j)
  | .arr V k' o n,some (.arr nx kt H)=>Ae (V==(0,j)&&k==k'&&k==nx&&o==0&&n==H.length&&kt==0&&Ap H) (some (.sl k H false,j+1))
  | _,_=>none
 | .jE l,j,v=>match v with
  | .jE vs=>(GP obs l j vs).map fun p=>(.jE p.1,p.2)
  | _=>none
 | .agg l,j,v=>match v with
  | .agg vs=>(GP obs l j vs).map fun p=>(.agg p.1,p.2)
  | _=>none
def GP (obs:jp):List Bu->Nat->jh->Option (jh×Nat)
 | [],j,[]=>some ([],j)
 | s :: l,j,v :: vs=>match Dq obs s j v with
  | some (u,j)=>(GP obs l j vs).map fun p=>(u :: p.1,p.2)
  | none=>none
 | _,_,_=>none
end
def EY (sh:Bu) (v:W) (obs:jp):jx :=
 match Dq obs sh 0 v with
 | some (r,j)=>Ae (j==obs.length) (some r)
 | none=>none
mutual
def EB (d:Nat):Bu->Nat->W->KV×jq×Nat
 | .cl,j,r=>(.cv r,[],j)
 | .own k,j,r=>(.arr (d,j) k 0 (Ah (Ao r)),[.arr k 0 (Ao r)],j+1)
 | .opt _,j,r=>(.cv r,[],j)
 | .jE l,j,r=>let p:=Jm d l j r 0;(.jE p.1,p.2)
 | .agg l,j,r=>let p:=Jm d l j r 0;(.agg p.1,p.2)
def Jm (d:Nat):List Bu->Nat->W->Nat->jn×jq×Nat
 | [],j,_,_=>([],[],j)
 | s :: l,j,r,i =>
  let p:=EB d s j (Ck r i)
  let q:=Jm d l p.2.2 r (i+1)
  (p.1 :: q.1,p.2.1++q.2.1,q.2.2)
end
mutual
def JD {R:Type}:Bu->W->(Bu->Option R)->Option R
 | .cl,_,K=>K .cl
 | .own k,_,K=>K (.own k)
 | .opt k,u,K=>yh u (K .cl) (K (.own k))
 | .jE l,u,K=>Ox l u 0 fun l=>K (.jE l)
 | .agg l,u,K=>Ox l u 0 fun l=>K (.agg l)
def Ox {R:Type}:List Bu->W->Nat->(List Bu->Option R)->Option R
 | [],_,_,K=>K []
 | s :: l,u,i,K=>JD s (Ck u i) fun s=>Ox l u (i+1) fun l=>K (s :: l)
end
mutual
def Bu.fix:Bu->Bool
 | .opt _=>false
 | .cl | .own _=>true
 | .jE l | .agg l=>tM l
def tM:List Bu->Bool
 | []=>true
 | s :: l=>s.fix&&tM l
end
structure KB where
 sp:ja->(Nm->jk)->jh->js
 L:Ik
 I:ja->jp->jh->Option (St×W)
 lC:ja->Bool
 kr:ja->Bool
structure ED where
 b:KB
 vZ:ja->Bool
 asT:ja->je->Option (je×Nat)
 rsh:ja->Bu×Bool
 dsh:Nat->Bu
 rT:ja->Option (jn->jq->BY)
 spK:ja->Option ((Nm->jy)->jn->Option (Bool×AF)):=fun _=>none
 yo:ja->Bool:=fun _=>false
def spO (sp:ja->(Nm->jk)->jh->js) (g:ja) (vs:jh):Option (Option (W×jp)) :=
 match sp g (fun _=>none) vs with
 | some out=>Ae (out.kA.isNone&&out.kill.isNone&&out.kj.isEmpty&&out.gone.isEmpty&&out.l4.isEmpty&&!out.io&&out.slot.isNone) (some (some (out.v,out.new)))
 | none=>some none
noncomputable def Ax (B:KB) (sh:Bu) (f:W) (args:jh):jx :=
 match f with
 | .fn g cap=>match spO B.sp (Ba g) (BI g args cap) with
  | some (some (v,obs))=>EY sh v obs
  | some none=>if B.lC (Ba g) then none else match B.L Unit AI 0 (Ba g) (BI g args cap) () with
   | some (r,obs,_)=>EY sh r obs
   | none=>none
  | none=>none
 | _=>none
noncomputable def Bd (B:KB) (sh:Bu) (fr:Bool) (g:ja) (args:jh):jx :=
 if BV args then none
 else match B.L Unit AI 0 g args () with
  | some (r,obs,_)=>Ae ((r.free&&obs.all Ob.free&&!B.kr g)==fr) (EY sh r obs)
  | none=>none
noncomputable def DU (B:KB) (h:AA E) (dep:Nat) (f:W) (e:E):Option E :=
 match f with
 | .fn g cap=>match B.L E h (dep+1) (Ba g) (BI g [.ke dep] cap) e with
  | some (_,_,e)=>some e
  | none=>none
 | _=>none
noncomputable def BK (B:KB) (P:BY) (g:ja) (vs:jh):Option jh :=
 match B.I g ((DI P.ins vs (DM P.args vs 0).2).1.map Ak.ob) (AP (DM P.args vs 0).1) with
 | some (Z,v)=>match HR none 1 0 (Fx P.ins.length) Z v with
  | some out=>RQ P out
  | none=>none
 | none=>none
def CK (R:jl) (d i0:Nat) (m:Nm):Nm:=if m.1=0 then R.getD m.2 (0,0) else (d,i0+m.2)
def NM (P:BY) (R:jl) (sl:jj) (d i0:Nat) (rs:jh):AF :=
 let v:=fill P.res rs 0
 let o:=DI P.outs rs v.2
 let w:=DI P.news rs o.2
 {v:=v.1.jR (CK R d i0),new:=w.1.map (Ak.jR (CK R d i0)),gone:=P.gone.map fun j=>R.getD j (0,0),l4:=R.zip (o.1.map (Ak.jR (CK R d i0))),io:=true,slot:=sl}
noncomputable def OV (cfg:ED) (Pf:jn->jq->BY) (g:ja) (d:Nat) (σ:Nm->jy) (H:jn) (K:AF->Option R):Option R :=
 let S:=Et (HI σ A7 (D4 H))
 match S.mapM σ with
 | none=>none
 | some ins =>
  let f:Nm->Nm:=fun m=>(0,S.idxOf m)
  let P:=Pf H ins
  if KR σ S=true/\Gt H=false/\cfg.vZ g=false/\(E4 P.args (GA f H)&&Fw P.ins (ins.map (Ak.jR f)))=true then
   Ac (BK cfg.b P g (Hc P.args (GA f H)++Ju P.ins (ins.map (Ak.jR f)))) fun rs=>match S with
    | []=>K (NM P S none d 0 rs)
    | r :: _=>match LA σ r.1 with
     | some i0=>K (NM P S (some r.1) r.1 i0 rs)
     | none=>none
  else none
def Jd (f:ja) (vs cap:jn):jn:=match Nat.blt f CR with
 | true=>vs++cap
 | false=>cap.take (Gf f)++(vs++cap.drop (Gf f))
noncomputable def yp (cfg:ED) (h:AA E) (d:Nat) (σ:Nm->jy) (tm:Sp) (f:RX) (args:jz) (e:E) (K:AF->E->Option R):Option R :=
 match f.kv tm with
 | .ke l =>
  let H:=args.map (RX.kv tm)
  match EF H with
  | some vs=>Ac (h l vs e) fun p=>K {v:=.cv (.bool p.1)} p.2
  | none =>
   let R:=HI σ A7 (D4 H)
   if (D4 H).isEmpty then none
   else if KR σ R then
    let ys:=GQ (D5 σ A7) H
    Ae (noYL ys) (Ac (h l ys e) fun p=>K {v:=.cv (.bool p.1),kj:=R} p.2)
   else none
 | .fn f jX =>
  let g:=Ba f
  let H:=Jd f (args.map (RX.kv tm)) jX
  match cfg.spK g with
  | some s=>(match s σ H with
   | some p=>Ae p.1 (K p.2 e)
   | none=>none)
  | none =>
  match cfg.rT g with
  | some P=>OV cfg P g d σ H fun out=>K out e
  | none =>
  match H with
  | [ex,.iface p (.ref V 0)]=>match cfg.asT g p,ex.cl,σ V with
   | some (t,n),some err,some (.cells ty cs)=>Ae (FF cs.length n) (asP t err (fun x=>Ae (Aw x n) (K {v:=.lit true,kA:=some (V,.whole ty x)} e)) (K {v:=.lit false} e))
   | _,_,_=>none
  | _=>match EF H with
   | some vs=>Ac (Ax cfg.b (cfg.rsh g).1 (.fn g []) vs) fun r=>JD (cfg.rsh g).1 r fun sh=>let p:=EB d sh 0 r;K {v:=p.1,new:=p.2.1} e
   | none =>
    let R:=HI σ A7 (D4 H)
    if (D4 H).isEmpty\/cfg.vZ g=true then none
    else if KR σ R then
     Ac (Bd cfg.b (cfg.rsh g).1 (cfg.rsh g).2 g (GQ (D5 σ A7) H)) fun r=>JD (cfg.rsh g).1 r fun sh=>let p:=EB d sh 0 r;K {v:=p.1,new:=p.2.1,kj:=if (cfg.rsh g).2 then [] else R} e
    else none
 | .cv v=>match EF (args.map (RX.kv tm)) with
  | some vs=>Ac (Ax cfg.b (cfg.dsh d) v vs) fun r=>JD (cfg.dsh d) r fun sh=>let p:=EB d sh 0 r;K {v:=p.1,new:=p.2.1} e
  | none=>none
 | _=>none
def Vd (o:A8) (ks:AJ):Bool :=
 if Ma o.op then
  match o.dst with
  | some d=>Nat.blt d ks.nt&&(Bo ks.jC d).isEmpty
  | none=>match o.op with
   | .call _ _=>true
   | _=>false
 else true
def FX:Bl->Bool
 | []=>true
 |(_,u) :: l=>(u.all fun o=>match o with | .cells _ cs=>!Gt cs | _=>true)&&FX l
def NQ (cfg:ED) (op:AG) (tm:Sp):Bool :=
 match op with
 | .nO _ _=>false
 | .insert _ _ _ _=>false
 | .call f _=>match f.kv tm with
  | .fn g _=>(cfg.rT (Ba g)).isNone
  | _=>true
 | _=>true
noncomputable def Np (cfg:ED) (h:AA E) (o:A8) (ks:AJ) (e:E) (K:AF->E->Option R):Option R :=
 if Vd o ks/\o.op.H.all FE/\(FX ks.jC||NQ cfg o.op ks.tmps)=true then
  match o.op with
  | .call f args=>yp cfg h (o.dst.getD 0) (Bw ks.jC) ks.tmps f args e fun out e=>if ((!out.io||o.dst.isSome||out.new.isEmpty||out.slot.isSome)&&(out.kj.isEmpty||FX ks.jC))=true then K out e else none
  | op=>Dp (o.dst.getD 0) (Bw ks.jC) ks.tmps op fun out=>if (out.kj.isEmpty||FX ks.jC)=true then K out e else none
 else none
def Rk (ops:jv) (o:A8) (ks:AJ) (K:Bool->AJ->Option R):Option R :=
 match o.guard with
 | none=>K true ks
 | some (j,want) =>
  match ops[j]? with
  | some p=>match p.dst with
   | some d=>match Bi ks.tmps d with
    | .lit b=>K (b==want) ks
    | .sk=>K false ks
    | .cv v=>Ai v (K (true==want) {ks with tmps:=DV d (.lit true) ks.tmps}) (K (false==want) {ks with tmps:=DV d (.lit false) ks.tmps})
    | _=>none
   | none=>none
  | none=>none
noncomputable def yq (cfg:ED) (h:AA E) (ops:jv) (o:A8) (ks:AJ) (e:E) (K:AJ->E->Option R):Option R :=
 Rk ops o ks fun b ks=>match b with
  | true=>Np cfg h o ks e fun out e=>Eb (HJ ks o.dst out) fun ks=>K ks e
  | false=>Eb (HJ ks o.dst {v:=.sk}) fun ks=>K ks e
noncomputable def NJ {E R:Type} (cfg:ED) (h:AA E) (ops:jv):jv->AJ->E->(AJ->E->Option R)->Option R
 | [],ks,e,K=>K ks e
 | o :: rest,ks,e,K=>yq cfg h ops o ks e fun ks e=>NJ cfg h ops rest ks e K
def Pk (o:AF):Bool:=o.kA.isNone&&o.kill.isNone&&o.kj.isEmpty&&o.gone.isEmpty&&o.l4.isEmpty&&o.slot.isNone
def U7 (o:AF):Bool:=o.gone.isEmpty&&o.l4.isEmpty&&o.slot.isNone&&!o.io
def Ty (o:AF):jl :=
 match o.kA with
 | some (V,_)=>[V]
 | none=>[]
def tN (ks:AJ) (s:Nat):KV :=
 match Nat.blt s ks.nt with
 | true=>Bi ks.tmps s
 | false=>.un
def U9 (op:AG) (tm:Sp):Bool :=
 match op with
 | .call f args=>match f.kv tm with
  | .ke _=>(D4 (args.map (RX.kv tm))).isEmpty
  | _=>false
 | _=>false
def Va (σ:Nm->jy) (l:jl):jl:=l.flatMap fun V=>((σ V).map Ak.names).getD []
def RL (o:A8) (ks:AJ) (out:AF):jl :=
 if IR o.op&&Pk out then [] else HI (Bw ks.jC) (Kj o.op (Pk out)) (D4 (o.op.H.map (RX.kv ks.tmps))++out.kj)
def yr (ops:jv) (i:Nat) (o:A8) (ks:AJ) (out:AF):DP :=
 let vs:=o.op.H.map (RX.kv ks.tmps)
 {i,dst:=o.dst,reads:=QS o.op.H++G5 ops o,rn:=RL o ks out,rv:=if Gu o.op then [] else Va (Bw ks.jC) (RL o ks out),
  cls:=if FY o.op&&Gt vs then (if U9 o.op ks.tmps then .calls else .other) else if Pk out then .quiet else if U7 out then .turns else .other,
  on:=out.v.names++out.new.flatMap Ak.names,tch:=Ty out++(out.kj++out.kill.toList),kj:=!(out.kj++out.kill.toList).isEmpty,
  vn:=(QS o.op.H++G5 ops o).flatMap fun s=>(tN ks s).names}
noncomputable def U8 (cfg:ED) (h:AA E) (ops:jv) (i:Nat) (o:A8) (ks:AJ) (e:E) (K:AJ->E->DP->Option R):Option R :=
 Rk ops o ks fun b ks=>match b with
  | true=>Np cfg h o ks e fun out e=>Eb (HJ ks o.dst out) fun k1=>K k1 e (yr ops i o ks out)
  | false=>Eb (HJ ks o.dst {v:=.sk}) fun k1=>K k1 e {i,cls:=.quiet,dst:=o.dst,reads:=G5 ops o,rn:=[],vn:=(G5 ops o).flatMap fun s=>(tN ks s).names}
noncomputable def Rl {E R:Type} (cfg:ED) (h:AA E) (ops:jv):List (Nat×Nat)->List DP->AJ->E->(AJ->E->Option R)->Option R
 | [],_,ks,e,K=>K ks e
 |(i,qF) :: rest,infos,ks,e,K=>match ops[i]? with
  | some o=>U8 cfg h ops i o ks e fun ks e info=>if (infos.all fun j=>qF.testBit j.i||JY j info) then Rl cfg h ops rest (info :: infos) ks e K else none
  | none=>none
def ES (ds:jm) (ks:AJ):AJ :=
 if ds.all fun d=>(Bo ks.jC d).isEmpty then ks
 else
  let ks:=Nq (fun m=>ds.contains m.1) ks
  {ks with jC:=Kw (fun i=>!ds.contains i) ks.jC}
def KE (ks:AJ) (t:Nat):Bool:=Nat.blt t ks.nt&&(Bo ks.jC t).isEmpty
def MD (t:Nat) (ks:AJ) (V:Nm):AJ :=
  if V≠(t,0)/\KE ks t=true then
   match Bw ks.jC V with
   | some ob =>
    let f:Nm->Nm:=fun m=>if m=V then (t,0) else m
    let jC:=F6 (Ak.jR f) ks.jC
    {ks with tmps:=EL (KV.jR f) ks.tmps,jC:=FA t [ob.jR f] (mh jC V Hl),jG:=ks.jG.map (EL (KV.jR f))}
   | none=>ks
  else ks
def Kk (t:Nat) (ks:AJ):AJ :=
 match Bi ks.tmps t with
 | .arr V _ _ _=>MD t ks V
 | .lg V=>MD t ks V
 | _=>ks
def Nr (V:Nm) (ty:Nat) (cs:jn) (i k:Nat) (ks:AJ):AJ :=
 let l:=Bo ks.jC V.1
 {ks with jC:=FA V.1 (l.set V.2 (.cells ty (cs.set i (.arr (V.1,l.length) k 0 0)))++[.arr k 0 []]) ks.jC}
def ME (V m:Nm) (ks:AJ):AJ :=
 let l:=Bo ks.jC V.1
 if m.1≠V.1 then
  match Bw ks.jC m with
  | some ob =>
   let f:Nm->Nm:=fun x=>if x=m then (V.1,l.length) else x
   let jC:=mh (F6 (Ak.jR f) ks.jC) m Hl
   {ks with tmps:=EL (KV.jR f) ks.tmps,jC:=FA V.1 (Bo jC V.1++[ob.jR f]) jC,jG:=ks.jG.map (EL (KV.jR f))}
  | none=>ks
 else ks
def TA (V:Nm) (ty:Nat) (cs:jn) (i k:Nat) (ks:AJ) (K:AJ->Option R):Option R :=
 match cs[i]? with
 | some .kx=>K (Nr V ty cs i k ks)
 | some (.cv v)=>CU v (K (Nr V ty cs i k ks))
 | some (.arr m _ _ _)=>K (ME V m ks)
 | some (.lg m)=>K (ME V m ks)
 | _=>K ks
def Vb (x off k:Nat) (ks:AJ) (K:AJ->Option R):Option R :=
 match Bi ks.tmps x with
 | .ref V o=>match Bw ks.jC V with
  | some (.cells ty cs)=>TA V ty cs (o+off) k ks K
  | some (.whole _ v)=>Ae (T0 v (o+off)) (K ks)
  | _=>K ks
 | _=>K ks
def Vc (t k:Nat) (ks:AJ) (K:AJ->Option R):Option R :=
 if JS<=t then Vb (t%JS) (t / JS - 1) k ks K
 else match Bi ks.tmps t with
 | .kx=>K (if KE ks t then {ks with tmps:=DV t (.arr (t,0) k 0 0) ks.tmps,jC:=FA t [.arr k 0 []] ks.jC} else ks)
 | .cv v=>notNil v (K ks)
 | _=>K ks
def Rm {R:Type}:List (Nat×Nat)->AJ->(AJ->Option R)->Option R
 | [],ks,K=>K ks
 |(t,k) :: l,ks,K=>Vc t k ks fun ks=>Rm l ks K
def JA (ks:AJ):jm :=
 let R:=Gk ks.tmps++ks.jG.flatMap Gk++Ix ks.jC
 (ks.jC.filter fun p=>!p.2.isEmpty&&R.all fun V=>V.1 != p.1).map (·.1)
def PH (kN:jm) (grow:List (Nat×Nat)) (ks:AJ) (K:AJ->Option R):Option R :=
 Rm grow (kN.foldl (fun ks t=>Kk t ks) ks) fun ks=>K (ES (JA ks) ks)
def IC (R:jl):Bl->Bl
 | []=>[]
 |(j,u) :: l=>match u.take (IQ R j u.length) with
  | []=>IC R l
  | v :: vs=>(j,v :: vs) :: IC R l
def PF (ks:AJ):AJ:={ks with jC:=IC (Gk ks.tmps++ks.jG.flatMap Gk++Ix ks.jC) ks.jC}
def KS (k0:AJ) (ks:AJ):AJ :=
 let ks:={ks with tmps:=GM (Hi k0.tmps) ks.tmps}
 ES (JA ks) ks
def Mb (live:Option jm) (ks:AJ):AJ :=
 match live with
 | none=>ks
 | some l =>
  let ks:={ks with tmps:=GM (fun i=>l.contains i) ks.tmps}
  ES (JA ks) ks
def Ng:AG->Bool
 | .mov _ | .pick _ _ _ | .build _ _ | .nilck _ | .bin _ _ _ _ _ | .un _ _ | .conv _ _ | .k7 _ | .ofBytes _ | .lK _ | .mq _ | .mkI _ _ | .lookup _ _ _ _ _ | .slice _ _ _ _ _ | .kq _ _ _
 | .fieldAddr _ _ | .field _ _ _ _ | .jJ _ _ _ | .kM _ _ _ _ | .lL _ _ | .extract _ _ | .len _ _ | .j6 _ _ | .kJ _ _ _ _ | .load _ _ _=>true
 | _=>false
def Yz (ops:jv) (lv:Option jm):jj :=
 if (ops.any fun o=>o.guard.isSome)&&(ops.all fun o=>Ng o.op) then
  match lv with
  | some l=>match l.filter fun t=>(ops.filterMap (·.dst)).contains t with
   | [t]=>some t
   | _=>none
  | none=>none
 else none
def JP:jm->jh->Nat->Sp->Sp
 | p :: ps,vs,i,tm=>JP ps vs (i+1) (DV p (.cv (J vs i)) tm)
 | [],_,_,tm=>tm
def yu:Ex->Bool
 | .normal=>true
 | _=>false
def yw:Ex->Option Ex
 | .normal=>none
 | x=>some x
def JH:BJ->jm
 | .seq a b=>JH a++JH b
 | .cond _ a b=>JH a++JH b
 | .block id b=>(JH b).filter fun i=>i != id
 | .loop _ _ b=>JH b
 | .rangeFunc _ _ _ b=>JH b
 | .scope b=>JH b
 | .exit id=>[id]
 | _=>[]
def RM {R:Type}:jm->Option Ex->(Nat->Option R)->Option R
 | [],_,_=>none
 | id :: l,p,K=>CJ (Y7 p id) (K id) (RM l p K)
abbrev Is (E:Type):=jh×Option Ex×E
def EI (dep:Nat) (h:AA E) (body:jh->jh->E->Option (Bool×Is E)):AA (Is E):=fun l args r =>
 if l=dep then
  match r with
  |(vs,none,e)=>body vs args e
  | _=>none
 else
  match r with
  |(vs,p,e)=>match h l args e with
   | some (b,e)=>some (b,(vs,p,e))
   | none=>none
def Rh (kN:jm) (grow:List (Nat×Nat)) (k0:AJ) (K:Ex->AJ->E->Option R) (x:Ex) (ks:AJ) (e:E):Option (Sum (jh×E) R) :=
 match x with
 | .normal=>PH kN grow (KS k0 ks) fun k1=>Eb k1 fun k1=>if LW k0 k1 then chks (Ph k0 k1) (some (.inl (FU k0 k1,e))) else none
 | x=>Ac (K x ks e) fun r=>some (.inr r)
noncomputable def DW (cfg:ED):BJ->{E R:Type}->AA E->Nat->AJ->E->(Ex->AJ->E->Option R)->Option R
 | .skip,_,_,_,_,ks,e,K=>K .normal ks e
 | .region ops none lv,E,_,h,_,ks,e,K =>
  Eb (ES (DB ops) ks) fun ks =>
  match Yz ops lv with
  | some t=>Ac (NJ (E:=E) cfg h ops ops ks e fun ks _=>(Bi ks.tmps t).cl) fun z=>Eb (Mb lv {ks with tmps:=DV t (.cv z) ks.tmps}) fun ks=>K .normal ks e
  | none=>NJ cfg h ops ops ks e fun ks e=>Eb (Mb lv ks) fun ks=>K .normal ks e
 | .region ops (some qF) lv,_,_,h,_,ks,e,K=>Eb (ES (DB ops) ks) fun ks=>Rl cfg h ops qF [] ks e fun ks e=>Eb (Mb lv ks) fun ks=>K .normal ks e
 | .seq a b,_,_,h,dep,ks,e,K=>DW cfg a h dep ks e fun x ks e=>match x with
  | .normal=>DW cfg b h dep ks e K
  | x=>K x ks e
 | .cond c a b,_,_,h,dep,ks,e,K=>match c.kv ks.tmps with
  | .lit true=>DW cfg a h dep ks e K
  | .lit false=>DW cfg b h dep ks e K
  | .cv v=>Ai v (DW cfg a h dep ks e K) (DW cfg b h dep ks e K)
  | _=>none
 | .block id body,_,_,h,dep,ks,e,K=>DW cfg body h dep ks e fun x ks e=>match x with
  | .exit oo=>if oo=id then K .normal ks e else K (.exit oo) ks e
  | x=>K x ks e
 | .loop kN grow body,E,R,h,dep,ks,e,K=>PH kN grow ks fun k0=>Eb k0 fun k0=>Ae (AY (H1 k0.tmps k0.tmps))<|if LW k0 k0=false then none else
  Be (σ:=jh×E) (ρ:=R) (fun s=>Eb (Dm k0 s.1) fun ks=>DW cfg body h dep ks s.2 (Rh kN grow k0 K)) (FU k0 k0,e)
 | .rangeFunc f ps assign body,E,R,h,dep,ks,e,K =>
  match (f.kv ks.tmps).cl with
  | some fv=>if (ps.all fun p=>Nat.blt p ks.nt)&&LW ks ks&&FE f then Ac (DU (E:=Is E) cfg.b (EI dep h fun vs args e =>
    Ae (ER args ps.length) (
     Eb (Dm ks vs) fun k0 =>
     Eb {k0 with tmps:=JP ps args 0 k0.tmps,jG:=k0.tmps :: k0.jG} fun k1 =>
     DW cfg assign (R:=Bool×Is E) h (dep+1) k1 e fun x k1 e=>match x with
      | .normal=>DW cfg body h (dep+1) k1 e fun x k2 e =>
       match k2.jG with
       | []=>none
       | sp :: kp =>
        Eb {k2 with tmps:=sp,jG:=kp} fun k3 =>
        if LW ks k3 then chks (Ph ks k3) (some (yu x,(FU ks k3,yw x,e))) else none
      | _=>none)) dep fv (FU ks ks,none,e)) fun r=>Eb (Dm ks r.1) fun k1 =>
    CJ (He r.2.1) (K .normal k1 r.2.2) (CJ (HK r.2.1) (K .ret k1 r.2.2)
     (RM (JH body) r.2.1 fun id=>K (.exit id) k1 r.2.2)) else none
  | none=>none
 | .exit id,_,_,_,_,ks,e,K=>K (.exit id) ks e
 | .scope b,_,_,h,dep,ks,e,K=>DW cfg b h dep ks e fun x ks e=>match x with
  | .exit id=>if id < Do then K (.exit id) ks e else none
  | x=>K x ks e
 | .ret,_,_,_,_,ks,e,K=>K .ret ks e
 | .norm grow,_,_,_,_,ks,e,K=>PH [] grow (PF ks) fun k0=>Eb k0 fun k0=>K .normal k0 e
 | .o7 _ _ _ _,_,_,_,_,_,_,_=>none
 | .bad,_,_,_,_,_,_,_=>none
def kisFn:KV->Bool
 | .fn _ _=>true
 | _=>false
def kisUn:KV->Bool
 | .un=>true
 | _=>false
noncomputable def Gv (cfg:ED) (nt:Nat):BJ->{R:Type}->AJ->(Ex->AJ->jm->Option R)->Option R
 | .o7 ops f args live,_,ks,K=>Eb (ES (DB ops) ks) fun ks=>NJ (E:=Unit) cfg AI ops ops ks () fun ks _ =>
  if kisFn (f.kv ks.tmps)=true/\(Nat.ble (args.length+1) nt&&Nat.beq ks.nt nt)=true/\(f :: args).all FE=true/\(f.kv ks.tmps :: args.map (RX.kv ks.tmps)).any kisUn=false then
   Eb (Mb live {ks with jG:=((f.kv ks.tmps :: args.map (RX.kv ks.tmps)).zipIdx.map fun p=>(p.2,p.1)) :: ks.jG}) fun ks=>K .normal ks [args.length]
  else none
 | .seq a b,_,ks,K=>Gv cfg nt a ks fun x ks l=>match x with
  | .normal=>Gv cfg nt b ks fun x ks l'=>K x ks (l'++l)
  | x=>K x ks l
 | .cond c a b,_,ks,K=>match c.kv ks.tmps with
  | .lit true=>Gv cfg nt a ks K
  | .lit false=>Gv cfg nt b ks K
  | .cv v=>Ai v (Gv cfg nt a ks K) (Gv cfg nt b ks K)
  | _=>none
 | .block id body,_,ks,K=>Gv cfg nt body ks fun x ks l=>match x with
  | .exit oo=>if oo=id then K .normal ks l else K (.exit oo) ks l
  | x=>K x ks l
 | .scope body,_,ks,K=>if T5 body then none else Gv cfg nt body ks fun x ks l=>match x with
  | .exit id=>if id < Do then K (.exit id) ks l else none
  | x=>K x ks l
 | c,_,ks,K=>DW cfg c (E:=Unit) AI 0 ks () fun x ks _=>K x ks []
noncomputable def RZ (cfg:ED) (nt:Nat) {R:Type}:jm->AJ->(AJ->Option R)->Option R
 | [],ks,K=>K ks
 | n :: l,ks,K=>match ks.jG with
  | []=>none
  | sp :: kp=>match Bi sp 0 with
   | .fn f jX=>match cfg.rT (Ba f) with
    | some P =>
     let H:=Jd f ((List.range n).map fun j=>Bi sp (j+1)) jX
     if cfg.yo (Ba f)=true/\(Nat.ble (n+1) nt&&Nat.beq ks.nt nt)=true/\FX ks.jC=true then
      OV cfg P (Ba f) 0 (Bw ks.jC) H fun out=>if out.new.isEmpty||out.slot.isSome then Eb (HJ {ks with jG:=kp} none out) fun ks=>RZ cfg nt l ks K else none
     else none
    | none=>none
   | _=>none
def yx (ks:AJ) (r:IW) (K:KV->Option R):Option R :=
 match r with
 | .tmp t=>K (Bi ks.tmps t)
 | .cell t n ag=>match Bi ks.tmps t with
  | .ref V o=>match Bw ks.jC V with
   | some (.cells _ cs)=>if ag then (if o+n<=cs.length then K (.agg ((cs.drop o).take n)) else none) else (match cs[o]? with | some c=>K c | none=>none)
   | some (.whole _ v)=>Ac (A3 v o n ag) fun z=>K (.cv z)
   | _=>none
  | _=>none
def KA {R:Type} (ks:AJ):List IW->(jn->Option R)->Option R
 | [],K=>K []
 | r :: rs,K=>yx ks r fun v=>KA ks rs fun vs=>K (v :: vs)
def KC:jn->KV
 | [v]=>v
 | vs=>.jE vs
def Jj:Nat->Bool
 | 0=>true
 | _=>false
def RK:KV->jl
 | .arr V _ o _=>if Jj o then [V] else []
 | .lg V=>[V]
 | .agg cs=>cs.flatMap fun | .arr V _ o _=>if Jj o then [V] else [] | .lg V=>[V] | _=>[]
 | .jE H=>H.flatMap fun | .arr V _ o _=>if Jj o then [V] else [] | .lg V=>[V] | .agg cs=>cs.flatMap (fun | .arr V _ o _=>if Jj o then [V] else [] | .lg V=>[V] | _=>[]) | _=>[]
 | _=>[]
mutual
def Dz:Bu->KV->jl
 | .own _,x=>match x with | .arr V _ _ _=>[V] | _=>[]
 | .opt _,x=>match x with | .arr V _ _ _=>[V] | _=>[]
 | .jE l,x=>match x with | .jE H=>If l H | _=>[]
 | .agg l,x=>match x with | .agg H=>If l H | _=>[]
 | .cl,_=>[]
def If:List Bu->jn->jl
 | s :: l,x :: H=>Dz s x++If l H
 | _,_=>[]
end
mutual
def GS {R:Type} (σ:Nm->jy) (S:jl):Bu->KV->(W->Option R)->Option R
 | .cl,x,K=>match x.cl with
  | some u=>K u
  | none=>match x with
   | .jE H=>match EF H with
    | some us=>K (.jE us)
    | none=>if x.names.all fun V=>!S.contains V then Ae (A6 (x.close (D5 σ A7))) (K (x.close (D5 σ A7))) else none
   | _=>if x.names.all fun V=>!S.contains V then Ae (A6 (x.close (D5 σ A7))) (K (x.close (D5 σ A7))) else none
 | .own k,x,K=>match x with
  | .arr V k' o n=>match σ V with
   | some (.arr nx kt H)=>if k=k'/\k=nx/\Jj o=true then Ae (FF n (Ah H)) (K (.sl k H false)) else none
   | _=>none
  | _=>none
 | .opt k,x,K=>match x with
  | .arr V k' o n=>match σ V with
   | some (.arr nx kt H)=>if k=k'/\k=nx/\Jj o=true then Ae (FF n (Ah H)) (K (.sl k H false)) else none
   | _=>none
  | .kx=>K .jD
  | .cv v=>CU v (K .jD)
  | _=>none
 | .jE l,x,K=>match x with
  | .jE H=>IG σ S l H fun us=>K (.jE us)
  | _=>none
 | .agg l,x,K=>match x with
  | .agg H=>IG σ S l H fun us=>K (.agg us)
  | _=>none
def IG {R:Type} (σ:Nm->jy) (S:jl):List Bu->jn->(jh->Option R)->Option R
 | [],[],K=>K []
 | s :: l,x :: H,K=>GS σ S s x fun u=>IG σ S l H fun us=>K (u :: us)
 | _,_,_=>none
end
def M3 (shut:Bool) (v:KV):jl :=
 match shut with
 | true=>[]
 | false=>RK v
def Ql (ks:AJ) (shut:Bool) (sh:Bu) (v:KV) (K:W->Option R):Option R :=
 let σ:=Bw ks.jC
 let S:=M3 shut v
 let R:=HI σ A7 (v.names.filter fun V=>!S.contains V)
 if S=Dz sh v/\EJ S=true/\(S.all fun V=>!R.contains V)=true/\KR σ R=true then GS σ S sh v K else none
noncomputable def AH (cfg:ED) (fn:Au) (sh:Bu) (h:AA E) (dep:Nat) (args:jn) (e:E):Option (W×E) :=
 Eb {nt:=fn.nt,tmps:=args.zipIdx.map fun p=>(p.2,p.1),jC:=[],jG:=[]} fun ks=>DW cfg fn.code h dep ks e fun x ks e=>match x with
  | .exit _=>none
  | _=>KA ks fn.res fun vs=>Ql ks fn.shut sh (KC vs) fun v=>some (v,e)
def Nn:KV->Option Nm
 | .lg V=>some V
 | .arr V k o n=>if k=1/\o=0/\n=0 then some V else none
 | _=>none
def Mc (σ:Nm->jy) (B:List (Nm×Nm)) (V:Nm):Ak :=
 (((σ V).getD Hl).off fun m=>!(B.map (·.1)).contains m).jR fun m=>(B.lookup m).getD m
def QX (σ:Nm->jy) (zzc:List (Nm×Nm)) (v:KV):jl :=
 Et ((HI σ A7 (v.names++zzc.flatMap fun p=>((σ p.1).map Ak.names).getD [])).filter fun m=>!(zzc.map (·.1)).contains m)
def Kl (k:Nat) (sp:Sp):List (Nm×Nm):=(Fx k).zipIdx.map fun p=>((Nn (Bi sp p.2)).getD (0,p.2),p.1)
def QY (k:Nat) (sp:Sp):jl:=((Fx k).zipIdx.filter fun p=>(Nn (Bi sp p.2)).isNone).map (·.1)
def Om (p x:Ak):jh :=
 match x with
 | .whole _ v=>[.agg (DK v)]
 | x=>H2 p x
def N5:jq->jq->jh
 | x :: H,y :: ys=>Om x y++N5 H ys
 | _,_=>[]
def Pl (P:BY) (ks:AJ) (v:KV):Option jh :=
 match ks.jG with
 | [sp] =>
  let zzc:=Kl P.ins.length sp
  let N:=QX (Bw ks.jC) zzc v
  let B:=zzc++N.zipIdx.map fun p=>(p.1,(1,0+p.2))
  let u:=(v.off fun m=>!(B.map (·.1)).contains m).jR fun m=>(B.lookup m).getD m
  let os:=zzc.map fun p=>Mc (Bw ks.jC) B p.1
  let ns:=N.map (Mc (Bw ks.jC) B)
  if EJ (B.map (·.1))=true/\QY P.ins.length sp=P.gone.map (fun j=>(0,j))/\(Bz P.res u&&(Fw P.outs os&&Fw P.news ns))=true then
   some (CC P.res u++(N5 P.outs os++N5 P.news ns))
  else none
 | _=>none
noncomputable def DJ (cfg:ED) (fn:Au) (P:BY) (vs:jh):Option jh :=
 let a:=DM P.args vs 0
 let b:=DI P.ins vs a.2
 Eb {nt:=fn.nt,tmps:=a.1.zipIdx.map fun p=>(p.2,p.1),jC:=[(0,b.1)],jG:=[((List.range P.ins.length).filter fun j=>!fn.gone.contains j).map fun j=>(j,.lg (0,j))]} fun ks =>
 if En fn.code then DW (E:=Unit) cfg fn.code AI 0 ks () fun x ks _=>match x with
  | .exit _=>none
  | _=>KA ks fn.res fun vs=>Pl P ks (KC vs)
 else Gv cfg fn.nt fn.code ks fun x ks l=>match x with
  | .exit _=>none
  | _=>RZ cfg fn.nt l ks fun ks=>KA ks fn.res fun vs=>Pl P ks (KC vs)
end Go.Ab


namespace Go.Ab
variable{i:Nat} {v x:W} {ys:jh}
theorem FG {H:jh}:Ap H=true↔∀ x∈H,jN x=true:=by
 induction H with
 | nil=>simp[Ap]
 | cons x H ih=>simp[Ap,ih]
mutual
theorem FH:∀ {v:W},jN v=true->v.names=[]/\v.kf=false
 | .undef,_ | .bool _,_ | .int _ _,_ | .str _,_ | .jD,_ | .kB,_ | .jV,_ | .jK,_ | .kL,_ | .j8 _ _,_=>by simp[W.names,W.kf]
 | .sl _ H _,h=>by simp only[jN] at h;simp[W.names,W.kf,(DQ h).2]
 | .ptr cs _,h=>by simp only[jN] at h;simp[W.names,W.kf,(DQ h).2]
 | .ki es,h=>by simp only[jN] at h;simp[W.names,W.kf,(DQ h).2]
 | .agg cs,h=>by simp only[jN] at h;simp[W.names,W.kf,DQ h]
 | .fn _ cap,h=>by simp only[jN] at h;simp[W.names,W.kf,DQ h]
 | .jE H,h=>by simp only[jN] at h;simp[W.names,W.kf,DQ h]
 | .iface _ x,h=>by simp only[jN] at h;simp[W.names,W.kf,FH h]
 | .ke _,h | .ref _ _,h | .jQ _ _ _ _,h | .arr _ _ _ _,h | .mp _,h | .it _,h=>by simp[jN] at h
theorem DQ:∀ {H:jh},Ap H=true->AU H=[]/\BV H=false
 | [],_=>by simp[AU,BV]
 | x :: H,h=>by
  simp only[Ap,dF] at h;simp[AU,BV,FH h.1,DQ h.2]
end
theorem Kh (h:v.names=[]) (f:Nm->Option jk):v.sub f=v:=by rw[W.sub_congr (g:=fun _=>none) v (by rw[h];simp)];exact lN v
where
 lN:∀ (x:W),x.sub (fun _=>none)=x
  | .undef | .bool _ | .int _ _ | .str _ | .jD | .kB | .jV | .jK | .kL | .sl _ _ _ | .ptr _ _ | .ke _ | .ki _ | .j8 _ _ | .ref _ _ | .jQ _ _ _ _ | .arr _ _ _ _ | .mp _ | .it _=>by simp[W.sub]
  | .agg cs=>by simp[W.sub,kT cs]
  | .iface t x=>by simp[W.sub,lN x]
  | .fn g cap=>by simp[W.sub,kT cap]
  | .jE H=>by simp[W.sub,kT H]
 kT:∀ (H:jh),Bf (fun _=>none) H=H
  | []=>rfl
  | x :: H=>by simp[Bf,lN x,kT H]
mutual
theorem Lr:∀ {v:W},v.names=[]->∀ (f:Nm->Nm),v.jR f=v
 | .undef,_,_ | .bool _,_,_ | .int _ _,_,_ | .str _,_,_ | .jD,_,_ | .kB,_,_ | .jV,_,_ | .jK,_,_ | .kL,_,_ | .sl _ _ _,_,_ | .ptr _ _,_,_ | .ke _,_,_ | .ki _,_,_ | .j8 _ _,_,_=>by simp[W.jR]
 | .agg cs,h,f=>by simp[W.names] at h;simp[W.jR,Og h f]
 | .iface t x,h,f=>by simp[W.names] at h;simp[W.jR,Lr h f]
 | .fn g cap,h,f=>by simp[W.names] at h;simp[W.jR,Og h f]
 | .jE H,h,f=>by simp[W.names] at h;simp[W.jR,Og h f]
 | .ref _ _,h,_ | .jQ _ _ _ _,h,_ | .arr _ _ _ _,h,_ | .mp _,h,_ | .it _,h,_=>by simp[W.names] at h
theorem Og:∀ {H:jh},AU H=[]->∀ (f:Nm->Nm),BE f H=H
 | [],_,_=>rfl
 | x :: H,h,f=>by simp[AU] at h;simp[BE,Lr h.1 f,Og h.2 f]
end
mutual
def KV.ok:KV->Prop
 | .cv v=>jN v=true
 | .agg cs=>Bj cs
 | .iface _ x=>x.ok
 | .fn _ cap=>Bj cap
 | .jE H=>Bj H
 | .un | .sk | .lit _ | .kx | .ke _ | .ref _ _ | .jQ _ _ _ _ | .arr _ _ _ _ | .mp _ | .it _ | .lg _=>True
def Bj:jn->Prop
 | []=>True
 | x :: H=>x.ok/\Bj H
end
theorem DT {H:jn}:Bj H↔∀ x∈H,x.ok:=by
 induction H with
 | nil=>simp[Bj]
 | cons x H ih=>simp[Bj,ih]
theorem Fb (H:jn):AP H=H.map KV.pv:=by
 induction H with
 | nil=>rfl
 | cons x H ih=>simp[AP,ih]
mutual
theorem KV.kY:∀ {x:KV},x.ok->x.pv.names=x.names
 | .un,_ | .sk,_ | .lit _,_ | .kx,_ | .ke _,_ | .ref _ _,_ | .jQ _ _ _ _,_ | .arr _ _ _ _,_ | .mp _,_ | .it _,_ | .lg _,_=>by simp[KV.pv,W.names,KV.names,AU]
 | .cv v,h=>by simp[KV.pv,KV.names,(FH h).1]
 | .agg cs,h=>by simp[KV.pv,W.names,KV.names,GG h]
 | .iface t x,h=>by simp[KV.pv,W.names,KV.names,KV.kY (x:=x) h]
 | .fn f cap,h=>by simp[KV.pv,W.names,KV.names,GG h]
 | .jE H,h=>by simp[KV.pv,W.names,KV.names,GG h]
theorem GG:∀ {H:jn},Bj H->AU (AP H)=D4 H
 | [],_=>rfl
 | x :: H,h=>by simp[AP,AU,D4,KV.kY h.1,GG h.2]
end
mutual
theorem KV.sA:∀ {x:KV},x.ok->x.pv.kf=x.kf
 | .un,_ | .sk,_ | .lit _,_ | .kx,_ | .ke _,_ | .ref _ _,_ | .jQ _ _ _ _,_ | .arr _ _ _ _,_ | .mp _,_ | .it _,_ | .lg _,_=>by simp[KV.pv,W.kf,KV.kf,BV]
 | .cv v,h=>by simp[KV.pv,KV.kf,(FH h).2]
 | .agg cs,h=>by simp[KV.pv,W.kf,KV.kf,Lt h]
 | .iface t x,h=>by simp[KV.pv,W.kf,KV.kf,KV.sA (x:=x) h]
 | .fn f cap,h=>by simp[KV.pv,W.kf,KV.kf,Lt h]
 | .jE H,h=>by simp[KV.pv,W.kf,KV.kf,Lt h]
theorem Lt:∀ {H:jn},Bj H->BV (AP H)=Gt H
 | [],_=>rfl
 | x :: H,h=>by simp[AP,BV,Gt,KV.sA h.1,Lt h.2]
end
mutual
theorem KV.ld:∀ {x:KV} {v:W},x.cl=some v->x.pv=v
 | .lit b,v,h=>by simp[KV.cl] at h;simp[KV.pv,h]
 | .kx,v,h=>by simp[KV.cl] at h;simp[KV.pv,h]
 | .cv u,v,h=>by simp[KV.cl] at h;simp[KV.pv,h]
 | .agg cs,v,h=>by
  simp only[KV.cl,dG] at h;obtain⟨vs,hv,rfl⟩:=h;simp[KV.pv,KK hv]
 | .iface t x,v,h=>by
  simp only[KV.cl,dG] at h;obtain⟨u,hv,rfl⟩:=h;simp[KV.pv,KV.ld hv]
 | .fn f cap,v,h=>by
  simp only[KV.cl,dG] at h;obtain⟨vs,hv,rfl⟩:=h;simp[KV.pv,KK hv]
 | .un,v,h | .sk,v,h | .ke _,v,h | .ref _ _,v,h | .jQ _ _ _ _,v,h | .arr _ _ _ _,v,h | .mp _,v,h | .it _,v,h | .lg _,v,h | .jE _,v,h=>by simp[KV.cl] at h
theorem KK:∀ {H:jn} {vs:jh},EF H=some vs->AP H=vs
 | [],vs,h=>by simp[EF] at h;simp[AP,h]
 | x :: H,vs,h=>by
  simp only[EF] at h;split at h;{rename_i v us U O;cases h;simp[AP,KV.ld U,KK O]};{cases h}
end
mutual
theorem KV.lT:∀ {x:KV} {v:W},x.ok->x.cl=some v->jN v=true
 | .lit b,v,_,h=>by simp[KV.cl] at h;subst h;rfl
 | .kx,v,_,h=>by simp[KV.cl] at h;subst h;rfl
 | .cv u,v,A,h=>by simp[KV.cl] at h;subst h;exact A
 | .agg cs,v,A,h=>by
  simp only[KV.cl,dG] at h;obtain⟨vs,hv,rfl⟩:=h;simpa[jN] using JT (H:=cs) A hv
 | .iface t x,v,A,h=>by
  simp only[KV.cl,dG] at h;obtain⟨u,hv,rfl⟩:=h;simpa[jN] using KV.lT (x:=x) A hv
 | .fn f cap,v,A,h=>by
  simp only[KV.cl,dG] at h;obtain⟨vs,hv,rfl⟩:=h;simpa[jN] using JT (H:=cap) A hv
 | .un,v,_,h | .sk,v,_,h | .ke _,v,_,h | .ref _ _,v,_,h | .jQ _ _ _ _,v,_,h | .arr _ _ _ _,v,_,h | .mp _,v,_,h | .it _,v,_,h | .lg _,v,_,h | .jE _,v,_,h=>by simp[KV.cl] at h
theorem JT:∀ {H:jn} {vs:jh},Bj H->EF H=some vs->Ap vs=true
 | [],vs,_,h=>by simp[EF] at h;subst h;rfl
 | x :: H,vs,A,h=>by
  simp only[EF] at h;split at h;{rename_i v us U O;cases h;simp[Ap,KV.lT A.1 U,JT A.2 O]};{cases h}
end
def Jh (p:Nm->Bool):Nm->Option jk:=fun m=>if p m=true then some none else none
mutual
theorem KV.ph (p:Nm->Bool):∀ {x:KV},x.ok->(x.off p).pv=x.pv.sub (Jh p)
 | .un,_ | .sk,_ | .lit _,_ | .kx,_ | .ke _,_=>by simp[KV.off,KV.pv,W.sub,Bf]
 | .cv v,h=>by simp[KV.off,KV.pv,Kh (FH h).1]
 | .ref V _,_ | .jQ V _ _ _,_ | .arr V _ _ _,_ | .mp V,_ | .it V,_ | .lg V,_=>by
  simp only[KV.off,KV.pv,W.sub,Jh];cases hp:p V<;>simp[KV.pv]
 | .agg cs,h=>by simp[KV.off,KV.pv,W.sub,OP p h]
 | .iface t x,h=>by simp[KV.off,KV.pv,W.sub,KV.ph p (x:=x) h]
 | .fn f cap,h=>by simp[KV.off,KV.pv,W.sub,OP p h]
 | .jE H,h=>by simp[KV.off,KV.pv,W.sub,OP p h]
theorem OP (p:Nm->Bool):∀ {H:jn},Bj H->AP (K4 p H)=Bf (Jh p) (AP H)
 | [],_=>rfl
 | x :: H,h=>by simp[K4,AP,Bf,KV.ph p h.1,OP p h.2]
end
mutual
theorem KV.mo (p:Nm->Bool):∀ {x:KV},x.ok->(x.off p).ok
 | .un,_ | .sk,_ | .lit _,_ | .kx,_ | .ke _,_=>by simp[KV.off,KV.ok]
 | .cv v,h=>by simpa[KV.off,KV.ok] using h
 | .ref V _,_ | .jQ V _ _ _,_ | .arr V _ _ _,_ | .mp V,_ | .it V,_ | .lg V,_=>by
  simp only[KV.off];cases hp:p V<;>simp[KV.ok]
 | .agg cs,h=>by simpa[KV.off,KV.ok] using OQ p h
 | .iface t x,h=>by simpa[KV.off,KV.ok] using KV.mo p (x:=x) h
 | .fn f cap,h=>by simpa[KV.off,KV.ok] using OQ p h
 | .jE H,h=>by simpa[KV.off,KV.ok] using OQ p h
theorem OQ (p:Nm->Bool):∀ {H:jn},Bj H->Bj (K4 p H)
 | [],_=>trivial
 | x :: H,h=>⟨KV.mo p h.1,OQ p h.2⟩
end
mutual
theorem KV.pj (f:Nm->Nm):∀ {x:KV},x.ok->(x.jR f).pv=x.pv.jR f
 | .un,_ | .sk,_ | .lit _,_ | .kx,_ | .ke _,_ | .ref _ _,_ | .jQ _ _ _ _,_ | .arr _ _ _ _,_ | .mp _,_ | .it _,_ | .lg _,_=>by simp[KV.jR,KV.pv,W.jR,BE]
 | .cv v,h=>by simp[KV.jR,KV.pv,Lr (FH h).1]
 | .agg cs,h=>by simp[KV.jR,KV.pv,W.jR,MX f h]
 | .iface t x,h=>by simp[KV.jR,KV.pv,W.jR,KV.pj f (x:=x) h]
 | .fn g cap,h=>by simp[KV.jR,KV.pv,W.jR,MX f h]
 | .jE H,h=>by simp[KV.jR,KV.pv,W.jR,MX f h]
theorem MX (f:Nm->Nm):∀ {H:jn},Bj H->AP (GA f H)=BE f (AP H)
 | [],_=>rfl
 | x :: H,h=>by simp[GA,AP,BE,KV.pj f h.1,MX f h.2]
end
mutual
theorem KV.kZ (f:Nm->Nm):∀ {x:KV},x.ok->(x.jR f).ok
 | .un,_ | .sk,_ | .lit _,_ | .kx,_ | .ke _,_ | .ref _ _,_ | .jQ _ _ _ _,_ | .arr _ _ _ _,_ | .mp _,_ | .it _,_ | .lg _,_=>by simp[KV.jR,KV.ok]
 | .cv v,h=>by simpa[KV.jR,KV.ok] using h
 | .agg cs,h=>by simpa[KV.jR,KV.ok] using MR f h
 | .iface t x,h=>by simpa[KV.jR,KV.ok] using KV.kZ f (x:=x) h
 | .fn g cap,h=>by simpa[KV.jR,KV.ok] using MR f h
 | .jE H,h=>by simpa[KV.jR,KV.ok] using MR f h
theorem MR (f:Nm->Nm):∀ {H:jn},Bj H->Bj (GA f H)
 | [],_=>trivial
 | x :: H,h=>⟨KV.kZ f h.1,MR f h.2⟩
end
def Fz (g:Nm->jk):Nm->Option jk:=fun m=>some (g m)
mutual
theorem KV.lU (g:Nm->jk):∀ {x:KV},x.ok->x.close g=x.pv.sub (Fz g)
 | .un,_ | .sk,_ | .lit _,_ | .kx,_ | .ke _,_=>by simp[KV.close,KV.pv,W.sub,Bf]
 | .cv v,h=>by simp[KV.close,KV.pv,Kh (FH h).1]
 | .ref V o,_=>by
  simp only[KV.close,KV.pv,W.sub,Fz];cases g V with
  | none=>rfl
  | some ob=>cases ob<;>simp[GX]
 | .jQ V k i o,_=>by
  simp only[KV.close,KV.pv,W.sub,Fz];cases g V with
  | none=>rfl
  | some ob =>
   cases ob with
   | arr k' kt H =>
    simp only[ye];by_cases hk:k=k';{simp only[hk,iH];cases H[i]?<;>rfl};{simp[hk]}
   | _=>rfl
 | .arr V k o n,_=>by
  simp only[KV.close,KV.pv,W.sub,Fz];cases g V with
  | none=>rfl
  | some ob=>cases ob<;>simp[AB]
 | .mp V,_=>by
  simp only[KV.close,KV.pv,W.sub,Fz];cases g V with
  | none=>rfl
  | some ob=>cases ob<;>rfl
 | .it V,_=>by simp[KV.close,KV.pv,W.sub,Fz]
 | .lg V,_=>by
  simp only[KV.close,KV.pv,W.sub,Fz];cases g V with
  | none=>rfl
  | some ob=>cases ob<;>simp[AB]
 | .agg cs,h=>by simp[KV.close,KV.pv,W.sub,MJ g h]
 | .iface t x,h=>by simp[KV.close,KV.pv,W.sub,KV.lU g (x:=x) h]
 | .fn f cap,h=>by simp[KV.close,KV.pv,W.sub,MJ g h]
 | .jE H,h=>by simp[KV.close,KV.pv,W.sub,MJ g h]
theorem MJ (g:Nm->jk):∀ {H:jn},Bj H->GQ g H=Bf (Fz g) (AP H)
 | [],_=>rfl
 | x :: H,h=>by simp[GQ,AP,Bf,KV.lU g h.1,MJ g h.2]
end
def Fc (p:Nm->Bool) (g:Nm->jk):Nm->Option jk:=fun m=>if p m=true then some (g m) else none
mutual
theorem KV.qs (p:Nm->Bool) (g:Nm->jk):∀ {x:KV},x.ok->(x.kj p g).pv=x.pv.sub (Fc p g)
 | .un,_ | .sk,_ | .lit _,_ | .kx,_ | .ke _,_=>by simp[KV.kj,KV.pv,W.sub,Bf]
 | .cv v,h=>by simp[KV.kj,KV.pv,Kh (FH h).1]
 | .ref V o,_=>by
  cases hp:p V with
  | false=>simp[KV.kj,hp,KV.pv,W.sub,Fc]
  | true =>
   have:=KV.lU g (x:=.ref V o) trivial;simp only[KV.kj,hp,iH,KV.pv];rw[this];simp[KV.pv,W.sub,Fc,Fz,hp]
 | .jQ V k i o,_=>by
  cases hp:p V with
  | false=>simp[KV.kj,hp,KV.pv,W.sub,Fc]
  | true =>
   have:=KV.lU g (x:=.jQ V k i o) trivial;simp only[KV.kj,hp,iH,KV.pv];rw[this];simp[KV.pv,W.sub,Fc,Fz,hp]
 | .arr V k o n,_=>by
  cases hp:p V with
  | false=>simp[KV.kj,hp,KV.pv,W.sub,Fc]
  | true =>
   have:=KV.lU g (x:=.arr V k o n) trivial;simp only[KV.kj,hp,iH,KV.pv];rw[this];simp[KV.pv,W.sub,Fc,Fz,hp]
 | .mp V,_=>by
  cases hp:p V with
  | false=>simp[KV.kj,hp,KV.pv,W.sub,Fc]
  | true =>
   have:=KV.lU g (x:=.mp V) trivial;simp only[KV.kj,hp,iH,KV.pv];rw[this];simp[KV.pv,W.sub,Fc,Fz,hp]
 | .it V,_=>by
  cases hp:p V with
  | false=>simp[KV.kj,hp,KV.pv,W.sub,Fc]
  | true=>simp[KV.kj,hp,KV.pv,W.sub,Fc]
 | .lg V,_=>by
  cases hp:p V with
  | false=>simp[KV.kj,hp,KV.pv,W.sub,Fc]
  | true =>
   have:=KV.lU g (x:=.lg V) trivial;simp only[KV.kj,hp,iH,KV.pv];rw[this];simp[KV.pv,W.sub,Fc,Fz,hp]
 | .agg cs,h=>by simp[KV.kj,KV.pv,W.sub,OY p g h]
 | .iface t x,h=>by simp[KV.kj,KV.pv,W.sub,KV.qs p g (x:=x) h]
 | .fn f cap,h=>by simp[KV.kj,KV.pv,W.sub,OY p g h]
 | .jE H,h=>by simp[KV.kj,KV.pv,W.sub,OY p g h]
theorem OY (p:Nm->Bool) (g:Nm->jk):∀ {H:jn},Bj H->AP (K6 p g H)=Bf (Fc p g) (AP H)
 | [],_=>rfl
 | x :: H,h=>by simp[K6,AP,Bf,KV.qs p g h.1,OY p g h.2]
end
def Ob.shut (o:Ob):Prop :=
 match o with
 | .cells _ cs=>Ap cs=true
 | .arr _ _ H=>Ap H=true
 | .map es=>Ap es=true
 | .jT _ _=>True
theorem Eo (h:jN v=true):Ap v.cells=true:=by cases v<;>simp_all [W.cells,Ap,jN]
theorem QW {H:jh} (h:Ap H=true) (hs:∀ y∈ys,y∈H):Ap ys=true:=FG.2 fun y hy=>FG.1 h y (hs y hy)
theorem Iv {H:jh} (h:Ap H=true) (n:Nat):Ap (H.take n)=true:=QW h fun _ hy=>eE hy
theorem Js {H:jh} (h:Ap H=true) (n:Nat):Ap (H.drop n)=true:=QW h fun _ hy=>e8 hy
theorem I5 {H:jh} (h:Ap H=true) (h':Ap ys=true):Ap (H++ys)=true :=
 FG.2 fun y hy=>(dX.1 hy).elim (FG.1 h y) (FG.1 h' y)
theorem I9 {H:jh} (h:Ap H=true) (A:H[i]?=some x):jN x=true:=FG.1 h x (d9 A)
theorem X2 {H:jh} (h:Ap H=true) (i:Nat) (A:jN x=true):Ap (H.set i x)=true :=
 FG.2 fun y hy=>(gy hy).elim (FG.1 h y) fun e=>e ▸ A
mutual
theorem KV.lD {g:Nm->jk} (hg:∀ V ob,g V=some ob->ob.shut):∀ {x:KV},x.ok->x.kf=false->jN (x.close g)=true
 | .un,_,_ | .sk,_,_ | .lit _,_,_ | .kx,_,_=>by simp[KV.close,jN,Ap]
 | .ke _,_,h=>by simp[KV.kf] at h
 | .cv v,h,_=>by have:jN v=true:=h;simpa[KV.close] using this
 | .ref V o,_,_=>by
  simp only[KV.close];cases hn:g V with
  | none=>rfl
  | some ob =>
   cases ob with
   | cells ty cs =>
    have:Ap cs=true:=hg _ _ hn;simp only[GX];split;{simpa[jN] using this};{rfl}
   | _=>rfl
 | .jQ V k i o,_,_=>by
  simp only[KV.close];cases hn:g V with
  | none=>rfl
  | some ob =>
   cases ob with
   | arr k' kt H =>
    have:Ap H=true:=hg _ _ hn;simp only[ye];split;{split;{rename_i x A;split;{simpa[jN] using Eo (I9 this A)};{rfl}};{rfl}};{rfl}
   | _=>rfl
 | .arr V k o n,_,_=>by
  simp only[KV.close];cases hn:g V with
  | none=>rfl
  | some ob =>
   cases ob with
   | arr k' kt H =>
    have:Ap H=true:=hg _ _ hn;simp only[AB];split;{simpa[jN] using Iv (Js this o) n};{rfl}
   | _=>rfl
 | .mp V,_,_=>by
  simp only[KV.close];cases hn:g V with
  | none=>rfl
  | some ob =>
   cases ob with
   | map es =>
    have:Ap es=true:=hg _ _ hn;simpa[jN] using this
   | _=>rfl
 | .it V,_,_=>by simp[KV.close,jN,W.names,W.kf]
 | .lg V,_,_=>by
  simp only[KV.close];cases hn:g V with
  | none=>rfl
  | some ob =>
   cases ob with
   | arr k' kt H =>
    have:Ap H=true:=hg _ _ hn;simp only[AB];split;{simpa[jN] using Iv (Js this 0) 0};{rfl}
   | _=>rfl
 | .agg cs,h,hy=>by simpa[KV.close,jN] using Kg hg (H:=cs) h (by simpa[KV.kf] using hy)
 | .iface t x,h,hy=>by simpa[KV.close,jN] using KV.lD hg (x:=x) h (by simpa[KV.kf] using hy)
 | .fn f cap,h,hy=>by simpa[KV.close,jN] using Kg hg (H:=cap) h (by simpa[KV.kf] using hy)
 | .jE H,h,hy=>by simpa[KV.close,jN] using Kg hg (H:=H) h (by simpa[KV.kf] using hy)
theorem Kg {g:Nm->jk} (hg:∀ V ob,g V=some ob->ob.shut):∀ {H:jn},Bj H->Gt H=false->Ap (GQ g H)=true
 | [],_,_=>rfl
 | x :: H,h,hy=>by
  simp only[Gt,fP] at hy;simp[GQ,Ap,KV.lD hg h.1 hy.1,Kg hg h.2 hy.2]
end
mutual
theorem KV.nU {p:Nm->Bool} {g:Nm->jk} (hg:∀ V ob,g V=some ob->ob.shut):∀ {x:KV},x.ok->(x.kj p g).ok
 | .un,_ | .sk,_ | .lit _,_ | .kx,_ | .ke _,_=>by simp[KV.kj,KV.ok]
 | .cv v,h=>by simpa[KV.kj,KV.ok] using h
 | .ref V o,_=>by
  simp only[KV.kj];split;{exact KV.lD hg (x:=.ref V o) trivial rfl};{trivial}
 | .jQ V k i o,_=>by
  simp only[KV.kj];split;{exact KV.lD hg (x:=.jQ V k i o) trivial rfl};{trivial}
 | .arr V k o n,_=>by
  simp only[KV.kj];split;{exact KV.lD hg (x:=.arr V k o n) trivial rfl};{trivial}
 | .mp V,_=>by
  simp only[KV.kj];split;{exact KV.lD hg (x:=.mp V) trivial rfl};{trivial}
 | .it V,_=>by
  simp only[KV.kj];split<;>trivial
 | .lg V,_=>by
  simp only[KV.kj];split;{exact KV.lD hg (x:=.lg V) trivial rfl};{trivial}
 | .agg cs,h=>by simpa[KV.kj,KV.ok] using OZ hg h
 | .iface t x,h=>by simpa[KV.kj,KV.ok] using KV.nU hg (x:=x) h
 | .fn f cap,h=>by simpa[KV.kj,KV.ok] using OZ hg h
 | .jE H,h=>by simpa[KV.kj,KV.ok] using OZ hg h
theorem OZ {p:Nm->Bool} {g:Nm->jk} (hg:∀ V ob,g V=some ob->ob.shut):∀ {H:jn},Bj H->Bj (K6 p g H)
 | [],_=>trivial
 | x :: H,h=>⟨KV.nU hg h.1,OZ hg h.2⟩
end
end Go.Ab


namespace Go.Ab
variable{f:KV->KV} {g:Nm->Option jk} {i j nt:Nat} {l:Sp} {V:Nm} {o:Ak} {p:Nat×KV} {v:KV}
theorem DH (h:Nat.beq i j=true):i=j:=fQ h
theorem Hx (h:Nat.beq i j=false):i≠j:=Nat.ne_of_beq_eq_false h
theorem To (i:Nat) (v:KV):∀ (l:Sp) (j:Nat),Bi (DV i v l) j=if j=i then v else Bi l j:=by
 intro l;induction l with
 | nil =>
  intro j;simp only[DV,Bi];cases h:Nat.beq j i with
  | true=>simp[DH h]
  | false=>simp[Hx h]
 | cons p l ih =>
  obtain⟨k,u⟩:=p;intro j;simp only[DV];cases h:Nat.beq i k with
  | true =>
   have:=DH h;subst this;simp only[Bi];cases O:Nat.beq j i with
   | true=>simp[DH O]
   | false=>simp[Hx O]
  | false =>
   cases h3:Nat.blt i k with
   | true =>
    simp only[Bi];cases O:Nat.beq j i with
    | true=>simp[DH O]
    | false=>simp[Hx O]
   | false =>
    simp only[Bi];cases O:Nat.beq j k with
    | true =>
     have h4:=DH O;have h5:=Hx h;subst h4;simp[eH h5]
    | false=>exact ih j
theorem tP (i:Nat):∀ (l:Sp) (j:Nat),Bi (KQ i l) j=if j=i then .un else Bi l j:=by
 intro l;induction l with
 | nil=>intro j;simp[KQ,Bi]
 | cons p l ih =>
  obtain⟨k,u⟩:=p;intro j;simp only[KQ];cases h:Nat.beq i k with
  | true =>
   have:=DH h;subst this;simp only[Bi];rw[ih j];cases O:Nat.beq j i with
   | true=>simp[DH O]
   | false=>simp[Hx O]
  | false =>
   simp only[Bi];cases O:Nat.beq j k with
   | true =>
    have h4:=DH O;have h5:=Hx h;subst h4;simp[eH h5]
   | false=>exact ih j
theorem tQ (i:Nat) (v:KV) (l:Sp) (j:Nat):Bi (Nw i v l) j=if j=i then v else Bi l j:=by unfold Nw;split;{exact tP i l j};{exact To i v l j}
theorem bt (p:Nat->Bool):∀ (l:Sp) (j:Nat),Bi (GM p l) j=if p j=true then Bi l j else .un:=by
 intro l;induction l with
 | nil=>intro j;simp[GM,Bi]
 | cons q l ih =>
  obtain⟨k,u⟩:=q;intro j;simp only[GM];cases hp:p k with
  | true =>
   simp only[Bi];cases O:Nat.beq j k with
   | true=>have:=DH O;subst this;simp[hp]
   | false=>exact ih j
  | false =>
   simp only[Bi];rw[ih j];cases O:Nat.beq j k with
   | true=>have:=DH O;subst this;simp[hp]
   | false=>rfl
def FP:KV->Bool
 | .un=>true
 | _=>false
structure Cb (nt:Nat) (l:Sp):Prop where
 pE:(l.map (·.1)).Pairwise (· < ·)
 lt:∀ p∈l,p.1 < nt
 ok:∀ p∈l,p.2.ok
 nu:∀ p∈l,FP p.2=false
theorem Cb.nil (nt:Nat):Cb nt []:=⟨.nil,by simp,by simp,by simp⟩
theorem Cb.tail (h:Cb nt (p :: l)):Cb nt l :=
 ⟨(fc.1 h.pE).2,fun q hq=>h.lt q (by simp[hq]),fun q hq=>h.ok q (by simp[hq]),fun q hq=>h.nu q (by simp[hq])⟩
theorem Tp (h:∀ p∈l,p.1≠i):Bi l i=.un:=by
 induction l with
 | nil=>rfl
 | cons p l ih =>
  obtain⟨k,u⟩:=p;simp only[Bi];cases O:Nat.beq i k with
  | true=>exact iW (DH O).symm (h (k,u) (by simp))
  | false=>exact ih fun q hq=>h q (by simp[hq])
theorem Cb.get_mem (h:Cb nt l) (hp:p∈l):Bi l p.1=p.2:=by
 induction l with
 | nil=>cases hp
 | cons q l ih =>
  obtain⟨k,u⟩:=q;simp only[Bi];rcases dM.1 hp with rfl | hp';{simp}
  ·have U:=(fc.1 h.pE).1 p.1 (dJ.2 ⟨p,hp',rfl⟩);simp only at U;cases O:Nat.beq p.1 k with
   | true=>have:=DH O;omega
   | false=>exact ih h.tail hp'
theorem Oc (h:Bi l i≠.un):(i,Bi l i)∈l:=by
 induction l with
 | nil=>exact iW rfl h
 | cons p l ih =>
  obtain⟨k,u⟩:=p;simp only[Bi] at h |-;cases O:Nat.beq i k with
  | true=>have:=DH O;subst this;simp
  | false=>rw[O] at h;simp only at h |-;exact dZ _ (ih h)
theorem XM (x:KV):x=.un\/x≠.un:=by cases x<;>simp
theorem Cb.kP (h:Cb nt l) (i:Nat):(Bi l i).ok:=by rcases XM (Bi l i) with U | U;{rw[U];trivial};{exact h.ok _ (Oc U)}
theorem Cb.nV (h:Cb nt l) (hi:nt<=i):Bi l i=.un:=by rcases XM (Bi l i) with U | U;{exact U};{have:=h.lt _ (Oc U);simp only at this;omega}
theorem Qc:∀ {l:Sp} {p:Nat×KV},p∈DV i v l->p=(i,v)\/p∈l:=by
 intro l;induction l with
 | nil=>intro p hp;simp[DV] at hp;exact .inl hp
 | cons q l ih =>
  obtain⟨k,u⟩:=q;intro p hp;simp only[DV] at hp;cases h:Nat.beq i k with
  | true =>
   rw[h] at hp;simp only[dM] at hp |-;rcases hp with rfl | hp;{exact .inl rfl};{exact .inr (.inr hp)}
  | false =>
   rw[h] at hp;cases h3:Nat.blt i k with
   | true =>
    rw[h3] at hp;simp only[dM] at hp |-;rcases hp with rfl | hp | hp;{exact .inl rfl};{exact .inr (.inl hp)};{exact .inr (.inr hp)}
   | false =>
    rw[h3] at hp;simp only[dM] at hp |-;rcases hp with rfl | hp;{exact .inr (.inl rfl)};{exact (ih hp).imp id .inr}
theorem tR:∀ {l:Sp},(l.map (·.1)).Pairwise (· < ·)->((DV i v l).map (·.1)).Pairwise (· < ·):=by
 intro l;induction l with
 | nil=>intro _;simp[DV]
 | cons q l ih =>
  obtain⟨k,u⟩:=q;intro h;have U:=fc.1 h;simp only[DV];cases O:Nat.beq i k with
  | true =>
   have:=DH O;subst this;exact fc.2 ⟨U.1,U.2⟩
  | false =>
   cases h3:Nat.blt i k with
   | true =>
    have h4:i < k:=by simpa[ff] using h3
    refine fc.2 ⟨fun a ha=>?_,h⟩;simp only[dI,dM] at ha;rcases ha with rfl | ha;{exact h4};{exact Nat.lt_trans h4 (U.1 a ha)}
   | false =>
    have h5:=Hx O;have h4:¬ i < k:=by intro h6;rw[show Nat.blt i k=true by simpa[ff] using h6] at h3;cases h3
    refine fc.2 ⟨fun a ha=>?_,ih U.2⟩;obtain⟨p,hp,rfl⟩:=dJ.1 ha;rcases Qc hp with rfl | hp;{simp only;omega};{exact U.1 _ (dJ.2 ⟨p,hp,rfl⟩)}
theorem Cb.put (h:Cb nt l) (hi:i < nt) (hv:v.ok) (hu:FP v=false):Cb nt (DV i v l) where
 pE:=tR h.pE
 lt p hp:=(Qc hp).elim (fun e=>by rw[e];exact hi) (h.lt p)
 ok p hp:=(Qc hp).elim (fun e=>by rw[e];exact hv) (h.ok p)
 nu p hp:=(Qc hp).elim (fun e=>by rw[e];exact hu) (h.nu p)
theorem tS (i:Nat):∀ (l:Sp),(KQ i l).Sublist l:=by
 intro l;induction l with
 | nil=>exact .slnil
 | cons q l ih =>
  obtain⟨k,u⟩:=q;simp only[KQ];cases Nat.beq i k with
  | true=>exact .cons _ ih
  | false=>exact .cons_cons _ ih
theorem br (p:Nat->Bool):∀ (l:Sp),(GM p l).Sublist l:=by
 intro l;induction l with
 | nil=>exact .slnil
 | cons q l ih =>
  obtain⟨k,u⟩:=q;simp only[GM];cases p k with
  | true=>exact .cons_cons _ ih
  | false=>exact .cons _ ih
theorem Cb.sub {l':Sp} (h:Cb nt l) (hs:l'.Sublist l):Cb nt l' :=
 ⟨h.pE.sublist (hs.map _),fun p hp=>h.lt p (hs.subset hp),fun p hp=>h.ok p (hs.subset hp),fun p hp=>h.nu p (hs.subset hp)⟩
theorem Cb.set (h:Cb nt l) (hi:i < nt) (hv:v.ok):Cb nt (Nw i v l):=by unfold Nw;split;{exact h.sub (tS i l)};{rename_i hu;refine h.put hi hv ?_;cases v<;>simp_all [FP]}
theorem bq (f:KV->KV):∀ (l:Sp),((EL f l).map (·.1)).Sublist (l.map (·.1)):=by
 intro l;induction l with
 | nil=>exact .slnil
 | cons q l ih =>
  obtain⟨k,u⟩:=q;simp only[EL];split;{exact .cons _ ih};{exact .cons_cons _ ih}
theorem Qd:∀ {l:Sp} {p:Nat×KV},p∈EL f l->∃ q∈l,p=(q.1,f q.2)/\FP p.2=false:=by
 intro l;induction l with
 | nil=>intro p hp;cases hp
 | cons q l ih =>
  obtain⟨k,u⟩:=q;intro p hp;simp only[EL] at hp;split at hp;{obtain⟨q,hq,h⟩:=ih hp;exact⟨q,by simp[hq],h⟩};{rename_i jW;rcases dM.1 hp with rfl | hp;{exact⟨(k,u),by simp,rfl,by cases hf:f u<;>simp_all [FP]⟩};{obtain⟨q,hq,h⟩:=ih hp;exact⟨q,by simp[hq],h⟩}}
theorem Cb.map (h:Cb nt l) (hf:∀ x:KV,x.ok->(f x).ok):Cb nt (EL f l) where
 pE:=h.pE.sublist (bq f l)
 lt p hp:=by obtain⟨q,hq,rfl,_⟩:=Qd hp;exact h.lt q hq
 ok p hp:=by obtain⟨q,hq,rfl,_⟩:=Qd hp;exact hf _ (h.ok q hq)
 nu p hp:=by obtain⟨q,hq,_,h⟩:=Qd hp;exact h
theorem WU (hf:f .un=.un):∀ {l:Sp} (_:Cb nt l) (i:Nat),Bi (EL f l) i=f (Bi l i):=by
 intro l;induction l with
 | nil=>intro _ i;simp[EL,Bi,hf]
 | cons q l ih =>
  obtain⟨k,u⟩:=q;intro h i;have U:=fc.1 h.pE;simp only[EL,Bi];split
  ·rename_i hu;cases O:Nat.beq i k with
   | true =>
    have:=DH O;subst this;simp only
    rw[hu];refine Tp fun p hp=>?_;obtain⟨q,hq,rfl,_⟩:=Qd hp;have:=U.1 q.1 (dJ.2 ⟨q,hq,rfl⟩);simp only at this |-;omega
   | false=>exact ih h.tail i
  ·simp only[Bi];cases O:Nat.beq i k with
   | true=>rfl
   | false=>exact ih h.tail i
theorem tU:Hi l i=true↔∃ p∈l,p.1=i:=by
 induction l with
 | nil=>simp[Hi]
 | cons q l ih =>
  obtain⟨k,u⟩:=q;simp only[Hi];cases O:Nat.beq i k with
  | true=>simp[DH O]
  | false=>simp[ih,eH (Hx O)]
theorem ai:V∈Gk l↔∃ p∈l,V∈p.2.names:=by
 induction l with
 | nil=>simp[Gk]
 | cons q l ih=>obtain⟨k,u⟩:=q;simp[Gk,ih]
theorem Cb.sB (h:Cb nt l) (i:Nat):Hi l i=true↔Bi l i≠.un:=by rw[tU];constructor;{rintro ⟨p,hp,rfl⟩ hu;rw[h.get_mem hp] at hu;have:=h.nu p hp;rw[hu] at this;cases this};{intro hu;exact⟨_,Oc hu,rfl⟩}
theorem j7 (nt:Nat) (l:Sp) (i:Nat):(BQ nt l)[i]?=if i < nt then some (Bi l i).pv else none:=by unfold BQ;rw[dT];split;{rename_i h;rw[fA h];rfl};{rename_i h;rw[ew (by simpa using h)];rfl}
theorem E7 (nt:Nat) (l:Sp):(BQ nt l).length=nt:=by simp[BQ]
theorem Li (h:Cb nt l) (i:Nat):(BQ nt l).getD i .undef=(Bi l i).pv:=by rw[dO,j7];split;{rfl};{rename_i hi;rw[h.nV (by omega)];rfl}
theorem Lp {H:jh} (hl:H.length=nt) (h:∀ i,i < nt->H[i]?=some (Bi l i).pv):BQ nt l=H:=by apply eO;intro i;rw[j7];split;{rename_i hi;exact (h i hi).symm};{rename_i hi;rw[ew (by omega)]}
theorem XD (d:Nat) (v:KV):BQ nt (Nw d v l)=(BQ nt l).set d v.pv:=by refine Lp (by simp[E7]) fun i hi=>?_;rw[gr,E7,j7,tQ];by_cases h:d=i;{subst h;simp[hi]};{simp[h,eH h,hi]}
theorem Qw (d:Nat) (v:KV):BQ nt (DV d v l)=(BQ nt l).set d v.pv:=by refine Lp (by simp[E7]) fun i hi=>?_;rw[gr,E7,j7,To];by_cases h:d=i;{subst h;simp[hi]};{simp[h,eH h,hi]}
theorem Qx (h:Cb nt l) (hu:f .un=.un) (hf:∀ x:KV,x.ok->(f x).pv=x.pv.sub g) :
  BQ nt (EL f l)=Bf g (BQ nt l):=by
 refine Lp (by rw[PS,E7]) fun i hi=>?_;rw[pz,j7,WU hu h,iJ hi,hf _ (h.kP i)];rfl
theorem av (f:Nm->Nm) (H:jh):(BE f H).length=H.length:=by
 induction H with
 | nil=>rfl
 | cons x H ih=>simp[BE,ih]
theorem pF (f:Nm->Nm) (H:jh) (i:Nat):(BE f H)[i]?=(H[i]?).map (W.jR f):=by
 induction H generalizing i with
 | nil=>rfl
 | cons x H ih=>cases i<;>simp[BE,ih]
theorem Qv (h:Cb nt l) (f:Nm->Nm):BQ nt (EL (KV.jR f) l)=BE f (BQ nt l):=by refine Lp (by rw[av,E7]) fun i hi=>?_;rw[pF,j7,WU (by simp[KV.jR]) h,iJ hi,KV.pj f (h.kP i)];rfl
theorem PY (h:Cb nt l) (V:Nm):V∈AU (BQ nt l)↔V∈Gk l:=by
 have hm:∀ (H:jh),V∈AU H↔∃ x∈H,V∈x.names:=by
  intro H;induction H with
  | nil=>simp[AU]
  | cons x H ih=>simp[AU,ih]
 rw[hm,ai];constructor
 ·rintro ⟨x,A,hn⟩;obtain⟨i,hi⟩:=List.getElem?_of_mem A;rw[j7] at hi;split at hi
  ·cases hi;rw[KV.kY (h.kP i)] at hn;have jW:Bi l i≠.un:=by intro hu;rw[hu] at hn;simp[KV.names] at hn
   exact⟨_,Oc jW,hn⟩
  {cases hi}
 {rintro ⟨p,hp,hn⟩;have:=h.get_mem hp;refine⟨p.2.pv,d9 (i:=p.1) ?_,?_⟩;{rw[j7,iJ (h.lt p hp),this]};{rw[KV.kY (h.ok p hp)];exact hn}}
def Ak.ok:Ak->Prop
 | .cells _ cs=>Bj cs
 | .whole _ v=>jN v=true
 | .arr _ _ H=>Ap H=true
 | .map es=>Ap es=true
 | .jT _ _=>True
structure B1 (nt:Nat) (l:Bl):Prop where
 pE:(l.map (·.1)).Pairwise (· < ·)
 lt:∀ p∈l,p.1 < nt
 ok:∀ p∈l,∀ o∈p.2,o.ok
theorem B1.nil (nt:Nat):B1 nt []:=⟨.nil,by simp,by simp⟩
variable{l:Bl} {p:Nat×jq}
theorem B1.tail (h:B1 nt (p :: l)):B1 nt l :=
 ⟨(fc.1 h.pE).2,fun q hq=>h.lt q (by simp[hq]),fun q hq=>h.ok q (by simp[hq])⟩
theorem Ak.me (h:o.ok):o.ob.names=o.names:=by
 cases o with
 | cells ty cs=>exact GG h
 | whole ty v=>exact (DQ (Eo h)).1
 | _=>rfl
theorem tV (i:Nat) (v:jq):∀ (l:Bl) (j:Nat),Bo (FA i v l) j=if j=i then v else Bo l j:=by
 intro l;induction l with
 | nil =>
  intro j;simp only[FA,Bo];cases h:Nat.beq j i with
  | true=>simp[DH h]
  | false=>simp[Hx h]
 | cons p l ih =>
  obtain⟨k,u⟩:=p;intro j;simp only[FA];cases h:Nat.beq i k with
  | true =>
   have:=DH h;subst this;simp only[Bo];cases O:Nat.beq j i with
   | true=>simp[DH O]
   | false=>simp[Hx O]
  | false =>
   cases h3:Nat.blt i k with
   | true =>
    simp only[Bo];cases O:Nat.beq j i with
    | true=>simp[DH O]
    | false=>simp[Hx O]
   | false =>
    simp only[Bo];cases O:Nat.beq j k with
    | true =>
     have h4:=DH O;have h5:=Hx h;subst h4;simp[eH h5]
    | false=>exact ih j
theorem bx (p:Nat->Bool):∀ (l:Bl) (j:Nat),Bo (Kw p l) j=if p j=true then Bo l j else []:=by
 intro l;induction l with
 | nil=>intro j;simp[Kw,Bo]
 | cons q l ih =>
  obtain⟨k,u⟩:=q;intro j;simp only[Kw];cases hp:p k with
  | true =>
   simp only[Bo];cases O:Nat.beq j k with
   | true=>have:=DH O;subst this;simp[hp]
   | false=>exact ih j
  | false =>
   simp only[Bo];rw[ih j];cases O:Nat.beq j k with
   | true=>have:=DH O;subst this;simp[hp]
   | false=>rfl
theorem tW (f:Ak->Ak):∀ (l:Bl) (j:Nat),Bo (F6 f l) j=(Bo l j).map f:=by
 intro l;induction l with
 | nil=>intro j;simp[F6,Bo]
 | cons q l ih =>
  obtain⟨k,u⟩:=q;intro j;simp only[F6,Bo];cases O:Nat.beq j k with
  | true=>rfl
  | false=>exact ih j
theorem MA (h:Bo l i≠[]):(i,Bo l i)∈l:=by
 induction l with
 | nil=>exact iW rfl h
 | cons p l ih =>
  obtain⟨k,u⟩:=p;simp only[Bo] at h |-;cases O:Nat.beq i k with
  | true=>have:=DH O;subst this;simp
  | false=>rw[O] at h;simp only at h |-;exact dZ _ (ih h)
theorem B1.get_mem (h:B1 nt l) (hp:p∈l):Bo l p.1=p.2:=by
 induction l with
 | nil=>cases hp
 | cons q l ih =>
  obtain⟨k,u⟩:=q;simp only[Bo];rcases dM.1 hp with rfl | hp';{simp}
  ·have U:=(fc.1 h.pE).1 p.1 (dJ.2 ⟨p,hp',rfl⟩);simp only at U;cases O:Nat.beq p.1 k with
   | true=>have:=DH O;omega
   | false=>exact ih h.tail hp'
theorem B1.kP (h:B1 nt l) (ho:o∈Bo l i):o.ok:=by
 have:Bo l i≠[]:=by intro U;rw[U] at ho;cases ho
 exact h.ok _ (MA this) o ho
theorem B1.nV (h:B1 nt l) (hi:nt<=i):Bo l i=[]:=by by_cases U:Bo l i=[];{exact U};{have:=h.lt _ (MA U);simp only at this;omega}
variable{v:jq}
theorem Tq:∀ {l:Bl} {p:Nat×jq},p∈FA i v l->p=(i,v)\/p∈l:=by
 intro l;induction l with
 | nil=>intro p hp;simp[FA] at hp;exact .inl hp
 | cons q l ih =>
  obtain⟨k,u⟩:=q;intro p hp;simp only[FA] at hp;cases h:Nat.beq i k with
  | true =>
   rw[h] at hp;simp only[dM] at hp |-;rcases hp with rfl | hp;{exact .inl rfl};{exact .inr (.inr hp)}
  | false =>
   rw[h] at hp;cases h3:Nat.blt i k with
   | true =>
    rw[h3] at hp;simp only[dM] at hp |-;rcases hp with rfl | hp | hp;{exact .inl rfl};{exact .inr (.inl hp)};{exact .inr (.inr hp)}
   | false =>
    rw[h3] at hp;simp only[dM] at hp |-;rcases hp with rfl | hp;{exact .inr (.inl rfl)};{exact (ih hp).imp id .inr}
theorem tX:∀ {l:Bl},(l.map (·.1)).Pairwise (· < ·)->((FA i v l).map (·.1)).Pairwise (· < ·):=by
 intro l;induction l with
 | nil=>intro _;simp[FA]
 | cons q l ih =>
  obtain⟨k,u⟩:=q;intro h;have U:=fc.1 h;simp only[FA];cases O:Nat.beq i k with
  | true =>
   have:=DH O;subst this;exact fc.2 ⟨U.1,U.2⟩
  | false =>
   cases h3:Nat.blt i k with
   | true =>
    have h4:i < k:=by simpa[ff] using h3
    refine fc.2 ⟨fun a ha=>?_,h⟩;simp only[dI,dM] at ha;rcases ha with rfl | ha;{exact h4};{exact Nat.lt_trans h4 (U.1 a ha)}
   | false =>
    have h5:=Hx O;have h4:¬ i < k:=by intro h6;rw[show Nat.blt i k=true by simpa[ff] using h6] at h3;cases h3
    refine fc.2 ⟨fun a ha=>?_,ih U.2⟩;obtain⟨p,hp,rfl⟩:=dJ.1 ha;rcases Tq hp with rfl | hp;{simp only;omega};{exact U.1 _ (dJ.2 ⟨p,hp,rfl⟩)}
theorem B1.put (h:B1 nt l) (hi:i < nt) (hv:∀ o∈v,o.ok):B1 nt (FA i v l) where
 pE:=tX h.pE
 lt p hp:=(Tq hp).elim (fun e=>by rw[e];exact hi) (h.lt p)
 ok p hp:=(Tq hp).elim (fun e=>by rw[e];exact hv) (h.ok p)
theorem bv (p:Nat->Bool):∀ (l:Bl),(Kw p l).Sublist l:=by
 intro l;induction l with
 | nil=>exact .slnil
 | cons q l ih =>
  obtain⟨k,u⟩:=q;simp only[Kw];cases p k with
  | true=>exact .cons_cons _ ih
  | false=>exact .cons _ ih
theorem B1.sub {l':Bl} (h:B1 nt l) (hs:l'.Sublist l):B1 nt l' :=
 ⟨h.pE.sublist (hs.map _),fun p hp=>h.lt p (hs.subset hp),fun p hp=>h.ok p (hs.subset hp)⟩
theorem bu (f:Ak->Ak):∀ (l:Bl),(F6 f l).map (·.1)=l.map (·.1):=by
 intro l;induction l with
 | nil=>rfl
 | cons q l ih=>obtain⟨k,u⟩:=q;simp[F6,ih]
variable{f:Ak->Ak}
theorem WV:∀ {l:Bl} {p:Nat×jq},p∈F6 f l->∃ q∈l,p=(q.1,q.2.map f):=by
 intro l;induction l with
 | nil=>intro p hp;cases hp
 | cons q l ih =>
  obtain⟨k,u⟩:=q;intro p hp;rcases dM.1 hp with rfl | hp;{exact⟨(k,u),by simp,rfl⟩};{obtain⟨q,hq,h⟩:=ih hp;exact⟨q,by simp[hq],h⟩}
theorem B1.map (h:B1 nt l) (hf:∀ x:Ak,x.ok->(f x).ok):B1 nt (F6 f l) where
 pE:=by rw[bu];exact h.pE
 lt p hp:=by obtain⟨q,hq,rfl⟩:=WV hp;exact h.lt q hq
 ok p hp o ho:=by obtain⟨q,hq,rfl⟩:=WV hp;obtain⟨o',rB,rfl⟩:=dJ.1 ho;exact hf _ (h.ok q hq o' rB)
theorem ak:V∈Ix l↔∃ p∈l,∃ o∈p.2,V∈o.names:=by
 induction l with
 | nil=>simp[Ix]
 | cons q l ih=>obtain⟨k,u⟩:=q;simp[Ix,ih]
theorem j3 (nt:Nat) (l:Bl) (i:Nat):(Dn nt l)[i]?=if i < nt then some ((Bo l i).map Ak.ob) else none:=by unfold Dn;rw[dT];split;{rename_i h;rw[fA h];rfl};{rename_i h;rw[ew (by simpa using h)];rfl}
theorem IX (nt:Nat) (l:Bl):(Dn nt l).length=nt:=by simp[Dn]
theorem Lk {H:List jp} (hl:H.length=nt) (h:∀ i,i < nt->H[i]?=some ((Bo l i).map Ak.ob)):Dn nt l=H:=by apply eO;intro i;rw[j3];split;{rename_i hi;exact (h i hi).symm};{rename_i hi;rw[ew (by omega)]}
theorem Lj (d:Nat) (v:jq):Dn nt (FA d v l)=(Dn nt l).set d (v.map Ak.ob):=by refine Lk (by simp[IX]) fun i hi=>?_;rw[gr,IX,j3,tV];by_cases h:d=i;{subst h;simp[hi]};{simp[h,eH h,hi]}
theorem Qb (h:B1 nt l) {g:Ob->Ob} (hf:∀ x:Ak,x.ok->(f x).ob=g x.ob):Dn nt (F6 f l)=(Dn nt l).map (·.map g):=by refine Lk (by simp[IX]) fun i hi=>?_;rw[dT,j3,iJ hi,tW];simp only[ed,eo,dL];apply eD;intro o ho;simp[hf o (h.kP ho)]
theorem aY (h:B1 nt l) (V:Nm):Al (Dn nt l) V=(Bw l V).map Ak.ob:=by
 unfold Al Bw;rw[j3];split
 ·rename_i x A;split at A;·cases A;rw[dT]
  {cases A}
 ·rename_i A;split at A;·cases A
  {rw[h.nV (by omega)];rfl}
theorem QI (h:B1 nt l) (ho:Bw l V=some o):V.1 < nt:=by apply fh;intro hn;unfold Bw at ho;rw[h.nV (by omega)] at ho;cases ho
theorem EG (h:B1 nt l) (ho:Bw l V=some o):o.ok:=h.kP (d9 ho)
theorem N0 (h:B1 nt l) (V:Nm) (o:Ak):Dn nt (mh l V o)=Bv (Dn nt l) V o.ob:=by
 unfold mh Bv;cases hk:Bw l V with
 | some o' =>
  have jP:=QI h hk;simp only
  rw[Lj,j3,iJ jP];simp[fU]
 | none =>
  simp only
  rw[j3];split
  ·rename_i x A;split at A
   ·cases A;have U:((Bo l V.1).map Ak.ob).set V.2 o.ob=(Bo l V.1).map Ak.ob:=by rw[gZ];have:=eI.1 hk;simpa using this
    rw[U];refine Lk (by simp[IX]) fun i hi=>?_;rw[gr,IX,j3];by_cases O:V.1=i;{subst O;simp[hi]};{simp[O,hi]}
   {cases A}
  {rfl}
theorem B1.mh (h:B1 nt l) (V:Nm) (ho:o.ok):B1 nt (mh l V o):=by
 unfold Go.Ab.mh;cases hk:Bw l V with
 | some o' =>
  refine h.put (QI h hk) fun x A=>?_;rcases gy A with U | rfl;{exact h.kP U};{exact ho}
 | none=>exact h
theorem VC (h:B1 nt l) (V:Nm):V∈(Dn nt l).flatMap (fun l=>l.flatMap Ob.names)↔V∈Ix l:=by
 rw[ak];simp only[fH];constructor
 ·rintro ⟨x,A,ob,l7,hn⟩;obtain⟨i,hi⟩:=List.getElem?_of_mem A;rw[j3] at hi;split at hi
  ·cases hi;obtain⟨o,ho,rfl⟩:=dJ.1 l7;rw[Ak.me (h.kP ho)] at hn;have:Bo l i≠[]:=by intro U;rw[U] at ho;cases ho
   exact⟨_,MA this,o,ho,hn⟩
  {cases hi}
 {rintro ⟨p,hp,o,ho,hn⟩;have:=h.get_mem hp;refine⟨p.2.map Ak.ob,d9 (i:=p.1) ?_,o.ob,dJ.2 ⟨o,ho,rfl⟩,?_⟩;{rw[j3,iJ (h.lt p hp),this]};{rw[Ak.me (h.ok p hp o ho)];exact hn}}
end Go.Ab


namespace Go.Ab
variable{R:Type} {f:KV->KV} {g:jh->jh} {l:jA} {nt:Nat} {o:Ak} {p:Nm->Bool} {v:W} {x:RX} {σ:Nm->jy}
mutual
theorem TD {R:Type}:∀ (x:KV) (K:KV->R),KI x K=K x
 | .un,_ | .sk,_ | .kx,_ | .cv _,_ | .ke _,_=>rfl
 | .lit b,K=>by cases b<;>rfl
 | .ref V _,_ | .jQ V _ _ _,_ | .arr V _ _ _,_ | .mp V,_ | .it V,_ | .lg V,_=>by cases V;rfl
 | .agg cs,K=>by simp only[KI];rw[On cs]
 | .iface t x,K=>by simp only[KI];rw[TD x]
 | .fn f cap,K=>by simp only[KI];rw[On cap]
 | .jE H,K=>by simp only[KI];rw[On H]
theorem On {R:Type}:∀ (H:jn) (K:jn->R),LV H K=K H
 | [],_=>rfl
 | x :: H,K=>by simp only[LV];rw[TD x,On H]
end
theorem cu (x:Ak) (K:Ak->R):UB x K=K x:=by cases x<;>simp[UB,On]
theorem VU {R:Type}:∀ (H:jq) (K:jq->R),QL H K=K H
 | [],_=>rfl
 | x :: H,K=>by simp only[QL];rw[cu x,VU H]
theorem Tb {R:Type}:∀ (H:Sp) (K:Sp->R),O1 H K=K H
 | [],_=>rfl
 |(j,x) :: H,K=>by simp only[O1];rw[TD x,Tb H]
theorem Wv {R:Type}:∀ (H:Bl) (K:Bl->R),Q3 H K=K H
 | [],_=>rfl
 |(j,x) :: H,K=>by simp only[Q3];rw[VU x,Wv H]
theorem Ww {R:Type}:∀ (H:jA) (K:jA->R),Q4 H K=K H
 | [],_=>rfl
 | x :: H,K=>by simp only[Q4];rw[Tb x,Ww H]
theorem EH (ks:AJ) (K:AJ->R):Eb ks K=K ks:=by cases ks;simp only[Eb];rw[Tb,Wv,Ww]
structure AJ.Ok (ks:AJ):Prop where
 tm:Cb ks.nt ks.tmps
 ob:B1 ks.nt ks.jC
 kp:∀ sp∈ks.jG,Cb ks.nt sp
theorem Zp (v:W):(IV v).pv=v:=by unfold IV;split<;>simp[KV.pv,AP]
theorem Zq (h:jN v=true):(IV v).ok:=by unfold IV;split;{trivial};{trivial};{trivial};{exact h}
variable {ks:AJ}
theorem HN (h:ks.Ok) (x:RX):x.ev ks.Z.tmps=(x.kv ks.tmps).pv:=by
 cases x with
 | t i=>exact Li h.tm i
 | c v=>exact (Zp v).symm
theorem NH (h:ks.Ok) (A:FE x=true):(x.kv ks.tmps).ok:=by
 cases x with
 | t i=>exact h.tm.kP i
 | c v=>exact Zq A
theorem H3 (h:ks.Ok) (V:Nm):Al ks.Z.jC V=(Bw ks.jC V).map Ak.ob:=aY h.ob V
theorem Fs (h:ks.Ok):Al ks.Z.jC=fun V=>(Bw ks.jC V).map Ak.ob:=funext (H3 h)
theorem Ak.yy (p:Nm->Bool) (h:o.ok):(o.off p).ob=o.ob.sub (Jh p):=by
 cases o with
 | cells ty cs=>simp[Ak.off,Ak.ob,Ob.sub,OP p h]
 | whole ty v =>
  have:=(DQ (Eo h)).1;simp only[Ak.off,Ak.ob,Ob.sub,DK];rw[my this]
 | _=>rfl
where
 my {H:jh} (h:AU H=[]):Bf (Jh p) H=H:=by
  induction H with
  | nil=>rfl
  | cons x H ih =>
   simp[AU] at h;simp[Bf,Kh h.1,ih h.2]
theorem Ak.mo (p:Nm->Bool) (h:o.ok):(o.off p).ok:=by
 cases o with
 | cells ty cs=>exact OQ p h
 | _=>exact h
theorem VH (f:Nm->Option jk) (H ys:jh):Bf f (H++ys)=Bf f H++Bf f ys:=by
 induction H with
 | nil=>rfl
 | cons x H ih=>simp[Bf,ih]
theorem QM (hg:g []=[]) (ha:∀ H ys,g (H++ys)=g H++g ys) (h:∀ sp∈l,BQ nt (EL f sp)=g (BQ nt sp)) :
  (l.map (EL f)).flatMap (BQ nt)=g (l.flatMap (BQ nt)):=by
 induction l with
 | nil=>simp[hg]
 | cons x l ih =>
  simp only[dI,fg,ha];rw[h x (by simp),ih fun sp kG=>h sp (by simp[kG])]
theorem Uw (p:Nm->Bool) (h:ks.Ok):(Nq p ks).Z=EK (Jh p) ks.Z:=by
 unfold Nq AJ.Z EK;simp only
 rw[Qx h.tm (by simp[KV.off]) (fun x A=>KV.ph p A),Qb h.ob (fun o ho=>Ak.yy p ho),
  QM (g:=Bf (Jh p)) rfl (VH _) fun sp kG=>Qx (h.kp sp kG) (by simp[KV.off]) fun x A=>KV.ph p A]
theorem Ux (p:Nm->Bool) (h:ks.Ok):(Nq p ks).Ok where
 tm:=h.tm.map fun x A=>KV.mo p A
 ob:=h.ob.map fun x A=>Ak.mo p A
 kp sp kG:=by obtain⟨q,hq,rfl⟩:=dJ.1 kG;exact (h.kp q hq).map fun x A=>KV.mo p A
theorem Ak.qW (g:Nm->jk) (h:o.ok):o.close g=o.ob.sub (Fz g):=by
 cases o with
 | cells ty cs=>simp[Ak.close,Ak.ob,Ob.sub,MJ g h]
 | whole ty v =>
  have:=(DQ (Eo h)).1;simp only[Ak.close,Ak.ob,Ob.sub,DK];rw[my this]
 | _=>rfl
where
 my {H:jh} (h:AU H=[]):Bf (Fz g) H=H:=by
  induction H with
  | nil=>rfl
  | cons x H ih =>
   simp[AU] at h;simp[Bf,Kh h.1,ih h.2]
theorem S9 (hσ:∀ V o,σ V=some o->o.ok):∀ (d:Nat) (V:Nm),D5 σ d V=(σ V).map fun o=>Je (fun V=>(σ V).map Ak.ob) d o.ob:=by
 intro d;induction d with
 | zero =>
  intro V;unfold D5;cases h:σ V with
  | none=>rfl
  | some o=>simp only[ed];rw[Ak.qW _ (hσ _ _ h)];rfl
 | succ d ih =>
  intro V;unfold D5;cases h:σ V with
  | none=>rfl
  | some o =>
   simp only[ed];rw[Ak.qW _ (hσ _ _ h)];congr 1;unfold Je;congr 1;funext m;unfold Fz;rw[ih m,gG];rfl
def Re (σ:Nm->jy):Prop:=∀ V ty cs,σ V=some (.cells ty cs)->Gt cs=false
theorem Mt (hσ:∀ V o,σ V=some o->o.ok) (hq:Re σ):∀ (d:Nat) (V:Nm) (ob:Ob),D5 σ d V=some ob->ob.shut:=by
 intro d;induction d with
 | zero =>
  intro V ob h;unfold D5 at h;cases ho:σ V with
  | none=>rw[ho] at h;cases h
  | some o =>
   rw[ho] at h;cases h;have ln:=hσ _ _ ho;cases o with
   | cells ty cs=>exact (Kg (fun _ _ h=>by cases h) ln (hq _ _ _ ho))
   | whole ty v=>exact (Eo ln)
   | arr k kt H=>exact ln
   | map es=>exact ln
   | jT s pos=>trivial
 | succ d ih =>
  intro V ob h;unfold D5 at h;cases ho:σ V with
  | none=>rw[ho] at h;cases h
  | some o =>
   rw[ho] at h;cases h;have ln:=hσ _ _ ho;cases o with
   | cells ty cs=>exact (Kg ih ln (hq _ _ _ ho))
   | whole ty v=>exact (Eo ln)
   | arr k kt H=>exact ln
   | map es=>exact ln
   | jT s pos=>trivial
theorem Ak.frz_ob (p:Nm->Bool) (g:Nm->jk) (h:o.ok):(o.kj p g).ob=o.ob.sub (Fc p g):=by
 cases o with
 | cells ty cs=>simp[Ak.kj,Ak.ob,Ob.sub,OY p g h]
 | whole ty v =>
  have:=(DQ (Eo h)).1;simp only[Ak.kj,Ak.ob,Ob.sub,DK];rw[my this]
 | _=>rfl
where
 my {H:jh} (h:AU H=[]):Bf (Fc p g) H=H:=by
  induction H with
  | nil=>rfl
  | cons x H ih =>
   simp[AU] at h;simp[Bf,Kh h.1,ih h.2]
theorem Ak.nU {g:Nm->jk} (hg:∀ V ob,g V=some ob->ob.shut) (h:o.ok):(o.kj p g).ok:=by
 cases o with
 | cells ty cs=>exact OZ hg h
 | _=>exact h
theorem yz:∀ (R:jl) {l:Bl},B1 nt l->B1 nt (R.foldl (fun jC V=>mh jC V Hl) l):=by
 intro R;induction R with
 | nil=>intro l h;exact h
 | cons V R ih=>intro l h;exact ih (h.mh V (o:=Hl) rfl)
theorem yA:∀ (R:jl) {l:Bl},B1 nt l->Dn nt (R.foldl (fun jC V=>mh jC V Hl) l)=R.foldl (fun jC V=>Bv jC V BO) (Dn nt l):=by
 intro R;induction R with
 | nil=>intro l _;rfl
 | cons V R ih =>
  intro l h;simp only[fT];rw[ih (h.mh V (o:=Hl) rfl),N0 h];rfl
theorem Eh (h:ks.Ok):∀ V o,Bw ks.jC V=some o->o.ok:=fun _ _ ho=>EG h.ob ho
theorem ci (h:ks.Ok) (V:Nm):Fz (D5 (Bw ks.jC) A7) V=BX (Al ks.Z.jC) V:=by unfold Fz BX;rw[S9 (Eh h),Fs h,gG];rfl
theorem tY {l:Bl} (h:FX l=true):∀ p∈l,∀ ty cs,Ak.cells ty cs∈p.2->Gt cs=false:=by
 induction l with
 | nil=>intro p hp;cases hp
 | cons q l ih =>
  obtain⟨k,u⟩:=q;simp only[FX,dF] at h;intro p hp ty cs lY;rcases dM.1 hp with rfl | hp
  {have:=d6.1 h.1 _ lY;simpa using this};{exact ih h.2 p hp ty cs lY}
theorem N3 {l:Bl} (h:FX l=true):Re (Bw l):=by
 intro V ty cs ho;have hm:Bo l V.1≠[]:=by intro U;unfold Bw at ho;rw[U] at ho;cases ho
 exact tY h _ (MA hm) ty cs (d9 ho)
theorem aM {l:AJ} (hl:l.Ok) (hσ:∀ V o,σ V=some o->o.ok) (hq:Re σ) (R:jl) :
  (QZ σ R l).Z=DF (fun V=>(σ V).map Ak.ob) R l.Z:=by
 have hf:Fc (fun m=>R.contains m) (D5 σ A7)=fun m=>if R.contains m=true then BX (fun V=>(σ V).map Ak.ob) m else none:=by funext m;unfold Fc BX;rw[S9 hσ,gG];rfl
 unfold QZ DF EK AJ.Z;simp only
 rw[Qx hl.tm (g:=Fc (fun m=>R.contains m) (D5 σ A7)) (by simp[KV.kj]) (fun x A=>KV.qs _ _ A),
  yA R (hl.ob.map fun x A=>Ak.nU (Mt hσ hq A7) A),Qb hl.ob (fun o ho=>Ak.frz_ob _ _ ho),
  QM (g:=Bf (Fc (fun m=>R.contains m) (D5 σ A7))) rfl (VH _) fun sp kG=>Qx (hl.kp sp kG) (by simp[KV.kj]) fun x A=>KV.qs _ _ A,hf]
theorem ch {l:AJ} (hl:l.Ok) (hσ:∀ V o,σ V=some o->o.ok) (hq:Re σ) (R:jl):(QZ σ R l).Ok where
 tm:=hl.tm.map fun x A=>KV.nU (Mt hσ hq A7) A
 ob:=yz R (hl.ob.map fun x A=>Ak.nU (Mt hσ hq A7) A)
 kp sp kG:=by obtain⟨q,hq',rfl⟩:=dJ.1 kG;exact (hl.kp q hq').map fun x A=>KV.nU (Mt hσ hq A7) A
structure AF.Ok (o:AF):Prop where
 v:o.v.ok
 new:∀ x∈o.new,x.ok
 kA:∀ V x,o.kA=some (V,x)->x.ok
 l4:∀ p∈o.l4,p.2.ok:=by simp
def AF.out (o:AF):AQ:={v:=o.v.pv,new:=o.new.map Ak.ob,kA:=o.kA.map fun p=>(p.1,p.2.ob),kill:=o.kill,kj:=o.kj,gone:=o.gone,l4:=o.l4.map fun p=>(p.1,p.2.ob),io:=o.io,slot:=o.slot}
def Mq (u:Option (Nm×Ob)) (Z:St):St :=
 match u with
 | some (V,ob)=>{Z with jC:=Bv Z.jC V ob}
 | none=>Z
def Mi (k:Option Nm) (Z:St):St :=
 match k with
 | some V=>EK (fun m=>if m=V then some none else none) Z
 | none=>Z
def K8 (dst:jj) (v:W) (new:jp) (Z:St):St :=
 match dst with
 | some d=>{Z with tmps:=Z.tmps.set d v,jC:=if new.isEmpty then Z.jC else Z.jC.set d new}
 | none=>Z
def NR (l:jl) (Z:St):St:=if l.isEmpty then Z else EK (fun m=>if l.contains m then some none else none) Z
def Mh (l:List (Nm×Ob)) (Z:St):St:=if l.isEmpty then Z else {Z with jC:=Gr l Z.jC}
def tZ (sl:jj) (new:jp) (Z:St):St :=
 match sl with
 | some r=>{Z with jC:=Z.jC.set r (Z.jC.getD r []++new)}
 | none=>Z
def Pi (sl:jj) (new:jp):jp :=
 match sl with
 | some _=>[]
 | none=>new
theorem Uk (Z:St) (dst:jj) (o:AQ):apply Z dst o=K8 dst o.v (Pi o.slot o.new) (tZ o.slot o.new<|Mh o.l4 (NR o.gone (if o.kj.isEmpty then Mi o.kill (Mq o.kA Z) else DF (Al Z.jC) o.kj (Mi o.kill (Mq o.kA Z))))):=by unfold apply K8 Mi Mq NR Mh tZ Pi;cases dst<;>cases o.kA<;>cases o.kill<;>cases o.slot<;>rfl
theorem kups_ok:∀ (l:List (Nm×Ak)) {σ:Bl},(∀ p∈l,p.2.ok)->B1 nt σ->B1 nt (yn l σ):=by
 intro l;induction l with
 | nil=>intro σ _ h;exact h
 | cons p l ih =>
  obtain⟨V,o⟩:=p;intro σ hl h;exact ih (fun q hq=>hl q (dZ _ hq)) (h.mh V (hl (V,o) d7))
theorem kups_st:∀ (l:List (Nm×Ak)) {σ:Bl},(∀ p∈l,p.2.ok)->B1 nt σ->Dn nt (yn l σ)=Gr (l.map fun p=>(p.1,p.2.ob)) (Dn nt σ):=by
 intro l;induction l with
 | nil=>intro σ _ h;rfl
 | cons p l ih =>
  obtain⟨V,o⟩:=p;intro σ hl h;show Dn nt (yn l (mh σ V o))=Gr (l.map fun p=>(p.1,p.2.ob)) (Bv (Dn nt σ) V o.ob);rw[ih (fun q hq=>hl q (dZ _ hq)) (h.mh V (hl (V,o) d7)),N0 h]
theorem ST (h:ks.Ok) {o:AF} (hq:(o.kj.isEmpty||FX ks.jC)=true) (dst:jj) (ho:o.Ok):(HJ ks dst o).Z=apply ks.Z dst o.out/\(HJ ks dst o).Ok:=by
 rw[Uk];unfold HJ AF.out;simp only
 have U:(tK o.kA ks).Ok/\(tK o.kA ks).Z=Mq (o.kA.map fun p=>(p.1,p.2.ob)) ks.Z:=by
  cases hu:o.kA with
  | none=>exact⟨h,rfl⟩
  | some p =>
   obtain⟨V,ob⟩:=p;refine⟨⟨h.tm,h.ob.mh V (ho.kA _ _ hu),h.kp⟩,?_⟩;simp only[ed,tK,Mq,AJ.Z];rw[N0 h.ob]
 rw[<-U.2];generalize tK o.kA ks=k1 at U |-
 have O:(NK o.kill k1).Ok/\(NK o.kill k1).Z=Mi o.kill k1.Z:=by
  cases hu:o.kill with
  | none=>exact⟨U.1,rfl⟩
  | some V =>
   refine⟨Ux _ U.1,?_⟩;simp only[NK,Mi];rw[Uw _ U.1];congr 1;funext m;unfold Jh;by_cases hm:m=V;{simp[hm]};{simp[hm]}
 rw[<-O.2];generalize NK o.kill k1=k2 at O |-
 have h3:(PI (Bw ks.jC) o.kj k2).Ok/\(PI (Bw ks.jC) o.kj k2).Z=(if o.kj.isEmpty=true then k2.Z else DF (Al ks.Z.jC) o.kj k2.Z):=by
  cases hf:o.kj with
  | nil=>exact⟨O.1,rfl⟩
  | cons V R =>
   have hq:FX ks.jC=true:=by rw[hf] at hq;simpa using hq
   refine⟨ch O.1 (Eh h) (N3 hq) _,?_⟩;rw[Fs h];exact aM O.1 (Eh h) (N3 hq) _
 rw[<-h3.2];generalize PI (Bw ks.jC) o.kj k2=k4 at h3 |-
 have h5:(NL o.gone k4).Ok/\(NL o.gone k4).Z=NR o.gone k4.Z:=by
  cases hg:o.gone with
  | nil=>exact⟨h3.1,rfl⟩
  | cons V l =>
   refine⟨Ux _ h3.1,?_⟩;simp only[NL,NR,List.isEmpty_cons,dE,iG];rw[Uw _ h3.1];congr 1
 rw[<-h5.2];generalize NL o.gone k4=k5 at h5 |-
 have h6:(NI o.l4 k5).Ok/\(NI o.l4 k5).Z=Mh (o.l4.map fun p=>(p.1,p.2.ob)) k5.Z:=by
  refine⟨⟨h5.1.tm,kups_ok _ ho.l4 h5.1.ob,h5.1.kp⟩,?_⟩;have:∀ (l:List (Nm×Ob)) (s:St),Mh l s={s with jC:=Gr l s.jC}:=by intro l s;unfold Mh;split;{rename_i hl;rw[eZ.1 hl];rfl};{rfl}
  rw[this];simp only[NI,AJ.Z];rw[kups_st _ ho.l4 h5.1.ob]
 rw[<-h6.2];generalize NI o.l4 k5=k6 at h6 |-
 have h7:(tL o.slot o.new k6).Ok/\(tL o.slot o.new k6).Z=tZ o.slot (o.new.map Ak.ob) k6.Z:=by
  cases hs:o.slot with
  | none=>exact⟨h6.1,rfl⟩
  | some r =>
   simp only[tL,tZ];cases T:Nat.blt r k6.nt with
   | true =>
    have oV:r < k6.nt:=by simpa[ff] using T
    refine⟨⟨h6.1.tm,h6.1.ob.put oV fun x A=>?_,h6.1.kp⟩,?_⟩;{rcases dX.1 A with A | A;{exact h6.1.ob.kP A};{exact ho.new x A}}
    ·unfold AJ.Z;simp only
     rw[Lj,fk];congr 3;rw[dO,j3,iJ oV];rfl
   | false =>
    have oV:¬ r < k6.nt:=by intro h;rw[show Nat.blt r k6.nt=true by simpa[ff] using h] at T;cases T
    refine⟨h6.1,?_⟩;unfold AJ.Z;simp only
    rw[gZ (by rw[IX];omega)]
 rw[<-h7.2];have hnew2:Pi o.slot (o.new.map Ak.ob)=(PC o.slot o.new).map Ak.ob:=by cases o.slot<;>rfl
 rw[hnew2]
 have yB:∀ x∈PC o.slot o.new,x.ok:=by
  cases o.slot with
  | none=>exact ho.new
  | some r=>intro x A;cases A
 generalize PC o.slot o.new=nw at yB |-;generalize tL o.slot o.new k6=k3 at h7 |-;obtain⟨yC,_⟩:=h7;cases dst with
 | none=>exact⟨rfl,yC⟩
 | some d =>
  simp only[kset,K8];cases hd:Nat.blt d k3.nt with
  | true =>
   have oU:d < k3.nt:=by simpa[ff] using hd
   refine⟨?_,?_⟩
   ·unfold AJ.Z;simp only
    rw[XD];cases hn:nw with
    | nil=>simp
    | cons x H=>simp[Lj]
   ·refine⟨yC.tm.set oU ho.v,?_,yC.kp⟩;simp only
    cases hn:nw with
    | nil=>exact yC.ob
    | cons x H=>rw[hn] at yB;exact yC.ob.put oU yB
  | false =>
   have oU:¬ d < k3.nt:=by intro h;rw[show Nat.blt d k3.nt=true by simpa[ff] using h] at hd;cases hd
   refine⟨?_,yC⟩;unfold AJ.Z;simp only
   rw[gZ (by rw[E7];omega)];split;{rfl};{rw[gZ (by rw[IX];omega)]}
end Go.Ab


namespace Go.Ab
variable{zze cs:jh} {ag nc:Bool} {c:TC} {d k:Nat} {f g:RX->RX} {o:jB} {op:AG} {v x:W} {σ:Nm->jk}
theorem yD (zze:jh):∀ (ps:List (Nat×Nat×RX)) (z:jh),ET [] z (ps.map fun p=>(p.1,p.2.1,.c (p.2.2.ev zze)))=ET zze z ps:=by
 intro ps;induction ps with
 | nil=>intro z;rfl
 | cons p ps ih =>
  obtain⟨off,n,x⟩:=p;intro z;simp only[dI,ET];rw[ih];rfl
theorem O3 (zze:jh) (x:jB):CH [] (x.map fun y=>.c (y.ev zze))=CH zze x:=by cases x<;>rfl
theorem ua (d:Nat) (σ:Nm->jk) (zze:jh) (op:AG) (hg:isG op=true):exec d σ [] (op.mw fun x=>.c (x.ev zze))=exec d σ zze op:=by
 cases op with
 | build z ps=>simp only[AG.mw,exec];rw[yD zze]
 | slice k x lo hi mx=>simp only[AG.mw,exec];rw[O3,O3,O3];rfl
 | kq x lo hi=>simp only[AG.mw,exec];rw[O3,O3];rfl
 | j6 mx H=>simp only[AG.mw,exec,eo];rfl
 | mov | pick | box | alloc | nO | store | mkI | mkF | mkMap | insert | r8 | append | copy | call | iter | next | bad=>simp[isG] at hg
 | _=>rfl
theorem NU (h:∀ a∈o.toList,f a=g a):o.map f=o.map g:=by
 cases o with
 | none=>rfl
 | some a=>simp[h a (by simp)]
theorem bZ (op:AG) (hg:isG op=true) (h:∀ x∈op.H,f x=g x):op.mw f=op.mw g:=by
 cases op with
 | build z ps =>
  simp only[AG.mw];congr 1;apply eD;intro p hp;rw[h p.2.2 (dJ.2 ⟨p,hp,rfl⟩)]
 | slice k x lo hi mx =>
  simp only[AG.mw,AG.H] at h |-;rw[h x (by simp),NU (o:=lo) fun a ha=>h a (by simp[ha]),NU (o:=hi) fun a ha=>h a (by simp[ha]),NU (o:=mx) fun a ha=>h a (by simp[ha])]
 | kq x lo hi =>
  simp only[AG.mw,AG.H] at h |-;rw[h x (by simp),NU (o:=lo) fun a ha=>h a (by simp[ha]),NU (o:=hi) fun a ha=>h a (by simp[ha])]
 | j6 mx H=>simp only[AG.mw];congr 1;exact eD h
 | mov | pick | box | alloc | nO | store | mkI | mkF | mkMap | insert | r8 | append | copy | call | iter | next | bad=>simp[isG] at hg
 | bin op c nc x y=>simp only[AG.mw,AG.H] at h |-;rw[h x (by simp),h y (by simp)]
 | lookup c z ok x k=>simp only[AG.mw,AG.H] at h |-;rw[h x (by simp),h k (by simp)]
 | jJ k x i=>simp only[AG.mw,AG.H] at h |-;rw[h x (by simp),h i (by simp)]
 | kM k l x i=>simp only[AG.mw,AG.H] at h |-;rw[h x (by simp),h i (by simp)]
 | lL x i=>simp only[AG.mw,AG.H] at h |-;rw[h x (by simp),h i (by simp)]
 | load n ag x | nilck x | un op x | conv k x | k7 x | ofBytes x | lK x | mq x | fieldAddr off x | field off n ag x | extract j x | len c x | kJ t z ok x=>simp only[AG.mw,AG.H] at h |-;rw[h x (by simp)]
theorem bK (σ:Nm->jk):∀ d,Bn σ d []=[]:=by
 intro d;induction d with
 | zero=>rfl
 | succ d ih=>simp[Bn,ih]
theorem Z9 (hg:isG op=true) (A:∀ x∈op.H,jN (x.ev zze)=true):exec d σ zze op=exec 0 (fun _=>none) zze op:=by
 have U:exec d σ zze op=exec 0 σ zze op:=by cases op<;>simp[isG] at hg<;>rfl
 rw[U];refine WA op (fun _ _=>rfl) ?_;have:AU (op.H.map (RX.ev zze))=[]:=(DQ (FG.2 fun v hv=>by obtain⟨x,nn,rfl⟩:=dJ.1 hv;exact A x nn)).1;rw[this];intro V rK;rw[bK] at rK;cases rK
theorem yE:∀ (ps:List (Nat×Nat×RX)) (z cs:jh),Ap z=true->(∀ x∈ps.map (·.2.2),jN (x.ev zze)=true)->ET zze z ps=some cs->Ap cs=true:=by
 intro ps;induction ps with
 | nil=>intro z cs hz _ h;simp[ET] at h;subst h;exact hz
 | cons p ps ih =>
  obtain⟨off,n,y⟩:=p;intro z cs hz hp h;simp only[ET] at h;obtain⟨_,h⟩:=Es h;refine ih _ cs ?_ (fun x A=>hp x (by simp only[dI,dM];exact .inr A)) h;exact I5 (I5 (Iv hz _) (Eo (hp y (by simp)))) (Js hz _)
theorem ON (h:Ap cs=true) {o n:Nat} (hs:Ci cs o n ag=some v):jN v=true:=by unfold Ci at hs;split at hs;{obtain⟨_,hs⟩:=Es hs;cases hs;simpa[jN] using Iv (Js h o) n};{exact I9 h hs}
theorem TX {k:W}:∀ {es:jh} {v:W},Ed k es=some (some v)->Ap es=true->jN v=true
 | [],v,h,_=>by simp[Ed] at h
 | [_],v,h,_=>by simp[Ed] at h
 | a :: u :: es,v,h,he=>by
  simp only[Ap,dF] at he;simp only[Ed] at h;split at h;·cases h;exact he.2.1
  {exact TX h he.2.2};·cases h
theorem aC {lo hi mx:jx} (A:jN x=true) (h:FV k x lo hi mx=some v):jN v=true:=by
 cases x with
 | sl k' H full =>
  simp only[FV] at h;split at h;·cases h
  split at h;·cases h
  split at h;·cases h
  obtain⟨_,h⟩:=Es h;cases h;simp only[jN] at A |-;exact Js (Iv A _) _
 | jD =>
  simp only[FV] at h;split at h;·cases h
  split at h;·cases h
  split at h;·cases h
  obtain⟨_,h⟩:=Es h;cases h;rfl
 | arr V k' o n=>simp[jN] at A
 | _=>simp[FV] at h
theorem W7 (s:ji):Ap (Ei s)=true:=FG.2 fun x A=>by obtain⟨b,_,rfl⟩:=dJ.1 A;rfl
theorem ub {op:BinOp} {y:W} (h:EZ op c nc x y=some v):jN v=true:=by
 have hI:∀ {op k a b v},Gx op k a b=some v->jN v=true:=by
  intro op k a b v h;unfold Gx at h;split at h
  all_goals first
   |(cases h;rfl)
   |(obtain⟨_,h⟩:=Es h;cases h;rfl)
   |(obtain⟨b,_,rfl⟩:=dG.1 h;rfl)
 have hS:∀ {op a b v},L4 op a b=some v->jN v=true:=by
  intro op a b v h;unfold L4 at h;split at h
  all_goals first
   |(cases h;rfl)
   |(obtain⟨_,h⟩:=Es h;cases h;rfl)
   | cases h
 unfold EZ at h;split at h;{split at h;{obtain⟨_,h⟩:=Es h;cases h;rfl};{obtain⟨_,h⟩:=Es h;cases h;rfl};{obtain⟨_,h⟩:=Es h;exact hI h}};{exact hS h};{split at h;{obtain⟨b,_,rfl⟩:=dG.1 h;rfl};{obtain⟨b,_,rfl⟩:=dG.1 h;rfl};·cases h}
structure Su (o:AQ):Prop where
 eq:o={v:=o.v}
 ok:jN o.v=true
theorem Su.mk' (h:jN v=true):Su {v:=v}:=⟨rfl,h⟩
theorem Qg {x:jx} {out:AQ} (h:(x.map fun v=>({v:=v}:AQ))=some out) (hv:∀ v,x=some v->jN v=true):Su out:=by obtain⟨v,A,rfl⟩:=dG.1 h;exact .mk' (hv v A)
theorem cD (hg:isG op=true) (A:∀ x∈op.H,jN (x.ev zze)=true) (hz:∀ z ps,op=.build z ps->Ap z=true) (hl:∀ c z ok x k,op=.lookup c z ok x k->jN z=true)
  (ht:∀ t z ok x,op=.kJ t z ok x->jN z=true) {out:AQ} (h:exec 0 (fun _=>none) zze op=some out):Su out:=by
 cases op with
 | mov | pick | box | alloc | nO | store | mkI | mkF | mkMap | insert | r8 | append | copy | call | iter | next | bad=>simp[isG] at hg
 | build z ps =>
  simp only[exec] at h;split at h;{rename_i cs hc;cases h;exact .mk' (by simpa[jN] using yE ps z cs (hz z ps rfl) A hc)};{cases h}
 | load n ag x =>
  have hv:=A x (by simp[AG.H]);simp only[exec] at h;split at h;{rename_i e;rw[e] at hv;simp[jN] at hv};{rename_i e;rw[e] at hv;exact Qg h fun v hs=>ON (by simpa[jN] using hv) hs};{rename_i e;rw[e] at hv;simp[jN] at hv};·cases h
 | nilck x =>
  have hv:=A x (by simp[AG.H]);simp only[exec] at h;split at h
  all_goals first
   |(rename_i e;rw[e] at hv;cases h;exact .mk' hv)
   | cases h
 | bin op c nc x y=>simp only[exec] at h;exact Qg h fun v=>ub
 | un op x =>
  simp only[exec] at h;split at h;·cases h;exact .mk' rfl
  {cases h;exact .mk' rfl};{cases h}
 | conv k x=>simp only[exec] at h;split at h;(cases h;exact .mk' rfl);cases h
 | k7 x =>
  simp only[exec] at h;split at h;{obtain⟨_,h⟩:=Es h;cases h;exact .mk' (by simpa[jN] using W7 _)};·cases h
 | ofBytes x =>
  simp only[exec] at h;split at h
  ·split at h;·cases h;exact .mk' rfl
   {cases h}
  {cases h}
 | lK x=>simp only[exec] at h;split at h;(cases h;exact .mk' rfl);cases h
 | mq x=>simp only[exec] at h;split at h;(cases h;exact .mk' rfl);cases h
 | lookup c z ok x k =>
  have hv:=A x (by simp[AG.H]);have hz:=hl c z ok x k rfl;simp only[exec] at h;have o5:∀ es,(match x.ev zze with | .mp V=>(none:Option jh) | .ki es=>some es | .kL=>some [] | _=>none)=some es->Ap es=true:=by intro es he;cases hq:x.ev zze<;>rw[hq] at he hv<;>simp only[reduceCtorEq,dL] at he;{subst he;rfl};{subst he;simpa[jN] using hv}
  split at h;·cases h
  ·rename_i es he;split at h;·cases h
   ·rename_i r T;obtain⟨_,h⟩:=Es h;cases h;have hes':Ap es=true:=o5 es (by revert he;cases x.ev zze<;>exact id)
    have hrz:jN (r.getD z)=true:=by
     cases r with
     | none=>exact hz
     | some v=>exact TX T hes'
    refine .mk' ?_;split;{simp[jN,Ap,hrz]};{exact hrz}
 | slice k x lo hi mx=>simp only[exec] at h;exact Qg h fun v hs=>aC (A x (by simp[AG.H])) hs
 | kq x lo hi =>
  simp only[exec] at h;split at h
  ·split at h;·cases h
   ·split at h;·cases h
    {cases h;exact .mk' rfl}
  {cases h}
 | fieldAddr off x =>
  have hv:=A x (by simp[AG.H]);simp only[exec] at h;split at h;{rename_i e;rw[e] at hv;simp[jN] at hv};{rename_i e;rw[e] at hv;obtain⟨_,h⟩:=Es h;cases h;exact .mk' (by simpa[jN] using hv)};{rename_i e;rw[e] at hv;simp[jN] at hv};·cases h
 | field off n ag x =>
  have hv:=A x (by simp[AG.H]);simp only[exec] at h;split at h;{rename_i e;rw[e] at hv;exact Qg h fun v hs=>ON (by simpa[jN] using hv) hs};·cases h
 | jJ k x i =>
  have hv:=A x (by simp[AG.H]);simp only[exec] at h;split at h;{rename_i e;rw[e] at hv;split at h;{rename_i y hy;obtain⟨_,h⟩:=Es h;cases h;exact .mk' (by simpa[jN] using Eo (I9 (by simpa[jN] using hv) hy))};{cases h}};{rename_i e;rw[e] at hv;simp[jN] at hv};·cases h
 | kM k l x i =>
  have hv:=A x (by simp[AG.H]);simp only[exec] at h;split at h;{rename_i e;rw[e] at hv;obtain⟨_,h⟩:=Es h;cases h;exact .mk' (by simpa[jN] using hv)};{rename_i e;rw[e] at hv;simp[jN] at hv};·cases h
 | lL x i =>
  simp only[exec] at h;split at h
  ·split at h;·cases h;exact .mk' rfl
   {cases h}
  {cases h}
 | extract j x =>
  have hv:=A x (by simp[AG.H]);simp only[exec] at h;split at h;{rename_i e;rw[e] at hv;split at h;{rename_i v vY;cases h;exact .mk' (I9 (by simpa[jN] using hv) vY)};{cases h}};{cases h}
 | len c x=>simp only[exec] at h;obtain⟨n,_,rfl⟩:=dG.1 h;exact .mk' rfl
 | j6 mx H =>
  simp only[exec] at h;split at h;{obtain⟨n,_,rfl⟩:=dG.1 h;exact .mk' rfl};·cases h
 | kJ t z ok x =>
  have hv:=A x (by simp[AG.H]);have hz:=ht t z ok x rfl;simp only[exec] at h;split at h;{rename_i e;rw[e] at hv;split at h;{cases h;refine .mk' ?_;simp only[jN] at hv;split;{simp[jN,Ap,hv]};{exact hv}};{obtain⟨_,h⟩:=Es h;cases h;exact .mk' (by simp[jN,Ap,hz])}};{obtain⟨_,h⟩:=Es h;cases h;exact .mk' (by simp[jN,Ap,hz])};·cases h
end Go.Ab


namespace Go.Ab
variable{β:Type} {a k n:Nat} {b:Bool} {l:jn} {V:Nm} {o:Ak} {op:AG} {ps:jz} {v z:W} {x:RX} {σ:Nm->jy} {y:Option β}
theorem DR {α:Type} {x:Option α} {f:α->Option β} {r:β} (h:Ac x f=some r):∃ a,x=some a/\f a=some r:=by
 cases x with
 | none=>cases h
 | some a=>exact⟨a,rfl,h⟩
theorem BC {a:Option β} {r:β} (h:Ae b a=some r):b=true/\a=some r:=by
 cases b with
 | false=>cases h
 | true=>exact⟨rfl,h⟩
theorem Lm {x:Option β} {r:β} (h:CJ b x y=some r):(b=true/\x=some r)\/(b=false/\y=some r):=by
 cases b with
 | false=>exact .inr ⟨rfl,h⟩
 | true=>exact .inl ⟨rfl,h⟩
theorem Qm {x:Option β} {r:β} (h:Ai v x y=some r):(v=.bool true/\x=some r)\/(v=.bool false/\y=some r):=by unfold Ai at h;split at h;{exact .inl ⟨rfl,h⟩};{exact .inr ⟨rfl,h⟩};·cases h
theorem OT {b:Nat}:Ay a b=true↔a<=b:=by unfold Ay;rw[Nat.ble_eq]
theorem M0 {b:Nat}:CG a b=true↔a < b:=by unfold CG;rw[ff]
theorem O5 {b:Nat}:FF a b=true↔a=b:=by unfold FF;rw[Nat.beq_eq]
def K0 {R:Type} (K:AF->Option R) (r:R) (x:js):Prop:=∃ out:AF,K out=some r/\out.Ok/\x=some out.out
variable{v:KV}
theorem AF.plain (h:v.ok):AF.Ok {v}:=⟨h,by simp,by simp,by simp⟩
theorem AF.one (h:v.ok) (ho:o.ok):AF.Ok {v,new:=[o]}:=⟨h,by simpa using ho,by simp,by simp⟩
theorem AF.ll (h:v.ok) (ho:o.ok):AF.Ok {v,kA:=some (V,o)}:=⟨h,by simp,fun _ _ e=>(by cases e;exact ho),by simp⟩
variable {ks:AJ} {d:Nat} {R:Type} {K:AF->Option R} {r:R}
theorem UZ (h:ks.Ok) {H:jz} (A:H.all FE=true) (hm:x∈H):(x.kv ks.tmps).ok:=NH h (d6.1 A x hm)
theorem cl_ev (h:ks.Ok) {v:W} (hv:(x.kv ks.tmps).cl=some v):x.ev ks.Z.tmps=v:=by rw[HN h,KV.ld hv]
theorem Ez (h:ks.Ok) (A:op.H.all FE=true) (hk:gO ks.tmps op K=some r):K0 K r (exec d (Al ks.Z.jC) ks.Z.tmps op):=by
 unfold gO at hk;split at hk
 ·rename_i hc;simp only[dF] at hc;obtain⟨⟨hg,oL⟩,k8⟩:=hc;obtain⟨z,hz,hk⟩:=DR hk;have kE:∀ x∈op.H,∃ v,(x.kv ks.tmps).cl=some v:=fun x hm=>fZ.1 (d6.1 k8 x hm);have jL:∀ x∈op.H,jN (x.ev ks.Z.tmps)=true:=fun x hm=>by obtain⟨v,hv⟩:=kE x hm;rw[cl_ev h hv];exact KV.lT (UZ h A hm) hv
  have pB:op.mw (ym ks.tmps)=op.mw (fun x=>.c (x.ev ks.Z.tmps)):=bZ op hg fun x hm=>by obtain⟨v,hv⟩:=kE x hm;unfold ym;rw[hv,cl_ev h hv];rfl
  unfold Ad at hz;rw[pB,ua _ _ _ _ hg] at hz;split at hz;{rename_i out ho;cases hz;have hp:=cD hg jL (fun z ps e=>by subst e;exact oL) (fun c z ok x k e=>by subst e;exact oL) (fun t z ok x e=>by subst e;exact oL) ho;refine⟨{v:=.cv out.v},hk,AF.plain hp.ok,?_⟩;rw[Z9 hg jL,ho,hp.eq];rfl};{cases hz}
 {cases hk}
theorem XG {x:KV} (A:x.ok) {K:jn->Option R} (hk:Rt n x K=some r):∃ cs,K cs=some r/\Bj cs/\AP cs=x.pv.cells/\cs.length=n/\x.pv.isVal=true:=by
 unfold Rt at hk;split at hk;{split at hk;{rename_i hn;exact⟨_,hk,A,rfl,hn,rfl⟩};·cases hk}
 ·rename_i v;obtain⟨U,O⟩:=BC hk;unfold Aw at U;simp only[dF,iL] at U;refine⟨_,O,?_,?_,by simp,U.1⟩
  ·refine DT.2 fun y hy=>?_;obtain⟨i,hi,rfl⟩:=dJ.1 hy;have hv:jN v=true:=A;show jN (Af v i)=true;unfold Af;rw[dO];cases hg:v.cells[i]? with
   | none=>rfl
   | some c=>exact I9 (Eo hv) hg
  ·rw[Fb,eo];show _=v.cells;apply eO;intro i;rw[dT];by_cases hi:i < n
   ·rw[fA hi];show some (Af v i)=_;unfold Af;rw[dO];have:i < v.cells.length:=by omega
    simp[dQ this]
   {rw[ew (by simpa using hi),ew (by omega)];rfl}
 {cases hk};{cases hk};{cases hk};{rename_i U O h3 h4 h5;split at hk;{rename_i hn;refine⟨_,hk,⟨A,trivial⟩,?_,by simp[hn],?_⟩;{simp only[AP];cases x<;>simp_all [KV.pv,W.cells]};{cases x<;>simp_all [KV.pv,W.isVal]}};{cases hk}}
theorem Oh (h:Bj l) (n:Nat):Bj (l.take n):=DT.2 fun x A=>DT.1 h x (eE A)
theorem Oi (h:Bj l) (n:Nat):Bj (l.drop n):=DT.2 fun x A=>DT.1 h x (e8 A)
theorem Lg {m:jn} (h:Bj l) (h':Bj m):Bj (l++m):=DT.2 fun x A=>(dX.1 A).elim (DT.1 h x) (DT.1 h' x)
theorem MM (l:jn) (n:Nat):AP (l.take n)=(AP l).take n:=by rw[Fb,Fb,List.map_take]
theorem MN (l:jn) (n:Nat):AP (l.drop n)=(AP l).drop n:=by rw[Fb,Fb,List.map_drop]
theorem P5 (l m:jn):AP (l++m)=AP l++AP m:=by rw[Fb,Fb,Fb,fk]
theorem H0 (l:jn):(AP l).length=l.length:=by rw[Fb,dY]
theorem mz (l:jn) (i:Nat):(AP l)[i]?=(l[i]?).map KV.pv:=by rw[Fb,dT]
theorem yF (h:ks.Ok):∀ (ps:List (Nat×Nat×RX)) {z:jn} {K:jn->Option R},(∀ x∈ps.map (·.2.2),FE x=true)->Bj z->RN ks.tmps z ps K=some r->∃ cs,K cs=some r/\Bj cs/\ET ks.Z.tmps (AP z) ps=some (AP cs):=by
 intro ps;induction ps with
 | nil=>intro z K _ hz hk;exact⟨z,hk,hz,rfl⟩
 | cons p ps ih =>
  obtain⟨off,n,x⟩:=p;intro z K A hz hk;simp only[RN] at hk;obtain⟨cs,hk,lY,qd,hlen,n7⟩:=XG (NH h (A x (by simp))) hk;split at hk
  ·rename_i hle;obtain⟨mn,U,O,h3⟩:=ih (fun y hy=>A y (by simp only[dI,dM];exact .inr hy)) (Lg (Lg (Oh hz _) lY) (Oi hz _)) hk;refine⟨mn,U,O,?_⟩;have hl2:(AP cs).length=n:=by rw[H0,hlen]
   have hval':(x.ev ks.Z.tmps).isVal=true:=by rw[HN h];exact n7
   have hcl':(x.ev ks.Z.tmps).cells=AP cs:=by rw[HN h];exact qd.symm
   simp only[ET];rw[hcl'];unfold AN j0;simp only[hval',hl2,H0,iM,eF,ez,hle,iH];rw[P5,P5,MM,MN] at h3;exact h3
  {cases hk}
theorem TK (h:ks.Ok) {x:KV} (A:x.ok) {K:jh->Option R} (hk:Pp (Bw ks.jC) k x K=some r):∃ ys,K ys=some r/\Ap ys=true/\elems (Al ks.Z.jC) k x.pv=some ys:=by
 unfold Pp at hk;split at hk
 ·rename_i V k' o n;split at hk
  ·rename_i nx kt H hl;split at hk
   ·rename_i o9;obtain⟨U,O⟩:=BC hk;rw[OT] at U;have ln:Ap H=true:=EG h.ob hl;refine⟨_,O,Iv (Js ln _) _,?_⟩;have r9:Al ks.Z.jC V=some (.arr nx kt H):=by rw[H3 h,hl];rfl
    unfold As Ah at U;simp[KV.pv,elems,r9,AN,o9.1,o9.2,U,Aq,AE]
   {cases hk}
  {cases hk}
 ·split at hk
  ·rename_i v hv;obtain⟨ys,U,O⟩:=DR hk;have ln:=KV.lT A hv;have qd:=KV.ld hv;unfold GO at U;have h3:elems (Al ks.Z.jC) k v=some ys:=by rw[<-U];exact PX (by rw[(FH ln).1];simp)
   refine⟨ys,O,?_,by rw[qd];exact h3⟩;cases v with
   | sl k' H f=>simp only[elems] at U;obtain⟨_,U⟩:=Es U;cases U;simpa[jN] using ln
   | jD=>cases U;rfl
   | str s=>simp only[elems] at U;obtain⟨_,U⟩:=Es U;cases U;exact W7 _
   | arr V k' o n=>simp[jN] at ln
   | _=>simp[elems] at U
  {cases hk}
theorem TM {H:jn} (A:Bj H):(AU (AP H)).isEmpty=(D4 H).isEmpty:=by rw[GG A]
theorem Iw (hσ:∀ V o,σ V=some o->o.ok):∀ (d:Nat) (l:jl),HI σ d l=Bn (fun V=>(σ V).map Ak.ob) d l:=by
 intro d;induction d with
 | zero=>intro l;rfl
 | succ d ih =>
  intro l;simp only[HI,Bn]
  have e:(l.flatMap fun V=>((σ V).map Ak.names).getD [])=l.flatMap fun V=>(((σ V).map Ak.ob).map Ob.names).getD []:=by
   congr 1;funext V;cases ho:σ V with
   | none=>rfl
   | some o=>simp[Ak.me (hσ _ _ ho)]
  rw[ih,e]
theorem yG (hσ:∀ V o,σ V=some o->o.ok) (V:Nm):((σ V).map Ak.names).getD []=(((σ V).map Ak.ob).map Ob.names).getD []:=by
 cases ho:σ V with
 | none=>rfl
 | some o=>simp[Ak.me (hσ _ _ ho)]
theorem MQ (hσ:∀ V o,σ V=some o->o.ok) (R:jl):KR σ R=D9 (fun V=>(σ V).map Ak.ob) R:=by
 unfold KR D9;congr 1;funext V;simp only
 rw[yG hσ]
theorem Ou (h:ks.Ok) {H:jn} (A:Bj H):GQ (D5 (Bw ks.jC) A7) H=Bf (BX (Al ks.Z.jC)) (AP H):=by rw[MJ _ A];congr 1;funext V;exact ci h V
theorem IE (h:ks.Ok) (ps:jz):ps.map (RX.ev ks.Z.tmps)=AP (ps.map (RX.kv ks.tmps)):=by rw[Fb,eo];exact eD fun x _=>HN h x
theorem LP (h:ks.Ok) (A:ps.all FE=true):Bj (ps.map (RX.kv ks.tmps)):=DT.2 fun v hv=>by obtain⟨x,hm,rfl⟩:=dJ.1 hv;exact UZ h A hm
theorem ZI (hz:jN z=true) (n:Nat):Ap (List.replicate n z)=true:=FG.2 fun x A=>by rw[(List.mem_replicate.1 A).2];exact hz
theorem X3 {z:jh} (hz:Ap z=true):Bj (z.map IV):=DT.2 fun v hv=>by obtain⟨x,hm,rfl⟩:=dJ.1 hv;exact Zq (FG.1 hz x hm)
theorem YS (z:jh):AP (z.map IV)=z:=by rw[Fb,eo];have:KV.pv∘IV=id:=funext fun v=>Zp v;rw[this,List.map_id]
theorem Tw {k v:W}:∀ {es nH:jh},HU k v es=some nH->Ap es=true->jN k=true->jN v=true->Ap nH=true
 | [],nH,h,_,hk,hv=>by simp[HU] at h;subst h;simp[Ap,hk,hv]
 | [_],nH,h,_,_,_=>by simp[HU] at h
 | a :: u :: es,nH,h,he,hk,hv=>by
  simp only[Ap,dF] at he;simp only[HU] at h;split at h;·cases h;simp[Ap,hk,hv,he.2.2]
  {obtain⟨l,hl,rfl⟩:=dG.1 h;simp[Ap,he.1,he.2.1,Tw hl he.2.2 hk hv]};{cases h}
end Go.Ab

