/-
  Part 6 of a proof: a machine of our own for the given program, its laws, and what it says of the program. Nothing here is a claim by itself.
-/
import Derived.Test.YtbeonejdegijfaaGreatDoorK05
import Derived.Test.YtbeonejdegijfaaGreatDoorK03
set_option linter.all false

namespace Go.Ab.Derive2
open Go Go.Ab
def FL (F:Af->Af×Int):List Af->Sum Int (List Af)
 | []=>.inr []
 | a :: l=>if (F a).2=0 then (match FL F l with
  | .inl c=>.inl c
  | .inr r=>.inr ((F a).1 :: r)) else .inl (F a).2
theorem Sr (F:Af->Af×Int) (a:Af) (l:List Af):FL F (a :: l)=if (F a).2=0 then (match FL F l with
  | .inl c=>.inl c
  | .inr r=>.inr ((F a).1 :: r)) else .inl (F a).2:=rfl
def Lq (acc:List Af):Sum Int (List Af)->Sum Int (List Af)
 | .inl c=>.inl c
 | .inr r=>.inr (acc++r)
theorem WF (x:Sum Int (List Af)):Lq [] x=x:=by cases x<;>rfl
def Cz (F:Af->Af×Int) (b:Af) (l:List Af):Af×Int :=
 match FL F l with
 | .inl c=>(AZ,c)
 | .inr r=>(E5 b.li b.ru r,DK b.li r)
theorem WR {v:PV} {a:Af} (h:AL v a):AY 3 [v]=true:=by
 obtain⟨x,rfl,hx⟩:=h.get;exact Qj hx
theorem Xq {v:PV} {a:Af} (h:AL v a):Ad (.build [.bool false,.bool false,.nilS] [(0,(3,.c v))])=some v:=by
 obtain⟨x,rfl,hx⟩:=h.get;exact Ru hx
theorem through_0 {g:List UInt8} {F:Af->Af×Int} {v fv:PV} {b:Af} {vs:List PV} {l:List Af} (hv:AL v b) (hf:okV fv=true) (hvs:D1 vs l) (hl:l.length<=1000000)
  (hr:∀ {E:Type} (h:Ay E) {e e':E},Dn h 0 (vs.map fun v=>[v]) e=some e'->CP B0 h 0 fv e=some e')
  (hdo:∀ {v:PV} {a:Af},AL v a->a∈l->∃ w,Bx B0 HD 84 (v :: fresh g)=some (w :: Cc (F a).2 :: fresh g)/\AL w (F a).1) (hF:∀ a∈l,(F a).1.n.length<=1000000) :
  ∃ w,Bx B0 Od 86 (v :: fv :: fresh g)=some (w :: Cc (Cz F b l).2 :: fresh g)/\AL w (Cz F b l).1:=by
 suffices key:∃ rs,CG (AI B0 fun _=>.cl) Ka Od (v :: fv :: fresh g)=some rs/\∃ w,rs=w :: Cc (Cz F b l).2 :: fresh g/\AL w (Cz F b l).1 by
  obtain⟨rs,h1,w,rfl,h2⟩:=key;exact⟨w,D5 (B8 fun _=>.cl) (fn:=Ka) rfl (Pf:=ME) rfl (xs:=[.cv .nilI,.cv .nilI,.fn 1000084 []]) (obs:=[]) rfl rfl (by simp[Ao,okV,hv.ok,hf,fresh]) h1,h2⟩
 have hlen:=hvs.len;unfold fresh;rw[run86_0,Dp hv,cT]
 refine Sx (fun i xs=>(([fv,.int .u32 0,.int .i32 0,.int .u32 0,.str g,.bool false,.bool false,.nilS,.nilI,v,.bool false,.bool false,.nilS,.nilI,nI i,.sl 3 xs false],(none,())):Hj Unit)) (vs.map fun v=>[v])
  (fun i xs=>∃ acc,D1 xs acc/\xs.length=i/\(∀ a∈acc,a.n.length<=1000000)/\FL F l=Lq acc (FL F (l.drop i)))
  (fun rs=>∃ w,rs=w :: Cc (Cz F b l).2 :: fresh g/\AL w (Cz F b l).1)
  (fun hq=>hr _ hq) (a0:=[]) rfl ⟨[],.nil,rfl,by simp,by rw[cI];exact (WF _).symm⟩ ?_ ?_
 ·rintro i xs hi ⟨acc,ha,hxl,hsz,hq⟩;rw[bS] at hi;have hi':i < l.length:=by omega
  obtain⟨u,h3,h4⟩:=hvs.get i hi';have hu:vs[i]=u:=by rw[bN hi] at h3;exact dp h3
  rw[dT,hu];rw[cZ hi'] at hq;rw[Sr] at hq;obtain⟨w,h1,h2⟩:=hdo h4 (dk hi');unfold fresh at h1;simp only[DC,if_true,Be,Bd,Bj,Bu,Ci,DI,DT,DH,EE,Ie,KS,KR,KQ,KP,Mq,Mp];rw[show DQ [u] 1=true by simp[DQ,Ao,h4.ok],cT,CM h4,cT,C7 h4,h1,bV];simp only[Be,Bd,Bj,Bu,Ci,DI,DT,DH,EE,Ie];rw[CM h2,cT,Ti,bV,AA];by_cases hc:(F l[i]).2=0
  ·left;rw[if_neg (by simpa using hc),C7 h2,WR h2,cT];rw[if_pos hc] at hq;refine⟨xs++[w],?_,acc++[(F l[i]).1],ha.snoc h2,by simp[hxl],?_,?_⟩
   ·simp only[Mg,PZ,Mr,Er,Ej,b9,Co,ST,Tj,TI,KJ,List.length_singleton,cI,eE,ew,hxl];rw[show decide (0+1<=1)=true from rfl,cT,show (decide (i<=i)&&decide (i+1<=2147483648))=true by simp;omega,cT,b8 (by omega)]
   ·intro a h;rcases bW.1 h with h | h;·exact hsz a h
    ·rw[cj.1 h];exact hF _ (dk hi')
   ·rw[hq];cases FL F (l.drop (i+1))<;>simp[Lq]
  ·right;rw[if_pos (by simpa using hc),NS,cT];rw[if_neg hc] at hq;refine⟨_,rfl,?_⟩;have hA:Cz F b l=(AZ,(F l[i]).2):=by unfold Cz;rw[hq];rfl
   rw[hA];refine⟨_,rfl,Gi,?_,B2⟩;rw[Nv];rfl
 ·rintro xs ⟨acc,ha,hxl,hsz,hq⟩;rw[bS,hlen,List.drop_length] at hq;rw[bS] at hxl;have hA:Cz F b l=(E5 b.li b.ru acc,DK b.li acc):=by unfold Cz;rw[hq];simp[FL,Lq]
  rw[hA];have hal:=ha.len;obtain⟨w,h1,h2⟩:=UQ hv (.sl false ha) (by omega) hsz;simp only[Be,Bd,Bj,Bu,Ci,DI,DT,DH,EE,Ie,KS,KR,KQ,KP,Mq,Mp,Er,Ej,b9,Co];rw[show ∀ X Y:Option (List PV),B9 (F8 none) X Y=X from fun _ _=>rfl,DD hv,bV,Xq hv,bV,bS,show vs.length=xs.length by omega,slO_3,h1,bV];simp only[B3,bX,bY,bV,CM h2,NS,cT,C7 h2,Nv];exact⟨_,rfl,w,rfl,h2⟩
theorem through_1 {g:List UInt8} {F:Af->Af×Int} {v fv:PV} {b:Af} {vs:List PV} {l:List Af} (hv:AL v b) (hf:okV fv=true) (hvs:D1 vs l) (hl:l.length<=1000000)
  (hr:∀ {E:Type} (h:Ay E) {e e':E},Dn h 0 (vs.map fun v=>[v]) e=some e'->CP B0 h 0 fv e=some e')
  (hdo:∀ {v:PV} {a:Af},AL v a->a∈l->∃ w,Bx B0 sh89 89 (v :: fresh g)=some (w :: Cc (F a).2 :: fresh g)/\AL w (F a).1) (hF:∀ a∈l,(F a).1.n.length<=1000000) :
  ∃ w,Bx B0 Oc 86 (v :: fv :: fresh g)=some (w :: Cc (Cz F b l).2 :: fresh g)/\AL w (Cz F b l).1:=by
 suffices key:∃ rs,CG (AI B0 fun _=>.cl) Ka Oc (v :: fv :: fresh g)=some rs/\∃ w,rs=w :: Cc (Cz F b l).2 :: fresh g/\AL w (Cz F b l).1 by
  obtain⟨rs,h1,w,rfl,h2⟩:=key;exact⟨w,D5 (B8 fun _=>.cl) (fn:=Ka) rfl (Pf:=ME) rfl (xs:=[.cv .nilI,.cv .nilI,.fn 1000089 []]) (obs:=[]) rfl rfl (by simp[Ao,okV,hv.ok,hf,fresh]) h1,h2⟩
 have hlen:=hvs.len;unfold fresh;rw[run86_1,Dp hv,cT]
 refine Sx (fun i xs=>(([fv,.int .u32 0,.int .i32 0,.int .u32 0,.str g,.bool false,.bool false,.nilS,.nilI,v,.bool false,.bool false,.nilS,.nilI,nI i,.sl 3 xs false],(none,())):Hj Unit)) (vs.map fun v=>[v])
  (fun i xs=>∃ acc,D1 xs acc/\xs.length=i/\(∀ a∈acc,a.n.length<=1000000)/\FL F l=Lq acc (FL F (l.drop i)))
  (fun rs=>∃ w,rs=w :: Cc (Cz F b l).2 :: fresh g/\AL w (Cz F b l).1)
  (fun hq=>hr _ hq) (a0:=[]) rfl ⟨[],.nil,rfl,by simp,by rw[cI];exact (WF _).symm⟩ ?_ ?_
 ·rintro i xs hi ⟨acc,ha,hxl,hsz,hq⟩;rw[bS] at hi;have hi':i < l.length:=by omega
  obtain⟨u,h3,h4⟩:=hvs.get i hi';have hu:vs[i]=u:=by rw[bN hi] at h3;exact dp h3
  rw[dT,hu];rw[cZ hi'] at hq;rw[Sr] at hq;obtain⟨w,h1,h2⟩:=hdo h4 (dk hi');unfold fresh at h1;simp only[DC,if_true,Be,Bd,Bj,Bu,Ci,DI,DT,DH,EE,Ie,KS,KR,KQ,KP,Mq,Mp];rw[show DQ [u] 1=true by simp[DQ,Ao,h4.ok],cT,CM h4,cT,C7 h4,h1,bV];simp only[Be,Bd,Bj,Bu,Ci,DI,DT,DH,EE,Ie];rw[CM h2,cT,Ti,bV,AA];by_cases hc:(F l[i]).2=0
  ·left;rw[if_neg (by simpa using hc),C7 h2,WR h2,cT];rw[if_pos hc] at hq;refine⟨xs++[w],?_,acc++[(F l[i]).1],ha.snoc h2,by simp[hxl],?_,?_⟩
   ·simp only[Mg,PZ,Mr,Er,Ej,b9,Co,ST,Tj,TI,KJ,List.length_singleton,cI,eE,ew,hxl];rw[show decide (0+1<=1)=true from rfl,cT,show (decide (i<=i)&&decide (i+1<=2147483648))=true by simp;omega,cT,b8 (by omega)]
   ·intro a h;rcases bW.1 h with h | h;·exact hsz a h
    ·rw[cj.1 h];exact hF _ (dk hi')
   ·rw[hq];cases FL F (l.drop (i+1))<;>simp[Lq]
  ·right;rw[if_pos (by simpa using hc),NS,cT];rw[if_neg hc] at hq;refine⟨_,rfl,?_⟩;have hA:Cz F b l=(AZ,(F l[i]).2):=by unfold Cz;rw[hq];rfl
   rw[hA];refine⟨_,rfl,Gi,?_,B2⟩;rw[Nv];rfl
 ·rintro xs ⟨acc,ha,hxl,hsz,hq⟩;rw[bS,hlen,List.drop_length] at hq;rw[bS] at hxl;have hA:Cz F b l=(E5 b.li b.ru acc,DK b.li acc):=by unfold Cz;rw[hq];simp[FL,Lq]
  rw[hA];have hal:=ha.len;obtain⟨w,h1,h2⟩:=UQ hv (.sl false ha) (by omega) hsz;simp only[Be,Bd,Bj,Bu,Ci,DI,DT,DH,EE,Ie,KS,KR,KQ,KP,Mq,Mp,Er,Ej,b9,Co];rw[show ∀ X Y:Option (List PV),B9 (F8 none) X Y=X from fun _ _=>rfl,DD hv,bV,Xq hv,bV,bS,show vs.length=xs.length by omega,slO_3,h1,bV];simp only[B3,bX,bY,bV,CM h2,NS,cT,C7 h2,Nv];exact⟨_,rfl,w,rfl,h2⟩
end Go.Ab.Derive2


namespace Go.Ab.Derive2
open Go Go.Ab
structure Rx (g:List UInt8) (M:Af->Af×Int):Prop where
 run:∀ {v:PV} {a:Af},AL v a->a.n.length<=400000->∃ w,Al B0 .cl (.fn 13 []) [.str g,v]=some (.tup [w,I (M a).2])/\AL w (M a).1
 le:∀ a,(M a).1.n.length<=400000
def IT (r:Af×Int):Af×Int:=(if r.2=0 then r.1 else AZ,r.2)
theorem orNo_le {r:Af×Int} (h:r.1.n.length<=400000):(IT r).1.n.length<=400000:=by
 unfold IT;dsimp only;split;·exact h
 ·simp[AZ]
theorem each_run {g:List UInt8} {M:Af->Af×Int} (hM:Rx g M) {v:PV} {a:Af} (hv:AL v a) (hl:a.n.length<=400000) :
  ∃ w,Bx B0 sh89 89 (v :: fresh g)=some (w :: Cc (IT (M a)).2 :: fresh g)/\AL w (IT (M a)).1:=by
 obtain⟨w,h1,h2⟩:=hM.run hv hl;obtain⟨u,h3,h4⟩:=Va h2 (M a).2;refine⟨u,D5 (B8 fun _=>.cl) (fn:=fn89) rfl (Pf:=shs89) rfl (xs:=[]) (obs:=[]) rfl rfl (by simp[Ao,okV,hv.ok,fresh]) ?_,h4⟩;unfold fresh;rw[show shs89 [] []=sh89 from rfl,run89,Dp hv,cT,DD hv,bV,h1,bV];simp only[B3,bX,bY,bV,h3,CM h4,cT,C7 h4];rfl
def IB (b:Af):List Af:=(List.range b.n.length).map (IM b.ru b.n)
theorem heads_is (b:Af):D1 ((List.range b.n.length).map (MQ b.ru b.n)) (IB b):=by
 unfold IB;induction List.range b.n.length with
 | nil=>exact .nil
 | cons i l ih=>exact .cons (head_is _ _ _) ih
def Gh (D:Af->Af->Af×Int) (N:Af×Int) (b:Af):Af×Int:=Cz (Et D N) b (IB b)
def GN (M:Af->Af×Int) (b:Af):Af×Int:=Cz (fun a=>IT (M a)) b (b.n.map (CB b.ru))
theorem XA {D:Af->Af->Af×Int} (hD:∀ a b,(D a b).1.n.length<=400000) {N:Af×Int} {b:Af} (h:b.n≠[]):(Et D N b).1.n.length<=400000:=by
 obtain⟨r,m,_,hbr⟩:=Tv h;unfold Et;rw[hbr];exact Xz hD _ _ (by simp[CB])
theorem scan_run {g:List UInt8} {D:Af->Af->Af×Int} (hD:DyOK g D) (N:Af×Int) {v:PV} {b:Af} (hv:AL v b) (hl:b.n.length<=1000000) :
  ∃ w,Bx B0 sh85 85 (v :: fresh g)=some (w :: Cc (Gh D N b).2 :: fresh g)/\AL w (Gh D N b).1:=by
 obtain⟨x,rfl,hx⟩:=hv.get;have hfok:okV (.fn 151 [.ptr [.bool b.li,.bool b.ru,x] 0])=true:=by simp[okV,Ao,hx.ok]
 have hmem:∀ a∈IB b,a.n≠[]/\a.n.length<=1000000:=by
  intro a ha;obtain⟨i,hi,rfl⟩:=bE.1 ha;rw[dj] at hi;constructor
  ·intro he;have:=congrArg List.length he;simp only[IM,cR,dP] at this;omega
  ·simp only[IM,cR];omega
 obtain⟨w,h1,h2⟩:=through_0 (g:=g) (F:=Et D N) hv hfok (heads_is b) (by simpa[IB] using hl) (fun h e e' hq=>Zn h 0 hx hl (by rw[cc] at hq;exact hq))
  (fun h ha=>RQ hD N h (hmem _ ha).2 (hmem _ ha).1) (fun a ha=>dz (XA hD.le (hmem a ha).1) (by decide))
 refine⟨w,D5 (B8 fun _=>.cl) (fn:=fn85) rfl (Pf:=shs85) rfl (xs:=[]) (obs:=[]) rfl rfl (by simp[Ao,okV,hx.ok,fresh]) ?_,h2⟩;unfold fresh at h1 |-;rw[show shs85 [] []=sh85 from rfl,run85,Dp hv,cT,DD hv,bV,bV,Ru hx,bV,heads_fn hx,bV,h1,bV];simp only[Be,Bd,Bj,Bu,Ci,DI,DT,DH,EE,Ie,CM h2,cT,C7 h2];rfl
theorem eachs_run {g:List UInt8} {M:Af->Af×Int} (hM:Rx g M) {v:PV} {b:Af} (hv:AL v b) (hl:b.n.length<=1000000) :
  ∃ w,Bx B0 sh88 88 (v :: fresh g)=some (w :: Cc (GN M b).2 :: fresh g)/\AL w (GN M b).1:=by
 obtain⟨x,rfl,hx⟩:=hv.get;have hfok:okV (.fn 93 [.ptr [.bool b.li,.bool b.ru,x] 0])=true:=by simp[okV,Ao,hx.ok]
 have hmem:∀ a∈b.n.map (CB b.ru),a.n.length<=400000:=by
  intro a ha;obtain⟨i,hi,rfl⟩:=bE.1 ha;simp[CB]
 obtain⟨w,h1,h2⟩:=through_1 (g:=g) (F:=fun a=>IT (M a)) hv hfok (P3 b.ru b.n) (by simpa using hl) (fun h e e' hq=>UO h 0 hx hl (by rw[cc] at hq;exact hq))
  (fun h ha=>each_run hM h (hmem _ ha)) (fun a ha=>dz (orNo_le (hM.le a)) (by decide))
 refine⟨w,D5 (B8 fun _=>.cl) (fn:=fn88) rfl (Pf:=shs88) rfl (xs:=[]) (obs:=[]) rfl rfl (by simp[Ao,okV,hx.ok,fresh]) ?_,h2⟩;unfold fresh at h1 |-;rw[show shs88 [] []=sh88 from rfl,run88,Dp hv,cT,DD hv,bV,bV,Ru hx,bV,W2 hx,bV,h1,bV];simp only[Be,Bd,Bj,Bu,Ci,DI,DT,DH,EE,Ie,CM h2,cT,C7 h2];rfl
def BY (b:Af) (r:Af×Int):Af×Int:=if b.right then r else (AZ,114)
theorem check_0 {g:List UInt8} {v:PV} {b:Af} {r:Af×Int} {rs:List PV} (hv:AL v b) (hl:b.n.length<=1000000) (hrl:rs.length=8)
  (h:b.right=true->∃ w,Bx B0 HD 84 (v :: fresh g)=some (w :: Cc r.2 :: rs)/\AL w r.1) :
  ∃ w rs,Bx B0 Og 48 (v :: fresh g)=some (w :: I (BY b r).2 :: rs)/\AL w (BY b r).1:=by
 have key:∃ w rs,CG (AI B0 fun _=>.cl) HJ Og (v :: fresh g)=some (w :: I (BY b r).2 :: rs)/\AL w (BY b r).1:=by
  unfold fresh BY;rw[run48_0,Dp hv,cT,DD hv,bV,HS hv hl,bV,Cl,bV,AA];cases hb:b.right with
  | false=>exact⟨_,_,rfl,B2⟩
  | true =>
   obtain⟨w,h1,h2⟩:=h hb;unfold fresh at h1;rw[show (!true)=false from rfl];simp only[bA,if_false,if_true,bV,h1,Be,Bd,CM h2,cT,SO,C7 h2];exact⟨_,_,rfl,h2⟩
 obtain⟨w,rs,h1,h2⟩:=key;exact⟨w,rs,D5 (B8 fun _=>.cl) (fn:=HJ) rfl (Pf:=K8) rfl (xs:=[.cv .nilI,.fn 1000084 []]) (obs:=[]) rfl rfl (by simp[Ao,okV,hv.ok,fresh]) h1,h2⟩
theorem check_1 {g:List UInt8} {v:PV} {b:Af} {r:Af×Int} {rs:List PV} (hv:AL v b) (hl:b.n.length<=1000000)
  (h:b.right=true->∃ w,Bx B0 sh85 85 (v :: fresh g)=some (w :: Cc r.2 :: rs)/\AL w r.1) :
  ∃ w rs,Bx B0 Of 48 (v :: fresh g)=some (w :: I (BY b r).2 :: rs)/\AL w (BY b r).1:=by
 have key:∃ w rs,CG (AI B0 fun _=>.cl) HJ Of (v :: fresh g)=some (w :: I (BY b r).2 :: rs)/\AL w (BY b r).1:=by
  unfold fresh BY;rw[run48_1,Dp hv,cT,DD hv,bV,HS hv hl,bV,Cl,bV,AA];cases hb:b.right with
  | false=>exact⟨_,_,rfl,B2⟩
  | true =>
   obtain⟨w,h1,h2⟩:=h hb;unfold fresh at h1;rw[show (!true)=false from rfl];simp only[bA,if_false,if_true,bV,h1,Be,Bd,CM h2,cT,SO,C7 h2];exact⟨_,_,rfl,h2⟩
 obtain⟨w,rs,h1,h2⟩:=key;exact⟨w,rs,D5 (B8 fun _=>.cl) (fn:=HJ) rfl (Pf:=K8) rfl (xs:=[.cv .nilI,.fn 85 []]) (obs:=[]) rfl rfl (by simp[Ao,okV,hv.ok,fresh]) h1,h2⟩
theorem check_2 {g:List UInt8} {v:PV} {b:Af} {r:Af×Int} {rs:List PV} (hv:AL v b) (hl:b.n.length<=1000000)
  (h:b.right=true->∃ w,Bx B0 sh88 88 (v :: fresh g)=some (w :: Cc r.2 :: rs)/\AL w r.1) :
  ∃ w rs,Bx B0 Oe 48 (v :: fresh g)=some (w :: I (BY b r).2 :: rs)/\AL w (BY b r).1:=by
 have key:∃ w rs,CG (AI B0 fun _=>.cl) HJ Oe (v :: fresh g)=some (w :: I (BY b r).2 :: rs)/\AL w (BY b r).1:=by
  unfold fresh BY;rw[run48_2,Dp hv,cT,DD hv,bV,HS hv hl,bV,Cl,bV,AA];cases hb:b.right with
  | false=>exact⟨_,_,rfl,B2⟩
  | true =>
   obtain⟨w,h1,h2⟩:=h hb;unfold fresh at h1;rw[show (!true)=false from rfl];simp only[bA,if_false,if_true,bV,h1,Be,Bd,CM h2,cT,SO,C7 h2];exact⟨_,_,rfl,h2⟩
 obtain⟨w,rs,h1,h2⟩:=key;exact⟨w,rs,D5 (B8 fun _=>.cl) (fn:=HJ) rfl (Pf:=K8) rfl (xs:=[.cv .nilI,.fn 88 []]) (obs:=[]) rfl rfl (by simp[Ao,okV,hv.ok,fresh]) h1,h2⟩
theorem PX {g:List UInt8} {v:PV} {b:Af} {r:Af×Int} {rs:List PV} (hv:AL v b) (hl:b.n.length<=1000000) (hrl:rs.length=8)
  (h:b.right=true->∃ w,Bx B0 HD 84 (v :: fresh g)=some (w :: Cc r.2 :: rs)/\AL w r.1) :
  ∃ w,Al B0 .cl (.fn 19 []) [.str g,v]=some (.tup [w,I (BY b r).2])/\AL w (BY b r).1:=by
 obtain⟨w,rs,h1,h2⟩:=check_0 hv hl hrl h;refine⟨w,call (d:=fun _=>.cl) rfl (by decide) (by simp[Ao,okV,hv.ok]) rfl ?_,h2⟩;unfold fresh at h1;rw[bz,bz,bC,run19,Dp hv,cT,DD hv,bV,of_io,bV];simp only[Be,Bd,Bj,Bu,Ci,DI,DT,DH,h1,bV,CM h2,cT,C7 h2]
theorem scan_any {g:List UInt8} {D:Af->Af->Af×Int} (hD:DyOK g D) (N:Af×Int) {v:PV} {b:Af} (hv:AL v b) (hl:b.n.length<=1000000) :
  ∃ w,Al B0 .cl (.fn 21 []) [.str g,v]=some (.tup [w,I (BY b (Gh D N b)).2])/\AL w (BY b (Gh D N b)).1:=by
 obtain⟨w,rs,h1,h2⟩:=check_1 hv hl fun _=>scan_run hD N hv hl;refine⟨w,call (d:=fun _=>.cl) rfl (by decide) (by simp[Ao,okV,hv.ok]) rfl ?_,h2⟩;unfold fresh at h1;rw[bz,bz,bC,run21,Dp hv,cT,DD hv,bV,of_io,bV];simp only[Be,Bd,Bj,Bu,Ci,DI,DT,DH,h1,bV,CM h2,cT,C7 h2]
theorem each_any {g:List UInt8} {M:Af->Af×Int} (hM:Rx g M) {v:PV} {b:Af} (hv:AL v b) (hl:b.n.length<=1000000) :
  ∃ w,Al B0 .cl (.fn 23 []) [.str g,v]=some (.tup [w,I (BY b (GN M b)).2])/\AL w (BY b (GN M b)).1:=by
 obtain⟨w,rs,h1,h2⟩:=check_2 hv hl fun _=>eachs_run hM hv hl;refine⟨w,call (d:=fun _=>.cl) rfl (by decide) (by simp[Ao,okV,hv.ok]) rfl ?_,h2⟩;unfold fresh at h1;rw[bz,bz,bC,run23,Dp hv,cT,DD hv,bV,of_io,bV];simp only[Be,Bd,Bj,Bu,Ci,DI,DT,DH,h1,bV,CM h2,cT,C7 h2]
def redR (D:Af->Af->Af×Int) (b:Af):Af×Int:=Et D (AZ,102) b
theorem red_run {g:List UInt8} {D:Af->Af->Af×Int} (hD:DyOK g D) {n:Int} (hU:Al B0 .cl (.fn 178 []) [.str g]=some (.tup [.int .i64 n,.bool false])) {v:PV} {b:Af} (hv:AL v b) (hl:b.n.length<=1000000) :
  ∃ w,Al B0 .cl (.fn 19 []) [.str g,v]=some (.tup [w,I (BY b (redR D b)).2])/\AL w (BY b (redR D b)).1:=by
 by_cases hn:b.n=[]
 ·obtain⟨x,rfl,hx⟩:=hv.get;have hR:redR D b=(AZ,102):=by unfold redR Et;rw[hn];rfl
  refine PX hv hl (rs:=[.int .u32 1,.int .i32 0,.int .u32 0,.str g,.bool false,.bool false,.nilS,JM]) rfl fun _=>⟨Gi,?_,?_⟩
  ·rw[hR];exact Y4 hU hv.ok (KK hx) (Gc _ _ _) (by rw[hx.len,hn];rfl)
  ·rw[hR];exact B2
 ·exact PX hv hl rfl fun _=>RQ hD _ hv hl hn
end Go.Ab.Derive2


namespace Go.Ab.Derive2
open Go Go.Ab
theorem TF {f:Int->Int->Int×NE}:∀ {l:List (Int×Int)} {r:List Int},EK f l=.inr r->r.length=l.length
 | [],r,h=>by unfold EK at h;cases h;rfl
 | p :: l,r,h=>by
  unfold EK at h;split at h;·cases h
  ·split at h;·cases h
   ·rename_i r' hr;cases h;simp[TF hr]
theorem S6 {f:Int->Int×NE}:∀ {l:List Int} {r:List Int},GQ f l=.inr r->r.length=l.length
 | [],r,h=>by unfold GQ at h;cases h;rfl
 | p :: l,r,h=>by
  unfold GQ at h;split at h;·cases h
  ·split at h;·cases h
   ·rename_i r' hr;cases h;simp[S6 hr]
theorem Sy (a b:Af):∀ (n i:Nat),(EN a b i n).length=n
 | 0,_=>rfl
 | n+1,i=>by unfold EN;rw[cA,Sy a b n (i+1)]
theorem In:AZ.n.length<=400000:=by simp[AZ]
theorem dy_le (g:List UInt8) (a b:Af):(Af.dy g a b).1.n.length<=400000:=by
 unfold Af.dy;split;·exact In
 split;·exact In
 split;·exact In
 split;·exact In
 rename_i h1 _ h3 _;split;·exact In
 ·rename_i r hr;have h1:(a.right&&b.right)=true:=by cases h:(a.right&&b.right)<;>simp_all
  simp only[bB] at h1;have hs:=Tq h1.1 h1.2 (Decidable.not_not.1 h3);show r.length<=400000;rw[TF hr,Sy];have:=hs.2.1;omega
theorem mon_le (g:List UInt8) (a:Af):(Af.mon g a).1.n.length<=400000:=by
 unfold Af.mon;split;·exact In
 split;·exact In
 split;·exact In
 rename_i h1 _ _;split;·exact In
 ·rename_i r hr;have h1:a.right=true:=by cases h:a.right<;>simp_all
  show r.length<=400000;rw[S6 hr];have:=Gu h1;omega
end Go.Ab.Derive2


namespace Go.Ab
def WV (memo:FuncId->List PV->Option PV) (c:Ha):Ha:=fun E h dep g args e =>
 match dep,memo g args with
 | 0,some r=>some (r,[],e)
 | _,_=>c E h dep g args e
def Ou (memo:FuncId->List PV->Option PV) (sp:FuncId->(Nm->Option Ob)->List PV->Option AK) (tab:FuncId->Option At):Nat->Ba
 | 0=>Ec sp tab 0
 | n+1=>{Ec sp tab 0 with call:=WV memo (IG (Ou memo sp tab n) n tab),io:=Gp (Ou memo sp tab n) n tab}
def evalFm (memo:FuncId->List PV->Option PV) (sp:FuncId->(Nm->Option Ob)->List PV->Option AK) (tab:FuncId->Option At) (n:Nat):Ha:=(Ou memo sp tab n).call
section memo
variable {memo:FuncId->List PV->Option PV} {sp:FuncId->(Nm->Option Ob)->List PV->Option AK} {tab:FuncId->Option At}
 (hm:∀ g args r,memo g args=some r->∃ n,Bc sp tab n Unit AD 0 g args ()=some (r,[],()))
include hm
theorem evalMm_le:∀ n,Gt (Ou memo sp tab n) (Ec sp tab):=by
 intro n;induction n with
 | zero=>exact Xj 0
 | succ n ih =>
  have hk:=VF ih n tab;refine Gt.of_tail ⟨fun k=>rfl,?_,fun k=>rfl,fun k=>rfl,fun k=>rfl,fun g dst σ vs out h=>W3 ih n tab g dst σ vs out h⟩ rfl rfl rfl rfl;intro E1 E2 RE h1 h2 hh dep g args e1 e2 he r obs e1' h;simp only[Ou,WV] at h;split at h
  ·rename_i r' hr;cases h;obtain⟨m,hm'⟩:=hm g args r hr;obtain⟨_,rfl,a,ha⟩:=Sm m Unit E2 (fun _ e=>e2=e) AD (fun k=>h2 (k - 1)) (fun _ _ _ _ _ _ _ h=>by cases h) 0 g args () e2 rfl r [] () hm';exact⟨e2,he,a,fun k hk=>ha (k+1) (by omega)⟩
  ·exact hk E1 E2 RE h1 h2 hh _ g args e1 e2 he r obs e1' h
theorem ev_memo {n:Nat} {g:FuncId} {args:List PV} {r:PV} (h:evalFm memo sp tab n Unit AD 0 g args ()=some (r,[],())):∃ m,Bc sp tab m Unit AD 0 g args ()=some (r,[],()):=by
 obtain⟨m,hm'⟩:=Sq (evalMm_le hm n) g args h;exact⟨m,hm' m (bF _)⟩
end memo
mutual
def sameV:PV->PV->Bool
 | .bool a,.bool b=>a==b
 | .int k n,.int k' n'=>decide (k=k')&&decide (n=n')
 | .str s,.str s'=>decide (s=s')
 | .nilS,.nilS=>true
 | .nilI,.nilI=>true
 | .agg cs,.agg cs'=>MH cs cs'
 | .sl k xs f,.sl k' xs' f'=>decide (k=k')&&(f==f')&&MH xs xs'
 | _,_=>false
def MH:List PV->List PV->Bool
 | [],[]=>true
 | x :: xs,y :: ys=>sameV x y&&MH xs ys
 | _,_=>false
end
mutual
theorem sameV_eq:∀ (x y:PV),sameV x y=true->x=y
 | x,y,h=>by
  unfold sameV at h;split at h;·simpa using h
  ·simp only[bB,decide_eq_true_eq] at h;rw[h.1,h.2]
  ·simp only[decide_eq_true_eq] at h;rw[h]
  ·rfl
  ·rfl
  ·rename_i cs cs';rw[PF cs cs' h]
  ·rename_i k xs f k' xs' f';simp only[bB,decide_eq_true_eq,beq_iff_eq] at h;rw[h.1.1,h.1.2,PF xs xs' h.2]
  ·cases h
theorem PF:∀ (xs ys:List PV),MH xs ys=true->xs=ys
 | xs,ys,h=>by
  unfold MH at h;split at h;·rfl
  ·rename_i x xs y ys;simp only[bB] at h;rw[sameV_eq x y h.1,PF xs ys h.2]
  ·cases h
end
abbrev J1:=List (FuncId×List PV×PV)
def Ql:J1->FuncId->List PV->Option PV
 | [],_,_=>none
 | p :: l,g,args=>if p.1=g/\MH p.2.1 args=true then some p.2.2 else Ql l g args
def JK (sp:FuncId->(Nm->Option Ob)->List PV->Option AK) (tab:FuncId->Option At) (l:J1):Prop :=
 ∀ p∈l,∃ n,Bc sp tab n Unit AD 0 p.1 p.2.1 ()=some (p.2.2,[],())
theorem O6 {sp:FuncId->(Nm->Option Ob)->List PV->Option AK} {tab:FuncId->Option At}:JK sp tab []:=fun _ h=>by cases h
theorem CZ {sp:FuncId->(Nm->Option Ob)->List PV->Option AK} {tab:FuncId->Option At} {g:FuncId} {args:List PV} {r:PV} {l:J1}
  (h:∃ n,Bc sp tab n Unit AD 0 g args ()=some (r,[],())) (hl:JK sp tab l):JK sp tab ((g,args,r) :: l):=fun p hp=>by
 rcases bH.1 hp with rfl | hp;·exact h
 ·exact hl p hp
theorem Vg {sp:FuncId->(Nm->Option Ob)->List PV->Option AK} {tab:FuncId->Option At}:∀ {l:J1},JK sp tab l->∀ g args r,Ql l g args=some r->∃ n,Bc sp tab n Unit AD 0 g args ()=some (r,[],())
 | [],_,_,_,_,h=>by cases h
 | p :: l,hl,g,args,r,h=>by
  unfold Ql at h;split at h
  ·rename_i hp;cases h;have:=hl p bT
   rwa [hp.1,PF _ _ hp.2] at this
  ·exact Vg (fun q hq=>hl q (bM _ hq)) g args r h
theorem BI {sp:FuncId->(Nm->Option Ob)->List PV->Option AK} {tab:FuncId->Option At} {l:J1} (hl:JK sp tab l) {n:Nat} {g:FuncId} {args:List PV} {r:PV}
  (h:evalFm (Ql l) sp tab n Unit AD 0 g args ()=some (r,[],())):∃ m,Bc sp tab m Unit AD 0 g args ()=some (r,[],()):=ev_memo (Vg hl) h
end Go.Ab

