/-
  Part 14 of a proof: a machine of our own for the given program, its laws, and what it says of the program. Nothing here is a claim by itself.
-/
import Derived.Test.YtbeonejdegijfaaGreatDoorK11
import Derived.Test.YtbeonejdegijfaaGreatDoorK12
import Derived.Test.YtbeonejdegijfaaGreatDoorK13
import Derived.Test.YtbeonejdegijfaaGreatDoorProg
import Derived.WalkKit
import Derived.LaidEql
import Derived.Stop.Asserts
import Derived.RowKitTokens
import Derived.Test.YtbeonejdegijfaaGreatDoorK01
import Derived.Lib.Builder
import Derived.Lib.UnsafeStr
import Derived.Lib.Bytealg
import Derived.Lib.AppendZerosOnto
import Derived.Lib.Walk
import Derived.Lib.SliceRun
import Derived.Laws.Externs
import Derived.Shelf.RegionOpenPlain
import Derived.Shelf.Strings.Replace
import Derived.Shelf.Strconv.Itoa4
import Derived.Lib.Strings
import Derived.Conc.MuLone
import Derived.Laws.LoneSync
import Derived.KernelRfl
import Derived.Test.YtbeonejdegijfaaGreatDoorK05
import Derived.Test.YtbeonejdegijfaaGreatDoorK03
import Derived.ChangeArms
import Derived.ChangeSlices
import Derived.ChangeMaps5
import Derived.JoinedOf
import Derived.RowKit
import Derived.Test.YtbeonejdegijfaaGreatDoorRows
import Derived.ProofKit
import Derived.ChangeSame
import Derived.ChangeVars
import Derived.LaidLaws
import Derived.LaidHandle
import Derived.Stop.Joined
import Derived.Carry
import Derived.Stop.LaidTwo
import Derived.Stop.LaidErr
import Derived.LaidSub
import Derived.Lib.LaidTab
import Derived.Shelf.Vars
import Derived.Handed
set_option linter.all false

namespace Go.Ab.Derive2
open Go Go.Ab
def E0 (g:List UInt8) (a b:Af):Af×Int:=if H8 g then Af.dy g a b else (Sh.dyA g a b,Sh.dyE g a b)
def Gd (g:List UInt8) (a:Af):Af×Int:=if H0 g then Af.mon g a else (Sh.monA g a,Sh.monE g a)
theorem sh_le (a b:Af) (g:List UInt8):(Sh.dyA g a b).n.length<=400000:=by
 cases h:(a.right&&b.right) with
 | false=>rw[(Sh.dy_not h).2];simp[AZ]
 | true =>
  rw[bB] at h;have h1:=Gu h.1;have h2:=Gu h.2;exact Sh.dyA_len g (by omega) (by omega)
theorem shm_le (a:Af) (g:List UInt8):(Sh.monA g a).n.length<=400000:=by
 cases h:a.right with
 | false=>rw[(Sh.mon_not h).2];simp[AZ]
 | true =>
  have h1:=Gu h;exact Sh.monA_len g (by omega)
theorem PQ (g:List UInt8):DyOK g (E0 g) where
 run {v u a b} hv hu ha hb:=by
  unfold E0;cases hg:H8 g with
  | true=>exact dyn_run hv hu (by omega) (by omega) hg
  | false =>
   obtain⟨w,h1,h2⟩:=Sh.dy_run g hv hu ha hb;refine⟨w,call (d:=fun _=>.cl) rfl (by decide) (by simp[Ao,okV,hv.ok,hu.ok]) rfl ?_,h2⟩;rw[bz,bz,bz,bC,run16,Dp hv,cT,Dp hu,cT,Te,bV,hg];simp only[AA,bA,if_false,DD hv,DD hu,bV,h1,B3,bX,bY,CM h2,cT,C7 h2]
 le a b:=by
  unfold E0;split;·exact dy_le g a b
  ·exact sh_le a b g
theorem monAny_ok (g:List UInt8):Rx g (Gd g) where
 run {v a} hv ha:=by
  unfold Gd;cases hg:H0 g with
  | true=>exact monn_run hv (by omega) hg
  | false =>
   obtain⟨w,h1,h2⟩:=Sh.mon_run g hv (by omega);refine⟨w,call (d:=fun _=>.cl) rfl (by decide) (by simp[Ao,okV,hv.ok]) rfl ?_,h2⟩;rw[bz,bz,bC,run13,Dp hv,cT,SE,bV,hg];simp only[AA,bA,if_false,DD hv,bV,h1,B3,bX,bY,CM h2,cT,C7 h2]
 le a:=by
  unfold Gd;split;·exact mon_le g a
  ·exact shm_le a g
theorem Ly:AZ.right=false:=rfl
theorem X2 {f:Int->Int->Int×NE}:∀ {l:List (Int×Int)} {c:Int},EK f l=.inl c->c≠0
 | [],c,h=>by unfold EK at h;cases h
 | p :: l,c,h=>by
  unfold EK at h;split at h;·rename_i hp;cases h;exact hp
  ·split at h;·rename_i c' hc;cases h;exact X2 hc
   ·cases h
theorem WU {f:Int->Int×NE}:∀ {l:List Int} {c:Int},GQ f l=.inl c->c≠0
 | [],c,h=>by unfold GQ at h;cases h
 | p :: l,c,h=>by
  unfold GQ at h;split at h;·rename_i hp;cases h;exact hp
  ·split at h;·rename_i c' hc;cases h;exact WU hc
   ·cases h
def Ev (r:Af×Int):Prop:=r.2=0↔r.1.right=true
theorem F9 {c:Int} (h:c≠0):Ev (AZ,c):=⟨fun h'=>absurd h' h,fun h'=>by rw[Ly] at h';cases h'⟩
theorem Mc {a:Af} (h:a.right=true):Ev (a,0):=⟨fun _=>h,fun _=>rfl⟩
theorem dy_fits (g:List UInt8) (a b:Af):Ev (Af.dy g a b):=by
 unfold Af.dy;split;·exact F9 (by decide)
 split;·exact F9 (by decide)
 split;·rename_i h;exact F9 h
 split;·exact F9 (by decide)
 rename_i h1 _ h3 _;split;·rename_i c hc;exact F9 (X2 hc)
 ·rename_i r hr;have h1:(a.right&&b.right)=true:=by cases h:(a.right&&b.right)<;>simp_all
  simp only[bB] at h1;have hz:=Decidable.not_not.1 h3;have hs:=Tq h1.1 h1.2 hz;have hl:r.length=(a.sz b).1.toNat:=by rw[TF hr,Sy]
  refine Mc ?_;have sa:=N8 h1.1;have sb:=N8 h1.2;unfold Af.right;simp only[ep,ck,cN];cases ha:a.li with
  | true =>
   simp only[d7,if_true,decide_eq_true_eq];have:=hs.2.1;omega
  | false =>
   cases hb:b.li with
   | true =>
    simp only[Bool.or_true,if_true,decide_eq_true_eq];have:=hs.2.1;omega
   | false =>
    simp only[Bool.or_self,bA,if_false,decide_eq_true_eq];rw[hl];simp[Af.sz,ha,sb.1 hb]
theorem mon_fits (g:List UInt8) (a:Af):Ev (Af.mon g a):=by
 unfold Af.mon;split;·exact F9 (by decide)
 split;·exact F9 (by decide)
 split;·exact F9 (by decide)
 rename_i h1 _ _;split;·rename_i c hc;exact F9 (WU hc)
 ·rename_i r hr;have h1:a.right=true:=by cases h:a.right<;>simp_all
  refine Mc ?_;have sa:=N8 h1;have hl:=S6 hr;unfold Af.right;simp only[ep,ck,cN];cases ha:a.li with
  | true=>simp only[if_true,decide_eq_true_eq];omega
  | false=>simp only[bA,if_false,decide_eq_true_eq];rw[hl];exact sa.1 ha
theorem Vw (g:List UInt8) (a b:Af):Ev (E0 g a b):=by
 unfold E0;split;·exact dy_fits g a b
 ·exact (Sh.dy_right g a b).1
theorem Zc (g:List UInt8) (a:Af):Ev (Gd g a):=by
 unfold Gd;split;·exact mon_fits g a
 ·exact (Sh.mon_right g a).1
theorem VT {D:Af->Af->Af×Int} (hD:∀ a b,Ev (D a b)):∀ (l:List Af) (o:Af),o.right=true->Ev (HF D l o)
 | [],o,h=>Mc h
 | x :: xs,o,h=>by
  unfold HF;split;·rename_i h0;exact VT hD xs _ ((hD x o).1 h0)
  ·rename_i h0;exact F9 h0
theorem XM {b:Af} (h:b.right=true) {n:Int} (hn:n∈b.n):(CB b.ru n).right=true:=by
 unfold Af.right;cases hr:b.ru with
 | false=>rfl
 | true =>
  have:=Sh.right_runes h hr n hn;simp[CB,this]
theorem VU {D:Af->Af->Af×Int} (hD:∀ a b,Ev (D a b)) (N:Af×Int) {b:Af} (hr:∀ n∈b.n,(CB b.ru n).right=true) (hn:b.n≠[]):Ev (Et D N b):=by
 obtain⟨r,m,hb,hbr⟩:=Tv hn;unfold Et;rw[hbr];exact VT hD _ _ (hr m (by rw[hb];simp))
theorem orNo_fits {r:Af×Int} (h:Ev r):Ev (IT r):=by
 unfold IT;by_cases h0:r.2=0
 ·rw[if_pos h0,h0];exact Mc (h.1 h0)
 ·rw[if_neg h0];exact F9 h0
theorem U4 {F:Af->Af×Int}:∀ {l:List Af},(∀ a∈l,Ev (F a))->match FL F l with
  | .inl c=>c≠0
  | .inr r=>r.length=l.length/\∀ x∈r,x.right=true
 | [],_=>⟨rfl,by simp⟩
 | a :: l,h=>by
  have ih:=U4 fun b hb=>h b (bM _ hb);have ha:=h a bT;rw[Sr];by_cases h0:(F a).2=0
  ·rw[if_pos h0];revert ih;cases FL F l with
   | inl c=>exact id
   | inr r =>
    rintro ⟨e1,e2⟩;refine⟨by simp[e1],?_⟩;intro x hx;rcases bH.1 hx with rfl | hx;·exact ha.1 h0
    ·exact e2 x hx
  ·rw[if_neg h0];exact h0
theorem Xn:∀ {l:List Af},(∀ a∈l,a.n.length=1)->(Cd l).length=l.length
 | [],_=>rfl
 | a :: l,h=>by
  have:=Xn fun b hb=>h b (bM _ hb);unfold Cd at this |-;rw[cH,cm,this,h a bT,cA];omega
theorem gat_right {li ru:Bool} {l:List Af} (hl:∀ x∈l,x.right=true):(DK li l≠0/\E5 li ru l=AZ)\/(DK li l=0/\(E5 li ru l).right=true/\(E5 li ru l).li=li/\(E5 li ru l).n.length=l.length):=by
 by_cases h0:DK li l=0
 ·right;have h0':=h0;have hg:E5 li ru l=⟨li,if l.length=0 then ru else (Dy l).ru,Cd l⟩:=by unfold E5;rw[if_pos h0]
  unfold DK at h0;split at h0;·cases h0
  split at h0;·cases h0
  split at h0;·cases h0
  split at h0;·cases h0
  split at h0;·cases h0
  rename_i _ h2 h3 h4 h5
  have hone:∀ a∈l,a.n.length=1:=by
   intro a ha
   have:a.li=false:=by
    cases hq:a.li with
    | false=>rfl
    | true=>exact absurd (eY.2 ⟨a,ha,hq⟩) h2
   exact (N8 (hl a ha)).1 this
  have hlen:=Xn hone;refine⟨h0',?_,by rw[hg],by rw[hg];exact hlen⟩;rw[hg];refine Sh.right_mk ?_ ?_
  ·intro hru n hn;obtain⟨a,ha,hna⟩:=dh.1 hn;have hne:l.length≠0:=by intro h;rw[dL.1 h] at ha;cases ha
   rw[if_neg hne] at hru
   have har:a.ru=true:=by
    cases hq:a.ru with
    | true=>rfl
    | false=>exact absurd (eY.2 ⟨a,ha,by rw[hq,hru];rfl⟩) h3
   exact Sh.right_runes (hl a ha) har n hna
  ·cases hli:li with
   | true=>simp only[if_true];omega
   | false =>
    simp only[bA,if_false];rw[hlen];exact cM fun hq=>h4 ⟨hli,hq⟩
 ·left;exact⟨h0,XT h0⟩
theorem WE {F:Af->Af×Int} {b:Af} {l:List Af} (hF:∀ a∈l,Ev (F a)):Ev (Cz F b l)/\((Cz F b l).2=0->(Cz F b l).1.n.length=l.length/\(Cz F b l).1.li=b.li)/\(Cz F b l).1.n.length<=l.length:=by
 have h:=U4 hF;unfold Cz;revert h;cases FL F l with
 | inl c =>
  intro h;exact⟨F9 h,fun h'=>absurd h' h,de _⟩
 | inr r =>
  rintro ⟨h1,h2⟩;dsimp only
  rcases gat_right (li:=b.li) (ru:=b.ru) h2 with ⟨h3,h4⟩ | ⟨h3,h4,h5,h6⟩;·rw[h4];exact⟨F9 h3,fun h'=>absurd h' h3,de _⟩
  ·rw[h3];exact⟨Mc h4,fun _=>⟨by rw[h6,h1],h5⟩,by rw[h6,h1];exact bF _⟩
theorem Xa {b:Af} (hr:b.right=true):∀ a∈IB b,(∀ n∈a.n,(CB a.ru n).right=true)/\a.n≠[]:=by
 intro a ha;obtain⟨i,hi,rfl⟩:=bE.1 ha;rw[dj] at hi;refine⟨fun n hn=>XM hr (cw hn),?_⟩;intro he;have:=congrArg List.length he;simp only[IM,cR,dP] at this;omega
end Go.Ab.Derive2


namespace Go.Ab.Derive2
open Go Go.Ab
def Jr (g:List UInt8):Option Int:=if g=E6 then some 0 else if g=FP then some 1 else if g=HI then some 1 else if g=gOr then some 0 else none
theorem unit_none {g:List UInt8} (h:Jr g=none):Al B0 .cl (.fn 178 []) [.str g]=some (.tup [.int .i64 0,.bool false]):=by
 unfold Jr at h;split at h;·cases h
 split at h;·cases h
 split at h;·cases h
 split at h;·cases h
 rename_i h1 h2 h3 h4;refine call (d:=fun _=>.cl) rfl (by decide) rfl rfl ?_;rw[bz,bC,run178];have e:(Hh .str [] (.str [43]) (.int .i64 0))=some [.str E6,.int .i64 0]:=rfl;have e2:(Hh .str [.str E6,.int .i64 0] (.str [195,151]) (.int .i64 1))=some [.str E6,.int .i64 0,.str FP,.int .i64 1]:=rfl;have e3:(Hh .str [.str E6,.int .i64 0,.str FP,.int .i64 1] (.str [226,136,167]) (.int .i64 1))=some [.str E6,.int .i64 0,.str FP,.int .i64 1,.str HI,.int .i64 1]:=rfl;have e4:(Hh .str [.str E6,.int .i64 0,.str FP,.int .i64 1,.str HI,.int .i64 1] (.str [226,136,168]) (.int .i64 0))=some [.str E6,.int .i64 0,.str FP,.int .i64 1,.str HI,.int .i64 1,.str gOr,.int .i64 0]:=rfl;rw[e,bV,e2,bV,e3,bV,e4,bV]
 have e5:Dc (.str g) [.str E6,.int .i64 0,.str FP,.int .i64 1,.str HI,.int .i64 1,.str gOr,.int .i64 0]=some none:=by
  rw[B4 h1,B4 h2,B4 h3,B4 h4];rfl
 unfold QG;rw[e5];rfl
theorem unit_some {g:List UInt8} {n:Int} (h:Jr g=some n) {v:PV} {b:Af} (hv:AL v b) (hr:b.right=true) (hn:b.n=[]):Al B0 .cl (.fn 19 []) [.str g,v]=some (.tup [CW false n,I 0]):=by
 have hli:b.li=true:=by
  cases hq:b.li with
  | true=>rfl
  | false=>have:=(N8 hr).1 hq;rw[hn] at this;cases this
 obtain⟨x,rfl,hx⟩:=hv.get;rw[hli];rw[hn] at hx;have key:∀ (u:PV) (f:∃ n,Bc Bb A1 n Unit AD 0 19 [.str g,u] ()=some (.tup [CW false n,I 0],[],())),True:=fun _ _=>trivial;generalize hq:([]:List Int)=q at hx;unfold Jr at h;split at h
 ·rename_i hg;subst hg;cases h;cases b.ru<;>cases hx with
  | nil=>first | (obtain⟨n,h⟩:=bh;exact Cv (by decide) h rfl rfl) | (obtain⟨n,h⟩:=be;exact Cv (by decide) h rfl rfl)
  | sl l f=>subst hq;cases f<;>first | (obtain⟨n,h⟩:=bg;exact Cv (by decide) h rfl rfl) | (obtain⟨n,h⟩:=bf;exact Cv (by decide) h rfl rfl) | (obtain⟨n,h⟩:=bc;exact Cv (by decide) h rfl rfl) | (obtain⟨n,h⟩:=ba;exact Cv (by decide) h rfl rfl)
 split at h
 ·rename_i hg;subst hg;cases h;cases b.ru<;>cases hx with
  | nil=>first | (obtain⟨n,h⟩:=aZ;exact Cv (by decide) h rfl rfl) | (obtain⟨n,h⟩:=aW;exact Cv (by decide) h rfl rfl)
  | sl l f=>subst hq;cases f<;>first | (obtain⟨n,h⟩:=aY;exact Cv (by decide) h rfl rfl) | (obtain⟨n,h⟩:=aX;exact Cv (by decide) h rfl rfl) | (obtain⟨n,h⟩:=aV;exact Cv (by decide) h rfl rfl) | (obtain⟨n,h⟩:=aU;exact Cv (by decide) h rfl rfl)
 split at h
 ·rename_i hg;subst hg;cases h;cases b.ru<;>cases hx with
  | nil=>first | (obtain⟨n,h⟩:=aT;exact Cv (by decide) h rfl rfl) | (obtain⟨n,h⟩:=aQ;exact Cv (by decide) h rfl rfl)
  | sl l f=>subst hq;cases f<;>first | (obtain⟨n,h⟩:=aS;exact Cv (by decide) h rfl rfl) | (obtain⟨n,h⟩:=aR;exact Cv (by decide) h rfl rfl) | (obtain⟨n,h⟩:=aP;exact Cv (by decide) h rfl rfl) | (obtain⟨n,h⟩:=aO;exact Cv (by decide) h rfl rfl)
 split at h
 ·rename_i hg;subst hg;cases h;cases b.ru<;>cases hx with
  | nil=>first | (obtain⟨n,h⟩:=aM;exact Cv (by decide) h rfl rfl) | (obtain⟨n,h⟩:=aJ;exact Cv (by decide) h rfl rfl)
  | sl l f=>subst hq;cases f<;>first | (obtain⟨n,h⟩:=aL;exact Cv (by decide) h rfl rfl) | (obtain⟨n,h⟩:=aK;exact Cv (by decide) h rfl rfl) | (obtain⟨n,h⟩:=aI;exact Cv (by decide) h rfl rfl) | (obtain⟨n,h⟩:=aH;exact Cv (by decide) h rfl rfl)
 cases h
def FM (g:List UInt8) (b:Af):Af×Int :=
 Et (E0 g) (match Jr g with | some n=>(CB false n,0) | none=>(AZ,102)) b
theorem redG_run (g:List UInt8) {v:PV} {b:Af} (hv:AL v b) (hl:b.n.length<=1000000) :
  ∃ w,Al B0 .cl (.fn 19 []) [.str g,v]=some (.tup [w,I (BY b (FM g b)).2])/\AL w (BY b (FM g b)).1:=by
 by_cases hn:b.n=[]
 ·cases hu:Jr g with
  | none =>
   have:=red_run (PQ g) (unit_none hu) hv hl;have e:FM g b=redR (E0 g) b:=by unfold FM redR;rw[hu]
   rw[e];exact this
  | some n =>
   have e:FM g b=(CB false n,0):=by unfold FM Et;rw[hu,hn];rfl
   cases hr:b.right with
   | true =>
    refine⟨CW false n,?_,?_⟩;·rw[unit_some hu hv hr hn,e];unfold BY;rw[if_pos hr]
    ·rw[e];unfold BY;rw[if_pos hr];exact Qq _ _
   | false=>exact PX (r:=FM g b) (rs:=[I 0,I 0,I 0,I 0,I 0,I 0,I 0,I 0]) hv hl rfl fun h=>by rw[hr] at h;cases h
 ·exact PX hv hl rfl fun _=>RQ (PQ g) _ hv hl hn
theorem redG_fits (g:List UInt8) {b:Af} (hr:b.right=true):Ev (FM g b):=by
 by_cases hn:b.n=[]
 ·unfold FM Et;rw[hn];cases Jr g with
  | none=>exact F9 (by decide)
  | some n=>exact Mc rfl
 ·exact VU (Vw g) _ (fun n hn=>XM hr hn) hn
theorem ZT (g:List UInt8) {b:Af} (hr:b.right=true):Ev (Gh (E0 g) (AZ,102) b)/\((Gh (E0 g) (AZ,102) b).2=0->(Gh (E0 g) (AZ,102) b).1.n.length=b.n.length/\(Gh (E0 g) (AZ,102) b).1.li=b.li)/\(Gh (E0 g) (AZ,102) b).1.n.length<=b.n.length:=by
 have:=WE (b:=b) (l:=IB b) (F:=Et (E0 g) (AZ,102)) fun a ha=>VU (Vw g) _ (Xa hr a ha).1 (Xa hr a ha).2;unfold Gh
 rwa [show (IB b).length=b.n.length by simp[IB]] at this
theorem bi (g:List UInt8) (b:Af):Ev (GN (Gd g) b)/\((GN (Gd g) b).2=0->(GN (Gd g) b).1.n.length=b.n.length)/\(GN (Gd g) b).1.n.length<=b.n.length:=by
 have:=WE (b:=b) (l:=b.n.map (CB b.ru)) (F:=fun a=>IT (Gd g a)) fun a _=>orNo_fits (Zc g a);unfold GN;rw[bS] at this;exact⟨this.1,fun h=>(this.2.1 h).1,this.2.2⟩
theorem redG_le (g:List UInt8) (b:Af):(FM g b).1.n.length<=1000000:=by
 by_cases hn:b.n=[]
 ·unfold FM Et;rw[hn];cases Jr g with
  | none=>exact de _
  | some n=>simp[CB]
 ·exact dz (XA (PQ g).le hn) (by decide)
theorem SM {r:Af×Int} (h:Ev r):(r.2==0)=r.1.right:=by
 rw[cJ,beq_iff_eq];exact h
set_option maxHeartbeats 2000000 in
theorem aj (s:List UInt8) {v:PV} {a:Af} (hv:AL v a):AR (AI B0 (fun _=>.cl)) fn6 (.cl) AD 0 [.cv (.str s),.cv v] ()=some (.bool true,()):=by
 obtain⟨x,rfl,hx⟩:=hv.get;obtain⟨y,hy,hyl⟩:=cut_get hx;have hb:AL (.agg [.bool a.li,.bool a.ru,y]) a.cut:=.mk _ _ _ _ hyl;have hlen:=cut_len a;obtain⟨w,h1,h2⟩:=redG_run (s.take 20) hb (by omega);obtain⟨u,h3,h4⟩:=scan_any (PQ (s.take 20)) (AZ,102) hb (by omega);obtain⟨t,h5,h6⟩:=each_any (monAny_ok (s.take 20)) hb (by omega);rw[run6,KK hx,cT,shown_run,bV];simp only[BP,BH,GC,GB,Gc,H5,bV,hx.len];rw[XJ 40 40 rfl,bV,hy,bV,okSto_cut hyl,cT,stoP_cut hyl,short_run,bV,BH,H5,bV];rw[h1,bV];simp only[B3,bX,bY,bV,CM h2,cT,h3,CM h4,h5,CM h6,HS hb (by omega:a.cut.n.length<=1000000),Cl,AA,GC,Gc,hyl.len,iD,Fw];cases hr:a.cut.right with
 | false =>
  have e1:(BY a.cut (FM (s.take 20) a.cut)).2=114:=by unfold BY;rw[hr];rfl
  have e2:(BY a.cut (Gh (E0 (s.take 20)) (AZ,102) a.cut)).2=114:=by unfold BY;rw[hr];rfl
  have e3:(BY a.cut (GN (Gd (s.take 20)) a.cut)).2=114:=by unfold BY;rw[hr];rfl
  rw[e1,e2,e3];rfl
 | true =>
  have q1:=redG_fits (s.take 20) hr;have q0:=redG_le (s.take 20) a.cut;obtain⟨q2,q3,q6⟩:=ZT (s.take 20) hr;obtain⟨q4,q5,q7⟩:=bi (s.take 20) a.cut;have e1:BY a.cut (FM (s.take 20) a.cut)=FM (s.take 20) a.cut:=by unfold BY;rw[if_pos hr]
  have e2:BY a.cut (Gh (E0 (s.take 20)) (AZ,102) a.cut)=Gh (E0 (s.take 20)) (AZ,102) a.cut:=by unfold BY;rw[if_pos hr]
  have e3:BY a.cut (GN (Gd (s.take 20)) a.cut)=GN (Gd (s.take 20)) a.cut:=by unfold BY;rw[if_pos hr]
  rw[e1] at h2 |-;rw[e2] at h4 |-;rw[e3] at h6 |-;generalize FM (s.take 20) a.cut=A at h2 q1 q0 |-;generalize Gh (E0 (s.take 20)) (AZ,102) a.cut=B at h4 q2 q3 q6 |-;generalize GN (Gd (s.take 20)) a.cut=C at h6 q4 q5 q7 |-;rw[C7 h2,C7 h4,C7 h6,HS h2 q0,HS h4 (by omega),HS h6 (by omega)];obtain⟨b1,b2,b3⟩:(A.2==0)=A.1.right/\(B.2==0)=B.1.right/\(C.2==0)=C.1.right:=⟨SM q1,SM q2,SM q4⟩;obtain⟨u,rfl,hu⟩:=h4.get;obtain⟨t,rfl,ht⟩:=h6.get;rw[b1,b2,b3];simp only[ce,bA,if_false,if_true,bV,LS,beq_self_eq_true,AA,G9,Ho,HV,hu.len,ht.len,Fw]
  have f3:B.2=0->((B.1.n.length:Int)==(a.cut.n.length:Int))=true/\(B.1.li==a.li)=true:=fun h=>by
   obtain⟨h1,h2⟩:=q3 h;rw[h1,h2];exact⟨beq_self_eq_true _,beq_self_eq_true _⟩
  have f5:C.2=0->((C.1.n.length:Int)==(a.cut.n.length:Int))=true:=fun h=>by
   rw[q5 h];exact beq_self_eq_true _
  by_cases hB:B.2=0
  ·obtain⟨g1,g2⟩:=f3 hB;rw[hB,g1,g2];by_cases hC:C.2=0
   ·rw[hC,f5 hC];rfl
   ·have:(C.2 != 0)=true:=by simpa using hC
    rw[this];rfl
  ·have:(B.2 != 0)=true:=by simpa using hB
   rw[this];by_cases hC:C.2=0
   ·rw[hC,f5 hC];rfl
   ·have:(C.2 != 0)=true:=by simpa using hC
    rw[this];rfl
end Go.Ab.Derive2


namespace Go.Proofs.AbAsD
open Go.RowKit Go.Extern.Stop Go.Stop Go.Extern
theorem as_nil (t:Value) (w:World) :
  Calls Tryz.prog 95 #[.nilIface,t] w fun e w'=>e=.returned (.bool false)/\w'=w:=by
 go_enter Tryz.func95,Tryz.ntmps95
 go_wp2
 go_ret
 exact⟨rfl,rfl⟩
def Pr (P Q:TypeId):Prop:=(P=126/\Q=124)\/(P=146/\Q=145)\/(P=154/\Q=153)\/(P=182/\Q=143)
theorem Tryz.valueOf27 {P Q:TypeId} (hp:Pr P Q) (t:Addr) (w:World):(ReflectliteValue.unpack (.iface P (.pointer (some t)))).run Tryz.prog w
  = .ok (.agg #[.pointer (some ⟨9,P,none⟩),.pointer (some ⟨w.heap.size,0,none⟩),.int .u64 150]) (w.alloc (.cells #[.pointer (some t)] P)):=by
 rcases hp with ⟨rfl,rfl⟩ | ⟨rfl,rfl⟩ | ⟨rfl,rfl⟩ | ⟨rfl,rfl⟩<;>kernel_rfl
theorem Tryz.type27 {P Q:TypeId} (hp:Pr P Q) (a:Addr) (w:World):(ReflectliteValue.methodAny (ReflectliteValue.valueError "reflectlite.Value.Type" 0) (fun t _ _ _=>ReflectliteType.toType t) #[.agg #[.pointer (some ⟨9,P,none⟩),.pointer (some a),.int .u64 150]]).run Tryz.prog w
  = .ok (.iface 200 (.agg #[.pointer (some ⟨9,P,none⟩)])) w:=by
 rcases hp with ⟨rfl,rfl⟩ | ⟨rfl,rfl⟩ | ⟨rfl,rfl⟩ | ⟨rfl,rfl⟩<;>kernel_rfl
theorem Tryz.methodKind (h:Value) (w:World):(Go.method 396 200 (.agg #[h]) "Kind").run Tryz.prog w=.ok (253,h) w:=by kernel_rfl
theorem Tryz.kind27 {P Q:TypeId} (hp:Pr P Q) (w:World):((ReflectliteType.abiMethod fun t=>Functor.map (fun a:Nat=>Value.int IntKind.u8 (a:Int)) (Rtype.kind t)) #[.pointer (some ⟨9,P,none⟩)]).run Tryz.prog w=.ok (.int .u8 22) w:=by
 rcases hp with ⟨rfl,rfl⟩ | ⟨rfl,rfl⟩ | ⟨rfl,rfl⟩ | ⟨rfl,rfl⟩<;>kernel_rfl
theorem Tryz.kind25 {P Q:TypeId} (hp:Pr P Q) (w:World):((ReflectliteType.abiMethod fun t=>Functor.map (fun a:Nat=>Value.int IntKind.u8 (a:Int)) (Rtype.kind t)) #[.pointer (some ⟨9,Q,none⟩)]).run Tryz.prog w=.ok (.int .u8 25) w:=by
 rcases hp with ⟨rfl,rfl⟩ | ⟨rfl,rfl⟩ | ⟨rfl,rfl⟩ | ⟨rfl,rfl⟩<;>kernel_rfl
theorem rlm (z:Sem Value) (f:TypeId->Addr->Nat->Nat->Sem Value) (v:Value) :
  ReflectliteValue.method z f #[v]=(do match <-ReflectliteValue.parts v with | none=>z | some (t,a,fl)=>f t a fl (fl%32)):=rfl
theorem Tryz.parts27 {P Q:TypeId} (hp:Pr P Q) (a:Addr) (w:World):(ReflectliteValue.parts (.agg #[.pointer (some ⟨9,P,none⟩),.pointer (some a),.int .u64 150])).run Tryz.prog w=.ok (some (P,a,150)) w:=by
 rcases hp with ⟨rfl,rfl⟩ | ⟨rfl,rfl⟩ | ⟨rfl,rfl⟩ | ⟨rfl,rfl⟩<;>kernel_rfl
theorem Tryz.isNil27 {P Q:TypeId} (hp:Pr P Q) (a p:Addr) (W:World) (ha:W.cell? a=some (.pointer (some p))) :
  (ReflectliteValue.method (ReflectliteValue.valueError "reflectlite.Value.IsNil" 0) ReflectliteValue.isNil #[.agg #[.pointer (some ⟨9,P,none⟩),.pointer (some a),.int .u64 150]]).run Tryz.prog W=.ok (.bool false) W:=by
 rw[rlm];simp only[Sem.run_bind,(Tryz.parts27 hp),Result.andThen]
 rcases hp with ⟨rfl,rfl⟩ | ⟨rfl,rfl⟩ | ⟨rfl,rfl⟩ | ⟨rfl,rfl⟩ <;>
  (simp[ReflectliteValue.isNil,loadVar,isAgg,underlying,Tryz.underlying126,Tryz.underlying146,Tryz.underlying154,Tryz.underlying182,ha,Result.andThen])
theorem Tryz.methodElem (h:Value) (w:World):(Go.method 396 200 (.agg #[h]) "Elem").run Tryz.prog w=.ok (267,.agg #[h]) w:=by kernel_rfl
theorem Tryz.methodImplements (h:Value) (w:World):(Go.method 396 200 (.agg #[h]) "Implements").run Tryz.prog w=.ok (268,.agg #[h]) w:=by kernel_rfl
theorem Tryz.methodAssignableTo (h:Value) (w:World):(Go.method 396 200 (.agg #[h]) "AssignableTo").run Tryz.prog w=.ok (265,.agg #[h]) w:=by kernel_rfl
theorem Tryz.elem27 {P Q:TypeId} (hp:Pr P Q) (w:World):(ReflectliteType.method ReflectliteType.elem #[.agg #[.pointer (some ⟨9,P,none⟩)]]).run Tryz.prog w=.ok (.iface 200 (.agg #[.pointer (some ⟨9,Q,none⟩)])) w:=by
 rcases hp with ⟨rfl,rfl⟩ | ⟨rfl,rfl⟩ | ⟨rfl,rfl⟩ | ⟨rfl,rfl⟩<;>kernel_rfl
theorem Tryz.implements25 {P Q:TypeId} (hp:Pr P Q) (w:World):(ReflectliteType.relation "Implements" ReflectliteType.implements_ #[.agg #[.pointer (some ⟨9,Q,none⟩)],.iface 200 (.agg #[.pointer (some ⟨9,63,none⟩)])]).run Tryz.prog w=.ok (.bool true) w:=by
 rcases hp with ⟨rfl,rfl⟩ | ⟨rfl,rfl⟩ | ⟨rfl,rfl⟩ | ⟨rfl,rfl⟩<;>kernel_rfl
theorem Tryz.typeOf25 {P Q:TypeId} (hp:Pr P Q) (v:Value) (w:World):(ReflectliteType.typeOf #[.iface Q v]).run Tryz.prog w=.ok (.iface 200 (.agg #[.pointer (some ⟨9,Q,none⟩)])) w:=by
 rcases hp with ⟨rfl,rfl⟩ | ⟨rfl,rfl⟩ | ⟨rfl,rfl⟩ | ⟨rfl,rfl⟩<;>kernel_rfl
theorem Tryz.assignable25 {P Q:TypeId} (hp:Pr P Q) (w:World):(ReflectliteType.relation "AssignableTo" ReflectliteType.assignableTo #[.agg #[.pointer (some ⟨9,Q,none⟩)],.iface 200 (.agg #[.pointer (some ⟨9,Q,none⟩)])]).run Tryz.prog w=.ok (.bool true) w:=by
 rcases hp with ⟨rfl,rfl⟩ | ⟨rfl,rfl⟩ | ⟨rfl,rfl⟩ | ⟨rfl,rfl⟩<;>kernel_rfl
theorem Tryz.elemOf27 {P Q:TypeId} (hp:Pr P Q) (w:World):(Rtype.elem? P).run Tryz.prog w=.ok (some Q) w:=by
 rcases hp with ⟨rfl,rfl⟩ | ⟨rfl,rfl⟩ | ⟨rfl,rfl⟩ | ⟨rfl,rfl⟩<;>kernel_rfl
theorem Tryz.mk25 {P Q:TypeId} (hp:Pr P Q) (p:Addr) (w:World):(ReflectliteValue.mk Q p ReflectliteValue.flagAddr).run Tryz.prog w=.ok (.agg #[.pointer (some ⟨9,Q,none⟩),.pointer (some p),.int .u64 409]) w:=by
 rcases hp with ⟨rfl,rfl⟩ | ⟨rfl,rfl⟩ | ⟨rfl,rfl⟩ | ⟨rfl,rfl⟩<;>kernel_rfl
theorem Tryz.elemV27 {P Q:TypeId} (hp:Pr P Q) (a p:Addr) (W:World) (ha:W.cell? a=some (.pointer (some p))) :
  (ReflectliteValue.method (ReflectliteValue.valueError "reflectlite.Value.Elem" 0) ReflectliteValue.elem #[.agg #[.pointer (some ⟨9,P,none⟩),.pointer (some a),.int .u64 150]]).run Tryz.prog W
   = .ok (.agg #[.pointer (some ⟨9,Q,none⟩),.pointer (some p),.int .u64 409]) W:=by
 rw[rlm];simp only[Sem.run_bind,(Tryz.parts27 hp),Result.andThen];have g0:=@Tryz.elemOf27 _ _ hp;have g1:=@Tryz.mk25 _ _ hp
 rcases hp with ⟨rfl,rfl⟩ | ⟨rfl,rfl⟩ | ⟨rfl,rfl⟩ | ⟨rfl,rfl⟩ <;>
  (simp[ReflectliteValue.elem,loadVar,isAgg,underlying,Tryz.underlying126,Tryz.underlying146,Tryz.underlying154,Tryz.underlying182,ha,Result.andThen,g0,g1])
theorem rls (v x:Value):ReflectliteValue.set #[v,x]=(do
  let (some (dst,a,fl),some (src,b,_)):=(<-ReflectliteValue.parts v,<-ReflectliteValue.parts x)
   | unsupported (.noEntry "extern/(internal/reflectlite.Value).Set.zeroValue")
  if fl / ReflectliteValue.flagAddr%2==0 then unsupported (.noEntry "extern/(internal/reflectlite.Value).Set.unaddressable")
  let val <-loadVar src b
  if <-Rtype.directlyAssignable dst src then storeVar dst a val
  else if <-Rtype.implements dst src then
   if (<-Rtype.kind src)==20 then
    match val with
    | .nilIface=>unsupported (.noEntry "extern/reflectlite: a nil value of one interface type handed on as a value of another")
    | _=>storeVar dst a val
   else storeVar dst a (.iface src val)
  else panicString ("reflectlite.Set: value of type "++(<-Rtype.spelt src) ++ " is not assignable to type "++(<-Rtype.spelt dst))
  pure (.tuple #[])):=rfl
theorem Tryz.parts25a {P Q:TypeId} (hp:Pr P Q) (a:Addr) (w:World):(ReflectliteValue.parts (.agg #[.pointer (some ⟨9,Q,none⟩),.pointer (some a),.int .u64 409])).run Tryz.prog w=.ok (some (Q,a,409)) w:=by
 rcases hp with ⟨rfl,rfl⟩ | ⟨rfl,rfl⟩ | ⟨rfl,rfl⟩ | ⟨rfl,rfl⟩<;>kernel_rfl
theorem Tryz.parts25 {P Q:TypeId} (hp:Pr P Q) (a:Addr) (w:World):(ReflectliteValue.parts (.agg #[.pointer (some ⟨9,Q,none⟩),.pointer (some a),.int .u64 153])).run Tryz.prog w=.ok (some (Q,a,153)) w:=by
 rcases hp with ⟨rfl,rfl⟩ | ⟨rfl,rfl⟩ | ⟨rfl,rfl⟩ | ⟨rfl,rfl⟩<;>kernel_rfl
theorem Tryz.direct25 {P Q:TypeId} (hp:Pr P Q) (w:World):(Rtype.directlyAssignable Q Q).run Tryz.prog w=.ok true w:=by
 rcases hp with ⟨rfl,rfl⟩ | ⟨rfl,rfl⟩ | ⟨rfl,rfl⟩ | ⟨rfl,rfl⟩<;>kernel_rfl
theorem Tryz.set25 {P Q:TypeId} (hp:Pr P Q) (ta b:Addr) (e old:Value) (h1:e.oneCell'=true) (W:World) (hb:W.cell? b=some e) (ht:W.cell? ta=some old) (hf:W.frozen? ta=false) :
  (ReflectliteValue.set #[.agg #[.pointer (some ⟨9,Q,none⟩),.pointer (some ta),.int .u64 409],.agg #[.pointer (some ⟨9,Q,none⟩),.pointer (some b),.int .u64 153]]).run Tryz.prog W
   = .ok (.tuple #[]) (W.setCell ta e):=by
 rw[rls];simp only[Sem.run_bind,(Tryz.parts25a hp),(Tryz.parts25 hp),Result.andThen];have g0:=@Tryz.direct25 _ _ hp
 rcases hp with ⟨rfl,rfl⟩ | ⟨rfl,rfl⟩ | ⟨rfl,rfl⟩ | ⟨rfl,rfl⟩ <;>
  (simp[ReflectliteValue.flagAddr,loadVar,Tryz.isAgg124,Tryz.isAgg145,Tryz.isAgg153,Tryz.isAgg143,loadCells,loadCellsFrom,hb,Result.andThen,g0,storeVar,Value.cells,storeCells,Addr.add]
   rw[run_store Tryz.prog W ta _ _ h1];simp[ht,hf])
theorem Zz {P Q:TypeId} (hp:Pr P Q) (v:Value) (w:World):(ReflectliteValue.unpack (.iface Q v)).run Tryz.prog w
  = .ok (.agg #[.pointer (some ⟨9,Q,none⟩),.pointer (some ⟨w.heap.size,0,none⟩),.int .u64 153]) (w.alloc (.cells v.cells Q)):=by
 rcases hp with ⟨rfl,rfl⟩ | ⟨rfl,rfl⟩ | ⟨rfl,rfl⟩ | ⟨rfl,rfl⟩<;>kernel_rfl
theorem valueOf51 {P Q:TypeId} (hp:Pr P Q) (v n:Value) (hv:v.cells=#[n]) (w:World):(ReflectliteValue.unpack (.iface Q v)).run Tryz.prog w
  = .ok (.agg #[.pointer (some ⟨9,Q,none⟩),.pointer (some ⟨w.heap.size,0,none⟩),.int .u64 153]) (w.alloc (.cells #[n] Q)):=by rw[(Zz hp),hv]
set_option maxHeartbeats 8000000 in
set_option maxRecDepth 100000 in
theorem as_hit {P Q:TypeId} (hp:Pr P Q) (v n:Value) (hv:v.cells=#[n]) (h1:n.oneCell'=true) (t:Addr) (old:Value) (w:World) (hg:w.cell? ⟨0,0,none⟩=some (.iface 200 (.agg #[.pointer (some ⟨9,63,none⟩)]))) (ht0:w.cell? t=some old) (hf0:w.frozen? t=false) :
  Calls Tryz.prog 95 #[.iface Q v,.iface P (.pointer (some t))] w fun ev w'=>ev=.returned (.bool true)/\w'=((((w.alloc (.cells #[.pointer (some t)] P)).alloc (.cells #[.pointer (some ⟨9,P,none⟩),.pointer (some ⟨w.heap.size,0,none⟩),.int .u64 150] 168)).alloc (.cells #[.pointer (some ⟨9,P,none⟩),.pointer (some ⟨w.heap.size,0,none⟩),.int .u64 150] 168)).alloc (.cells #[n] Q)).setCell t n:=by
 have h6:=@run_callFunc_extern Tryz.prog 152 _ (fun args=>ReflectliteValue.unpack (args.getD 0 (.tuple #[]))) Tryz.func152 (by kernel_rfl) (by kernel_rfl) (by kernel_rfl) (by kernel_rfl);have h7:=@run_callFunc_extern Tryz.prog 153 _ (ReflectliteValue.methodAny (ReflectliteValue.valueError "reflectlite.Value.Type" 0) (fun t _ _ _=>ReflectliteType.toType t)) Tryz.func153 (by kernel_rfl) (by kernel_rfl) (by kernel_rfl) (by kernel_rfl);have h8:=@run_callFunc_extern Tryz.prog 154 _ (ReflectliteValue.method (ReflectliteValue.valueError "reflectlite.Value.IsNil" 0) ReflectliteValue.isNil) Tryz.func154 (by kernel_rfl) (by kernel_rfl) (by kernel_rfl) (by kernel_rfl);have h27:=@run_callFunc_extern Tryz.prog 253 _ (ReflectliteType.abiMethod fun t=>do pure (.int .u8 (<-Rtype.kind t))) Tryz.func253 (by kernel_rfl) (by kernel_rfl) (by kernel_rfl) (by kernel_rfl);have h37:=@run_callFunc_extern Tryz.prog 267 _ (ReflectliteType.method ReflectliteType.elem) Tryz.func267 (by kernel_rfl) (by kernel_rfl) (by kernel_rfl) (by kernel_rfl);have h38:=@run_callFunc_extern Tryz.prog 268 _ (ReflectliteType.relation "Implements" ReflectliteType.implements_) Tryz.func268 (by kernel_rfl) (by kernel_rfl) (by kernel_rfl) (by kernel_rfl);have h10:=@run_callFunc_extern Tryz.prog 180 _ ReflectliteType.typeOf Tryz.func180 (by kernel_rfl) (by kernel_rfl) (by kernel_rfl) (by kernel_rfl);have h35:=@run_callFunc_extern Tryz.prog 265 _ (ReflectliteType.relation "AssignableTo" ReflectliteType.assignableTo) Tryz.func265 (by kernel_rfl) (by kernel_rfl) (by kernel_rfl) (by kernel_rfl);have h11:=@run_callFunc_extern Tryz.prog 181 _ (ReflectliteValue.method (ReflectliteValue.valueError "reflectlite.Value.Elem" 0) ReflectliteValue.elem) Tryz.func181 (by kernel_rfl) (by kernel_rfl) (by kernel_rfl) (by kernel_rfl);have h12:=@run_callFunc_extern Tryz.prog 182 _ ReflectliteValue.set Tryz.func182 (by kernel_rfl) (by kernel_rfl) (by kernel_rfl) (by kernel_rfl);have tO:=(Tryz.typeOf25 hp);have mA:=Tryz.methodAssignableTo;have a25:=(Tryz.assignable25 hp);have v25:=valueOf51 hp v n hv;have f6:=(Tryz.valueOf27 hp);have f7:=(Tryz.type27 hp);have mK:=Tryz.methodKind;have mE:=Tryz.methodElem;have mI:=Tryz.methodImplements;have k27:=(Tryz.kind27 hp);have k25:=(Tryz.kind25 hp);have e27:=(Tryz.elem27 hp);have i25:=(Tryz.implements25 hp);have n8:=(Tryz.isNil27 hp) ⟨w.heap.size,0,none⟩ t ((w.alloc (.cells #[.pointer (some t)] P)).alloc (.cells #[.pointer (some ⟨9,P,none⟩),.pointer (some ⟨w.heap.size,0,none⟩),.int .u64 150] 168)) (by simp)
 have hlt:0 < w.heap.size:=by
  rcases eD w.heap.size with h0 | h;·simp[World.cell?,h0] at hg
  ·exact h
 have hg2:((w.alloc (.cells #[.pointer (some t)] P)).alloc (.cells #[.pointer (some ⟨9,P,none⟩),.pointer (some ⟨w.heap.size,0,none⟩),.int .u64 150] 168)).cell? ⟨0,0,none⟩=some (.iface 200 (.agg #[.pointer (some ⟨9,63,none⟩)])):=by
  rw[World.cell?_alloc_lt _ _ ⟨0,0,none⟩ (by simp),World.cell?_alloc_lt _ _ ⟨0,0,none⟩ hlt];exact hg
 have htl:t.block < w.heap.size:=by
  rcases Nat.lt_or_ge t.block w.heap.size with h | h;·exact h
  ·simp[World.cell?,eT h] at ht0
 have el:=(Tryz.elemV27 hp) ⟨w.heap.size,0,none⟩ t (((w.alloc (.cells #[.pointer (some t)] P)).alloc (.cells #[.pointer (some ⟨9,P,none⟩),.pointer (some ⟨w.heap.size,0,none⟩),.int .u64 150] 168)).alloc (.cells #[.pointer (some ⟨9,P,none⟩),.pointer (some ⟨w.heap.size,0,none⟩),.int .u64 150] 168)) (by rw[World.cell?_alloc_lt _ _ ⟨w.heap.size,0,none⟩ (by simp;omega)];simp)
 have st:=(Tryz.set25 hp) t ⟨w.heap.size+1+1+1,0,none⟩ n old h1 ((((w.alloc (.cells #[.pointer (some t)] P)).alloc (.cells #[.pointer (some ⟨9,P,none⟩),.pointer (some ⟨w.heap.size,0,none⟩),.int .u64 150] 168)).alloc (.cells #[.pointer (some ⟨9,P,none⟩),.pointer (some ⟨w.heap.size,0,none⟩),.int .u64 150] 168)).alloc (.cells #[n] Q))
  (by rw[World.cell?_alloc_at _ _ _ _ (by simp)];rfl)
  (by rw[World.cell?_alloc_lt _ _ t (by simp;omega),World.cell?_alloc_lt _ _ t (by simp;omega),World.cell?_alloc_lt _ _ t (by simp;omega),World.cell?_alloc_lt _ _ t htl];exact ht0)
  (by rw[World.frozen?_alloc_old _ _ t (by simp;omega),World.frozen?_alloc_old _ _ t (by simp;omega),World.frozen?_alloc_old _ _ t (by simp;omega),World.frozen?_alloc_old _ _ t (Nat.ne_of_lt htl)];exact hf0)
 go_enter Tryz.func95,Tryz.ntmps95
 go_wp2
 refine wp_loop_rounds 1 ?_;rw[rounds_succ]
 go_wp2
 go_ret
 exact⟨rfl,rfl⟩
end Go.Proofs.AbAsD


namespace Go.Proofs.AbIsD
open Go.RowKit Go.Extern.Stop Go.Stop Go.Extern Go.Proofs
theorem Td (v:Value) (w:World):(Extern.ReflectliteType.typeOf #[.iface 265 v]).run Tryz.prog w=.ok (.iface 200 (.agg #[.pointer (some ⟨9,265,none⟩)])) w:=by kernel_rfl
theorem RI (w:World):((Extern.ReflectliteType.method fun t=>do Extern.Rtype.noPackHeld "Comparable" t;(fun a=>Value.bool a.comparable) <$> typeInfo t) #[.agg #[.pointer (some ⟨9,265,none⟩)]]).run Tryz.prog w=.ok (.bool true) w:=by kernel_rfl
theorem RA (v:Value) (w:World):(Go.method 396 200 v "Comparable").run Tryz.prog w=.ok (266,v) w:=by kernel_rfl
theorem isComp:(Tryz.prog.info? 265).map (·.comparable)=some true:=by kernel_rfl
theorem isSize:(Tryz.prog.info? 284).map (·.size)=some 1:=by kernel_rfl
theorem noIs265 (v:Value) (xT:TypeId) (w:World):(Instr.typeAssert (.iface 265 v) xT 231 true).run Tryz.prog w=.ok (.tuple #[.nilIface,.bool false]) w:=run_typeAssert_lacksB Tryz.underlying231 (by kernel_rfl) (by kernel_rfl) v xT w
theorem noUn265 (v:Value) (xT:TypeId) (w:World):(Instr.typeAssert (.iface 265 v) xT 208 true).run Tryz.prog w=.ok (.tuple #[.nilIface,.bool false]) w:=run_typeAssert_lacksB Tryz.underlying208 (by kernel_rfl) (by kernel_rfl) v xT w
theorem noUs265 (v:Value) (xT:TypeId) (w:World):(Instr.typeAssert (.iface 265 v) xT 210 true).run Tryz.prog w=.ok (.tuple #[.nilIface,.bool false]) w:=run_typeAssert_lacksB Tryz.underlying210 (by kernel_rfl) (by kernel_rfl) v xT w
theorem noIs143 (v:Value) (xT:TypeId) (w:World):(Instr.typeAssert (.iface 143 v) xT 231 true).run Tryz.prog w=.ok (.tuple #[.nilIface,.bool false]) w:=run_typeAssert_lacksB Tryz.underlying231 (by kernel_rfl) (by kernel_rfl) v xT w
theorem noUn143 (v:Value) (xT:TypeId) (w:World):(Instr.typeAssert (.iface 143 v) xT 208 true).run Tryz.prog w=.ok (.tuple #[.nilIface,.bool false]) w:=run_typeAssert_lacksB Tryz.underlying208 (by kernel_rfl) (by kernel_rfl) v xT w
theorem noUs143 (v:Value) (xT:TypeId) (w:World):(Instr.typeAssert (.iface 143 v) xT 210 true).run Tryz.prog w=.ok (.tuple #[.nilIface,.bool false]) w:=run_typeAssert_lacksB Tryz.underlying210 (by kernel_rfl) (by kernel_rfl) v xT w
set_option maxHeartbeats 1000000 in
set_option maxRecDepth 100000 in
theorem is_same (a:Addr) (w:World) :
  Calls Tryz.prog 159 #[.iface 265 (.pointer (some a)),.iface 265 (.pointer (some a))] w fun e w'=>e=.returned (.bool true)/\w'=w:=by
 obtain⟨i,hi,hcmp⟩:=bD.1 isComp;obtain⟨j,hj,hjs⟩:=bD.1 isSize;have h8:=@run_callFunc_extern Tryz.prog 180 _ Extern.ReflectliteType.typeOf Tryz.func180 (by kernel_rfl) (by kernel_rfl) (by kernel_rfl) (by kernel_rfl);have h32:=@run_callFunc_extern Tryz.prog 266 _ (Extern.ReflectliteType.method fun t=>do Extern.Rtype.noPackHeld "Comparable" t;pure (.bool (<-typeInfo t).comparable)) Tryz.func266 (by kernel_rfl) (by kernel_rfl) (by kernel_rfl) (by kernel_rfl);have tT:=Td;have cT:=RI;have mR:=RA;have heq:=run_eql_iface_ptr_same (P:=Tryz.prog) w a Tryz.underlying63 Tryz.underlying265 hi hcmp hj
 go_enter Tryz.func159,Tryz.ntmps159
 go_wp2
 refine wp_loop_rounds 1 ?_;rw[rounds_succ]
 go_wp2
 go_ret
 exact⟨rfl,rfl⟩
set_option maxHeartbeats 1000000 in
set_option maxRecDepth 100000 in
theorem is_nil (b:Addr) (w:World) :
  Calls Tryz.prog 159 #[.nilIface,.iface 265 (.pointer (some b))] w fun e w'=>e=.returned (.bool false)/\w'=w:=by
 have hn:=run_eql_iface_nil_left (P:=Tryz.prog) w 265 (.pointer (some b)) Tryz.underlying63
 go_enter Tryz.func159,Tryz.ntmps159
 go_wp2
 go_ret
 exact⟨rfl,rfl⟩
set_option maxHeartbeats 1000000 in
set_option maxRecDepth 100000 in
theorem is_other (a b:Addr) (ca cb:Array Value) (ta tb:TypeId) (w:World) (hne:a≠b) (ha:w.heap[a.block]?=some (.cells ca ta (0,0))) (hb:w.heap[b.block]?=some (.cells cb tb (0,0))) :
  Calls Tryz.prog 159 #[.iface 265 (.pointer (some a)),.iface 265 (.pointer (some b))] w fun e w'=>e=.returned (.bool false)/\w'=w:=by
 obtain⟨i,hi,hcmp⟩:=bD.1 isComp;obtain⟨j,hj,hjs⟩:=bD.1 isSize;have h8:=@run_callFunc_extern Tryz.prog 180 _ Extern.ReflectliteType.typeOf Tryz.func180 (by kernel_rfl) (by kernel_rfl) (by kernel_rfl) (by kernel_rfl);have h32:=@run_callFunc_extern Tryz.prog 266 _ (Extern.ReflectliteType.method fun t=>do Extern.Rtype.noPackHeld "Comparable" t;pure (.bool (<-typeInfo t).comparable)) Tryz.func266 (by kernel_rfl) (by kernel_rfl) (by kernel_rfl) (by kernel_rfl);have tT:=Td;have cT:=RI;have mR:=RA;have nE:=noIs265;have uE:=noUn265;have vE:=noUs265;have heq:=run_eql_iface_ptr_other (P:=Tryz.prog) w Tryz.underlying63 Tryz.underlying265 hi hcmp hj (by rw[hjs];decide) hne ha hb
 go_enter Tryz.func159,Tryz.ntmps159
 go_wp2
 refine wp_loop_rounds 1 ?_;rw[rounds_succ]
 go_wp2
 go_ret
 exact⟨rfl,rfl⟩
set_option maxHeartbeats 1000000 in
set_option maxRecDepth 100000 in
theorem is_type143 (v:Value) (b:Addr) (w:World) :
  Calls Tryz.prog 159 #[.iface 143 v,.iface 265 (.pointer (some b))] w fun e w'=>e=.returned (.bool false)/\w'=w:=by
 have h8:=@run_callFunc_extern Tryz.prog 180 _ Extern.ReflectliteType.typeOf Tryz.func180 (by kernel_rfl) (by kernel_rfl) (by kernel_rfl) (by kernel_rfl);have h32:=@run_callFunc_extern Tryz.prog 266 _ (Extern.ReflectliteType.method fun t=>do Extern.Rtype.noPackHeld "Comparable" t;pure (.bool (<-typeInfo t).comparable)) Tryz.func266 (by kernel_rfl) (by kernel_rfl) (by kernel_rfl) (by kernel_rfl);have tT:=Td;have cT:=RI;have mR:=RA;have nE:=noIs143;have uE:=noUn143;have vE:=noUs143;have hty:=run_eql_iface_types (P:=Tryz.prog) 143 265 v (.pointer (some b)) Tryz.underlying63 (by decide) w
 go_enter Tryz.func159,Tryz.ntmps159
 go_wp2
 refine wp_loop_rounds 1 ?_;rw[rounds_succ]
 go_wp2
 go_ret
 exact⟨rfl,rfl⟩
end Go.Proofs.AbIsD


namespace Go.Proofs.AbDS
open Go.RowKit Go.Proofs
theorem lies_b:liesAt Tryz.prog Tryz.prog.depth 130 (2 / Tryz.prog.cellsOf 130) 0 130 1=true:=by kernel_rfl
theorem info_b':(Tryz.prog.info? 130).map (·.size)=some 2:=by kernel_rfl
theorem info_b:∃ j,Tryz.prog.info? 130=some j/\j.size=2:=bD.1 info_b'
theorem cells5:Tryz.prog.cellsOf 5=1:=by kernel_rfl
set_option maxHeartbeats 1000000 in
set_option maxRecDepth 100000 in
theorem check_used (b:Nat) (w:World) (h0:w.cell? ⟨b,0,none⟩=some (.pointer (some ⟨b,0,none⟩))) :
  Calls Tryz.prog 156 #[.pointer (some ⟨b,0,none⟩)] w fun e w'=>e=.returned (.tuple #[])/\w'=w:=by
 obtain⟨j,hj,_⟩:=info_b
 go_enter Tryz.func156,Tryz.ntmps156
 go_wp2
 rw[Lib.run_neq_ptr_same w _ Tryz.underlying127 hj]
 go_wp2
 go_end0
 exact⟨rfl,rfl⟩
set_option maxHeartbeats 1000000 in
set_option maxRecDepth 100000 in
theorem check_fresh (b:Nat) (w:World) (h0:w.cell? ⟨b,0,none⟩=some (.pointer none)) (hsh:w.shape? b=some (130,2)) (hfz:w.frozen? ⟨b,0,none⟩=false) :
  Calls Tryz.prog 156 #[.pointer (some ⟨b,0,none⟩)] w fun e w'=>e=.returned (.tuple #[])/\w'=w.setCell ⟨b,0,none⟩ (.pointer (some ⟨b,0,none⟩)):=by
 obtain⟨j,hj,hjs⟩:=info_b
 go_enter Tryz.func156,Tryz.ntmps156
 go_wp2
 rw[Lib.run_to_unsafe w ⟨b,0,none⟩ Tryz.underlying127 Tryz.underlying165 hj (by rw[hjs];decide) hsh (Nat.zero_lt_succ 1)];simp only[Result.andThen];rw[Oper.upon_value]
 go_wp2
 rw[run_callFunc_extern Tryz.func183 (by kernel_rfl) (by kernel_rfl) (by kernel_rfl) (e:=Extern.AbiNoEscape.same) (by kernel_rfl)];rw[Lib.run_noEscape];simp only[Result.andThen];rw[Oper.upon_value]
 go_wp2
 rw[Lib.run_from_unsafe w ⟨b,0,none⟩ Tryz.underlying165 Tryz.underlying127 hj hsh lies_b];simp only[Result.andThen];rw[Oper.upon_value]
 go_wp2
 go_end0
 exact⟨rfl,rfl⟩
set_option maxHeartbeats 1000000 in
set_option maxRecDepth 100000 in
theorem string_some (b g cap:Nat) (p:Value) (cur:Array Value) (l:List UInt8) (w:World) (hbk:w.heap[b]?=some (.cells #[p,.slice (some ⟨g,0,none⟩) l.length cap] 130 (0,0)))
  (hg:w.heap[g]?=some (.cells cur 5 (0,0))) (h0:l≠[]) (hcap:l.length<=cap) (hcs:l.length<=cur.size) (h63:l.length<=9223372036854775807) (hl:∀ (j:Nat) (x:UInt8),l[j]?=some x->cur[j]?=some (Value.int .u8 (x.toNat:Int))) :
  Calls Tryz.prog 99 #[.pointer (some ⟨b,0,none⟩)] w fun e w'=>e=.returned (.string ⟨l.toArray⟩)/\w'=w.drew.freeze ⟨g,0,none⟩ l.length:=by
 have hl0:l.length≠0:=by simpa using h0
 have c1:w.drew.cell? ⟨b,1,none⟩=some (.slice (some ⟨g,0,none⟩) l.length cap):=by
  have:w.drew.heap[b]?=some (.cells #[p,.slice (some ⟨g,0,none⟩) l.length cap] 130 (0,0)):=hbk;rw[Lib.cell_of_heap this];rfl
 have hSD:(Builtin.unsafeSliceData_ #[128] 179 #[.slice (some ⟨g,0,none⟩) l.length cap]).run Tryz.prog w.drew=.ok (.pointer (some ⟨g,0,none⟩)) w.drew :=
  Lib.run_unsafeSliceData_row _ _ _ _ _ _ (by omega)
 have hUS:(Builtin.unsafeString_ #[179,3] 9 #[.pointer (some ⟨g,0,none⟩),.int .i64 l.length]).run Tryz.prog w.drew=.ok (.string ⟨l.toArray⟩) (w.drew.freeze ⟨g,0,none⟩ l.length):=by
  refine Lib.run_unsafeString_row w.drew 179 3 9 5 Tryz.underlying179 cells5 g cur.size (by have hg':w.drew.heap[g]?=some (.cells cur 5 (0,0)):=hg;simp[World.shape?,hg']) l h0 hcs h63 ?_;intro j x hx;have hg':w.drew.heap[g]?=some (.cells cur 5 (0,0)):=hg;have e:((⟨g,0,none⟩:Addr).add j)=⟨g,j,none⟩:=by cases j<;>simp[Addr.add]
  rw[e,Lib.cell_of_heap hg'];exact hl j x hx
 have mixed:Tryz.prog.follows .mixedOrders=true:=by kernel_rfl
 go_enter Tryz.func99,Tryz.ntmps99
 go_wp2
 go_region_o
 all_goals (go_wp2;go_ret;exact⟨rfl,rfl⟩)
set_option maxHeartbeats 1000000 in
set_option maxRecDepth 100000 in
theorem string_nil (b:Nat) (p:Value) (w:World) (hbk:w.heap[b]?=some (.cells #[p,.slice none 0 0] 130 (0,0))) :
  Calls Tryz.prog 99 #[.pointer (some ⟨b,0,none⟩)] w fun e w'=>e=.returned (.string ⟨#[]⟩)/\w'=w.drew:=by
 have hUS:∀ W q,(Builtin.unsafeString_ #[179,3] 9 #[.pointer q,.int .i64 0]).run Tryz.prog W=.ok (.string .empty) W:=fun W q=>Lib.run_unsafeString_none W _ _ _ q
 have c1:w.drew.cell? ⟨b,1,none⟩=some (.slice none 0 0):=by
  have:w.drew.heap[b]?=some (.cells #[p,.slice none 0 0] 130 (0,0)):=hbk;rw[Lib.cell_of_heap this];rfl
 have hSD:(Builtin.unsafeSliceData_ #[128] 179 #[.slice none 0 0]).run Tryz.prog w.drew=.ok (.pointer none) w.drew:=rfl;have mixed:Tryz.prog.follows .mixedOrders=true:=by kernel_rfl
 go_enter Tryz.func99,Tryz.ntmps99
 go_wp2
 go_region_o
 all_goals (go_wp2;go_ret;exact⟨rfl,rfl⟩)
end Go.Proofs.AbDS


namespace Go.Proofs
open Go.Shelf Go.RowKit Go.Sort Go.Lib
def Tryz.lays154_ren:Go.Shelf.Ren:=⟨fun | 154=>157 | 138=>184 | 165=>185 | 143=>186 | 166=>96 | 197=>187 | 169=>99 | 195=>193 | 218=>194 | 240=>156 | 241=>195 | 219=>196 | 260=>197 | 276=>183 | 277=>206 | 217=>207 | 225=>208 | 224=>209 | 267=>210 | 266=>220 | 314=>221 | n=>n,fun | 9=>9 | 3=>3 | 4=>4 | 72=>130 | 0=>0 | 76=>92 | 105=>216 | 21=>21 | 5=>5 | 70=>127 | 20=>20 | 37=>128 | 75=>63 | 127=>179 | 164=>165 | 46=>194 | 119=>240 | 139=>243 | 138=>242 | 146=>252 | 51=>108 | 80=>134 | n=>n,fun | 1=>3 | 3=>4 | 4=>5 | n=>n⟩
theorem Tryz.lays154:Go.Proofs.Lays.n154 Tryz.prog Tryz.lays154_ren:={
 mixed:=by kernel_rfl
 f138:=Tryz.func184.trans (congrArg some (by kernel_rfl))
 f143:=Tryz.func186.trans (congrArg some (by kernel_rfl))
 f154:=Tryz.func157.trans (congrArg some (by kernel_rfl))
 f165:=Tryz.func185.trans (congrArg some (by kernel_rfl))
 f166:=Tryz.func96.trans (congrArg some (by kernel_rfl))
 f169:=Tryz.func99.trans (congrArg some (by kernel_rfl))
 f195:=Tryz.func193.trans (congrArg some (by kernel_rfl))
 f197:=Tryz.func187.trans (congrArg some (by kernel_rfl))
 f217:=Tryz.func207.trans (congrArg some (by kernel_rfl))
 f218:=Tryz.func194.trans (congrArg some (by kernel_rfl))
 f219:=Tryz.func196.trans (congrArg some (by kernel_rfl))
 f224:=Tryz.func209.trans (congrArg some (by kernel_rfl))
 f225:=Tryz.func208.trans (congrArg some (by kernel_rfl))
 f240:=Tryz.func156.trans (congrArg some (by kernel_rfl))
 f241:=Tryz.func195.trans (congrArg some (by kernel_rfl))
 f260:=Tryz.func197.trans (congrArg some (by kernel_rfl))
 f266:=Tryz.func220.trans (congrArg some (by kernel_rfl))
 f267:=Tryz.func210.trans (congrArg some (by kernel_rfl))
 f276:=Tryz.func183.trans (congrArg some (by kernel_rfl))
 f277:=Tryz.func206.trans (congrArg some (by kernel_rfl))
 f314:=Tryz.func221.trans (congrArg some (by kernel_rfl))
 t0:=Tryz.underlying0
 a0:=Tryz.isAgg0
 z0:=Tryz.sizeOf0
 v0:=Tryz.zeroValue0
 t3:=Tryz.underlying3
 a3:=Tryz.isAgg3
 z3:=Tryz.sizeOf3
 v3:=Tryz.zeroValue3
 t4:=Tryz.underlying4
 a4:=Tryz.isAgg4
 z4:=Tryz.sizeOf4
 v4:=Tryz.zeroValue4
 t5:=Tryz.underlying5
 a5:=Tryz.isAgg5
 z5:=Tryz.sizeOf5
 v5:=Tryz.zeroValue5
 t9:=Tryz.underlying9
 a9:=Tryz.isAgg9
 z9:=Tryz.sizeOf9
 v9:=Tryz.zeroValue9
 t20:=Tryz.underlying20
 a20:=Tryz.isAgg20
 z20:=Tryz.sizeOf20
 v20:=Tryz.zeroValue20
 t21:=Tryz.underlying21
 a21:=Tryz.isAgg21
 z21:=Tryz.sizeOf21
 v21:=Tryz.zeroValue21
 t37:=Tryz.underlying128
 a37:=Tryz.isAgg128
 z37:=Tryz.sizeOf128
 v37:=Tryz.zeroValue128
 t46:=Tryz.underlying194
 a46:=Tryz.isAgg194
 z46:=Tryz.sizeOf194
 v46:=Tryz.zeroValue194
 t51:=Tryz.underlying108
 a51:=Tryz.isAgg108
 z51:=Tryz.sizeOf108
 v51:=Tryz.zeroValue108
 t70:=Tryz.underlying127
 a70:=Tryz.isAgg127
 z70:=Tryz.sizeOf127
 v70:=Tryz.zeroValue127
 t72:=Tryz.underlying130
 a72:=Tryz.isAgg130
 z72:=Tryz.sizeOf130
 v72:=Tryz.zeroValue130
 t75:=Tryz.underlying63
 a75:=Tryz.isAgg63
 z75:=Tryz.sizeOf63
 v75:=Tryz.zeroValue63
 t76:=Tryz.underlying92
 a76:=Tryz.isAgg92
 z76:=Tryz.sizeOf92
 v76:=Tryz.zeroValue92
 t105:=Tryz.underlying216
 a105:=Tryz.isAgg216
 z105:=Tryz.sizeOf216
 v105:=Tryz.zeroValue216
 t119:=Tryz.underlying240
 a119:=Tryz.isAgg240
 z119:=Tryz.sizeOf240
 t127:=Tryz.underlying179
 a127:=Tryz.isAgg179
 z127:=Tryz.sizeOf179
 v127:=Tryz.zeroValue179
 t138:=Tryz.underlying242
 a138:=Tryz.isAgg242
 z138:=Tryz.sizeOf242
 v138:=Tryz.zeroValue242
 t139:=Tryz.underlying243
 a139:=Tryz.isAgg243
 z139:=Tryz.sizeOf243
 v139:=Tryz.zeroValue243
 t146:=Tryz.underlying252
 a146:=Tryz.isAgg252
 z146:=Tryz.sizeOf252
 v146:=Tryz.zeroValue252
 t164:=Tryz.underlying165
 a164:=Tryz.isAgg165
 z164:=Tryz.sizeOf165
 v164:=Tryz.zeroValue165
 g1:=by kernel_rfl
 g3:=by kernel_rfl
 g4:=by kernel_rfl}
theorem Tryz.extra:Builder.Extra Tryz.prog Tryz.lays154_ren where
 sizeBuilder:=by kernel_rfl
 liesBuilder:=by kernel_rfl
 t5:=Tryz.lays154.t5
 a5:=Tryz.lays154.a5
 z5:=Tryz.lays154.z5
 v5:=Tryz.lays154.v5
 infoByte:=by kernel_rfl
 cellsByte:=by kernel_rfl
 sizeByte:=by kernel_rfl
 neB5:=by decide
def Tryz.lays173_ren:Go.Shelf.Ren:=⟨fun | 173=>158 | 246=>188 | 283=>198 | 284=>199 | 285=>200 | 286=>201 | 129=>212 | 317=>211 | 318=>213 | 319=>214 | 320=>215 | 337=>222 | 338=>223 | n=>n,fun | 2=>2 | 3=>3 | 9=>9 | 4=>4 | 171=>226 | 0=>0 | 53=>190 | 37=>128 | 5=>5 | 173=>229 | 212=>245 | 51=>108 | 20=>20 | 213=>246 | 46=>194 | 232=>261 | 233=>262 | n=>n,fun | 17=>6 | 18=>7 | 19=>8 | n=>n⟩
theorem Tryz.lays173:Go.Proofs.LaysM.n173 Tryz.prog Tryz.lays173_ren:={
 mixed:=by kernel_rfl
 f129:=Tryz.func212.trans (congrArg some (by kernel_rfl))
 f173:=Tryz.func158.trans (congrArg some (by kernel_rfl))
 f246:=Tryz.func188.trans (congrArg some (by kernel_rfl))
 f283:=Tryz.func198.trans (congrArg some (by kernel_rfl))
 f284:=Tryz.func199.trans (congrArg some (by kernel_rfl))
 f285:=Tryz.func200.trans (congrArg some (by kernel_rfl))
 f286:=Tryz.func201.trans (congrArg some (by kernel_rfl))
 f317:=Tryz.func211.trans (congrArg some (by kernel_rfl))
 f318:=Tryz.func213.trans (congrArg some (by kernel_rfl))
 f319:=Tryz.func214.trans (congrArg some (by kernel_rfl))
 f320:=Tryz.func215.trans (congrArg some (by kernel_rfl))
 f337:=Tryz.func222.trans (congrArg some (by kernel_rfl))
 f338:=Tryz.func223.trans (congrArg some (by kernel_rfl))
 t0:=Tryz.underlying0
 a0:=Tryz.isAgg0
 z0:=Tryz.sizeOf0
 v0:=Tryz.zeroValue0
 t2:=Tryz.underlying2
 a2:=Tryz.isAgg2
 z2:=Tryz.sizeOf2
 v2:=Tryz.zeroValue2
 t3:=Tryz.underlying3
 a3:=Tryz.isAgg3
 z3:=Tryz.sizeOf3
 v3:=Tryz.zeroValue3
 t4:=Tryz.underlying4
 a4:=Tryz.isAgg4
 z4:=Tryz.sizeOf4
 v4:=Tryz.zeroValue4
 t5:=Tryz.underlying5
 a5:=Tryz.isAgg5
 z5:=Tryz.sizeOf5
 v5:=Tryz.zeroValue5
 t9:=Tryz.underlying9
 a9:=Tryz.isAgg9
 z9:=Tryz.sizeOf9
 v9:=Tryz.zeroValue9
 t20:=Tryz.underlying20
 a20:=Tryz.isAgg20
 z20:=Tryz.sizeOf20
 v20:=Tryz.zeroValue20
 t37:=Tryz.underlying128
 a37:=Tryz.isAgg128
 z37:=Tryz.sizeOf128
 v37:=Tryz.zeroValue128
 t46:=Tryz.underlying194
 a46:=Tryz.isAgg194
 z46:=Tryz.sizeOf194
 v46:=Tryz.zeroValue194
 t51:=Tryz.underlying108
 a51:=Tryz.isAgg108
 z51:=Tryz.sizeOf108
 v51:=Tryz.zeroValue108
 t53:=Tryz.underlying190
 a53:=Tryz.isAgg190
 z53:=Tryz.sizeOf190
 v53:=Tryz.zeroValue190
 t171:=Tryz.underlying226
 a171:=Tryz.isAgg226
 z171:=Tryz.sizeOf226
 v171:=Tryz.zeroValue226
 t173:=Tryz.underlying229
 a173:=Tryz.isAgg229
 z173:=Tryz.sizeOf229
 v173:=Tryz.zeroValue229
 t212:=Tryz.underlying245
 a212:=Tryz.isAgg245
 z212:=Tryz.sizeOf245
 v212:=Tryz.zeroValue245
 t213:=Tryz.underlying246
 a213:=Tryz.isAgg246
 z213:=Tryz.sizeOf246
 t232:=Tryz.underlying261
 a232:=Tryz.isAgg261
 z232:=Tryz.sizeOf261
 v232:=Tryz.zeroValue261
 t233:=Tryz.underlying262
 a233:=Tryz.isAgg262
 z233:=Tryz.sizeOf262
 v233:=Tryz.zeroValue262
 g17:=by kernel_rfl
 g18:=by kernel_rfl
 g19:=by kernel_rfl
 i0:=by kernel_rfl
 i2:=by kernel_rfl
 i3:=by kernel_rfl
 i4:=by kernel_rfl
 i5:=by kernel_rfl
 i9:=by kernel_rfl
 i20:=by kernel_rfl
 i37:=by kernel_rfl
 i46:=by kernel_rfl
 i51:=by kernel_rfl
 i53:=by kernel_rfl
 i171:=by kernel_rfl
 i173:=by kernel_rfl
 i212:=by kernel_rfl
 i232:=by kernel_rfl
 i233:=by kernel_rfl
 m17:=by kernel_rfl
 m18:=by kernel_rfl
 m19:=by kernel_rfl}
namespace AbShD
theorem repl_run (s old new:ByteArray) (n m:Int) (w:World) (hs:s.size < 4294967281) (hm:w.cell? ⟨3,0,none⟩=some (.int .i64 m)) (h1:1<=old.size) (hlen:s.size+Lib.countB s old*new.size<=140737488355328) :
  Calls Tryz.prog 157 #[.string s,.string old,.string new,.int .i64 n] w fun e w'=>e=.returned (.string ⟨(Lib.replace s.data.toList old.data.toList new.data.toList n).toArray⟩)/\Below w.heap.size w w' :=
 Any.strings_Replace Tryz.lays154 Tryz.extra s old new n m w hs hm h1 hlen
theorem fmt_run (n:Int) (h0 : -9223372036854775808<=n) (h1:n<=9223372036854775807) (w:World) (ht:Lib.TabIs Tryz.prog w "internal/strconv.uint64pow10" .u64 Lib.pow10Tab) :
  Calls Tryz.prog 158 #[.int .i64 n,.int .i64 10] w fun e w'=>e=.returned (.string ⟨(Lib.itoa n).toArray⟩)/\∃ k os,w'=grow (w.drewN k) os :=
 Any.strconv_FormatInt_10 Tryz.lays173 n h0 h1 w ht
end AbShD
end Go.Proofs


namespace Go.Proofs.AbLkD
open Go
abbrev link:Go.Conc.Locks.MuLink:={lock:=203,unlock:=204,ilock:=216,iunlock:=217,lockSlow:=228,unlockSlow:=231,disable:=224,enable:=226,acquire:=227,relMerge:=229,cas32:=225,add32:=230,tIMutex:=112,tMutex:=114,tPMutex:=249,tPIMutex:=255,tPI32:=257,tUP:=165,tNoCopy:=106,tU32:=108}
theorem lib:Go.Conc.Locks.MuLib Tryz.prog link :=
 ⟨Tryz.func203,Tryz.func204,Tryz.func216,Tryz.func217,Tryz.func224,Tryz.func226,Tryz.func227,Tryz.func229,Tryz.func225,Tryz.func230,Tryz.underlying112,Tryz.runUnderlying112,Tryz.sizeOf112,Tryz.isAgg112,Tryz.zeroValue112,Tryz.underlying114,Tryz.runUnderlying114,Tryz.sizeOf114,Tryz.isAgg114,Tryz.zeroValue114,Tryz.underlying249,Tryz.runUnderlying249,Tryz.sizeOf249,Tryz.isAgg249,Tryz.zeroValue249,Tryz.underlying255,Tryz.runUnderlying255,Tryz.sizeOf255,Tryz.isAgg255,Tryz.zeroValue255,Tryz.underlying257,Tryz.runUnderlying257,Tryz.sizeOf257,Tryz.isAgg257,Tryz.zeroValue257,Tryz.underlying165,Tryz.runUnderlying165,Tryz.sizeOf165,Tryz.isAgg165,Tryz.zeroValue165,Tryz.underlying106,Tryz.runUnderlying106,Tryz.sizeOf106,Tryz.isAgg106,Tryz.zeroValue106,Tryz.underlying21,Tryz.runUnderlying21,Tryz.sizeOf21,Tryz.isAgg21,Tryz.zeroValue21,(by kernel_rfl)⟩
theorem load (a:Addr) (y:Int) (w:World) (h:w.cell? a=some (.int .u32 y)):(callFunc 202 #[.pointer (some a)]).run Tryz.prog w=.ok (.value (.int .u32 y)) w :=
 run_call_load (P:=Tryz.prog) Tryz.func202 (by kernel_rfl) (by kernel_rfl) (by kernel_rfl) .u32 (by kernel_rfl) h
theorem store (a:Addr) (y0 y:Int) (w:World) (h:w.cell? a=some (.int .u32 y0)) (hz:w.frozen? a=false):(callFunc 218 #[.pointer (some a),.int .u32 y]).run Tryz.prog w=.ok (.value (.tuple #[])) (w.setCell a (.int .u32 y)) :=
 run_call_store (P:=Tryz.prog) Tryz.func218 (by kernel_rfl) (by kernel_rfl) (by kernel_rfl) (by kernel_rfl) h hz
theorem lock (a:Addr) (w:World) (h:w.cell? a=some (.int .i32 0)) (hz:w.frozen? a=false):Calls Tryz.prog 216 #[.pointer (some a)] w fun e w'=>e=.returned (.tuple #[])/\w'=w.setCell a (.int .i32 1):=Go.MuLone.ilock_free lib a w h hz
theorem unlock (a:Addr) (w:World) (h:w.cell? a=some (.int .i32 1)) (hz:w.frozen? a=false):Calls Tryz.prog 217 #[.pointer (some a)] w fun e w'=>e=.returned (.tuple #[])/\w'=w.setCell a (.int .i32 0):=Go.MuLone.iunlock_held lib a w h hz
end Go.Proofs.AbLkD


namespace Go.Proofs.AbDS
open Go.RowKit Go.Proofs
theorem info2':(Tryz.prog.info? 2).map (fun i=>(i.zero,i.size,i.bytes))=some (some (.int .i64 0),1,8):=by kernel_rfl
theorem info2:∃ i z,Tryz.prog.info? 2=some i/\i.zero=some z/\i.size=1/\i.bytes=8/\z=.int .i64 0:=by
 obtain⟨i,h1,h2⟩:=bD.1 info2';simp only[ch] at h2;exact⟨i,_,h1,h2.1,h2.2.1,h2.2.2,rfl⟩
set_option maxHeartbeats 1000000 in
set_option maxRecDepth 100000 in
theorem grow_zero (w:World):Calls Tryz.prog 190 #[.slice none 0 0,.int .i64 0] w fun e w'=>e=.returned (.slice none 0 0)/\w'=w:=by
 go_enter Tryz.func190,Tryz.ntmps190
 go_wp2
 go_ret
 exact⟨rfl,rfl⟩
set_option maxHeartbeats 4000000 in
set_option maxRecDepth 100000 in
theorem grow_some (n:Nat) (w:World) (h0:0 < n) (hn:n<=1000000):Calls Tryz.prog 190 #[.slice none 0 0,.int .i64 n] w fun e w' =>
  ∃ G row,e=.returned (.slice (some ⟨w.heap.size,0,none⟩) 0 G)/\G<=row.size/\w'=w.drew.alloc (.cells row 2):=by
 obtain⟨i0,z,hi0,hz0,hs0,hb0,rfl⟩:=info2;have h1:¬ ((n:Int) < 0):=by omega
 have h3:wrap64 ((n:Int) - 0)=(n:Int):=by unfold wrap64;omega
 have h4:(n:Int)>0:=by omega
 have hrz:∀ ty,(Builtin.append_ #[22,3] ty #[.slice none 0 0,.int .i64 (n:Int)]).run Tryz.prog w =
   .ok (.slice (some ⟨w.heap.size,0,none⟩) n (grownCap w n 0 2)) (w.drew.alloc (.cells ((#[]:Array Value)++Builtin.zeroCells (Value.int .i64 0).cells n++Builtin.zeroCells (Value.int .i64 0).cells (grownCap w n 0 2 - n)) 2)):=fun ty=>by
  have h:=Lib.run_append_grow_zeros (P:=Tryz.prog) w 22 3 ty 2 i0 (.int .i64 0) .i64 .i64 Tryz.underlying22 Tryz.underlying3 hi0 hz0 none 0 0 [] (by rw[hs0];exact run_firstCells_none w.drew 1 0 0 0) n h0 (by omega) (by omega) (by omega) (by rw[hb0];omega)
   (growslice_fits (by omega) (by rw[hb0];omega))
  rw[cd] at h;exact h
 have hGn:n<=grownCap w n 0 2:=grownCap_ge w _ _ _
 have hG63:grownCap w n 0 2<=9223372036854775807:=by
  have:=grownCap_le_maxLen w n 0 2 (by unfold maxLen;omega);unfold maxLen at this;omega
 obtain⟨row,hrow⟩:∃ row,row=((#[]:Array Value)++Builtin.zeroCells (Value.int .i64 0).cells n++Builtin.zeroCells (Value.int .i64 0).cells (grownCap w n 0 2 - n)):=⟨_,rfl⟩
 have hsz:grownCap w n 0 2<=row.size:=by
  rw[hrow];simp[size_zeroCells,Value.cells];omega
 rw[<-hrow] at hrz;obtain⟨G,hG⟩:∃ G,G=grownCap w n 0 2:=⟨_,rfl⟩;rw[<-hG] at hrz hGn hG63 hsz;clear hrow hG
 go_enter Tryz.func190,Tryz.ntmps190
 go_wp2_with (at_builtin;refine Lib.wpList_append_run _ rfl _ _ _ _ rfl _ _ rfl rfl _ _ (hrz _) ?_)
 all_goals (go_ret;exact⟨G,rfl,row,hsz,rfl⟩)
end Go.Proofs.AbDS


namespace Go.Ab.Derive2
open Go Go.Ab Go.Proofs
def et0:Value:=.iface 200 (.agg #[.pointer (some ⟨9,63,none⟩)])
def tabs0:List (Nat×Array Value):=[(6,(Lib.pow10Tab.map fun z=>Value.int .u64 z).toArray)]
noncomputable def cx0:Cx:=cxOf Tryz.prog (by kernel_rfl) [1,2] 265 [(0,et0)] tabs0 [3]
theorem enters95:Cw Tryz.prog 95:=⟨_,Tryz.func95,by rfl,by rfl⟩
theorem enters159:Cw Tryz.prog 159:=⟨_,Tryz.func159,by rfl,by rfl⟩
theorem enters190:Cw Tryz.prog 190:=⟨_,Tryz.func190,by rfl,by rfl⟩
theorem enters157:Cw Tryz.prog 157:=⟨_,Tryz.func157,by rfl,by rfl⟩
theorem enters158:Cw Tryz.prog 158:=⟨_,Tryz.func158,by rfl,by rfl⟩
theorem enters156:Cw Tryz.prog 156:=⟨_,Tryz.func156,by rfl,by rfl⟩
theorem enters99:Cw Tryz.prog 99:=⟨_,Tryz.func99,by rfl,by rfl⟩
theorem enters216:Cw Tryz.prog 216:=⟨_,Tryz.func216,by rfl,by rfl⟩
theorem enters217:Cw Tryz.prog 217:=⟨_,Tryz.func217,by rfl,by rfl⟩
theorem as_ok:AsOK Tryz.prog 95 0 et0 ps0 where
 enters:=enters95
 none v w:=Go.Proofs.AbAsD.as_nil v w
 hit p t h v n hv h1 a old w hg h0 hf:=by
  simp only[ps0,List.lookup] at h;split at h
  ·rename_i hp;obtain rfl:p=126:=by simpa using hp
   cases h;refine (Go.Proofs.AbAsD.as_hit (.inl ⟨rfl,rfl⟩) v n hv h1 a old w hg h0 hf).mono ?_;rintro ev w' ⟨rfl,rfl⟩;exact⟨rfl,_,_,_,_,rfl⟩
  split at h
  ·rename_i hp;obtain rfl:p=146:=by simpa using hp
   cases h;refine (Go.Proofs.AbAsD.as_hit (.inr (.inl ⟨rfl,rfl⟩)) v n hv h1 a old w hg h0 hf).mono ?_;rintro ev w' ⟨rfl,rfl⟩;exact⟨rfl,_,_,_,_,rfl⟩
  split at h
  ·rename_i hp;obtain rfl:p=154:=by simpa using hp
   cases h;refine (Go.Proofs.AbAsD.as_hit (.inr (.inr (.inl ⟨rfl,rfl⟩))) v n hv h1 a old w hg h0 hf).mono ?_;rintro ev w' ⟨rfl,rfl⟩;exact⟨rfl,_,_,_,_,rfl⟩
  split at h
  ·rename_i hp;obtain rfl:p=182:=by simpa using hp
   cases h;refine (Go.Proofs.AbAsD.as_hit (.inr (.inr (.inr ⟨rfl,rfl⟩))) v n hv h1 a old w hg h0 hf).mono ?_;rintro ev w' ⟨rfl,rfl⟩;exact⟨rfl,_,_,_,_,rfl⟩
  cases h
theorem is_ok:IsOK Tryz.prog 159 265 [143] where
 enters:=enters159
 none a w:=Go.Proofs.AbIsD.is_nil a w
 same a w:=Go.Proofs.AbIsD.is_same a w
 other a b ca cb ta tb w h h1 h2:=Go.Proofs.AbIsD.is_other a b ca cb ta tb w h h1 h2
 type s hs v b w:=by
  simp only[bH,List.not_mem_nil,or_false] at hs;subst hs;exact Go.Proofs.AbIsD.is_type143 v b w
theorem bld_ok:BldOK Tryz.prog 156 99 130 5 where
 entersC:=enters156
 entersS:=enters99
 nzT:=by decide
 nzU:=by decide
 used:=Go.Proofs.AbDS.check_used
 fresh b w h0 h1 h2:=Go.Proofs.AbDS.check_fresh b w h0 h1 h2
 strNil b p w h:=Go.Proofs.AbDS.string_nil b p w h
 strSome b g cap p cur l w h1 h2 h3 h4 h5 h6 h7:=Go.Proofs.AbDS.string_some b g cap p cur l w h1 h2 h3 h4 h5 h6 h7
theorem sp_ok:SpOK cx0 Bb:=by
 intro g st vs out h;unfold Bb at h;split at h
 ·rename_i hg;subst hg;exact .inr (as_at (cj.2 rfl) as_ok h)
 split at h
 ·rename_i hg;subst hg;exact .inr (is_at is_ok h)
 split at h
 ·rename_i hg;subst hg;exact .inr (grow_at enters190 Go.Proofs.AbDS.grow_zero (fun m w h0 hm=>Go.Proofs.AbDS.grow_some m w h0 hm) h)
 split at h
 ·rename_i hg;subst hg;exact .inr (repl_at enters157 (gm:=3) (by decide) (fun s old new n m w hs hm h1 hl=>Go.Proofs.AbShD.repl_run s old new n m w hs hm h1 hl) h)
 split at h
 ·rename_i hg;subst hg;exact .inr (fmt_at enters158 (gt:=6) (cj.2 rfl) (by kernel_rfl) (fun n h0 h1 w ht=>Go.Proofs.AbShD.fmt_run n h0 h1 w ht) h)
 split at h
 ·rename_i hg;subst hg;exact .inr (check_at bld_ok h)
 split at h
 ·rename_i hg;subst hg;exact .inr (str_at bld_ok h)
 split at h
 ·rename_i hg;subst hg;exact .inl (load_ret Go.Proofs.AbLkD.load h)
 split at h
 ·rename_i hg;subst hg;exact .inl (store_ret Go.Proofs.AbLkD.store h)
 split at h
 ·rename_i hg;subst hg;exact .inr (Xv enters216 Go.Proofs.AbLkD.lock h)
 split at h
 ·rename_i hg;subst hg;exact .inr (Xv enters217 Go.Proofs.AbLkD.unlock h)
 cases h
end Go.Ab.Derive2


namespace Go.Ab
open Go Go.ChangeShapes Go.WideShapes Go.RowKit
inductive Cf where
 | bool
 | int (k:IntKind)
 | str
 | slice (e:Cf)
 | struct (fs:List Cf)
mutual
def Cf.cells:Cf->Nat
 | .struct fs=>Cf.cellsL fs
 | .bool | .int _ | .str | .slice _=>1
def Cf.cellsL:List Cf->Nat
 | []=>0
 | d :: ds=>d.cells+Cf.cellsL ds
end
mutual
def CX (P:Program):Nat->Cf->TypeId->Bool
 | 0,_,_=>false
 | n+1,D,t=>match D,P.underlying t with
  | .bool,some .bool=>true
  | .int k,some (.int k')=>k'==k
  | .str,some .string=>true
  | .slice e,some (.slice et)=>CX P n e et&&P.cellsOf et==e.cells&&decide (0 < e.cells)
  | .struct fs,some (.struct fields)=>P.cellsOf t==Cf.cellsL fs&&isFs P n 0 fs fields.toList
  | _,_=>false
def isFs (P:Program):Nat->Nat->List Cf->List Field->Bool
 | 0,_,_,_=>false
 | _+1,_,[],[]=>true
 | n+1,off,D :: ds,f :: fs=>f.offset==off&&P.cellsOf f.type==D.cells&&CX P n D f.type&&isFs P n (off+D.cells) ds fs
 | _+1,_,_,_=>false
end
mutual
def IW:Cf->PV->Prop
 | .bool,v=>∃ b,v=.bool b
 | .int k,v=>∃ n,v=.int k n/\(Lit.int k n).wf=true
 | .str,v=>∃ s,v=.str s/\s.length<=maxLen
 | .slice e,v=>v=.nilS\/∃ xs,v=.sl e.cells xs false/\xs.length<=maxLen/\∀ x∈xs,IW e x
 | .struct fs,v=>∃ vs,v=.agg (cellsL vs)/\OS fs vs
def OS:List Cf->List PV->Prop
 | [],vs=>vs=[]
 | D :: fs,vs=>∃ v r,vs=v :: r/\IW D v/\OS fs r
end
theorem repL1' {w:World} {I:Nat->Prop} {lp:Nat->Option Nat} {L:Option AB} {a:PV} {us:List Value} (h:Aq w I lp L [a] us):∃ u,us=[u]/\Au w I lp L a u:=by
 obtain⟨u,r,h1,rfl,h2⟩:∃ u r,Au w I lp L a u/\us=u :: r/\Aq w I lp L [] r:=by
  cases h;exact⟨_,_,by assumption,rfl,by assumption⟩
 cases h2;exact⟨u,rfl,h1⟩
section
variable {H:Type} {enc:TypeId×Value->H} {P:Program} {w:World} {I:Nat->Prop} {lp:Nat->Option Nat} {held:Bool} {sp:Nat->Bool}
def RepD (w:World) (I:Nat->Prop) (lp:Nat->Option Nat) (D:Cf) (cs:List Value):Prop:=∃ v:PV,IW D v/\Aq w I lp none v.cells cs/\Bn cs/\v.cells.length=D.cells
theorem cells?_get {base:Nat} {a:Addr} {n:Nat} {l:List Value} (h:w.cells? base a n=some l):l.length=n/\∀ i,i < n->w.cell? (a.add i)=l[i]?:=by
 obtain⟨_,h1,h2⟩:=World.cells?_some h;exact⟨h1,fun i hi=>by rw[h2 i hi]⟩
theorem cell?_row {a:Addr} {v:Value} (h:w.cell? a=some v):∃ c E fr,w.heap[a.block]?=some (.cells c E fr)/\a.spot=none/\c[a.off]?=some v:=by
 unfold World.cell? at h;split at h
 ·rename_i c E fr hb;split at h;·cases h
  ·rename_i hs;exact⟨c,E,fr,hb,by simpa using hs,h⟩
 ·cases h
theorem Xs (a:Addr) (h:a.spot=none) (i:Nat):a.add i=⟨a.block,a.off+i,none⟩:=by
 unfold Addr.add;split;·rename_i hi;subst hi;cases a;simp_all
 ·rfl
theorem list_rep {e:Cf} (hI:∀ b,b < w.heap.size->I b) {a:Addr} {len cap:Nat} (hlc:len<=cap) (hcm:cap<=maxLen) (hpos:0 < e.cells)
  (hel:∀ i,i < len->∃ cs,w.cells? 0 (a.add (i*e.cells)) e.cells=some cs/\RepD w I lp e cs):RepD w I lp (.slice e) [.slice (some a) len cap]:=by
 by_cases h0:len=0
 ·subst h0;exact⟨.sl e.cells [] false,.inr ⟨[],rfl,de _,fun x hx=>by cases hx⟩,.cons _ _ _ _ (.slE _ _ _ _ (fun h=>by cases h)) .nil,by simp[Bn,Value.oneCell'],rfl⟩
 ·obtain⟨cs0,hcs0,_⟩:=hel 0 (by omega);obtain⟨hl0,hg0⟩:=cells?_get hcs0;have hf:=hg0 0 hpos;rw[Nat.zero_mul] at hf;have e0:(a.add 0).add 0=a:=by simp[Addr.add]
  rw[e0,bN (by omega)] at hf;obtain⟨c,E,fr,hb,hs,_⟩:=cell?_row hf;have hblt:a.block < w.heap.size:=(ej.1 hb).1
  have each:∀ i,i < len->∃ v:PV,IW e v/\v.cells.length=e.cells/\(a.off+i*e.cells)+e.cells<=c.size/\Bn ((c.toList.drop (a.off+i*e.cells)).take e.cells)/\Aq w I lp none v.cells ((c.toList.drop (a.off+i*e.cells)).take e.cells):=by
   intro i hi;obtain⟨cs,hcs,v,h1,h2,h3,h4⟩:=hel i hi;obtain⟨hl,hg⟩:=cells?_get hcs
   have key:∀ j,j < e.cells->c[a.off+i*e.cells+j]?=cs[j]?:=by
    intro j hj;have:=hg j hj;rw[Xs a hs,Xs _ rfl,NM hb] at this;exact this
   have hsz:a.off+i*e.cells+e.cells<=c.size:=by
    have:=key (e.cells - 1) (by omega);rw[bN (by omega)] at this;have:=(ej.1 this).1;omega
   have e1:(c.toList.drop (a.off+i*e.cells)).take e.cells=cs:=by
    apply ct;intro j;by_cases hj:j < e.cells
    ·rw[dV hj,ec,<-key j hj];simp
    ·rw[cf (by simp;omega),cf (by omega)]
   exact⟨v,h1,h4,hsz,by rw[e1];exact h3,by rw[e1];exact h2⟩
  have all:∀ n,n<=len->∃ xs:List PV,xs.length=n/\(∀ x∈xs,IW e x)/\(∀ x∈xs,x.cells.length=e.cells)/\a.off+n*e.cells<=c.size/\Bn ((c.toList.drop a.off).take (n*e.cells))/\Aq w I lp none (cellsL xs) ((c.toList.drop a.off).take (n*e.cells)):=by
   intro n;induction n with
   | zero =>
    intro _;refine⟨[],rfl,by simp,by simp,?_,by simp[Bn],by simp;exact .nil⟩;obtain⟨_,_,_,h,_⟩:=each 0 (by omega);omega
   | succ n ih =>
    intro hn;obtain⟨xs,h1,h2,h3,h4,h5,h6⟩:=ih (by omega);obtain⟨v,g1,g2,g3,g4,g5⟩:=each n (by omega)
    have e2:(c.toList.drop a.off).take ((n+1)*e.cells)=(c.toList.drop a.off).take (n*e.cells)++(c.toList.drop (a.off+n*e.cells)).take e.cells:=by
     rw[bZ,dw,List.take_add,dG]
    refine⟨xs++[v],by simp[h1],?_,?_,by rw[bZ];omega,?_,?_⟩
    ·intro x hx;rcases bW.1 hx with hx | hx;·exact h2 x hx
     ·simp at hx;subst hx;exact g1
    ·intro x hx;rcases bW.1 hx with hx | hx;·exact h3 x hx
     ·simp at hx;subst hx;exact g2
    ·rw[e2];exact h5.append' g4
    ·rw[e2,Kh];refine h6.append ?_;simpa[cellsL] using g5
  obtain⟨xs,h1,h2,h3,h4,h5,h6⟩:=all len (bF _);have ea:a=⟨a.block,a.off,none⟩:=by cases a;simp_all
  refine⟨.sl e.cells xs false,.inr ⟨xs,rfl,by omega,h2⟩,?_,by simp[Bn,Value.oneCell'],rfl⟩;rw[ea,<-h1];exact .cons _ _ _ _ (.sl e.cells xs false a.block a.off cap c E fr (hI _ hblt) hb (by rw[h1];exact h4) h3 (by omega) (fun h=>by cases h) (by rw[h1];exact h5) (by rw[h1];exact h6)) .nil
theorem ZE {n:Nat} (ih:∀ (m:Nat) (D:Cf) (t:TypeId) (cs:List Value) (x:DataW H×List MemPlace),CX P m D t=true->DataW.trod enc P w 0 (fun _=>true) held n t cs=some x->RepD w I lp D cs) :
  ∀ (m:Nat) (ds:List Cf) (fs:List Field) (off:Nat) (cs:List Value) (xs:List (DataW H×List MemPlace)),isFs P m off ds fs=true->xs.length=fs.length->cs.length=off+Cf.cellsL ds ->
  (∀ (i:Nat) (f:Field),fs[i]?=some f->DataW.trod enc P w 0 (fun _=>true) held n f.type ((cs.drop f.offset).take (P.cellsOf f.type))=xs[i]?) ->
  ∃ vs:List PV,OS ds vs/\Aq w I lp none (cellsL vs) (cs.drop off)/\Bn (cs.drop off)/\(cellsL vs).length=Cf.cellsL ds:=by
 intro m;induction m with
 | zero=>intro ds fs off cs xs h;cases h
 | succ m ihm =>
  intro ds fs off cs xs h hl hc hf
  match ds,fs,h with
  | [],[],_ =>
   refine⟨[],rfl,?_,?_,rfl⟩;·rw[eu (by simp[Cf.cellsL] at hc;omega)];exact .nil
   ·rw[eu (by simp[Cf.cellsL] at hc;omega)];simp[Bn]
  | D :: ds,f :: fs,h =>
   simp only[isFs,bB,beq_iff_eq] at h;obtain⟨⟨⟨h1,h2⟩,h3⟩,h4⟩:=h
   match xs,hl with
   | x :: xs,hl =>
    have hx:=hf 0 f rfl;rw[h1,h2] at hx;obtain⟨v,g1,g2,g3,g4⟩:=ih m D f.type _ x h3 hx;simp only[Cf.cellsL] at hc;obtain⟨vs,k1,k2,k3,k4⟩:=ihm ds fs (off+D.cells) cs xs h4 (by simpa using hl) (by omega) (fun i f hi=>by simpa using hf (i+1) f (by simpa using hi));have e1:cs.drop off=(cs.drop off).take D.cells++cs.drop (off+D.cells):=by rw[<-dG,List.take_append_drop]
    refine⟨v :: vs,⟨v,vs,rfl,g1,k1⟩,?_,?_,by simp[cellsL,Cf.cellsL,g4,k4]⟩;·rw[e1];exact g2.append k2
    ·rw[e1];exact g3.append' k3
theorem Y1 (hI:∀ b,b < w.heap.size->I b):∀ (fuel m:Nat) (D:Cf) (t:TypeId) (cs:List Value) (x:DataW H×List MemPlace),CX P m D t=true->DataW.trod enc P w 0 (fun _=>true) held fuel t cs=some x->RepD w I lp D cs:=by
 intro fuel;induction fuel with
 | zero=>intro m D t cs x _ h;simp[DataW.trod] at h
 | succ fuel ih =>
  intro m D t cs x hD h;cases m with
  | zero=>cases hD
  | succ m =>
   cases hu:P.underlying t with
   | none=>cases D<;>simp[CX,hu] at hD
   | some d =>
    cases D with
    | bool =>
     cases d<;>simp[CX,hu] at hD;obtain⟨b,rfl,_⟩:=DataW.trod_bool hu h;exact⟨.bool b,⟨b,rfl⟩,.cons _ _ _ _ (.bool b) .nil,by simp[Bn,Value.oneCell'],rfl⟩
    | int k =>
     cases d<;>simp[CX,hu] at hD;subst hD;obtain⟨n,rfl,_,hw⟩:=DataW.trod_int hu h;exact⟨.int _ n,⟨n,rfl,hw⟩,.cons _ _ _ _ (.int _ n) .nil,by simp[Bn,Value.oneCell'],rfl⟩
    | str =>
     cases d<;>simp[CX,hu] at hD;obtain⟨s,rfl,_,hw⟩:=DataW.trod_string hu h;obtain⟨l,rfl⟩:∃ l:List UInt8,s=⟨l.toArray⟩:=⟨s.data.toList,by cases s;simp⟩;exact⟨.str l,⟨l,rfl,by simpa[ByteArray.size] using hw⟩,.cons _ _ _ _ (.str l) .nil,by simp[Bn,Value.oneCell'],rfl⟩
    | slice e =>
     cases d<;>simp[CX,hu] at hD;rename_i et;obtain⟨⟨h1,h2⟩,h3⟩:=hD;rcases DataW.trod_slice hu h with ⟨rfl,_⟩ | ⟨a,len,cap,elems,rest,n,hn,rfl,_,_,hl,hm,hlen,hel,_⟩;·exact⟨.nilS,.inl rfl,.cons _ _ _ _ .nilS .nil,by simp[Bn,Value.oneCell'],rfl⟩
     ·cases hn;refine list_rep hI hl hm h3 fun i hi=>?_;have:=hel i hi;rw[bN (by omega),cB,h2] at this;obtain⟨cs,hcs,hx⟩:=this;exact⟨cs,hcs,ih m e et cs _ h1 hx⟩
    | struct ds =>
     cases d<;>simp[CX,hu] at hD;rename_i fields;obtain⟨h1,h2⟩:=hD;obtain⟨xs,n,hn,_,hl,hlen,hf⟩:=DataW.trod_struct hu h;cases hn;obtain⟨vs,k1,k2,k3,k4⟩:=ZE ih m ds fields.toList 0 cs xs h2 (by simpa using hlen) (by rw[hl,h1];omega) (fun i f hi=>hf i f (by simpa using hi));rw[cI] at k2 k3;exact⟨.agg (cellsL vs),⟨vs,rfl,k1⟩,k2,k3,by simpa[PV.cells,Cf.cells] using k4⟩
variable {w':World} {sp':Nat->Bool}
theorem cell?_keep (hk:∀ b,b < w.heap.size->w'.heap[b]?=w.heap[b]?) {a:Addr} {v:Value} (h:w.cell? a=some v):a.block < w.heap.size/\w'.cell? a=some v:=by
 obtain⟨c,E,fr,hb,hs,hv⟩:=cell?_row h;have hlt:a.block < w.heap.size:=(ej.1 hb).1;refine⟨hlt,?_⟩;unfold World.cell?;rw[hk _ hlt,hb];simp[hs,hv]
theorem M5 {α β:Type} {f g:α->Option β}:∀ (l:List α) {ys:List β},l.mapM f=some ys->(∀ x∈l,∀ y,f x=some y->g x=some y)->l.mapM g=some ys
 | [],ys,h,_=>by simpa using h
 | x :: l,ys,h,hg=>by
  rw[cQ] at h |-;simp only[dU,cB,d9,bG] at h |-;obtain⟨y,h1,ys',h2,rfl⟩:=h;exact⟨y,hg x (by simp) y h1,ys',M5 l h2 (fun z hz=>hg z (by simp[hz])),rfl⟩
theorem cells?_keep (hk:∀ b,b < w.heap.size->w'.heap[b]?=w.heap[b]?) {a:Addr} {n:Nat} {l:List Value} (h:w.cells? 0 a n=some l):w'.cells? 0 a n=some l/\(0 < n->a.block < w.heap.size):=by
 refine⟨?_,fun hn=>?_⟩
 ·unfold World.cells? at h |-;rw[if_pos (de _)] at h |-;exact M5 _ h fun i _ v hv=>(cell?_keep hk hv).2
 ·obtain⟨h1,h2⟩:=cells?_get h;have:=h2 0 hn;rw[bN (by omega)] at this;have:=(cell?_keep hk this).1
  rwa [block_add] at this
theorem Zq {n:Nat} (ih:∀ (m:Nat) (D:Cf) (t:TypeId) (cs:List Value) (x:DataW H×List MemPlace),CX P m D t=true->DataW.trod enc P w 0 (fun _=>true) held n t cs=some x->DataW.trod enc P w' 0 sp' held n t cs=some x) :
  ∀ (m:Nat) (ds:List Cf) (fs:List Field) (off:Nat),isFs P m off ds fs=true->∀ f∈fs,∀ cs x,DataW.trod enc P w 0 (fun _=>true) held n f.type cs=some x->DataW.trod enc P w' 0 sp' held n f.type cs=some x:=by
 intro m;induction m with
 | zero=>intro ds fs off h;cases h
 | succ m ihm =>
  intro ds fs off h f hf cs x hx
  match ds,fs,h with
  | [],[],_=>cases hf
  | D :: ds,g :: fs,h =>
   simp only[isFs,bB,beq_iff_eq] at h;rcases bH.1 hf with rfl | hf;·exact ih m D _ cs x h.1.2 hx
   ·exact ihm ds fs _ h.2 f hf cs x hx
theorem trod_keep (hk:∀ b,b < w.heap.size->w'.heap[b]?=w.heap[b]?) (hsp:∀ b,b < w.heap.size->sp' b=true):∀ (fuel m:Nat) (D:Cf) (t:TypeId) (cs:List Value) (x:DataW H×List MemPlace),CX P m D t=true ->
  DataW.trod enc P w 0 (fun _=>true) held fuel t cs=some x->DataW.trod enc P w' 0 sp' held fuel t cs=some x:=by
 intro fuel;induction fuel with
 | zero=>intro m D t cs x _ h;simp[DataW.trod] at h
 | succ fuel ih =>
  intro m D t cs x hD h;cases m with
  | zero=>cases hD
  | succ m =>
   cases hu:P.underlying t with
   | none=>cases D<;>simp[CX,hu] at hD
   | some d =>
    cases D with
    | bool =>
     cases d<;>simp[CX,hu] at hD;obtain⟨b,rfl,rfl⟩:=DataW.trod_bool hu h;simp[DataW.trod,hu]
    | int k =>
     cases d<;>simp[CX,hu] at hD;subst hD;obtain⟨n,rfl,rfl,hw⟩:=DataW.trod_int hu h;simp[DataW.trod,hu,hw]
    | str =>
     cases d<;>simp[CX,hu] at hD;obtain⟨s,rfl,rfl,hw⟩:=DataW.trod_string hu h;simp[DataW.trod,hu,hw]
    | slice e =>
     cases d<;>simp[CX,hu] at hD;rename_i et;obtain⟨⟨h1,h2⟩,h3⟩:=hD;rcases DataW.trod_slice hu h with ⟨rfl,rfl⟩ | ⟨a,len,cap,elems,rest,n,hn,rfl,_,_,hl,hm,hlen,_,_⟩;·simp[DataW.trod,hu]
     ·unfold DataW.trod at h |-;simp only[hu] at h |-;rw[if_pos ⟨de _,hl,hm⟩] at h |-
      have el:∀ i y,(w.cells? 0 (a.add (i*P.cellsOf et)) (P.cellsOf et)).bind (DataW.trod enc P w 0 (fun _=>true) held fuel et)=some y->(w'.cells? 0 (a.add (i*P.cellsOf et)) (P.cellsOf et)).bind (DataW.trod enc P w' 0 sp' held fuel et)=some y/\a.block < w.heap.size:=by
       intro i y hy;obtain⟨cs,hcs,hx⟩:=cB.1 hy;obtain⟨k1,k2⟩:=cells?_keep hk hcs;refine⟨cB.2 ⟨cs,k1,ih m e et cs y h1 hx⟩,?_⟩;have:=k2 (by omega)
       rwa [block_add] at this
      obtain⟨es,he,h⟩:=cB.1 h;refine cB.2 ⟨es,M5 _ he fun i _ y hy=>(el i y hy).1,?_⟩;obtain⟨rs,hr,rfl⟩:=bD.1 h;refine bD.2 ⟨rs,?_,rfl⟩;simp only[if_true] at hr;cases hc:cap - len with
      | zero =>
       rw[hc] at hr;simp at hr;subst hr;split<;>simp
      | succ q =>
       have hlt:a.block < w.heap.size:=by
        rw[hc,List.range_succ_eq_map,cQ] at hr;simp only[dU,cB] at hr;obtain⟨y,hy,_⟩:=hr;exact (el _ y (cB.2 hy)).2
       rw[if_pos (hsp _ hlt),<-hc];exact M5 _ hr fun i _ y hy=>(el _ y hy).1
    | struct ds =>
     cases d<;>simp[CX,hu] at hD;rename_i fields;obtain⟨h1,h2⟩:=hD;have key:=Zq ih m ds fields.toList 0 h2;unfold DataW.trod at h |-;simp only[hu] at h |-;split at h
     ·rename_i hlc;rw[if_pos hlc];obtain⟨xs,hx,rfl⟩:=bD.1 h;exact bD.2 ⟨xs,M5 _ hx fun f hf y hy=>key f hf _ y hy,rfl⟩
     ·cases h
def isDs (P:Program) (m:Nat):List Cf->List TypeId->Bool
 | [],[]=>true
 | D :: Ds,t :: ts=>CX P m D t&&isDs P m Ds ts
 | _,_=>false
theorem val_rep (hI:∀ b,b < w.heap.size->I b) {m:Nat} {D:Cf} {t:TypeId} {v:Value} {d:DataW H} {ps:List MemPlace} {base:Nat} (hD:CX P m D t=true) (hv:Value.okWide P w .any base t v) (h:DataW.Trod enc P w 0 (fun _=>true) held t v d ps) :
  ∃ u:PV,IW D u/\Au w I lp none u v:=by
 obtain⟨fuel,h⟩:=h;obtain⟨u,h1,h2,h3,h4⟩:=Y1 (lp:=lp) hI fuel m D t _ _ hD h;cases m with
 | zero=>cases hD
 | succ m =>
  cases hu:P.underlying t with
  | none=>cases D<;>simp[CX,hu] at hD
  | some dd =>
   have one:(∀ x,v.cells.toList=[x]->v=x)->(∀ x:PV,u.cells=[x]->u=x)->(∃ x,u.cells=[x])->∃ u:PV,IW D u/\Au w I lp none u v:=by
    intro ho hp ⟨x,hx⟩;have hux:=hp x hx;rw[hx] at h2;obtain⟨y,hy,hr⟩:=repL1' h2;rw[ho y hy];exact⟨u,h1,by rw[hux];exact hr⟩
   have sc:(∀ vs,v≠.agg vs)->∀ x,v.cells.toList=[x]->v=x:=by
    intro hn x hx;cases v<;>first | (simp[Value.cells] at hx;exact hx) | exact absurd rfl (hn _)
   cases D with
   | struct ds =>
    cases dd<;>simp[CX,hu] at hD;obtain⟨cs,rfl,_⟩:=okWide_struct hu hv;obtain⟨vs,rfl,hvs⟩:=h1;exact⟨_,⟨vs,rfl,hvs⟩,.agg _ _ h3 h2⟩
   | bool =>
    cases dd<;>simp[CX,hu] at hD;obtain⟨b,rfl⟩:=h1;exact one (sc fun vs e=>by subst e;simp[Value.okWide,hu,Cell.okWide,Cell.ok] at hv) (fun x hx=>by simpa[PV.cells] using hx) ⟨_,rfl⟩
   | int k =>
    cases dd<;>simp[CX,hu] at hD;obtain⟨b,rfl,_⟩:=h1;exact one (sc fun vs e=>by subst e;simp[Value.okWide,hu,Cell.okWide,Cell.ok] at hv) (fun x hx=>by simpa[PV.cells] using hx) ⟨_,rfl⟩
   | str =>
    cases dd<;>simp[CX,hu] at hD;obtain⟨b,rfl,_⟩:=h1;exact one (sc fun vs e=>by subst e;simp[Value.okWide,hu,Cell.okWide,Cell.ok] at hv) (fun x hx=>by simpa[PV.cells] using hx) ⟨_,rfl⟩
   | slice e =>
    cases dd<;>simp[CX,hu] at hD;have hs:=sc fun vs e=>by subst e;simp[Value.okWide,hu,Cell.okWide,Cell.ok] at hv
    rcases h1 with rfl | ⟨xs,rfl,_,_⟩;·exact one hs (fun x hx=>by simpa[PV.cells] using hx) ⟨_,rfl⟩
    ·exact one hs (fun x hx=>by simpa[PV.cells] using hx) ⟨_,rfl⟩
theorem Xr (hI:∀ b,b < w.heap.size->I b) {m base:Nat}:∀ (Ds:List Cf) (ts:List TypeId) (vs:List Value) (ds:List (DataW H)) (p:List MemPlace),isDs P m Ds ts=true ->
  (∀ (j:Nat) t v,ts[j]?=some t->vs[j]?=some v->Value.okWide P w .any base t v)->DataW.TrodAll enc P w 0 (fun _=>true) held ts vs ds p->∃ us:List PV,OS Ds us/\Aq w I lp none us vs
 | [],[],vs,ds,p,_,_,h=>by
  obtain⟨rfl,rfl,rfl⟩:=trodAll_nil h;exact⟨[],rfl,.nil⟩
 | D :: Ds,t :: ts,vs,ds,p,hD,hv,h=>by
  obtain⟨v,vs,d,ds,p,q,rfl,rfl,rfl,h1,h2⟩:=trodAll_cons h;simp only[isDs,bB] at hD;obtain⟨u,a,b⟩:=val_rep (lp:=lp) hI hD.1 (hv 0 t v rfl rfl) h1;obtain⟨us,a',b'⟩:=Xr hI Ds ts vs ds q hD.2 (fun j t v ht hj=>hv (j+1) t v (by simpa using ht) (by simpa using hj)) h2;exact⟨u :: us,⟨u,us,rfl,a,a'⟩,.cons _ _ _ _ b b'⟩
 | [],_ :: _,_,_,_,hD,_,_=>by cases hD
 | _ :: _,[],_,_,_,hD,_,_=>by cases hD
theorem Wy (hk:∀ b,b < w.heap.size->w'.heap[b]?=w.heap[b]?) (hsp:∀ b,b < w.heap.size->sp' b=true) {m:Nat}:∀ (Ds:List Cf) (ts:List TypeId) (vs:List Value) (ds:List (DataW H)) (p:List MemPlace),isDs P m Ds ts=true ->
  DataW.TrodAll enc P w 0 (fun _=>true) held ts vs ds p->DataW.TrodAll enc P w' 0 sp' held ts vs ds p
 | [],[],vs,ds,p,_,h=>by
  obtain⟨rfl,rfl,rfl⟩:=trodAll_nil h;exact rfl
 | D :: Ds,t :: ts,vs,ds,p,hD,h=>by
  obtain⟨v,vs,d,ds,p,q,rfl,rfl,rfl,⟨fuel,h1⟩,h2⟩:=trodAll_cons h;simp only[isDs,bB] at hD;exact⟨p,q,⟨fuel,trod_keep hk hsp fuel m D t _ _ hD.1 h1⟩,Wy hk hsp Ds ts vs ds q hD.2 h2,rfl⟩
 | [],_ :: _,_,_,_,hD,_=>by cases hD
 | _ :: _,[],_,_,_,hD,_=>by cases hD
end
end Go.Ab


namespace Go.Ab.Derive2
open Go Go.Ab Go.Proofs
theorem sp_loc:Qb Bb:=fun g=>Xw g
theorem tab_ok:Ll cx0 A1 (OR Ot Tryz.prog):=by
 intro f fn h;unfold A1 at h;split at h;·cases h;exact AM (by kernel_rfl)
 ·cases h;exact AM (by kernel_rfl)
 ·cases h;exact AM (by kernel_rfl)
 ·cases h;exact AM (by kernel_rfl)
 ·cases h;exact AM (by kernel_rfl)
 ·cases h;exact AM (by kernel_rfl)
 ·cases h;exact AM (by kernel_rfl)
 ·cases h;exact AM (by kernel_rfl)
 ·cases h;exact AM (by kernel_rfl)
 ·cases h;exact AM (by kernel_rfl)
 ·cases h;exact AM (by kernel_rfl)
 ·cases h;exact AM (by kernel_rfl)
 ·cases h;exact AM (by kernel_rfl)
 ·cases h;exact AM (by kernel_rfl)
 ·cases h;exact AM (by kernel_rfl)
 ·cases h;exact AM (by kernel_rfl)
 ·cases h;exact AM (by kernel_rfl)
 ·cases h;exact AM (by kernel_rfl)
 ·cases h;exact AM (by kernel_rfl)
 ·cases h;exact AM (by kernel_rfl)
 ·cases h;exact AM (by kernel_rfl)
 ·cases h;exact AM (by kernel_rfl)
 ·cases h;exact AM (by kernel_rfl)
 ·cases h;exact AM (by kernel_rfl)
 ·cases h;exact AM (by kernel_rfl)
 ·cases h;exact AM (by kernel_rfl)
 ·cases h;exact AM (by kernel_rfl)
 ·cases h;exact AM (by kernel_rfl)
 ·cases h;exact AM (by kernel_rfl)
 ·cases h;exact AM (by kernel_rfl)
 ·cases h;exact AM (by kernel_rfl)
 ·cases h;exact AM (by kernel_rfl)
 ·cases h;exact AM (by kernel_rfl)
 ·cases h;exact AM (by kernel_rfl)
 ·cases h;exact AM (by kernel_rfl)
 ·cases h;exact AM (by kernel_rfl)
 ·cases h;exact AM (by kernel_rfl)
 ·cases h;exact AM (by kernel_rfl)
 ·cases h;exact AM (by kernel_rfl)
 ·cases h;exact AM (by kernel_rfl)
 ·cases h;exact AM (by kernel_rfl)
 ·cases h;exact AM (by kernel_rfl)
 ·cases h;exact AM (by kernel_rfl)
 ·cases h;exact AM (by kernel_rfl)
 ·cases h;exact AM (by kernel_rfl)
 ·cases h;exact AM (by kernel_rfl)
 ·cases h;exact AM (by kernel_rfl)
 ·cases h;exact AM (by kernel_rfl)
 ·cases h;exact AM (by kernel_rfl)
 ·cases h;exact AM (by kernel_rfl)
 ·cases h;exact AM (by kernel_rfl)
 ·cases h;exact AM (by kernel_rfl)
 ·cases h;exact AM (by kernel_rfl)
 ·cases h;exact AM (by kernel_rfl)
 ·cases h;exact AM (by kernel_rfl)
 ·cases h;exact AM (by kernel_rfl)
 ·cases h;exact AM (by kernel_rfl)
 ·cases h;exact AM (by kernel_rfl)
 ·cases h;exact AM (by kernel_rfl)
 ·cases h;exact AM (by kernel_rfl)
 ·cases h;exact AM (by kernel_rfl)
 ·cases h;exact AM (by kernel_rfl)
 ·cases h;exact AM (by kernel_rfl)
 ·cases h;exact AM (by kernel_rfl)
 ·cases h;exact AM (by kernel_rfl)
 ·cases h;exact AM (by kernel_rfl)
 ·cases h;exact AM (by kernel_rfl)
 ·cases h;exact AM (by kernel_rfl)
 ·cases h;exact AM (by kernel_rfl)
 ·cases h;exact AM (by kernel_rfl)
 ·cases h;exact AM (by kernel_rfl)
 ·cases h;exact AM (by kernel_rfl)
 ·cases h;exact AM (by kernel_rfl)
 ·cases h;exact AM (by kernel_rfl)
 ·cases h;exact AM (by kernel_rfl)
 ·cases h;exact AM (by kernel_rfl)
 ·cases h;exact AM (by kernel_rfl)
 ·cases h;exact AM (by kernel_rfl)
 ·cases h;exact AM (by kernel_rfl)
 ·cases h;exact AM (by kernel_rfl)
 ·cases h;exact AM (by kernel_rfl)
 ·cases h;exact AM (by kernel_rfl)
 ·cases h;exact AM (by kernel_rfl)
 ·cases h;exact AM (by kernel_rfl)
 ·cases h;exact AM (by kernel_rfl)
 ·cases h;exact AM (by kernel_rfl)
 ·cases h;exact AM (by kernel_rfl)
 ·cases h;exact AM (by kernel_rfl)
 ·cases h;exact AM (by kernel_rfl)
 ·cases h;exact AM (by kernel_rfl)
 ·cases h;exact AM (by kernel_rfl)
 ·cases h;exact AM (by kernel_rfl)
 ·cases h;exact AM (by kernel_rfl)
 ·cases h;exact AM (by kernel_rfl)
 ·cases h;exact AM (by kernel_rfl)
 ·cases h;exact AM (by kernel_rfl)
 ·cases h;exact AM (by kernel_rfl)
 ·cases h;exact AM (by kernel_rfl)
 ·cases h;exact AM (by kernel_rfl)
 ·cases h;exact AM (by kernel_rfl)
 ·cases h;exact AM (by kernel_rfl)
 ·cases h;exact AM (by kernel_rfl)
 ·cases h;exact AM (by kernel_rfl)
 ·cases h;exact AM (by kernel_rfl)
 ·cases h;exact AM (by kernel_rfl)
 ·cases h;exact AM (by kernel_rfl)
 ·cases h;exact AM (by kernel_rfl)
 ·cases h;exact AM (by kernel_rfl)
 ·cases h;exact AM (by kernel_rfl)
 ·cases h;exact AM (by kernel_rfl)
 ·cases h;exact AM (by kernel_rfl)
 ·cases h;exact AM (by kernel_rfl)
 ·cases h;exact AM (by kernel_rfl)
 ·cases h;exact AM (by kernel_rfl)
 ·cases h;exact AM (by kernel_rfl)
 ·cases h;exact AM (by kernel_rfl)
 ·cases h;exact AM (by kernel_rfl)
 ·cases h;exact AM (by kernel_rfl)
 ·cases h;exact AM (by kernel_rfl)
 ·cases h;exact AM (by kernel_rfl)
 ·cases h;exact AM (by kernel_rfl)
 ·cases h;exact AM (by kernel_rfl)
 ·cases h;exact AM (by kernel_rfl)
 ·cases h;exact AM (by kernel_rfl)
 ·cases h;exact AM (by kernel_rfl)
 ·cases h;exact AM (by kernel_rfl)
 ·cases h;exact AM (by kernel_rfl)
 ·cases h;exact AM (by kernel_rfl)
 ·cases h;exact AM (by kernel_rfl)
 ·cases h;exact AM (by kernel_rfl)
 ·cases h;exact AM (by kernel_rfl)
 ·cases h;exact AM (by kernel_rfl)
 ·cases h
theorem law_done {g:FuncId} {fn:At} (ht:A1 g=some fn) {args:List PV} (ha:Ao args=true) (hl:args.length<=fn.nt)
  (hr:AR (AI B0 fun _=>.cl) fn .cl AD 0 (args.map KV.cv) ()=some (.bool true,())) {I:Nat->Prop} {w:World} {vs:List Value}
  (hI:∀ b,I b->b < w.heap.size) (hw:cx0.Wd I w) (hrep:Aq w I (fun _=>none) none args vs) :
  Calls cx0.P g vs.toArray w fun e w'=>e=.returned (.bool true)/\K7 w w':=by
 obtain⟨n,hn⟩:=ak (B8 fun _=>.cl) ht ha hl hr;exact law_calls (fn_ok sp_ok sp_loc tab_ok n) hn hI hw hrep
def Told (fn:At) (Ds:List Cf):Prop:=∀ us,OS Ds us->Ao us=true/\us.length<=fn.nt/\AR (AI B0 fun _=>.cl) fn .cl AD 0 (us.map KV.cv) ()=some (.bool true,())
end Go.Ab.Derive2


namespace Go.Ab.Derive2
open Go Go.Ab
def arrD:Cf:=.struct [.bool,.bool,.slice (.int .i64)]
theorem XS:∀ (xs:List PV),(∀ x∈xs,IW (.int .i64) x)->∃ l,xs=As l
 | [],_=>⟨[],rfl⟩
 | x :: xs,h=>by
  obtain⟨n,rfl,_⟩:=h x bT;obtain⟨l,rfl⟩:=XS xs fun y hy=>h y (bM _ hy);exact⟨n :: l,rfl⟩
theorem arr_of {v:PV} (h:IW arrD v):∃ a,AL v a:=by
 obtain⟨vs,rfl,b,r,rfl,⟨b,rfl⟩,c,r,rfl,⟨c,rfl⟩,x,r,rfl,hx,rfl⟩:=h
 have key:∃ l,A5 x l/\x.cells=[x]:=by
  rcases hx with rfl | ⟨xs,rfl,_,hx⟩;·exact⟨[],.nil,rfl⟩
  ·obtain⟨l,rfl⟩:=XS xs hx;exact⟨l,.sl l false,rfl⟩
 obtain⟨l,h1,h2⟩:=key;refine⟨⟨b,c,l⟩,?_⟩;rw[show cellsL [PV.bool b,PV.bool c,x]=[.bool b,.bool c,x] by simp only[cellsL,h2];rfl];exact .mk _ _ _ _ h1
theorem YS:Told fn6 [.str,arrD]:=by
 rintro us ⟨_,_,rfl,⟨s,rfl,_⟩,_,_,rfl,ha,rfl⟩;obtain⟨a,ha⟩:=arr_of ha;exact⟨by simp[Ao,okV,ha.ok],bJ rfl,aj s ha⟩
end Go.Ab.Derive2


namespace Go.Ab.Derive2
open Go Go.Ab Go.Proofs Go.Proofs.YtbeonejdegijfaaGreatDoor Go.ChangeShapes Go.WideShapes Go.RowKit
theorem p_own:ownKnob Tryz.prog.godebug=none:=by kernel_rfl
theorem p_et:Tryz.prog.globalNamed "errors.errorType"=some 0:=by kernel_rfl
theorem p_p:Tryz.prog.globalNamed "internal/strconv.uint64pow10"=some 6:=by kernel_rfl
theorem p_pt:(Tryz.prog.globals[6]?).map (·.type)=some 245:=by kernel_rfl
theorem p_rt:(Tryz.prog.cutTypes.find? (·.1 == "internal/reflectlite.rtype")).map (·.2)=some 200:=by kernel_rfl
theorem p_oneRow:((List.range 296).filter fun t=>Tryz.prog.rowNamed t [101,114,114,111,114])=[63]:=by kernel_rfl
theorem p_size:Tryz.prog.types.size=296:=by kernel_rfl
theorem p_cS:Tryz.prog.cellsOf 284=1:=by kernel_rfl
theorem p_cs:Tryz.prog.cellsOf 9=1:=by kernel_rfl
theorem p_star : "*" ++ "errors.errorString" = "*errors.errorString":=by decide
theorem p_row (u:TypeId) (h:Tryz.prog.typeName? 3 u=some "*errors.errorString"):u=265 :=
 typeName_ptr_named (nm := "errors.errorString") (by rw[p_star];kernel_rfl) (by kernel_rfl) (by decide) u (by rw[p_star];exact h)
theorem R7 {W:World} {n:String} {g:Nat} {cs:Array Value} (hg:Tryz.prog.globalNamed n=some g) (h:W.var? Tryz.prog n=some cs):∃ E fr,W.heap[g]?=some (.cells cs E fr):=by
 unfold World.var? at h;rw[hg] at h;simp only[eo] at h;split at h
 ·rename_i cs' E fr hh;cases h;exact⟨E,fr,hh⟩
 ·cases h
theorem N0 {W:World} {b:Nat} {o:Obj} (h:W.heap[b]?=some o):b < W.heap.size:=(ej.1 h).1
theorem p_e0:Tryz.prog.globalNamed "diaeresis/number.errOver"=some 1:=by kernel_rfl
theorem p_t0:(Tryz.prog.globals[1]?).map (·.type)=some 63:=by kernel_rfl
theorem p_e1:Tryz.prog.globalNamed "diaeresis/number.errDivide"=some 2:=by kernel_rfl
theorem p_t1:(Tryz.prog.globals[2]?).map (·.type)=some 63:=by kernel_rfl
set_option maxRecDepth 100000 in
theorem Zy {W:World} (hsh:W.ShapedOpen Tryz.prog) (h:laidMetH Tryz.prog Rows.deriveGreatestRow.laid W):cx0.Wd (fun b=>b < W.heap.size) W:=by
 have h':handlesMet Tryz.prog [("errors.errorType",Rows.laid_errors_errorType)] W:=h.2;have hd:laidMet Tryz.prog [("math/bits.deBruijn32tab",Rows.laid_math_bits_deBruijn32tab),("math/bits.deBruijn64tab",Rows.laid_math_bits_deBruijn64tab),("internal/strconv.uint64pow10",Rows.laid_internal_strconv_uint64pow10),("unicode/utf8.acceptRanges",Rows.laid_unicode_utf8_acceptRanges),("diaeresis/number.errOver",Rows.laid_diaeresis_number_errOver),("diaeresis/number.errDivide",Rows.laid_diaeresis_number_errDivide),("unicode/utf8.first",Rows.laid_unicode_utf8_first)] W:=h.1;have hs:=hd.filter fun x=>x.1 == "diaeresis/number.errOver"||x.1 == "diaeresis/number.errDivide"
 have hp:=hd.filter fun x=>x.1 == "internal/strconv.uint64pow10";have hs:laidMet Tryz.prog [("diaeresis/number.errOver",Rows.laid_diaeresis_number_errOver),("diaeresis/number.errDivide",Rows.laid_diaeresis_number_errDivide)] W:=hs;have hp:laidMet Tryz.prog [("internal/strconv.uint64pow10",Lib.tabData .u64 Lib.pow10Tab)] W:=hp;obtain⟨name,u,ty,e1,e2,e3,e4,e5⟩:=h' _ (cj.2 rfl);have en:name=[101,114,114,111,114]:=(dp e1).symm;subst en;obtain rfl:=dp (p_rt.symm.trans e2);have hm:ty∈(List.range 296).filter fun t=>Tryz.prog.rowNamed t [101,114,114,111,114]:=dF.2 ⟨dj.2 (by rw[<-p_size];exact e3),e4⟩;rw[p_oneRow] at hm;obtain rfl:=cj.1 hm;have hh:typeHandle Tryz.prog 63=.pointer (some ⟨9,63,none⟩):=by kernel_rfl
 rw[hh] at e5;have h0:W.cell? ⟨0,0,none⟩=some et0:=by simpa[et0] using World.var?_cell p_et e5 0
 have i0:0 < W.heap.size:=by
  rcases Nat.lt_or_ge 0 W.heap.size with h | h;·exact h
  ·simp[World.cell?,eT h] at h0
 have hpw:Lib.TabIs Tryz.prog W "internal/strconv.uint64pow10" .u64 Lib.pow10Tab:=Lib.tabIs_of_head p_p p_pt Tryz.underlying245 Tryz.underlying190 (by kernel_rfl) (by kernel_rfl) hp;obtain⟨E3,f3,r3⟩:=R7 p_p hpw;obtain⟨a0,a1,s0,s1,c0,c1,t0,t1,hv0,hv1,hc0,hs0,hz0,hc1,hs1,hz1,hne,hb0,hb1⟩:=laid_sentinels2 hs p_e0 p_t0 p_e1 p_t1 Tryz.underlying63 p_row Tryz.underlying265 Tryz.underlying284 rfl rfl Tryz.underlying9 p_cS p_cs;obtain⟨E1,f1,r1⟩:=R7 p_e0 hv0;obtain⟨E2,f2,r2⟩:=R7 p_e1 hv1;have hml:∃ m,W.cell? ⟨3,0,none⟩=some (.int .i64 m):=cell_of_shapedOpen_int hsh (g:=3) (t:=3) (zero:=#[.int .i64 0]) (of_decide_eq_true (by kernel_rfl)) (by kernel_rfl) rfl (by kernel_rfl) (by kernel_rfl) Tryz.underlying3
 exact⟨⟨fun g=>if g=1 then a0 else a1,fun g hg=>by
   rcases bH.1 hg with rfl | hg;·exact⟨N0 r1,N0 hb0,⟨E1,f1,r1⟩,c0,t0,hb0⟩
   ·obtain rfl:=cj.1 hg;exact⟨N0 r2,N0 hb1,⟨E2,f2,r2⟩,c1,t1,hb1⟩,fun g hg g' hg' hn=>by
   simp only[bH,List.not_mem_nil,or_false] at hg hg';rcases hg with rfl | rfl<;>rcases hg' with rfl | rfl;·exact absurd rfl hn
   ·exact hne
   ·exact hne.symm
   ·exact absurd rfl hn⟩,fun p hp=>(by
  obtain rfl:=cj.1 hp;exact⟨i0,h0⟩),fun p hp=>by
  obtain rfl:=cj.1 hp;exact⟨N0 r3,E3,f3,r3⟩,fun g hg=>by
  obtain rfl:=cj.1 hg;refine⟨?_,hml⟩;obtain⟨m,hm⟩:=hml;rcases Nat.lt_or_ge 3 W.heap.size with h | h;·exact h
  ·simp[World.cell?,eT h] at hm⟩
theorem Ye {H:Type} {enc:TypeId×Value->H} {C:Checked} {os:Os} {f:FuncId} {fn:Func} {s:ChangeSpec} {conds:List PathCond} {apart fresh handsOn again:Bool} {X:World->Array Value->Prop}
  (hX:∀ (w w':World) (args:Array Value),w.heap=w'.heap->X w args->X w' args)
  (own:ownKnob C.prog.godebug=none) (started:os.Started) (noInit:C.prog.inits.idxOf? f=none) (hfn:C.prog.funcs[f]?=some fn)
  (witness:∃ (w:World) (tape:Tape) (i:Input),w.os=os/\(w.forCall tape i).Shaped C.prog/\i.vars=[]/\Input.okWide C.prog (w.forCall tape i) .any w.heap.size f i /\
   ((s.pre enc C.prog fn conds apart (w.forCall tape i).memory i.args/\X (w.forCall tape i).memory i.args)/\sizedMet enc C.prog fn (OpenSpec.ofChange s) apart (w.forCall tape i).memory i.args)/\({}:Assume).holds C.prog (lone (Frame.enter C.prog f i.args .normal) [] (w.forCall tape i)))
  (contract:∀ (W:World) (base:Nat) (args:Array Value) (ds gs:List (DataW H)) (before:List MemPlace),
   (∀ (j:Nat) t v,fn.params[j]?=some t->args[j]?=some v->Value.okWide C.prog W .any base t v) ->
   DataW.Whole enc C.prog fn.params.toList s.vars apart W args.toList ds gs before->X W args->W.ShapedOpen C.prog ->
   Calls C.prog f args W fun e W'=>∃ v,e=.returned v/\s.post enc C.prog fn apart fresh handsOn again W args v W') :
  ReturnsInHanded {} C os f .any (fun w args=>(s.pre enc C.prog fn conds apart w args/\X w args)/\sizedMet enc C.prog fn (OpenSpec.ofChange s) apart w args) (s.post enc C.prog fn apart fresh handsOn again):=by
 refine returnsInHanded_of_calls own started noInit witness ?_;intro w tape i _ hsh _ hok hpre _;obtain⟨_,_,_,fn',hfn',_,_,_,_,hval⟩:=hok;have e:fn'=fn:=dp (hfn'.symm.trans hfn);subst e;obtain⟨⟨⟨ds,gs,before,hw,hc⟩,hx⟩,hz⟩:=hpre;have hw':=DataW.Whole.of_heap (w':=w.forCall tape i) (by rfl) hw;refine (contract (w.forCall tape i) w.heap.size i.args ds gs before hval hw' (hX _ _ _ (by rfl) hx) hsh).mono fun e W' ⟨v,he,hp⟩=>?_;subst he;exact ChangeSpec.post_blind hp
mutual
def WG:DataW Unit->List Value
 | .lit (.int k n)=>[.int k n]
 | .agg ds=>VM ds
 | _=>[]
def VM:List (DataW Unit)->List Value
 | []=>[]
 | d :: ds=>WG d++VM ds
end
def textOf:DataW Unit->ByteArray
 | .iface _ (.ptr (.agg [.lit (.string s)]))=>⟨s.toArray⟩
 | _=>⟨#[]⟩
def Oj (h:Array Obj) (i:Nat) (d:DataW Unit):Array Obj:=h.modify i fun
 | .cells _ t frozen=>.cells (WG d).toArray t frozen
 | o=>o
def Tt (h:Array Obj) (i:Nat) (v:Value):Array Obj:=h.modify i fun
 | .cells _ t frozen=>.cells #[v] t frozen
 | o=>o
noncomputable def low:Nat:=(World.holding Tryz.prog default ⟨#[],#[],[]⟩).heap.size
noncomputable def V8 (os:Os):World :=
 let w0:=World.holding Tryz.prog os ⟨#[.cells #[.string (textOf Rows.laid_diaeresis_number_errOver)] 284,.cells #[.string (textOf Rows.laid_diaeresis_number_errDivide)] 284],#[],[]⟩
 let h0:=Tt w0.heap 0 (.iface 200 (.agg #[.pointer (some ⟨9,63,none⟩)]))
 let h1:=Tt (Tt (h0) 1 (.iface 265 (.pointer (some ⟨low+0,0,none⟩)))) 2 (.iface 265 (.pointer (some ⟨low+1,0,none⟩)))
 {w0 with heap:=Oj (Oj (Oj (Oj (Oj (h1) 7 Rows.laid_math_bits_deBruijn32tab) 8 Rows.laid_math_bits_deBruijn64tab) 6 Rows.laid_internal_strconv_uint64pow10) 5 Rows.laid_unicode_utf8_acceptRanges) 4 Rows.laid_unicode_utf8_first}
theorem Ys (os:Os) (args:Array Value):laidMetH Tryz.prog Rows.deriveGreatestRow.laid ((V8 os).forCall (fun _ _=>0) ⟨#[],args,[]⟩).memory :=
 laidMetH_of_parts (laidMet_of_run' 8 (by kernel_rfl) (by kernel_rfl)) (by kernel_rfl)
set_option maxRecDepth 100000
theorem Ck {a b:Bool} (ha:a=true) (hb:b=true):(a&&b)=true:=by rw[ha,hb];rfl
theorem jp_1:(laidOutB Tryz.prog)=true:=by kernel_rfl
theorem jp_2:(mapsRowed Tryz.prog)=true:=by kernel_rfl
theorem jp_6:((Tryz.prog.stops==[]))=true:=by kernel_rfl
theorem jp_8:((Tryz.prog.stopKnobs==[]))=true:=by kernel_rfl
theorem jp_24:(Tryz.prog.stopsHeard)=true:=by kernel_rfl
theorem jp_25:(Tryz.prog.mayEnter)=true:=by kernel_rfl
end Go.Ab.Derive2

