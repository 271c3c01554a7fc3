/- Part 13 of a proof: laws of a machine. -/
import Derived.Test.YthakoglihciegaaGreatDoorK10
import Derived.Test.YthakoglihciegaaGreatDoorK11
import Derived.Test.YthakoglihciegaaGreatDoorK12
import Derived.Test.YthakoglihciegaaGreatDoorK05
import Derived.Test.YthakoglihciegaaGreatDoorProg
import Derived.WalkKit
import Derived.LaidEql
import Derived.Stop.Asserts
import Derived.RowKitTokens
import Derived.Test.YthakoglihciegaaGreatDoorK01
import Derived.Lib.Builder
import Derived.Lib.UnsafeStr
import Derived.Lib.Bytealg
import Derived.Lib.AppendZerosOnto
import Derived.Lib.Walk
import Derived.Lib.SliceRun
import Derived.Laws.Externs
import Derived.Shelf.RegionOpenPlain
import Derived.Shelf.Strings.Replace
import Derived.Shelf.Strconv.Itoa4
import Derived.Lib.Strings
import Derived.Conc.MuLone
import Derived.Laws.LoneSync
import Derived.KernelRfl
set_option linter.all false

namespace Go.Ab.jF
open Go Go.Ab
variable{D:jI->jI->jI×Int} {F:jI->jI×Int} {a b:jI} {c:Int} {l:ju} {r:jI×Int}
def CE (g:ji) (a b:jI):jI×Int:=if CQ g then jI.dy g a b else (Sh.nf g a b,Sh.nG g a b)
def Dl (g:ji) (a:jI):jI×Int:=if D6 g then jI.q7 g a else (Sh.lI g a,Sh.lO g a)
theorem sh_le (a b:jI) (g:ji):(Sh.nf g a b).n.length<=400000:=by
 cases h:(a.right&&b.right) with
 | false=>rw[(Sh.qt h).2];simp[A2]
 | true =>
  rw[dF] at h;have U:=G3 h.1;have O:=G3 h.2;exact Sh.dyA_len g (by omega) (by omega)
theorem shm_le (a:jI) (g:ji):(Sh.lI g a).n.length<=400000:=by
 cases h:a.right with
 | false=>rw[(Sh.sG h).2];simp[A2]
 | true =>
  have U:=G3 h;exact Sh.zaN g (by omega)
theorem MT (g:ji):u6 g (CE g) where
 run {v u a b} hv hu ha hb:=by
  unfold CE;cases hg:CQ g with
  | true=>exact dyn_run hv hu (by omega) (by omega) hg
  | false =>
   obtain⟨w,U,O⟩:=Sh.rW g hv hu ha hb;refine⟨w,HS (by simp[Ap,jN,hv.ok,hu.ok]) ?_,O⟩;rw[run53];unfold wa wb wd wv;rw[BF hv,cT,BF hu,cT,Ub,bV,hg];simp only[Am,dE,iG,Cj hv,Cj hu,bV,U,BS,dP,dR,Cq O,cT,Ct O]
 le a b:=by unfold CE;split;{exact dy_le g a b};{exact sh_le a b g}
theorem Xd (g:ji):Sw g (Dl g) where
 run {v a} hv ha:=by
  unfold Dl;cases hg:D6 g with
  | true=>exact zar hv (by omega) hg
  | false =>
   obtain⟨w,U,O⟩:=Sh.o6 g hv (by omega);refine⟨w,Ce (by simp[Ap,jN,hv.ok]) ?_,O⟩;rw[run58];unfold wa wb wd wv;rw[BF hv,cT,TB,bV,hg];simp only[Am,dE,iG,Cj hv,bV,U,BS,dP,dR,Cq O,cT,Ct O]
 le a:=by unfold Dl;split;{exact mon_le g a};{exact shm_le a g}
theorem Mv:A2.right=false:=rfl
theorem Zn {f:Int->Int->Int×NE}:∀ {l:List (Int×Int)} {c:Int},Dj f l=.inl c->c≠0
 | [],c,h=>by unfold Dj at h;cases h
 | p :: l,c,h=>by
  unfold Dj at h;split at h;{rename_i hp;cases h;exact hp};{split at h;{rename_i c' hc;cases h;exact Zn hc};·cases h}
theorem X6 {f:Int->Int×NE}:∀ {l:jo} {c:Int},FS f l=.inl c->c≠0
 | [],c,h=>by unfold FS at h;cases h
 | p :: l,c,h=>by
  unfold FS at h;split at h;{rename_i hp;cases h;exact hp};{split at h;{rename_i c' hc;cases h;exact X6 hc};·cases h}
def Ge (r:jI×Int):Prop:=r.2=0↔r.1.right=true
theorem HD (h:c≠0):Ge (A2,c):=⟨fun h'=>iW h' h,fun h'=>by rw[Mv] at h';cases h'⟩
theorem O2 (h:a.right=true):Ge (a,0):=⟨fun _=>h,fun _=>rfl⟩
theorem dy_fits (g:ji) (a b:jI):Ge (jI.dy g a b):=by
 unfold jI.dy;split;{exact HD (by decide)};split;{exact HD (by decide)};split;{rename_i h;exact HD h};split;{exact HD (by decide)};rename_i U _ h3 _;split;{rename_i c hc;exact HD (Zn hc)}
 ·rename_i r T;have U:(a.right&&b.right)=true:=by cases h:(a.right&&b.right)<;>simp_all
  simp only[dF] at U;have hz:=Decidable.not_not.1 h3;have hs:=QR U.1 U.2 hz;have hl:r.length=(a.sz b).1.toNat:=by rw[UG T,Tv]
  refine O2 ?_;have sa:=Na U.1;have sb:=Na U.2;unfold jI.right;simp only[fi,d8,ez];cases ha:a.li with
  | true =>
   simp only[fJ,iH,iK];have:=hs.2.1;omega
  | false =>
   cases hb:b.li with
   | true =>
    simp only[Bool.or_true,iH,iK];have:=hs.2.1;omega
   | false =>
    simp only[Bool.or_self,dE,iG,iK];rw[hl];simp[jI.sz,ha,sb.1 hb]
theorem zaP (g:ji) (a:jI):Ge (jI.q7 g a):=by
 unfold jI.q7;split;{exact HD (by decide)};split;{exact HD (by decide)};split;{exact HD (by decide)};rename_i U _ _;split;{rename_i c hc;exact HD (X6 hc)}
 ·rename_i r T;have U:a.right=true:=by cases h:a.right<;>simp_all
  refine O2 ?_;have sa:=Na U;have hl:=T3 T;unfold jI.right;simp only[fi,d8,ez];cases ha:a.li with
  | true=>simp only[iH,iK];omega
  | false=>simp only[dE,iG,iK];rw[hl];exact sa.1 ha
theorem dk (g:ji) (a b:jI):Ge (CE g a b):=by unfold CE;split;{exact dy_fits g a b};{exact (Sh.q8 g a b).1}
theorem aF (g:ji) (a:jI):Ge (Dl g a):=by unfold Dl;split;{exact zaP g a};{exact (Sh.qf g a).1}
theorem WZ {D:jI->jI->jI×Int} (hD:∀ a b,Ge (D a b)):∀ (l:ju) (o:jI),o.right=true->Ge (GW D l o)
 | [],o,h=>O2 h
 | x :: H,o,h=>by
  unfold GW;split;{rename_i h0;exact WZ hD H _ ((hD x o).1 h0)};{rename_i h0;exact HD h0}
theorem item_ok {b:jI} (h:b.right=true) {n:Int} (hn:n∈b.n):(BZ b.ru n).right=true:=by
 unfold jI.right;cases T:b.ru with
 | false=>rfl
 | true =>
  have:=Sh.lq h T n hn;simp[BZ,this]
theorem vp (hD:∀ a b,Ge (D a b)) (N:jI×Int) (T:∀ n∈b.n,(BZ b.ru n).right=true) (hn:b.n≠[]):Ge (Df D N b):=by obtain⟨r,m,hb,hbr⟩:=OU hn;unfold Df;rw[hbr];exact WZ hD _ _ (T m (by rw[hb];simp))
theorem vq (h:Ge r):Ge (GD r):=by unfold GD;by_cases h0:r.2=0;{rw[iJ h0,h0];exact O2 (h.1 h0)};{rw[iI h0];exact HD h0}
theorem V7 {F:jI->jI×Int}:∀ {l:ju},(∀ a∈l,Ge (F a))->match EA F l with
  | .inl c=>c≠0
  | .inr r=>r.length=l.length/\∀ x∈r,x.right=true
 | [],_=>⟨rfl,by simp⟩
 | a :: l,h=>by
  have ih:=V7 fun b hb=>h b (dZ _ hb);have ha:=h a d7;rw[Oa];by_cases h0:(F a).2=0
  ·rw[iJ h0];revert ih;cases EA F l with
   | inl c=>exact id
   | inr r =>
    rintro ⟨e1,e2⟩;refine⟨by simp[e1],?_⟩;intro x A;rcases dM.1 A with rfl | A;{exact ha.1 h0};{exact e2 x A}
  {rw[iI h0];exact h0}
theorem YA:∀ {l:ju},(∀ a∈l,a.n.length=1)->(B7 l).length=l.length
 | [],_=>rfl
 | a :: l,h=>by
  have:=YA fun b hb=>h b (dZ _ hb);unfold B7 at this |-;rw[fg,eA,this,h a d7,eS];omega
theorem vr {li ru:Bool} (hl:∀ x∈l,x.right=true):(Cz li l≠0/\EC li ru l=A2)\/(Cz li l=0/\(EC li ru l).right=true/\(EC li ru l).li=li/\(EC li ru l).n.length=l.length):=by
 by_cases h0:Cz li l=0
 ·right;have h0':=h0;have hg:EC li ru l=⟨li,if l.length=0 then ru else (Dh l).ru,B7 l⟩:=by unfold EC;rw[iJ h0]
  unfold Cz at h0;split at h0;·cases h0
  split at h0;·cases h0
  split at h0;·cases h0
  split at h0;·cases h0
  split at h0;·cases h0
  rename_i _ O h3 h4 h5
  have kn:∀ a∈l,a.n.length=1:=by
   intro a ha
   have:a.li=false:=by
    cases hq:a.li with
    | false=>rfl
    | true=>exact iW (iz.2 ⟨a,ha,hq⟩) O
   exact (Na (hl a ha)).1 this
  have hlen:=YA kn;refine⟨h0',?_,by rw[hg],by rw[hg];exact hlen⟩;rw[hg];refine Sh.kH ?_ ?_
  ·intro mF n hn;obtain⟨a,ha,hna⟩:=fH.1 hn;have jW:l.length≠0:=by intro h;rw[fK.1 h] at ha;cases ha
   rw[iI jW] at mF
   have har:a.ru=true:=by
    cases hq:a.ru with
    | true=>rfl
    | false=>exact iW (iz.2 ⟨a,ha,by rw[hq,mF];rfl⟩) h3
   exact Sh.lq (hl a ha) har n hna
  ·cases mi:li with
   | true=>simp only[iH];omega
   | false =>
    simp only[dE,iG];rw[hlen];exact fh fun hq=>h4 ⟨mi,hq⟩
 {left;exact⟨h0,UA h0⟩}
theorem XP (hF:∀ a∈l,Ge (F a)):Ge (C5 F b l)/\((C5 F b l).2=0->(C5 F b l).1.n.length=l.length/\(C5 F b l).1.li=b.li)/\(C5 F b l).1.n.length<=l.length:=by
 have h:=V7 hF;unfold C5;revert h;cases EA F l with
 | inl c =>
  intro h;exact⟨HD h,fun h'=>iW h' h,fp _⟩
 | inr r =>
  rintro ⟨U,O⟩;dsimp only
  rcases vr (li:=b.li) (ru:=b.ru) O with ⟨h3,h4⟩ | ⟨h3,h4,h5,h6⟩;{rw[h4];exact⟨HD h3,fun h'=>iW h' h3,fp _⟩};{rw[h3];exact⟨O2 h4,fun _=>⟨by rw[h6,U],h5⟩,by rw[h6,U];exact dH _⟩}
theorem Ym (T:b.right=true):∀ a∈FM b,(∀ n∈a.n,(BZ a.ru n).right=true)/\a.n≠[]:=by intro a ha;obtain⟨i,hi,rfl⟩:=dJ.1 ha;rw[fI] at hi;refine⟨fun n hn=>item_ok T (eE hn),?_⟩;intro he;have:=iP List.length he;simp only[EX,eV,fF] at this;omega
end Go.Ab.jF


set_option maxRecDepth 100000
namespace Go.Ab
open Go
variable{E:Type}
theorem run22 (B:KB) (h:AA E) (dep:Nat) (e:E) (x0:W) (x1:W):AH (AD B fun _=>.cl) fn22 (.cl) h dep [.cv x0,.cv x1] e=Ae (AZ x1) (wv B 38 [x0] fun a=>Ai a (wd x1 fun a=>wv B 39 [x0,a] fun a=>wa a fun b=>wb a fun a=>Ae (Aw b 3) (some (.jE [.agg [Af b 0,Af b 1,Af b 2],a],e))) (wd x1 fun a=>wv B 40 [x0,a] fun a=>wa a fun b=>wb a fun a=>Ae (Aw b 3) (some (.jE [.agg [Af b 0,Af b 1,Af b 2],a],e)))):=by kernel_rfl

theorem run19 (B:KB) (h:AA E) (dep:Nat) (e:E) (x0:W) (x1:W) (x2:W):AH (AD B fun _=>.cl) fn19 (.cl) h dep [.cv x0,.cv x1,.cv x2] e=Ae (AZ x1) (Ae (AZ x2) (wv B 34 [x0] fun a=>Ai a (wd x1 fun a=>wd x2 fun b=>wv B 35 [x0,a,b] fun a=>wa a fun b=>wb a fun a=>Ae (Aw b 3) (some (.jE [.agg [Af b 0,Af b 1,Af b 2],a],e))) (wd x1 fun a=>wd x2 fun b=>wv B 36 [x0,a,b] fun a=>wa a fun b=>wb a fun a=>Ae (Aw b 3) (some (.jE [.agg [Af b 0,Af b 1,Af b 2],a],e))))):=by kernel_rfl

theorem run12 (B:KB) (h:AA E) (dep:Nat) (e:E) (x0:W) (x1:W):AH (AD B fun _=>.cl) fn12 (.cl) h dep [.cv x0,.cv x1] e=Ae (AZ x0) (Ae (AZ x1) (we x0 fun a=>we x1 fun b=>Ac (Ad (.bin .eql .bool false (.c a) (.c b))) fun a=>Ai a (wf x0 fun a=>wf x1 fun b=>Ac (Ad (.bin .eql .bool false (.c a) (.c b))) fun a=>Ai a (wg x0 fun a=>wg x1 fun b=>wv B 23 [a,b] fun a=>some (a,e)) (some (.bool false,e))) (some (.bool false,e)))):=by kernel_rfl

theorem run38 (B:KB) (h:AA E) (dep:Nat) (e:E) (x0:W) :
  AH (AD B fun _=>.cl) fn38 (.cl) h dep [.cv x0] e =
  Ae (AX 1 [.str [43],.str [45],.str [195,151],.str [195,183],.str [226,140,136],.str [226,140,138],.str [124],.str [126]]) (Ac (Bd B .cl true 59 [AB 1 1
  [.str [43],.str [45],.str [195,151],.str [195,183],.str [226,140,136],.str [226,140,138],.str [124],.str [126]] 0 (Ah [.str [43],.str [45],.str [195,151],.str
  [195,183],.str [226,140,136],.str [226,140,138],.str [124],.str [126]]),x0]) fun a=>some (a,e)):=by kernel_rfl
theorem run39 (B:KB) (h:AA E) (dep:Nat) (e:E) (x0:W) (x1:W):AH (AD B fun _=>.cl) fn39 (.cl) h dep [.cv x0,.cv x1] e=Ae (AZ x1) (wd x1 fun a=>wv B 20 [a] fun a=>wi a fun a=>Ai a (some (.jE [.agg [.bool false,.bool false,.jD],.int .i64 114],e)) (wv B 38 [x0] fun a=>wi a fun a=>Ai a (some (.jE [.agg [.bool false,.bool false,.jD],.int .i64 102],e)) (wf x1 fun a=>Ai a (wg x1 fun a=>wc a fun a=>Ac (Ad (.bin .gtr .num true (.c a) (.c (.int .i64 0)))) fun a=>Ai a (some (.jE [.agg [.bool false,.bool false,.jD],.int .i64 102],e)) (we x1 fun a=>Ac (Ad (.build [.bool false,.bool false,.jD] [(0,(1,.c a))])) fun a=>Ae (Aw a 3) (CU (Af a 2) (Ae (AY [x0,.int .i64 0]) (Be (fun a=>wg (J a.1 2) fun b=>wc b fun b=>wo (J a.1 1) b fun b=>Ai b (wg (J a.1 2) fun b=>wr b (J a.1 1) fun b=>wh b fun b=>wv B 66 [J a.1 0,b] fun b=>wa b fun d=>wb b fun b=>wk b fun f=>Ai f (Ac (some (.jE [.agg [.bool false,.bool false,.jD],b],a.2)) fun a=>some (.inr a)) (Ae (AX 1 [d]) (Ae (Ay (As 0 (Ah [d])) (Ah [d])) (Ae (Bb (Ay (Aj (J a.1 8)) (Ah (Ao (J a.1 9)))) (Ay (As (Aj (J a.1 8)) (Ah (Aq (Ah [d]) (AE 0 [d])))) 2147483648)) (wj (J a.1 1) fun b=>some (.inl ([J a.1 0,b,J a.1 2,J a.1 3,J a.1 4,J a.1 5,J a.1 6,J a.1 7,nI (As (Aj (J a.1 8)) (Ah (Aq (Ah [d]) (AE 0 [d])))),.sl 1 (A5 (Aq (Aj (J a.1 8)) (Ao (J a.1 9))) (Aq (Ah [d]) (AE 0 [d]))) false],a.2))))))) (Ac (Ae (A6 (.jE [.agg [J a.1 6,J a.1 7,AB 1 1 (Ao (J a.1 9)) 0 (Aj (J a.1 8))],.int .i64 0])) (some (.jE [.agg [J a.1 6,J a.1 7,AB 1 1 (Ao (J a.1 9)) 0 (Aj (J a.1 8))],.int .i64 0],a.2))) fun a=>some (.inr a))) ([x0,.int .i64 0,x1,.bool false,.bool false,.jD,Af a 0,Af a 1,nI 0,.sl 1 [] false],e)))))) (we x1 fun a=>Ac (Ad (.build [.bool false,.bool false,.jD] [(0,(1,.c a))])) fun a=>Ae (Aw a 3) (CU (Af a 2) (Ae (AY [x0,.int .i64 0]) (Be (fun a=>wg (J a.1 2) fun b=>wc b fun b=>wo (J a.1 1) b fun b=>Ai b (wg (J a.1 2) fun b=>wr b (J a.1 1) fun b=>wh b fun b=>wv B 66 [J a.1 0,b] fun b=>wa b fun d=>wb b fun b=>wk b fun f=>Ai f (Ac (some (.jE [.agg [.bool false,.bool false,.jD],b],a.2)) fun a=>some (.inr a)) (Ae (AX 1 [d]) (Ae (Ay (As 0 (Ah [d])) (Ah [d])) (Ae (Bb (Ay (Aj (J a.1 8)) (Ah (Ao (J a.1 9)))) (Ay (As (Aj (J a.1 8)) (Ah (Aq (Ah [d]) (AE 0 [d])))) 2147483648)) (wj (J a.1 1) fun b=>some (.inl ([J a.1 0,b,J a.1 2,J a.1 3,J a.1 4,J a.1 5,J a.1 6,J a.1 7,nI (As (Aj (J a.1 8)) (Ah (Aq (Ah [d]) (AE 0 [d])))),.sl 1 (A5 (Aq (Aj (J a.1 8)) (Ao (J a.1 9))) (Aq (Ah [d]) (AE 0 [d]))) false],a.2))))))) (Ac (Ae (A6 (.jE [.agg [J a.1 6,J a.1 7,AB 1 1 (Ao (J a.1 9)) 0 (Aj (J a.1 8))],.int .i64 0])) (some (.jE [.agg [J a.1 6,J a.1 7,AB 1 1 (Ao (J a.1 9)) 0 (Aj (J a.1 8))],.int .i64 0],a.2))) fun a=>some (.inr a))) ([x0,.int .i64 0,x1,.bool false,.bool false,.jD,Af a 0,Af a 1,nI 0,.sl 1 [] false],e)))))))):=by kernel_rfl

theorem run40 (B:KB) (h:AA E) (dep:Nat) (e:E) (x0:W) (x1:W):AH (AD B fun _=>.cl) fn40 (.cl) h dep [.cv x0,.cv x1] e=Ae (AZ x1) (wd x1 fun a=>wv B 20 [a] fun a=>wi a fun a=>Ai a (some (.jE [.agg [.bool false,.bool false,.jD],.int .i64 114],e)) (wg x1 fun a=>Ac (GO 1 a) fun a=>Ae (Ay (Ah a) 2147483648) (ws x0 [226,141,180] fun b=>Ai b (we x1 fun a=>wi a fun a=>Ai a (wv B 67 [.jD,.bool false] fun a=>Ae (Aw a 3) (some (.jE [.agg [Af a 0,Af a 1,Af a 2],.int .i64 0],e))) (wg x1 fun a=>wc a fun a=>Ae (AX 1 [a]) (Ac (Bd B .cl false 67 [AB 1 1 [a] 0 (Ah [a]),.bool false]) fun a=>Ae (Aw a 3) (some (.jE [.agg [Af a 0,Af a 1,Af a 2],.int .i64 0],e))))) (ws x0 [226,141,179] fun b=>Ai b (wd x1 fun a=>wv B 68 [a] fun a=>wa a fun b=>wb a fun a=>Ae (Aw b 3) (some (.jE [.agg [Af b 0,Af b 1,Af b 2],a],e))) (ws x0 [44] fun b=>Ai b (wf x1 fun b=>Ac (Bd B .cl false 67 [AB 1 1 a 0 (Ah a),b]) fun a=>Ae (Aw a 3) (some (.jE [.agg [Af a 0,Af a 1,Af a 2],.int .i64 0],e))) (ws x0 [226,140,189] fun b=>Ai b (Ae (AY [nI (Ah a),.int .i64 0]) (Be (fun a=>Ac (Ad (.bin .lss .num false (.c (J a.1 1)) (.c (nI (Aj (J a.1 0)))))) fun b=>Ai b (wg (J a.1 2) fun b=>Ac (Ad (.bin .sub .num true (.c (nI (Aj (J a.1 0)))) (.c (.int .i64 1)))) fun d=>Ac (Ad (.bin .sub .num false (.c d) (.c (J a.1 1)))) fun d=>wr b d fun b=>wh b fun b=>Ac (Fl (J a.1 1)) fun d=>Ae (CG d (Aj (J a.1 0))) (Ac (F9 1 (Ao (J a.1 6)) (As 0 d) 0 1 b) fun b=>wj (J a.1 1) fun d=>some (.inl ([nI (Aj (J a.1 0)),d,J a.1 2,J a.1 3,J a.1 4,J a.1 5,.sl 1 b false],a.2)))) (Ac (we (J a.1 2) fun b=>wf (J a.1 2) fun d=>Ae (Aw b 1) (Ae (Aw d 1) (Ae (A6 (.jE [.agg [Af b 0,Af d 0,AB 1 1 (Ao (J a.1 6)) 0 (Aj (J a.1 0))],.int .i64 0])) (some (.jE [.agg [Af b 0,Af d 0,AB 1 1 (Ao (J a.1 6)) 0 (Aj (J a.1 0))],.int .i64 0],a.2))))) fun a=>some (.inr a))) ([nI (Ah a),.int .i64 0,x1,.bool false,.bool false,.jD,.sl 1 a false],e))) (ws x0 [226,134,145] fun b=>Ai b (wl (nI (Ah a)) fun b=>Ai b (wf x1 fun b=>wv B 69 [b] fun b=>Ae (AX 1 [b]) (Ae (Ay (As 0 (Ah [b])) (Ah [b])) (Ae (Bb (Ay (Ah a) (Ah a)) (Ay (As (Ah a) (Ah (Aq (Ah [b]) (AE 0 [b])))) 2147483648)) (wf x1 fun d=>Ac (Ev none (As (Ah a) (Ah (Aq (Ah [b]) (AE 0 [b])))) (As (Ah a) (Ah (Aq (Ah [b]) (AE 0 [b]))))) fun f=>Ac (Ev (some (.int .i64 1)) (As (Ah a) (Ah (Aq (Ah [b]) (AE 0 [b])))) f) fun f=>Ae (Aw d 1) (Ae (A6 (.jE [.agg [.bool false,Af d 0,AB 1 1 (A5 (Aq (Ah a) a) (Aq (Ah [b]) (AE 0 [b]))) 0 f],.int .i64 0])) (some (.jE [.agg [.bool false,Af d 0,AB 1 1 (A5 (Aq (Ah a) a) (Aq (Ah [b]) (AE 0 [b]))) 0 f],.int .i64 0],e))))))) (wf x1 fun b=>Ac (Ev none (Ah a) (Ah a)) fun d=>Ac (Ev (some (.int .i64 1)) (Ah a) d) fun d=>Ae (Aw b 1) (Ae (A6 (.jE [.agg [.bool false,Af b 0,AB 1 1 a 0 d],.int .i64 0])) (some (.jE [.agg [.bool false,Af b 0,AB 1 1 a 0 d],.int .i64 0],e))))) (ws x0 [226,137,162] fun b=>Ai b (wv B 65 [nI (Ah a)] fun a=>Ae (Aw a 3) (some (.jE [.agg [Af a 0,Af a 1,Af a 2],.int .i64 0],e))) (some (.jE [.agg [.bool false,.bool false,.jD],.int .i64 102],e)))))))))):=by kernel_rfl

theorem run34 (B:KB) (h:AA E) (dep:Nat) (e:E) (x0:W) :
  AH (AD B fun _=>.cl) fn34 (.cl) h dep [.cv x0] e =
  Ae (AX 1 [.str [43],.str [45],.str [195,151],.str [195,183],.str [226,140,136],.str [226,140,138],.str [124],.str [61],.str [226,137,160],.str [60],.str
  [62],.str [226,137,164],.str [226,137,165],.str [226,136,167],.str [226,136,168]]) (Ac (Bd B .cl true 59 [AB 1 1 [.str [43],.str [45],.str [195,151],.str
  [195,183],.str [226,140,136],.str [226,140,138],.str [124],.str [61],.str [226,137,160],.str [60],.str [62],.str [226,137,164],.str [226,137,165],.str [226,
  136,167],.str [226,136,168]] 0 (Ah [.str [43],.str [45],.str [195,151],.str [195,183],.str [226,140,136],.str [226,140,138],.str [124],.str [61],.str [226,137,
  160],.str [60],.str [62],.str [226,137,164],.str [226,137,165],.str [226,136,167],.str [226,136,168]]),x0]) fun a=>some (a,e)):=by kernel_rfl
theorem run35 (B:KB) (h:AA E) (dep:Nat) (e:E) (x0:W) (x1:W) (x2:W):AH (AD B fun _=>.cl) fn35 (.cl) h dep [.cv x0,.cv x1,.cv x2] e=Ae (AZ x1) (Ae (AZ x2) (wd x1 fun a=>wv B 20 [a] fun a=>wi a fun a=>Ai a (some (.jE [.agg [.bool false,.bool false,.jD],.int .i64 114],e)) (wd x2 fun a=>wv B 20 [a] fun a=>wi a fun a=>Ai a (some (.jE [.agg [.bool false,.bool false,.jD],.int .i64 114],e)) (wv B 34 [x0] fun a=>wi a fun a=>Ai a (some (.jE [.agg [.bool false,.bool false,.jD],.int .i64 102],e)) (Ac (we x1 fun a=>Ai a (we x2 fun a=>Ai a (wg x1 fun a=>wc a fun a=>wg x2 fun b=>wc b fun b=>wt a b fun a=>some a) (some (.bool false))) (some (.bool false))) fun a=>Ai a (some (.jE [.agg [.bool false,.bool false,.jD],.int .i64 110],e)) (Ac (Ac (Ad (.bin .neq .str true (.c x0) (.c (.str [61])))) fun a=>Ai a (Ac (Ad (.bin .neq .str true (.c x0) (.c (.str [226,137,160])))) fun a=>Ai a (wf x1 fun a=>Ai a (wg x1 fun a=>wc a fun a=>Ac (Ad (.bin .gtr .num true (.c a) (.c (.int .i64 0)))) fun a=>Ai a (some (.bool true)) (wf x2 fun a=>Ai a (wg x2 fun a=>wc a fun a=>Ac (Ad (.bin .gtr .num true (.c a) (.c (.int .i64 0)))) fun a=>some a) (some (.bool false)))) (wf x2 fun a=>Ai a (wg x2 fun a=>wc a fun a=>Ac (Ad (.bin .gtr .num true (.c a) (.c (.int .i64 0)))) fun a=>some a) (some (.bool false)))) (some (.bool false))) (some (.bool false))) fun a=>Ai a (some (.jE [.agg [.bool false,.bool false,.jD],.int .i64 102],e)) (we x1 fun a=>Ai a (Ac (Ad (.build [.bool false,.bool false,.jD] [(0,(1,.c (.bool true)))])) fun a=>Ae (Aw a 3) (wg x2 fun b=>wc b fun b=>we x1 fun d=>Ai d (wg x1 fun b=>wc b fun b=>CU (Af a 2) (Ae (AY [x0,b,.int .i64 0]) (Be (fun a=>wo (J a.1 2) (J a.1 1) fun b=>Ai b (wd (J a.1 3) fun b=>wv B 61 [b,J a.1 2] fun b=>wd (J a.1 4) fun d=>wv B 61 [d,J a.1 2] fun d=>wf (J a.1 3) fun f=>wf (J a.1 4) fun g=>Ac (Ad (.bin .eql .bool false (.c f) (.c g))) fun f=>wv B 60 [J a.1 0,b,d,f] fun b=>wa b fun d=>wb b fun b=>wk b fun f=>Ai f (Ac (some (.jE [.agg [.bool false,.bool false,.jD],b],a.2)) fun a=>some (.inr a)) (Ae (AX 1 [d]) (Ae (Ay (As 0 (Ah [d])) (Ah [d])) (Ae (Bb (Ay (Aj (J a.1 10)) (Ah (Ao (J a.1 11)))) (Ay (As (Aj (J a.1 10)) (Ah (Aq (Ah [d]) (AE 0 [d])))) 2147483648)) (wj (J a.1 2) fun b=>some (.inl ([J a.1 0,J a.1 1,b,J a.1 3,J a.1 4,J a.1 5,J a.1 6,J a.1 7,J a.1 8,J a.1 9,nI (As (Aj (J a.1 10)) (Ah (Aq (Ah [d]) (AE 0 [d])))),.sl 1 (A5 (Aq (Aj (J a.1 10)) (Ao (J a.1 11))) (Aq (Ah [d]) (AE 0 [d]))) false],a.2))))))) (Ac (Ae (A6 (.jE [.agg [J a.1 8,J a.1 9,AB 1 1 (Ao (J a.1 11)) 0 (Aj (J a.1 10))],.int .i64 0])) (some (.jE [.agg [J a.1 8,J a.1 9,AB 1 1 (Ao (J a.1 11)) 0 (Aj (J a.1 10))],.int .i64 0],a.2))) fun a=>some (.inr a))) ([x0,b,.int .i64 0,x1,x2,.bool false,.bool false,.jD,Af a 0,Af a 1,nI 0,.sl 1 [] false],e)))) (CU (Af a 2) (Ae (AY [x0,b,.int .i64 0]) (Be (fun a=>wo (J a.1 2) (J a.1 1) fun b=>Ai b (wd (J a.1 3) fun b=>wv B 61 [b,J a.1 2] fun b=>wd (J a.1 4) fun d=>wv B 61 [d,J a.1 2] fun d=>wf (J a.1 3) fun f=>wf (J a.1 4) fun g=>Ac (Ad (.bin .eql .bool false (.c f) (.c g))) fun f=>wv B 60 [J a.1 0,b,d,f] fun b=>wa b fun d=>wb b fun b=>wk b fun f=>Ai f (Ac (some (.jE [.agg [.bool false,.bool false,.jD],b],a.2)) fun a=>some (.inr a)) (Ae (AX 1 [d]) (Ae (Ay (As 0 (Ah [d])) (Ah [d])) (Ae (Bb (Ay (Aj (J a.1 10)) (Ah (Ao (J a.1 11)))) (Ay (As (Aj (J a.1 10)) (Ah (Aq (Ah [d]) (AE 0 [d])))) 2147483648)) (wj (J a.1 2) fun b=>some (.inl ([J a.1 0,J a.1 1,b,J a.1 3,J a.1 4,J a.1 5,J a.1 6,J a.1 7,J a.1 8,J a.1 9,nI (As (Aj (J a.1 10)) (Ah (Aq (Ah [d]) (AE 0 [d])))),.sl 1 (A5 (Aq (Aj (J a.1 10)) (Ao (J a.1 11))) (Aq (Ah [d]) (AE 0 [d]))) false],a.2))))))) (Ac (Ae (A6 (.jE [.agg [J a.1 8,J a.1 9,AB 1 1 (Ao (J a.1 11)) 0 (Aj (J a.1 10))],.int .i64 0])) (some (.jE [.agg [J a.1 8,J a.1 9,AB 1 1 (Ao (J a.1 11)) 0 (Aj (J a.1 10))],.int .i64 0],a.2))) fun a=>some (.inr a))) ([x0,b,.int .i64 0,x1,x2,.bool false,.bool false,.jD,Af a 0,Af a 1,nI 0,.sl 1 [] false],e)))))) (we x2 fun a=>Ac (Ad (.build [.bool false,.bool false,.jD] [(0,(1,.c a))])) fun a=>Ae (Aw a 3) (wg x2 fun b=>wc b fun b=>we x1 fun d=>Ai d (wg x1 fun b=>wc b fun b=>CU (Af a 2) (Ae (AY [x0,b,.int .i64 0]) (Be (fun a=>wo (J a.1 2) (J a.1 1) fun b=>Ai b (wd (J a.1 3) fun b=>wv B 61 [b,J a.1 2] fun b=>wd (J a.1 4) fun d=>wv B 61 [d,J a.1 2] fun d=>wf (J a.1 3) fun f=>wf (J a.1 4) fun g=>Ac (Ad (.bin .eql .bool false (.c f) (.c g))) fun f=>wv B 60 [J a.1 0,b,d,f] fun b=>wa b fun d=>wb b fun b=>wk b fun f=>Ai f (Ac (some (.jE [.agg [.bool false,.bool false,.jD],b],a.2)) fun a=>some (.inr a)) (Ae (AX 1 [d]) (Ae (Ay (As 0 (Ah [d])) (Ah [d])) (Ae (Bb (Ay (Aj (J a.1 10)) (Ah (Ao (J a.1 11)))) (Ay (As (Aj (J a.1 10)) (Ah (Aq (Ah [d]) (AE 0 [d])))) 2147483648)) (wj (J a.1 2) fun b=>some (.inl ([J a.1 0,J a.1 1,b,J a.1 3,J a.1 4,J a.1 5,J a.1 6,J a.1 7,J a.1 8,J a.1 9,nI (As (Aj (J a.1 10)) (Ah (Aq (Ah [d]) (AE 0 [d])))),.sl 1 (A5 (Aq (Aj (J a.1 10)) (Ao (J a.1 11))) (Aq (Ah [d]) (AE 0 [d]))) false],a.2))))))) (Ac (Ae (A6 (.jE [.agg [J a.1 8,J a.1 9,AB 1 1 (Ao (J a.1 11)) 0 (Aj (J a.1 10))],.int .i64 0])) (some (.jE [.agg [J a.1 8,J a.1 9,AB 1 1 (Ao (J a.1 11)) 0 (Aj (J a.1 10))],.int .i64 0],a.2))) fun a=>some (.inr a))) ([x0,b,.int .i64 0,x1,x2,.bool false,.bool false,.jD,Af a 0,Af a 1,nI 0,.sl 1 [] false],e)))) (CU (Af a 2) (Ae (AY [x0,b,.int .i64 0]) (Be (fun a=>wo (J a.1 2) (J a.1 1) fun b=>Ai b (wd (J a.1 3) fun b=>wv B 61 [b,J a.1 2] fun b=>wd (J a.1 4) fun d=>wv B 61 [d,J a.1 2] fun d=>wf (J a.1 3) fun f=>wf (J a.1 4) fun g=>Ac (Ad (.bin .eql .bool false (.c f) (.c g))) fun f=>wv B 60 [J a.1 0,b,d,f] fun b=>wa b fun d=>wb b fun b=>wk b fun f=>Ai f (Ac (some (.jE [.agg [.bool false,.bool false,.jD],b],a.2)) fun a=>some (.inr a)) (Ae (AX 1 [d]) (Ae (Ay (As 0 (Ah [d])) (Ah [d])) (Ae (Bb (Ay (Aj (J a.1 10)) (Ah (Ao (J a.1 11)))) (Ay (As (Aj (J a.1 10)) (Ah (Aq (Ah [d]) (AE 0 [d])))) 2147483648)) (wj (J a.1 2) fun b=>some (.inl ([J a.1 0,J a.1 1,b,J a.1 3,J a.1 4,J a.1 5,J a.1 6,J a.1 7,J a.1 8,J a.1 9,nI (As (Aj (J a.1 10)) (Ah (Aq (Ah [d]) (AE 0 [d])))),.sl 1 (A5 (Aq (Aj (J a.1 10)) (Ao (J a.1 11))) (Aq (Ah [d]) (AE 0 [d]))) false],a.2))))))) (Ac (Ae (A6 (.jE [.agg [J a.1 8,J a.1 9,AB 1 1 (Ao (J a.1 11)) 0 (Aj (J a.1 10))],.int .i64 0])) (some (.jE [.agg [J a.1 8,J a.1 9,AB 1 1 (Ao (J a.1 11)) 0 (Aj (J a.1 10))],.int .i64 0],a.2))) fun a=>some (.inr a))) ([x0,b,.int .i64 0,x1,x2,.bool false,.bool false,.jD,Af a 0,Af a 1,nI 0,.sl 1 [] false],e))))))))))))):=by kernel_rfl

theorem run36 (B:KB) (h:AA E) (dep:Nat) (e:E) (x0:W) (x1:W) (x2:W):AH (AD B fun _=>.cl) fn36 (.cl) h dep [.cv x0,.cv x1,.cv x2] e=Ae (AZ x1) (Ae (AZ x2) (wd x1 fun a=>wv B 20 [a] fun a=>wi a fun a=>Ai a (some (.jE [.agg [.bool false,.bool false,.jD],.int .i64 114],e)) (wd x2 fun a=>wv B 20 [a] fun a=>wi a fun a=>Ai a (some (.jE [.agg [.bool false,.bool false,.jD],.int .i64 114],e)) (ws x0 [226,141,180] fun a=>Ai a (Ai a (wd x1 fun a=>wd x2 fun b=>wv B 62 [x0,a,b] fun a=>wa a fun b=>wb a fun a=>Ae (Aw b 3) (some (.jE [.agg [Af b 0,Af b 1,Af b 2],a],e))) (ws x0 [226,141,179] fun a=>Ai a (we x1 fun a=>wi a fun a=>Ai a (some (.jE [.agg [.bool false,.bool false,.jD],.int .i64 111],e)) (wd x1 fun a=>wd x2 fun b=>wv B 63 [a,b] fun a=>Ae (Aw a 3) (some (.jE [.agg [Af a 0,Af a 1,Af a 2],.int .i64 0],e)))) (ws x0 [44] fun a=>Ai a (wd x1 fun a=>wd x2 fun b=>wv B 64 [a,b] fun a=>wa a fun b=>wb a fun a=>Ae (Aw b 3) (some (.jE [.agg [Af b 0,Af b 1,Af b 2],a],e))) (ws x0 [226,137,162] fun a=>Ai a (wd x1 fun a=>wd x2 fun b=>wv B 12 [a,b] fun a=>Ai a (wv B 65 [.int .i64 0] fun a=>Ae (Aw a 3) (some (.jE [.agg [Af a 0,Af a 1,Af a 2],.int .i64 0],e))) (wv B 65 [.int .i64 1] fun a=>Ae (Aw a 3) (some (.jE [.agg [Af a 0,Af a 1,Af a 2],.int .i64 0],e)))) (some (.jE [.agg [.bool false,.bool false,.jD],.int .i64 102],e)))))) (ws x0 [226,140,189] fun a=>Ai a (Ai a (wd x1 fun a=>wd x2 fun b=>wv B 62 [x0,a,b] fun a=>wa a fun b=>wb a fun a=>Ae (Aw b 3) (some (.jE [.agg [Af b 0,Af b 1,Af b 2],a],e))) (ws x0 [226,141,179] fun a=>Ai a (we x1 fun a=>wi a fun a=>Ai a (some (.jE [.agg [.bool false,.bool false,.jD],.int .i64 111],e)) (wd x1 fun a=>wd x2 fun b=>wv B 63 [a,b] fun a=>Ae (Aw a 3) (some (.jE [.agg [Af a 0,Af a 1,Af a 2],.int .i64 0],e)))) (ws x0 [44] fun a=>Ai a (wd x1 fun a=>wd x2 fun b=>wv B 64 [a,b] fun a=>wa a fun b=>wb a fun a=>Ae (Aw b 3) (some (.jE [.agg [Af b 0,Af b 1,Af b 2],a],e))) (ws x0 [226,137,162] fun a=>Ai a (wd x1 fun a=>wd x2 fun b=>wv B 12 [a,b] fun a=>Ai a (wv B 65 [.int .i64 0] fun a=>Ae (Aw a 3) (some (.jE [.agg [Af a 0,Af a 1,Af a 2],.int .i64 0],e))) (wv B 65 [.int .i64 1] fun a=>Ae (Aw a 3) (some (.jE [.agg [Af a 0,Af a 1,Af a 2],.int .i64 0],e)))) (some (.jE [.agg [.bool false,.bool false,.jD],.int .i64 102],e)))))) (ws x0 [226,134,145] fun a=>Ai a (Ai a (wd x1 fun a=>wd x2 fun b=>wv B 62 [x0,a,b] fun a=>wa a fun b=>wb a fun a=>Ae (Aw b 3) (some (.jE [.agg [Af b 0,Af b 1,Af b 2],a],e))) (ws x0 [226,141,179] fun a=>Ai a (we x1 fun a=>wi a fun a=>Ai a (some (.jE [.agg [.bool false,.bool false,.jD],.int .i64 111],e)) (wd x1 fun a=>wd x2 fun b=>wv B 63 [a,b] fun a=>Ae (Aw a 3) (some (.jE [.agg [Af a 0,Af a 1,Af a 2],.int .i64 0],e)))) (ws x0 [44] fun a=>Ai a (wd x1 fun a=>wd x2 fun b=>wv B 64 [a,b] fun a=>wa a fun b=>wb a fun a=>Ae (Aw b 3) (some (.jE [.agg [Af b 0,Af b 1,Af b 2],a],e))) (ws x0 [226,137,162] fun a=>Ai a (wd x1 fun a=>wd x2 fun b=>wv B 12 [a,b] fun a=>Ai a (wv B 65 [.int .i64 0] fun a=>Ae (Aw a 3) (some (.jE [.agg [Af a 0,Af a 1,Af a 2],.int .i64 0],e))) (wv B 65 [.int .i64 1] fun a=>Ae (Aw a 3) (some (.jE [.agg [Af a 0,Af a 1,Af a 2],.int .i64 0],e)))) (some (.jE [.agg [.bool false,.bool false,.jD],.int .i64 102],e)))))) (ws x0 [226,134,147] fun a=>Ai a (wd x1 fun a=>wd x2 fun b=>wv B 62 [x0,a,b] fun a=>wa a fun b=>wb a fun a=>Ae (Aw b 3) (some (.jE [.agg [Af b 0,Af b 1,Af b 2],a],e))) (ws x0 [226,141,179] fun a=>Ai a (we x1 fun a=>wi a fun a=>Ai a (some (.jE [.agg [.bool false,.bool false,.jD],.int .i64 111],e)) (wd x1 fun a=>wd x2 fun b=>wv B 63 [a,b] fun a=>Ae (Aw a 3) (some (.jE [.agg [Af a 0,Af a 1,Af a 2],.int .i64 0],e)))) (ws x0 [44] fun a=>Ai a (wd x1 fun a=>wd x2 fun b=>wv B 64 [a,b] fun a=>wa a fun b=>wb a fun a=>Ae (Aw b 3) (some (.jE [.agg [Af b 0,Af b 1,Af b 2],a],e))) (ws x0 [226,137,162] fun a=>Ai a (wd x1 fun a=>wd x2 fun b=>wv B 12 [a,b] fun a=>Ai a (wv B 65 [.int .i64 0] fun a=>Ae (Aw a 3) (some (.jE [.agg [Af a 0,Af a 1,Af a 2],.int .i64 0],e))) (wv B 65 [.int .i64 1] fun a=>Ae (Aw a 3) (some (.jE [.agg [Af a 0,Af a 1,Af a 2],.int .i64 0],e)))) (some (.jE [.agg [.bool false,.bool false,.jD],.int .i64 102],e)))))))))))):=by kernel_rfl

theorem run23 (B:KB) (h:AA E) (dep:Nat) (e:E) (x0:W) (x1:W):AH (AD B fun _=>.cl) fn23 (.cl) h dep [.cv x0,.cv x1] e=wc x0 (fun a=>wc x1 fun b=>wt a b fun a=>Ai a (some (.bool false,e)) (Ae (AY [x0,x1,.int .i64 0]) (Be (fun a=>wc (J a.1 0) fun b=>wo (J a.1 2) b fun b=>Ai b (wr (J a.1 0) (J a.1 2) fun b=>wh b fun b=>wr (J a.1 1) (J a.1 2) fun c=>wh c fun c=>wt b c fun b=>Ai b (Ac (some (.bool false,a.2)) fun a=>some (.inr a)) (wj (J a.1 2) fun b=>some (.inl ([J a.1 0,J a.1 1,b],a.2)))) (Ac (some (.bool true,a.2)) fun a=>some (.inr a))) ([x0,x1,.int .i64 0],e)))):=by kernel_rfl

theorem run20 (B:KB) (h:AA E) (dep:Nat) (e:E) (x0:W):AH (AD B fun _=>.cl) fn20 (.cl) h dep [.cv x0] e=Ae (AZ x0) (Ae (AY [.int .i64 0]) (Be (fun a=>Ac (wg (J a.1 1) fun b=>wc b fun b=>wo (J a.1 0) b fun b=>Ai b (wf (J a.1 1) fun a=>some a) (some (.bool false))) fun b=>Ai b (wg (J a.1 1) fun b=>wr b (J a.1 0) fun b=>wh b fun b=>wv B 37 [b] fun b=>wi b fun b=>Ai b (Ac (some (.bool false,a.2)) fun a=>some (.inr a)) (wj (J a.1 0) fun b=>some (.inl ([b,J a.1 1],a.2)))) (Ac (Ac (we (J a.1 1) fun b=>Ai b (wg (J a.1 1) fun b=>wc b fun b=>Ac (Ad (.bin .leq .num true (.c b) (.c (.int .i64 200)))) fun b=>Ai b (some (.bool true)) (we (J a.1 1) fun b=>wi b fun b=>Ai b (wg (J a.1 1) fun a=>wc a fun a=>Ac (Ad (.bin .eql .num true (.c a) (.c (.int .i64 1)))) fun a=>some a) (some (.bool false)))) (we (J a.1 1) fun b=>wi b fun b=>Ai b (wg (J a.1 1) fun a=>wc a fun a=>Ac (Ad (.bin .eql .num true (.c a) (.c (.int .i64 1)))) fun a=>some a) (some (.bool false)))) fun b=>some (b,a.2)) fun a=>some (.inr a))) ([.int .i64 0,x0],e))):=by kernel_rfl

theorem run59 (B:KB) (h:AA E) (dep:Nat) (e:E) (x0:W) (x1:W):AH (AD B fun _=>.cl) fn59 (.cl) h dep [.cv x0,.cv x1] e=Ae (AY [x0,x1,.int .i64 0]) (Be (fun a=>wc (J a.1 0) fun b=>wo (J a.1 2) b fun b=>Ai b (wr (J a.1 0) (J a.1 2) fun b=>wh b fun b=>Ac (Ad (.bin .eql .str false (.c b) (.c (J a.1 1)))) fun b=>Ai b (Ac (some (.bool true,a.2)) fun a=>some (.inr a)) (wj (J a.1 2) fun b=>some (.inl ([J a.1 0,J a.1 1,b],a.2)))) (Ac (some (.bool false,a.2)) fun a=>some (.inr a))) ([x0,x1,.int .i64 0],e)):=by kernel_rfl

theorem run66 (B:KB) (h:AA E) (dep:Nat) (e:E) (x0:W) (x1:W):AH (AD B fun _=>.cl) fn66 (.cl) h dep [.cv x0,.cv x1] e=wv B 38 [x0] (fun a=>wi a fun a=>Ai a (some (.jE [.int .i64 0,.int .i64 102],e)) (ws x0 [126] fun a=>Ai a (wk x1 fun a=>Ai a (Ac (Ad (.bin .neq .num true (.c x1) (.c (.int .i64 1)))) fun a=>Ai a (some (.jE [.int .i64 0,.int .i64 102],e)) (ws x0 [45] fun a=>Ai a (wv B 94 [.int .i64 0,x1] fun a=>wa a fun b=>wb a fun a=>some (.jE [b,a],e)) (ws x0 [195,151] fun a=>Ai a (Ac (Ad (.bin .gtr .num true (.c x1) (.c (.int .i64 0)))) fun a=>wv B 95 [a] fun a=>wm x1 fun b=>wv B 95 [b] fun b=>Ac (Ad (.bin .sub .num false (.c a) (.c b))) fun a=>some (.jE [a,.int .i64 0],e)) (ws x0 [195,183] fun a=>Ai a (wv B 96 [.int .i64 1,x1] fun a=>wa a fun b=>wb a fun a=>some (.jE [b,a],e)) (ws x0 [124] fun a=>Ai a (wm x1 fun a=>Ai a (wv B 94 [.int .i64 0,x1] fun a=>wa a fun b=>wb a fun a=>some (.jE [b,a],e)) (some (.jE [x1,.int .i64 0],e))) (ws x0 [126] fun a=>Ai a (Ac (Ad (.bin .sub .num true (.c (.int .i64 1)) (.c x1))) fun a=>some (.jE [a,.int .i64 0],e)) (some (.jE [x1,.int .i64 0],e)))))))) (ws x0 [45] fun a=>Ai a (wv B 94 [.int .i64 0,x1] fun a=>wa a fun b=>wb a fun a=>some (.jE [b,a],e)) (ws x0 [195,151] fun a=>Ai a (Ac (Ad (.bin .gtr .num true (.c x1) (.c (.int .i64 0)))) fun a=>wv B 95 [a] fun a=>wm x1 fun b=>wv B 95 [b] fun b=>Ac (Ad (.bin .sub .num false (.c a) (.c b))) fun a=>some (.jE [a,.int .i64 0],e)) (ws x0 [195,183] fun a=>Ai a (wv B 96 [.int .i64 1,x1] fun a=>wa a fun b=>wb a fun a=>some (.jE [b,a],e)) (ws x0 [124] fun a=>Ai a (wm x1 fun a=>Ai a (wv B 94 [.int .i64 0,x1] fun a=>wa a fun b=>wb a fun a=>some (.jE [b,a],e)) (some (.jE [x1,.int .i64 0],e))) (ws x0 [126] fun a=>Ai a (Ac (Ad (.bin .sub .num true (.c (.int .i64 1)) (.c x1))) fun a=>some (.jE [a,.int .i64 0],e)) (some (.jE [x1,.int .i64 0],e)))))))) (ws x0 [45] fun a=>Ai a (wv B 94 [.int .i64 0,x1] fun a=>wa a fun b=>wb a fun a=>some (.jE [b,a],e)) (ws x0 [195,151] fun a=>Ai a (Ac (Ad (.bin .gtr .num true (.c x1) (.c (.int .i64 0)))) fun a=>wv B 95 [a] fun a=>wm x1 fun b=>wv B 95 [b] fun b=>Ac (Ad (.bin .sub .num false (.c a) (.c b))) fun a=>some (.jE [a,.int .i64 0],e)) (ws x0 [195,183] fun a=>Ai a (wv B 96 [.int .i64 1,x1] fun a=>wa a fun b=>wb a fun a=>some (.jE [b,a],e)) (ws x0 [124] fun a=>Ai a (wm x1 fun a=>Ai a (wv B 94 [.int .i64 0,x1] fun a=>wa a fun b=>wb a fun a=>some (.jE [b,a],e)) (some (.jE [x1,.int .i64 0],e))) (ws x0 [126] fun a=>Ai a (Ac (Ad (.bin .sub .num true (.c (.int .i64 1)) (.c x1))) fun a=>some (.jE [a,.int .i64 0],e)) (some (.jE [x1,.int .i64 0],e))))))))):=by kernel_rfl

theorem run67 (B:KB) (h:AA E) (dep:Nat) (e:E) (x0:W) (x1:W) :
  AH (AD B fun _=>.cl) fn67 (.cl) h dep [.cv x0,.cv x1] e =
  Ac (Ad (.build [.bool false,.bool false,.jD] [(0,(1,.c (.bool true))),(1,(1,.c x1)),(2,(1,.c x0))])) (fun a=>Ae (Aw a 3) (some (.agg [Af a 0,Af
  a 1,Af a 2],e))):=by kernel_rfl
theorem run68 (B:KB) (h:AA E) (dep:Nat) (e:E) (x0:W):AH (AD B fun _=>.cl) fn68 (.cl) h dep [.cv x0] e=Ae (AZ x0) (wg x0 fun a=>wc a fun a=>Ac (Ad (.bin .neq .num true (.c a) (.c (.int .i64 1)))) fun a=>Ai a (some (.jE [.agg [.bool false,.bool false,.jD],.int .i64 111],e)) (wg x0 fun a=>wr a (.int .i64 0) fun a=>wh a fun a=>Ac (wf x0 fun b=>Ai b (some (.bool true)) (wm a fun a=>some a)) fun b=>Ai b (some (.jE [.agg [.bool false,.bool false,.jD],.int .i64 102],e)) (Ac (Ad (.bin .gtr .num true (.c a) (.c (.int .i64 200)))) fun b=>Ai b (some (.jE [.agg [.bool false,.bool false,.jD],.int .i64 113],e)) (Ae (AY [a,nI 0,.int .i64 1]) (Be (fun a=>Ac (Ad (.bin .leq .num false (.c (J a.1 2)) (.c (J a.1 0)))) fun b=>Ai b (Ae (AX 1 [J a.1 2]) (Ae (Ay (As 0 (Ah [J a.1 2])) (Ah [J a.1 2])) (Ae (Bb (Ay (Aj (J a.1 1)) (Ah (Ao (J a.1 6)))) (Ay (As (Aj (J a.1 1)) (Ah (Aq (Ah [J a.1 2]) (AE 0 [J a.1 2])))) 2147483648)) (wj (J a.1 2) fun b=>some (.inl ([J a.1 0,nI (As (Aj (J a.1 1)) (Ah (Aq (Ah [J a.1 2]) (AE 0 [J a.1 2])))),b,J a.1 3,J a.1 4,J a.1 5,.sl 1 (A5 (Aq (Aj (J a.1 1)) (Ao (J a.1 6))) (Aq (Ah [J a.1 2]) (AE 0 [J a.1 2]))) false],a.2)))))) (Ac (Ac (Bd B .cl false 67 [AB 1 1 (Ao (J a.1 6)) 0 (Aj (J a.1 1)),.bool false]) fun b=>Ae (Aw b 3) (some (.jE [.agg [Af b 0,Af b 1,Af b 2],.int .i64 0],a.2))) fun a=>some (.inr a))) ([a,nI 0,.int .i64 1,.bool false,.bool false,.jD,.sl 1 [] false],e)))))):=by kernel_rfl

theorem run69 (B:KB) (h:AA E) (dep:Nat) (e:E) (x0:W) :
  AH (AD B fun _=>.cl) fn69 (.cl) h dep [.cv x0] e =
  Ai x0 (some (.int .i64 32,e)) (some (.int .i64 0,e)):=by kernel_rfl
theorem run65 (B:KB) (h:AA E) (dep:Nat) (e:E) (x0:W) :
  AH (AD B fun _=>.cl) fn65 (.cl) h dep [.cv x0] e =
  Ae (AX 1 [x0]) (Ae (A6 (.agg [.bool false,.bool false,AB 1 1 [x0] 0 (Ah [x0])])) (some (.agg [.bool false,.bool false,AB 1 1 [x0] 0 (Ah [x0])],e))):=by kernel_rfl
theorem run60 (B:KB) (h:AA E) (dep:Nat) (e:E) (x0:W) (x1:W) (x2:W) (x3:W):AH (AD B fun _=>.cl) fn60 (.cl) h dep [.cv x0,.cv x1,.cv x2,.cv x3] e=wi x3 (fun a=>Ai a (wv B 89 [x0,.int .i64 0,.int .i64 1] fun a=>wa a fun b=>wb a fun a=>some (.jE [b,a],e)) (wv B 89 [x0,x1,x2] fun a=>wa a fun b=>wb a fun a=>some (.jE [b,a],e))):=by kernel_rfl

theorem run61 (B:KB) (h:AA E) (dep:Nat) (e:E) (x0:W) (x1:W):AH (AD B fun _=>.cl) fn61 (.cl) h dep [.cv x0,.cv x1] e=Ae (AZ x0) (we x0 fun a=>wi a fun a=>Ai a (wg x0 fun a=>wr a (.int .i64 0) fun a=>wh a fun a=>some (a,e)) (wg x0 fun a=>wr a x1 fun a=>wh a fun a=>some (a,e))):=by kernel_rfl

theorem run62 (B:KB) (h:AA E) (dep:Nat) (e:E) (x0:W) (x1:W) (x2:W):AH (AD B fun _=>.cl) fn62 (.cl) h dep [.cv x0,.cv x1,.cv x2] e=Ae (AZ x1) (Ae (AZ x2) (wg x1 fun a=>wc a fun a=>Ac (Ad (.bin .neq .num true (.c a) (.c (.int .i64 1)))) fun a=>Ai a (some (.jE [.agg [.bool false,.bool false,.jD],.int .i64 111],e)) (wg x1 fun a=>wr a (.int .i64 0) fun a=>wh a fun a=>Ac (wf x1 fun b=>Ai b (some (.bool true)) (ws x0 [226,141,180] fun b=>Ai b (wm a fun a=>some a) (some (.bool false)))) fun b=>Ai b (some (.jE [.agg [.bool false,.bool false,.jD],.int .i64 102],e)) (Ac (ws x0 [226,141,180] fun b=>Ai b (Ac (Ad (.bin .gtr .num true (.c a) (.c (.int .i64 200)))) fun b=>Ai b (some (.bool true)) (Ac (Ad (.bin .lss .num true (.c a) (.c (.int .i64 (-200))))) fun a=>some a)) (ws x0 [226,134,145] fun b=>Ai b (Ac (Ad (.bin .gtr .num true (.c a) (.c (.int .i64 200)))) fun b=>Ai b (some (.bool true)) (Ac (Ad (.bin .lss .num true (.c a) (.c (.int .i64 (-200))))) fun a=>some a)) (some (.bool false)))) fun b=>Ai b (some (.jE [.agg [.bool false,.bool false,.jD],.int .i64 113],e)) (Ac (ws x0 [226,141,180] fun b=>Ai b (Ac (Ad (.bin .gtr .num true (.c a) (.c (.int .i64 0)))) fun a=>Ai a (wg x2 fun a=>wc a fun a=>wl a fun a=>some a) (some (.bool false))) (some (.bool false))) fun b=>Ai b (some (.jE [.agg [.bool false,.bool false,.jD],.int .i64 110],e)) (ws x0 [226,141,180] fun b=>Ai b (wd x2 fun b=>wv B 90 [a,b] fun a=>Ae (Aw a 3) (some (.jE [.agg [Af a 0,Af a 1,Af a 2],.int .i64 0],e))) (ws x0 [226,140,189] fun b=>Ai b (wd x2 fun b=>wv B 91 [a,b] fun a=>Ae (Aw a 3) (some (.jE [.agg [Af a 0,Af a 1,Af a 2],.int .i64 0],e))) (ws x0 [226,134,145] fun b=>Ai b (wd x2 fun b=>wv B 92 [a,b] fun a=>Ae (Aw a 3) (some (.jE [.agg [Af a 0,Af a 1,Af a 2],.int .i64 0],e))) (wd x2 fun b=>wv B 93 [a,b] fun a=>Ae (Aw a 3) (some (.jE [.agg [Af a 0,Af a 1,Af a 2],.int .i64 0],e))))))))))):=by kernel_rfl

theorem run63 (B:KB) (h:AA E) (dep:Nat) (e:E) (x0:W) (x1:W):AH (AD B fun _=>.cl) fn63 (.cl) h dep [.cv x0,.cv x1] e=Ae (AZ x0) (Ae (AZ x1) (we x1 fun a=>Ac (Ad (.build [.bool false,.bool false,.jD] [(0,(1,.c a))])) fun a=>Ae (Aw a 3) (CU (Af a 2) (Ae (AY [.int .i64 0]) (Be (fun a=>wg (J a.1 2) fun b=>wc b fun b=>wo (J a.1 0) b fun b=>Ai b (Ae (AY [J a.1 0,.int .i64 0]) (Be (fun a=>wg (J a.1 2) fun b=>wc b fun b=>wo (J a.1 1) b fun b=>Ai b (wg (J a.1 2) fun b=>wr b (J a.1 1) fun b=>wh b fun b=>wg (J a.1 3) fun d=>wr d (J a.1 0) fun d=>wh d fun d=>wt b d fun b=>Ai b (wj (J a.1 1) fun b=>some (.inl ([J a.1 0,b,J a.1 2,J a.1 3,J a.1 4,J a.1 5,J a.1 6,J a.1 7,J a.1 8,nI (Aj (J a.1 9)),.sl 1 (Ao (J a.1 10)) false],a.2))) (wf (J a.1 2) fun b=>wf (J a.1 3) fun d=>Ac (Ad (.bin .neq .bool false (.c b) (.c d))) fun b=>Ai b (wj (J a.1 1) fun b=>some (.inl ([J a.1 0,b,J a.1 2,J a.1 3,J a.1 4,J a.1 5,J a.1 6,J a.1 7,J a.1 8,nI (Aj (J a.1 9)),.sl 1 (Ao (J a.1 10)) false],a.2))) (Ac (wj (J a.1 1) fun b=>Ae (AX 1 [b]) (Ae (Ay (As 0 (Ah [b])) (Ah [b])) (Ae (Bb (Ay (Aj (J a.1 9)) (Ah (Ao (J a.1 10)))) (Ay (As (Aj (J a.1 9)) (Ah (Aq (Ah [b]) (AE 0 [b])))) 2147483648)) (wj (J a.1 0) fun d=>some (.inl ([d,J a.1 2,J a.1 3,J a.1 4,J a.1 5,J a.1 6,J a.1 7,J a.1 8,nI (As (Aj (J a.1 9)) (Ah (Aq (Ah [b]) (AE 0 [b])))),.sl 1 (A5 (Aq (Aj (J a.1 9)) (Ao (J a.1 10))) (Aq (Ah [b]) (AE 0 [b]))) false],a.2)))))) fun a=>some (.inr a)))) (Ac (wj (J a.1 1) fun b=>Ae (AX 1 [b]) (Ae (Ay (As 0 (Ah [b])) (Ah [b])) (Ae (Bb (Ay (Aj (J a.1 9)) (Ah (Ao (J a.1 10)))) (Ay (As (Aj (J a.1 9)) (Ah (Aq (Ah [b]) (AE 0 [b])))) 2147483648)) (wj (J a.1 0) fun d=>some (.inl ([d,J a.1 2,J a.1 3,J a.1 4,J a.1 5,J a.1 6,J a.1 7,J a.1 8,nI (As (Aj (J a.1 9)) (Ah (Aq (Ah [b]) (AE 0 [b])))),.sl 1 (A5 (Aq (Aj (J a.1 9)) (Ao (J a.1 10))) (Aq (Ah [b]) (AE 0 [b]))) false],a.2)))))) fun a=>some (.inr a))) ([J a.1 0,.int .i64 0,J a.1 1,J a.1 2,J a.1 3,J a.1 4,J a.1 5,J a.1 6,J a.1 7,nI (Aj (J a.1 8)),.sl 1 (Ao (J a.1 9)) false],a.2))) (Ac (Ae (A6 (.agg [J a.1 6,J a.1 7,AB 1 1 (Ao (J a.1 9)) 0 (Aj (J a.1 8))])) (some (.agg [J a.1 6,J a.1 7,AB 1 1 (Ao (J a.1 9)) 0 (Aj (J a.1 8))],a.2))) fun a=>some (.inr a))) ([.int .i64 0,x0,x1,.bool false,.bool false,.jD,Af a 0,Af a 1,nI 0,.sl 1 [] false],e)))))):=by kernel_rfl

theorem run64 (B:KB) (h:AA E) (dep:Nat) (e:E) (x0:W) (x1:W):AH (AD B fun _=>.cl) fn64 (.cl) h dep [.cv x0,.cv x1] e=Ae (AZ x0) (Ae (AZ x1) (Ac (wg x0 fun a=>wc a fun a=>Ac (Ad (.bin .gtr .num true (.c a) (.c (.int .i64 0)))) fun a=>Ai a (wg x1 fun a=>wc a fun a=>Ac (Ad (.bin .gtr .num true (.c a) (.c (.int .i64 0)))) fun a=>Ai a (wf x0 fun a=>wf x1 fun b=>Ac (Ad (.bin .neq .bool false (.c a) (.c b))) fun a=>some a) (some (.bool false))) (some (.bool false))) fun a=>Ai a (some (.jE [.agg [.bool false,.bool false,.jD],.int .i64 102],e)) (wg x0 fun a=>wc a fun a=>wg x1 fun b=>wc b fun b=>wp a b fun a=>Ac (Ad (.bin .gtr .num true (.c a) (.c (.int .i64 200)))) fun a=>Ai a (some (.jE [.agg [.bool false,.bool false,.jD],.int .i64 113],e)) (wg x0 fun a=>Ac (GO 1 a) fun a=>Ae (Ay (Ah a) 2147483648) (wg x1 fun b=>Ac (GO 1 b) fun b=>Ae (Bb (Ay (Ah a) (Ah a)) (Ay (As (Ah a) (Ah b)) 2147483648)) (wf x0 fun d=>Ai d (wg x0 fun d=>wc d fun d=>Ac (Ad (.bin .gtr .num true (.c d) (.c (.int .i64 0)))) fun d=>Ai d (Ac (Bd B .cl false 67 [AB 1 1 (A5 (Aq (Ah a) a) b) 0 (As (Ah a) (Ah b)),.bool true]) fun a=>Ae (Aw a 3) (some (.jE [.agg [Af a 0,Af a 1,Af a 2],.int .i64 0],e))) (wf x1 fun d=>Ai d (wg x1 fun d=>wc d fun d=>Ac (Ad (.bin .gtr .num true (.c d) (.c (.int .i64 0)))) fun d=>Ai d (Ac (Bd B .cl false 67 [AB 1 1 (A5 (Aq (Ah a) a) b) 0 (As (Ah a) (Ah b)),.bool true]) fun a=>Ae (Aw a 3) (some (.jE [.agg [Af a 0,Af a 1,Af a 2],.int .i64 0],e))) (wf x0 fun d=>Ai d (wf x1 fun d=>Ac (Bd B .cl false 67 [AB 1 1 (A5 (Aq (Ah a) a) b) 0 (As (Ah a) (Ah b)),d]) fun a=>Ae (Aw a 3) (some (.jE [.agg [Af a 0,Af a 1,Af a 2],.int .i64 0],e))) (Ac (Bd B .cl false 67 [AB 1 1 (A5 (Aq (Ah a) a) b) 0 (As (Ah a) (Ah b)),.bool false]) fun a=>Ae (Aw a 3) (some (.jE [.agg [Af a 0,Af a 1,Af a 2],.int .i64 0],e))))) (wf x0 fun d=>Ai d (wf x1 fun d=>Ac (Bd B .cl false 67 [AB 1 1 (A5 (Aq (Ah a) a) b) 0 (As (Ah a) (Ah b)),d]) fun a=>Ae (Aw a 3) (some (.jE [.agg [Af a 0,Af a 1,Af a 2],.int .i64 0],e))) (Ac (Bd B .cl false 67 [AB 1 1 (A5 (Aq (Ah a) a) b) 0 (As (Ah a) (Ah b)),.bool false]) fun a=>Ae (Aw a 3) (some (.jE [.agg [Af a 0,Af a 1,Af a 2],.int .i64 0],e)))))) (wf x1 fun d=>Ai d (wg x1 fun d=>wc d fun d=>Ac (Ad (.bin .gtr .num true (.c d) (.c (.int .i64 0)))) fun d=>Ai d (Ac (Bd B .cl false 67 [AB 1 1 (A5 (Aq (Ah a) a) b) 0 (As (Ah a) (Ah b)),.bool true]) fun a=>Ae (Aw a 3) (some (.jE [.agg [Af a 0,Af a 1,Af a 2],.int .i64 0],e))) (wf x0 fun d=>Ai d (wf x1 fun d=>Ac (Bd B .cl false 67 [AB 1 1 (A5 (Aq (Ah a) a) b) 0 (As (Ah a) (Ah b)),d]) fun a=>Ae (Aw a 3) (some (.jE [.agg [Af a 0,Af a 1,Af a 2],.int .i64 0],e))) (Ac (Bd B .cl false 67 [AB 1 1 (A5 (Aq (Ah a) a) b) 0 (As (Ah a) (Ah b)),.bool false]) fun a=>Ae (Aw a 3) (some (.jE [.agg [Af a 0,Af a 1,Af a 2],.int .i64 0],e))))) (wf x0 fun d=>Ai d (wf x1 fun d=>Ac (Bd B .cl false 67 [AB 1 1 (A5 (Aq (Ah a) a) b) 0 (As (Ah a) (Ah b)),d]) fun a=>Ae (Aw a 3) (some (.jE [.agg [Af a 0,Af a 1,Af a 2],.int .i64 0],e))) (Ac (Bd B .cl false 67 [AB 1 1 (A5 (Aq (Ah a) a) b) 0 (As (Ah a) (Ah b)),.bool false]) fun a=>Ae (Aw a 3) (some (.jE [.agg [Af a 0,Af a 1,Af a 2],.int .i64 0],e))))))))))):=by kernel_rfl

theorem run37 (B:KB) (h:AA E) (dep:Nat) (e:E) (x0:W) :
  AH (AD B fun _=>.cl) fn37 (.cl) h dep [.cv x0] e =
  Ac (Ac (Ad (.bin .geq .num true (.c x0) (.c (.int .i64 0)))) (fun a=>Ai a (Ac (Ad (.bin .leq .num true (.c x0) (.c (.int .i64 1114111)))) (fun a=>Ai a
  (Ac (Ad (.bin .lss .num true (.c x0) (.c (.int .i64 55296)))) (fun a=>Ai a (some (.bool true)) (Ac (Ad (.bin .gtr .num true (.c x0) (.c (.int .i64 57343)))) (fun
  z4=>some z4)))) (some (.bool false)))) (some (.bool false)))) (fun a=>some (a,e)):=by kernel_rfl
theorem run94 (B:KB) (h:AA E) (dep:Nat) (e:E) (x0:W) (x1:W):AH (AD B fun _=>.cl) fn94 (.cl) h dep [.cv x0,.cv x1] e=Ac (Ad (.bin .sub .num false (.c x0) (.c x1))) (fun a=>Ac (Ac (Ad (.bin .geq .num true (.c x0) (.c (.int .i64 0)))) fun b=>Ai b (wm x1 fun b=>Ai b (wm a fun b=>Ai b (some (.bool true)) (wm x0 fun b=>Ai b (Ac (Ad (.bin .gtr .num true (.c x1) (.c (.int .i64 0)))) fun b=>Ai b (Ac (Ad (.bin .geq .num true (.c a) (.c (.int .i64 0)))) fun a=>some a) (some (.bool false))) (some (.bool false)))) (wm x0 fun b=>Ai b (Ac (Ad (.bin .gtr .num true (.c x1) (.c (.int .i64 0)))) fun b=>Ai b (Ac (Ad (.bin .geq .num true (.c a) (.c (.int .i64 0)))) fun a=>some a) (some (.bool false))) (some (.bool false)))) (wm x0 fun b=>Ai b (Ac (Ad (.bin .gtr .num true (.c x1) (.c (.int .i64 0)))) fun b=>Ai b (Ac (Ad (.bin .geq .num true (.c a) (.c (.int .i64 0)))) fun a=>some a) (some (.bool false))) (some (.bool false)))) fun b=>Ai b (some (.jE [.int .i64 0,.int .i64 100],e)) (some (.jE [a,.int .i64 0],e))):=by kernel_rfl

theorem run95 (B:KB) (h:AA E) (dep:Nat) (e:E) (x0:W) :
  AH (AD B fun _=>.cl) fn95 (.cl) h dep [.cv x0] e =
  Ai x0 (some (.int .i64 1,e)) (some (.int .i64 0,e)):=by kernel_rfl
theorem run96 (B:KB) (h:AA E) (dep:Nat) (e:E) (x0:W) (x1:W):AH (AD B fun _=>.cl) fn96 (.cl) h dep [.cv x0,.cv x1] e=Ac (wl x1 fun a=>Ai a (wl x0 fun a=>some a) (some (.bool false))) (fun a=>Ai a (some (.jE [.int .i64 1,.int .i64 0],e)) (wl x1 fun a=>Ai a (some (.jE [.int .i64 0,.int .i64 101],e)) (wv B 124 [] fun a=>wq x0 a fun a=>Ai a (Ac (Ad (.bin .eql .num true (.c x1) (.c (.int .i64 (-1))))) fun a=>Ai a (some (.jE [.int .i64 0,.int .i64 100],e)) (Ac (Ad (.bin .rem .num false (.c x0) (.c x1))) fun a=>wk a fun a=>Ai a (some (.jE [.int .i64 0,.int .i64 101],e)) (Ac (Ad (.bin .quo .num false (.c x0) (.c x1))) fun a=>some (.jE [a,.int .i64 0],e)))) (Ac (Ad (.bin .rem .num false (.c x0) (.c x1))) fun a=>wk a fun a=>Ai a (some (.jE [.int .i64 0,.int .i64 101],e)) (Ac (Ad (.bin .quo .num false (.c x0) (.c x1))) fun a=>some (.jE [a,.int .i64 0],e)))))):=by kernel_rfl

theorem run89 (B:KB) (h:AA E) (dep:Nat) (e:E) (x0:W) (x1:W) (x2:W):AH (AD B fun _=>.cl) fn89 (.cl) h dep [.cv x0,.cv x1,.cv x2] e=wv B 34 [x0] (fun a=>wi a fun a=>Ai a (some (.jE [.int .i64 0,.int .i64 102],e)) (Ac (Ac (Ad (.bin .geq .num true (.c x1) (.c (.int .i64 0)))) fun a=>Ai a (Ac (Ad (.bin .leq .num true (.c x1) (.c (.int .i64 1)))) fun a=>Ai a (Ac (Ad (.bin .geq .num true (.c x2) (.c (.int .i64 0)))) fun a=>Ai a (Ac (Ad (.bin .leq .num true (.c x2) (.c (.int .i64 1)))) fun a=>some a) (some (.bool false))) (some (.bool false))) (some (.bool false))) fun a=>ws x0 [43] fun b=>Ai b (wv B 120 [x1,x2] fun a=>wa a fun b=>wb a fun a=>some (.jE [b,a],e)) (ws x0 [45] fun b=>Ai b (wv B 94 [x1,x2] fun a=>wa a fun b=>wb a fun a=>some (.jE [b,a],e)) (ws x0 [195,151] fun b=>Ai b (wv B 121 [x1,x2] fun a=>wa a fun b=>wb a fun a=>some (.jE [b,a],e)) (ws x0 [195,183] fun b=>Ai b (wv B 96 [x1,x2] fun a=>wa a fun b=>wb a fun a=>some (.jE [b,a],e)) (ws x0 [226,140,136] fun b=>Ai b (Ac (Ad (.j6 true [.c x1,.c x2])) fun a=>some (.jE [a,.int .i64 0],e)) (ws x0 [226,140,138] fun b=>Ai b (Ac (Ad (.j6 false [.c x1,.c x2])) fun a=>some (.jE [a,.int .i64 0],e)) (ws x0 [124] fun b=>Ai b (wv B 122 [x1,x2] fun a=>some (.jE [a,.int .i64 0],e)) (ws x0 [226,136,167] fun b=>Ai b (Ai b (wi a fun a=>Ai a (some (.jE [.int .i64 0,.int .i64 102],e)) (ws x0 [226,136,167] fun a=>Ai a (Ac (Ad (.j6 false [.c x1,.c x2])) fun a=>some (.jE [a,.int .i64 0],e)) (Ac (Ad (.j6 true [.c x1,.c x2])) fun a=>some (.jE [a,.int .i64 0],e)))) (wv B 123 [x0,x1,x2] fun a=>some (.jE [a,.int .i64 0],e))) (ws x0 [226,136,168] fun b=>Ai b (wi a fun a=>Ai a (some (.jE [.int .i64 0,.int .i64 102],e)) (ws x0 [226,136,167] fun a=>Ai a (Ac (Ad (.j6 false [.c x1,.c x2])) fun a=>some (.jE [a,.int .i64 0],e)) (Ac (Ad (.j6 true [.c x1,.c x2])) fun a=>some (.jE [a,.int .i64 0],e)))) (wv B 123 [x0,x1,x2] fun a=>some (.jE [a,.int .i64 0],e)))))))))))):=by kernel_rfl

theorem run90 (B:KB) (h:AA E) (dep:Nat) (e:E) (x0:W) (x1:W):AH (AD B fun _=>.cl) fn90 (.cl) h dep [.cv x0,.cv x1] e=Ae (AZ x1) (Ae (AY [x0,nI 0,.int .i64 0]) (Be (fun a=>wo (J a.1 2) (J a.1 0) fun b=>Ai b (wg (J a.1 3) fun b=>wg (J a.1 3) fun d=>wc d fun d=>Ac (Ad (.bin .rem .num false (.c (J a.1 2)) (.c d))) fun d=>wr b d fun b=>wh b fun b=>Ae (AX 1 [b]) (Ae (Ay (As 0 (Ah [b])) (Ah [b])) (Ae (Bb (Ay (Aj (J a.1 1)) (Ah (Ao (J a.1 7)))) (Ay (As (Aj (J a.1 1)) (Ah (Aq (Ah [b]) (AE 0 [b])))) 2147483648)) (wj (J a.1 2) fun d=>some (.inl ([J a.1 0,nI (As (Aj (J a.1 1)) (Ah (Aq (Ah [b]) (AE 0 [b])))),d,J a.1 3,J a.1 4,J a.1 5,J a.1 6,.sl 1 (A5 (Aq (Aj (J a.1 1)) (Ao (J a.1 7))) (Aq (Ah [b]) (AE 0 [b]))) false],a.2)))))) (Ac (wf (J a.1 3) fun b=>Ac (Bd B .cl false 67 [AB 1 1 (Ao (J a.1 7)) 0 (Aj (J a.1 1)),b]) fun b=>Ae (Aw b 3) (some (.agg [Af b 0,Af b 1,Af b 2],a.2))) fun a=>some (.inr a))) ([x0,nI 0,.int .i64 0,x1,.bool false,.bool false,.jD,.sl 1 [] false],e))):=by kernel_rfl

theorem run91 (B:KB) (h:AA E) (dep:Nat) (e:E) (x0:W) (x1:W):AH (AD B fun _=>.cl) fn91 (.cl) h dep [.cv x0,.cv x1] e=Ae (AZ x1) (wg x1 fun a=>wc a fun a=>Ae (AY [x0,nI 0,a,.int .i64 0]) (Be (fun a=>wo (J a.1 3) (J a.1 2) fun b=>Ai b (wg (J a.1 4) fun b=>Ac (Ad (.bin .rem .num false (.c (J a.1 0)) (.c (J a.1 2)))) fun d=>wp d (J a.1 3) fun d=>Ac (Ad (.bin .rem .num false (.c d) (.c (J a.1 2)))) fun d=>wp d (J a.1 2) fun d=>Ac (Ad (.bin .rem .num false (.c d) (.c (J a.1 2)))) fun d=>wr b d fun b=>wh b fun b=>Ae (AX 1 [b]) (Ae (Ay (As 0 (Ah [b])) (Ah [b])) (Ae (Bb (Ay (Aj (J a.1 1)) (Ah (Ao (J a.1 8)))) (Ay (As (Aj (J a.1 1)) (Ah (Aq (Ah [b]) (AE 0 [b])))) 2147483648)) (wj (J a.1 3) fun d=>some (.inl ([J a.1 0,nI (As (Aj (J a.1 1)) (Ah (Aq (Ah [b]) (AE 0 [b])))),J a.1 2,d,J a.1 4,J a.1 5,J a.1 6,J a.1 7,.sl 1 (A5 (Aq (Aj (J a.1 1)) (Ao (J a.1 8))) (Aq (Ah [b]) (AE 0 [b]))) false],a.2)))))) (Ac (we (J a.1 4) fun b=>wf (J a.1 4) fun d=>Ae (Aw b 1) (Ae (Aw d 1) (Ae (A6 (.agg [Af b 0,Af d 0,AB 1 1 (Ao (J a.1 8)) 0 (Aj (J a.1 1))])) (some (.agg [Af b 0,Af d 0,AB 1 1 (Ao (J a.1 8)) 0 (Aj (J a.1 1))],a.2))))) fun a=>some (.inr a))) ([x0,nI 0,a,.int .i64 0,x1,.bool false,.bool false,.jD,.sl 1 [] false],e))):=by kernel_rfl

theorem run92 (B:KB) (h:AA E) (dep:Nat) (e:E) (x0:W) (x1:W):AH (AD B fun _=>.cl) fn92 (.cl) h dep [.cv x0,.cv x1] e=Ae (AZ x1) (wm x0 fun a=>Ai a (wg x1 fun a=>wc a fun a=>wp a x0 fun a=>Ac (Ad (.un .neg (.c x0))) fun b=>Ae (AY [b,nI 0,a,a]) (Be (fun a=>wp (J a.1 2) (J a.1 0) fun b=>wo (J a.1 3) b fun b=>Ai b (Ac (wm (J a.1 3) fun b=>Ai b (some (.bool true)) (wg (J a.1 4) fun b=>wc b fun b=>Ac (Ad (.bin .geq .num false (.c (J a.1 3)) (.c b))) fun a=>some a)) fun b=>Ai b (wf (J a.1 4) fun b=>wv B 69 [b] fun b=>Ae (AX 1 [b]) (Ae (Ay (As 0 (Ah [b])) (Ah [b])) (Ae (Bb (Ay (Aj (J a.1 1)) (Ah (Ao (J a.1 8)))) (Ay (As (Aj (J a.1 1)) (Ah (Aq (Ah [b]) (AE 0 [b])))) 2147483648)) (wj (J a.1 3) fun d=>some (.inl ([J a.1 0,nI (As (Aj (J a.1 1)) (Ah (Aq (Ah [b]) (AE 0 [b])))),J a.1 2,d,J a.1 4,J a.1 5,J a.1 6,J a.1 7,.sl 1 (A5 (Aq (Aj (J a.1 1)) (Ao (J a.1 8))) (Aq (Ah [b]) (AE 0 [b]))) false],a.2)))))) (wg (J a.1 4) fun b=>wr b (J a.1 3) fun b=>wh b fun b=>Ae (AX 1 [b]) (Ae (Ay (As 0 (Ah [b])) (Ah [b])) (Ae (Bb (Ay (Aj (J a.1 1)) (Ah (Ao (J a.1 8)))) (Ay (As (Aj (J a.1 1)) (Ah (Aq (Ah [b]) (AE 0 [b])))) 2147483648)) (wj (J a.1 3) fun d=>some (.inl ([J a.1 0,nI (As (Aj (J a.1 1)) (Ah (Aq (Ah [b]) (AE 0 [b])))),J a.1 2,d,J a.1 4,J a.1 5,J a.1 6,J a.1 7,.sl 1 (A5 (Aq (Aj (J a.1 1)) (Ao (J a.1 8))) (Aq (Ah [b]) (AE 0 [b]))) false],a.2))))))) (Ac (wf (J a.1 4) fun b=>Ac (Bd B .cl false 67 [AB 1 1 (Ao (J a.1 8)) 0 (Aj (J a.1 1)),b]) fun b=>Ae (Aw b 3) (some (.agg [Af b 0,Af b 1,Af b 2],a.2))) fun a=>some (.inr a))) ([b,nI 0,a,a,x1,.bool false,.bool false,.jD,.sl 1 [] false],e))) (Ae (AY [x0,nI 0,.int .i64 0,.int .i64 0]) (Be (fun a=>wp (J a.1 2) (J a.1 0) fun b=>wo (J a.1 3) b fun b=>Ai b (Ac (wm (J a.1 3) fun b=>Ai b (some (.bool true)) (wg (J a.1 4) fun b=>wc b fun b=>Ac (Ad (.bin .geq .num false (.c (J a.1 3)) (.c b))) fun a=>some a)) fun b=>Ai b (wf (J a.1 4) fun b=>wv B 69 [b] fun b=>Ae (AX 1 [b]) (Ae (Ay (As 0 (Ah [b])) (Ah [b])) (Ae (Bb (Ay (Aj (J a.1 1)) (Ah (Ao (J a.1 8)))) (Ay (As (Aj (J a.1 1)) (Ah (Aq (Ah [b]) (AE 0 [b])))) 2147483648)) (wj (J a.1 3) fun d=>some (.inl ([J a.1 0,nI (As (Aj (J a.1 1)) (Ah (Aq (Ah [b]) (AE 0 [b])))),J a.1 2,d,J a.1 4,J a.1 5,J a.1 6,J a.1 7,.sl 1 (A5 (Aq (Aj (J a.1 1)) (Ao (J a.1 8))) (Aq (Ah [b]) (AE 0 [b]))) false],a.2)))))) (wg (J a.1 4) fun b=>wr b (J a.1 3) fun b=>wh b fun b=>Ae (AX 1 [b]) (Ae (Ay (As 0 (Ah [b])) (Ah [b])) (Ae (Bb (Ay (Aj (J a.1 1)) (Ah (Ao (J a.1 8)))) (Ay (As (Aj (J a.1 1)) (Ah (Aq (Ah [b]) (AE 0 [b])))) 2147483648)) (wj (J a.1 3) fun d=>some (.inl ([J a.1 0,nI (As (Aj (J a.1 1)) (Ah (Aq (Ah [b]) (AE 0 [b])))),J a.1 2,d,J a.1 4,J a.1 5,J a.1 6,J a.1 7,.sl 1 (A5 (Aq (Aj (J a.1 1)) (Ao (J a.1 8))) (Aq (Ah [b]) (AE 0 [b]))) false],a.2))))))) (Ac (wf (J a.1 4) fun b=>Ac (Bd B .cl false 67 [AB 1 1 (Ao (J a.1 8)) 0 (Aj (J a.1 1)),b]) fun b=>Ae (Aw b 3) (some (.agg [Af b 0,Af b 1,Af b 2],a.2))) fun a=>some (.inr a))) ([x0,nI 0,.int .i64 0,.int .i64 0,x1,.bool false,.bool false,.jD,.sl 1 [] false],e)))):=by kernel_rfl

theorem run93 (B:KB) (h:AA E) (dep:Nat) (e:E) (x0:W) (x1:W):AH (AD B fun _=>.cl) fn93 (.cl) h dep [.cv x0,.cv x1] e=Ae (AZ x1) (wg x1 fun a=>wc a fun a=>Ae (AY [x0,nI 0,a,.int .i64 0]) (Be (fun a=>wo (J a.1 3) (J a.1 2) fun b=>Ai b (Ac (Ac (Ad (.bin .geq .num true (.c (J a.1 0)) (.c (.int .i64 0)))) fun b=>Ai b (Ac (Ad (.bin .geq .num false (.c (J a.1 3)) (.c (J a.1 0)))) fun b=>Ai b (some (.bool true)) (wm (J a.1 0) fun b=>Ai b (Ac (Ad (.bin .sub .num false (.c (J a.1 3)) (.c (J a.1 2)))) fun b=>wo b (J a.1 0) fun a=>some a) (some (.bool false)))) (wm (J a.1 0) fun b=>Ai b (Ac (Ad (.bin .sub .num false (.c (J a.1 3)) (.c (J a.1 2)))) fun b=>wo b (J a.1 0) fun a=>some a) (some (.bool false)))) fun b=>Ai b (wg (J a.1 4) fun b=>wr b (J a.1 3) fun b=>wh b fun b=>Ae (AX 1 [b]) (Ae (Ay (As 0 (Ah [b])) (Ah [b])) (Ae (Bb (Ay (Aj (J a.1 1)) (Ah (Ao (J a.1 8)))) (Ay (As (Aj (J a.1 1)) (Ah (Aq (Ah [b]) (AE 0 [b])))) 2147483648)) (wj (J a.1 3) fun d=>some (.inl ([J a.1 0,nI (As (Aj (J a.1 1)) (Ah (Aq (Ah [b]) (AE 0 [b])))),J a.1 2,d,J a.1 4,J a.1 5,J a.1 6,J a.1 7,.sl 1 (A5 (Aq (Aj (J a.1 1)) (Ao (J a.1 8))) (Aq (Ah [b]) (AE 0 [b]))) false],a.2)))))) (wj (J a.1 3) fun b=>some (.inl ([J a.1 0,nI (Aj (J a.1 1)),J a.1 2,b,J a.1 4,J a.1 5,J a.1 6,J a.1 7,.sl 1 (Ao (J a.1 8)) false],a.2)))) (Ac (wf (J a.1 4) fun b=>Ac (Bd B .cl false 67 [AB 1 1 (Ao (J a.1 8)) 0 (Aj (J a.1 1)),b]) fun b=>Ae (Aw b 3) (some (.agg [Af b 0,Af b 1,Af b 2],a.2))) fun a=>some (.inr a))) ([x0,nI 0,a,.int .i64 0,x1,.bool false,.bool false,.jD,.sl 1 [] false],e))):=by kernel_rfl

theorem run124 (B:KB) (h:AA E) (dep:Nat) (e:E)  :
  AH (AD B fun _=>.cl) fn124 (.cl) h dep [] e =
  some (.int .i64 (-9223372036854775808),e):=by kernel_rfl
theorem run120 (B:KB) (h:AA E) (dep:Nat) (e:E) (x0:W) (x1:W):AH (AD B fun _=>.cl) fn120 (.cl) h dep [.cv x0,.cv x1] e=wp x0 x1 (fun a=>Ac (Ac (Ad (.bin .gtr .num true (.c x0) (.c (.int .i64 0)))) fun b=>Ai b (Ac (Ad (.bin .gtr .num true (.c x1) (.c (.int .i64 0)))) fun b=>Ai b (wm a fun b=>Ai b (some (.bool true)) (wm x0 fun b=>Ai b (wm x1 fun b=>Ai b (Ac (Ad (.bin .geq .num true (.c a) (.c (.int .i64 0)))) fun a=>some a) (some (.bool false))) (some (.bool false)))) (wm x0 fun b=>Ai b (wm x1 fun b=>Ai b (Ac (Ad (.bin .geq .num true (.c a) (.c (.int .i64 0)))) fun a=>some a) (some (.bool false))) (some (.bool false)))) (wm x0 fun b=>Ai b (wm x1 fun b=>Ai b (Ac (Ad (.bin .geq .num true (.c a) (.c (.int .i64 0)))) fun a=>some a) (some (.bool false))) (some (.bool false)))) fun b=>Ai b (some (.jE [.int .i64 0,.int .i64 100],e)) (some (.jE [a,.int .i64 0],e))):=by kernel_rfl

theorem run121 (B:KB) (h:AA E) (dep:Nat) (e:E) (x0:W) (x1:W):AH (AD B fun _=>.cl) fn121 (.cl) h dep [.cv x0,.cv x1] e=Ac (wl x0 fun a=>Ai a (some (.bool true)) (wl x1 fun a=>some a)) (fun a=>Ai a (some (.jE [.int .i64 0,.int .i64 0],e)) (wv B 124 [] fun a=>wq x0 a fun a=>Ai a (Ac (Ad (.bin .eql .num true (.c x1) (.c (.int .i64 (-1))))) fun a=>Ai a (some (.jE [.int .i64 0,.int .i64 100],e)) (wv B 124 [] fun a=>wq x1 a fun a=>Ai a (Ac (Ad (.bin .eql .num true (.c x0) (.c (.int .i64 (-1))))) fun a=>Ai a (some (.jE [.int .i64 0,.int .i64 100],e)) (Ac (Ad (.bin .mul .num false (.c x0) (.c x1))) fun a=>Ac (Ad (.bin .quo .num false (.c a) (.c x1))) fun b=>wt b x0 fun b=>Ai b (some (.jE [.int .i64 0,.int .i64 100],e)) (some (.jE [a,.int .i64 0],e)))) (Ac (Ad (.bin .mul .num false (.c x0) (.c x1))) fun a=>Ac (Ad (.bin .quo .num false (.c a) (.c x1))) fun b=>wt b x0 fun b=>Ai b (some (.jE [.int .i64 0,.int .i64 100],e)) (some (.jE [a,.int .i64 0],e))))) (wv B 124 [] fun a=>wq x1 a fun a=>Ai a (Ac (Ad (.bin .eql .num true (.c x0) (.c (.int .i64 (-1))))) fun a=>Ai a (some (.jE [.int .i64 0,.int .i64 100],e)) (Ac (Ad (.bin .mul .num false (.c x0) (.c x1))) fun a=>Ac (Ad (.bin .quo .num false (.c a) (.c x1))) fun b=>wt b x0 fun b=>Ai b (some (.jE [.int .i64 0,.int .i64 100],e)) (some (.jE [a,.int .i64 0],e)))) (Ac (Ad (.bin .mul .num false (.c x0) (.c x1))) fun a=>Ac (Ad (.bin .quo .num false (.c a) (.c x1))) fun b=>wt b x0 fun b=>Ai b (some (.jE [.int .i64 0,.int .i64 100],e)) (some (.jE [a,.int .i64 0],e)))))):=by kernel_rfl

theorem run122 (B:KB) (h:AA E) (dep:Nat) (e:E) (x0:W) (x1:W):AH (AD B fun _=>.cl) fn122 (.cl) h dep [.cv x0,.cv x1] e=wl x0 (fun a=>Ai a (some (x1,e)) (Ac (Ad (.bin .eql .num true (.c x0) (.c (.int .i64 (-1))))) fun a=>Ai a (some (.int .i64 0,e)) (Ac (Ad (.bin .rem .num false (.c x1) (.c x0))) fun a=>Ac (wk a fun b=>Ai b (wm a fun a=>wm x0 fun b=>Ac (Ad (.bin .neq .bool false (.c a) (.c b))) fun a=>some a) (some (.bool false))) fun b=>Ai b (wp a x0 fun a=>some (a,e)) (some (a,e))))):=by kernel_rfl

theorem Nf (B:KB) (h:AA E) (dep:Nat) (e:E) (x0:W) (x1:W) (x2:W):AH (AD B fun _=>.cl) fn123 (.cl) h dep [.cv x0,.cv x1,.cv x2] e=ws x0 [61] (fun a=>Ai a (wq x1 x2 fun a=>wv B 95 [a] fun a=>some (a,e)) (ws x0 [226,137,160] fun a=>Ai a (wt x1 x2 fun a=>wv B 95 [a] fun a=>some (a,e)) (ws x0 [60] fun a=>Ai a (wo x1 x2 fun a=>wv B 95 [a] fun a=>some (a,e)) (ws x0 [62] fun a=>Ai a (wu x1 x2 fun a=>wv B 95 [a] fun a=>some (a,e)) (ws x0 [226,137,164] fun a=>Ai a (Ac (Ad (.bin .leq .num false (.c x1) (.c x2))) fun a=>wv B 95 [a] fun a=>some (a,e)) (Ac (Ad (.bin .geq .num false (.c x1) (.c x2))) fun a=>wv B 95 [a] fun a=>some (a,e))))))):=by kernel_rfl

end Go.Ab


namespace Go.Ab.jF.Ar
open Go Go.Ab Go.Ab.jF
variable{β:Type} {a:jI} {v:W}
theorem BF (h:Az v a):AZ v=true:=by obtain⟨x,rfl,A⟩:=h.get;rw[DS,Cg rfl rfl A.cell]
theorem Cj (h:Az v a):A3 v 0 3 true=some v:=by obtain⟨x,rfl,A⟩:=h.get;rfl
theorem Cq (h:Az v a):Aw v 3=true:=by obtain⟨x,rfl,A⟩:=h.get;exact Jz (Cg rfl rfl A.cell)
theorem Ct (h:Az v a):W.agg [Af v 0,Af v 1,Af v 2]=v:=by obtain⟨x,rfl,A⟩:=h.get;rfl
theorem Ca (h:Az v a):Bh (Af v 2) a.n:=by obtain⟨x,rfl,A⟩:=h.get;exact A
theorem EU (h:Az v a):A3 v 0 1 false=some (.bool a.li):=by obtain⟨x,rfl,A⟩:=h.get;rfl
theorem Cy (h:Az v a):A3 v 1 1 false=some (.bool a.ru):=by obtain⟨x,rfl,A⟩:=h.get;rfl
theorem B5 (h:Az v a):A3 v 2 1 false=some (Af v 2):=by obtain⟨x,rfl,A⟩:=h.get;rfl
theorem bV {α:Type} (a:α) (f:α->Option β):Ac (some a) f=f a:=eK rfl rfl
theorem cT (a:Option β):Ae true a=a:=eK rfl rfl
theorem iD (n:Int):W.int .i64 n=I n:=eK rfl rfl
structure u6 (g:ji) (a b:jI) (r:jo):Prop where
 ra:a.right=true
 rb:b.right=true
 gl:CQ g=true
 sz:(a.sz b).2=0
 tx:(!jI.isEq g&&(a.text||b.text))=false
 l:Dj (Cn g (jI.isEq g&&(a.ru != b.ru))) (Dk a b 0 (a.sz b).1.toNat)=.inr r
end Go.Ab.jF.Ar


namespace Go.Ab.jF.Ar
open Go Go.Ab Go.Ab.jF
variable{n x y:Int}
def ku (n:Int):Prop := -9223372036854775808<=n/\n<=9223372036854775807
def EN (r:Int×NE):W:=.jE [I r.1,I r.2.no]
theorem i64_in (h:ku n):i64 n=n:=IntWalk.i64_in n h
theorem LU (n:Int):i64 n=(n+9223372036854775808)%18446744073709551616 - 9223372036854775808:=by unfold i64;rw[IntWalk.i64_left,Go.RowKit.wrap64]
def Hn (l:List ji):jh:=l.map W.str
theorem vt (l:List ji):Ap (Hn l)=true:=by
 induction l with
 | nil=>rfl
 | cons a l ih=>simpa[Hn,Ap,jN] using ih
theorem zaQ (l:List ji) (hl:l.length<=1000000) (s:ji):Bd B0 .cl true 59 [.sl 1 (Hn l) false,.str s]=some (.bool (l.contains s)):=by
 refine RI (d:=fun _=>.cl) rfl (by simp[Ap,jN,vt]) rfl ?_ rfl;rw[dI,dI,dW,run59];unfold wc wh wj wo wr;rw[show AY [.sl 1 (Hn l) false,.str s,.int .i64 0]=true from rfl,AO]
 have key:∀ m i,i+m=l.length->Be (fun a=>Ac (Ad (.len .slice (.c (J a.1 0)))) fun b=>Ac (Ad (.bin .lss .num false (.c (J a.1 2)) (.c b))) fun b=>Ai b (Ac (Ad (.jJ 1 (.c (J a.1 0)) (.c (J a.1 2)))) fun b=>Ac (Ad (.load 1 false (.c b))) fun b=>Ac (Ad (.bin .eql .str false (.c b) (.c (J a.1 1)))) fun b=>Ai b (Ac (some (W.bool true,a.2)) fun a=>some (.inr a)) (Ac (Ad (.bin .add .num true (.c (J a.1 2)) (.c (.int .i64 1)))) fun b=>some (.inl ([J a.1 0,J a.1 1,b],a.2)))) (Ac (some (W.bool false,a.2)) fun a=>some (.inr a))) (([.sl 1 (Hn l) false,.str s,I i],()):jh×Unit)=some (.bool ((l.drop i).contains s),()):=by
  intro m;induction m with
  | zero =>
   intro i hi;have:i=l.length:=by omega
   subst this;refine B3 ?_;simp only[AW,AV,A1,G4,bV,AS,iD,show ((Hn l).length:Int)=(l.length:Int) by simp[Hn],gE,iN,BL];rw[gg];rfl
  | succ m ih =>
   intro i hi;have jP:i < l.length:=by omega
   have lf:(i:Int) < ((Hn l).length:Int):=by simp[Hn];omega
   rw[GH jP,iu];have A:Ad (.jJ 1 (.c (.sl 1 (Hn l) false)) (.c (I i)))=some (.ptr [.str l[i]] 0):=MC (n:=1) (v:=.str l[i]) (by decide) (by simp[Hn,jP]);cases hq:(s==l[i]) with
   | true =>
    refine B3 ?_;have hq':(l[i]==s)=true:=by rw[iL] at hq |-;exact hq.symm
    simp only[AW,AV,A1,G4,bV,AS,iD,lf,iM,B4,A,Ll,Kp,I8,hq',fJ]
   | false =>
    have hq':(l[i]==s)=false:=by rw[i6] at hq |-;exact fun e=>hq e.symm
    rw[DE (s':=([.sl 1 (Hn l) false,.str s,I ((i+1:Nat):Int)],()))];{rw[ih (i+1) (by omega),eQ]};{simp only[AW,AV,A1,G4,bV,AS,iD,lf,iM,B4,A,Ll,Kp,I8,hq',BL,BN,Cs (by omega:i < 9223372036854775807)]}
 have:=key l.length 0 (by omega);simpa[Bg] using this
theorem nz (g:ji):Ax B0 .cl (.fn 34 []) [.str g]=some (.bool (CQ g)):=by
 refine Bm rfl ?_;rw[run34];have h:=zaQ [CL,DY,CF,DA,Dg,Db,CX,CY,Du,DD,Dv,C6,Dd,DO,Di] (by decide) g;have e:([CL,DY,CF,DA,Dg,Db,CX,CY,Du,DD,Dv,C6,Dd,DO,Di]:List ji).contains g=CQ g:=by unfold CQ;simp only[iu,List.contains_nil,g9];cases g==CX<;>cases g==Dg<;>cases g==Db<;>simp
 rw[e] at h;rw[show AX 1 [.str [43],.str [45],.str [195,151],.str [195,183],.str [226,140,136],.str [226,140,138],.str [124],.str [61],.str [226,137,160],.str [60],.str [62],.str [226,137,164],.str [226,137,165],.str [226,136,167],.str [226,136,168]]=true from rfl,cT];rw[show AB 1 1 [.str [43],.str [45],.str [195,151],.str [195,183],.str [226,140,136],.str [226,140,138],.str [124],.str [61],.str [226,137,160],.str [60],.str [62],.str [226,137,164],.str [226,137,165],.str [226,136,167],.str [226,136,168]] 0 (Ah [.str [43],.str [45],.str [195,151],.str [195,183],.str [226,140,136],.str [226,140,138],.str [124],.str [61],.str [226,137,160],.str [60],.str [62],.str [226,137,164],.str [226,137,165],.str [226,136,167],.str [226,136,168]])=.sl 1 (Hn [CL,DY,CF,DA,Dg,Db,CX,CY,Du,DD,Dv,C6,Dd,DO,Di]) false from rfl,h];rfl
theorem mQ (g:ji):Ax B0 .cl (.fn 38 []) [.str g]=some (.bool (D6 g)):=by
 refine Bm rfl ?_;rw[run38];have h:=zaQ [CL,DY,CF,DA,Dg,Db,CX,Gb] (by decide) g;have e:([CL,DY,CF,DA,Dg,Db,CX,Gb]:List ji).contains g=D6 g:=by unfold D6;simp only[iu,List.contains_nil,g9];cases g==DY<;>cases g==CF<;>cases g==DA<;>cases g==CX<;>cases g==Dg<;>cases g==Db<;>simp
 rw[e] at h;rw[show AX 1 [.str [43],.str [45],.str [195,151],.str [195,183],.str [226,140,136],.str [226,140,138],.str [124],.str [126]]=true from rfl,cT];rw[show AB 1 1 [.str [43],.str [45],.str [195,151],.str [195,183],.str [226,140,136],.str [226,140,138],.str [124],.str [126]] 0 (Ah [.str [43],.str [45],.str [195,151],.str [195,183],.str [226,140,136],.str [226,140,138],.str [124],.str [126]])=.sl 1 (Hn [CL,DY,CF,DA,Dg,Db,CX,Gb]) false from rfl,h];rfl
theorem zaR (A:ku x) (hy:ku y):Ax B0 .cl (.fn 120 []) [I x,I y]=some (EN (nAdd x y)):=by
 refine Ce rfl ?_;rw[run120];unfold wm wp;simp only[BN,bV,iD,CT,AS,Ef,Am];rw[show IntKind.i64.wrap (x+y)=i64 (x+y) from rfl];unfold nAdd Gd;simp only
 have e:=LU (x+y);generalize i64 (x+y)=s at *;unfold ku at A hy;by_cases U:x < 0<;>by_cases O:y < 0<;>by_cases h3:s < 0<;>by_cases h4:0 < x<;>by_cases h5:0 < y<;>by_cases h6:0<=s<;>first | (exfalso;omega) | (simp[U,O,h3,h4,h5,h6,EN,NE.no,Ac,Ai,iD])
theorem Ts (A:ku x) (hy:ku y):Ax B0 .cl (.fn 94 []) [I x,I y]=some (EN (NF x y)):=by
 refine Ce rfl ?_;rw[run94];unfold wm;simp only[GV,bV,iD,CT,AS,Ef,Am];rw[show IntKind.i64.wrap (x - y)=i64 (x - y) from rfl];unfold NF Gd;simp only
 have e:=LU (x - y);generalize i64 (x - y)=s at *;unfold ku at A hy;by_cases U:x < 0<;>by_cases O:y < 0<;>by_cases h3:s < 0<;>by_cases h4:0<=x<;>by_cases h5:0 < y<;>by_cases h6:0<=s<;>first | (exfalso;omega) | (simp[U,O,h3,h4,h5,h6,EN,NE.no,Ac,Ai,iD])
theorem X4 (A:ku x):(Hj x).toNat=x.natAbs:=by unfold Hj ku at *;simp only[IntKind.wrap_u64];split<;>omega
theorem Xb (A:ku x) (hy:ku y):Pj x y=if -9223372036854775808<=x*y/\x*y<=9223372036854775807 then (x*y,.ok) else (0,.over):=by
 unfold Pj;rw[X4 A,X4 hy];have hm:x.natAbs*y.natAbs=(x*y).natAbs:=(Int.natAbs_mul x y).symm;rw[hm];have hb:x.natAbs*y.natAbs<=9223372036854775808*9223372036854775808:=Nat.mul_le_mul (by unfold ku at A;omega) (by unfold ku at hy;omega);rw[hm] at hb;have sgn:((decide (x < 0)==decide (y < 0))=true->0<=x*y)/\((decide (x < 0)==decide (y < 0))=false->x*y<=0):=by by_cases U:x < 0<;>by_cases O:y < 0<;>simp[U,O];{exact Int.le_of_lt (Int.mul_pos_of_neg_of_neg U O)};{exact Int.mul_nonpos_of_nonpos_of_nonneg (Int.le_of_lt U) (by omega)};{exact Int.mul_nonpos_of_nonneg_of_nonpos (by omega) (Int.le_of_lt O)};{exact Int.mul_nonneg (by omega) (by omega)}
 generalize x*y=p at *;unfold nTim Gd;simp only
 cases hs:(decide (x < 0)==decide (y < 0)) with
 | true =>
  have hp:=sgn.1 hs;simp only[dK,dE,iG,fi,g9];rw[LU];by_cases h:p<=9223372036854775807
  ·have c1:p.natAbs / 18446744073709551616=0:=by omega
   have c2:p.natAbs%18446744073709551616<=9223372036854775807:=by omega
   have c3 : -9223372036854775808<=p:=by omega
   simp only[c1,c2,c3,h,iM,f9,iH,and_self];refine iP (fun z:Int=>(z,NE.ok)) ?_;omega
  ·have c3:¬ (-9223372036854775808<=p/\p<=9223372036854775807):=by omega
   have c4:(decide (p.natAbs / 18446744073709551616=0)&&decide (p.natAbs%18446744073709551616<=9223372036854775807))=false:=by rw[Bool.and_eq_false_iff,iZ,iZ];omega
   rw[iI c3,c4];rfl
 | false =>
  have hp:=sgn.2 hs;simp only[d8,iH,ez];rw[LU,LU];by_cases h : -9223372036854775808<=p
  ·have c1:p.natAbs / 18446744073709551616=0:=by omega
   have c3:p<=9223372036854775807:=by omega
   have c2:(decide (p.natAbs%18446744073709551616<=9223372036854775807)||decide (p.natAbs%18446744073709551616=9223372036854775808))=true:=by rw[gq,iK,iK];omega
   simp only[c1,c2,c3,h,iM,f9,iH,and_self];refine iP (fun z:Int=>(z,NE.ok)) ?_;omega
  ·have c3:¬ (-9223372036854775808<=p/\p<=9223372036854775807):=by omega
   have c4:(decide (p.natAbs / 18446744073709551616=0)&&(decide (p.natAbs%18446744073709551616<=9223372036854775807)||decide (p.natAbs%18446744073709551616=9223372036854775808)))=false:=by rw[Bool.and_eq_false_iff,fP,iZ,iZ,iZ];omega
   rw[iI c3,c4];rfl
theorem quo_mul (hy:y≠0):(x*y).tdiv y=x:=Int.mul_tdiv_cancel x hy
theorem zaS (A:ku x) (hy:ku y) (hy0:y≠0) (ho:¬ ku (x*y)) (U:¬ (x = -9223372036854775808/\y = -1)):i64 ((i64 (x*y)).tdiv y)≠x:=by
 intro h;have e:=LU (x*y);have hp:ku (i64 (x*y)):=by unfold ku;omega
 have jW:i64 (x*y)≠x*y:=fun e'=>ho (e' ▸ hp);have hk:(i64 (x*y) - x*y)%18446744073709551616=0:=by omega
 generalize hq:i64 (x*y)=p at *;have hdm:=Int.mul_tdiv_add_tmod p y;have T:(p.tmod y).natAbs < y.natAbs:=by rw[Int.natAbs_tmod];exact gn _ (by omega)
 have ha:(p.tdiv y).natAbs<=p.natAbs:=by rw[Int.natAbs_tdiv];exact Nat.div_le_self _ _
 by_cases hd:ku (p.tdiv y);{rw[i64_in hd] at h;rw[h,Int.mul_comm] at hdm;unfold ku at A hy;generalize x*y=m at *;generalize p.tmod y=r at *;omega}
 ·have:p.tdiv y=9223372036854775808:=by unfold ku at hp hd;omega
  rw[this] at h hdm;have nn:x = -9223372036854775808:=by rw[<-h];decide
  have hpp:p = -9223372036854775808:=by unfold ku at hp hy;rcases Int.lt_trichotomy y 0 with jP | heq | hgt;{omega};{exact iW heq hy0};{omega}
  have:y = -1:=by unfold ku at hy;omega
  exact U ⟨nn,this⟩
theorem Xf:Ax B0 .cl (.fn 124 []) []=some (I (-9223372036854775808)):=by refine call0 rfl ?_;rw[run124];rfl
theorem bH (A:ku x) (hy:ku y):Ax B0 .cl (.fn 121 []) [I x,I y]=some (EN (Pj x y)):=by
 refine Ce rfl ?_;rw[run121];unfold wl wq wt wv;rw[Xb A hy];simp only[iD,Da,bV,Am,Xf];by_cases h0:x=0;{subst h0;simp[Ac,Ai,EN,NE.no,iD]};have e0:(x==0)=false:=by simp[h0]
 by_cases U:y=0;{subst U;simp[h0,Ac,Ai,EN,NE.no,iD]};have e1:(y==0)=false:=by simp[U]
 simp only[e0,e1,dE,iG,bV,Am];have fin:(if (-9223372036854775808<=x*y/\x*y<=9223372036854775807) then ((x*y,NE.ok):Int×NE) else (0,.over))=(if i64 ((i64 (x*y)).tdiv y)=x then (i64 (x*y),.ok) else (0,.over))\/(x = -9223372036854775808/\y = -1):=by by_cases hb:x = -9223372036854775808/\y = -1;{exact .inr hb};left;by_cases T:ku (x*y);{have oV : -9223372036854775808<=x*y/\x*y<=9223372036854775807:=T;rw[iJ oV,i64_in T,quo_mul U,i64_in A,iJ rfl]};{have oV:¬ (-9223372036854775808<=x*y/\x*y<=9223372036854775807):=T;rw[iI oV,iI (zaS A hy U T hb)]}
 have quo:∀ p:Int,Ad (.bin .quo .num false (.c (I p)) (.c (I y)))=some (I (i64 (p.tdiv y))):=fun p=>TU _ _ U;have mul:Ad (.bin .mul .num false (.c (I x)) (.c (I y)))=some (I (i64 (x*y))):=Oz _ _;by_cases hl:x = -9223372036854775808
 ·have el:(x == -9223372036854775808)=true:=by simp[hl]
  simp only[el,iH];by_cases hm:y = -1;{subst hl;subst hm;rfl}
  ·have em:(y == -1)=false:=by simp[hm]
   simp only[em,dE,iG];have oZ:(x == -1)=false:=by subst hl;decide
   have f:=fin.resolve_right fun hh=>hm hh.2;rw[f];simp only[oZ,dE,iG,mul,quo,bV,Cf,Am];by_cases hq:i64 ((i64 (x*y)).tdiv y)=x;{rw[iJ hq];simp[hq,EN,NE.no]};{rw[iI hq];simp[hq,EN,NE.no,iD]}
 ·have el:(x == -9223372036854775808)=false:=by simp[hl]
  have f:=fin.resolve_right fun hh=>hl hh.1;simp only[el,dE,iG];by_cases hy1:y = -9223372036854775808
  ·have ey:(y == -9223372036854775808)=true:=by simp[hy1]
   simp only[ey,iH];by_cases oZ:x = -1;{subst oZ;subst hy1;rfl}
   ·have ex:(x == -1)=false:=by simp[oZ]
    rw[f];simp only[ex,dE,iG,mul,quo,bV,Cf,Am];by_cases hq:i64 ((i64 (x*y)).tdiv y)=x;{rw[iJ hq];simp[hq,EN,NE.no]};{rw[iI hq];simp[hq,EN,NE.no,iD]}
  ·have ey:(y == -9223372036854775808)=false:=by simp[hy1]
   rw[f];simp only[ey,dE,iG,mul,quo,bV,Cf,Am];by_cases hq:i64 ((i64 (x*y)).tdiv y)=x;{rw[iJ hq];simp[hq,EN,NE.no]};{rw[iI hq];simp[hq,EN,NE.no,iD]}
theorem VN (A:ku x):Ax B0 .cl (.fn 96 []) [I x,I y]=some (EN (Kr x y)):=by
 refine Ce rfl ?_;rw[run96];unfold wk wl wq wv;simp only[iD,Da,bV,Am,Xf];unfold Kr Gd;by_cases h0:y=0
 ·subst h0;by_cases U:x=0;{subst U;rfl}
  ·have e1:(x==0)=false:=by simp[U]
   simp only[iU,iH,bV,e1,BL,dE,iG];rfl
 ·have e0:(y==0)=false:=by simp[h0]
  have rem:Ad (.bin .rem .num false (.c (I x)) (.c (I y)))=some (I (x.tmod y)):=Jx _ _ h0;have quo:Ad (.bin .quo .num false (.c (I x)) (.c (I y)))=some (I (i64 (x.tdiv y))):=TU _ _ h0;simp only[e0,dE,iG,bV,BL,h0,rem,quo,Cf,Am];by_cases U:y = -1
  ·subst U;by_cases O:x = -9223372036854775808;{subst O;rfl}
   ·have e2:(x == -9223372036854775808)=false:=by simp[O]
    have e3:x.tmod (-1)=0:=by simp
    have e4:x.tdiv (-1)=0 - x:=by simp
    simp[e2,e3,e4,O,EN,NE.no,iD]
  ·have e1:(y == -1)=false:=by simp[U]
   simp only[U,e1,iG,dE];by_cases O:x.tmod y=0;{cases x == -9223372036854775808<;>simp[O,EN,NE.no,iD]};{cases x == -9223372036854775808<;>simp[O,EN,NE.no,iD]}
theorem ZT (x y:Int):Ax B0 .cl (.fn 122 []) [I x,I y]=some (I (MO x y)):=by
 refine Ce rfl ?_;rw[run122];unfold wk wl wm wp;simp only[iD,Da,bV,Am];unfold MO;by_cases h0:x=0;{subst h0;simp};have e0:(x==0)=false:=by simp[h0]
 simp only[h0,e0,iG,dE];by_cases U:x = -1;{subst U;simp};have e1:(x == -1)=false:=by simp[U]
 simp only[U,e1,iG,dE];rw[show Ad (.bin .rem .num false (.c (I y)) (.c (I x)))=some (I (y.tmod x)) from Jx _ _ h0];simp only[bV,Cf,AS,BN,Hy,Am];generalize y.tmod x=r;by_cases O:r=0;{subst O;simp[Ac,Ai]}
 ·have e2:(r != 0)=true:=by simp[O]
  have e3:(r==0)=false:=by simp[O]
  simp only[e2,e3,iH,bV,Am,eQ];cases (decide (r < 0)==decide (x < 0))<;>rfl
end Go.Ab.jF.Ar


namespace Go.Ab.jF.Ar
open Go Go.Ab Go.Ab.jF
variable{x y:Int}
theorem Ls (b:Bool):Ax B0 .cl (.fn 95 []) [.bool b]=some (I (DC b)):=by refine Bm rfl ?_;rw[run95];cases b<;>rfl
theorem zaT (x y:Int):Ax B0 .cl (.fn 123 []) [.str CY,I x,I y]=some (I (DC (Ga CY x y))):=by refine HS rfl ?_;rw[Nf];unfold wo wq ws wt wu wv;simp only[AM CY [61] true rfl,bV,B4,BL,Da,Cf,AS,CT,FB,Ef,Ls];rfl
theorem zaU (x y:Int):Ax B0 .cl (.fn 123 []) [.str Du,I x,I y]=some (I (DC (Ga Du x y))):=by refine HS rfl ?_;rw[Nf];unfold wo wq ws wt wu wv;simp only[AM Du [61] false rfl,AM Du [226,137,160] true rfl,bV,B4,BL,Da,Cf,AS,CT,FB,Ef,Ls];rfl
theorem zaV (x y:Int):Ax B0 .cl (.fn 123 []) [.str DD,I x,I y]=some (I (DC (Ga DD x y))):=by refine HS rfl ?_;rw[Nf];unfold wo wq ws wt wu wv;simp only[AM DD [61] false rfl,AM DD [226,137,160] false rfl,AM DD [60] true rfl,bV,B4,BL,Da,Cf,AS,CT,FB,Ef,Ls];rfl
theorem zaW (x y:Int):Ax B0 .cl (.fn 123 []) [.str Dv,I x,I y]=some (I (DC (Ga Dv x y))):=by refine HS rfl ?_;rw[Nf];unfold wo wq ws wt wu wv;simp only[AM Dv [61] false rfl,AM Dv [226,137,160] false rfl,AM Dv [60] false rfl,AM Dv [62] true rfl,bV,B4,BL,Da,Cf,AS,CT,FB,Ef,Ls];rfl
theorem zaX (x y:Int):Ax B0 .cl (.fn 123 []) [.str C6,I x,I y]=some (I (DC (Ga C6 x y))):=by
 refine HS rfl ?_;rw[Nf];unfold wo wq ws wt wu wv;simp only[AM C6 [61] false rfl,AM C6 [226,137,160] false rfl,AM C6 [60] false rfl,AM C6 [62] false rfl,AM C6 [226,137,164] true rfl,bV,B4,BL,Da,Cf,AS,CT,FB,Ef,Ls]
 have e:decide (x<=y)=Ga C6 x y:=by
  rw[show Ga C6 x y=(x==y||decide (x < y)) from rfl];by_cases h:x=y;{subst h;simp}
  ·by_cases O:x < y
   ·have h3:x<=y:=by omega
    simp[O,h3]
   ·have h3:¬ x<=y:=by omega
    simp[h,O,h3]
 rw[e]
theorem zaY (x y:Int):Ax B0 .cl (.fn 123 []) [.str Dd,I x,I y]=some (I (DC (Ga Dd x y))):=by
 refine HS rfl ?_;rw[Nf];unfold wo wq ws wt wu wv;simp only[AM Dd [61] false rfl,AM Dd [226,137,160] false rfl,AM Dd [60] false rfl,AM Dd [62] false rfl,AM Dd [226,137,164] false rfl,bV,B4,BL,Da,Cf,AS,CT,FB,Ef,Ls]
 have e:decide (y<=x)=Ga Dd x y:=by
  rw[show Ga Dd x y=(x==y||decide (y < x)) from rfl];by_cases h:x=y;{subst h;simp}
  ·by_cases O:y < x
   ·have h3:y<=x:=by omega
    simp[O,h3]
   ·have h3:¬ y<=x:=by omega
    simp[h,O,h3]
 rw[e]
theorem U5 (x y:Int):Ad (.j6 true [.c (I x),.c (I y)])=some (I (max x y)):=by simp only[Ad,exec,dI,dW,RX.ev,Ic,I];by_cases h:y>x;{simp[h,Int.max_eq_right (by omega:x<=y)];rfl};{simp[h,Int.max_eq_left (by omega:y<=x)];rfl}
theorem U4 (x y:Int):Ad (.j6 false [.c (I x),.c (I y)])=some (I (min x y)):=by simp only[Ad,exec,dI,dW,RX.ev,Ic,I];by_cases h:y < x;{simp[h,Int.min_eq_right (by omega:y<=x)];rfl};{simp[h,Int.min_eq_left (by omega:x<=y)];rfl}
def bits (x y:Int):Bool:=decide (0<=x)&&(decide (x<=1)&&(decide (0<=y)&&decide (y<=1)))
theorem TP (x y:Int):((x.fdiv 2==0)&&(y.fdiv 2==0))=bits x y:=by
 have h:∀ z:Int,(z.fdiv 2==0)=(decide (0<=z)&&decide (z<=1)):=fun z=>by rw[Int.fdiv_eq_ediv_of_nonneg _ (by decide)];by_cases U:0<=z<;>by_cases O:z<=1<;>simp[U,O]<;>omega
 rw[h,h];unfold bits;cases decide (0<=x)<;>cases decide (x<=1)<;>rfl
theorem XH (h:bits x y=true):(x=0\/x=1)/\(y=0\/y=1):=by unfold bits at h;simp only[dF,iK] at h;omega
theorem Zw (h:bits x y=true):andI x y=min x y:=by obtain⟨U,O⟩:=XH h;rcases U with rfl | rfl<;>rcases O with rfl | rfl<;>decide
theorem zaZ (h:bits x y=true):orI x y=max x y:=by obtain⟨U,O⟩:=XH h;rcases U with rfl | rfl<;>rcases O with rfl | rfl<;>decide
theorem H8 (r:Int×NE):Ad (.extract 0 (.c (EN r)))=some (I r.1):=rfl
theorem H7 (r:Int×NE):Ad (.extract 1 (.c (EN r)))=some (I r.2.no):=rfl
theorem za0 (x y:Int):Ac (Ad (.bin .geq .num true (.c (I x)) (.c (I 0)))) (fun a=>Ai a (Ac (Ad (.bin .leq .num true (.c (I x)) (.c (I 1)))) fun a=>Ai a (Ac (Ad (.bin .geq .num true (.c (I y)) (.c (I 0)))) fun a=>Ai a (Ac (Ad (.bin .leq .num true (.c (I y)) (.c (I 1)))) fun a=>some a) (some (.bool false))) (some (.bool false))) (some (.bool false)))=some (.bool (bits x y)):=by simp only[Ef,FB,bV,Am];unfold bits;cases decide (0<=x)<;>cases decide (x<=1)<;>cases decide (0<=y)<;>simp
theorem YQ (g:ji) (A:ku x) (hy:ku y):Ax B0 .cl (.fn 89 []) [.str g,I x,I y]=some (EN (Hr g x y)):=by
 refine HS rfl ?_;rw[run89];unfold wa wb wi ws wv;rw[nz];simp only[bV,BH,Am,iD];rw[za0];simp only[bV];by_cases h0:g=CL;{subst h0;simp only[show CQ CL=true from rfl,dK,dE,iG,AM CL [43] true rfl,bV,B4,BL,zaR A hy,H8,H7];rfl};by_cases U:g=DY;{subst U;simp only[show CQ DY=true from rfl,dK,dE,iG,AM DY [43] false rfl,AM DY [45] true rfl,bV,B4,BL,Ts A hy,H8,H7];rfl};by_cases O:g=CF;{subst O;simp only[show CQ CF=true from rfl,dK,dE,iG,AM CF [43] false rfl,AM CF [45] false rfl,AM CF [195,151] true rfl,bV,B4,BL,bH A hy,H8,H7];rfl};by_cases h3:g=DA;{subst h3;simp only[show CQ DA=true from rfl,dK,dE,iG,AM DA [43] false rfl,AM DA [45] false rfl,AM DA [195,151] false rfl,AM DA [195,183] true rfl,bV,B4,BL,VN A,H8,H7];rfl};by_cases h4:g=Dg;{subst h4;simp only[show CQ Dg=true from rfl,dK,dE,iG,AM Dg [43] false rfl,AM Dg [45] false rfl,AM Dg [195,151] false rfl,AM Dg [195,183] false rfl,AM Dg [226,140,136] true rfl,bV,B4,BL,U5];rfl};by_cases h5:g=Db;{subst h5;simp only[show CQ Db=true from rfl,dK,dE,iG,AM Db [43] false rfl,AM Db [45] false rfl,AM Db [195,151] false rfl,AM Db [195,183] false rfl,AM Db [226,140,136] false rfl,AM Db [226,140,138] true rfl,bV,B4,BL,U4];rfl};by_cases h6:g=CX;{subst h6;simp only[show CQ CX=true from rfl,dK,dE,iG,AM CX [43] false rfl,AM CX [45] false rfl,AM CX [195,151] false rfl,AM CX [195,183] false rfl,AM CX [226,140,136] false rfl,AM CX [226,140,138] false rfl,AM CX [124] true rfl,bV,B4,BL,ZT];rfl};by_cases h7:g=DO
 ·subst h7;have e:Hr DO x y=JO DO x y:=rfl;rw[e];unfold JO;rw[TP];simp only[show CQ DO=true from rfl,dK,dE,iG,AM DO [43] false rfl,AM DO [45] false rfl,AM DO [195,151] false rfl,AM DO [195,183] false rfl,AM DO [226,140,136] false rfl,AM DO [226,140,138] false rfl,AM DO [124] false rfl,AM DO [226,136,167] true rfl,bV,B4,BL,BH,Am,U4,U5];cases hb:bits x y with
  | false=>rfl
  | true =>
   simp only[Zw hb];rfl
 by_cases h8:g=Di
 ·subst h8;have e:Hr Di x y=JO Di x y:=rfl;rw[e];unfold JO;rw[TP];simp only[show CQ Di=true from rfl,dK,dE,iG,AM Di [43] false rfl,AM Di [45] false rfl,AM Di [195,151] false rfl,AM Di [195,183] false rfl,AM Di [226,140,136] false rfl,AM Di [226,140,138] false rfl,AM Di [124] false rfl,AM Di [226,136,167] false rfl,AM Di [226,136,168] true rfl,AM Di [226,136,167] false rfl,bV,B4,BL,BH,Am,U4,U5];cases hb:bits x y with
  | false=>rfl
  | true =>
   simp only[zaZ hb];rfl
 by_cases k0:g=CY;{subst k0;simp only[show CQ CY=true from rfl,dK,dE,iG,AM CY [43] false rfl,AM CY [45] false rfl,AM CY [195,151] false rfl,AM CY [195,183] false rfl,AM CY [226,140,136] false rfl,AM CY [226,140,138] false rfl,AM CY [124] false rfl,AM CY [226,136,167] false rfl,AM CY [226,136,168] false rfl,bV,BL,zaT];rfl};by_cases k1:g=Du;{subst k1;simp only[show CQ Du=true from rfl,dK,dE,iG,AM Du [43] false rfl,AM Du [45] false rfl,AM Du [195,151] false rfl,AM Du [195,183] false rfl,AM Du [226,140,136] false rfl,AM Du [226,140,138] false rfl,AM Du [124] false rfl,AM Du [226,136,167] false rfl,AM Du [226,136,168] false rfl,bV,BL,zaU];rfl};by_cases k2:g=DD;{subst k2;simp only[show CQ DD=true from rfl,dK,dE,iG,AM DD [43] false rfl,AM DD [45] false rfl,AM DD [195,151] false rfl,AM DD [195,183] false rfl,AM DD [226,140,136] false rfl,AM DD [226,140,138] false rfl,AM DD [124] false rfl,AM DD [226,136,167] false rfl,AM DD [226,136,168] false rfl,bV,BL,zaV];rfl};by_cases k3:g=Dv;{subst k3;simp only[show CQ Dv=true from rfl,dK,dE,iG,AM Dv [43] false rfl,AM Dv [45] false rfl,AM Dv [195,151] false rfl,AM Dv [195,183] false rfl,AM Dv [226,140,136] false rfl,AM Dv [226,140,138] false rfl,AM Dv [124] false rfl,AM Dv [226,136,167] false rfl,AM Dv [226,136,168] false rfl,bV,BL,zaW];rfl};by_cases k4:g=C6;{subst k4;simp only[show CQ C6=true from rfl,dK,dE,iG,AM C6 [43] false rfl,AM C6 [45] false rfl,AM C6 [195,151] false rfl,AM C6 [195,183] false rfl,AM C6 [226,140,136] false rfl,AM C6 [226,140,138] false rfl,AM C6 [124] false rfl,AM C6 [226,136,167] false rfl,AM C6 [226,136,168] false rfl,bV,BL,zaX];rfl};by_cases k5:g=Dd;{subst k5;simp only[show CQ Dd=true from rfl,dK,dE,iG,AM Dd [43] false rfl,AM Dd [45] false rfl,AM Dd [195,151] false rfl,AM Dd [195,183] false rfl,AM Dd [226,140,136] false rfl,AM Dd [226,140,138] false rfl,AM Dd [124] false rfl,AM Dd [226,136,167] false rfl,AM Dd [226,136,168] false rfl,bV,BL,zaY];rfl};have e:CQ g=false:=by simp[CQ,h0,U,O,h3,h4,h5,h6,h7,h8,k0,k1,k2,k3,k4,k5]
 have e2:Hr g x y=(0,.mf g):=by simp[Hr,h0,U,O,h3,h4,h5,h6,h7,h8,k0,k1,k2,k3,k4,k5]
 rw[e,e2];rfl
theorem za1 (a b:Bool):Ad (.bin .sub .num false (.c (I (DC a))) (.c (I (DC b))))=some (I (i64 (DC a - DC b))):=rfl
theorem inR0:ku 0:=by unfold ku;omega
theorem inR1:ku 1:=by unfold ku;omega
theorem XT (g:ji) (hy:ku y):Ax B0 .cl (.fn 66 []) [.str g,I y]=some (EN (CV g y)):=by
 refine Ce rfl ?_;rw[run66];unfold wa wb wi wk wm ws wv;rw[mQ];simp only[bV,BH,Am,iD];by_cases h0:g=CL;{subst h0;simp only[show D6 CL=true from rfl,dK,dE,iG,AM CL [126] false rfl,AM CL [45] false rfl,AM CL [195,151] false rfl,AM CL [195,183] false rfl,AM CL [124] false rfl,bV,B4,BL];rfl};by_cases U:g=Dg;{subst U;simp only[show D6 Dg=true from rfl,dK,dE,iG,AM Dg [126] false rfl,AM Dg [45] false rfl,AM Dg [195,151] false rfl,AM Dg [195,183] false rfl,AM Dg [124] false rfl,bV,B4,BL];rfl};by_cases O:g=Db;{subst O;simp only[show D6 Db=true from rfl,dK,dE,iG,AM Db [126] false rfl,AM Db [45] false rfl,AM Db [195,151] false rfl,AM Db [195,183] false rfl,AM Db [124] false rfl,bV,B4,BL];rfl};by_cases h3:g=DY;{subst h3;simp only[show D6 DY=true from rfl,dK,dE,iG,AM DY [126] false rfl,AM DY [45] true rfl,AM DY [195,151] false rfl,AM DY [195,183] false rfl,AM DY [124] false rfl,bV,B4,BL,Ts inR0 hy,H8,H7];rfl};by_cases h4:g=CF;{subst h4;simp only[show D6 CF=true from rfl,dK,dE,iG,AM CF [126] false rfl,AM CF [45] false rfl,AM CF [195,151] true rfl,AM CF [195,183] false rfl,AM CF [124] false rfl,bV,B4,BL,CT,AS,Ls,za1];rfl};by_cases h5:g=DA;{subst h5;simp only[show D6 DA=true from rfl,dK,dE,iG,AM DA [126] false rfl,AM DA [45] false rfl,AM DA [195,151] false rfl,AM DA [195,183] true rfl,AM DA [124] false rfl,bV,B4,BL,VN inR1,H8,H7];rfl};by_cases h6:g=CX;{subst h6;simp only[show D6 CX=true from rfl,dK,dE,iG,AM CX [126] false rfl,AM CX [45] false rfl,AM CX [195,151] false rfl,AM CX [195,183] false rfl,AM CX [124] true rfl,bV,B4,BL,AS,Ts inR0 hy,H8,H7,Am];have e:CV CX y=nAbs y:=rfl;rw[e];unfold nAbs;by_cases hn:y < 0<;>simp[hn]<;>rfl};by_cases h7:g=Gb
 ·subst h7;have e:CV Gb y=nNot y:=rfl;rw[e];unfold nNot Gd;simp only[show D6 Gb=true from rfl,dK,dE,iG,AM Gb [126] true rfl,AM Gb [45] false rfl,AM Gb [195,151] false rfl,AM Gb [195,183] false rfl,AM Gb [124] false rfl,bV,B4,BL,Cf,Am,GV];by_cases k0:y=0;{subst k0;rfl}
  ·by_cases k1:y=1
   {subst k1;rfl}
   ·have e0:(y != 0)=true:=by simp[k0]
    have e1:(y != 1)=true:=by simp[k1]
    have e2:(y==0)=false:=by simp[k0]
    have e3:(y==1)=false:=by simp[k1]
    simp only[e0,e1,e2,e3,iH,Bool.or_self,dE,iG];rfl
 have e:D6 g=false:=by simp[D6,h0,U,O,h3,h4,h5,h6,h7]
 have e2:CV g y=(0,.mf g):=by simp[CV,h0,U,O,h3,h4,h5,h6,h7]
 rw[e,e2];rfl
end Go.Ab.jF.Ar


namespace Go.Ab.jF.Ar
open Go Go.Ab Go.Ab.jF
variable{a:jI} {i:Nat} {u v:W}
theorem Oe (n:Int):Ax B0 .cl (.fn 37 []) [I n]=some (.bool (Fk n)):=by refine Bm rfl ?_;rw[run37];simp only[Bg,Ef,FB,AS,CT,At,Am];unfold Fk;by_cases U:0<=n<;>by_cases O:n<=1114111<;>by_cases h3:n < 55296<;>simp[U,O,h3]
theorem kI (h:Az v a) (hl:a.n.length<=1000000):Ax B0 .cl (.fn 20 []) [v]=some (.bool a.right):=by
 refine Bm (by simp[Ap,h.ok]) ?_;rw[run20];unfold wc we wf wg wh wi wj wo wr wv;rw[BF h,cT];rw[show AY [.int .i64 0]=true from rfl,cT];have lx:=Ca h
 have tail:(if a.li=true then (if decide ((a.n.length:Int)<=200)=true then some (W.bool true) else if (!a.li)=true then some (.bool ((a.n.length:Int)==1)) else some (.bool false)) else if (!a.li)=true then some (.bool ((a.n.length:Int)==1)) else some (.bool false))=some (W.bool (if a.li then decide (a.n.length<=200) else decide (a.n.length=1))):=by
  have e1:decide ((a.n.length:Int)<=200)=decide (a.n.length<=200):=by
   by_cases h:a.n.length<=200;{simp[h];omega}
   ·have:¬ (a.n.length:Int)<=200:=by omega
    simp[h,this]
  have e2:((a.n.length:Int)==1)=decide (a.n.length=1):=by
   by_cases h:a.n.length=1;{simp[h]}
   ·have:¬ (a.n.length:Int)=1:=by omega
    simp[h,this]
  rw[e1,e2];cases a.li;{simp};{by_cases h:a.n.length<=200<;>simp[h]}
 have key:∀ m i,i+m=a.n.length->Be (fun b=>Ac (Ac (A3 (J b.1 1) 2 1 false) fun d=>Ac (Ad (.len .slice (.c d))) fun d=>Ac (Ad (.bin .lss .num false (.c (J b.1 0)) (.c d))) fun d=>Ai d (Ac (A3 (J b.1 1) 1 1 false) fun b=>some b) (some (W.bool false))) fun d=>Ai d (Ac (A3 (J b.1 1) 2 1 false) fun d=>Ac (Ad (.jJ 1 (.c d) (.c (J b.1 0)))) fun d=>Ac (Ad (.load 1 false (.c d))) fun d=>Ac (Ax B0 .cl (.fn 37 []) [d]) fun d=>Ac (Ad (.un .not (.c d))) fun d=>Ai d (Ac (some (W.bool false,b.2)) fun b=>some (.inr b)) (Ac (Ad (.bin .add .num true (.c (J b.1 0)) (.c (.int .i64 1)))) fun d=>some (.inl ([d,J b.1 1],b.2)))) (Ac (Ac (Ac (A3 (J b.1 1) 0 1 false) fun d=>Ai d (Ac (A3 (J b.1 1) 2 1 false) fun d=>Ac (Ad (.len .slice (.c d))) fun d=>Ac (Ad (.bin .leq .num true (.c d) (.c (.int .i64 200)))) fun d=>Ai d (some (W.bool true)) (Ac (A3 (J b.1 1) 0 1 false) fun d=>Ac (Ad (.un .not (.c d))) fun d=>Ai d (Ac (A3 (J b.1 1) 2 1 false) fun b=>Ac (Ad (.len .slice (.c b))) fun b=>Ac (Ad (.bin .eql .num true (.c b) (.c (.int .i64 1)))) fun b=>some b) (some (W.bool false)))) (Ac (A3 (J b.1 1) 0 1 false) fun d=>Ac (Ad (.un .not (.c d))) fun d=>Ai d (Ac (A3 (J b.1 1) 2 1 false) fun b=>Ac (Ad (.len .slice (.c b))) fun b=>Ac (Ad (.bin .eql .num true (.c b) (.c (.int .i64 1)))) fun b=>some b) (some (W.bool false)))) fun d=>some (d,b.2)) fun b=>some (.inr b))) (([I i,v],()):jh×Unit)=some (.bool (!(a.ru&&(a.n.drop i).any fun n=>!Fk n)&&(if a.li then decide (a.n.length<=200) else decide (a.n.length=1))),()):=by
  intro m;induction m with
  | zero =>
   intro i hi;refine B3 ?_;have hd0:a.n.drop i=[]:=eP (by omega);have jP:¬ ((i:Int) < (a.n.length:Int)):=by omega
   simp only[AW,AV,EU h,B5 h,lx.len,bV,AS,jP,iN,BL,Am,BH,iD,FB,Da,hd0,List.any_nil,gM,d8,ez];rw[tail];rfl
  | succ m ih =>
   intro i hi;have jP:i < a.n.length:=by omega
   have lf:(i:Int) < (a.n.length:Int):=by omega
   cases mF:a.ru with
   | false =>
    refine B3 ?_;simp only[AW,AV,EU h,Cy h,B5 h,lx.len,bV,AS,lf,iM,B4,mF,BL,Am,BH,iD,FB,Da,fi,d8,ez];rw[tail];rfl
   | true =>
    rw[GH jP,List.any_cons];cases hq:Fk a.n[i] with
    | false =>
     refine B3 ?_;simp only[AW,AV,Cy h,B5 h,lx.len,bV,AS,lf,iM,B4,mF,lx.idx jP,C0,Oe,hq,BH,d8,fJ,eF,dK,fi]
    | true =>
     rw[DE (s':=([I ((i+1:Nat):Int),v],()))];{rw[ih (i+1) (by omega),mF];simp only[dK,eQ]};{simp only[AW,AV,Cy h,B5 h,lx.len,bV,AS,lf,iM,B4,mF,lx.idx jP,C0,Oe,hq,BH,dK,BL,iD,BN,Cs (by omega:i < 9223372036854775807)]}
 have:=key a.n.length 0 (by omega);unfold jI.right;simpa[Bg] using this
theorem Tt {l m:jo} (hv:Bh v l) (hu:Bh u m) (hl:l.length<=1000000) (hm:m.length<=1000000):Ax B0 .cl (.fn 23 []) [v,u]=some (.bool (D0 l m)):=by
 refine Ce (by simp[Ap,hv.ok,hu.ok]) ?_;rw[run23];unfold wc wh wj wo wr wt;rw[hv.len,hu.len];simp only[bV,Cf,Am];by_cases xw:l.length=m.length
 ·have U:(((l.length:Int) != (m.length:Int))=true)↔False:=by simp[xw]
  simp only[U,iG];have h0:AY [v,u,.int .i64 0]=true:=by simp only[AY,e9,hv.qZ,hu.qZ];rfl
  rw[h0,cT]
  have key:∀ k i,i+k=l.length->Be (fun a=>Ac (Ad (.len .slice (.c (J a.1 0)))) fun b=>Ac (Ad (.bin .lss .num false (.c (J a.1 2)) (.c b))) fun b=>Ai b (Ac (Ad (.jJ 1 (.c (J a.1 0)) (.c (J a.1 2)))) fun b=>Ac (Ad (.load 1 false (.c b))) fun b=>Ac (Ad (.jJ 1 (.c (J a.1 1)) (.c (J a.1 2)))) fun d=>Ac (Ad (.load 1 false (.c d))) fun d=>Ac (Ad (.bin .neq .num false (.c b) (.c d))) fun b=>Ai b (Ac (some (W.bool false,a.2)) fun a=>some (.inr a)) (Ac (Ad (.bin .add .num true (.c (J a.1 2)) (.c (.int .i64 1)))) fun b=>some (.inl ([J a.1 0,J a.1 1,b],a.2)))) (Ac (some (W.bool true,a.2)) fun a=>some (.inr a))) (([v,u,I i],()):jh×Unit)=some (.bool (D0 (l.drop i) (m.drop i)),()):=by
   intro k;induction k with
   | zero =>
    intro i hi;refine B3 ?_;have O:l.drop i=[]:=eP (by omega);have h3:m.drop i=[]:=eP (by omega);have jP:¬ ((i:Int) < (l.length:Int)):=by omega
    simp only[AW,AV,A1,hv.len,bV,AS,jP,iN,BL,O,h3,D0]
   | succ k ih =>
    intro i hi;have jP:i < l.length:=by omega
    have n6:i < m.length:=by omega
    have lf:(i:Int) < (l.length:Int):=by omega
    rw[GH jP,GH n6];cases A:(l[i]==m[i]) with
    | true =>
     have hb:(l[i] != m[i])=false:=by simp[bne,A]
     rw[DE (s':=([v,u,I ((i+1:Nat):Int)],()))];{rw[ih (i+1) (by omega)];simp only[D0,A,ez]};{simp only[AW,AV,A1,hv.len,bV,AS,lf,iM,B4,hv.idx jP,hu.idx n6,C0,Cf,hb,BL,iD,BN,Cs (by omega:i < 9223372036854775807)]}
    | false =>
     have hb:(l[i] != m[i])=true:=by simp[bne,A]
     refine B3 ?_;simp only[AW,AV,A1,hv.len,bV,AS,lf,iM,B4,hv.idx jP,hu.idx n6,C0,Cf,hb,D0,A,fi]
  have:=key l.length 0 (by omega);simpa[Bg] using this
 ·have:¬ (l.length:Int)=(m.length:Int):=by omega
  have O:D0 l m=false:=by
   cases he:D0 l m with
   | false=>rfl
   | true=>exact iW (iP List.length ((Q6 l m).1 he)) xw
  simp[this,O]
theorem mD {b:jI} (hv:Az v a) (hu:Az u b) (ha:a.n.length<=1000000) (hb:b.n.length<=1000000):Ax B0 .cl (.fn 12 []) [v,u]=some (.bool (a.same b)):=by refine Ce (by simp[Ap,hv.ok,hu.ok]) ?_;rw[run12];unfold we wf wg wv;rw[BF hv,BF hu,cT,cT];simp only[EU hv,EU hu,Cy hv,Cy hu,B5 hv,B5 hu,bV,Jy,Am,Tt (Ca hv) (Ca hu) ha hb];unfold jI.same;cases (a.li==b.li)<;>cases (a.ru==b.ru)<;>simp
theorem Qf (h:Az v a) (hi:a.fits i):Ax B0 .cl (.fn 61 []) [v,I i]=some (I (a.at i)):=by
 obtain⟨x,rfl,A⟩:=h.get;refine Ce (by simp[Ap,h.ok]) ?_;rw[run61];unfold we wg wh wi wr;rw[DS,Cg rfl rfl A.cell,AO];simp only[BT,BG,H6,GN,Gn,At,Am,BH];unfold jI.at
 unfold jI.fits at hi;cases mi:a.li with
 | true =>
  simp only[mi,iH] at hi;simp only[iH,dK,dE,iG,A.idx hi,At,C0];rw[dO,dQ hi];rfl
 | false =>
  simp only[mi,dE,iG] at hi;simp only[dE,iG,d8,iH];rw[show (W.int .i64 0)=I ((0:Nat):Int) from rfl,A.idx hi];simp only[At,C0];rw[dO,dQ hi];rfl
theorem za2 (g:ji) {x y:Int} (A:ku x) (hy:ku y) (al:Bool):Ax B0 .cl (.fn 60 []) [.str g,I x,I y,.bool al]=some (EN (Cn g (!al) x y)):=by refine call4 rfl ?_;rw[run60];unfold wa wb wi wv;simp only[BH,bV,Am,iD,YQ g inR0 inR1,YQ g A hy,H8,H7];unfold Cn;cases al<;>rfl
def _root_.Go.Ab.jF.jI.inr (a:jI):Prop:=∀ n∈a.n,ku n
theorem vu (h:Az v a) (hl:a.n.length<=1000000) (nb:a.inr) (g:ji):∀ (m i:Nat) (acc:jo),i+m=a.n.length->acc.length=i->∃ w,Be (fun b=>Ac (A3 (J b.1 2) 2 1 false) fun d=>Ac (Ad (.len .slice (.c d))) fun d=>Ac (Ad (.bin .lss .num false (.c (J b.1 1)) (.c d))) fun d=>Ai d (Ac (A3 (J b.1 2) 2 1 false) fun d=>Ac (Ad (.jJ 1 (.c d) (.c (J b.1 1)))) fun d=>Ac (Ad (.load 1 false (.c d))) fun d=>Ac (Ax B0 .cl (.fn 66 []) [J b.1 0,d]) fun d=>Ac (Ad (.extract 0 (.c d))) fun e=>Ac (Ad (.extract 1 (.c d))) fun d=>Ac (Ad (.bin .neq .num true (.c d) (.c (.int .i64 0)))) fun f=>Ai f (Ac (Ad (.build [.bool false,.bool false,.jD] [])) fun e=>Ae (Aw e 3) (Ac (some (W.jE [.agg [Af e 0,Af e 1,Af e 2],d],b.2)) fun b=>some (.inr b))) (Ae (AX 1 [e]) (Ae (Ay (As 0 (Ah [e])) (Ah [e])) (Ae (Bb (Ay (Aj (J b.1 8)) (Ah (Ao (J b.1 9)))) (Ay (As (Aj (J b.1 8)) (Ah (Aq (Ah [e]) (AE 0 [e])))) 2147483648)) (Ac (Ad (.bin .add .num true (.c (J b.1 1)) (.c (.int .i64 1)))) fun d=>some (.inl ([J b.1 0,d,J b.1 2,J b.1 3,J b.1 4,J b.1 5,J b.1 6,J b.1 7,nI (As (Aj (J b.1 8)) (Ah (Aq (Ah [e]) (AE 0 [e])))),.sl 1 (A5 (Aq (Aj (J b.1 8)) (Ao (J b.1 9))) (Aq (Ah [e]) (AE 0 [e]))) false],b.2))))))) (Ac (Ae (A6 (W.jE [.agg [J b.1 6,J b.1 7,AB 1 1 (Ao (J b.1 9)) 0 (Aj (J b.1 8))],.int .i64 0])) (some (W.jE [.agg [J b.1 6,J b.1 7,AB 1 1 (Ao (J b.1 9)) 0 (Aj (J b.1 8))],.int .i64 0],b.2))) fun b=>some (.inr b))) (([.str g,I i,v,.bool false,.bool false,.jD,.bool a.li,.bool false,nI acc.length,.sl 1 (An acc) false],()):jh×Unit) =
  some (.jE [w,I (match FS (CV g) (a.n.drop i) with | .inl c=>(A2,c) | .inr r=>((⟨a.li,false,acc++r⟩:jI),0)).2],())/\Az w (match FS (CV g) (a.n.drop i) with | .inl c=>(A2,c) | .inr r=>((⟨a.li,false,acc++r⟩:jI),0)).1:=by
 have lx:=Ca h;intro m;induction m with
 | zero =>
  intro i acc hi ha;have hd0:a.n.drop i=[]:=eP (by omega);rw[hd0];have es:AB 1 1 (An acc) 0 (Aj (nI acc.length))=.sl 1 (An acc) false:=by rw[Cp,DG,dN];unfold AB;rw[iJ ⟨rfl,by rw[BA];omega⟩,eJ,dV (by rw[BA];exact dH _)]
  refine⟨.agg [.bool a.li,.bool false,.sl 1 (An acc) false],B3 ?_,?_⟩
  ·have jP:¬ ((i:Int) < (a.n.length:Int)):=by omega
   simp only[AV,A1,B5 h,lx.len,AS,bV,jP,iN,BL];show Ac (Ae (A6 (W.jE [.agg [.bool a.li,.bool false,AB 1 1 (An acc) 0 (Aj (nI acc.length))],.int .i64 0])) (some (W.jE [.agg [.bool a.li,.bool false,AB 1 1 (An acc) 0 (Aj (nI acc.length))],.int .i64 0],()))) (fun b=>some (Sum.inr b))=_
   rw[es,show A6 (W.jE [.agg [.bool a.li,.bool false,.sl 1 (An acc) false],.int .i64 0])=true by
    show jN _=true;simp[jN,Ap,E8],AO]
   rfl
  {simp only[FS,ft];exact .mk _ _ _ _ (.sl _ _)}
 | succ m ih =>
  intro i acc hi ha;have jP:i < a.n.length:=by omega
  have lf:(i:Int) < (a.n.length:Int):=by omega
  have hir:=nb _ (eW jP);rw[GH jP];unfold FS;by_cases ny:(CV g a.n[i]).2.no=0
  ·simp only[ny,iX,iQ,iG];rw[DE (s':=([.str g,I ((i+1:Nat):Int),v,.bool false,.bool false,.jD,.bool a.li,.bool false,nI (acc++[(CV g a.n[i]).1]).length,.sl 1 (An (acc++[(CV g a.n[i]).1])) false],()))]
   ·obtain⟨w,U,O⟩:=ih (i+1) (acc++[(CV g a.n[i]).1]) (by omega) (by simp[ha]);cases hm:FS (CV g) (a.n.drop (i+1)) with
    | inl c=>rw[hm] at U O;exact⟨w,U,O⟩
    | inr r =>
     rw[hm] at U O;simp only[eL,fW,eM] at U O;exact⟨w,U,O⟩
   ·simp only[AW,AV,A1,B5 h,lx.len,AS,bV,lf,iM,B4,lx.idx jP,C0,XT g hir,H8,H7,iD,Cf,ny,bne_self_eq_false,BL,Qi,cT];show Ae (Ay (0+1) 1) (Ae (Bb (Ay (Aj (nI acc.length)) (An acc).length) (Ay (Aj (nI acc.length)+1) 2147483648)) _)=_;have e1:Aj (nI acc.length)=acc.length:=by simp
    simp only[Ji,IB,e1,BA];rw[show (decide (0+1<=1))=true from rfl,AO,show (decide (acc.length<=acc.length)&&decide (acc.length+1<=2147483648))=true by simp;omega,AO];simp only[BN,bV,Cs (by omega:i < 9223372036854775807)];show some (Sum.inl ([.str g,I ((i+1:Nat):Int),v,.bool false,.bool false,.jD,.bool a.li,.bool false,nI (Aj (nI acc.length)+1),.sl 1 ((An acc).take (Aj (nI acc.length))++[I (CV g a.n[i]).1]) false],()))=_;rw[e1,dV (by rw[BA];exact dH _),eA,show An (acc++[(CV g a.n[i]).1])=An acc++[I (CV g a.n[i]).1] by simp[An]];rfl
  ·simp only[ny,iX,iV,iH];refine⟨C8,B3 ?_,Bk⟩;have hb:((CV g a.n[i]).2.no != 0)=true:=by simpa using ny
   simp only[AW,AV,A1,B5 h,lx.len,AS,bV,lf,iM,B4,lx.idx jP,C0,XT g hir,H8,H7,iD,Cf,hb,Jk];rfl
theorem za3 (hv:Az v a) (rU:a.n.length<=1000000) (nb:a.inr) (g:ji) :
  ∃ w,Ax B0 .cl (.fn 39 []) [.str g,v]=some (.jE [w,I (jI.q7 g a).2])/\Az w (jI.q7 g a).1:=by
 have ln:Ap [.str g,v]=true:=by simp[Ap,jN,hv.ok]
 suffices key:∃ w,AH (AD B0 fun _=>.cl) fn39 (.cl) AI 0 [.cv (.str g),.cv v] ()=some (.jE [w,I (jI.q7 g a).2],())/\Az w (jI.q7 g a).1 by
  obtain⟨w,U,O⟩:=key;exact⟨w,El ln U,O⟩
 have lx:=Ca hv;rw[run39];unfold wa wb wc wd we wf wg wh wi wj wk wo wr wv;rw[BF hv,cT];simp only[Cj hv,kI hv rU,mQ,EU hv,Cy hv,B5 hv,lx.len,bV,BH,Am,Jk,iD,CT];unfold jI.q7;cases T:a.right with
 | false =>
  simp only[d8,iH];exact⟨C8,rfl,Bk⟩
 | true =>
  simp only[dK,dE,iG,gf];cases hd:D6 g with
  | false =>
   simp only[d8,iH];exact⟨C8,rfl,Bk⟩
  | true =>
   simp only[dK,dE,iG,gf];have fin:=vu hv rU nb g a.n.length 0 [] (by omega) rfl;simp only[eJ,eM,fF,show An []=[] from rfl] at fin;have bl:Ad (.build [.bool false,.bool false,.jD] [(0,(1,.c (.bool a.li)))])=some (.agg [.bool a.li,.bool false,.jD]):=rfl;have e0:decide ((0:Int) < (a.n.length:Int))=decide (0 < a.n.length):=by by_cases h:0 < a.n.length<;>simp[h]
   unfold jI.text;rw[e0];simp only[bl,bV];rw[show Aw (.agg [.bool a.li,.bool false,.jD]) 3=true from rfl];simp only[cT];unfold CU;dsimp only [Ha];rw[show AY [.str g,I 0]=true from rfl];simp only[cT];cases mF:a.ru with
   | false =>
    simp only[fi,dE,iG];exact fin
   | true =>
    simp only[ez,iH];by_cases h0:0 < a.n.length;{simp only[h0,iM,iH];exact⟨C8,rfl,Bk⟩};{simp only[h0,iN,dE,iG];exact fin}
end Go.Ab.jF.Ar


namespace Go.Ab.jF.Ar
open Go Go.Ab Go.Ab.jF
variable{a b:jI} {g:ji} {i n:Nat} {u v:W}
theorem sz_1 (h:(a.sz b).2=0):(a.sz b).1.toNat=if a.li then a.n.length else b.n.length:=by unfold jI.sz at h |-;cases hl:a.li<;>cases T:b.li<;>simp[hl,T] at h |-;split at h;{rename_i hh;simp[hh]};·cases h
theorem za4 (h:a.inr) (hf:a.fits i):ku (a.at i):=by
 unfold jI.at
 unfold jI.fits at hf;cases hl:a.li with
 | true =>
  simp only[hl,iH] at hf |-;rw[dO,dQ hf];exact h _ (eW hf)
 | false =>
  simp only[hl,iG,dE] at hf |-;rw[dO,dQ hf];exact h _ (eW hf)
theorem za5 (hv:Az v a) (hu:Az u b) (ha:a.inr) (hb:b.inr) (g:ji) (li:Bool) (n:Nat) (hn:n<=1000000) (hf:∀ i,i < n->a.fits i/\b.fits i):∀ (m i:Nat) (acc:jo),i+m=n->acc.length=i ->
  ∃ w,Be (fun d=>Ac (Ad (.bin .lss .num false (.c (J d.1 2)) (.c (J d.1 1)))) fun e=>Ai e (Ac (A3 (J d.1 3) 0 3 true) fun e=>Ac (Ax B0 .cl (.fn 61 []) [e,J d.1 2]) fun e=>Ac (A3 (J d.1 4) 0 3 true) fun f=>Ac (Ax B0 .cl (.fn 61 []) [f,J d.1 2]) fun f=>Ac (A3 (J d.1 3) 1 1 false) fun h=>Ac (A3 (J d.1 4) 1 1 false) fun j=>Ac (Ad (.bin .eql .bool false (.c h) (.c j))) fun h=>Ac (Ax B0 .cl (.fn 60 []) [J d.1 0,e,f,h]) fun e=>Ac (Ad (.extract 0 (.c e))) fun f=>Ac (Ad (.extract 1 (.c e))) fun e=>Ac (Ad (.bin .neq .num true (.c e) (.c (.int .i64 0)))) fun h=>Ai h (Ac (Ad (.build [.bool false,.bool false,.jD] [])) fun f=>Ae (Aw f 3) (Ac (some (W.jE [.agg [Af f 0,Af f 1,Af f 2],e],d.2)) fun d=>some (.inr d))) (Ae (AX 1 [f]) (Ae (Ay (As 0 (Ah [f])) (Ah [f])) (Ae (Bb (Ay (Aj (J d.1 10)) (Ah (Ao (J d.1 11)))) (Ay (As (Aj (J d.1 10)) (Ah (Aq (Ah [f]) (AE 0 [f])))) 2147483648)) (Ac (Ad (.bin .add .num true (.c (J d.1 2)) (.c (.int .i64 1)))) fun e=>some (.inl ([J d.1 0,J d.1 1,e,J d.1 3,J d.1 4,J d.1 5,J d.1 6,J d.1 7,J d.1 8,J d.1 9,nI (As (Aj (J d.1 10)) (Ah (Aq (Ah [f]) (AE 0 [f])))),.sl 1 (A5 (Aq (Aj (J d.1 10)) (Ao (J d.1 11))) (Aq (Ah [f]) (AE 0 [f]))) false],d.2))))))) (Ac (Ae (A6 (W.jE [.agg [J d.1 8,J d.1 9,AB 1 1 (Ao (J d.1 11)) 0 (Aj (J d.1 10))],.int .i64 0])) (some (W.jE [.agg [J d.1 8,J d.1 9,AB 1 1 (Ao (J d.1 11)) 0 (Aj (J d.1 10))],.int .i64 0],d.2))) fun d=>some (.inr d))) (([.str g,I n,I i,v,u,.bool false,.bool false,.jD,.bool li,.bool false,nI acc.length,.sl 1 (An acc) false],()):jh×Unit) =
  some (.jE [w,I (match Dj (Cn g (a.ru != b.ru)) (Dk a b i m) with | .inl c=>(A2,c) | .inr r=>((⟨li,false,acc++r⟩:jI),0)).2],())/\Az w (match Dj (Cn g (a.ru != b.ru)) (Dk a b i m) with | .inl c=>(A2,c) | .inr r=>((⟨li,false,acc++r⟩:jI),0)).1:=by
 intro m;induction m with
 | zero =>
  intro i acc hi tl;have es:AB 1 1 (An acc) 0 (Aj (nI acc.length))=.sl 1 (An acc) false:=by rw[Cp,DG,dN];unfold AB;rw[iJ ⟨rfl,by rw[BA];omega⟩,eJ,dV (by rw[BA];exact dH _)]
  refine⟨.agg [.bool li,.bool false,.sl 1 (An acc) false],B3 ?_,?_⟩
  ·have jP:¬ ((i:Int) < (n:Int)):=by omega
   simp only[AV,A1,AS,bV,jP,iN,BL];show Ac (Ae (A6 (W.jE [.agg [.bool li,.bool false,AB 1 1 (An acc) 0 (Aj (nI acc.length))],.int .i64 0])) (some (W.jE [.agg [.bool li,.bool false,AB 1 1 (An acc) 0 (Aj (nI acc.length))],.int .i64 0],()))) (fun d=>some (Sum.inr d))=_
   rw[es,show A6 (W.jE [.agg [.bool li,.bool false,.sl 1 (An acc) false],.int .i64 0])=true by
    show jN _=true;simp[jN,Ap,E8],AO]
   simp only[Dk,Dj];rfl
  {simp only[Dk,Dj,ft];exact .mk _ _ _ _ (.sl _ _)}
 | succ m ih =>
  intro i acc hi tl;have lf:(i:Int) < (n:Int):=by omega
  obtain⟨fa,fb⟩:=hf i (by omega);have T:=za2 g (za4 ha fa) (za4 hb fb) (a.ru==b.ru);have en:(!(a.ru==b.ru))=(a.ru != b.ru):=rfl;rw[en] at T;unfold Dk Dj;by_cases ny:(Cn g (a.ru != b.ru) (a.at i) (b.at i)).2.no=0
  ·simp only[ny,iX,iQ,iG];rw[DE (s':=([.str g,I n,I ((i+1:Nat):Int),v,u,.bool false,.bool false,.jD,.bool li,.bool false,nI (acc++[(Cn g (a.ru != b.ru) (a.at i) (b.at i)).1]).length,.sl 1 (An (acc++[(Cn g (a.ru != b.ru) (a.at i) (b.at i)).1])) false],()))]
   ·obtain⟨w,U,O⟩:=ih (i+1) (acc++[(Cn g (a.ru != b.ru) (a.at i) (b.at i)).1]) (by omega) (by simp[tl]);cases hm:Dj (Cn g (a.ru != b.ru)) (Dk a b (i+1) m) with
    | inl c=>rw[hm] at U O;exact⟨w,U,O⟩
    | inr r =>
     rw[hm] at U O;simp only[eL,fW,eM] at U O;exact⟨w,U,O⟩
   ·simp only[AW,AV,A1,Bc,BD,AS,bV,lf,iM,B4,Cj hv,Cj hu,Cy hv,Cy hu,Qf hv fa,Qf hu fb,Jy,T,H8,H7,iD,Cf,ny,bne_self_eq_false,BL,Qi,cT];show Ae (Ay (0+1) 1) (Ae (Bb (Ay (Aj (nI acc.length)) (An acc).length) (Ay (Aj (nI acc.length)+1) 2147483648)) _)=_;have e1:Aj (nI acc.length)=acc.length:=by simp
    simp only[Ji,IB,e1,BA];rw[show (decide (0+1<=1))=true from rfl,AO,show (decide (acc.length<=acc.length)&&decide (acc.length+1<=2147483648))=true by simp;omega,AO];simp only[BN,bV,Cs (by omega:i < 9223372036854775807)];show some (Sum.inl ([.str g,I n,I ((i+1:Nat):Int),v,u,.bool false,.bool false,.jD,.bool li,.bool false,nI (Aj (nI acc.length)+1),.sl 1 ((An acc).take (Aj (nI acc.length))++[I (Cn g (a.ru != b.ru) (a.at i) (b.at i)).1]) false],()))=_;rw[e1,dV (by rw[BA];exact dH _),eA,show An (acc++[(Cn g (a.ru != b.ru) (a.at i) (b.at i)).1])=An acc++[I (Cn g (a.ru != b.ru) (a.at i) (b.at i)).1] by simp[An]];rfl
  ·simp only[ny,iX,iV,iH];refine⟨C8,B3 ?_,Bk⟩;have lX:((Cn g (a.ru != b.ru) (a.at i) (b.at i)).2.no != 0)=true:=by simpa using ny
   simp only[AW,AV,A1,Bc,BD,AS,bV,lf,iM,B4,Cj hv,Cj hu,Cy hv,Cy hu,Qf hv fa,Qf hu fb,Jy,T,H8,H7,iD,Cf,lX,Jk];rfl
theorem za6 (hv:Az v a) (hu:Az u b):Ac (A3 v 0 1 false) (fun d=>Ai d (Ac (A3 u 0 1 false) fun d=>Ai d (Ac (A3 v 2 1 false) fun d=>Ac (Ad (.len .slice (.c d))) fun d=>Ac (A3 u 2 1 false) fun f=>Ac (Ad (.len .slice (.c f))) fun f=>Ac (Ad (.bin .neq .num false (.c d) (.c f))) fun d=>some d) (some (W.bool false))) (some (W.bool false)))=some (.bool (decide ((a.sz b).2≠0))):=by
 have lx:=Ca hv;have ly:=Ca hu;simp only[EU hv,EU hu,B5 hv,B5 hu,lx.len,ly.len,bV,Cf,Am]
 have e:((a.n.length:Int) != (b.n.length:Int))=decide (a.n.length≠b.n.length):=by
  by_cases h:a.n.length=b.n.length;{simp[h]}
  ·have:¬ (a.n.length:Int)=(b.n.length:Int):=by omega
   simp[h,this]
 rw[e];unfold jI.sz;cases a.li<;>cases b.li<;>simp;by_cases h:a.n.length=b.n.length<;>simp[h]
theorem vw (g:ji) (hv:Az v a) (hu:Az u b):Ac (Ad (.bin .neq .str true (.c (.str g)) (.c (.str [61])))) (fun d=>Ai d (Ac (Ad (.bin .neq .str true (.c (.str g)) (.c (.str [226,137,160])))) fun d=>Ai d (Ac (A3 v 1 1 false) fun d=>Ai d (Ac (A3 v 2 1 false) fun d=>Ac (Ad (.len .slice (.c d))) fun d=>Ac (Ad (.bin .gtr .num true (.c d) (.c (.int .i64 0)))) fun d=>Ai d (some (W.bool true)) (Ac (A3 u 1 1 false) fun d=>Ai d (Ac (A3 u 2 1 false) fun d=>Ac (Ad (.len .slice (.c d))) fun d=>Ac (Ad (.bin .gtr .num true (.c d) (.c (.int .i64 0)))) fun d=>some d) (some (W.bool false)))) (Ac (A3 u 1 1 false) fun d=>Ai d (Ac (A3 u 2 1 false) fun d=>Ac (Ad (.len .slice (.c d))) fun d=>Ac (Ad (.bin .gtr .num true (.c d) (.c (.int .i64 0)))) fun d=>some d) (some (W.bool false)))) (some (W.bool false))) (some (W.bool false)))=some (.bool (!jI.isEq g&&(a.text||b.text))):=by
 have lx:=Ca hv;have ly:=Ca hu;simp only[Cy hv,Cy hu,B5 hv,B5 hu,lx.len,ly.len,bV,zj,Am,iD,CT];have e0:decide ((0:Int) < (a.n.length:Int))=decide (0 < a.n.length):=by by_cases h:0 < a.n.length<;>simp[h]
 have e1:decide ((0:Int) < (b.n.length:Int))=decide (0 < b.n.length):=by by_cases h:0 < b.n.length<;>simp[h]
 rw[e0,e1];unfold jI.text jI.isEq;rw[show (g==CY)=(g==[61]) from rfl,show (g==Du)=(g==[226,137,160]) from rfl];cases g==[61]<;>cases g==[226,137,160]<;>cases a.ru<;>cases b.ru<;>cases decide (0 < a.n.length)<;>simp
theorem dyL_sub (hf:∀ i,i < n->a.fits i/\b.fits i) (ht:(!jI.isEq g&&(a.text||b.text))=false) :
  Dj (Cn g (jI.isEq g&&(a.ru != b.ru))) (Dk a b 0 n)=Dj (Cn g (a.ru != b.ru)) (Dk a b 0 n):=by
 cases he:jI.isEq g with
 | true=>rw[ez]
 | false =>
  simp only[he,d8,ez,fP] at ht;cases n with
  | zero=>rfl
  | succ n =>
   obtain⟨fa,fb⟩:=hf 0 (by omega)
   have pos:∀ c:jI,c.fits 0->c.text=false->c.ru=false:=by
    intro c hc tk;unfold jI.text at tk;unfold jI.fits at hc
    have:0 < c.n.length:=by
     cases hl:c.li with
     | true=>simpa[hl] using hc
     | false=>simpa[hl] using hc
    simpa[this] using tk
   rw[pos a fa ht.1,pos b fb ht.2];rfl
theorem sz_110 (h:(a.sz b).2≠0):(a.sz b).2=110:=by unfold jI.sz at h |-;by_cases c:(a.li&&(b.li&&decide (a.n.length≠b.n.length)))=true;{rw[iJ c]};{rw[iI c] at h;exfalso;apply h;cases a.li<;>rfl}
set_option maxHeartbeats 2000000 in
theorem rdyR (hv:Az v a) (hu:Az u b) (rU:a.n.length<=1000000) (hlb:b.n.length<=1000000) (ha:a.inr) (hb:b.inr) (g:ji) :
  ∃ w,Ax B0 .cl (.fn 35 []) [.str g,v,u]=some (.jE [w,I (jI.dy g a b).2])/\Az w (jI.dy g a b).1:=by
 have ln:Ap [.str g,v,u]=true:=by simp[Ap,jN,hv.ok,hu.ok]
 suffices key:∃ w,AH (AD B0 fun _=>.cl) fn35 (.cl) AI 0 [.cv (.str g),.cv v,.cv u] ()=some (.jE [w,I (jI.dy g a b).2],())/\Az w (jI.dy g a b).1 by
  obtain⟨w,U,O⟩:=key;exact⟨w,El ln U,O⟩
 have lx:=Ca hv;have ly:=Ca hu;rw[run35];unfold wa wb wc wd we wf wg wi wj wk wo wt wv;rw[BF hv,BF hu,cT,cT,za6 hv hu,vw g hv hu];simp only[Cj hv,Cj hu,kI hv rU,kI hu hlb,nz,EU hv,EU hu,B5 hv,B5 hu,lx.len,ly.len,bV,BH,Am,Jk,iD];unfold jI.dy;cases T:a.right with
 | false =>
  simp only[d8,iH,fi];exact⟨C8,rfl,Bk⟩
 | true =>
  simp only[dK,dE,iG,ez];cases mL:b.right with
  | false =>
   simp only[d8,iH];exact⟨C8,rfl,Bk⟩
  | true =>
   simp only[dK,dE,iG,gf];cases hd:CQ g with
   | false =>
    simp only[d8,iH];exact⟨C8,rfl,Bk⟩
   | true =>
    simp only[dK,dE,iG,gf];by_cases hs:(a.sz b).2=0
    ·simp only[hs,iX,iQ,iN,dE,iG];cases ht:(!jI.isEq g&&(a.text||b.text)) with
     | true =>
      simp only[iH];exact⟨C8,rfl,Bk⟩
     | false =>
      simp only[dE,iG];obtain⟨z1,z2,z3⟩:=QR T mL hs;rw[dyL_sub z3 ht];have kS:=sz_1 hs;have fin:=fun li=>za5 hv hu ha hb g li (a.sz b).1.toNat (by omega) z3 (a.sz b).1.toNat 0 [] (by omega) rfl;rw[kS] at fin |-;simp only[eM,fF,show An []=[] from rfl] at fin;have bl:∀ li:Bool,Ad (.build [.bool false,.bool false,.jD] [(0,(1,.c (.bool li)))])=some (.agg [.bool li,.bool false,.jD]):=fun li=>rfl;have yC:∀ li:Bool,Aw (.agg [.bool li,.bool false,.jD]) 3=true:=fun li=>rfl;have nu:∀ k:Int,AY [.str g,I k,I 0]=true:=fun k=>rfl;simp only[bl,bV,yC,cT];unfold CU;dsimp only [Ha];simp only[nu,cT];cases mi:a.li with
      | true =>
       simp only[mi,iH,fJ] at fin |-;exact fin true
      | false =>
       simp only[mi,iG,eQ,dE] at fin |-;exact fin b.li
    {simp only[hs,iX,iV,iM,iH];have e:(a.sz b).2=110:=sz_110 hs;rw[e];exact⟨C8,rfl,Bk⟩}
end Go.Ab.jF.Ar


set_option maxRecDepth 20000
namespace Go.Ab.jF.Sh
open Go Go.Ab Go.Ab.jF
variable{a:jI} {u v:W}
theorem Oe (n:Int):Ax B0 .cl (.fn 37 []) [I n]=some (.bool (Fk n)):=by refine Bm rfl ?_;rw[run37];simp only[Bg,Ef,FB,AS,CT,At,Am];unfold Fk;by_cases U:0<=n<;>by_cases O:n<=1114111<;>by_cases h3:n < 55296<;>simp[U,O,h3]
theorem kI (h:Az v a) (hl:a.n.length<=1000000):Ax B0 .cl (.fn 20 []) [v]=some (.bool a.right):=by
 refine Bm (by simp[Ap,h.ok]) ?_;rw[run20];unfold wc we wf wg wh wi wj wo wr wv;rw[BF h,cT];rw[show AY [.int .i64 0]=true from rfl,cT];have lx:=Ca h
 have tail:(if a.li=true then (if decide ((a.n.length:Int)<=200)=true then some (W.bool true) else if (!a.li)=true then some (.bool ((a.n.length:Int)==1)) else some (.bool false)) else if (!a.li)=true then some (.bool ((a.n.length:Int)==1)) else some (.bool false))=some (W.bool (if a.li then decide (a.n.length<=200) else decide (a.n.length=1))):=by
  have e1:decide ((a.n.length:Int)<=200)=decide (a.n.length<=200):=by
   by_cases h:a.n.length<=200;{simp[h];omega}
   ·have:¬ (a.n.length:Int)<=200:=by omega
    simp[h,this]
  have e2:((a.n.length:Int)==1)=decide (a.n.length=1):=by
   by_cases h:a.n.length=1;{simp[h]}
   ·have:¬ (a.n.length:Int)=1:=by omega
    simp[h,this]
  rw[e1,e2];cases a.li;{simp};{by_cases h:a.n.length<=200<;>simp[h]}
 have key:∀ m i,i+m=a.n.length->Be (fun b=>Ac (Ac (A3 (J b.1 1) 2 1 false) fun d=>Ac (Ad (.len .slice (.c d))) fun d=>Ac (Ad (.bin .lss .num false (.c (J b.1 0)) (.c d))) fun d=>Ai d (Ac (A3 (J b.1 1) 1 1 false) fun b=>some b) (some (W.bool false))) fun d=>Ai d (Ac (A3 (J b.1 1) 2 1 false) fun d=>Ac (Ad (.jJ 1 (.c d) (.c (J b.1 0)))) fun d=>Ac (Ad (.load 1 false (.c d))) fun d=>Ac (Ax B0 .cl (.fn 37 []) [d]) fun d=>Ac (Ad (.un .not (.c d))) fun d=>Ai d (Ac (some (W.bool false,b.2)) fun b=>some (.inr b)) (Ac (Ad (.bin .add .num true (.c (J b.1 0)) (.c (.int .i64 1)))) fun d=>some (.inl ([d,J b.1 1],b.2)))) (Ac (Ac (Ac (A3 (J b.1 1) 0 1 false) fun d=>Ai d (Ac (A3 (J b.1 1) 2 1 false) fun d=>Ac (Ad (.len .slice (.c d))) fun d=>Ac (Ad (.bin .leq .num true (.c d) (.c (.int .i64 200)))) fun d=>Ai d (some (W.bool true)) (Ac (A3 (J b.1 1) 0 1 false) fun d=>Ac (Ad (.un .not (.c d))) fun d=>Ai d (Ac (A3 (J b.1 1) 2 1 false) fun b=>Ac (Ad (.len .slice (.c b))) fun b=>Ac (Ad (.bin .eql .num true (.c b) (.c (.int .i64 1)))) fun b=>some b) (some (W.bool false)))) (Ac (A3 (J b.1 1) 0 1 false) fun d=>Ac (Ad (.un .not (.c d))) fun d=>Ai d (Ac (A3 (J b.1 1) 2 1 false) fun b=>Ac (Ad (.len .slice (.c b))) fun b=>Ac (Ad (.bin .eql .num true (.c b) (.c (.int .i64 1)))) fun b=>some b) (some (W.bool false)))) fun d=>some (d,b.2)) fun b=>some (.inr b))) (([I i,v],()):jh×Unit)=some (.bool (!(a.ru&&(a.n.drop i).any fun n=>!Fk n)&&(if a.li then decide (a.n.length<=200) else decide (a.n.length=1))),()):=by
  intro m;induction m with
  | zero =>
   intro i hi;refine B3 ?_;have hd0:a.n.drop i=[]:=eP (by omega);have jP:¬ ((i:Int) < (a.n.length:Int)):=by omega
   simp only[AW,AV,EU h,B5 h,lx.len,bV,AS,jP,iN,BL,Am,BH,iD,FB,Da,hd0,List.any_nil,gM,d8,ez];rw[tail];rfl
  | succ m ih =>
   intro i hi;have jP:i < a.n.length:=by omega
   have lf:(i:Int) < (a.n.length:Int):=by omega
   cases mF:a.ru with
   | false =>
    refine B3 ?_;simp only[AW,AV,EU h,Cy h,B5 h,lx.len,bV,AS,lf,iM,B4,mF,BL,Am,BH,iD,FB,Da,fi,d8,ez];rw[tail];rfl
   | true =>
    rw[GH jP,List.any_cons];cases hq:Fk a.n[i] with
    | false =>
     refine B3 ?_;simp only[AW,AV,Cy h,B5 h,lx.len,bV,AS,lf,iM,B4,mF,lx.idx jP,C0,Oe,hq,BH,d8,fJ,eF,dK,fi]
    | true =>
     rw[DE (s':=([I ((i+1:Nat):Int),v],()))];{rw[ih (i+1) (by omega),mF];simp only[dK,eQ]};{simp only[AW,AV,Cy h,B5 h,lx.len,bV,AS,lf,iM,B4,mF,lx.idx jP,C0,Oe,hq,BH,dK,BL,iD,BN,Cs (by omega:i < 9223372036854775807)]}
 have:=key a.n.length 0 (by omega);unfold jI.right;simpa[Bg] using this
theorem Tt {l m:jo} (hv:Bh v l) (hu:Bh u m) (hl:l.length<=1000000) (hm:m.length<=1000000):Ax B0 .cl (.fn 23 []) [v,u]=some (.bool (D0 l m)):=by
 refine Ce (by simp[Ap,hv.ok,hu.ok]) ?_;rw[run23];unfold wc wh wj wo wr wt;rw[hv.len,hu.len];simp only[bV,Cf,Am];by_cases xw:l.length=m.length
 ·have U:(((l.length:Int) != (m.length:Int))=true)↔False:=by simp[xw]
  simp only[U,iG];have h0:AY [v,u,.int .i64 0]=true:=by simp only[AY,e9,hv.qZ,hu.qZ];rfl
  rw[h0,cT]
  have key:∀ k i,i+k=l.length->Be (fun a=>Ac (Ad (.len .slice (.c (J a.1 0)))) fun b=>Ac (Ad (.bin .lss .num false (.c (J a.1 2)) (.c b))) fun b=>Ai b (Ac (Ad (.jJ 1 (.c (J a.1 0)) (.c (J a.1 2)))) fun b=>Ac (Ad (.load 1 false (.c b))) fun b=>Ac (Ad (.jJ 1 (.c (J a.1 1)) (.c (J a.1 2)))) fun d=>Ac (Ad (.load 1 false (.c d))) fun d=>Ac (Ad (.bin .neq .num false (.c b) (.c d))) fun b=>Ai b (Ac (some (W.bool false,a.2)) fun a=>some (.inr a)) (Ac (Ad (.bin .add .num true (.c (J a.1 2)) (.c (.int .i64 1)))) fun b=>some (.inl ([J a.1 0,J a.1 1,b],a.2)))) (Ac (some (W.bool true,a.2)) fun a=>some (.inr a))) (([v,u,I i],()):jh×Unit)=some (.bool (D0 (l.drop i) (m.drop i)),()):=by
   intro k;induction k with
   | zero =>
    intro i hi;refine B3 ?_;have O:l.drop i=[]:=eP (by omega);have h3:m.drop i=[]:=eP (by omega);have jP:¬ ((i:Int) < (l.length:Int)):=by omega
    simp only[AW,AV,A1,hv.len,bV,AS,jP,iN,BL,O,h3,D0]
   | succ k ih =>
    intro i hi;have jP:i < l.length:=by omega
    have n6:i < m.length:=by omega
    have lf:(i:Int) < (l.length:Int):=by omega
    rw[GH jP,GH n6];cases A:(l[i]==m[i]) with
    | true =>
     have hb:(l[i] != m[i])=false:=by simp[bne,A]
     rw[DE (s':=([v,u,I ((i+1:Nat):Int)],()))];{rw[ih (i+1) (by omega)];simp only[D0,A,ez]};{simp only[AW,AV,A1,hv.len,bV,AS,lf,iM,B4,hv.idx jP,hu.idx n6,C0,Cf,hb,BL,iD,BN,Cs (by omega:i < 9223372036854775807)]}
    | false =>
     have hb:(l[i] != m[i])=true:=by simp[bne,A]
     refine B3 ?_;simp only[AW,AV,A1,hv.len,bV,AS,lf,iM,B4,hv.idx jP,hu.idx n6,C0,Cf,hb,D0,A,fi]
  have:=key l.length 0 (by omega);simpa[Bg] using this
 ·have:¬ (l.length:Int)=(m.length:Int):=by omega
  have O:D0 l m=false:=by
   cases he:D0 l m with
   | false=>rfl
   | true=>exact iW (iP List.length ((Q6 l m).1 he)) xw
  simp[this,O]
theorem mD {b:jI} (hv:Az v a) (hu:Az u b) (ha:a.n.length<=1000000) (hb:b.n.length<=1000000):Ax B0 .cl (.fn 12 []) [v,u]=some (.bool (a.same b)):=by refine Ce (by simp[Ap,hv.ok,hu.ok]) ?_;rw[run12];unfold we wf wg wv;rw[BF hv,BF hu,cT,cT];simp only[EU hv,EU hu,Cy hv,Cy hu,B5 hv,B5 hu,bV,Jy,Am,Tt (Ca hv) (Ca hu) ha hb];unfold jI.same;cases (a.li==b.li)<;>cases (a.ru==b.ru)<;>simp
end Go.Ab.jF.Sh


set_option maxRecDepth 20000
namespace Go.Ab.jF.Sh
open Go Go.Ab Go.Ab.jF
variable{a:jI} {c:TC} {i k:Nat} {l:jo} {n:Int} {s:Bool} {v y:W}
theorem Ff (a b c d e f g h i x:W) (l:jh):J (a :: b :: c :: d :: e :: f :: g :: h :: i :: x :: l) 9=x:=rfl
theorem HH (a b c d e f g h i j x:W) (l:jh):J (a :: b :: c :: d :: e :: f :: g :: h :: i :: j :: x :: l) 10=x:=rfl
theorem JE (n:Int):Ay (As 0 (Ah [I n])) (Ah [I n])=true:=rfl
theorem Ek (a:ji):Ad (.bin .eql c s (.c (.str a)) (.c (.str a)))=some (.bool true):=by rw[I8,iU]
theorem CA {a b:ji} (h:¬ a=b):Ad (.bin .eql c s (.c (.str a)) (.c (.str b)))=some (.bool false):=by rw[I8,beq_eq_false_iff_ne.2 h]
theorem II (h:k=l.length):AB 1 1 (An l) 0 k=.sl 1 (An l) false:=by subst h;rw[Oy _ (dH _),fM]
theorem okU3 (li ru:Bool) (l:jo) (f:Bool):A6 (.agg [.bool li,.bool ru,.sl 1 (An l) f])=true:=by simp[A6,jN,Ap,E8]
theorem okU3t (li ru:Bool) (l:jo) (f:Bool) (n:Int):A6 (.jE [.agg [.bool li,.bool ru,.sl 1 (An l) f],I n])=true:=by simp[A6,jN,Ap,E8]
theorem okB (b:Bool):Aw (W.bool b) 1=true:=rfl
theorem za7 (b:Bool):Af (W.bool b) 0=.bool b:=rfl
theorem okLike (r:Bool) (l:jo) (f:Bool):Aw (EV r (.sl 1 (An l) f)) 3=true:=rfl
def Fp:W:=.agg [.bool false,.bool false,.jD]
theorem rno (c:Int):Ac (Ad (.build [.bool false,.bool false,.jD] [])) (fun z=>Ae (Aw z 3) (some (W.jE [.agg [Af z 0,Af z 1,Af z 2],.int .i64 c],())))=some (.jE [Fp,I c],()):=rfl
theorem K3 (c:Int):Ac (Ad (.build [.bool false,.bool false,.jD] [])) (fun z=>Ae (Aw z 3) (some (W.jE [.agg [Af z 0,Af z 1,Af z 2],I c],())))=some (.jE [Fp,I c],()):=rfl
def K0 (g:ja) (args:jh) (r:jI) (c:Int):Prop:=∃ y,Ax B0 .cl (.fn g []) args=some (.jE [y,I c])/\Az y r
def Pv (g:ja) (args:jh) (r:jI):Prop:=∃ y,Ax B0 .cl (.fn g []) args=some y/\Az y r
theorem WY (r:Bool):Ax B0 .cl (.fn 69 []) [.bool r]=some (I (kQ r)):=by refine Bm rfl ?_;rw[run69];cases r<;>rfl
theorem vx (r:Bool):Ax B0 .cl (.fn 67 []) [.jD,.bool r]=some (EV r .jD):=by refine Ce rfl ?_;rw[run67,Pu rfl rfl rfl rfl rfl rfl];rfl
theorem Lh (l:jo) (f r:Bool):Bd B0 .cl false 67 [.sl 1 (An l) f,.bool r]=some (EV r (.sl 1 (An l) f)):=by refine lend (d:=fun _=>.cl) rfl (by simp[Ap,jN,E8]) rfl ?_ rfl;rw[dI,dI,dW,run67,Pu rfl rfl rfl rfl rfl rfl];rfl
theorem VL (n:Int):Ax B0 .cl (.fn 65 []) [I n]=some (Mp n):=by refine Bm rfl ?_;rw[run65,Fu,QT,okU3];rfl
theorem Wz (h:a.n.length≠1):BU a=111:=by unfold BU;rw[iJ h]
theorem Xv (h:a.n.length=1) (T:a.ru=true):BU a=102:=by unfold BU;rw[iI (by simp[h]),iJ T]
theorem Xw (h:a.n=[n]) (T:a.ru=false):BU a=0/\A4 a=n:=by
 have:BU a=0:=by unfold BU;simp[h,T]
 exact⟨this,by unfold A4;simp[this,h]⟩
theorem za8:((a.n.length:Int) != 1)=decide (a.n.length≠1):=by
 by_cases h:a.n.length=1;{simp[h]}
 ·have:¬ (a.n.length:Int)=1:=by omega
  simp[h,this]
theorem bL (h:Az v a):K0 68 [v] (Gw a) (Eu a):=by
 have key:∃ y,Az y (Gw a)/\AH (AD B0 fun _=>.cl) fn68 .cl AI 0 [.cv v] ()=some (.jE [y,I (Eu a)],()):=by
  rw[run68];unfold wc wf wg wh wj wm wr;rw[BF h,cT];simp only[B5 h,Cy h,bV,(Ca h).len,iD,Cf,Am,za8];by_cases U:a.n.length=1
  case neg =>
   have e:=Wz U;have e1:Eu a=111:=by unfold Eu;rw[e];rfl
   refine⟨Fp,by unfold Gw;rw[e1];exact Bk,?_⟩;simp only[iR U,iH,e1];exact rno 111
  case pos =>
   obtain⟨n,hn⟩:=List.length_eq_one_iff.1 U;have A:=Ca h;rw[hn] at A;have hi:=idx0 A;rw[iD] at hi;simp only[U,iX,iQ,iN,dE,iG,hi,bV,C0,AS,CT,Am];cases mF:a.ru with
   | true =>
    have e1:Eu a=102:=by unfold Eu;rw[Xv U mF];rfl
    refine⟨Fp,by unfold Gw;rw[e1];exact Bk,?_⟩;simp only[iH,bV,Am,e1];exact rno 102
   | false =>
    obtain⟨f1,f2⟩:=Xw hn mF;simp only[dE,iG,bV,Am];by_cases O:n < 0
    ·have e1:Eu a=102:=by unfold Eu;rw[f1,f2,iI (by simp),iJ O]
     refine⟨Fp,by unfold Gw;rw[e1];exact Bk,?_⟩;simp only[iR O,iH,e1];exact rno 102
    ·by_cases h3:200 < n
     ·have e1:Eu a=113:=by unfold Eu;rw[f1,f2,iI (by simp),iI O,iJ h3]
      refine⟨Fp,by unfold Gw;rw[e1];exact Bk,?_⟩;simp only[iT O,iR h3,dE,iG,iH,e1];exact rno 113
     ·have e1:Eu a=0:=by unfold Eu;rw[f1,f2,iI (by simp),iI O,iI h3]
      obtain⟨N,rfl⟩:∃ N:Nat,n=N:=⟨n.toNat,by omega⟩;have hA:Gw a=⟨true,false,E0 N⟩:=by unfold Gw;rw[e1,f2];rfl
      refine⟨EV false (.sl 1 (An (E0 N)) false),by rw[hA];exact .mk _ _ _ _ (.sl _ _),?_⟩;simp only[iT O,iT h3,dE,iG,e1];rw[show AY [I N,nI 0,I 1]=true from rfl,cT];refine G7 (fun i=>([I N,I i,I ((i+1:Nat):Int),.bool false,.bool false,.jD,.sl 1 (An (E0 i)) false],())) N rfl (fun i jP=>?_) ?_;{have d:decide (((i+1:Nat):Int)<=(N:Int))=true:=iR (by omega);simp only[AW,AV,A1,Bc,BD,Cd,B9,FB,bV,Am,d,iH,Fu,cT,JE,Cl,dN,BB];rw[IA (Jv i).symm (by rw[Jv];omega),Iz (Jv i).symm,Jf,<-WP];simp only[cT,BN,bV,Cs (by omega:i+1 < 9223372036854775807)]};{have d:decide (((N+1:Nat):Int)<=(N:Int))=false:=iT (by omega);simp only[AW,AV,A1,Bc,BD,Cd,B9,FB,bV,Am,d,dE,iG,Cl,dN,BB];rw[II (Jv N).symm,Lh];rfl}
 obtain⟨y,U,O⟩:=key;exact⟨y,El (by simp[Ap,h.ok]) O,U⟩
def rv (i:Nat) (l:jo):jo:=l.reverse.take i++l.drop i
theorem rv_len (i:Nat) (l:jo) (h:i<=l.length):(rv i l).length=l.length:=by simp[rv];omega
theorem rv_set (h:i < l.length):(rv i l).set i (l[l.length - 1 - i]'(by omega))=rv (i+1) l:=by
 have T:i < l.reverse.length:=by simpa using h
 have e:l.reverse[i]=l[l.length - 1 - i]'(by omega):=List.getElem_reverse T;unfold rv;rw[GH h,List.take_succ_eq_append_getElem T,List.set_append_right _ _ (by simp;omega),e];have:i - (List.take i l.reverse).length=0:=by simp;omega
 rw[this,List.set_cons_zero];simp
theorem rv_all (l:jo):rv l.length l=l.reverse:=by have:l.reverse.take l.length=l.reverse:=dV (by simp);simp[rv,this]
theorem rcells (h:Az y a):W.agg [Af y 0,Af y 1,Af y 2]=y:=by obtain⟨x,rfl,A⟩:=h.get;rfl
theorem L7 (h:Az y a) (c:W):Ae (Aw y 3) (some (W.jE [.agg [Af y 0,Af y 1,Af y 2],c],()))=some (.jE [y,c],()):=by rw[Cq h,cT,rcells h]
theorem za3 (g:ji) (h:Az v a) (hl:a.n.length<=400000):K0 40 [.str g,v] (lI g a) (lO g a):=by
 have key:∃ y,Az y (lI g a)/\AH (AD B0 fun _=>.cl) fn40 .cl AI 0 [.cv (.str g),.cv v] ()=some (.jE [y,I (lO g a)],()):=by
  rw[run40];unfold wa wb wc wd we wf wg wh wi wj wl wr ws wv;rw[BF h,cT];simp only[Cj h,B5 h,bV,kI h (by omega),BH,Am];unfold lO lI;cases T:a.right with
  | false =>
   exact⟨Fp,Bk,rno 114⟩
  | true =>
   have lz:Ay (Ah (An a.n)) 2147483648=true:=by simp[BA];omega
   simp only[dK,dE,iG,(Ca h).elems,bV,lz,cT];simp only[show ([226,141,180]:ji)=gR from rfl,show ([226,141,179]:ji)=gI from rfl,show ([44]:ji)=gC from rfl,show ([226,140,189]:ji)=gT from rfl,show ([226,134,145]:ji)=gU from rfl,show ([226,137,162]:ji)=gN from rfl];by_cases U:g=gR
   ·subst U;simp only[Ek,bV,Am,iH,EU h,BH,vx,(Ca h).len,Fu,cT,QT,Lh];unfold Ny;cases a.li with
    | false=>exact⟨EV false .jD,.mk _ _ _ _ .nil,rfl⟩
    | true=>exact⟨EV false (.sl 1 (An [(a.n.length:Int)]) false),.mk _ _ _ _ (.sl _ _),rfl⟩
   simp only[CA U,U,bV,Am,dE,iG];by_cases O:g=gI;{subst O;obtain⟨y,c1,c2⟩:=bL h;refine⟨y,by simpa using c2,?_⟩;simp only[Ek,bV,Am,iH,c1,BS,dP,dR,L7 c2,gf,iG]};simp only[CA O,O,bV,Am,dE,iG];by_cases h3:g=gC;{subst h3;refine⟨EV a.ru (.sl 1 (An a.n) false),.mk _ _ _ _ (.sl _ _),?_⟩;simp only[Ek,bV,Am,iH,Cy h,Ko,Lh];rfl};simp only[CA h3,h3,bV,Am,dE,iG];by_cases h4:g=gT
   ·subst h4;refine⟨.agg [.bool a.li,.bool a.ru,.sl 1 (An a.n.reverse) false],.mk _ _ _ _ (.sl _ _),?_⟩;simp only[Ek,bV,Am,iH];rw[show AY [nI (Ah (An a.n)),W.int .i64 0]=true from rfl,cT];refine G7 (fun i=>([I a.n.length,I i,v,.bool false,.bool false,.jD,.sl 1 (An (rv i a.n)) false],())) a.n.length (by simp[rv,BA,I]) (fun i jP=>?_) ?_
    ·have d:decide ((i:Int) < (a.n.length:Int))=true:=iR (by omega);have w1:IntKind.i64.wrap ((a.n.length:Int) - 1)=((a.n.length - 1:Nat):Int):=by rw[Dc (by omega) (by omega)];omega
     have w2:IntKind.i64.wrap (((a.n.length - 1:Nat):Int) - (i:Int))=((a.n.length - 1 - i:Nat):Int):=by rw[Dc (by omega) (by omega)];omega
     simp only[AW,AV,A1,Bc,BD,Cd,B9,Cl,dN,Cp,iD,AS,bV,Am,d,iH,B5 h,GV,w1,w2,(Ca h).idx (by omega:a.n.length - 1 - i < a.n.length),C0,nW,zk,iR jP,cT,BB];rw[Od (by rw[rv_len _ _ (by omega)];exact jP),rv_set jP];simp only[bV,BN,Cs (by omega:i < 9223372036854775807)]
    ·have d:decide ((a.n.length:Int) < (a.n.length:Int))=false:=by simp
     simp only[AW,AV,A1,Bc,BD,Cd,B9,Cl,dN,Cp,iD,AS,bV,Am,d,dE,iG,EU h,Cy h,okB,za7,cT,BB,rv_all];rw[II (by simp),okU3t];rfl
   simp only[CA h4,h4,bV,Am,dE,iG];by_cases h5:g=gU
   ·subst h5;refine⟨.agg [.bool false,.bool a.ru,.sl 1 (An ((a.n++[kQ a.ru]).take 1)) false],.mk _ _ _ _ (.sl _ _),?_⟩;have e4:∀ n k,1<=k->Ev (some (.int .i64 1)) n k=some 1:=by intro n k hk;simp[Ev,C9,DL,AN,hk]
    by_cases hz:a.n.length=0;{have hn:=fK.1 hz;simp only[Ek,bV,Am,iH,hn,Cy h,WY,Fu,cT,JE,show Ad (.bin .eql .num true (.c (nI (Ah (An [])))) (.c (.int .i64 0)))=some (.bool true) from rfl];cases a.ru<;>rfl}
    ·have jW:((a.n.length:Int)==0)=false:=by simp;intro hq;exact hz (by rw[hq];rfl)
     simp only[Ek,bV,Am,iH,JF,BA,Cp,iD,Da,jW,dE,iG,Cy h,Tl];rw[<-iD,e4 _ _ (by omega)];simp only[bV,okB,za7,cT];rw[Oy _ (by omega),okU3t];have:(a.n++[kQ a.ru]).take 1=a.n.take 1:=gk (by omega);rw[this];rfl
   simp only[CA h5,h5,bV,Am,dE,iG];by_cases h6:g=gN;{subst h6;refine⟨Mp a.n.length,Rg _,?_⟩;simp only[Ek,bV,Am,iH,JF,BA,Cp,iD,VL];rfl};simp only[CA h6,h6,bV,Am,dE,iG];exact⟨Fp,Bk,rno 102⟩
 obtain⟨y,U,O⟩:=key;exact⟨y,El (by simp[Ap,jN,h.ok]) O,U⟩
end Go.Ab.jF.Sh


set_option maxRecDepth 20000
namespace Go.Ab.jF.Sh
open Go Go.Ab Go.Ab.jF
variable{b:jI} {i:Nat} {l:jo} {n:Int} {v:W}
theorem za9 (h:Az v b) (hb:b.n.length<=400000) (N:Nat) (hN:N<=200) (h0:0 < N->0 < b.n.length):Pv 90 [I N,v] ⟨true,b.ru,GZ b N⟩:=by
 refine⟨EV b.ru (.sl 1 (An (GZ b N)) false),?_,.mk _ _ _ _ (.sl _ _)⟩;refine Ce (by simp[Ap,h.ok]) ?_;rw[run90];unfold wc wf wg wh wj wo wr;rw[BF h,cT,show AY [I N,nI 0,W.int .i64 0]=true from rfl,cT];refine G7 (fun i=>([I N,I i,I i,v,.bool false,.bool false,.jD,.sl 1 (An (GZ b i)) false],())) N rfl (fun i jP=>?_) ?_
 ·have hk:i%b.n.length < b.n.length:=gn _ (h0 (by omega));have d:decide ((i:Int) < (N:Int))=true:=iR (by omega);have r1:Ad (.bin .rem .num false (.c (I i)) (.c (I b.n.length)))=some (I ((i%b.n.length:Nat):Int)):=by rw[<-iD,<-iD,Jx _ _ (by omega),Int.tmod_eq_emod_of_nonneg (by omega)];rfl
  have e:b.n[i%b.n.length]=b.n.getD (i%b.n.length) 0:=by rw[dO,dQ hk];rfl
  simp only[AW,AV,A1,Bc,BD,Cd,B9,Cm,AS,bV,Am,d,iH,B5 h,(Ca h).len,r1,(Ca h).idx hk,C0,Fu,cT,JE,Cl,dN,BB];rw[IA (JJ b i).symm (by rw[JJ];omega),Iz (JJ b i).symm,Jf,e,<-Yx];simp only[cT,iD,BN,bV,Cs (by omega:i < 9223372036854775807)]
 ·have d:decide ((N:Int) < (N:Int))=false:=by simp
  simp only[AW,AV,A1,Bc,BD,Cd,B9,Cm,AS,bV,Am,d,dE,iG,Cl,dN,BB,Cy h];rw[II (JJ b N).symm,Lh];rfl
theorem zba (hi:i < l.length) (hs:l.length<=1000000) :
  ∃ j:Nat,j < l.length/\(ll n l)[i]?=l[j]?/\IntKind.i64.wrap (n.tmod l.length+i)=n.tmod l.length+i/\IntKind.i64.wrap ((n.tmod l.length+i).tmod l.length+l.length)=(n.tmod l.length+i).tmod l.length+l.length/\((n.tmod l.length+i).tmod l.length+l.length).tmod l.length=(j:Int):=by
 have hk:0 < l.length:=by omega
 have O:=iy n (show (0:Int) < (l.length:Int) by omega);have U : -(l.length:Int) < n.tmod l.length:=by have:=iy (-n) (show (0:Int) < (l.length:Int) by omega);rw[Int.neg_tmod] at this;omega
 have hw:IntKind.i64.wrap (n.tmod l.length+i)=n.tmod l.length+i:=Dc (by omega) (by omega);obtain⟨w1,w2⟩:=XN (n:=n.tmod l.length+i) hk hs;have hj:=N9 (n:=n.tmod l.length+i) hk;have ht:=N9 (n:=n) hk;refine⟨GL (n.tmod l.length+i) l.length,hj,?_,hw,w1,w2⟩
 have em:(n.tmod l.length+i)%(l.length:Int)=(n%(l.length:Int)+i)%(l.length:Int):=by
  have e:=Int.tmod_add_mul_tdiv n l.length;have:n.tmod l.length+i=(n+i)+l.length*(-(n.tdiv l.length)):=by rw[Int.mul_neg];omega
  rw[this,Int.add_mul_emod_self_left,Int.emod_add_emod]
 have t0:=Int.emod_nonneg n (show (l.length:Int)≠0 by omega)
 have e2:GL (n.tmod l.length+i) l.length=(GL n l.length+i)%l.length:=by
  unfold GL;rw[em];have:(n%(l.length:Int)+(i:Int))=(((n%(l.length:Int)).toNat+i:Nat):Int):=by omega
  rw[this,<-Int.natCast_emod];exact dN _
 rw[e2];unfold ll;by_cases hc:GL n l.length+i < l.length;{rw[gP hc,fu (by simp;omega),gx]}
 ·have:(GL n l.length+i)%l.length=GL n l.length+i - l.length:=by rw[Nat.mod_eq_sub_mod (by omega),gP (by omega)]
  rw[this,fN (by simp;omega),gj (by simp;omega)];congr 1;simp;omega
theorem QP (n:Int) (l:jo):(ll n l).length=l.length:=by
 rcases gL l.length with h | h;{have:=fK.1 h;subst this;simp[ll]}
 {have:=N9 (n:=n) h;simp[ll];omega}
theorem rrotate (h:Az v b) (hb:b.n.length<=400000) (n:Int):Pv 91 [I n,v] ⟨b.li,b.ru,if b.n.length=0 then [] else ll n b.n⟩:=by
 have e0:(if b.n.length=0 then [] else ll n b.n)=ll n b.n:=by split;{rename_i hz;have:=fK.1 hz;rw[this];simp[ll]};{rfl}
 rw[e0];refine⟨.agg [.bool b.li,.bool b.ru,.sl 1 (An (ll n b.n)) false],?_,.mk _ _ _ _ (.sl _ _)⟩;refine Ce (by simp[Ap,h.ok]) ?_;rw[run91];unfold wc we wf wg wh wj wo wp wr;rw[BF h,cT];simp only[B5 h,bV,(Ca h).len];rw[show AY [I n,nI 0,I b.n.length,W.int .i64 0]=true from rfl,cT];refine G7 (fun i=>([I n,I i,I b.n.length,I i,v,.bool false,.bool false,.jD,.sl 1 (An ((ll n b.n).take i)) false],())) b.n.length rfl (fun i jP=>?_) ?_
 ·have d:decide ((i:Int) < (b.n.length:Int))=true:=iR (by omega);obtain⟨j,hj,hg,w1,w2,w3⟩:=zba (n:=n) jP (by omega);have rem:∀ x:Int,Ad (.bin .rem .num false (.c (I x)) (.c (I b.n.length)))=some (I (x.tmod b.n.length)):=fun x=>by rw[<-iD,<-iD,Jx _ _ (by omega)];rfl
  have hl:((ll n b.n).take i).length=i:=by rw[eV,QP];omega
  have hti:i < (ll n b.n).length:=by rw[QP];exact jP
  have hv:b.n[j]=(ll n b.n)[i]:=by rw[dQ hti,dQ hj] at hg;exact (fy hg).symm
  simp only[AW,AV,A1,Bc,BD,Cd,B9,Cm,CS,AS,bV,Am,d,iH,B5 h,rem,BN,w1,w2,w3,(Ca h).idx hj,C0,Fu,cT,JE,Cl,dN,BB];rw[IA hl.symm (by omega),Iz hl.symm,Jf,hv,<-Iu hti];simp only[cT,iD,BN,bV,Cs (by omega:i < 9223372036854775807)]
 ·have d:decide ((b.n.length:Int) < (b.n.length:Int))=false:=by simp
  have ht:(ll n b.n).take b.n.length=ll n b.n:=dV (by rw[QP];omega);simp only[AW,AV,A1,Bc,BD,Cd,B9,Cm,CS,AS,bV,Am,d,dE,iG,Cl,dN,BB,EU h,Cy h,okB,za7,cT,ht];rw[II (QP n b.n).symm,okU3];rfl
theorem YL (b:jI) (f:Int) (k:Nat):((List.range (k+1)).map fun j=>pk b f j)=((List.range k).map fun j=>pk b f j)++[pk b f k]:=by simp[List.range_succ]
theorem LH (b:jI) (f:Int) (k:Nat):((List.range k).map fun j=>pk b f j).length=k:=by simp
theorem We (h:Az v b) (hb:b.n.length<=400000) (f:Int) (hf : -1000000<=f/\f<=1000000) (k:Nat) (hk:k<=200) :
  Be (fun a=>Ac (Ad (.bin .add .num false (.c (J a.1 2)) (.c (J a.1 0)))) fun e=>Ac (Ad (.bin .lss .num false (.c (J a.1 3)) (.c e))) fun e=>Ai e (Ac (Ac (Ad (.bin .lss .num true (.c (J a.1 3)) (.c (.int .i64 0)))) fun e=>Ai e (some (W.bool true)) (Ac (A3 (J a.1 4) 2 1 false) fun e=>Ac (Ad (.len .slice (.c e))) fun e=>Ac (Ad (.bin .geq .num false (.c (J a.1 3)) (.c e))) fun a=>some a)) fun e=>Ai e (Ac (A3 (J a.1 4) 1 1 false) fun e=>Ac (Ax B0 .cl (.fn 69 []) [e]) fun e=>Ae (AX 1 [e]) (Ae (Ay (As 0 (Ah [e])) (Ah [e])) (Ae (Bb (Ay (Aj (J a.1 1)) (Ah (Ao (J a.1 8)))) (Ay (As (Aj (J a.1 1)) (Ah (Aq (Ah [e]) (AE 0 [e])))) 2147483648)) (Ac (Ad (.bin .add .num true (.c (J a.1 3)) (.c (.int .i64 1)))) fun g=>some (.inl ([J a.1 0,nI (As (Aj (J a.1 1)) (Ah (Aq (Ah [e]) (AE 0 [e])))),J a.1 2,g,J a.1 4,J a.1 5,J a.1 6,J a.1 7,.sl 1 (A5 (Aq (Aj (J a.1 1)) (Ao (J a.1 8))) (Aq (Ah [e]) (AE 0 [e]))) false],a.2)))))) (Ac (A3 (J a.1 4) 2 1 false) fun e=>Ac (Ad (.jJ 1 (.c e) (.c (J a.1 3)))) fun e=>Ac (Ad (.load 1 false (.c e))) fun e=>Ae (AX 1 [e]) (Ae (Ay (As 0 (Ah [e])) (Ah [e])) (Ae (Bb (Ay (Aj (J a.1 1)) (Ah (Ao (J a.1 8)))) (Ay (As (Aj (J a.1 1)) (Ah (Aq (Ah [e]) (AE 0 [e])))) 2147483648)) (Ac (Ad (.bin .add .num true (.c (J a.1 3)) (.c (.int .i64 1)))) fun g=>some (.inl ([J a.1 0,nI (As (Aj (J a.1 1)) (Ah (Aq (Ah [e]) (AE 0 [e])))),J a.1 2,g,J a.1 4,J a.1 5,J a.1 6,J a.1 7,.sl 1 (A5 (Aq (Aj (J a.1 1)) (Ao (J a.1 8))) (Aq (Ah [e]) (AE 0 [e]))) false],a.2))))))) (Ac (Ac (A3 (J a.1 4) 1 1 false) fun e=>Ac (Bd B0 .cl false 67 [AB 1 1 (Ao (J a.1 8)) 0 (Aj (J a.1 1)),e]) fun e=>Ae (Aw e 3) (some (W.agg [Af e 0,Af e 1,Af e 2],a.2))) fun a=>some (.inr a))) (([I k,nI 0,I f,I f,v,.bool false,.bool false,.jD,.sl 1 [] false],()):jh×Unit)=some (EV b.ru (.sl 1 (An ((List.range k).map fun j=>pk b f j)) false),()):=by
 refine G7 (fun i=>([I k,I i,I f,I (f+i),v,.bool false,.bool false,.jD,.sl 1 (An ((List.range i).map fun j=>pk b f j)) false],())) k (by simp[An,I]) (fun i jP=>?_) ?_
 ·have w1:IntKind.i64.wrap (f+k)=f+k:=Dc (by omega) (by omega);have w2:IntKind.i64.wrap (f+i+1)=f+(i+1:Nat):=by rw[Dc (by omega) (by omega)];omega
  have d:decide (f+i < f+k)=true:=iR (by omega);simp only[AW,AV,A1,Bc,BD,Cd,B9,Cm,CS,iD,BN,w1,AS,bV,Am,d,iH,Cy h,B5 h,(Ca h).len,Ef];by_cases nb:0<=f+i/\f+i < b.n.length
  ·have d1:decide (f+i < 0)=false:=iT (by omega);have d2:decide ((b.n.length:Int)<=f+i)=false:=iT (by omega);obtain⟨j,hj⟩:∃ j:Nat,f+i=j:=⟨(f+i).toNat,by omega⟩;have hj2:j < b.n.length:=by omega
   have ei:pk b f i=b.n[j]:=by unfold pk;rw[iJ nb,hj,dO,dN,dQ hj2];rfl
   have hix:=(Ca h).idx hj2;rw[<-hj] at hix;simp only[d1,d2,dE,iG,bV,Am,hix,C0,Fu,cT,JE,Cl,dN,BB];rw[IA (LH b f i).symm (by rw[LH];omega),Iz (LH b f i).symm,Jf,<-ei,<-YL];simp only[cT,w2,bV]
  ·have e1:(if decide (f+i < 0)=true then some (W.bool true) else some (W.bool (decide ((b.n.length:Int)<=f+i))))=some (.bool true):=by
    by_cases q:f+i < 0;{simp[q]}
    ·have:(b.n.length:Int)<=f+i:=by omega
     simp[q,this]
   have ei:pk b f i=kQ b.ru:=by unfold pk;rw[iI nb]
   simp only[e1,bV,Am,iH,WY,Fu,cT,JE,Cl,dN,BB];rw[IA (LH b f i).symm (by rw[LH];omega),Iz (LH b f i).symm,Jf,<-ei,<-YL];simp only[cT,w2,bV]
 ·have w1:IntKind.i64.wrap (f+k)=f+k:=Dc (by omega) (by omega);have d:decide (f+k < f+k)=false:=by simp
  simp only[AW,AV,A1,Bc,BD,Cd,B9,Cm,CS,iD,BN,w1,AS,bV,Am,d,dE,iG,Cl,dN,BB,Cy h];rw[II (LH b f k).symm,Lh];rfl
theorem rtake (h:Az v b) (hb:b.n.length<=400000) (n:Int) (hn : -200<=n/\n<=200):Pv 92 [I n,v] ⟨true,b.ru,H5 b n⟩:=by
 refine⟨EV b.ru (.sl 1 (An (H5 b n)) false),?_,.mk _ _ _ _ (.sl _ _)⟩;refine Ce (by simp[Ap,h.ok]) ?_;rw[run92];unfold wc wf wg wh wj wm wo wp wr wv;rw[BF h,cT];simp only[iD,AS,bV,Am,B5 h,(Ca h).len,BN,negI];by_cases U:n < 0
 ·have w1:IntKind.i64.wrap ((b.n.length:Int)+n)=(b.n.length:Int)+n:=Dc (by omega) (by omega);obtain⟨k,hk⟩:∃ k:Nat,0 - n=k:=⟨(0 - n).toNat,by omega⟩;have w2:IntKind.i64.wrap (0 - n)=k:=by rw[Dc (by omega) (by omega)];exact hk
  rw[iR U,iJ rfl,w1,w2];rw[show AY [I k,nI 0,I ((b.n.length:Int)+n),I ((b.n.length:Int)+n)]=true from rfl,cT];have:=We h hb ((b.n.length:Int)+n) (by omega) k (by omega)
  have e:H5 b n=(List.range k).map fun j=>pk b ((b.n.length:Int)+n) j:=by
   unfold H5 FD tkF;rw[iJ U,iJ U];have:(-n).toNat=k:=by omega
   rw[this]
  rw[e];exact this
 ·obtain⟨k,rfl⟩:∃ k:Nat,n=k:=⟨n.toNat,by omega⟩;rw[iT U,iI (by simp)];rw[show AY [I k,nI 0,I 0,I 0]=true from rfl,cT];have:=We h hb 0 (by omega) k (by omega);have e:H5 b k=(List.range k).map fun j=>pk b 0 j:=by unfold H5 FD tkF;rw[iI U,iI U,dN]
  rw[e];exact this
def GE (n:Int) (l:jo) (i:Nat):jo:=if 0<=n then (l.take i).drop n.toNat else (l.take i).take ((l.length:Int)+n).toNat
theorem lft_0 (n:Int) (l:jo):GE n l 0=[]:=by unfold GE;split<;>simp
theorem lft_all:GE n l l.length=lW n l:=by
 unfold GE lW;rw[fM];split
 ·rename_i h;by_cases q:n<=l.length
  ·have:(min n (l.length:Int)).toNat=n.toNat:=by omega
   rw[this]
  ·have:(min n (l.length:Int)).toNat=l.length:=by omega
   rw[this,gg,eP (by omega)]
 ·rename_i h;have:(max ((l.length:Int)+max n (-(l.length:Int))) 0).toNat=((l.length:Int)+n).toNat:=by omega
  rw[this]
theorem zbb (hi:i < l.length) (h:0<=n/\n<=i\/n < 0/\(i:Int) - l.length < n):GE n l (i+1)=GE n l i++[l[i]]:=by
 unfold GE;rw[Iu hi];rcases h with ⟨U,O⟩ | ⟨U,O⟩;{rw[iJ U,iJ U,iA (by simp;omega)]}
 ·rw[iI (by omega),iI (by omega)];have:(l.take i).length=i:=by simp;omega
  have e1:(l.take i++[l[i]]).take ((l.length:Int)+n).toNat=l.take i++[l[i]]:=dV (by simp;omega);have e2:(l.take i).take ((l.length:Int)+n).toNat=l.take i:=dV (by omega);rw[e1,e2]
theorem lft_out (hi:i < l.length) (h:¬ (0<=n/\n<=i\/n < 0/\(i:Int) - l.length < n)):GE n l (i+1)=GE n l i:=by unfold GE;rw[Iu hi];by_cases U:0<=n;{rw[iJ U,iJ U,eP (by simp;omega),eP (by simp;omega)]};{rw[iI U,iI U,gk (by simp;omega)]}
theorem lft_len (n:Int) (l:jo) (i:Nat):(GE n l i).length<=l.length:=by unfold GE;split<;>simp<;>omega
theorem rdrop (h:Az v b) (hb:b.n.length<=400000) (n:Int):Pv 93 [I n,v] ⟨true,b.ru,lW n b.n⟩:=by
 refine⟨EV b.ru (.sl 1 (An (lW n b.n)) false),?_,.mk _ _ _ _ (.sl _ _)⟩;refine Ce (by simp[Ap,h.ok]) ?_;rw[run93];unfold wc wf wg wh wj wm wo wr;rw[BF h,cT];simp only[B5 h,bV,(Ca h).len];rw[show AY [I n,nI 0,I b.n.length,W.int .i64 0]=true from rfl,cT];refine G7 (fun i=>([I n,I (GE n b.n i).length,I b.n.length,I i,v,.bool false,.bool false,.jD,.sl 1 (An (GE n b.n i)) false],())) b.n.length (by simp[lft_0,An,I]) (fun i jP=>?_) ?_
 ·have d:decide ((i:Int) < (b.n.length:Int))=true:=iR (by omega);have w1:IntKind.i64.wrap ((i:Int) - b.n.length)=(i:Int) - b.n.length:=Dc (by omega) (by omega);have hll:=lft_len n b.n i;simp only[AW,AV,A1,Bc,BD,Cd,B9,Cm,CS,iD,AS,Ef,GV,w1,bV,Am,d,iH,B5 h];by_cases nb:0<=n/\n<=i\/n < 0/\(i:Int) - b.n.length < n
  ·have e:(if decide (0<=n)=true then (if decide (n<=(i:Int))=true then some (W.bool true) else if decide (n < 0)=true then some (.bool (decide ((i:Int) - b.n.length < n))) else some (.bool false)) else if decide (n < 0)=true then some (.bool (decide ((i:Int) - b.n.length < n))) else some (.bool false))=some (.bool true):=by
    rcases nb with ⟨q1,q2⟩ | ⟨q1,q2⟩;{simp[q1,q2]}
    ·have:¬ 0<=n:=by omega
     simp[q1,q2,this]
   simp only[e,bV,Am,iH,(Ca h).idx jP,C0,Fu,cT,JE,Cl,dN,BB];rw[IA rfl (by omega),Iz rfl,Jf,<-zbb jP nb];have hl:(GE n b.n i).length+1=(GE n b.n (i+1)).length:=by rw[zbb jP nb];simp
   rw[hl];simp only[cT,BN,bV,Cs (by omega:i < 9223372036854775807)]
  ·have e:(if decide (0<=n)=true then (if decide (n<=(i:Int))=true then some (W.bool true) else if decide (n < 0)=true then some (.bool (decide ((i:Int) - b.n.length < n))) else some (.bool false)) else if decide (n < 0)=true then some (.bool (decide ((i:Int) - b.n.length < n))) else some (.bool false))=some (.bool false):=by
    by_cases q1:0<=n
    ·have q2:¬ n<=i:=fun q=>nb (.inl ⟨q1,q⟩);have q3:¬ n < 0:=by omega
     simp[q1,q2,q3]
    ·have q2:n < 0:=by omega
     have q3:¬ (i:Int) - b.n.length < n:=fun q=>nb (.inr ⟨q2,q⟩);simp[q1,q2,q3]
   simp only[e,bV,Am,dE,iG,Cl,dN,BB,Cp,iD,BN,Cs (by omega:i < 9223372036854775807),lft_out jP nb]
 ·have d:decide ((b.n.length:Int) < (b.n.length:Int))=false:=by simp
  simp only[AW,AV,A1,Bc,BD,Cd,B9,Cm,CS,AS,bV,Am,d,dE,iG,Cl,dN,BB,Cy h];rw[II rfl,Lh,lft_all];rfl
end Go.Ab.jF.Sh


set_option maxRecDepth 20000
namespace Go.Ab.jF.Sh
open Go Go.Ab Go.Ab.jF
variable{a b:jI} {g:ji} {n:Int} {u v y:W}
theorem vy (p:Int->Bool):∀ (l:jo) (k:Nat),(CW p k l = -1/\∀ (i:Nat) (m:Int),l[i]?=some m->p m=false)\/∃ (j:Nat) (m:Int),l[j]?=some m/\p m=true/\CW p k l=((k+j:Nat):Int)/\∀ i:Nat,i < j->∀ m:Int,l[i]?=some m->p m=false:=by
 intro l;induction l with
 | nil=>intro k;exact .inl ⟨rfl,fun i m h=>by simp at h⟩
 | cons x l ih =>
  intro k;by_cases A:p x=true;{exact .inr ⟨0,x,rfl,A,by simp[CW,A],fun i h=>by omega⟩}
  ·rw[gY] at A;rcases ih (k+1) with ⟨U,O⟩ | ⟨j,m,U,O,h3,h4⟩
   ·refine .inl ⟨by simp[CW,A,U],fun i m h=>?_⟩;cases i with
    | zero=>simp at h;subst h;exact A
    | succ i=>exact O i m (by simpa using h)
   ·refine .inr ⟨j+1,m,by simpa using U,O,?_,fun i hi m h=>?_⟩;{simp only[CW,A,dE,iG,h3];congr 1;omega}
    ·cases i with
     | zero=>simp at h;subst h;exact A
     | succ i=>exact h4 i (by omega) m (by simpa using h)
theorem cm (a b:jI) (n:Int):∃ K:Nat,K<=a.n.length/\ky a b n=((K+1:Nat):Int)/\(∀ (j:Nat) (m:Int),j < K->a.n[j]?=some m->(m != n)=true\/(a.ru==b.ru)=false)/\(∀ m:Int,a.n[K]?=some m->(m != n)=false/\(a.ru==b.ru)=true):=by
 by_cases T:a.ru=b.ru
 ·rcases vy (fun x=>n==x) a.n 0 with ⟨U,O⟩ | ⟨j,m,U,O,h3,h4⟩
  {refine⟨a.n.length,dH _,by unfold ky;rw[iJ (.inl (by rw[U];omega))];omega,fun j m _ hj=>.inl ?_,fun m hm=>by simp at hm⟩;have:=O j m hj;simp only[i6,iX] at this;simp;intro q;exact this q.symm}
  ·have hjl:j < a.n.length:=(dU.1 U).1;refine⟨j,by omega,?_,fun i m' hi hm=>.inl ?_,fun m' hm=>?_⟩;{unfold ky;rw[iI (by rw[h3];exact fun q=>q.elim (fun q=>by omega) fun q=>q T),h3];omega};{have:=h4 i hi m' hm;simp only[i6,iX] at this;simp;intro q;exact this q.symm}
   ·rw[U] at hm;obtain rfl:=fy hm;have:n=m:=by simpa using O
    subst this;simp[T]
 {refine⟨a.n.length,dH _,by unfold ky;rw[iJ (.inr T)];omega,fun j m _ hj=>.inr (by simpa using T),fun m hm=>by simp at hm⟩}
theorem YH (c:Nat):I ((As c (Ah (Aq (Ah [I n]) (AE 0 [I n]))):Nat):Int)=I ((c+1:Nat):Int):=Jf c
theorem rindex (hv:Az v a) (hu:Az u b) (ha:a.n.length<=400000) (hb:b.n.length<=400000):Pv 63 [v,u] ⟨b.li,false,b.n.map (ky a b)⟩:=by
 refine⟨.agg [.bool b.li,.bool false,.sl 1 (An (b.n.map (ky a b))) false],?_,.mk _ _ _ _ (.sl _ _)⟩;refine Ce (by simp[Ap,hv.ok,hu.ok]) ?_;rw[run63];unfold wc we wf wg wh wj wo wr wt;rw[BF hv,BF hu,cT,cT];simp only[EU hu,bV];rw[show Ad (.build [.bool false,.bool false,.jD] [(0,(1,.c (.bool b.li)))])=some (.agg [.bool b.li,.bool false,.jD]) from rfl];simp only[bV,Jz (a:=.bool b.li) (b:=.bool false) (c:=.jD) rfl,cT,HA,Hz,Ha,CU];rw[show AY [W.int .i64 0]=true from rfl,cT];refine G7 (fun i=>([I i,v,u,.bool false,.bool false,.jD,.bool b.li,.bool false,I i,.sl 1 (An ((b.n.take i).map (ky a b))) false],())) b.n.length rfl (fun i jP=>?_) ?_
 ·have d:decide ((i:Int) < (b.n.length:Int))=true:=iR (by omega);simp only[AW,AV,A1,Bc,BD,Cd,B9,Cm,CS,Ff,AS,bV,Am,d,iH,B5 hu,(Ca hu).len,Cl,dN,BB,Cp,iD];rw[show AY [I i,I 0]=true from rfl,cT];obtain⟨K,k1,k2,k3,k4⟩:=cm a b b.n[i];have w7:((b.n.take i).map (ky a b)).length=i:=by simp;omega
  have hfin:((b.n.take i).map (ky a b))++[ky a b b.n[i]]=(b.n.take (i+1)).map (ky a b):=by rw[Iu jP,fk];rfl
  refine G7 (fun j=>([I i,I j,v,u,.bool false,.bool false,.jD,.bool b.li,.bool false,I i,.sl 1 (An ((b.n.take i).map (ky a b))) false],())) K rfl (fun j hj=>?_) ?_
  ·have hja:j < a.n.length:=by omega
   have d1:decide ((j:Int) < (a.n.length:Int))=true:=iR (by omega);simp only[AW,AV,A1,Bc,BD,Cd,B9,Cm,CS,Ff,HH,AS,bV,Am,d1,iH,B5 hv,B5 hu,Cy hv,Cy hu,(Ca hv).len,(Ca hv).idx hja,(Ca hu).idx jP,C0,Cf,Hy,Cl,dN,BB,Cp,iD,BN,Cs (by omega:j < 9223372036854775807)];rcases k3 j _ hj (dQ hja) with q | q;{simp only[q,iH]}
   {simp only[q,d8,iH];split<;>rfl}
  ·by_cases hK:K < a.n.length
   {have d1:decide ((K:Int) < (a.n.length:Int))=true:=iR (by omega);obtain⟨q1,q2⟩:=k4 _ (dQ hK);simp only[AW,AV,A1,Bc,BD,Cd,B9,Cm,CS,Ff,HH,AS,bV,Am,d1,iH,B5 hv,B5 hu,Cy hv,Cy hu,(Ca hv).len,(Ca hv).idx hK,(Ca hu).idx jP,C0,Cf,Hy,Cl,dN,BB,Cp,iD,BN,q1,q2,dE,iG,dK,Cs (by omega:K < 9223372036854775807),Fu,cT,JE];rw[IA w7.symm (by omega),Iz w7.symm,YH,<-k2,hfin];simp only[cT,bV,Cs (by omega:i < 9223372036854775807)]}
   ·have hKe:K=a.n.length:=by omega
    have d1:decide ((K:Int) < (a.n.length:Int))=false:=iT (by omega);simp only[AW,AV,A1,Bc,BD,Cd,B9,Cm,CS,Ff,HH,AS,bV,Am,d1,B5 hv,B5 hu,(Ca hv).len,Cl,dN,BB,Cp,iD,BN,dE,iG,Cs (by omega:K < 9223372036854775807),Fu,cT,JE];rw[IA w7.symm (by omega),Iz w7.symm,YH,<-k2,hfin];simp only[cT,bV,Cs (by omega:i < 9223372036854775807)]
 ·have d:decide ((b.n.length:Int) < (b.n.length:Int))=false:=by simp
  simp only[AW,AV,A1,Bc,BD,Cd,B9,Cm,CS,Ff,AS,bV,Am,d,dE,iG,B5 hu,(Ca hu).len,Cl,dN,BB,fM];rw[II (by simp),okU3];rfl
theorem rjoin (hv:Az v a) (hu:Az u b) (ha:a.n.length<=400000) (hb:b.n.length<=400000):K0 64 [v,u] (mm a b) (FO a b):=by
 have e1:∀ l:jo,decide ((0:Int) < (l.length:Int))=decide (0 < l.length):=by intro l;rw[fe,iS,iS];omega
 have e2:decide ((200:Int) < (a.n.length:Int)+(b.n.length:Int))=decide (200 < a.n.length+b.n.length):=by rw[fe,iS,iS];omega
 have w:IntKind.i64.wrap ((a.n.length:Int)+(b.n.length:Int))=(a.n.length:Int)+(b.n.length:Int):=Dc (by omega) (by omega)
 have key:∃ y,Az y (mm a b)/\AH (AD B0 fun _=>.cl) fn64 .cl AI 0 [.cv v,.cv u] ()=some (.jE [y,I (FO a b)],()):=by
  rw[run64];unfold wc wf wg wp;rw[BF hv,BF hu,cT,cT];simp only[B5 hv,B5 hu,Cy hv,Cy hu,bV,(Ca hv).len,(Ca hu).len,iD,CT,Am,e1,Hy,BN,w,e2];by_cases U:0 < a.n.length/\0 < b.n.length/\a.ru≠b.ru
  ·have ej:FO a b=102:=by unfold FO;rw[iJ U]
   refine⟨Fp,by unfold mm;rw[ej];exact Bk,?_⟩;obtain⟨q1,q2,q3⟩:=U;have:(a.ru==b.ru)=false:=by simpa using q3
   simp only[q1,q2,this,iM,iH,bV,Am,d8,ej];exact K3 102
  ·have c1:(if decide (0 < a.n.length)=true then (if decide (0 < b.n.length)=true then some (W.bool (!(a.ru==b.ru))) else some (.bool false)) else some (.bool false))=some (.bool false):=by
    by_cases q1:0 < a.n.length
    ·by_cases q2:0 < b.n.length
     {have:a.ru=b.ru:=fh fun q=>U ⟨q1,q2,q⟩;simp[q1,q2,this]};{simp[q1,q2]}
    {simp[q1]}
   rw[c1];simp only[bV,Am,dE,iG];by_cases O:200 < a.n.length+b.n.length
   ·have ej:FO a b=113:=by unfold FO;rw[iI U,iJ O]
    refine⟨Fp,by unfold mm;rw[ej];exact Bk,?_⟩;simp only[iR O,iH,ej];exact K3 113
   ·have ej:FO a b=0:=by unfold FO;rw[iI U,iI O]
    refine⟨EV (FL a||(FL b||(a.ru&&b.ru))) (.sl 1 (An (a.n++b.n)) false),by unfold mm;rw[ej];exact .mk _ _ _ _ (.sl _ _),?_⟩;have z1:Ay (Ah (An a.n)) 2147483648=true:=by simp[BA];omega
    have z2:Bb (Ay (Ah (An a.n)) (Ah (An a.n))) (Ay (a.n++b.n).length 2147483648)=true:=by simp[BA];omega
    have z3:A5 (Aq (Ah (An a.n)) (An a.n)) (An b.n)=An (a.n++b.n):=by simp[An,dV]
    have z4:As (Ah (An a.n)) (Ah (An b.n))=(a.n++b.n).length:=by simp[BA]
    simp only[iT O,dE,iG,(Ca hv).elems,(Ca hu).elems,bV,z1,z2,z3,z4,cT,II rfl,Lh,okLike,ej];unfold FL;cases a.ru<;>cases b.ru<;>by_cases q1:0 < a.n.length<;>by_cases q2:0 < b.n.length<;>simp[q1,q2]<;>rfl
 obtain⟨y,U,O⟩:=key;exact⟨y,El (by simp[Ap,hv.ok,hu.ok]) O,U⟩
theorem zbc {lo hi:Int} (h:BU a≠0):Dt lo hi a=BU a:=by unfold Dt;rw[iI fun q=>h q.1]
theorem by_ne (T:(a.right&&b.right)=true) (hg:g=gR\/g=gT\/g=gU\/g=gD) (h:BU a≠0):nG g a b=BU a/\nf g a b=A2:=by
 rw[dF] at T;rcases hg with rfl | rfl | rfl | rfl
 ·obtain⟨e1,e2⟩:=dy_R (a:=a) (b:=b) T.1 T.2;have e:Em a b=BU a:=by unfold Em;rw[zbc h,iJ h]
  rw[e1,e2];exact⟨e,by unfold rD;rw[e,iI h]⟩
 {obtain⟨e1,e2⟩:=dy_T (a:=a) (b:=b) T.1 T.2;rw[e1,e2];exact⟨rfl,by unfold oX;rw[iI h]⟩}
 ·obtain⟨e1,e2⟩:=dy_U (a:=a) (b:=b) T.1 T.2;have e:Id a=BU a:=by unfold Id;rw[zbc h]
  rw[e1,e2];exact⟨e,by unfold mY;rw[e,iI h]⟩
 {obtain⟨e1,e2⟩:=dy_D (a:=a) (b:=b) T.1 T.2;rw[e1,e2];exact⟨rfl,by unfold mX;rw[iI h]⟩}
theorem Pe (h:Az y a) (c:Int):Ae (Aw y 3) (some (W.jE [.agg [Af y 0,Af y 1,Af y 2],I c],()))=some (.jE [y,I c],()):=L7 h _
theorem rby (hg:g=gR\/g=gT\/g=gU\/g=gD) (hv:Az v a) (hu:Az u b) (ha:a.n.length<=400000) (hb:b.n.length<=400000) (T:(a.right&&b.right)=true) (nb:∀ n∈a.n, -9223372036854775808<=n/\n<=9223372036854775807) :
  K0 62 [.str g,v,u] (nf g a b) (nG g a b):=by
 have mL:=T;rw[dF] at mL
 have key:∃ y,Az y (nf g a b)/\AH (AD B0 fun _=>.cl) fn62 .cl AI 0 [.cv (.str g),.cv v,.cv u] ()=some (.jE [y,I (nG g a b)],()):=by
  rw[run62];unfold wc wd wf wg wh wl wm wr ws wv;rw[BF hv,BF hu,cT,cT];simp only[B5 hv,B5 hu,Cy hv,Cj hu,bV,(Ca hv).len,(Ca hu).len,iD,Cf,Am,za8];by_cases U:a.n.length=1
  case neg =>
   have e:=Wz U;obtain⟨e1,e2⟩:=by_ne (b:=b) T hg (by rw[e];decide);refine⟨Fp,by rw[e2];exact Bk,?_⟩;simp only[iR U,iH,e1,e];exact K3 111
  case pos =>
   obtain⟨n,hn⟩:=List.length_eq_one_iff.1 U;have A:=Ca hv;rw[hn] at A;have hi:=idx0 A;rw[iD] at hi;obtain⟨n1,n2⟩:=nb n (by rw[hn];exact ep.2 rfl);simp only[U,iX,iQ,iN,dE,iG,hi,bV,C0,AS,CT,Da,Am];cases mF:a.ru with
   | true =>
    have e:=Xv U mF;obtain⟨e1,e2⟩:=by_ne (b:=b) T hg (by rw[e];decide);refine⟨Fp,by rw[e2];exact Bk,?_⟩;simp only[iH,bV,Am,e1,e];exact K3 102
   | false =>
    obtain⟨f1,f2⟩:=Xw hn mF;simp only[show ([226,141,180]:ji)=gR from rfl,show ([226,140,189]:ji)=gT from rfl,show ([226,134,145]:ji)=gU from rfl,dE,iG,bV,Am];rcases hg with rfl | rfl | rfl | rfl
    ·obtain⟨e1,e2⟩:=dy_R (a:=a) (b:=b) mL.1 mL.2;rw[e1,e2];simp only[Ek,bV,Am,iH];by_cases O:n < 0
     ·have am:Dt (-9223372036854775808) 200 a=0:=by unfold Dt;rw[f1,f2,iI (by omega)]
      have es:Em a b=102:=by unfold Em;rw[am,f2,iI (by simp),iJ O]
      refine⟨Fp,by unfold rD;rw[es];exact Bk,?_⟩;simp only[iR O,iH,es];exact K3 102
     ·simp only[iT O,dE,iG];by_cases h3:200 < n
      ·have am:Dt (-9223372036854775808) 200 a=113:=by unfold Dt;rw[f1,f2,iJ ⟨rfl,.inr h3⟩]
       have es:Em a b=113:=by unfold Em;rw[am,iJ (by decide)]
       refine⟨Fp,by unfold rD;rw[es];exact Bk,?_⟩;simp only[iR h3,iH,bV,Am,es];exact K3 113
      ·have am:Dt (-9223372036854775808) 200 a=0:=by unfold Dt;rw[f1,f2,iI (by omega)]
       have d4:decide (n < -200)=false:=iT (by omega);simp only[iT h3,d4,dE,iG,bV,Am];obtain⟨N,rfl⟩:∃ N:Nat,n=N:=⟨n.toNat,by omega⟩
       have e5:((b.n.length:Int)==0)=decide (b.n.length=0):=by
        by_cases q:b.n.length=0;{simp[q]}
        ·have:¬ (b.n.length:Int)=0:=by omega
         simp[q,this]
       by_cases h5:0 < (N:Int)/\b.n.length=0
       ·have es:Em a b=110:=by unfold Em;rw[am,f2,iI (by simp),iI O,iJ h5]
        refine⟨Fp,by unfold rD;rw[es];exact Bk,?_⟩;simp only[iR h5.1,iH,bV,Am,e5,iR h5.2,es];exact K3 110
       ·have es:Em a b=0:=by unfold Em;rw[am,f2,iI (by simp),iI O,iI h5]
        have c5:(if decide (0 < (N:Int))=true then some (W.bool (decide (b.n.length=0))) else some (.bool false))=some (.bool false):=by by_cases q:0 < (N:Int);{have:¬ b.n.length=0:=fun z=>h5 ⟨q,z⟩;rw[iR q,iT this];rfl};{rw[iT q];rfl}
        obtain⟨y,y1,y2⟩:=za9 hu hb N (by omega) (fun q=>Nat.pos_of_ne_zero fun z=>h5 ⟨by omega,z⟩);refine⟨y,by unfold rD;rw[es,f2];exact y2,?_⟩;simp only[e5,c5,bV,Am,dE,iG,y1,es];exact Pe y2 0
    {obtain⟨e1,e2⟩:=dy_T (a:=a) (b:=b) mL.1 mL.2;obtain⟨y,y1,y2⟩:=rrotate hu hb n;rw[e1,e2];refine⟨y,by unfold oX;rw[f1,f2];exact y2,?_⟩;simp only[Ek,CA (show ¬ gT=gR by decide),CA (show ¬ gT=gU by decide),bV,Am,dE,iG,iH,y1,f1];exact Pe y2 0}
    ·obtain⟨e1,e2⟩:=dy_U (a:=a) (b:=b) mL.1 mL.2;rw[e1,e2];simp only[Ek,CA (show ¬ gU=gR by decide),CA (show ¬ gU=gT by decide),bV,Am,dE,iG,iH];by_cases h3:n < -200\/200 < n
     ·have et:Id a=113:=by unfold Id Dt;rw[f1,f2,iJ ⟨rfl,h3⟩]
      have c:(if decide (200 < n)=true then some (W.bool true) else some (.bool (decide (n < -200))))=some (.bool true):=by
       by_cases q:200 < n;{simp[q]}
       ·have:n < -200:=by omega
        simp[q,this]
      refine⟨Fp,by unfold mY;rw[et];exact Bk,?_⟩;simp only[c,bV,Am,iH,et];exact K3 113
     ·have et:Id a=0:=by unfold Id Dt;rw[f1,f2,iI fun q=>h3 q.2]
      have d3:decide (200 < n)=false:=iT (fun q=>h3 (.inr q));have d4:decide (n < -200)=false:=iT (fun q=>h3 (.inl q));obtain⟨y,y1,y2⟩:=rtake hu hb n (by omega);refine⟨y,by unfold mY;rw[et,f2];exact y2,?_⟩;simp only[d3,d4,dE,iG,bV,Am,y1,et];exact Pe y2 0
    {obtain⟨e1,e2⟩:=dy_D (a:=a) (b:=b) mL.1 mL.2;obtain⟨y,y1,y2⟩:=rdrop hu hb n;rw[e1,e2];refine⟨y,by unfold mX;rw[f1,f2];exact y2,?_⟩;simp only[CA (show ¬ gD=gR by decide),CA (show ¬ gD=gU by decide),CA (show ¬ gD=gT by decide),bV,Am,dE,iG,y1,f1];exact Pe y2 0}
 obtain⟨y,U,O⟩:=key;exact⟨y,El (by simp[Ap,jN,hv.ok,hu.ok]) O,U⟩
set_option maxHeartbeats 1000000 in
theorem rdyR (g:ji) (hv:Az v a) (hu:Az u b) (ha:a.n.length<=400000) (hb:b.n.length<=400000) (nb:∀ n∈a.n, -9223372036854775808<=n/\n<=9223372036854775807) :
  K0 36 [.str g,v,u] (nf g a b) (nG g a b):=by
 have key:∃ y,Az y (nf g a b)/\AH (AD B0 fun _=>.cl) fn36 .cl AI 0 [.cv (.str g),.cv v,.cv u] ()=some (.jE [y,I (nG g a b)],()):=by
  rw[run36];unfold wa wb wd we wi ws wv;rw[BF hv,BF hu,cT,cT];simp only[Cj hv,Cj hu,bV,kI hv (by omega),kI hu (by omega),BH,Am];cases hra:a.right with
  | false =>
   obtain⟨e1,e2⟩:=qt (g:=g) (a:=a) (b:=b) (by rw[hra];rfl);rw[e1,e2];exact⟨Fp,Bk,rno 114⟩
  | true =>
  cases hrb:b.right with
  | false =>
   obtain⟨e1,e2⟩:=qt (g:=g) (a:=a) (b:=b) (by rw[hra,hrb];rfl);rw[e1,e2];exact⟨Fp,Bk,rno 114⟩
  | true =>
   have T:(a.right&&b.right)=true:=by rw[hra,hrb];rfl
   simp only[dK,dE,iG];simp only[show ([226,141,180]:ji)=gR from rfl,show ([226,141,179]:ji)=gI from rfl,show ([44]:ji)=gC from rfl,show ([226,140,189]:ji)=gT from rfl,show ([226,134,145]:ji)=gU from rfl,show ([226,134,147]:ji)=gD from rfl,show ([226,137,162]:ji)=gN from rfl];by_cases U:g=gR;{subst U;obtain⟨y,y1,y2⟩:=rby (.inl rfl) hv hu ha hb T nb;refine⟨y,y2,?_⟩;simp only[Ek,bV,Am,iH,y1,BS,dP,dR,L7 y2]};simp only[CA U,bV,Am,dE,iG];by_cases h4:g=gT;{subst h4;obtain⟨y,y1,y2⟩:=rby (.inr (.inl rfl)) hv hu ha hb T nb;refine⟨y,y2,?_⟩;simp only[Ek,bV,Am,iH,y1,BS,dP,dR,L7 y2]};simp only[CA h4,bV,Am,dE,iG];by_cases h5:g=gU;{subst h5;obtain⟨y,y1,y2⟩:=rby (.inr (.inr (.inl rfl))) hv hu ha hb T nb;refine⟨y,y2,?_⟩;simp only[Ek,bV,Am,iH,y1,BS,dP,dR,L7 y2]};simp only[CA h5,bV,Am,dE,iG];by_cases h6:g=gD;{subst h6;obtain⟨y,y1,y2⟩:=rby (.inr (.inr (.inr rfl))) hv hu ha hb T nb;refine⟨y,y2,?_⟩;simp only[Ek,bV,Am,iH,y1,BS,dP,dR,L7 y2]};simp only[CA h6,bV,Am,dE,iG];by_cases O:g=gI
   ·subst O;obtain⟨e1,e2⟩:=dy_I (a:=a) (b:=b) hra hrb;rw[e1,e2];simp only[Ek,bV,Am,iH,EU hv,BH];unfold KH mP;cases a.li with
    | false =>
     exact⟨Fp,Bk,rno 111⟩
    | true =>
     obtain⟨y,y1,y2⟩:=rindex hv hu ha hb;refine⟨y,y2,?_⟩;simp only[dK,dE,iG,y1,bV];exact Pe y2 0
   simp only[CA O,bV,Am,dE,iG];by_cases h3:g=gC;{subst h3;obtain⟨e1,e2⟩:=dy_C (a:=a) (b:=b) hra hrb;obtain⟨y,y1,y2⟩:=rjoin hv hu ha hb;rw[e1,e2];refine⟨y,y2,?_⟩;simp only[Ek,bV,Am,iH,y1,BS,dP,dR,L7 y2]};simp only[CA h3,bV,Am,dE,iG];by_cases h7:g=gN;{subst h7;obtain⟨e1,e2⟩:=dy_N (a:=a) (b:=b) hra hrb;rw[e1,e2];refine⟨Mp (if a.same b then 0 else 1),Rg _,?_⟩;simp only[Ek,bV,Am,iH,mD hv hu (by omega) (by omega),iD,VL];cases a.same b<;>rfl};simp only[CA h7,bV,Am,dE,iG];have e1:nG g a b=102:=by unfold nG;simp[hra,hrb,U,O,h3,h4,h5,h6,h7]
   have e2:nf g a b=A2:=by unfold nf;simp[hra,hrb,U,O,h3,h4,h5,h6,h7]
   rw[e1,e2];exact⟨Fp,Bk,rno 102⟩
 obtain⟨y,U,O⟩:=key;exact⟨y,El (by simp[Ap,jN,hv.ok,hu.ok]) O,U⟩
end Go.Ab.jF.Sh


set_option maxRecDepth 20000
namespace Go.Ab.jF
open Go Go.Ab
variable{a:jI} {v:W}
theorem rmonAny (g:ji) (hv:Az v a) (hl:a.n.length<=400000) (nb:a.inr):∃ w,Ax B0 .cl (.fn 22 []) [.str g,v]=some (.jE [w,I (Dl g a).2])/\Az w (Dl g a).1:=by
 unfold Dl;cases hg:D6 g with
 | true =>
  obtain⟨w,U,O⟩:=Ar.za3 hv (by omega) nb g;refine⟨w,Ce (by simp[Ap,jN,hv.ok]) ?_,O⟩;rw[run22];unfold wa wb wd wv;rw[BF hv,cT,Ar.mQ,bV,hg];simp only[Am,iH,Cj hv,bV,U,BS,dP,dR,Cq O,cT,Ct O]
 | false =>
  obtain⟨w,U,O⟩:=Sh.za3 g hv hl;refine⟨w,Ce (by simp[Ap,jN,hv.ok]) ?_,O⟩;rw[run22];unfold wa wb wd wv;rw[BF hv,cT,Ar.mQ,bV,hg];simp only[Am,dE,iG,Cj hv,bV,U,BS,dP,dR,Cq O,cT,Ct O]
theorem rdyAny (g:ji) {u:W} {b:jI} (hv:Az v a) (hu:Az u b) (hl:a.n.length<=400000) (hm:b.n.length<=400000) (ha:a.inr) (hb:b.inr) :
  ∃ w,Ax B0 .cl (.fn 19 []) [.str g,v,u]=some (.jE [w,I (CE g a b).2])/\Az w (CE g a b).1:=by
 unfold CE;cases hg:CQ g with
 | true =>
  obtain⟨w,U,O⟩:=Ar.rdyR hv hu (by omega) (by omega) ha hb g;refine⟨w,HS (by simp[Ap,jN,hv.ok,hu.ok]) ?_,O⟩;rw[run19];unfold wa wb wd wv;rw[BF hv,cT,BF hu,cT,Ar.nz,bV,hg];simp only[Am,iH,Cj hv,Cj hu,bV,U,BS,dP,dR,Cq O,cT,Ct O]
 | false =>
  obtain⟨w,U,O⟩:=Sh.rdyR g hv hu hl hm ha;refine⟨w,HS (by simp[Ap,jN,hv.ok,hu.ok]) ?_,O⟩;rw[run19];unfold wa wb wd wv;rw[BF hv,cT,BF hu,cT,Ar.nz,bV,hg];simp only[Am,dE,iG,Cj hv,Cj hu,bV,U,BS,dP,dR,Cq O,cT,Ct O]
theorem Tr (a:jI):a.same a=true:=by simp[jI.same,Q6]
end Go.Ab.jF


namespace Go.Ab.jF.Ar
open Go Go.Ab Go.Ab.jF
variable{α:Type} {a:jI} {b:Bool} {e:NE} {l:jo} {n x y:Int} {f:α->Int}
theorem NN:ku 0:=by unfold ku;omega
theorem Lo (h : -1000000<=n) (O:n<=1000000):ku n:=by unfold ku;omega
theorem OX (n:Int):ku (i64 n):=by rw[LU];unfold ku;omega
theorem MV (h:b=true->ku n):ku (Gd b n e).1:=by
 unfold Gd;cases b with
 | true=>exact h rfl
 | false=>exact NN
theorem Y0 (g:ji) (A:ku x) (hy:ku y):ku (Hr g x y).1:=by
 unfold Hr;split;{exact MV fun _=>OX _};split;{exact MV fun _=>OX _};split;{rw[Xb A hy];split;{rename_i h;exact h};{exact NN}};split;{unfold Kr;split;{exact MV fun _=>Lo (by decide) (by decide)};split;{exact MV fun _=>OX _};{exact MV fun _=>OX _}};split
 ·unfold MO;split;{exact hy};split;{exact NN};split
  ·have:(y.tmod x).natAbs<=y.natAbs:=by rw[Int.natAbs_tmod];exact Nat.mod_le _ _
   rename_i h0 U _;have O:(y.tmod x).natAbs < x.natAbs:=by rw[Int.natAbs_tmod];exact gn _ (by omega)
   unfold ku at A hy |-;omega
  {exact OX _}
 split;{show ku (max x y);unfold ku at *;omega};split;{show ku (min x y);unfold ku at *;omega};split;{show ku (DC _);unfold DC;split<;>exact Lo (by decide) (by decide)};split;{unfold JO;refine MV fun h=>?_;rw[TP] at h;rw[zaZ h,Zw h];split;{unfold ku at *;omega};{unfold ku at *;omega}};{exact NN}
theorem dyF_inr (g:ji) (s:Bool) (A:ku x) (hy:ku y):ku (Cn g s x y).1:=by unfold Cn;split;{exact Y0 g NN (Lo (by decide) (by decide))};{exact Y0 g A hy}
theorem Zm {f:Int->Int->Int×NE} (hf:∀ x y,ku x->ku y->ku (f x y).1):∀ {l:List (Int×Int)} {r:jo},(∀ p∈l,ku p.1/\ku p.2)->Dj f l=.inr r->∀ n∈r,ku n
 | [],r,_,h=>by unfold Dj at h;cases h;simp
 | p :: l,r,hl,h=>by
  unfold Dj at h;split at h;·cases h
  ·split at h;·cases h
   {rename_i r' T;cases h;intro n hn;rcases dM.1 hn with rfl | hn;{exact hf _ _ (hl p d7).1 (hl p d7).2};{exact Zm hf (fun q hq=>hl q (dZ _ hq)) T n hn}}
theorem Ud (h:∀ n∈l,ku n) (i:Nat):ku (l.getD i 0):=by rw[dO];by_cases hi:i < l.length;{rw[dQ hi];exact h _ (eW hi)};{rw[ew (by omega)];exact NN}
theorem at_in (h:a.inr) (i:Nat):ku (a.at i):=by
 unfold jI.at
 split<;>exact Ud h _
theorem W2 {a b:jI} (ha:a.inr) (hb:b.inr):∀ (n i:Nat),∀ p∈Dk a b i n,ku p.1/\ku p.2
 | 0,i,p,hp=>by unfold Dk at hp;cases hp
 | n+1,i,p,hp=>by
  unfold Dk at hp;rcases dM.1 hp with rfl | hp;{exact⟨at_in ha i,at_in hb i⟩};{exact W2 ha hb n (i+1) p hp}
theorem Yl (p:Int->Bool):∀ (l:jo) (i:Nat),CW p i l<=((i+l.length:Nat):Int)
 | [],i=>by unfold CW;omega
 | x :: l,i=>by
  unfold CW;split;{omega};{have:=Yl p l (i+1);rw[eS];omega}
theorem Hv:A2.inr:=by intro n hn;cases hn
variable{b:jI}
theorem zbd (g:ji) (ha:a.inr) (hb:b.inr):(jI.dy g a b).1.inr:=by unfold jI.dy;split;{exact Hv};split;{exact Hv};split;{exact Hv};split;{exact Hv};split;{exact Hv};{rename_i r T;exact Zm (fun x y A hy=>dyF_inr g _ A hy) (W2 ha hb _ _) T}
theorem zbe (r:Bool):ku (Sh.kQ r):=by unfold Sh.kQ;split<;>exact Lo (by decide) (by decide)
theorem Uv {l:List α} (h:∀ x∈l,ku (f x)):∀ n∈l.map f,ku n:=fun n hn=>by obtain⟨x,A,rfl⟩:=dJ.1 hn;exact h x A
theorem zbf (g:ji) (ha:a.inr) (hb:b.inr):(Sh.nf g a b).inr:=by
 unfold Sh.nf;split;{exact Hv};rename_i T;have T:(a.right&&b.right)=true:=by cases h:(a.right&&b.right)<;>simp_all
 simp only[dF] at T;have la:=G3 T.1;split;{unfold Sh.rD;split;{exact Uv fun i _=>Ud hb _};{exact Hv}};split;{unfold Sh.mP;split;{refine Uv fun n _=>?_;unfold Sh.ky;split;{exact Lo (by omega) (by omega)};{rename_i h;have:=Yl (fun x=>n==x) a.n 0;exact Lo (by omega) (by omega)}};{exact Hv}};split;{unfold Sh.mm;split;{intro n hn;rcases dX.1 hn with h | h;{exact ha n h};{exact hb n h}};{exact Hv}};split
 ·unfold Sh.oX;split
  ·intro n hn;dsimp only at hn;split at hn;·cases hn
   {unfold Sh.ll at hn;rcases dX.1 hn with h | h;{exact hb n (e8 h)};{exact hb n (eE h)}}
  {exact Hv}
 split;{unfold Sh.mY;split;{refine Uv fun i _=>?_;unfold Sh.pk;split;{exact Ud hb _};{exact zbe _}};{exact Hv}};split;{unfold Sh.mX;split;{intro n hn;unfold Sh.lW at hn;split at hn;{exact hb n (e8 hn)};{exact hb n (eE hn)}};{exact Hv}};split;{intro n hn;unfold Sh.oW at hn;rw[ep.1 hn];split<;>exact Lo (by decide) (by decide)};{exact Hv}
theorem vz (g:ji) (ha:a.inr) (hb:b.inr):(CE g a b).1.inr:=by unfold CE;split;{exact zbd g ha hb};{exact zbf g ha hb}
theorem Q1 (h:b.inr) (hn:n∈b.n):(BZ b.ru n).inr:=by intro m hm;rw[ep.1 hm];exact h n hn
end Go.Ab.jF.Ar


set_option maxRecDepth 100000
namespace Go.Ab
open Go
variable{E:Type}
theorem run3 (B:KB) (h:AA E) (dep:Nat) (e:E) (x0:W) (x1:W):AH (AD B fun _=>.cl) fn3 (.cl) h dep [.cv x0,.cv x1] e=Ae (AZ x1) (wv B 4 [] fun a=>wg x1 fun b=>wg x1 fun d=>wc d fun d=>Ac (Ad (.j6 false [.c d,.c (.int .i64 40)])) fun d=>Ac (Ad (.slice 1 (.c b) none (some (.c d)) none)) fun b=>Ae (RB b x1 2 1) (wv B 6 [x0] fun d=>wd (In b x1 2) fun f=>wv B 5 [d,f] fun d=>wa d fun f=>wb d fun d=>Ae (Aw f 3) (wv B 6 [x0] fun g=>wd (In b x1 2) fun i=>wv B 7 [g,i] fun g=>wa g fun i=>wb g fun g=>Ae (Aw i 3) (wv B 6 [x0] fun j=>wd (In b x1 2) fun k=>wv B 8 [j,k] fun j=>wa j fun k=>wb j fun j=>Ae (Aw k 3) (wv B 6 [x0] fun l=>wd (In b x1 2) fun m=>wv B 9 [l,m] fun l=>wa l fun m=>wb l fun l=>Ae (Aw m 3) (wv B 6 [x0] fun n=>wd (In b x1 2) fun o=>wv B 10 [n,o] fun n=>wa n fun o=>wb n fun n=>Ae (Aw o 3) (wv B 6 [x0] fun p=>wd (In b x1 2) fun b=>wv B 11 [p,b] fun b=>wa b fun p=>wb b fun b=>Ae (Aw p 3) (Ai a (wv B 12 [.agg [Af f 0,Af f 1,Af f 2],.agg [Af i 0,Af i 1,Af i 2]] fun a=>Ai a (wq d g fun a=>Ai a (wv B 12 [.agg [Af k 0,Af k 1,Af k 2],.agg [Af m 0,Af m 1,Af m 2]] fun a=>Ai a (wq j l fun a=>Ai a (wv B 12 [.agg [Af o 0,Af o 1,Af o 2],.agg [Af p 0,Af p 1,Af p 2]] fun a=>Ai a (wq n b fun a=>some (a,e)) (some (.bool false,e))) (some (.bool false,e))) (some (.bool false,e))) (some (.bool false,e))) (some (.bool false,e))) (some (.bool false,e)))))))))):=by kernel_rfl

theorem run7 (B:KB) (h:AA E) (dep:Nat) (e:E) (x0:W) (x1:W):AH (AD B fun _=>.cl) fn7 (.cl) h dep [.cv x0,.cv x1] e=Ae (AZ x1) (wd x1 fun a=>Ac (Ax B (.jE [.opt 3,.cl]) (.fn 17 []) [a]) fun a=>yh (Ck a 0) (wk (Ck a 1) fun b=>Ai b (some (.jE [.agg [.bool false,.bool false,.jD],Ck a 1],e)) (wc (Ck a 0) fun b=>wl b fun b=>Ai b (wv B 18 [x0] fun a=>wa a fun b=>wb a fun a=>wi a fun a=>Ai a (some (.jE [.agg [.bool false,.bool false,.jD],.int .i64 102],e)) (Ae (AX 1 [b]) (Ae (A6 (.jE [.agg [.bool false,.bool false,AB 1 1 [b] 0 (Ah [b])],.int .i64 0])) (some (.jE [.agg [.bool false,.bool false,AB 1 1 [b] 0 (Ah [b])],.int .i64 0],e))))) (wc (Ck a 0) fun b=>Ac (Ad (.bin .sub .num true (.c b) (.c (.int .i64 1)))) fun b=>Ac (Ad (.jJ 3 (.c (Ck a 0)) (.c b))) fun b=>Ac (Ad (.load 3 true (.c b))) fun b=>Ae (Aw b 3) (wc (Ck a 0) fun d=>Ac (Ad (.bin .sub .num true (.c d) (.c (.int .i64 2)))) fun d=>Ae (AY [x0,Ck a 0,d]) (Be (fun a=>Ac (Ad (.bin .geq .num true (.c (J a.1 2)) (.c (.int .i64 0)))) fun b=>Ai b (Ac (Ad (.jJ 3 (.c (J a.1 1)) (.c (J a.1 2)))) fun b=>Ac (Ad (.load 3 true (.c b))) fun b=>wv B 19 [J a.1 0,b,.agg [J a.1 6,J a.1 7,J a.1 8]] fun b=>wa b fun d=>wb b fun b=>Ae (Aw d 3) (wk b fun f=>Ai f (Ac (some (.jE [.agg [.bool false,.bool false,.jD],b],a.2)) fun a=>some (.inr a)) (Ac (Ad (.bin .sub .num true (.c (J a.1 2)) (.c (.int .i64 1)))) fun b=>some (.inl ([J a.1 0,J a.1 1,b,J a.1 3,J a.1 4,J a.1 5,Af d 0,Af d 1,Af d 2],a.2))))) (Ac (some (.jE [.agg [J a.1 6,J a.1 7,J a.1 8],.int .i64 0],a.2)) fun a=>some (.inr a))) ([x0,Ck a 0,d,.bool false,.bool false,.jD,Af b 0,Af b 1,Af b 2],e)))))) (wk (Ck a 1) fun b=>Ai b (some (.jE [.agg [.bool false,.bool false,.jD],Ck a 1],e)) (Ac (Ad (.bin .eql .num true (.c (nI (Ah (Ao (Ck a 0))))) (.c (.int .i64 0)))) fun b=>Ai b (wv B 18 [x0] fun a=>wa a fun b=>wb a fun a=>wi a fun a=>Ai a (some (.jE [.agg [.bool false,.bool false,.jD],.int .i64 102],e)) (Ae (AX 1 [b]) (Ae (A6 (.jE [.agg [.bool false,.bool false,AB 1 1 [b] 0 (Ah [b])],.int .i64 0])) (some (.jE [.agg [.bool false,.bool false,AB 1 1 [b] 0 (Ah [b])],.int .i64 0],e))))) (Ac (Ad (.bin .sub .num true (.c (nI (Ah (Ao (Ck a 0))))) (.c (.int .i64 1)))) fun b=>Ac (Fl b) fun b=>Ae (CG b (Ah (Ao (Ck a 0)))) (Ac (IP (Ao (Ck a 0)) (As 0 b) 0 3 true) fun b=>Ae (Aw b 3) (Ac (Ad (.bin .sub .num true (.c (nI (Ah (Ao (Ck a 0))))) (.c (.int .i64 2)))) fun d=>Ae (AY [x0,nI (Ah (Ao (Ck a 0))),d]) (Be (fun a=>Ac (Ad (.bin .geq .num true (.c (J a.1 2)) (.c (.int .i64 0)))) fun b=>Ai b (Ac (Fl (J a.1 2)) fun b=>Ae (CG b (Aj (J a.1 1))) (Ac (IP (Ao (J a.1 9)) (As 0 b) 0 3 true) fun b=>wv B 19 [J a.1 0,b,.agg [J a.1 6,J a.1 7,J a.1 8]] fun b=>wa b fun d=>wb b fun b=>Ae (Aw d 3) (wk b fun f=>Ai f (Ac (some (.jE [.agg [.bool false,.bool false,.jD],b],a.2)) fun a=>some (.inr a)) (Ac (Ad (.bin .sub .num true (.c (J a.1 2)) (.c (.int .i64 1)))) fun b=>some (.inl ([J a.1 0,nI (Aj (J a.1 1)),b,J a.1 3,J a.1 4,J a.1 5,Af d 0,Af d 1,Af d 2,.sl 3 (Ao (J a.1 9)) false],a.2)))))) (Ac (some (.jE [.agg [J a.1 6,J a.1 7,J a.1 8],.int .i64 0],a.2)) fun a=>some (.inr a))) ([x0,nI (Ah (Ao (Ck a 0))),d,.bool false,.bool false,.jD,Af b 0,Af b 1,Af b 2,.sl 3 (Ao (Ck a 0)) false],e)))))))):=by kernel_rfl

theorem run9 (B:KB) (h:AA E) (dep:Nat) (e:E) (x0:W) (x1:W):AH (AD B fun _=>.cl) fn9 (.cl) h dep [.cv x0,.cv x1] e=Ae (AZ x1) (wd x1 fun a=>wv B 20 [a] fun a=>wi a fun a=>Ai a (some (.jE [.agg [.bool false,.bool false,.jD],.int .i64 114],e)) (Ae (AY [x0,nI 0,.int .i64 1]) (Be (fun a=>wg (J a.1 3) fun b=>wc b fun b=>Ac (Ad (.bin .leq .num false (.c (J a.1 2)) (.c b))) fun b=>Ai b (wf (J a.1 3) fun b=>wg (J a.1 3) fun d=>Ac (Ad (.slice 1 (.c d) none (some (.c (J a.1 2))) none)) fun d=>Ac (Ad (.build [.bool false,.bool false,.jD] [(0,(1,.c (.bool true))),(1,(1,.c b)),(2,(1,.c d))])) fun b=>wv B 7 [J a.1 0,b] fun b=>wa b fun d=>wb b fun b=>Ae (Aw d 3) (wk b fun f=>Ai f (Ac (some (.jE [.agg [.bool false,.bool false,.jD],b],a.2)) fun a=>some (.inr a)) (Ae (AX 3 [.agg [Af d 0,Af d 1,Af d 2]]) (Ae (Ay (As 0 (Ah [.agg [Af d 0,Af d 1,Af d 2]])) (Ah [.agg [Af d 0,Af d 1,Af d 2]])) (Ae (Bb (Ay (Aj (J a.1 1)) (Ah (Ao (J a.1 7)))) (Ay (As (Aj (J a.1 1)) (Ah (Aq (Ah [.agg [Af d 0,Af d 1,Af d 2]]) (AE 0 [.agg [Af d 0,Af d 1,Af d 2]])))) 2147483648)) (wj (J a.1 2) fun b=>some (.inl ([J a.1 0,nI (As (Aj (J a.1 1)) (Ah (Aq (Ah [.agg [Af d 0,Af d 1,Af d 2]]) (AE 0 [.agg [Af d 0,Af d 1,Af d 2]])))),b,J a.1 3,J a.1 4,J a.1 5,J a.1 6,.sl 3 (A5 (Aq (Aj (J a.1 1)) (Ao (J a.1 7))) (Aq (Ah [.agg [Af d 0,Af d 1,Af d 2]]) (AE 0 [.agg [Af d 0,Af d 1,Af d 2]]))) false],a.2)))))))) (Ac (we (J a.1 3) fun b=>wf (J a.1 3) fun d=>Ac (Bd B .cl false 21 [AB 3 3 (Ao (J a.1 7)) 0 (Aj (J a.1 1)),b,d]) fun b=>wa b fun d=>wb b fun b=>Ae (Aw d 3) (some (.jE [.agg [Af d 0,Af d 1,Af d 2],b],a.2))) fun a=>some (.inr a))) ([x0,nI 0,.int .i64 1,x1,.bool false,.bool false,.jD,.sl 3 [] false],e)))):=by kernel_rfl

theorem run11 (B:KB) (h:AA E) (dep:Nat) (e:E) (x0:W) (x1:W):AH (AD B fun _=>.cl) fn11 (.cl) h dep [.cv x0,.cv x1] e=Ae (AZ x1) (wd x1 fun a=>Ac (Ax B (.jE [.opt 3,.cl]) (.fn 17 []) [a]) fun a=>yh (Ck a 0) (wk (Ck a 1) fun b=>Ai b (some (.jE [.agg [.bool false,.bool false,.jD],Ck a 1],e)) (Ae (AY [x0,Ck a 0,.int .i64 0]) (Be (fun a=>wc (J a.1 1) fun b=>wo (J a.1 2) b fun b=>Ai b (Ac (Ad (.jJ 3 (.c (J a.1 1)) (.c (J a.1 2)))) fun b=>Ac (Ad (.load 3 true (.c b))) fun b=>wv B 22 [J a.1 0,b] fun b=>wa b fun d=>wb b fun b=>Ae (Aw d 3) (wk b fun d=>Ai d (Ac (some (.jE [.agg [.bool false,.bool false,.jD],b],a.2)) fun a=>some (.inr a)) (Ac (Ad (.jJ 3 (.c (J a.1 1)) (.c (J a.1 2)))) fun a=>none))) (Ac (we (J a.1 3) fun b=>wf (J a.1 3) fun d=>wv B 21 [J a.1 1,b,d] fun b=>wa b fun d=>wb b fun b=>Ae (Aw d 3) (some (.jE [.agg [Af d 0,Af d 1,Af d 2],b],a.2))) fun a=>some (.inr a))) ([x0,Ck a 0,.int .i64 0,x1,.bool false,.bool false,.jD],e)))) (wk (Ck a 1) fun b=>Ai b (some (.jE [.agg [.bool false,.bool false,.jD],Ck a 1],e)) (Ae (AY [x0,nI (Ah (Ao (Ck a 0))),.int .i64 0]) (Be (fun a=>Ac (Ad (.bin .lss .num false (.c (J a.1 2)) (.c (nI (Aj (J a.1 1)))))) fun b=>Ai b (Ac (Fl (J a.1 2)) fun b=>Ae (CG b (Aj (J a.1 1))) (Ac (IP (Ao (J a.1 7)) (As 0 b) 0 3 true) fun b=>wv B 22 [J a.1 0,b] fun b=>wa b fun d=>wb b fun b=>Ae (Aw d 3) (wk b fun f=>Ai f (Ac (some (.jE [.agg [.bool false,.bool false,.jD],b],a.2)) fun a=>some (.inr a)) (Ac (Fl (J a.1 2)) fun b=>Ae (CG b (Aj (J a.1 1))) (Ac (F9 3 (Ao (J a.1 7)) (As 0 b) 0 3 (.agg [Af d 0,Af d 1,Af d 2])) fun b=>wj (J a.1 2) fun d=>some (.inl ([J a.1 0,nI (Aj (J a.1 1)),d,J a.1 3,J a.1 4,J a.1 5,J a.1 6,.sl 3 b false],a.2))))))) (Ac (we (J a.1 3) fun b=>wf (J a.1 3) fun d=>Ac (Bd B .cl false 21 [AB 3 3 (Ao (J a.1 7)) 0 (Aj (J a.1 1)),b,d]) fun b=>wa b fun d=>wb b fun b=>Ae (Aw d 3) (some (.jE [.agg [Af d 0,Af d 1,Af d 2],b],a.2))) fun a=>some (.inr a))) ([x0,nI (Ah (Ao (Ck a 0))),.int .i64 0,x1,.bool false,.bool false,.jD,.sl 3 (Ao (Ck a 0)) false],e))))):=by kernel_rfl

theorem run17 (B:KB) (h:AA E) (dep:Nat) (e:E) (x0:W):AH (AD B fun _=>.cl) fn17 (.jE [.opt 3,.cl]) h dep [.cv x0] e=Ae (AZ x0) (wd x0 fun a=>wv B 20 [a] fun a=>wi a fun a=>Ai a (some (.jE [.jD,.int .i64 114],e)) (Ae (AY [nI 0,.int .i64 0]) (Be (fun a=>wg (J a.1 2) fun b=>wc b fun b=>wo (J a.1 1) b fun b=>Ai b (wf (J a.1 2) fun b=>wg (J a.1 2) fun c=>wr c (J a.1 1) fun c=>wh c fun c=>Ae (AX 1 [c]) (Ae (Aw b 1) (Ae (AX 3 [.agg [.bool false,Af b 0,AB 1 1 [c] 0 (Ah [c])]]) (Ae (Ay (As 0 (Ah [.agg [.bool false,Af b 0,AB 1 1 [c] 0 (Ah [c])]])) (Ah [.agg [.bool false,Af b 0,AB 1 1 [c] 0 (Ah [c])]])) (Ae (Bb (Ay (Aj (J a.1 0)) (Ah (Ao (J a.1 3)))) (Ay (As (Aj (J a.1 0)) (Ah (Aq (Ah [.agg [.bool false,Af b 0,AB 1 1 [c] 0 (Ah [c])]]) (AE 0 [.agg [.bool false,Af b 0,AB 1 1 [c] 0 (Ah [c])]])))) 2147483648)) (wj (J a.1 1) fun d=>some (.inl ([nI (As (Aj (J a.1 0)) (Ah (Aq (Ah [.agg [.bool false,Af b 0,AB 1 1 [c] 0 (Ah [c])]]) (AE 0 [.agg [.bool false,Af b 0,AB 1 1 [c] 0 (Ah [c])]])))),d,J a.1 2,.sl 3 (A5 (Aq (Aj (J a.1 0)) (Ao (J a.1 3))) (Aq (Ah [.agg [.bool false,Af b 0,AB 1 1 [c] 0 (Ah [c])]]) (AE 0 [.agg [.bool false,Af b 0,AB 1 1 [c] 0 (Ah [c])]]))) false],a.2)))))))) (Ac (Ae (FF (Aj (J a.1 0)) (Ah (Ao (J a.1 3)))) (some (.jE [.sl 3 (Ao (J a.1 3)) false,.int .i64 0],a.2))) fun a=>some (.inr a))) ([nI 0,.int .i64 0,x0,.sl 3 [] false],e)))):=by kernel_rfl

theorem run18 (B:KB) (h:AA E) (dep:Nat) (e:E) (x0:W):AH (AD B fun _=>.cl) fn18 (.cl) h dep [.cv x0] e=Ac (ws x0 [195,151] fun a=>Ai a (some (.bool true)) (ws x0 [226,136,167] fun a=>some a)) (fun a=>Ai a (some (.jE [.int .i64 1,.bool true],e)) (ws x0 [43] fun a=>Ai a (some (.jE [.int .i64 0,.bool true],e)) (ws x0 [226,136,168] fun a=>some (.jE [.int .i64 0,a],e)))):=by kernel_rfl

theorem run21 (B:KB) (h:AA E) (dep:Nat) (e:E) (x0:W) (x1:W) (x2:W):AH (AD B fun _=>.cl) fn21 (.cl) h dep [.cv x0,.cv x1,.cv x2] e=Ac (Ad (.build [.bool false,.bool false,.jD] [(0,(1,.c x1)),(1,(1,.c x2))])) (fun a=>Ae (Aw a 3) (CU (Af a 2) (Ae (AY [x0,x1,.bool false,.bool false,.int .i64 0]) (Be (fun a=>wc (J a.1 0) fun b=>wo (J a.1 4) b fun b=>Ai b (Ac (Ad (.jJ 3 (.c (J a.1 0)) (.c (J a.1 4)))) fun b=>Ac (Ad (.load 3 true (.c b))) fun b=>wv B 20 [b] fun b=>wi b fun b=>Ai b (Ac (some (.jE [.agg [.bool false,.bool false,.jD],.int .i64 114],a.2)) fun a=>some (.inr a)) (Ac (Ai (J a.1 2) (some (.bool true)) (Ac (Ad (.jJ 3 (.c (J a.1 0)) (.c (J a.1 4)))) fun a=>Ac (Ad (.fieldAddr 0 (.c a))) fun a=>wh a fun a=>some a)) fun b=>Ai (J a.1 3) (Ac (Ad (.jJ 3 (.c (J a.1 0)) (.c (.int .i64 0)))) fun d=>Ac (Ad (.fieldAddr 1 (.c d))) fun d=>wh d fun d=>Ae (Aw d 1) (Ac (Ad (.jJ 3 (.c (J a.1 0)) (.c (J a.1 4)))) fun f=>Ac (Ad (.fieldAddr 2 (.c f))) fun f=>wh f fun f=>Ac (GO 1 f) fun f=>Ae (Bb (Ay (Aj (J a.1 10)) (Ah (Ao (J a.1 11)))) (Ay (As (Aj (J a.1 10)) (Ah f)) 2147483648)) (wj (J a.1 4) fun g=>some (.inl ([J a.1 0,J a.1 1,b,.bool true,g,J a.1 5,J a.1 6,J a.1 7,J a.1 8,Af d 0,nI (As (Aj (J a.1 10)) (Ah f)),.sl 1 (A5 (Aq (Aj (J a.1 10)) (Ao (J a.1 11))) f) false],a.2))))) (Ac (Ad (.jJ 3 (.c (J a.1 0)) (.c (J a.1 4)))) fun d=>Ac (Ad (.fieldAddr 1 (.c d))) fun d=>wh d fun d=>Ac (Ad (.jJ 3 (.c (J a.1 0)) (.c (.int .i64 0)))) fun f=>Ac (Ad (.fieldAddr 1 (.c f))) fun f=>wh f fun f=>Ac (Ad (.bin .neq .bool false (.c d) (.c f))) fun d=>Ac (Ad (.jJ 3 (.c (J a.1 0)) (.c (.int .i64 0)))) fun f=>Ac (Ad (.fieldAddr 1 (.c f))) fun f=>wh f fun f=>Ae (Aw f 1) (Ac (Ad (.jJ 3 (.c (J a.1 0)) (.c (J a.1 4)))) fun g=>Ac (Ad (.fieldAddr 2 (.c g))) fun g=>wh g fun g=>Ac (GO 1 g) fun g=>Ae (Bb (Ay (Aj (J a.1 10)) (Ah (Ao (J a.1 11)))) (Ay (As (Aj (J a.1 10)) (Ah g)) 2147483648)) (wj (J a.1 4) fun i=>some (.inl ([J a.1 0,J a.1 1,b,d,i,J a.1 5,J a.1 6,J a.1 7,J a.1 8,Af f 0,nI (As (Aj (J a.1 10)) (Ah g)),.sl 1 (A5 (Aq (Aj (J a.1 10)) (Ao (J a.1 11))) g) false],a.2))))))) (Ac (Ai (J a.1 2) (some (.jE [.agg [.bool false,.bool false,.jD],.int .i64 111],a.2)) (Ai (J a.1 3) (some (.jE [.agg [.bool false,.bool false,.jD],.int .i64 102],a.2)) (Ac (wi (J a.1 1) fun b=>Ai b (wc (J a.1 0) fun a=>Ac (Ad (.bin .neq .num true (.c a) (.c (.int .i64 1)))) fun a=>some a) (some (.bool false))) fun b=>Ai b (some (.jE [.agg [.bool false,.bool false,.jD],.int .i64 111],a.2)) (wc (J a.1 0) fun b=>Ac (Ad (.bin .gtr .num true (.c b) (.c (.int .i64 200)))) fun b=>Ai b (some (.jE [.agg [.bool false,.bool false,.jD],.int .i64 113],a.2)) (Ae (A6 (.jE [.agg [J a.1 8,J a.1 9,AB 1 1 (Ao (J a.1 11)) 0 (Aj (J a.1 10))],.int .i64 0])) (some (.jE [.agg [J a.1 8,J a.1 9,AB 1 1 (Ao (J a.1 11)) 0 (Aj (J a.1 10))],.int .i64 0],a.2))))))) fun a=>some (.inr a))) ([x0,x1,.bool false,.bool false,.int .i64 0,.bool false,.bool false,.jD,Af a 0,Af a 1,nI 0,.sl 1 [] false],e))))):=by kernel_rfl

end Go.Ab


namespace Go.Ab.jF
open Go Go.Ab
variable{b:jI} {g:ji} {n:Int} {v:W}
def HF (g:ji):Option Int:=if g=CL then some 0 else if g=CF then some 1 else if g=DO then some 1 else if g=Di then some 0 else none
theorem vA (h:HF g=none):Ax B0 .cl (.fn 80 []) [.str g]=some (.jE [.int .i64 0,.bool false]):=by
 unfold HF at h;split at h;·cases h
 split at h;·cases h
 split at h;·cases h
 split at h;·cases h
 rename_i U O h3 h4;refine Bm rfl ?_;rw[run80];unfold wa wb;have e:(Ip .str [] (.str [43]) (.int .i64 0))=some [.str CL,.int .i64 0]:=rfl;have e2:(Ip .str [.str CL,.int .i64 0] (.str [195,151]) (.int .i64 1))=some [.str CL,.int .i64 0,.str CF,.int .i64 1]:=rfl;have e3:(Ip .str [.str CL,.int .i64 0,.str CF,.int .i64 1] (.str [226,136,167]) (.int .i64 1))=some [.str CL,.int .i64 0,.str CF,.int .i64 1,.str DO,.int .i64 1]:=rfl;have e4:(Ip .str [.str CL,.int .i64 0,.str CF,.int .i64 1,.str DO,.int .i64 1] (.str [226,136,168]) (.int .i64 0))=some [.str CL,.int .i64 0,.str CF,.int .i64 1,.str DO,.int .i64 1,.str Di,.int .i64 0]:=rfl;rw[e,bV,e2,bV,e3,bV,e4,bV];have e5:Ed (.str g) [.str CL,.int .i64 0,.str CF,.int .i64 1,.str DO,.int .i64 1,.str Di,.int .i64 0]=some none:=by rw[CB U,CB O,CB h3,CB h4];rfl
 unfold RG;rw[e5];rfl
theorem vB (h:HF g=some n) (hv:Az v b) (T:b.right=true) (hn:b.n=[]):Ax B0 .cl (.fn 5 []) [.str g,v]=some (.jE [B2 false n,I 0]):=by
 have mi:b.li=true:=by
  cases hq:b.li with
  | true=>rfl
  | false=>have:=(Na T).1 hq;rw[hn] at this;cases this
 obtain⟨x,rfl,A⟩:=hv.get;rw[mi];rw[hn] at A;have key:∀ (u:W) (f:∃ n,Br Bq A9 n Unit AI 0 5 [.str g,u] ()=some (.jE [B2 false n,I 0],[],())),True:=fun _ _=>trivial;generalize hq:([]:jo)=q at A;unfold HF at h;split at h
 ·rename_i hg;subst hg;cases h;cases b.ru<;>cases A with
  | nil=>first | (obtain⟨n,h⟩:=dh;exact Dw (by decide) h rfl rfl) | (obtain⟨n,h⟩:=de;exact Dw (by decide) h rfl rfl)
  | sl l f=>subst hq;cases f<;>first | (obtain⟨n,h⟩:=dg;exact Dw (by decide) h rfl rfl) | (obtain⟨n,h⟩:=df;exact Dw (by decide) h rfl rfl) | (obtain⟨n,h⟩:=dc;exact Dw (by decide) h rfl rfl) | (obtain⟨n,h⟩:=cZ;exact Dw (by decide) h rfl rfl)
 split at h
 ·rename_i hg;subst hg;cases h;cases b.ru<;>cases A with
  | nil=>first | (obtain⟨n,h⟩:=cY;exact Dw (by decide) h rfl rfl) | (obtain⟨n,h⟩:=cV;exact Dw (by decide) h rfl rfl)
  | sl l f=>subst hq;cases f<;>first | (obtain⟨n,h⟩:=cX;exact Dw (by decide) h rfl rfl) | (obtain⟨n,h⟩:=cW;exact Dw (by decide) h rfl rfl) | (obtain⟨n,h⟩:=cU;exact Dw (by decide) h rfl rfl) | (obtain⟨n,h⟩:=cS;exact Dw (by decide) h rfl rfl)
 split at h
 ·rename_i hg;subst hg;cases h;cases b.ru<;>cases A with
  | nil=>first | (obtain⟨n,h⟩:=cR;exact Dw (by decide) h rfl rfl) | (obtain⟨n,h⟩:=cN;exact Dw (by decide) h rfl rfl)
  | sl l f=>subst hq;cases f<;>first | (obtain⟨n,h⟩:=cQ;exact Dw (by decide) h rfl rfl) | (obtain⟨n,h⟩:=cP;exact Dw (by decide) h rfl rfl) | (obtain⟨n,h⟩:=cM;exact Dw (by decide) h rfl rfl) | (obtain⟨n,h⟩:=cL;exact Dw (by decide) h rfl rfl)
 split at h
 ·rename_i hg;subst hg;cases h;cases b.ru<;>cases A with
  | nil=>first | (obtain⟨n,h⟩:=cK;exact Dw (by decide) h rfl rfl) | (obtain⟨n,h⟩:=cH;exact Dw (by decide) h rfl rfl)
  | sl l f=>subst hq;cases f<;>first | (obtain⟨n,h⟩:=cJ;exact Dw (by decide) h rfl rfl) | (obtain⟨n,h⟩:=cI;exact Dw (by decide) h rfl rfl) | (obtain⟨n,h⟩:=cG;exact Dw (by decide) h rfl rfl) | (obtain⟨n,h⟩:=cF;exact Dw (by decide) h rfl rfl)
 cases h
def FC (g:ji) (b:jI):jI×Int :=
 Df (CE g) (match HF g with | some n=>(BZ false n,0) | none=>(A2,102)) b
theorem zbg (g:ji) (hv:Az v b) (hl:b.n.length<=1000000) :
  ∃ w,Ax B0 .cl (.fn 5 []) [.str g,v]=some (.jE [w,I (Cc b (FC g b)).2])/\Az w (Cc b (FC g b)).1:=by
 by_cases hn:b.n=[]
 ·cases hu:HF g with
  | none =>
   have:=red_run (MT g) (vA hu) hv hl;have e:FC g b=ve (CE g) b:=by unfold FC ve;rw[hu]
   rw[e];exact this
  | some n =>
   have e:FC g b=(BZ false n,0):=by unfold FC Df;rw[hu,hn];rfl
   cases T:b.right with
   | true =>
    refine⟨B2 false n,?_,?_⟩;{rw[vB hu hv T hn,e];unfold Cc;rw[iJ T]};{rw[e];unfold Cc;rw[iJ T];exact Ib _ _}
   | false=>exact QV (r:=FC g b) (rs:=[I 0,I 0,I 0,I 0,I 0,I 0,I 0,I 0]) hv hl rfl fun h=>by rw[T] at h;cases h
 {exact QV hv hl rfl fun _=>SO (MT g) _ hv hl hn}
theorem bC (g:ji) (T:b.right=true):Ge (FN (CE g) (A2,102) b)/\((FN (CE g) (A2,102) b).2=0->(FN (CE g) (A2,102) b).1.n.length=b.n.length/\(FN (CE g) (A2,102) b).1.li=b.li)/\(FN (CE g) (A2,102) b).1.n.length<=b.n.length:=by
 have:=XP (b:=b) (l:=FM b) (F:=Df (CE g) (A2,102)) fun a ha=>vp (dk g) _ (Ym T a ha).1 (Ym T a ha).2;unfold FN
 rwa [show (FM b).length=b.n.length by simp[FM]] at this
theorem di (g:ji) (b:jI):Ge (F8 (Dl g) b)/\((F8 (Dl g) b).2=0->(F8 (Dl g) b).1.n.length=b.n.length)/\(F8 (Dl g) b).1.n.length<=b.n.length:=by have:=XP (b:=b) (l:=b.n.map (BZ b.ru)) (F:=fun a=>GD (Dl g a)) fun a _=>vq (aF g a);unfold F8;rw[dY] at this;exact⟨this.1,fun h=>(this.2.1 h).1,this.2.2⟩
theorem redG_le (g:ji) (b:jI):(FC g b).1.n.length<=1000000:=by
 by_cases hn:b.n=[]
 ·unfold FC Df;rw[hn];cases HF g with
  | none=>exact fp _
  | some n=>simp[BZ]
 {exact fj (Uq (MT g).le hn) (by decide)}
end Go.Ab.jF


namespace Go.Ab.jF.Ar
open Go Go.Ab Go.Ab.jF
variable{a:jI} {l:ju} {u v:W}
theorem Wf (h:Az v a) (hl:a.n.length<=1000000):Ax B0 (.jE [.opt 3,.cl]) (.fn 17 []) [v]=some (if a.right then .jE [.sl 3 (a.n.map (B2 a.ru)) false,I 0] else .jE [.jD,I 114]):=by
 have T:=Ar.kI h hl;obtain⟨x,rfl,A⟩:=h.get;have ln:Ap [W.agg [.bool a.li,.bool a.ru,x]]=true:=by simp[Ap,h.ok]
 cases ha:a.right with
 | false =>
  refine Bm ln ?_;rw[run17];unfold wc wd wf wg wh wi wj wo wr wv;rw[JL A,cT];simp only[BT,BG,ID,bV,T,ha,BH,d8,Am,iH];rfl
 | true =>
  refine Bm ln ?_;rw[run17];unfold wc wd wf wg wh wi wj wo wr wv;rw[JL A,cT];simp only[BT,BG,ID,bV,T,ha,BH,dK,Am,dE,iG];rw[show AY [nI 0,.int .i64 0]=true from rfl,cT];refine G7 (fun i=>(([nI i,I i,.agg [.bool a.li,.bool a.ru,x],.sl 3 ((a.n.take i).map (B2 a.ru)) false],()):jh×Unit)) a.n.length rfl (fun i hi=>?_) ?_
  ·simp only[AW,AV,A1,Bc,BT,BG,GN,Gn,bV,A.len,AS,Am];rw[iJ (by simpa using hi),A.idx hi];simp only[bV,C0,Fu,zai,UJ,cT,slO_I,uY,Cp,DG,Cl,dN,BB,iD,BN,Cs (by omega:i < 9223372036854775807)];rw[show (Ay (As 0 (Ah [W.agg [.bool false,.bool a.ru,.sl 1 [I a.n[i]] false]])) (Ah [W.agg [.bool false,.bool a.ru,.sl 1 [I a.n[i]] false]]))=true from rfl,cT]
   rw[show Bb (Ay i (Ah ((a.n.take i).map (B2 a.ru)))) (Ay (As i (Ah (Aq (Ah [W.agg [.bool false,.bool a.ru,.sl 1 [I a.n[i]] false]]) (AE 0 [W.agg [.bool false,.bool a.ru,.sl 1 [I a.n[i]] false]])))) 2147483648)=true by
    show Bb (Ay i ((a.n.take i).map (B2 a.ru)).length) (Ay (i+1) 2147483648)=true;simp only[Ji,IB,dY,eV,iK,dF];omega,cT]
   have e:A5 (Aq i ((a.n.take i).map (B2 a.ru))) (Aq (Ah [W.agg [.bool false,.bool a.ru,.sl 1 [I a.n[i]] false]]) (AE 0 [W.agg [.bool false,.bool a.ru,.sl 1 [I a.n[i]] false]]))=(a.n.take (i+1)).map (B2 a.ru):=by show ((a.n.take i).map (B2 a.ru)).take i++[B2 a.ru a.n[i]]=_;rw[dV (by simp;omega),Iu hi,fk];rfl
   rw[e];rfl
  {simp only[AW,AV,A1,Bc,BT,BG,GN,Gn,bV,A.len,AS,Am,gE,iN,dE,iG,BB,Cp,DG,dN];rw[dV (dH _),show FF a.n.length (Ah (a.n.map (B2 a.ru)))=true by simp[FF,Ah]];rfl}
theorem Vu (hu:v8 u l) (hl:l.length<=1000000) (hs:∀ a∈l,a.n.length<=1000000) (li ru:Bool) :
  ∃ w,Bd B0 .cl false 21 [u,.bool li,.bool ru]=some (.jE [w,I (Cz li l)])/\Az w (EC li ru l):=by
 suffices key:∃ r,AH (AD B0 fun _=>.cl) fn21 (.cl) AI 0 [.cv u,.cv (.bool li),.cv (.bool ru)] ()=some r/\∃ w,r=(.jE [w,I (Cz li l)],())/\Az w (EC li ru l) by
  obtain⟨r,U,w,rfl,O⟩:=key;exact⟨w,PU (CD fun _=>.cl) (fn:=fn21) rfl (by simp[Ap,jN,hu.ok]) (dS rfl) U (by rw[show GI A9 21=true from rfl,dK,gM]),O⟩
 rw[run21];unfold wc wh wi wj wo wv;rw[YE,bV,U1,cT];simp only[HA,Hz,Ha];unfold CU;dsimp only
 rw[show AY [u,.bool li,.bool false,.bool false,.int .i64 0]=true by simp only[AY,e9,hu.qZ];rfl,cT];refine OB (α:=Unit) (fun i _=>(([u,.bool li,.bool ((l.take i).any jI.li),.bool ((l.take i).any fun a=>a.ru != (Dh l).ru),I i,.bool false,.bool false,.jD,.bool li,.bool (if i=0 then ru else (Dh l).ru),nI (B7 (l.take i)).length,.sl 1 (An (B7 (l.take i))) false],()):jh×Unit)) l.length (fun i _=>∀ a∈l.take i,a.right=true) _ ?_ ?_ (by simp) (a0:=())
 ·intro i _ hi hp;obtain⟨y,U,O⟩:=hu.idx hi;obtain⟨y0,h3,h4⟩:=hu.idx (i:=0) (by omega);have hR:=Ar.kI (.mk _ _ _ _ O:Az (.agg [.bool l[i].li,.bool l[i].ru,y]) l[i]) (hs _ (eW hi));have k8:=YB hp;have k8:(B7 (l.take i)).length<=200*i:=by simpa[eG (Nat.le_of_lt hi)] using k8
  have e0:l[0].ru=(Dh l).ru:=by rw[zaj (by omega)]
  simp only[AW,AV,A1,Bc,BD,Cd,hu.len,AS,bV,Am];rw[iJ (by simpa using hi),U];rw[show Ad (.jJ 3 (.c u) (.c (.int .i64 0)))=_ from h3];simp only[bV,show ∀ a b c:W,Ad (.load 3 true (.c (.ptr [a,b,c] 0)))=some (.agg [a,b,c]) from fun _ _ _=>rfl,hR,BH,Am];cases T:l[i].right with
  | false =>
   right;simp only[d8,iH];obtain⟨g1,g2⟩:=Zd (li:=li) (ru:=ru) (YX hi T);exact⟨_,rfl,_,by rw[g1];rfl,by rw[g2];exact Bk⟩
  | true =>
   left;refine⟨(),?_,?_⟩
   ·have hn:=QE T;simp only[dK,dE,iG,PM,RY,PL,bV,ld3_0,RJ,PE,zai,UJ,cT,Hy,O.elems,BN,iD,Cs (by omega:i < 9223372036854775807),B9,Cm,CS,Ff,HH,JN,Cp,Cl,DG,dN,BB];have hw:Bb (Ay (B7 (l.take i)).length (Ah (An (B7 (l.take i))))) (Ay (As (B7 (l.take i)).length (Ah (An l[i].n))) 2147483648)=true:=by simp only[JF,Ji,IB,JK,BA,iK,dF];omega
    rw[hw];have e1:As (B7 (l.take i)).length (Ah (An l[i].n))=(B7 (l.take (i+1))).length:=by rw[Qz hi];simp[BA]
    have e2:A5 (Aq (B7 (l.take i)).length (An (B7 (l.take i)))) (An l[i].n)=An (B7 (l.take (i+1))):=by rw[Qz hi];simp[Ln,Uc]
    rw[e1,e2,e0,iI (by omega:¬ i+1=0),Ja hi,Ja hi,<-e0];simp only[cT]
    cases hb:(l.take i).any jI.li<;>cases hc:(l.take i).any (fun a=>a.ru != l[0].ru) <;>
     simp only[iH,iG,dE,bV,Am,fJ,eQ,ez]<;>rfl
   {intro a ha;rw[Iu hi] at ha;rcases dX.1 ha with h | h;{exact hp a h};{rw[ep.1 h];exact T}}
 ·intro _ hp;rw[dV (dH _)] at hp |-;have kE:l.all jI.right=true:=d6.2 hp;simp only[AW,AV,A1,Bc,BD,Cd,B9,hu.len,AS,bV,Am,gE,iN,dE,iG,BH,iD,Cf,CT,HA,Hz,Ha];have hA:¬ l.all jI.right=false:=by rw[kE];simp
  have bad:∀ {c:Int},Cz li l=c->c≠0->EC li ru l=A2:=fun {c} h h0=>UA (by rw[h];exact h0);simp only[CS,Ff,HH,JN,Cp,DG,Cl,BB,iD,dN,slO_1];cases U:l.any jI.li with
  | true =>
   have hE:Cz li l=111:=by unfold Cz;rw[iI hA,iJ U]
   exact⟨_,rfl,_,by rw[hE],by rw[bad hE (by decide)];exact Bk⟩
  | false =>
   have n1:¬ l.any jI.li=true:=by rw[U];simp
   cases O:l.any (fun a=>a.ru != (Dh l).ru) with
   | true =>
    have hE:Cz li l=102:=by unfold Cz;rw[iI hA,iI n1,iJ O]
    exact⟨_,rfl,_,by rw[hE],by rw[bad hE (by decide)];exact Bk⟩
   | false =>
    have n2:¬ (l.any fun a=>a.ru != (Dh l).ru)=true:=by rw[O];simp
    by_cases h3:li=false/\l.length≠1
    ·have e5:((l.length:Int) != 1)=true:=by have:=h3.2;simp;omega
     have hE:Cz li l=111:=by unfold Cz;rw[iI hA,iI n1,iI n2,iJ h3]
     have hB:=bad hE (by decide);rw[h3.1] at hE hB |-;rw[e5];exact⟨_,rfl,_,by rw[hE],by rw[hB];exact Bk⟩
    ·have e5:(if (!li)=true then some (W.bool ((l.length:Int) != 1)) else some (.bool false))=some (.bool false):=by
      cases hq:li with
      | true=>rfl
      | false =>
       have:l.length=1:=by rw[hq] at h3;by_cases hz:l.length=1;{exact hz};{exact iW ⟨rfl,hz⟩ h3}
       simp[this]
     rw[e5];by_cases h4:200 < l.length
     ·have hE:Cz li l=113:=by unfold Cz;rw[iI hA,iI n1,iI n2,iI h3,iJ h4]
      rw[iR (by omega:(200:Int) < (l.length:Int))];exact⟨_,rfl,_,by rw[hE],by rw[bad hE (by decide)];exact Bk⟩
     ·have hE:Cz li l=0:=by unfold Cz;rw[iI hA,iI n1,iI n2,iI h3,iI h4]
      rw[iT (by omega:¬ (200:Int) < (l.length:Int)),hE,show EC li ru l=⟨li,if l.length=0 then ru else (Dh l).ru,B7 l⟩ from iJ hE,
       show A6 (.jE [.agg [.bool li,.bool (if l.length=0 then ru else (Dh l).ru),.sl 1 (An (B7 l)) false],I 0])=true by simp[A6,jN,Ap,E8]]
      exact⟨_,rfl,_,rfl,.mk _ _ _ _ (.sl _ _)⟩
theorem vC (g:ji):Ax B0 .cl (.fn 18 []) [.str g]=some (.jE [I ((HF g).getD 0),.bool (HF g).isSome]):=by
 refine Bm rfl ?_;rw[run18];unfold ws;by_cases U:g=CL;{subst U;rfl};by_cases O:g=CF;{subst O;rfl};by_cases h3:g=DO;{subst h3;rfl};by_cases h4:g=Di;{subst h4;rfl};have e:HF g=none:=by unfold HF;rw[iI U,iI O,iI h3,iI h4]
 have f1:(g==[43])=false:=beq_eq_false_iff_ne.2 U;have f2:(g==[195,151])=false:=beq_eq_false_iff_ne.2 O;have f3:(g==[226,136,167])=false:=beq_eq_false_iff_ne.2 h3;have f4:(g==[226,136,168])=false:=beq_eq_false_iff_ne.2 h4;simp only[I8,f1,f2,f3,f4,bV,Am,dE,iG,e];rfl
end Go.Ab.jF.Ar


namespace Go.Ab.jF.Ar
open Go Go.Ab Go.Ab.jF
variable{β:Type} {D:jI->jI->jI×Int} {a b:jI} {c n:Int} {i:Nat} {l:jh} {r:jI×Int} {v:W}
theorem Xp (b:jI) (X Y:Option β):yh (Ck (.jE [.sl 3 (b.n.map (B2 b.ru)) false,I 0]) 0) X Y=Y:=rfl
theorem Y5 (l:jh):Ck (.jE [.sl 3 l false,I 0]) 1=I 0:=rfl
theorem Y6 (l:jh):Ao (Ck (.jE [.sl 3 l false,I 0]) 0)=l:=rfl
theorem okC_itm (ru:Bool) (n:Int):Aw (B2 ru n) 3=true:=rfl
theorem UF (h:l[i]?=some v) (hv:Az v a):IP l (As 0 i) 0 3 true=some v:=by obtain⟨x,rfl,A⟩:=hv.get;simp[IP,JK,h,W.cells,Ci];rfl
theorem Y4 (h:b.n[i]?=some n):(b.n.map (B2 b.ru))[i]?=some (B2 b.ru n):=by rw[dT,h];rfl
theorem Uu (h:c≠0):Ad (.bin .neq .num true (.c (I c)) (.c (I 0)))=some (.bool true):=by rw[Cf];simp[h]
theorem XS (g:ji) (hv:Az v b) (hl:b.n.length<=400000) (hb:b.inr) :
  ∃ w,Ax B0 .cl (.fn 7 []) [.str g,v]=some (.jE [w,I (Cc b (FC g b)).2])/\Az w (Cc b (FC g b)).1:=by
 suffices key:∃ r,AH (AD B0 fun _=>.cl) fn7 (.cl) AI 0 [.cv (.str g),.cv v] ()=some r/\∃ w,r=(.jE [w,I (Cc b (FC g b)).2],())/\Az w (Cc b (FC g b)).1 by
  obtain⟨r,U,w,rfl,O⟩:=key;exact⟨w,El (by simp[Ap,jN,hv.ok]) U,O⟩
 rw[run7];unfold wa wb wc wd wi wk wl wv;rw[BF hv,cT,Cj hv,bV,Wf hv (by omega),bV];unfold Cc;cases T:b.right with
 | false=>exact⟨_,rfl,C8,rfl,Bk⟩
 | true =>
  simp only[iH];rw[Xp,Y5,Y6];simp only[iD,Cf,bV,bne_self_eq_false,Am,dE,iG,JF,dY,Cp,Da];by_cases hn:b.n=[]
  ·have e:FC g b=match HF g with | some n=>(BZ false n,0) | none=>(A2,102):=by unfold FC Df;rw[hn];rfl
   rw[e,hn];simp only[fF,Int.natCast_zero,iU,iH,vC,bV,BS,dP,dR,BH,Am];cases hu:HF g with
   | none=>exact⟨_,rfl,C8,rfl,Bk⟩
   | some n=>exact⟨_,rfl,B2 false n,rfl,Ib _ _⟩
  ·obtain⟨r,m,hbn,hbr⟩:=OU hn;have hrl:b.n.length=r.length+1:=by rw[hbn];simp
   have hR:FC g b=GW (CE g) (r.map (BZ b.ru)) (BZ b.ru m):=by unfold FC Df;rw[hbr]
   have hm:b.n[r.length]?=some m:=by rw[hbn,fN (by simp)];simp
   rw[hrl,iI (by simp;omega)];simp only[GV,bV];rw[Dc (by omega) (by omega),show ((r.length+1:Nat):Int) - 1=((r.length:Nat):Int) by omega,Sh.nW,bV,show CG r.length (r.length+1)=true by simp[CG],cT,UF (Y4 hm) (Ib _ _),bV,okC_itm,cT];rw[Dc (by omega) (by omega),show ((r.length+1:Nat):Int) - 2=(r.length:Int) - 1 - ((0:Nat):Int) by omega];rw[show ∀ x:Int,AY [.str g,I ((r.length+1:Nat):Int),I x]=true from fun _=>rfl,cT]
   refine OB (α:=W×jI) (fun i p=>(([.str g,I ((r.length+1:Nat):Int),I ((r.length:Int) - 1 - (i:Int)),.bool false,.bool false,.jD,Af p.1 0,Af p.1 1,Af p.1 2,.sl 3 (b.n.map (B2 b.ru)) false],()):jh×Unit)) r.length
    (fun i p=>Az p.1 p.2/\p.2.inr/\p.2.n.length<=400000/\FC g b=GW (CE g) ((r.drop i).map (BZ b.ru)) p.2) _ ?_ ?_ (a0:=(B2 b.ru m,BZ b.ru m)) ⟨Ib _ _,Q1 hb (by rw[hbn];simp),by simp[BZ],by rw[eJ];exact hR⟩
   ·rintro i ⟨u,o⟩ hi ⟨hu,ho,hol,hq⟩;dsimp only at hu ho hol hq |-;obtain⟨k,hk⟩:∃ k:Nat,k+i+1=r.length:=⟨r.length - 1 - i,by omega⟩;rw[show (r.length:Int) - 1 - (i:Int)=(k:Int) by omega];have kO:b.n[k]?=some r[i]:=by rw[hbn,fu (by simp;omega),List.getElem?_reverse (by omega),show r.length - 1 - k=i by omega,dQ hi]
    have k9:r[i]∈b.n:=by rw[hbn];simp
    simp only[AW,AV,A1,B9,Cm,CS,Ff,Ef,bV,Am,Cl,dN,BB];rw[iJ (by simp),Sh.nW,bV,show CG k (r.length+1)=true by simp[CG];omega,cT,UF (Y4 kO) (Ib _ _),bV,Ct hu];obtain⟨w,U,O⟩:=rdyAny g (Ib b.ru r[i]) hu (by simp[BZ]) hol (Q1 hb k9) ho;rw[U];simp only[bV,BS,dP,dR,Cq O,cT];rw[eX hi,dI,GW] at hq;by_cases hc:(CE g (BZ b.ru r[i]) o).2=0;{left;rw[iJ hc] at hq;rw[hc];refine⟨(w,(CE g (BZ b.ru r[i]) o).1),?_,O,vz g (Q1 hb k9) ho,(MT g).le _ _,hq⟩;simp only[Cf,bne_self_eq_false,bV,Am,dE,iG,GV,Cp];rw[Dc (by omega) (by omega),show (k:Int) - 1=(r.length:Int) - 1 - ((i+1:Nat):Int) by omega];rfl};{right;rw[iI hc] at hq;rw[Uu hc];simp only[bV,Am,iH];refine⟨_,rfl,C8,?_,?_⟩;{rw[hq];rfl};{rw[hq];exact Bk}}
   {rintro ⟨u,o⟩ ⟨hu,ho,hol,hq⟩;dsimp only at hu ho hol hq |-;simp only[AW,AV,A1,B9,Cm,CS,Ff,Ef,bV,Am];rw[iI (by simp;omega),Ct hu];rw[gg,dW,GW] at hq;refine⟨_,rfl,u,?_,?_⟩;{rw[hq]};{rw[hq];exact hu}}
theorem cn (T:b.right=true) (hi:i < b.n.length):(EX b.ru b.n i).right=true:=by
 have U:=Na T;refine Sh.kH (fun h n hn=>Sh.lq T h n (eE hn)) ?_;show if true=true then (b.n.take (i+1)).length<=200 else _
 rw[iJ rfl,eV];omega
theorem zbh (N M:jI×Int) (h:b.n≠[]):Df D N b=Df D M b:=by obtain⟨r,m,_,hbr⟩:=OU h;unfold Df;rw[hbr]
theorem app1 {H:jh} (h:H.length=i) (hi:i<=1000000) (w:W):Bb (Ay (Aj (nI i)) (Ah H)) (Ay (As (Aj (nI i)) (Ah (Aq (Ah [w]) (AE 0 [w])))) 2147483648)=true:=by simp[h];omega
theorem app2 {H:jh} (h:H.length=i) (w:W):A5 (Aq (Aj (nI i)) H) (Aq (Ah [w]) (AE 0 [w]))=H++[w]:=by simp[<-h]
theorem app3 (i:Nat) (w:W):nI (As (Aj (nI i)) (Ah (Aq (Ah [w]) (AE 0 [w]))))=nI (i+1):=by simp
theorem le1 (w:W):Ay (As 0 (Ah [w])) (Ah [w])=true:=rfl
theorem II {H:jh} (h:H.length=i):AB 3 3 H 0 (Aj (nI i))=.sl 3 H false:=by rw[Cp,DG,dN,<-h];exact Rx H
theorem vD (g:ji) (hv:Az v b) (hl:b.n.length<=400000) (hb:b.inr) :
  ∃ w,Ax B0 .cl (.fn 9 []) [.str g,v]=some (.jE [w,I (Cc b (FN (CE g) (A2,102) b)).2])/\Az w (Cc b (FN (CE g) (A2,102) b)).1:=by
 suffices key:∃ r,AH (AD B0 fun _=>.cl) fn9 (.cl) AI 0 [.cv (.str g),.cv v] ()=some r/\∃ w,r=(.jE [w,I (Cc b (FN (CE g) (A2,102) b)).2],())/\Az w (Cc b (FN (CE g) (A2,102) b)).1 by
  obtain⟨r,U,w,rfl,O⟩:=key;exact⟨w,El (by simp[Ap,jN,hv.ok]) U,O⟩
 have lx:=Ca hv;rw[run9];unfold wa wb wc wd we wf wg wi wj wk wv;rw[BF hv,cT,Cj hv,bV,Ar.kI hv (by omega),bV,BH,bV,Am];unfold Cc;cases T:b.right with
 | false=>exact⟨_,rfl,C8,rfl,Bk⟩
 | true =>
  rw[iI (by decide),show AY [.str g,nI 0,.int .i64 1]=true from rfl,cT];simp only[iH];have hlen:(FM b).length=b.n.length:=by simp[FM]
  refine OB (α:=jh) (fun i H=>(([.str g,nI i,I ((i+1:Nat):Int),v,.bool false,.bool false,.jD,.sl 3 H false],()):jh×Unit)) b.n.length
   (fun i H=>∃ acc,EE H acc/\H.length=i/\(∀ a∈acc,a.n.length<=1000000)/\EA (Df (CE g) (A2,102)) (FM b)=HT acc (EA (Df (CE g) (A2,102)) ((FM b).drop i))) _ ?_ ?_ (a0:=[]) ⟨[],.nil,rfl,by simp,by rw[eJ];exact (QA _).symm⟩
  ·rintro i H hi ⟨acc,ha,ox,kS,hq⟩;have oJ:i < (FM b).length:=by omega
   have kO:(FM b)[i]=EX b.ru b.n i:=by simp[FM]
   rw[eX oJ,Oa,kO] at hq;obtain⟨u,U,O⟩:=lx.hi (k:=i+1) (by omega);have hA:Az (.agg [.bool true,.bool b.ru,u]) (EX b.ru b.n i):=.mk _ _ _ _ O;have jW:(EX b.ru b.n i).n≠[]:=by intro he;have:=iP List.length he;simp only[EX,eV,fF] at this;omega
   obtain⟨w,h3,h4⟩:=XS g hA (by simp only[EX,eV];omega) (fun n hn=>hb n (eE hn));have eR:Cc (EX b.ru b.n i) (FC g (EX b.ru b.n i))=Df (CE g) (A2,102) (EX b.ru b.n i):=by unfold Cc;rw[iJ (cn T hi)];exact zbh _ _ jW
   rw[eR] at h3 h4;simp only[AW,AV,A1,Bc,BD,Cd,B9,Cm,Cy hv,B5 hv,lx.len,bV,FB,Am];rw[iJ (by simp;omega)];simp only[bV,U];rw[show Ad (.build [.bool false,.bool false,.jD] [(0,(1,.c (.bool true))),(1,(1,.c (.bool b.ru))),(2,(1,.c u))])=some (.agg [.bool true,.bool b.ru,u]) from Pu rfl rfl O.cells rfl rfl O.val _ _,bV,h3];simp only[bV,BS,dP,dR,Cq h4,cT];by_cases hc:(Df (CE g) (A2,102) (EX b.ru b.n i)).2=0;{left;rw[iJ hc] at hq;rw[hc];refine⟨H++[w],?_,acc++[(Df (CE g) (A2,102) (EX b.ru b.n i)).1],ha.snoc h4,by simp[ox],?_,?_⟩;{simp only[iD,Cf,bne_self_eq_false,bV,Am,dE,iG,Ct h4,TY h4,cT,le1,BB,app1 ox (by omega),app2 ox,app3,BN,Cs (by omega:i+1 < 9223372036854775807)]};{intro a h;rcases dX.1 h with h | h;{exact kS a h};{rw[ep.1 h];exact fj (Uq (MT g).le jW) (by decide)}};{rw[hq];cases EA (Df (CE g) (A2,102)) ((FM b).drop (i+1))<;>simp[HT]}}
   ·right;rw[iI hc] at hq;rw[iD,Uu hc];simp only[bV,Am,iH];have hA:FN (CE g) (A2,102) b=(A2,(Df (CE g) (A2,102) (EX b.ru b.n i)).2):=by unfold FN C5;rw[hq];rfl
    rw[hA];exact⟨_,rfl,C8,rfl,Bk⟩
  ·rintro H ⟨acc,ha,ox,kS,hq⟩;rw[show (FM b).drop b.n.length=[] by rw[<-hlen,gg]] at hq;have hA:FN (CE g) (A2,102) b=(EC b.li b.ru acc,Cz b.li acc):=by unfold FN C5;rw[hq];simp[EA,HT]
   rw[hA];have hal:=ha.len;obtain⟨w,U,O⟩:=Vu (.sl false ha) (by omega) kS b.li b.ru;simp only[AW,AV,A1,Bc,BD,Cd,B9,Cm,EU hv,Cy hv,B5 hv,lx.len,bV,FB,Am];rw[iI (by simp;omega)];simp only[BB,II ox,bV,U,BS,dP,dR,Cq O,cT,Ct O];exact⟨_,rfl,w,rfl,O⟩
theorem set_is {H ys:jh} {w:W} (hv:Az v a) (hw:Az w b):F9 3 (H++v :: ys) (As 0 H.length) 0 3 w=some (H++w :: ys):=by
 obtain⟨x,rfl,A⟩:=hv.get;obtain⟨y,rfl,hy⟩:=hw.get;have e:(H++W.agg [.bool a.li,.bool a.ru,x] :: ys)[H.length]?=some (.agg [.bool a.li,.bool a.ru,x]):=by simp
 unfold F9;rw[JK,eu,e];dsimp only
 rw[Cg rfl rfl hy.cell];show some ((H++_ :: ys).set H.length _)=_;rw[List.set_append_right _ _ (dH _),Nat.sub_self];rfl
theorem vF (g:ji) (hv:Az v b) (hl:b.n.length<=400000) (hb:b.inr) :
  ∃ w,Ax B0 .cl (.fn 11 []) [.str g,v]=some (.jE [w,I (Cc b (F8 (Dl g) b)).2])/\Az w (Cc b (F8 (Dl g) b)).1:=by
 suffices key:∃ r,AH (AD B0 fun _=>.cl) fn11 (.cl) AI 0 [.cv (.str g),.cv v] ()=some r/\∃ w,r=(.jE [w,I (Cc b (F8 (Dl g) b)).2],())/\Az w (Cc b (F8 (Dl g) b)).1 by
  obtain⟨r,U,w,rfl,O⟩:=key;exact⟨w,El (by simp[Ap,jN,hv.ok]) U,O⟩
 rw[run11];unfold wa wb wc wd we wf wj wk wo wv;rw[BF hv,cT,Cj hv,bV,Wf hv (by omega),bV];unfold Cc;cases T:b.right with
 | false=>exact⟨_,rfl,C8,rfl,Bk⟩
 | true =>
  simp only[iH];rw[Xp,Y5,Y6];simp only[iD,Cf,bV,bne_self_eq_false,Am,dE,iG,JF,dY,Cp];rw[show AY [.str g,I (b.n.length:Int),I 0]=true from rfl,cT]
  refine OB (α:=jh) (fun i H=>(([.str g,I (b.n.length:Int),I i,v,.bool false,.bool false,.jD,.sl 3 (H++(b.n.drop i).map (B2 b.ru)) false],()):jh×Unit)) b.n.length
   (fun i H=>∃ acc,EE H acc/\H.length=i/\(∀ a∈acc,a.n.length<=1000000)/\EA (fun a=>GD (Dl g a)) (b.n.map (BZ b.ru))=HT acc (EA (fun a=>GD (Dl g a)) ((b.n.drop i).map (BZ b.ru)))) _ ?_ ?_ (a0:=[]) ⟨[],.nil,rfl,by simp,by rw[eJ];exact (QA _).symm⟩
  ·rintro i H hi ⟨acc,ha,ox,kS,hq⟩;rw[eX hi,dI,Oa] at hq;have k9:b.n[i]∈b.n:=eW hi;obtain⟨w,U,O⟩:=rmonAny g (Ib b.ru b.n[i]) (by simp[BZ]) (Q1 hb k9);have kO:(H++(b.n.drop i).map (B2 b.ru))[i]?=some (B2 b.ru b.n[i]):=by rw[fN (by omega),ox,Nat.sub_self,eX hi];rfl
   have pc:F9 3 (H++(b.n.drop i).map (B2 b.ru)) (As 0 i) 0 3 w=some ((H++[w])++(b.n.drop (i+1)).map (B2 b.ru)):=by rw[eX hi,dI];have:=set_is (H:=H) (ys:=(b.n.drop (i+1)).map (B2 b.ru)) (Ib b.ru b.n[i]) O;rw[ox] at this;rw[this,eL];rfl
   simp only[AW,AV,A1,Bc,BD,Cd,B9,Cm,Cp,Cl,dN,iD,AS,bV,Am,BB];rw[iJ (by simpa using hi),Sh.nW,bV,show CG i b.n.length=true by simpa[CG] using hi,cT,UF kO (Ib _ _),bV,U];simp only[bV,BS,dP,dR,Cq O,cT];by_cases hc:(Dl g (BZ b.ru b.n[i])).2=0
   ·left;have ho:GD (Dl g (BZ b.ru b.n[i]))=((Dl g (BZ b.ru b.n[i])).1,0):=by unfold GD;rw[iJ hc,hc]
    rw[ho,iJ rfl] at hq;rw[hc];refine⟨H++[w],?_,acc++[(Dl g (BZ b.ru b.n[i])).1],ha.snoc O,by simp[ox],?_,?_⟩;{simp only[Cf,bne_self_eq_false,bV,Am,dE,iG];rw[show CG i b.n.length=true by simpa[CG] using hi,cT,Ct O,pc,bV,BN,bV,Cs (by omega:i < 9223372036854775807)]};{intro a h;rcases dX.1 h with h | h;{exact kS a h};{rw[ep.1 h];exact fj ((Xd g).le _) (by decide)}};{rw[hq];cases EA (fun a=>GD (Dl g a)) ((b.n.drop (i+1)).map (BZ b.ru))<;>simp[HT]}
   ·right;have ho:GD (Dl g (BZ b.ru b.n[i]))=(A2,(Dl g (BZ b.ru b.n[i])).2):=by unfold GD;rw[iI hc]
    rw[ho,iI hc] at hq;rw[Uu hc];simp only[bV,Am,iH];have hA:F8 (Dl g) b=(A2,(Dl g (BZ b.ru b.n[i])).2):=by unfold F8 C5;rw[hq];rfl
    rw[hA];exact⟨_,rfl,C8,rfl,Bk⟩
  ·rintro H ⟨acc,ha,ox,kS,hq⟩;rw[gg,dW] at hq;have hA:F8 (Dl g) b=(EC b.li b.ru acc,Cz b.li acc):=by unfold F8 C5;rw[hq];simp[EA,HT]
   rw[hA,gg,dW,ft];have hal:=ha.len;obtain⟨w,U,O⟩:=Vu (.sl false ha) (by omega) kS b.li b.ru;have hs:=II ox;rw[Cp,DG,dN] at hs;simp only[AW,AV,A1,Bc,BD,Cd,B9,Cm,EU hv,Cy hv,Cp,Cl,dN,iD,AS,bV,Am,gE,iN,dE,iG,BB,hs,U,BS,dP,dR,Cq O,cT,Ct O];exact⟨_,rfl,w,rfl,O⟩
theorem Vg (h:b.right=true->r.1.n.length<=1000000):(Cc b r).1.n.length<=1000000:=by unfold Cc;split;{rename_i T;exact h T};{exact fp _}
set_option maxHeartbeats 1000000 in
theorem pH (s:ji) (hv:Az v a) (nb:a.inr):AH (AD B0 fun _=>.cl) fn3 (.cl) AI 0 [.cv (.str s),.cv v] ()=some (.bool true,()):=by
 obtain⟨x,rfl,A⟩:=hv.get;obtain⟨y,hy,sR⟩:=cut_get A;have hb:Az (.agg [.bool a.li,.bool a.ru,y]) a.cut:=.mk _ _ _ _ sR;have hlen:=cut_len a;have hi:a.cut.inr:=fun n hn=>nb n (eE hn);obtain⟨w1,U,k1⟩:=zbg (s.take 20) hb (by omega);obtain⟨w2,O,k2⟩:=XS (s.take 20) hb (by omega) hi;obtain⟨w3,h3,k3⟩:=zaw (MT (s.take 20)) (A2,102) hb (by omega);obtain⟨w4,h4,k4⟩:=vD (s.take 20) hb (by omega) hi;obtain⟨w5,h5,k5⟩:=zax (Xd (s.take 20)) hb (by omega);obtain⟨w6,h6,k6⟩:=vF (s.take 20) hb (by omega) hi;have l1:=Vg (b:=a.cut) fun _=>redG_le (s.take 20) a.cut;have l3:=Vg (b:=a.cut) fun T=>fj (bC (s.take 20) T).2.2 (by omega);have l5:=Vg (b:=a.cut) fun _=>fj (di (s.take 20) a.cut).2.2 (by omega);have e1:Ax B0 .cl (.fn 12 []) [w1,w2]=some (.bool true):=by rw[Ar.mD k1 k2 l1 l1,Tr]
 have e3:Ax B0 .cl (.fn 12 []) [w3,w4]=some (.bool true):=by rw[Ar.mD k3 k4 l3 l3,Tr]
 have e5:Ax B0 .cl (.fn 12 []) [w5,w6]=some (.bool true):=by rw[Ar.mD k5 k6 l5 l5,Tr]
 rw[run3];unfold wa wb wc wd wg wq wv;rw[JL A,cT,vm,bV];simp only[BT,BG,Gn,bV,A.len];rw[Y1 40 40 rfl,bV,hy,bV,vo sR,cT,zaO sR];simp only[uO,bV,BG,ID,U,O,h3,h4,h5,h6,BS,dP,dR,Cq k1,Cq k2,Cq k3,Cq k4,Cq k5,Cq k6,cT,Ct k1,Ct k2,Ct k3,Ct k4,Ct k5,Ct k6,e1,e3,e5,Da,Am,iU,iH]
end Go.Ab.jF.Ar


namespace Go.Proofs.qg
open Go.RowKit Go.Extern.Stop Go.Stop Go.Extern
variable{P Q:je}
theorem as_nil (t:i8) (w:i7) :
  Calls Tryz.prog 48 #[.nilIface,t] w fun e w'=>e=.returned (.bool false)/\w'=w:=by
 go_enter Tryz.func48,Tryz.ntmps48
 go_wp2
 go_ret
 exact⟨rfl,rfl⟩
def Pr (P Q:je):Prop:=(P=88/\Q=86)\/(P=201/\Q=200)\/(P=211/\Q=210)\/(P=233/\Q=205)
theorem Tryz.vG (hp:Pr P Q) (t:Addr) (w:i7):(ReflectliteValue.unpack (.iface P (.pointer (some t)))).run Tryz.prog w
  = .ok (.agg #[.pointer (some ⟨9,P,none⟩),.pointer (some ⟨w.heap.size,0,none⟩),.int .u64 150]) (w.alloc (.cells #[.pointer (some t)] P)):=by
 rcases hp with ⟨rfl,rfl⟩ | ⟨rfl,rfl⟩ | ⟨rfl,rfl⟩ | ⟨rfl,rfl⟩<;>kernel_rfl
theorem Tryz.type27 (hp:Pr P Q) (a:Addr) (w:i7):(ReflectliteValue.methodAny (ReflectliteValue.valueError "reflectlite.Value.Type" 0) (fun t _ _ _=>ReflectliteType.toType t) #[.agg #[.pointer (some ⟨9,P,none⟩),.pointer (some a),.int .u64 150]]).run Tryz.prog w
  = .ok (.iface 138 (.agg #[.pointer (some ⟨9,P,none⟩)])) w:=by
 rcases hp with ⟨rfl,rfl⟩ | ⟨rfl,rfl⟩ | ⟨rfl,rfl⟩ | ⟨rfl,rfl⟩<;>kernel_rfl
theorem Tryz.rY (h:i8) (w:i7):(Go.method 391 138 (.agg #[h]) "Kind").run Tryz.prog w=.ok (241,h) w:=by kernel_rfl
theorem Tryz.kind27 (hp:Pr P Q) (w:i7):((ReflectliteType.abiMethod fun t=>Functor.map (fun a:Nat=>Value.int IntKind.u8 (a:Int)) (Rtype.kind t)) #[.pointer (some ⟨9,P,none⟩)]).run Tryz.prog w=.ok (.int .u8 22) w:=by rcases hp with ⟨rfl,rfl⟩ | ⟨rfl,rfl⟩ | ⟨rfl,rfl⟩ | ⟨rfl,rfl⟩<;>kernel_rfl
theorem Tryz.kind25 (hp:Pr P Q) (w:i7):((ReflectliteType.abiMethod fun t=>Functor.map (fun a:Nat=>Value.int IntKind.u8 (a:Int)) (Rtype.kind t)) #[.pointer (some ⟨9,Q,none⟩)]).run Tryz.prog w=.ok (.int .u8 25) w:=by rcases hp with ⟨rfl,rfl⟩ | ⟨rfl,rfl⟩ | ⟨rfl,rfl⟩ | ⟨rfl,rfl⟩<;>kernel_rfl
theorem rlm (z:Sem i8) (f:je->Addr->Nat->Nat->Sem i8) (v:i8) :
  ReflectliteValue.method z f #[v]=(do match <-ReflectliteValue.parts v with | none=>z | some (t,a,fl)=>f t a fl (fl%32)):=rfl
theorem Tryz.sH (hp:Pr P Q) (a:Addr) (w:i7):(ReflectliteValue.parts (.agg #[.pointer (some ⟨9,P,none⟩),.pointer (some a),.int .u64 150])).run Tryz.prog w=.ok (some (P,a,150)) w:=by rcases hp with ⟨rfl,rfl⟩ | ⟨rfl,rfl⟩ | ⟨rfl,rfl⟩ | ⟨rfl,rfl⟩<;>kernel_rfl
theorem Tryz.isNil27 (hp:Pr P Q) (a p:Addr) (zzd:i7) (ha:zzd.cell? a=some (.pointer (some p))) :
  (ReflectliteValue.method (ReflectliteValue.valueError "reflectlite.Value.IsNil" 0) ReflectliteValue.isNil #[.agg #[.pointer (some ⟨9,P,none⟩),.pointer (some a),.int .u64 150]]).run Tryz.prog zzd=.ok (.bool false) zzd:=by
 rw[rlm];simp only[Sem.run_bind,(Tryz.sH hp),Result.andThen]
 rcases hp with ⟨rfl,rfl⟩ | ⟨rfl,rfl⟩ | ⟨rfl,rfl⟩ | ⟨rfl,rfl⟩ <;>
  (simp[ReflectliteValue.isNil,loadVar,isAgg,underlying,Tryz.underlying88,Tryz.underlying201,Tryz.underlying211,Tryz.underlying233,ha,Result.andThen])
theorem Tryz.rZ (h:i8) (w:i7):(Go.method 391 138 (.agg #[h]) "Elem").run Tryz.prog w=.ok (252,.agg #[h]) w:=by kernel_rfl
theorem Tryz.oE (h:i8) (w:i7):(Go.method 391 138 (.agg #[h]) "Implements").run Tryz.prog w=.ok (253,.agg #[h]) w:=by kernel_rfl
theorem Tryz.nX (h:i8) (w:i7):(Go.method 391 138 (.agg #[h]) "AssignableTo").run Tryz.prog w=.ok (250,.agg #[h]) w:=by kernel_rfl
theorem Tryz.elem27 (hp:Pr P Q) (w:i7):(ReflectliteType.method ReflectliteType.elem #[.agg #[.pointer (some ⟨9,P,none⟩)]]).run Tryz.prog w=.ok (.iface 138 (.agg #[.pointer (some ⟨9,Q,none⟩)])) w:=by rcases hp with ⟨rfl,rfl⟩ | ⟨rfl,rfl⟩ | ⟨rfl,rfl⟩ | ⟨rfl,rfl⟩<;>kernel_rfl
theorem Tryz.qu (hp:Pr P Q) (w:i7):(ReflectliteType.relation "Implements" ReflectliteType.implements_ #[.agg #[.pointer (some ⟨9,Q,none⟩)],.iface 138 (.agg #[.pointer (some ⟨9,49,none⟩)])]).run Tryz.prog w=.ok (.bool true) w:=by rcases hp with ⟨rfl,rfl⟩ | ⟨rfl,rfl⟩ | ⟨rfl,rfl⟩ | ⟨rfl,rfl⟩<;>kernel_rfl
theorem Tryz.zbi (hp:Pr P Q) (v:i8) (w:i7):(ReflectliteType.typeOf #[.iface Q v]).run Tryz.prog w=.ok (.iface 138 (.agg #[.pointer (some ⟨9,Q,none⟩)])) w:=by rcases hp with ⟨rfl,rfl⟩ | ⟨rfl,rfl⟩ | ⟨rfl,rfl⟩ | ⟨rfl,rfl⟩<;>kernel_rfl
theorem Tryz.qv (hp:Pr P Q) (w:i7):(ReflectliteType.relation "AssignableTo" ReflectliteType.assignableTo #[.agg #[.pointer (some ⟨9,Q,none⟩)],.iface 138 (.agg #[.pointer (some ⟨9,Q,none⟩)])]).run Tryz.prog w=.ok (.bool true) w:=by rcases hp with ⟨rfl,rfl⟩ | ⟨rfl,rfl⟩ | ⟨rfl,rfl⟩ | ⟨rfl,rfl⟩<;>kernel_rfl
theorem Tryz.zbj {P Q:je} (hp:Pr P Q) (w:i7):(Rtype.elem? P).run Tryz.prog w=.ok (some Q) w:=by rcases hp with ⟨rfl,rfl⟩ | ⟨rfl,rfl⟩ | ⟨rfl,rfl⟩ | ⟨rfl,rfl⟩<;>kernel_rfl
theorem Tryz.mk25 {P Q:je} (hp:Pr P Q) (p:Addr) (w:i7):(ReflectliteValue.mk Q p ReflectliteValue.flagAddr).run Tryz.prog w=.ok (.agg #[.pointer (some ⟨9,Q,none⟩),.pointer (some p),.int .u64 409]) w:=by rcases hp with ⟨rfl,rfl⟩ | ⟨rfl,rfl⟩ | ⟨rfl,rfl⟩ | ⟨rfl,rfl⟩<;>kernel_rfl
theorem Tryz.elemV27 (hp:Pr P Q) (a p:Addr) (zzd:i7) (ha:zzd.cell? a=some (.pointer (some p))) :
  (ReflectliteValue.method (ReflectliteValue.valueError "reflectlite.Value.Elem" 0) ReflectliteValue.elem #[.agg #[.pointer (some ⟨9,P,none⟩),.pointer (some a),.int .u64 150]]).run Tryz.prog zzd
   = .ok (.agg #[.pointer (some ⟨9,Q,none⟩),.pointer (some p),.int .u64 409]) zzd:=by
 rw[rlm];simp only[Sem.run_bind,(Tryz.sH hp),Result.andThen];have g0:=@Tryz.zbj _ _ hp;have g1:=@Tryz.mk25 _ _ hp
 rcases hp with ⟨rfl,rfl⟩ | ⟨rfl,rfl⟩ | ⟨rfl,rfl⟩ | ⟨rfl,rfl⟩ <;>
  (simp[ReflectliteValue.elem,loadVar,isAgg,underlying,Tryz.underlying88,Tryz.underlying201,Tryz.underlying211,Tryz.underlying233,ha,Result.andThen,g0,g1])
theorem rls (v x:i8):ReflectliteValue.set #[v,x]=(do
  let (some (dst,a,fl),some (src,b,_)):=(<-ReflectliteValue.parts v,<-ReflectliteValue.parts x)
   | unsupported (.noEntry "extern/(internal/reflectlite.Value).Set.zeroValue")
  if fl / ReflectliteValue.flagAddr%2==0 then unsupported (.noEntry "extern/(internal/reflectlite.Value).Set.unaddressable")
  let val <-loadVar src b
  if <-Rtype.directlyAssignable dst src then storeVar dst a val
  else if <-Rtype.implements dst src then
   if (<-Rtype.kind src)==20 then
    match val with
    | .nilIface=>unsupported (.noEntry "extern/reflectlite: a nil value of one interface type handed on as a value of another")
    | _=>storeVar dst a val
   else storeVar dst a (.iface src val)
  else panicString ("reflectlite.Set: value of type "++(<-Rtype.spelt src) ++ " is not assignable to type "++(<-Rtype.spelt dst))
  pure (.tuple #[])):=rfl
theorem Tryz.zbk (hp:Pr P Q) (a:Addr) (w:i7):(ReflectliteValue.parts (.agg #[.pointer (some ⟨9,Q,none⟩),.pointer (some a),.int .u64 409])).run Tryz.prog w=.ok (some (Q,a,409)) w:=by rcases hp with ⟨rfl,rfl⟩ | ⟨rfl,rfl⟩ | ⟨rfl,rfl⟩ | ⟨rfl,rfl⟩<;>kernel_rfl
theorem Tryz.parts25 (hp:Pr P Q) (a:Addr) (w:i7):(ReflectliteValue.parts (.agg #[.pointer (some ⟨9,Q,none⟩),.pointer (some a),.int .u64 153])).run Tryz.prog w=.ok (some (Q,a,153)) w:=by rcases hp with ⟨rfl,rfl⟩ | ⟨rfl,rfl⟩ | ⟨rfl,rfl⟩ | ⟨rfl,rfl⟩<;>kernel_rfl
theorem Tryz.zbl {P Q:je} (hp:Pr P Q) (w:i7):(Rtype.directlyAssignable Q Q).run Tryz.prog w=.ok true w:=by rcases hp with ⟨rfl,rfl⟩ | ⟨rfl,rfl⟩ | ⟨rfl,rfl⟩ | ⟨rfl,rfl⟩<;>kernel_rfl
theorem Tryz.set25 (hp:Pr P Q) (ta b:Addr) (e nd:i8) (U:e.oneCell'=true) (zzd:i7) (hb:zzd.cell? b=some e) (ht:zzd.cell? ta=some nd) (hf:zzd.frozen? ta=false) :
  (ReflectliteValue.set #[.agg #[.pointer (some ⟨9,Q,none⟩),.pointer (some ta),.int .u64 409],.agg #[.pointer (some ⟨9,Q,none⟩),.pointer (some b),.int .u64 153]]).run Tryz.prog zzd
   = .ok (.tuple #[]) (zzd.setCell ta e):=by
 rw[rls];simp only[Sem.run_bind,(Tryz.zbk hp),(Tryz.parts25 hp),Result.andThen];have g0:=@Tryz.zbl _ _ hp
 rcases hp with ⟨rfl,rfl⟩ | ⟨rfl,rfl⟩ | ⟨rfl,rfl⟩ | ⟨rfl,rfl⟩ <;>
  (simp[ReflectliteValue.flagAddr,loadVar,Tryz.isAgg86,Tryz.isAgg200,Tryz.isAgg210,Tryz.isAgg205,loadCells,loadCellsFrom,hb,Result.andThen,g0,storeVar,Value.cells,storeCells,Addr.add]
   rw[run_store Tryz.prog zzd ta _ _ U];simp[ht,hf])
theorem bf (hp:Pr P Q) (v:i8) (w:i7):(ReflectliteValue.unpack (.iface Q v)).run Tryz.prog w
  = .ok (.agg #[.pointer (some ⟨9,Q,none⟩),.pointer (some ⟨w.heap.size,0,none⟩),.int .u64 153]) (w.alloc (.cells v.cells Q)):=by
 rcases hp with ⟨rfl,rfl⟩ | ⟨rfl,rfl⟩ | ⟨rfl,rfl⟩ | ⟨rfl,rfl⟩<;>kernel_rfl
theorem vH (hp:Pr P Q) (v n:i8) (hv:v.cells=#[n]) (w:i7):(ReflectliteValue.unpack (.iface Q v)).run Tryz.prog w
  = .ok (.agg #[.pointer (some ⟨9,Q,none⟩),.pointer (some ⟨w.heap.size,0,none⟩),.int .u64 153]) (w.alloc (.cells #[n] Q)):=by rw[(bf hp),hv]
set_option maxHeartbeats 8000000 in
set_option maxRecDepth 100000 in
theorem qw (hp:Pr P Q) (v n:i8) (hv:v.cells=#[n]) (U:n.oneCell'=true) (t:Addr) (nd:i8) (w:i7) (hg:w.cell? ⟨0,0,none⟩=some (.iface 138 (.agg #[.pointer (some ⟨9,49,none⟩)]))) (ht0:w.cell? t=some nd) (hf0:w.frozen? t=false) :
  Calls Tryz.prog 48 #[.iface Q v,.iface P (.pointer (some t))] w fun ev w'=>ev=.returned (.bool true)/\w'=((((w.alloc (.cells #[.pointer (some t)] P)).alloc (.cells #[.pointer (some ⟨9,P,none⟩),.pointer (some ⟨w.heap.size,0,none⟩),.int .u64 150] 116)).alloc (.cells #[.pointer (some ⟨9,P,none⟩),.pointer (some ⟨w.heap.size,0,none⟩),.int .u64 150] 116)).alloc (.cells #[n] Q)).setCell t n:=by
 have h6:=@run_callFunc_extern Tryz.prog 74 _ (fun args=>ReflectliteValue.unpack (args.getD 0 (.tuple #[]))) Tryz.func74 (by kernel_rfl) (by kernel_rfl) (by kernel_rfl) (by kernel_rfl);have h7:=@run_callFunc_extern Tryz.prog 75 _ (ReflectliteValue.methodAny (ReflectliteValue.valueError "reflectlite.Value.Type" 0) fun t _ _ _=>ReflectliteType.toType t) Tryz.func75 (by kernel_rfl) (by kernel_rfl) (by kernel_rfl) (by kernel_rfl);have h8:=@run_callFunc_extern Tryz.prog 76 _ (ReflectliteValue.method (ReflectliteValue.valueError "reflectlite.Value.IsNil" 0) ReflectliteValue.isNil) Tryz.func76 (by kernel_rfl) (by kernel_rfl) (by kernel_rfl) (by kernel_rfl);have h27:=@run_callFunc_extern Tryz.prog 241 _ (ReflectliteType.abiMethod fun t=>do pure (.int .u8 (<-Rtype.kind t))) Tryz.func241 (by kernel_rfl) (by kernel_rfl) (by kernel_rfl) (by kernel_rfl);have h37:=@run_callFunc_extern Tryz.prog 252 _ (ReflectliteType.method ReflectliteType.elem) Tryz.func252 (by kernel_rfl) (by kernel_rfl) (by kernel_rfl) (by kernel_rfl);have h38:=@run_callFunc_extern Tryz.prog 253 _ (ReflectliteType.relation "Implements" ReflectliteType.implements_) Tryz.func253 (by kernel_rfl) (by kernel_rfl) (by kernel_rfl) (by kernel_rfl);have h10:=@run_callFunc_extern Tryz.prog 103 _ ReflectliteType.typeOf Tryz.func103 (by kernel_rfl) (by kernel_rfl) (by kernel_rfl) (by kernel_rfl);have h35:=@run_callFunc_extern Tryz.prog 250 _ (ReflectliteType.relation "AssignableTo" ReflectliteType.assignableTo) Tryz.func250 (by kernel_rfl) (by kernel_rfl) (by kernel_rfl) (by kernel_rfl);have h11:=@run_callFunc_extern Tryz.prog 104 _ (ReflectliteValue.method (ReflectliteValue.valueError "reflectlite.Value.Elem" 0) ReflectliteValue.elem) Tryz.func104 (by kernel_rfl) (by kernel_rfl) (by kernel_rfl) (by kernel_rfl);have h12:=@run_callFunc_extern Tryz.prog 105 _ ReflectliteValue.set Tryz.func105 (by kernel_rfl) (by kernel_rfl) (by kernel_rfl) (by kernel_rfl);have tO:=(Tryz.zbi hp);have mA:=Tryz.nX;have a25:=(Tryz.qv hp);have v25:=vH hp v n hv;have f6:=(Tryz.vG hp);have f7:=(Tryz.type27 hp);have mK:=Tryz.rY;have mE:=Tryz.rZ;have mI:=Tryz.oE;have k27:=(Tryz.kind27 hp);have k25:=(Tryz.kind25 hp);have e27:=(Tryz.elem27 hp);have i25:=(Tryz.qu hp);have n8:=(Tryz.isNil27 hp) ⟨w.heap.size,0,none⟩ t ((w.alloc (.cells #[.pointer (some t)] P)).alloc (.cells #[.pointer (some ⟨9,P,none⟩),.pointer (some ⟨w.heap.size,0,none⟩),.int .u64 150] 116)) (by simp);have jP:0 < w.heap.size:=by rcases gL w.heap.size with h0 | h;{simp[World.cell?,h0] at hg};{exact h}
 have hg2:((w.alloc (.cells #[.pointer (some t)] P)).alloc (.cells #[.pointer (some ⟨9,P,none⟩),.pointer (some ⟨w.heap.size,0,none⟩),.int .u64 150] 116)).cell? ⟨0,0,none⟩=some (.iface 138 (.agg #[.pointer (some ⟨9,49,none⟩)])):=by rw[World.cell?_alloc_lt _ _ ⟨0,0,none⟩ (by simp),World.cell?_alloc_lt _ _ ⟨0,0,none⟩ jP];exact hg
 have htl:t.block < w.heap.size:=by rcases Nat.lt_or_ge t.block w.heap.size with h | h;{exact h};{simp[World.cell?,iq h] at ht0}
 have el:=(Tryz.elemV27 hp) ⟨w.heap.size,0,none⟩ t (((w.alloc (.cells #[.pointer (some t)] P)).alloc (.cells #[.pointer (some ⟨9,P,none⟩),.pointer (some ⟨w.heap.size,0,none⟩),.int .u64 150] 116)).alloc (.cells #[.pointer (some ⟨9,P,none⟩),.pointer (some ⟨w.heap.size,0,none⟩),.int .u64 150] 116)) (by rw[World.cell?_alloc_lt _ _ ⟨w.heap.size,0,none⟩ (by simp;omega)];simp)
 have Z:=(Tryz.set25 hp) t ⟨w.heap.size+1+1+1,0,none⟩ n nd U ((((w.alloc (.cells #[.pointer (some t)] P)).alloc (.cells #[.pointer (some ⟨9,P,none⟩),.pointer (some ⟨w.heap.size,0,none⟩),.int .u64 150] 116)).alloc (.cells #[.pointer (some ⟨9,P,none⟩),.pointer (some ⟨w.heap.size,0,none⟩),.int .u64 150] 116)).alloc (.cells #[n] Q))
  (by rw[World.cell?_alloc_at _ _ _ _ (by simp)];rfl)
  (by rw[World.cell?_alloc_lt _ _ t (by simp;omega),World.cell?_alloc_lt _ _ t (by simp;omega),World.cell?_alloc_lt _ _ t (by simp;omega),World.cell?_alloc_lt _ _ t htl];exact ht0)
  (by rw[World.frozen?_alloc_old _ _ t (by simp;omega),World.frozen?_alloc_old _ _ t (by simp;omega),World.frozen?_alloc_old _ _ t (by simp;omega),World.frozen?_alloc_old _ _ t (Nat.ne_of_lt htl)];exact hf0)
 go_enter Tryz.func48,Tryz.ntmps48
 go_wp2
 refine wp_loop_rounds 1 ?_;rw[rounds_succ]
 go_wp2
 go_ret
 exact⟨rfl,rfl⟩
end Go.Proofs.qg


namespace Go.Proofs.q9
open Go.RowKit Go.Extern.Stop Go.Stop Go.Extern Go.Proofs
theorem Ua (v:i8) (w:i7):(Extern.ReflectliteType.typeOf #[.iface 260 v]).run Tryz.prog w=.ok (.iface 138 (.agg #[.pointer (some ⟨9,260,none⟩)])) w:=by kernel_rfl
theorem SG (w:i7):((Extern.ReflectliteType.method fun t=>do Extern.Rtype.noPackHeld "Comparable" t;(fun a=>Value.bool a.comparable) <$> typeInfo t) #[.agg #[.pointer (some ⟨9,260,none⟩)]]).run Tryz.prog w=.ok (.bool true) w:=by kernel_rfl
theorem Sz (v:i8) (w:i7):(Go.method 391 138 v "Comparable").run Tryz.prog w=.ok (251,v) w:=by kernel_rfl
theorem zbm:(Tryz.prog.info? 260).map (·.comparable)=some true:=by kernel_rfl
theorem zbn:(Tryz.prog.info? 279).map (·.size)=some 1:=by kernel_rfl
theorem noIs265 (v:i8) (xT:je) (w:i7):(Instr.typeAssert (.iface 260 v) xT 257 true).run Tryz.prog w=.ok (.tuple #[.nilIface,.bool false]) w:=run_typeAssert_lacksB Tryz.underlying257 (by kernel_rfl) (by kernel_rfl) v xT w
theorem noUn265 (v:i8) (xT:je) (w:i7):(Instr.typeAssert (.iface 260 v) xT 146 true).run Tryz.prog w=.ok (.tuple #[.nilIface,.bool false]) w:=run_typeAssert_lacksB Tryz.underlying146 (by kernel_rfl) (by kernel_rfl) v xT w
theorem noUs265 (v:i8) (xT:je) (w:i7):(Instr.typeAssert (.iface 260 v) xT 148 true).run Tryz.prog w=.ok (.tuple #[.nilIface,.bool false]) w:=run_typeAssert_lacksB Tryz.underlying148 (by kernel_rfl) (by kernel_rfl) v xT w
theorem noIs143 (v:i8) (xT:je) (w:i7):(Instr.typeAssert (.iface 205 v) xT 257 true).run Tryz.prog w=.ok (.tuple #[.nilIface,.bool false]) w:=run_typeAssert_lacksB Tryz.underlying257 (by kernel_rfl) (by kernel_rfl) v xT w
theorem noUn143 (v:i8) (xT:je) (w:i7):(Instr.typeAssert (.iface 205 v) xT 146 true).run Tryz.prog w=.ok (.tuple #[.nilIface,.bool false]) w:=run_typeAssert_lacksB Tryz.underlying146 (by kernel_rfl) (by kernel_rfl) v xT w
theorem noUs143 (v:i8) (xT:je) (w:i7):(Instr.typeAssert (.iface 205 v) xT 148 true).run Tryz.prog w=.ok (.tuple #[.nilIface,.bool false]) w:=run_typeAssert_lacksB Tryz.underlying148 (by kernel_rfl) (by kernel_rfl) v xT w
set_option maxHeartbeats 1000000 in
set_option maxRecDepth 100000 in
theorem is_same (a:Addr) (w:i7) :
  Calls Tryz.prog 194 #[.iface 260 (.pointer (some a)),.iface 260 (.pointer (some a))] w fun e w'=>e=.returned (.bool true)/\w'=w:=by
 obtain⟨i,hi,hcmp⟩:=dG.1 zbm;obtain⟨j,hj,hjs⟩:=dG.1 zbn;have h8:=@run_callFunc_extern Tryz.prog 103 _ Extern.ReflectliteType.typeOf Tryz.func103 (by kernel_rfl) (by kernel_rfl) (by kernel_rfl) (by kernel_rfl);have h32:=@run_callFunc_extern Tryz.prog 251 _ (Extern.ReflectliteType.method fun t=>do Extern.Rtype.noPackHeld "Comparable" t;pure (.bool (<-typeInfo t).comparable)) Tryz.func251 (by kernel_rfl) (by kernel_rfl) (by kernel_rfl) (by kernel_rfl);have tT:=Ua;have cT:=SG;have mR:=Sz;have heq:=run_eql_iface_ptr_same (P:=Tryz.prog) w a Tryz.underlying49 Tryz.underlying260 hi hcmp hj
 go_enter Tryz.func194,Tryz.ntmps194
 go_wp2
 refine wp_loop_rounds 1 ?_;rw[rounds_succ]
 go_wp2
 go_ret
 exact⟨rfl,rfl⟩
set_option maxHeartbeats 1000000 in
set_option maxRecDepth 100000 in
theorem is_nil (b:Addr) (w:i7) :
  Calls Tryz.prog 194 #[.nilIface,.iface 260 (.pointer (some b))] w fun e w'=>e=.returned (.bool false)/\w'=w:=by
 have hn:=run_eql_iface_nil_left (P:=Tryz.prog) w 260 (.pointer (some b)) Tryz.underlying49
 go_enter Tryz.func194,Tryz.ntmps194
 go_wp2
 go_ret
 exact⟨rfl,rfl⟩
set_option maxHeartbeats 1000000 in
set_option maxRecDepth 100000 in
theorem zbo (a b:Addr) (ca cb:Array i8) (ta tb:je) (w:i7) (jW:a≠b) (ha:w.heap[a.block]?=some (.cells ca ta (0,0))) (hb:w.heap[b.block]?=some (.cells cb tb (0,0))) :
  Calls Tryz.prog 194 #[.iface 260 (.pointer (some a)),.iface 260 (.pointer (some b))] w fun e w'=>e=.returned (.bool false)/\w'=w:=by
 obtain⟨i,hi,hcmp⟩:=dG.1 zbm;obtain⟨j,hj,hjs⟩:=dG.1 zbn;have h8:=@run_callFunc_extern Tryz.prog 103 _ Extern.ReflectliteType.typeOf Tryz.func103 (by kernel_rfl) (by kernel_rfl) (by kernel_rfl) (by kernel_rfl);have h32:=@run_callFunc_extern Tryz.prog 251 _ (Extern.ReflectliteType.method fun t=>do Extern.Rtype.noPackHeld "Comparable" t;pure (.bool (<-typeInfo t).comparable)) Tryz.func251 (by kernel_rfl) (by kernel_rfl) (by kernel_rfl) (by kernel_rfl);have tT:=Ua;have cT:=SG;have mR:=Sz;have nE:=noIs265;have uE:=noUn265;have vE:=noUs265;have heq:=run_eql_iface_ptr_other (P:=Tryz.prog) w Tryz.underlying49 Tryz.underlying260 hi hcmp hj (by rw[hjs];decide) jW ha hb
 go_enter Tryz.func194,Tryz.ntmps194
 go_wp2
 refine wp_loop_rounds 1 ?_;rw[rounds_succ]
 go_wp2
 go_ret
 exact⟨rfl,rfl⟩
set_option maxHeartbeats 1000000 in
set_option maxRecDepth 100000 in
theorem r5 (v:i8) (b:Addr) (w:i7) :
  Calls Tryz.prog 194 #[.iface 205 v,.iface 260 (.pointer (some b))] w fun e w'=>e=.returned (.bool false)/\w'=w:=by
 have h8:=@run_callFunc_extern Tryz.prog 103 _ Extern.ReflectliteType.typeOf Tryz.func103 (by kernel_rfl) (by kernel_rfl) (by kernel_rfl) (by kernel_rfl);have h32:=@run_callFunc_extern Tryz.prog 251 _ (Extern.ReflectliteType.method fun t=>do Extern.Rtype.noPackHeld "Comparable" t;pure (.bool (<-typeInfo t).comparable)) Tryz.func251 (by kernel_rfl) (by kernel_rfl) (by kernel_rfl) (by kernel_rfl);have tT:=Ua;have cT:=SG;have mR:=Sz;have nE:=noIs143;have uE:=noUn143;have vE:=noUs143;have hty:=run_eql_iface_types (P:=Tryz.prog) 205 260 v (.pointer (some b)) Tryz.underlying49 (by decide) w
 go_enter Tryz.func194,Tryz.ntmps194
 go_wp2
 refine wp_loop_rounds 1 ?_;rw[rounds_succ]
 go_wp2
 go_ret
 exact⟨rfl,rfl⟩
end Go.Proofs.q9


namespace Go.Proofs.qx
open Go.RowKit Go.Proofs
theorem lies_b:liesAt Tryz.prog Tryz.prog.depth 79 (2 / Tryz.prog.cellsOf 79) 0 79 1=true:=by kernel_rfl
theorem info_b':(Tryz.prog.info? 79).map (·.size)=some 2:=by kernel_rfl
theorem zbp:∃ j,Tryz.prog.info? 79=some j/\j.size=2:=dG.1 info_b'
theorem cells5:Tryz.prog.cellsOf 5=1:=by kernel_rfl
set_option maxHeartbeats 1000000 in
set_option maxRecDepth 100000 in
theorem r6 (b:Nat) (w:i7) (h0:w.cell? ⟨b,0,none⟩=some (.pointer (some ⟨b,0,none⟩))) :
  Calls Tryz.prog 71 #[.pointer (some ⟨b,0,none⟩)] w fun e w'=>e=.returned (.tuple #[])/\w'=w:=by
 obtain⟨j,hj,_⟩:=zbp
 go_enter Tryz.func71,Tryz.ntmps71
 go_wp2
 rw[Lib.run_neq_ptr_same w _ Tryz.underlying76 hj]
 go_wp2
 go_end0
 exact⟨rfl,rfl⟩
set_option maxHeartbeats 1000000 in
set_option maxRecDepth 100000 in
theorem ri (b:Nat) (w:i7) (h0:w.cell? ⟨b,0,none⟩=some (.pointer none)) (lP:w.shape? b=some (79,2)) (vU:w.frozen? ⟨b,0,none⟩=false) :
  Calls Tryz.prog 71 #[.pointer (some ⟨b,0,none⟩)] w fun e w'=>e=.returned (.tuple #[])/\w'=w.setCell ⟨b,0,none⟩ (.pointer (some ⟨b,0,none⟩)):=by
 obtain⟨j,hj,hjs⟩:=zbp
 go_enter Tryz.func71,Tryz.ntmps71
 go_wp2
 rw[Lib.run_to_unsafe w ⟨b,0,none⟩ Tryz.underlying76 Tryz.underlying113 hj (by rw[hjs];decide) lP (Nat.zero_lt_succ 1)];simp only[Result.andThen];rw[Oper.upon_value]
 go_wp2
 rw[run_callFunc_extern Tryz.func97 (by kernel_rfl) (by kernel_rfl) (by kernel_rfl) (e:=Extern.AbiNoEscape.same) (by kernel_rfl)];rw[Lib.run_noEscape];simp only[Result.andThen];rw[Oper.upon_value]
 go_wp2
 rw[Lib.run_from_unsafe w ⟨b,0,none⟩ Tryz.underlying113 Tryz.underlying76 hj lP lies_b];simp only[Result.andThen];rw[Oper.upon_value]
 go_wp2
 go_end0
 exact⟨rfl,rfl⟩
set_option maxHeartbeats 1000000 in
set_option maxRecDepth 100000 in
theorem rj (b g cap:Nat) (p:i8) (cur:Array i8) (l:ji) (w:i7) (hbk:w.heap[b]?=some (.cells #[p,.slice (some ⟨g,0,none⟩) l.length cap] 79 (0,0)))
  (hg:w.heap[g]?=some (.cells cur 5 (0,0))) (h0:l≠[]) (pa:l.length<=cap) (lY:l.length<=cur.size) (h63:l.length<=9223372036854775807) (hl:∀ (j:Nat) (x:UInt8),l[j]?=some x->cur[j]?=some (Value.int .u8 (x.toNat:Int))) :
  Calls Tryz.prog 47 #[.pointer (some ⟨b,0,none⟩)] w fun e w'=>e=.returned (.string ⟨l.toArray⟩)/\w'=w.drew.freeze ⟨g,0,none⟩ l.length:=by
 have pr:l.length≠0:=by simpa using h0
 have c1:w.drew.cell? ⟨b,1,none⟩=some (.slice (some ⟨g,0,none⟩) l.length cap):=by have:w.drew.heap[b]?=some (.cells #[p,.slice (some ⟨g,0,none⟩) l.length cap] 79 (0,0)):=hbk;rw[Lib.cell_of_heap this];rfl
 have hSD:(Builtin.unsafeSliceData_ #[77] 112 #[.slice (some ⟨g,0,none⟩) l.length cap]).run Tryz.prog w.drew=.ok (.pointer (some ⟨g,0,none⟩)) w.drew :=
  Lib.run_unsafeSliceData_row _ _ _ _ _ _ (by omega)
 have hUS:(Builtin.unsafeString_ #[112,3] 9 #[.pointer (some ⟨g,0,none⟩),.int .i64 l.length]).run Tryz.prog w.drew=.ok (.string ⟨l.toArray⟩) (w.drew.freeze ⟨g,0,none⟩ l.length):=by
  refine Lib.run_unsafeString_row w.drew 112 3 9 5 Tryz.underlying112 cells5 g cur.size (by have vY:w.drew.heap[g]?=some (.cells cur 5 (0,0)):=hg;simp[World.shape?,vY]) l h0 lY h63 ?_;intro j x A;have vY:w.drew.heap[g]?=some (.cells cur 5 (0,0)):=hg;have e:((⟨g,0,none⟩:Addr).add j)=⟨g,j,none⟩:=by cases j<;>simp[Addr.add]
  rw[e,Lib.cell_of_heap vY];exact hl j x A
 have mixed:Tryz.prog.follows .mixedOrders=true:=by kernel_rfl
 go_enter Tryz.func47,Tryz.ntmps47
 go_wp2
 go_region_o
 all_goals (go_wp2;go_ret;exact⟨rfl,rfl⟩)
set_option maxHeartbeats 1000000 in
set_option maxRecDepth 100000 in
theorem r7 (b:Nat) (p:i8) (w:i7) (hbk:w.heap[b]?=some (.cells #[p,.slice none 0 0] 79 (0,0))) :
  Calls Tryz.prog 47 #[.pointer (some ⟨b,0,none⟩)] w fun e w'=>e=.returned (.string ⟨#[]⟩)/\w'=w.drew:=by
 have hUS:∀ zzd q,(Builtin.unsafeString_ #[112,3] 9 #[.pointer q,.int .i64 0]).run Tryz.prog zzd=.ok (.string .empty) zzd:=fun zzd q=>Lib.run_unsafeString_none zzd _ _ _ q;have c1:w.drew.cell? ⟨b,1,none⟩=some (.slice none 0 0):=by have:w.drew.heap[b]?=some (.cells #[p,.slice none 0 0] 79 (0,0)):=hbk;rw[Lib.cell_of_heap this];rfl
 have hSD:(Builtin.unsafeSliceData_ #[77] 112 #[.slice none 0 0]).run Tryz.prog w.drew=.ok (.pointer none) w.drew:=rfl;have mixed:Tryz.prog.follows .mixedOrders=true:=by kernel_rfl
 go_enter Tryz.func47,Tryz.ntmps47
 go_wp2
 go_region_o
 all_goals (go_wp2;go_ret;exact⟨rfl,rfl⟩)
end Go.Proofs.qx


namespace Go.Proofs
open Go.Shelf Go.RowKit Go.Sort Go.Lib
def Tryz.oO:Go.Shelf.Ren:=⟨fun | 154=>72 | 138=>98 | 165=>99 | 143=>100 | 166=>44 | 197=>101 | 169=>47 | 195=>125 | 218=>126 | 240=>71 | 241=>127 | 219=>128 | 260=>129 | 276=>97 | 277=>178 | 217=>179 | 225=>180 | 224=>181 | 267=>182 | 266=>205 | 314=>206 | n=>n,fun | 9=>9 | 3=>3 | 4=>4 | 72=>79 | 0=>0 | 76=>80 | 105=>135 | 21=>21 | 5=>5 | 70=>76 | 20=>20 | 37=>77 | 75=>49 | 127=>112 | 164=>113 | 46=>216 | 119=>217 | 139=>220 | 138=>219 | 146=>241 | 51=>56 | 80=>84 | n=>n,fun | 1=>1 | 3=>2 | 4=>3 | n=>n⟩
theorem Tryz.om:Go.Proofs.Lays.n154 Tryz.prog Tryz.oO:={
 mixed:=by kernel_rfl
 f138:=Tryz.func98.trans (iP some (by kernel_rfl))
 f143:=Tryz.func100.trans (iP some (by kernel_rfl))
 f154:=Tryz.func72.trans (iP some (by kernel_rfl))
 f165:=Tryz.func99.trans (iP some (by kernel_rfl))
 f166:=Tryz.func44.trans (iP some (by kernel_rfl))
 f169:=Tryz.func47.trans (iP some (by kernel_rfl))
 f195:=Tryz.func125.trans (iP some (by kernel_rfl))
 f197:=Tryz.func101.trans (iP some (by kernel_rfl))
 f217:=Tryz.func179.trans (iP some (by kernel_rfl))
 f218:=Tryz.func126.trans (iP some (by kernel_rfl))
 f219:=Tryz.func128.trans (iP some (by kernel_rfl))
 f224:=Tryz.func181.trans (iP some (by kernel_rfl))
 f225:=Tryz.func180.trans (iP some (by kernel_rfl))
 f240:=Tryz.func71.trans (iP some (by kernel_rfl))
 f241:=Tryz.func127.trans (iP some (by kernel_rfl))
 f260:=Tryz.func129.trans (iP some (by kernel_rfl))
 f266:=Tryz.func205.trans (iP some (by kernel_rfl))
 f267:=Tryz.func182.trans (iP some (by kernel_rfl))
 f276:=Tryz.func97.trans (iP some (by kernel_rfl))
 f277:=Tryz.func178.trans (iP some (by kernel_rfl))
 f314:=Tryz.func206.trans (iP some (by kernel_rfl))
 t0:=Tryz.underlying0
 a0:=Tryz.isAgg0
 z0:=Tryz.sizeOf0
 v0:=Tryz.zeroValue0
 t3:=Tryz.underlying3
 a3:=Tryz.isAgg3
 z3:=Tryz.sizeOf3
 v3:=Tryz.zeroValue3
 t4:=Tryz.underlying4
 a4:=Tryz.isAgg4
 z4:=Tryz.sizeOf4
 v4:=Tryz.zeroValue4
 t5:=Tryz.underlying5
 a5:=Tryz.isAgg5
 z5:=Tryz.sizeOf5
 v5:=Tryz.zeroValue5
 t9:=Tryz.underlying9
 a9:=Tryz.isAgg9
 z9:=Tryz.sizeOf9
 v9:=Tryz.zeroValue9
 t20:=Tryz.underlying20
 a20:=Tryz.isAgg20
 z20:=Tryz.sizeOf20
 v20:=Tryz.zeroValue20
 t21:=Tryz.underlying21
 a21:=Tryz.isAgg21
 z21:=Tryz.sizeOf21
 v21:=Tryz.zeroValue21
 t37:=Tryz.underlying77
 a37:=Tryz.isAgg77
 z37:=Tryz.sizeOf77
 v37:=Tryz.zeroValue77
 t46:=Tryz.underlying216
 a46:=Tryz.isAgg216
 z46:=Tryz.sizeOf216
 v46:=Tryz.zeroValue216
 t51:=Tryz.underlying56
 a51:=Tryz.isAgg56
 z51:=Tryz.sizeOf56
 v51:=Tryz.zeroValue56
 t70:=Tryz.underlying76
 a70:=Tryz.isAgg76
 z70:=Tryz.sizeOf76
 v70:=Tryz.zeroValue76
 t72:=Tryz.underlying79
 a72:=Tryz.isAgg79
 z72:=Tryz.sizeOf79
 v72:=Tryz.zeroValue79
 t75:=Tryz.underlying49
 a75:=Tryz.isAgg49
 z75:=Tryz.sizeOf49
 v75:=Tryz.zeroValue49
 t76:=Tryz.underlying80
 a76:=Tryz.isAgg80
 z76:=Tryz.sizeOf80
 v76:=Tryz.zeroValue80
 t105:=Tryz.underlying135
 a105:=Tryz.isAgg135
 z105:=Tryz.sizeOf135
 v105:=Tryz.zeroValue135
 t119:=Tryz.underlying217
 a119:=Tryz.isAgg217
 z119:=Tryz.sizeOf217
 t127:=Tryz.underlying112
 a127:=Tryz.isAgg112
 z127:=Tryz.sizeOf112
 v127:=Tryz.zeroValue112
 t138:=Tryz.underlying219
 a138:=Tryz.isAgg219
 z138:=Tryz.sizeOf219
 v138:=Tryz.zeroValue219
 t139:=Tryz.underlying220
 a139:=Tryz.isAgg220
 z139:=Tryz.sizeOf220
 v139:=Tryz.zeroValue220
 t146:=Tryz.underlying241
 a146:=Tryz.isAgg241
 z146:=Tryz.sizeOf241
 v146:=Tryz.zeroValue241
 t164:=Tryz.underlying113
 a164:=Tryz.isAgg113
 z164:=Tryz.sizeOf113
 v164:=Tryz.zeroValue113
 g1:=by kernel_rfl
 g3:=by kernel_rfl
 g4:=by kernel_rfl}
theorem Tryz.extra:Builder.Extra Tryz.prog Tryz.oO where
 sizeBuilder:=by kernel_rfl
 liesBuilder:=by kernel_rfl
 t5:=Tryz.om.t5
 a5:=Tryz.om.a5
 z5:=Tryz.om.z5
 v5:=Tryz.om.v5
 infoByte:=by kernel_rfl
 cellsByte:=by kernel_rfl
 sizeByte:=by kernel_rfl
 neB5:=by decide
def Tryz.rk:Go.Shelf.Ren:=⟨fun | 173=>73 | 246=>102 | 283=>130 | 284=>131 | 285=>132 | 286=>133 | 129=>184 | 317=>183 | 318=>185 | 319=>186 | 320=>187 | 337=>207 | 338=>208 | n=>n,fun | 2=>2 | 3=>3 | 9=>9 | 4=>4 | 171=>182 | 0=>0 | 53=>183 | 37=>77 | 5=>5 | 173=>186 | 212=>222 | 51=>56 | 20=>20 | 213=>223 | 46=>216 | 232=>253 | 233=>254 | n=>n,fun | 17=>4 | 18=>7 | 19=>8 | n=>n⟩
theorem Tryz.lays173:Go.Proofs.LaysM.n173 Tryz.prog Tryz.rk:={
 mixed:=by kernel_rfl
 f129:=Tryz.func184.trans (iP some (by kernel_rfl))
 f173:=Tryz.func73.trans (iP some (by kernel_rfl))
 f246:=Tryz.func102.trans (iP some (by kernel_rfl))
 f283:=Tryz.func130.trans (iP some (by kernel_rfl))
 f284:=Tryz.func131.trans (iP some (by kernel_rfl))
 f285:=Tryz.func132.trans (iP some (by kernel_rfl))
 f286:=Tryz.func133.trans (iP some (by kernel_rfl))
 f317:=Tryz.func183.trans (iP some (by kernel_rfl))
 f318:=Tryz.func185.trans (iP some (by kernel_rfl))
 f319:=Tryz.func186.trans (iP some (by kernel_rfl))
 f320:=Tryz.func187.trans (iP some (by kernel_rfl))
 f337:=Tryz.func207.trans (iP some (by kernel_rfl))
 f338:=Tryz.func208.trans (iP some (by kernel_rfl))
 t0:=Tryz.underlying0
 a0:=Tryz.isAgg0
 z0:=Tryz.sizeOf0
 v0:=Tryz.zeroValue0
 t2:=Tryz.underlying2
 a2:=Tryz.isAgg2
 z2:=Tryz.sizeOf2
 v2:=Tryz.zeroValue2
 t3:=Tryz.underlying3
 a3:=Tryz.isAgg3
 z3:=Tryz.sizeOf3
 v3:=Tryz.zeroValue3
 t4:=Tryz.underlying4
 a4:=Tryz.isAgg4
 z4:=Tryz.sizeOf4
 v4:=Tryz.zeroValue4
 t5:=Tryz.underlying5
 a5:=Tryz.isAgg5
 z5:=Tryz.sizeOf5
 v5:=Tryz.zeroValue5
 t9:=Tryz.underlying9
 a9:=Tryz.isAgg9
 z9:=Tryz.sizeOf9
 v9:=Tryz.zeroValue9
 t20:=Tryz.underlying20
 a20:=Tryz.isAgg20
 z20:=Tryz.sizeOf20
 v20:=Tryz.zeroValue20
 t37:=Tryz.underlying77
 a37:=Tryz.isAgg77
 z37:=Tryz.sizeOf77
 v37:=Tryz.zeroValue77
 t46:=Tryz.underlying216
 a46:=Tryz.isAgg216
 z46:=Tryz.sizeOf216
 v46:=Tryz.zeroValue216
 t51:=Tryz.underlying56
 a51:=Tryz.isAgg56
 z51:=Tryz.sizeOf56
 v51:=Tryz.zeroValue56
 t53:=Tryz.underlying183
 a53:=Tryz.isAgg183
 z53:=Tryz.sizeOf183
 v53:=Tryz.zeroValue183
 t171:=Tryz.underlying182
 a171:=Tryz.isAgg182
 z171:=Tryz.sizeOf182
 v171:=Tryz.zeroValue182
 t173:=Tryz.underlying186
 a173:=Tryz.isAgg186
 z173:=Tryz.sizeOf186
 v173:=Tryz.zeroValue186
 t212:=Tryz.underlying222
 a212:=Tryz.isAgg222
 z212:=Tryz.sizeOf222
 v212:=Tryz.zeroValue222
 t213:=Tryz.underlying223
 a213:=Tryz.isAgg223
 z213:=Tryz.sizeOf223
 t232:=Tryz.underlying253
 a232:=Tryz.isAgg253
 z232:=Tryz.sizeOf253
 v232:=Tryz.zeroValue253
 t233:=Tryz.underlying254
 a233:=Tryz.isAgg254
 z233:=Tryz.sizeOf254
 v233:=Tryz.zeroValue254
 g17:=by kernel_rfl
 g18:=by kernel_rfl
 g19:=by kernel_rfl
 i0:=by kernel_rfl
 i2:=by kernel_rfl
 i3:=by kernel_rfl
 i4:=by kernel_rfl
 i5:=by kernel_rfl
 i9:=by kernel_rfl
 i20:=by kernel_rfl
 i37:=by kernel_rfl
 i46:=by kernel_rfl
 i51:=by kernel_rfl
 i53:=by kernel_rfl
 i171:=by kernel_rfl
 i173:=by kernel_rfl
 i212:=by kernel_rfl
 i232:=by kernel_rfl
 i233:=by kernel_rfl
 m17:=by kernel_rfl
 m18:=by kernel_rfl
 m19:=by kernel_rfl}
namespace zbq
theorem zbr (s nd new:ByteArray) (n m:Int) (w:i7) (hs:s.size < 4294967281) (hm:w.cell? ⟨1,0,none⟩=some (.int .i64 m)) (U:1<=nd.size) (hlen:s.size+Lib.countB s nd*new.size<=140737488355328) :
  Calls Tryz.prog 72 #[.string s,.string nd,.string new,.int .i64 n] w fun e w'=>e=.returned (.string ⟨(Lib.replace s.data.toList nd.data.toList new.data.toList n).toArray⟩)/\Below w.heap.size w w' :=
 Any.strings_Replace Tryz.om Tryz.extra s nd new n m w hs hm U hlen
theorem fmt_run (n:Int) (h0 : -9223372036854775808<=n) (U:n<=9223372036854775807) (w:i7) (ht:Lib.TabIs Tryz.prog w "internal/strconv.uint64pow10" .u64 Lib.pow10Tab) :
  Calls Tryz.prog 73 #[.int .i64 n,.int .i64 10] w fun e w'=>e=.returned (.string ⟨(Lib.itoa n).toArray⟩)/\∃ k os,w'=grow (w.drewN k) os :=
 Any.strconv_FormatInt_10 Tryz.lays173 n h0 U w ht
end zbq
end Go.Proofs


namespace Go.Proofs.rp
open Go
abbrev link:Go.Conc.Locks.MuLink:={lock:=135,unlock:=136,ilock:=188,iunlock:=189,lockSlow:=213,unlockSlow:=216,disable:=209,enable:=211,acquire:=212,relMerge:=214,cas32:=210,add32:=215,tIMutex:=60,tMutex:=62,tPMutex:=226,tPIMutex:=244,tPI32:=246,tUP:=113,tNoCopy:=54,tU32:=56}
theorem lib:Go.Conc.Locks.MuLib Tryz.prog link :=
 ⟨Tryz.func135,Tryz.func136,Tryz.func188,Tryz.func189,Tryz.func209,Tryz.func211,Tryz.func212,Tryz.func214,Tryz.func210,Tryz.func215,Tryz.underlying60,Tryz.runUnderlying60,Tryz.sizeOf60,Tryz.isAgg60,Tryz.zeroValue60,Tryz.underlying62,Tryz.runUnderlying62,Tryz.sizeOf62,Tryz.isAgg62,Tryz.zeroValue62,Tryz.underlying226,Tryz.runUnderlying226,Tryz.sizeOf226,Tryz.isAgg226,Tryz.zeroValue226,Tryz.underlying244,Tryz.runUnderlying244,Tryz.sizeOf244,Tryz.isAgg244,Tryz.zeroValue244,Tryz.underlying246,Tryz.runUnderlying246,Tryz.sizeOf246,Tryz.isAgg246,Tryz.zeroValue246,Tryz.underlying113,Tryz.runUnderlying113,Tryz.sizeOf113,Tryz.isAgg113,Tryz.zeroValue113,Tryz.underlying54,Tryz.runUnderlying54,Tryz.sizeOf54,Tryz.isAgg54,Tryz.zeroValue54,Tryz.underlying21,Tryz.runUnderlying21,Tryz.sizeOf21,Tryz.isAgg21,Tryz.zeroValue21,(by kernel_rfl)⟩
theorem load (a:Addr) (y:Int) (w:i7) (h:w.cell? a=some (.int .u32 y)):(callFunc 134 #[.pointer (some a)]).run Tryz.prog w=.ok (.value (.int .u32 y)) w :=
 run_call_load (P:=Tryz.prog) Tryz.func134 (by kernel_rfl) (by kernel_rfl) (by kernel_rfl) .u32 (by kernel_rfl) h
theorem store (a:Addr) (y0 y:Int) (w:i7) (h:w.cell? a=some (.int .u32 y0)) (hz:w.frozen? a=false):(callFunc 190 #[.pointer (some a),.int .u32 y]).run Tryz.prog w=.ok (.value (.tuple #[])) (w.setCell a (.int .u32 y)) :=
 run_call_store (P:=Tryz.prog) Tryz.func190 (by kernel_rfl) (by kernel_rfl) (by kernel_rfl) (by kernel_rfl) h hz
theorem lock (a:Addr) (w:i7) (h:w.cell? a=some (.int .i32 0)) (hz:w.frozen? a=false):Calls Tryz.prog 188 #[.pointer (some a)] w fun e w'=>e=.returned (.tuple #[])/\w'=w.setCell a (.int .i32 1):=Go.MuLone.ilock_free lib a w h hz
theorem unlock (a:Addr) (w:i7) (h:w.cell? a=some (.int .i32 1)) (hz:w.frozen? a=false):Calls Tryz.prog 189 #[.pointer (some a)] w fun e w'=>e=.returned (.tuple #[])/\w'=w.setCell a (.int .i32 0):=Go.MuLone.iunlock_held lib a w h hz
end Go.Proofs.rp


namespace Go.Proofs.qx
open Go.RowKit Go.Proofs
theorem info2':(Tryz.prog.info? 2).map (fun i=>(i.zero,i.size,i.bytes))=some (some (.int .i64 0),1,8):=by kernel_rfl
theorem info2:∃ i z,Tryz.prog.info? 2=some i/\i.zero=some z/\i.size=1/\i.bytes=8/\z=.int .i64 0:=by obtain⟨i,U,O⟩:=dG.1 info2';simp only[eC] at O;exact⟨i,_,U,O.1,O.2.1,O.2.2,rfl⟩
set_option maxHeartbeats 1000000 in
set_option maxRecDepth 100000 in
theorem vI (w:i7):Calls Tryz.prog 218 #[.slice none 0 0,.int .i64 0] w fun e w'=>e=.returned (.slice none 0 0)/\w'=w:=by
 go_enter Tryz.func218,Tryz.ntmps218
 go_wp2
 go_ret
 exact⟨rfl,rfl⟩
set_option maxHeartbeats 4000000 in
set_option maxRecDepth 100000 in
theorem vJ (n:Nat) (w:i7) (h0:0 < n) (hn:n<=1000000):Calls Tryz.prog 218 #[.slice none 0 0,.int .i64 n] w fun e w' =>
  ∃ G row,e=.returned (.slice (some ⟨w.heap.size,0,none⟩) 0 G)/\G<=row.size/\w'=w.drew.alloc (.cells row 2):=by
 obtain⟨i0,z,hi0,hz0,hs0,hb0,rfl⟩:=info2;have U:¬ ((n:Int) < 0):=by omega
 have h3:wrap64 ((n:Int) - 0)=(n:Int):=by unfold wrap64;omega
 have h4:(n:Int)>0:=by omega
 have hrz:∀ ty,(Builtin.append_ #[22,3] ty #[.slice none 0 0,.int .i64 (n:Int)]).run Tryz.prog w =
   .ok (.slice (some ⟨w.heap.size,0,none⟩) n (grownCap w n 0 2)) (w.drew.alloc (.cells ((#[]:Array i8)++Builtin.zeroCells (Value.int .i64 0).cells n++Builtin.zeroCells (Value.int .i64 0).cells (grownCap w n 0 2 - n)) 2)):=fun ty=>by
  have h:=Lib.run_append_grow_zeros (P:=Tryz.prog) w 22 3 ty 2 i0 (.int .i64 0) .i64 .i64 Tryz.underlying22 Tryz.underlying3 hi0 hz0 none 0 0 [] (by rw[hs0];exact run_firstCells_none w.drew 1 0 0 0) n h0 (by omega) (by omega) (by omega) (by rw[hb0];omega)
   (growslice_fits (by omega) (by rw[hb0];omega))
  rw[eu] at h;exact h
 have hGn:n<=grownCap w n 0 2:=grownCap_ge w _ _ _;have hG63:grownCap w n 0 2<=9223372036854775807:=by have:=grownCap_le_maxLen w n 0 2 (by unfold maxLen;omega);unfold maxLen at this;omega
 obtain⟨row,rI⟩:∃ row,row=((#[]:Array i8)++Builtin.zeroCells (Value.int .i64 0).cells n++Builtin.zeroCells (Value.int .i64 0).cells (grownCap w n 0 2 - n)):=⟨_,rfl⟩;have kS:grownCap w n 0 2<=row.size:=by rw[rI];simp[size_zeroCells,Value.cells];omega
 rw[<-rI] at hrz;obtain⟨G,hG⟩:∃ G,G=grownCap w n 0 2:=⟨_,rfl⟩;rw[<-hG] at hrz hGn hG63 kS;clear rI hG
 go_enter Tryz.func218,Tryz.ntmps218
 go_wp2_with (at_builtin;refine Lib.wpList_append_run _ rfl _ _ _ _ rfl _ _ rfl rfl _ _ (hrz _) ?_)
 all_goals (go_ret;exact⟨G,rfl,row,kS,rfl⟩)
end Go.Proofs.qx


namespace Go.Ab.jF
open Go Go.Ab Go.Proofs
def et0:i8:=.iface 138 (.agg #[.pointer (some ⟨9,49,none⟩)])
def tabs0:List (Nat×Array i8):=[(4,(Lib.pow10Tab.map fun z=>Value.int .u64 z).toArray)]
noncomputable def cx0:Cx:=zp Tryz.prog (by kernel_rfl) [5,6] 260 [(0,et0)] tabs0 [1]
theorem zbs:Dx Tryz.prog 48:=⟨_,Tryz.func48,by rfl,by rfl⟩
theorem vK:Dx Tryz.prog 194:=⟨_,Tryz.func194,by rfl,by rfl⟩
theorem vL:Dx Tryz.prog 218:=⟨_,Tryz.func218,by rfl,by rfl⟩
theorem zbt:Dx Tryz.prog 72:=⟨_,Tryz.func72,by rfl,by rfl⟩
theorem zbu:Dx Tryz.prog 73:=⟨_,Tryz.func73,by rfl,by rfl⟩
theorem zbv:Dx Tryz.prog 71:=⟨_,Tryz.func71,by rfl,by rfl⟩
theorem zbw:Dx Tryz.prog 47:=⟨_,Tryz.func47,by rfl,by rfl⟩
theorem vM:Dx Tryz.prog 188:=⟨_,Tryz.func188,by rfl,by rfl⟩
theorem vN:Dx Tryz.prog 189:=⟨_,Tryz.func189,by rfl,by rfl⟩
theorem as_ok:AsOK Tryz.prog 48 0 et0 ps0 where
 enters:=zbs
 none v w:=Go.Proofs.qg.as_nil v w
 hit p t h v n hv U a nd w hg h0 hf:=by
  simp only[ps0,List.lookup] at h;split at h
  ·rename_i hp;obtain rfl:p=88:=by simpa using hp
   cases h;refine (Go.Proofs.qg.qw (.inl ⟨rfl,rfl⟩) v n hv U a nd w hg h0 hf).mono ?_;rintro ev w' ⟨rfl,rfl⟩;exact⟨rfl,_,_,_,_,rfl⟩
  split at h
  ·rename_i hp;obtain rfl:p=201:=by simpa using hp
   cases h;refine (Go.Proofs.qg.qw (.inr (.inl ⟨rfl,rfl⟩)) v n hv U a nd w hg h0 hf).mono ?_;rintro ev w' ⟨rfl,rfl⟩;exact⟨rfl,_,_,_,_,rfl⟩
  split at h
  ·rename_i hp;obtain rfl:p=211:=by simpa using hp
   cases h;refine (Go.Proofs.qg.qw (.inr (.inr (.inl ⟨rfl,rfl⟩))) v n hv U a nd w hg h0 hf).mono ?_;rintro ev w' ⟨rfl,rfl⟩;exact⟨rfl,_,_,_,_,rfl⟩
  split at h
  ·rename_i hp;obtain rfl:p=233:=by simpa using hp
   cases h;refine (Go.Proofs.qg.qw (.inr (.inr (.inr ⟨rfl,rfl⟩))) v n hv U a nd w hg h0 hf).mono ?_;rintro ev w' ⟨rfl,rfl⟩;exact⟨rfl,_,_,_,_,rfl⟩
  cases h
theorem is_ok:IsOK Tryz.prog 194 260 [205] where
 enters:=vK
 none a w:=Go.Proofs.q9.is_nil a w
 same a w:=Go.Proofs.q9.is_same a w
 other a b ca cb ta tb w h U O:=Go.Proofs.q9.zbo a b ca cb ta tb w h U O
 type s hs v b w:=by simp only[dM,List.not_mem_nil,or_false] at hs;subst hs;exact Go.Proofs.q9.r5 v b w
theorem zbx:zt Tryz.prog 71 47 79 5 where
 sD:=zbv
 sE:=zbw
 nzT:=by decide
 nzU:=by decide
 used:=Go.Proofs.qx.r6
 fresh b w h0 U O:=Go.Proofs.qx.ri b w h0 U O
 zu b p w h:=Go.Proofs.qx.r7 b p w h
 sF b g cap p cur l w U O h3 h4 h5 h6 h7:=Go.Proofs.qx.rj b g cap p cur l w U O h3 h4 h5 h6 h7
theorem sp_ok:SpOK cx0 Bq:=by intro g Z vs out h;unfold Bq at h;split at h;{rename_i hg;subst hg;exact .inr (as_at (ep.2 rfl) as_ok h)};split at h;{rename_i hg;subst hg;exact .inr (is_at is_ok h)};split at h;{rename_i hg;subst hg;exact .inr (grow_at vL Go.Proofs.qx.vI (fun m w h0 hm=>Go.Proofs.qx.vJ m w h0 hm) h)};split at h;{rename_i hg;subst hg;exact .inr (repl_at zbt (gm:=1) (by decide) (fun s nd new n m w hs hm U hl=>Go.Proofs.zbq.zbr s nd new n m w hs hm U hl) h)};split at h;{rename_i hg;subst hg;exact .inr (fmt_at zbu (gt:=4) (ep.2 rfl) (by kernel_rfl) (fun n h0 U w ht=>Go.Proofs.zbq.fmt_run n h0 U w ht) h)};split at h;{rename_i hg;subst hg;exact .inr (zw zbx h)};split at h;{rename_i hg;subst hg;exact .inr (str_at zbx h)};split at h;{rename_i hg;subst hg;exact .inl (zA Go.Proofs.rp.load h)};split at h;{rename_i hg;subst hg;exact .inl (uI Go.Proofs.rp.store h)};split at h;{rename_i hg;subst hg;exact .inr (YM vM Go.Proofs.rp.lock h)};split at h;{rename_i hg;subst hg;exact .inr (YM vN Go.Proofs.rp.unlock h)};cases h
end Go.Ab.jF

