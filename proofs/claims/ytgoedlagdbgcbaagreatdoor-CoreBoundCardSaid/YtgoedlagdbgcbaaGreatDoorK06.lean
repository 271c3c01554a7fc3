/-
  Part 6 of a proof: a machine of our own for the given program, its laws, and what it says of the program. Nothing here is a claim by itself.
-/
import Derived.Test.YtgoedlagdbgcbaaGreatDoorK05
import Derived.Test.YtgoedlagdbgcbaaGreatDoorProg
import Derived.WalkKit
import Derived.LaidEql
import Derived.Stop.Asserts
import Derived.RowKitTokens
import Derived.Test.YtgoedlagdbgcbaaGreatDoorK01
import Derived.Lib.Builder
import Derived.Lib.UnsafeStr
import Derived.Lib.Bytealg
import Derived.Lib.AppendZerosOnto
import Derived.Lib.Walk
import Derived.Lib.SliceRun
import Derived.Laws.Externs
import Derived.Shelf.RegionOpenPlain
import Derived.Shelf.Strconv.Itoa3
import Derived.Lib.Strings
import Derived.Test.YtgoedlagdbgcbaaGreatDoorK03
import Derived.Test.YtgoedlagdbgcbaaGreatDoorK04
set_option linter.all false

namespace Go.Ab.Core
open Go Go.Ab
theorem getE {t:List Nd} {i:Nat} {n:Nd} (h:t[i]?=some n):∃ hi:i < t.length,t[i]=n:=List.getElem?_eq_some_iff.1 h
theorem qyw (t:List Nd) (i:Int) (s:S):qca (tl t :: I i :: s.pv)=true:=by simp [qca,S.pv_ok]
theorem Qps {t:List Nd} {a:Tr} {i:Nat} {s:S} {m:Nat} (hi:Qme t a i) (hs:s.Good m) (hm:m+3 * a.size < big) (hn:ioO B0 sh82 82 (tl t :: I (i:Int) :: s.pv)=some (qgy a s).pv) :
  ioO B0 sh54 54 (tl t :: I (i:Int) :: s.pv)=some (qxe a s).pv:=by
 have hbl:=qfu
 obtain ⟨g1,_⟩:=qq4 a hs
 refine qhi (qhk fun _=>.cl) (fn:=fn54) rfl (Pf:=shs54) rfl (xs:=[]) (obs:=[]) rfl rfl (qyw t i s) ?_
 rw [show shs54 [] []=sh54 from rfl]
 rw [S.pv_def s] at hn ⊢
 rw [run54]
 simp only [qcj,qh5,qb1,qce,qgf,qgd,qd0]
 rw [show ioO B0 (.mk _ _ _ _ _ _) 82 _=_ from hn,qbb]
 cases a with
 | mk k x ks =>
 obtain ⟨l,hl,_⟩:=hi
 obtain ⟨hlt,hti⟩:=getE hl
 rw [qmh hlt,hti]
 simp only [qbb,fa3_0,fa3_1,Qnc,load3_1,Qhp,qco]
 have q0:=pv_0 (qgy (.mk k x ks) s)
 have q1:=pv_1 (qgy (.mk k x ks) s)
 have q2:=pv_2 (qgy (.mk k x ks) s)
 rw [qh5] at q0 q1 q2
 have q3:=pv_3 (qgy (.mk k x ks) s)
 have q4:=pv_4 (qgy (.mk k x ks) s)
 have q5:=pv_5 (qgy (.mk k x ks) s)
 have q6:=pv_6 (qgy (.mk k x ks) s)
 rw [q0,q1,q2,q3,q4,q5,q6]
 by_cases h8:k=8
 ·rw [if_pos (by simpa using h8),show qdx 1 [.str x]=true from rfl,qbg,show qbv [PV.str x]=1 from rfl]
  have hb:ioO B0 sh83 83 _=some [I (((qgy (.mk k x ks) s).bind s.texts.length x).texts.length:Nat),I (((qgy (.mk k x ks) s).bind s.texts.length x).means.length:Nat),I (((qgy (.mk k x ks) s).bind s.texts.length x).nown:Nat),.sl 1 [.str x] false,.sl 1 (qfl ((qgy (.mk k x ks) s).bind s.texts.length x).texts) false,.imap (qfa ((qgy (.mk k x ks) s).bind s.texts.length x).ahead),il ((qgy (.mk k x ks) s).bind s.texts.length x).means,.sl 1 (qfl ((qgy (.mk k x ks) s).bind s.texts.length x).ownX) false]:=bind_run (qgy (.mk k x ks) s) s.texts.length x g1.fine (by omega) (by have:=hs.fine.texts;omega)
  rw [show ioO B0 (.mk _ _ _ _ _ _) 83 _=_ from hb,qbb]
  unfold qxe
  rw [if_pos (show Tr.kind (.mk k x ks)=8 from h8)]
  simp only [qdd,qdc,qdg,qfv,qgl,qjb,qju,qcj,qb1,qce,qgf,qgd]
  rfl
 ·rw [if_neg (by simpa using h8)]
  unfold qxe
  rw [if_neg (show ¬ Tr.kind (.mk k x ks)=8 from h8)]
  rfl
theorem part_step {t:List Nd} {all:List Int} {i:Nat} {a:Tr} {k:Nat} {s:S} {n:Nat} (hi:i < all.length) (hk:all[i]=(k:Int)) (hb:all.length≤big) (h:ioO B0 sh54 54 (tl t :: I (k:Int) :: s.pv)=some (qxe a s).pv) :
  qph ([tl t,il all,I (all.length:Nat),I (i:Nat)]++s.pv++[I (n:Nat)],())=some (.inl ([tl t,il all,I (all.length:Nat),I ((i+1:Nat):Int)]++(qxe a s).pv++[I (n:Nat)],())):=by
 have hbl:=qfu
 unfold qph
 rw [S.pv_def s] at h ⊢
 simp only [List.cons_append,List.nil_append,qdd,qdc,qdg,qdq,qfv,qgl,qjb,qju,qms,qnb,qk1,qte,qcj,qh5,qb1,qce,qgf,qgd,qd0,qdp,qbb]
 rw [show decide ((i:Int) < (all.length:Nat))=true by simp;omega,qb6,qrw hi,hk,qbb,qnd,qbb,h,qbb]
 simp only [qg9,qbb]
 rw [qhd (by omega),← qh5 (qbj _),← qh5 (qbj _),← qh5 (qbj _),pv_0,pv_1,pv_2,pv_3,pv_4,pv_5,pv_6]
 rfl
theorem part_end {t:List Nd} {all:List Int} {s:S} {n m:Nat} (hs:s.Good m) (hm:m < big) (hn:n≤s.nown):qph ([tl t,il all,I (all.length:Nat),I (all.length:Nat)]++s.pv++[I (n:Nat)],())=some (.inr (s.leave n).pv):=by
 have hl:=leave_run s n hs.fine hm hn (hs.pops hn)
 unfold qph
 rw [S.pv_def s] at hl ⊢
 simp only [List.cons_append,List.nil_append,qdd,qdc,qdg,qdq,qfv,qgl,qjb,qju,qms,qnb,qk1,qte,qcj,qh5,qb1,qce,qgf,qgd,qd0,qdp,qbb]
 rw [show decide ((all.length:Int) < (all.length:Nat))=false by simp,qbm,hl,qbb,← qh5 (qbj _),← qh5 (qbj _),← qh5 (qbj _),pv_0,pv_1,pv_2,pv_3,pv_4,pv_5,pv_6]
 rfl
theorem scope_run {t:List Nd} {k:Int} {x:Tx} {ks:List Tr} {i:Nat} {s:S} {u:List PV} {l:List Int} (hl:t[i]?=some ⟨k,x,l⟩)
  (h:qci qph ([tl t,il l,I (l.length:Nat),I ((0:Nat):Int)]++s.pv++[I (s.nown:Nat)],())=some u):ioO B0 sh117 117 (tl t :: I (i:Int) :: s.pv)=some u:=by
 refine qhi (qhk fun _=>.cl) (fn:=fn117) rfl (Pf:=shs117) rfl (xs:=[]) (obs:=[]) rfl rfl (qyw t i s) ?_
 rw [show shs117 [] []=sh117 from rfl]
 rw [S.pv_def s] at h ⊢
 rw [run117]
 obtain ⟨hlt,hti⟩:=getE hl
 rw [qmh hlt,hti]
 simp only [qcj,qh5,qb1,qce,qgf,qgd,qd0,qbb,fa3_2,qzd,qh1]
 rw [show qbs [tl t,il l,I (l.length:Nat),I 0]=true from rfl,qbg]
 exact h
theorem qzr {t:List Nd} {l:List Int} (h:Qch t [] l):l=[]:=h
theorem qjg {α:Type} {l:List α} {j:Nat} {a:α} {b:List α} (h:l.drop j=a :: b):∃ hj:j < l.length,l[j]=a∧l.drop (j+1)=b:=by
 have hj:j < l.length:=by
  rcases Nat.lt_or_ge j l.length with h' | h'
  ·exact h'
  ·rw [List.drop_eq_nil_of_le h'] at h;cases h
 rw [List.drop_eq_getElem_cons hj] at h
 injection h with h1 h2
 exact ⟨hj,h1,h2⟩
theorem qx8 (l:List Tx):(qfl l).take l.length=qfl l:=List.take_of_length_le (by simp)
theorem qpx (l:List Int):(qg6 l).take l.length=qg6 l:=List.take_of_length_le (by simp)
theorem qyf (l:List Tx) (x:Tx):qfl l++[.str x]=qfl (l++[x]):=by simp [qfl]
theorem qs6 (l:List Int) (x:Int):qg6 l++[I x]=qg6 (l++[x]):=by simp [qg6]
theorem qxl (l:List Tx):slO 1 1 (qfl l) 0 l.length=.sl 1 (qfl l) false:=by
 have:=qmr 1 (qfl l)
 rwa [qg7] at this
theorem node_case {t:List Nd} (ht:Fine t) {k:Int} {x:Tx} {ks:List Tr} {i:Nat} {s:S} {m:Nat} {l:List Int} (hl:t[i]?=some ⟨k,x,l⟩) (hs:s.Good m) (hm:m+3 * (qcp ks+1) < big)
  (hp:qci qph ([tl t,il l,I (l.length:Nat),I ((0:Nat):Int)]++s.pv++[I (s.nown:Nat)],())=some ((Qfr ks s).leave s.nown).pv)
  (hk:∀ s':S,s'.Good (m+1)→qci qvv ([tl t,il l,I (l.length:Nat),I ((0:Nat):Int)]++s'.pv,())=some (Qcc ks s').pv) :
  ioO B0 sh82 82 (tl t :: I (i:Int) :: s.pv)=some (qgy (.mk k x ks) s).pv:=by
 have hbl:=qfu
 refine qhi (qhk fun _=>.cl) (fn:=fn82) rfl (Pf:=shs82) rfl (xs:=[]) (obs:=[]) rfl rfl (qyw t i s) ?_
 rw [show shs82 [] []=sh82 from rfl]
 have hsc:=scope_run (ks:=ks) hl hp
 have g1:=hs.fine.texts
 have g2:=hs.fine.means
 obtain ⟨hlt,hti⟩:=getE hl
 rw [S.pv_def s] at hsc ⊢
 rw [run82,qmh hlt,hti]
 simp only [qcj,qh5,qb1,qce,qgf,qgd,qd0,qbb,Qj6,qm9,qbg,qmo,qmn,qmm,Qhp,qco]
 unfold qgy
 by_cases h11:k=11
 ·rw [if_pos (by simpa using h11),if_pos h11]
  rw [show ioO B0 (.mk _ _ _ _ _ _) 117 _=_ from hsc,qbb,← qh5 (qbj _),← qh5 (qbj _),← qh5 (qbj _),pv_0,pv_1,pv_2,pv_3,pv_4,pv_5,pv_6]
  rfl
 ·rw [if_neg (by simpa using h11),if_neg h11]
  by_cases h8:k=8
  ·rw [if_pos (by simpa using h8),if_pos h8]
   have h:=hk _ (hs.set s.texts.length x)
   rw [S.pv_def { s with means:=s.means++[(s.texts.length:Int)],texts:=s.texts++[x] }] at h
   rw [show qdx 1 [I (s.texts.length:Int)]=true from rfl,show qdx 1 [.str x]=true from rfl]
   simp only [qbg,qf4,List.length_singleton,qd3,Nat.zero_add,qke,Nat.le_refl,decide_true,qfk,qfq,List.drop_zero,List.take_succ_cons,List.take_zero,qg7,qcz,qg5,Bool.true_and,qh1,qbb,qg3,qx8,qpx,qyf,qs6,qgd]
   rw [show decide (s.means.length+1≤2147483648)=true by simp;omega,show decide (s.texts.length+1≤2147483648)=true by simp;omega,qbg,qbg]
   rw [show qbs [tl t,il l,I (l.length:Nat),I 0]=true from rfl,qbg]
   simp only [List.length_append,List.length_singleton] at h
   exact h
  ·rw [if_neg (by simpa using h8),if_neg h8]
   by_cases h3:k=3
   ·rw [if_pos (by simpa using h3),if_pos (by simpa using h3),if_pos (Or.inl h3)]
    have hown:slO 1 1 (qfl s.ownX) 0 s.nown=.sl 1 (qfl (s.ownX.take s.nown)) false:=by
     simp only [slO,true_and,Nat.zero_add,List.drop_zero,qg7]
     rw [if_pos hs.fine.own]
     simp [qfl,List.map_take]
    have hlast:=Qqm s.ahead x (x:=.sl 1 (qfl s.texts) false) (y:=il s.means) (z:=.sl 1 (qfl (s.ownX.take s.nown)) false) (by simp [okV,qh9]) (by simp) (by simp [okV,qh9]) (by have:=hs.fine.ahead x;omega)
    have h:=hk _ (hs.mean (qnf s.ahead x))
    rw [S.pv_def { s with means:=s.means++[qnf s.ahead x] }] at h
    rw [qxl,qqy,hown,show Qhq [.sl 1 (qfl s.texts) false,.imap (qfa s.ahead),il s.means,.sl 1 (qfl (s.ownX.take s.nown)) false] 0=.ptr [.sl 1 (qfl s.texts) false,.imap (qfa s.ahead),il s.means,.sl 1 (qfl (s.ownX.take s.nown)) false] 0 from rfl,hlast,qbb]
    rw [show qdx 1 [I (qnf s.ahead x)]=true from rfl]
    simp only [qbg,qf4,List.length_singleton,qd3,Nat.zero_add,qke,Nat.le_refl,decide_true,qfk,qfq,List.drop_zero,List.take_succ_cons,List.take_zero,qg7,qcz,qg5,Bool.true_and,qh1,qbb,qg3,qx8,qpx,qyf,qs6,qgd]
    rw [show decide (s.means.length+1≤2147483648)=true by simp;omega,qbg]
    rw [show qbs [tl t,il l,I (l.length:Nat),I 0]=true from rfl,qbg]
    simp only [List.length_append,List.length_singleton] at h
    exact h
   ·rw [if_neg (by simpa using h3)]
    by_cases h14:k=14
    ·rw [if_pos (by simpa using h14),if_pos (Or.inr h14)]
     have hown:slO 1 1 (qfl s.ownX) 0 s.nown=.sl 1 (qfl (s.ownX.take s.nown)) false:=by
      simp only [slO,true_and,Nat.zero_add,List.drop_zero,qg7]
      rw [if_pos hs.fine.own]
      simp [qfl,List.map_take]
     have hlast:=Qqm s.ahead x (x:=.sl 1 (qfl s.texts) false) (y:=il s.means) (z:=.sl 1 (qfl (s.ownX.take s.nown)) false) (by simp [okV,qh9]) (by simp) (by simp [okV,qh9]) (by have:=hs.fine.ahead x;omega)
     have h:=hk _ (hs.mean (qnf s.ahead x))
     rw [S.pv_def { s with means:=s.means++[qnf s.ahead x] }] at h
     rw [qxl,qqy,hown,show Qhq [.sl 1 (qfl s.texts) false,.imap (qfa s.ahead),il s.means,.sl 1 (qfl (s.ownX.take s.nown)) false] 0=.ptr [.sl 1 (qfl s.texts) false,.imap (qfa s.ahead),il s.means,.sl 1 (qfl (s.ownX.take s.nown)) false] 0 from rfl,hlast,qbb]
     rw [show qdx 1 [I (qnf s.ahead x)]=true from rfl]
     simp only [qbg,qf4,List.length_singleton,qd3,Nat.zero_add,qke,Nat.le_refl,decide_true,qfk,qfq,List.drop_zero,List.take_succ_cons,List.take_zero,qg7,qcz,qg5,Bool.true_and,qh1,qbb,qg3,qx8,qpx,qyf,qs6,qgd]
     rw [show decide (s.means.length+1≤2147483648)=true by simp;omega,qbg]
     rw [show qbs [tl t,il l,I (l.length:Nat),I 0]=true from rfl,qbg]
     simp only [List.length_append,List.length_singleton] at h
     exact h
    ·rw [if_neg (by simpa using h14),if_neg (by intro h;rcases h with h | h<;>contradiction)]
     have h:=hk _ (hs.mono (Nat.le_succ m))
     rw [S.pv_def s] at h
     rw [qh1,qbb,show qbs [tl t,il l,I (l.length:Nat),I 0]=true from rfl,qbg]
     exact h
mutual
theorem Qga {t:List Nd} (ht:Fine t):∀ (a:Tr) {i:Nat} {s:S} {m:Nat},Qme t a i→s.Good m→m+3 * a.size < big→ioO B0 sh82 82 (tl t :: I (i:Int) :: s.pv)=some (qgy a s).pv
 | .mk k x ks,i,s,m,hi,hs,hm=>by
  obtain ⟨l,hl,hL⟩:=hi
  have hlen:l.length≤big:=by
   obtain ⟨hlt,hti⟩:=getE hl
   have:=(ht.nd _ (List.getElem_mem hlt)).kids
   rw [hti] at this
   exact this
  simp only [Tr.size] at hm
  exact node_case ht hl hs hm (Qjm ht ks (all:=l) (j:=0) (m:=m) hL (Nat.zero_le _) hlen hs (Nat.le_refl _) (by omega)) fun s' hs'=>Qqs ht ks (all:=l) (j:=0) (m:=m+1) hL (Nat.zero_le _) hlen hs' (by omega)
theorem Qqs {t:List Nd} (ht:Fine t):∀ (ks:List Tr) {all:List Int} {j:Nat} {s:S} {m:Nat},Qch t ks (all.drop j)→j≤all.length→all.length≤big→s.Good m→m+3 * qcp ks < big→qci qvv ([tl t,il all,I (all.length:Nat),I (j:Nat)]++s.pv,())=some (Qcc ks s).pv
 | [],all,j,s,m,hL,hj,hb,hs,hm=>by
  have:j=all.length:=by have:=List.drop_eq_nil_iff.1 (qzr hL);omega
  subst this
  exact qde kid_end
 | a :: ks,all,j,s,m,hL,hj,hb,hs,hm=>by
  obtain ⟨k,l',h1,h2,h3⟩:=hL
  obtain ⟨hj',h4,h5⟩:=qjg h1
  simp only [qcp] at hm
  have hz:=qk9 a
  rw [qdj (kid_step hj' h4 hb (Qga ht a h2 hs (by omega)))]
  rw [← h5] at h3
  exact Qqs ht ks (m:=m+3 * a.size - 1) h3 (by omega) hb (qq4 a hs).1 (by omega)
theorem Qjm {t:List Nd} (ht:Fine t):∀ (ks:List Tr) {all:List Int} {j:Nat} {s:S} {m n:Nat},Qch t ks (all.drop j)→j≤all.length→all.length≤big→s.Good m→n≤s.nown→m+3 * qcp ks < big→qci qph ([tl t,il all,I (all.length:Nat),I (j:Nat)]++s.pv++[I (n:Nat)],())=some ((Qfr ks s).leave n).pv
 | [],all,j,s,m,n,hL,hj,hb,hs,hn,hm=>by
  have:j=all.length:=by have:=List.drop_eq_nil_iff.1 (qzr hL);omega
  subst this
  exact qde (part_end hs (by omega) hn)
 | a :: ks,all,j,s,m,n,hL,hj,hb,hs,hn,hm=>by
  obtain ⟨k,l',h1,h2,h3⟩:=hL
  obtain ⟨hj',h4,h5⟩:=qjg h1
  simp only [qcp] at hm
  have hz:=qk9 a
  rw [qdj (part_step hj' h4 hb (Qps h2 hs (by omega) (Qga ht a h2 hs (by omega))))]
  rw [← h5] at h3
  have hg:=Qcp a hs
  exact Qjm ht ks (m:=m+3 * a.size) h3 (by omega) hb hg.1 (by omega) (by omega)
end
theorem said_run {t:List Nd} (ht:Fine t) {a:Tr} {i:Nat} {s:S} {m:Nat} (hi:Qme t a i) (hs:s.Good m) (hm:m+3 * a.size < big):ioO B0 sh54 54 (tl t :: I (i:Int) :: s.pv)=some (qxe a s).pv :=
 Qps hi hs hm (Qga ht a hi hs hm)
end Go.Ab.Core


namespace Go.Ab.Core
open Go Go.Ab
noncomputable def qrq (t:List Nd):Option Tr:=if h:qc7 t=true then some (Classical.choose (Qcy h)) else none
theorem qgu {t:List Nd} (h:qc7 t=true):∃ a,qrq t=some a∧Qme t a (t.length - 1)∧a.Ok∧a.size=t.length∧1≤t.length∧t.length≤400:=by
 refine ⟨_,dif_pos h,Classical.choose_spec (Qcy h)⟩
theorem qhn {t:List Nd} (h:qc7 t=false):qrq t=none:=dif_neg (by simp [h])
noncomputable def qcn (s:S) (t:List Nd):S :=
 match qrq t with
 | some a=>qxe a { s with means:=[] }
 | none=>{ s with means:=[] }
noncomputable def qh8:List St→S→S
 | [],s=>s
 | x :: l,s=>qh8 l (qcn s x.t)
noncomputable def qfx:List St→S→List (List Int)
 | [],_=>[]
 | x :: l,s=>(qcn s x.t).means :: qfx l (qcn s x.t)
def S0:S:=⟨[],[],[],[],0⟩
theorem S.Good.clear {m:Nat} {s:S} (h:s.Good m):({ s with means:=[] }:S).Good m:=⟨⟨h.fine.texts,Nat.zero_le _,h.fine.nown,h.fine.own,h.fine.ahead⟩,h.cnt⟩
theorem Qpd:S0.Good 0:=⟨⟨Nat.le_refl _,Nat.le_refl _,Nat.le_refl _,Nat.le_refl _,fun _=>Nat.le_refl _⟩,fun _=>Nat.le_refl _⟩
theorem qpd {s:S} {m:Nat} (h:s.Good m) (t:List Nd):(qcn s t).Good (m+1200):=by
 unfold qcn
 cases hr:qc7 t with
 | false=>rw [qhn hr];exact h.clear.mono (by omega)
 | true =>
  obtain ⟨a,h1,_,_,h2,_,h3⟩:=qgu hr
  rw [h1]
  exact (Qcp a h.clear).1.mono (by omega)
noncomputable def Qfy:List PV×Unit→Option (Sum (List PV×Unit) (PV×Unit)):=(fun z2=>qba (qbc (.bin .lss .num false (.c (nth z2.1 3)) (.c (nth z2.1 2)))) (fun z3=>qck z3 (qba (qbc (.idxAddr 4 (.c (nth z2.1 1)) (.c (nth z2.1 3)))) (fun z4=>qba (qbc (.load 4 true (.c z4))) (fun z5=>qby (qb8 z5 4) (qba (qb3 B0 .cl (.fn 33 []) [qbi z5 2]) (fun z6=>qck z6 (qba (qbc (.len .slice (.c (qbi z5 2)))) (fun z7=>qba (qbc (.bin .sub .num true (.c z7) (.c (.int .i64 1)))) (fun z8=>qba (ioO B0 sh54 54 [qbi z5 2,z8,nI (qbj (nth z2.1 6)),nI 0,nI (qbj (nth z2.1 8)),.sl 1 (qbd (nth z2.1 9)) false,.imap (qcw (nth z2.1 5)),.sl 1 [] false,.sl 1 (qbd (nth z2.1 10)) false]) (fun z9=>qby (qdx 1 [slO 1 1 (qbd (nth z9 5)) 0 (qbj (nth z9 1))]) (qby (leN (qc1 0 (qbv [slO 1 1 (qbd (nth z9 5)) 0 (qbj (nth z9 1))])) (qbv [slO 1 1 (qbd (nth z9 5)) 0 (qbj (nth z9 1))])) (qby (qrn (leN (qbj (nth z2.1 0)) (qbv (qbd (nth z2.1 4)))) (leN (qc1 (qbj (nth z2.1 0)) (qbv (qbw (qbv [slO 1 1 (qbd (nth z9 5)) 0 (qbj (nth z9 1))]) (qb5 0 [slO 1 1 (qbd (nth z9 5)) 0 (qbj (nth z9 1))])))) 2147483648)) (qba (qbc (.bin .add .num true (.c (nth z2.1 3)) (.c (.int .i64 1)))) (fun z10=>some (.inl ([nI (qc1 (qbj (nth z2.1 0)) (qbv (qbw (qbv [slO 1 1 (qbd (nth z9 5)) 0 (qbj (nth z9 1))]) (qb5 0 [slO 1 1 (qbd (nth z9 5)) 0 (qbj (nth z9 1))])))),nth z2.1 1,nth z2.1 2,z10,.sl 1 (ql3 (qbw (qbj (nth z2.1 0)) (qbd (nth z2.1 4))) (qbw (qbv [slO 1 1 (qbd (nth z9 5)) 0 (qbj (nth z9 1))]) (qb5 0 [slO 1 1 (qbd (nth z9 5)) 0 (qbj (nth z9 1))]))) false,.imap (qcw (nth z9 4)),nI (qbj (nth z9 0)),slO 1 1 (qbd (nth z9 5)) 0 (qbj (nth z9 1)),nI (qbj (nth z9 2)),.sl 1 (qbd (nth z9 3)) false,.sl 1 (qbd (nth z9 6)) false],z2.2)))))))))) (qby (qdx 1 [slO 1 1 [] 0 0]) (qby (leN (qc1 0 (qbv [slO 1 1 [] 0 0])) (qbv [slO 1 1 [] 0 0])) (qby (qrn (leN (qbj (nth z2.1 0)) (qbv (qbd (nth z2.1 4)))) (leN (qc1 (qbj (nth z2.1 0)) (qbv (qbw (qbv [slO 1 1 [] 0 0]) (qb5 0 [slO 1 1 [] 0 0])))) 2147483648)) (qba (qbc (.bin .add .num true (.c (nth z2.1 3)) (.c (.int .i64 1)))) (fun z11=>some (.inl ([nI (qc1 (qbj (nth z2.1 0)) (qbv (qbw (qbv [slO 1 1 [] 0 0]) (qb5 0 [slO 1 1 [] 0 0])))),nth z2.1 1,nth z2.1 2,z11,.sl 1 (ql3 (qbw (qbj (nth z2.1 0)) (qbd (nth z2.1 4))) (qbw (qbv [slO 1 1 [] 0 0]) (qb5 0 [slO 1 1 [] 0 0]))) false,.imap (qcw (nth z2.1 5)),nI (qbj (nth z2.1 6)),slO 1 1 [] 0 0,nI (qbj (nth z2.1 8)),.sl 1 (qbd (nth z2.1 9)) false,.sl 1 (qbd (nth z2.1 10)) false],z2.2)))))))))))) (qba (qby (okU (.tup [Qhq [slO 1 1 (qbd (nth z2.1 9)) 0 (qbj (nth z2.1 6)),.imap (qcw (nth z2.1 5)),nth z2.1 7,slO 1 1 (qbd (nth z2.1 10)) 0 (qbj (nth z2.1 8))] 0,slO 1 1 (qbd (nth z2.1 4)) 0 (qbj (nth z2.1 0))])) (some (.tup [Qhq [slO 1 1 (qbd (nth z2.1 9)) 0 (qbj (nth z2.1 6)),.imap (qcw (nth z2.1 5)),nth z2.1 7,slO 1 1 (qbd (nth z2.1 10)) 0 (qbj (nth z2.1 8))] 0,slO 1 1 (qbd (nth z2.1 4)) 0 (qbj (nth z2.1 0))],z2.2))) (fun z12=>some (.inr z12)))))
theorem load4 (a b c d:PV):qbc (.load 4 true (.c (.ptr [a,b,c,d] 0)))=some (.agg [a,b,c,d]):=rfl
theorem pv_sl (s:S):slO 1 1 (qbd (nth s.pv 5)) 0 (qbj (nth s.pv 1))=il s.means:=by rw [S.pv_def,qgl,qdc,qcj,qce,qqy]
def resSt (l:List St) (j:Nat) (s:S) (v:PV) (outs:List (List Int)):List PV×Unit :=
 ([I (outs.length:Nat),sl4 l,I (l.length:Nat),I (j:Nat),.sl 1 (outs.map il) false,.imap (qfa s.ahead),I (s.texts.length:Nat),v,I (s.nown:Nat),.sl 1 (qfl s.texts) false,.sl 1 (qfl s.ownX) false],())
theorem res_step {l:List St} {j:Nat} {s:S} {v:PV} {outs:List (List Int)} {m:Nat} (hj:j < l.length) (hf:∀ x∈l,Fine x.t) (hl:l.length≤100) (ho:outs.length=j) (hs:s.Good m) (hm:m+1200 < big) :
  Qfy (resSt l j s v outs)=some (.inl (resSt l (j+1) (qcn s l[j].t) (il (qcn s l[j].t).means) (outs++[(qcn s l[j].t).means]))):=by
 have hbl:=qfu
 have hfj:=hf _ (List.getElem_mem hj)
 unfold Qfy resSt
 simp only [qdd,qdc,qdg,qdq,qfv,qgl,qjb,qju,qms,qnb,qk1,qcj,qh5,qb1,qce,qgf,qgd,qd0,qdp,qbb]
 rw [show decide ((j:Int) < (l.length:Nat))=true by simp;omega,qb6,qzw hj,qbb,load4,qbb]
 rw [show qb8 (.agg [I l[j].line,.nilS,tl l[j].t,I l[j].e]) 4=true from rfl,qbg,show qbi (.agg [I l[j].line,.nilS,tl l[j].t,I l[j].e]) 2=tl l[j].t from rfl,qs8 hfj,qbb,qco]
 have hmap:(outs.map il).take outs.length=outs.map il:=List.take_of_length_le (by simp)
 have hsn:∀ q:List Int,outs.map il++[il q]=(outs++[q]).map il:=fun q=>by simp
 cases hr:qc7 l[j].t with
 | false =>
  rw [if_neg (by simp)]
  have e:slO 1 1 [] 0 0=il []:=rfl
  rw [e,show qdx 1 [il []]=true from rfl,qbg]
  simp only [qbg,qf4,List.length_singleton,List.length_map,qd3,Nat.zero_add,qke,Nat.le_refl,decide_true,qfk,qfq,List.drop_zero,List.take_succ_cons,List.take_zero,qg5,Bool.true_and,qg3,hmap,hsn]
  rw [show decide (outs.length+1≤2147483648)=true by simp;omega,qbg]
  simp only [qg9,qbb]
  rw [qhd (by omega)]
  unfold qcn
  rw [qhn hr]
  simp
 | true =>
  obtain ⟨a,h1,h2,_,h3,h4,h5⟩:=qgu hr
  rw [if_pos rfl,qk2,qbb,Qpg,qbb,Qmf (by omega) (by omega)]
  have h6:m+3 * a.size < big:=by rw [h3];omega
  have h8:=hs.clear
  have h7:=said_run (m:=m) hfj h2 h8 h6
  have hn:ioO B0 sh54 54 [tl l[j].t,I ((l[j].t.length - 1:Nat):Int),I s.texts.length,I ((0:Nat):Int),I s.nown,.sl 1 (qfl s.texts) false,.imap (qfa s.ahead),.sl 1 [] false,.sl 1 (qfl s.ownX) false]=some (qxe a { s with means:=[] }).pv:=h7
  rw [show ioO B0 sh54 54 _=_ from hn,qbb]
  have er:qcn s l[j].t=qxe a { s with means:=[] }:=by unfold qcn;rw [h1]
  rw [← er,pv_sl,show qdx 1 [il (qcn s l[j].t).means]=true from rfl,qbg]
  simp only [qbg,qf4,List.length_singleton,List.length_map,qd3,Nat.zero_add,qke,Nat.le_refl,decide_true,qfk,qfq,List.drop_zero,List.take_succ_cons,List.take_zero,qg5,Bool.true_and,qg3,hmap,hsn]
  rw [show decide (outs.length+1≤2147483648)=true by simp;omega,qbg]
  simp only [qg9,qbb]
  rw [qhd (by omega),← qh5 (qbj _),← qh5 (qbj _),pv_0,pv_2,pv_3,pv_4,pv_6]
  simp
theorem Qp0 {l:List St} (hf:∀ x∈l,Fine x.t) (hl:l.length≤100):∀ (rest:List St) {j:Nat} {s:S} {v:PV} {outs:List (List Int)} {m:Nat},l.drop j=rest→j≤l.length→outs.length=j→s.Good m→okV v=true→m+1200 * rest.length < big →
  ∃ w,okV w=true∧qci Qfy (resSt l j s v outs)=some (.tup [.ptr [.sl 1 (qfl (qh8 rest s).texts) false,.imap (qfa (qh8 rest s).ahead),w,.sl 1 (qfl ((qh8 rest s).ownX.take (qh8 rest s).nown)) false] 0,.sl 1 ((outs++qfx rest s).map il) false],())
 | [],j,s,v,outs,m,hd,hj,ho,hs,hv,hm=>by
  have e:j=l.length:=by have:=List.drop_eq_nil_iff.1 hd;omega
  refine ⟨v,hv,qde ?_⟩
  subst e
  unfold Qfy resSt
  simp only [qdd,qdc,qdg,qdq,qfv,qgl,qjb,qju,qms,qnb,qk1,qcj,qh5,qb1,qce,qgf,qgd,qd0,qdp,qbb]
  rw [show decide ((l.length:Int) < (l.length:Nat))=false by simp,qbm]
  have hown:slO 1 1 (qfl s.ownX) 0 s.nown=.sl 1 (qfl (s.ownX.take s.nown)) false:=by
   simp only [slO,true_and,Nat.zero_add,List.drop_zero,qg7]
   rw [if_pos hs.fine.own]
   simp [qfl,List.map_take]
  have hout:slO 1 1 (outs.map il) 0 outs.length=.sl 1 (outs.map il) false:=by
   have:=qmr 1 (outs.map il)
   rwa [List.length_map] at this
  rw [qxl,hown,hout]
  rw [show Qhq [.sl 1 (qfl s.texts) false,.imap (qfa s.ahead),v,.sl 1 (qfl (s.ownX.take s.nown)) false] 0=.ptr [.sl 1 (qfl s.texts) false,.imap (qfa s.ahead),v,.sl 1 (qfl (s.ownX.take s.nown)) false] 0 from rfl]
  have hok:okU (.tup [.ptr [.sl 1 (qfl s.texts) false,.imap (qfa s.ahead),v,.sl 1 (qfl (s.ownX.take s.nown)) false] 0,.sl 1 (outs.map il) false])=true:=by
   have h1:∀ q:List (List Int),qca (q.map il)=true:=fun q=>by
    induction q with
    | nil=>rfl
    | cons a q ih=>simp [qca,ih]
   simp [okU,okV,qca,qh9,qm8,hv,h1]
  rw [hok,qbg]
  simp [qfx,qh8]
 | x :: rest,j,s,v,outs,m,hd,hj,ho,hs,hv,hm=>by
  obtain ⟨hj',h1,h2⟩:=qjg hd
  subst h1
  simp only [List.length_cons] at hm
  have h6:m+1200 < big:=Nat.lt_of_le_of_lt (by rw [Nat.mul_add];exact Nat.add_le_add_left (Nat.le_add_left _ _) m) hm
  have h9:m+1200+1200 * rest.length < big:=by rw [Nat.mul_add,Nat.mul_one,Nat.add_comm (1200 * _),← Nat.add_assoc] at hm;exact hm
  obtain ⟨w,hw,h⟩:=Qp0 hf hl rest (j:=j+1) (s:=qcn s l[j].t) (v:=il (qcn s l[j].t).means) (outs:=outs++[(qcn s l[j].t).means]) (m:=m+1200) h2 (by omega) (by simp [ho]) (qpd hs _) (by simp) h9
  refine ⟨w,hw,?_⟩
  have h7:=res_step (v:=v) hj' hf hl ho hs h6
  rw [qdj h7,h]
  simp [qfx,qh8]
structure qrp (l:List St):Prop where
 fine:∀ x∈l,Fine x.t
 len:l.length≤100
theorem qr7 {l:List St} (hl:qrp l):∃ w,okV w=true∧qb3 B0 .cl (.fn 32 []) [sl4 l]=some (.tup [.ptr [.sl 1 (qfl (qh8 l S0).texts) false,.imap (qfa (qh8 l S0).ahead),w,.sl 1 (qfl ((qh8 l S0).ownX.take (qh8 l S0).nown)) false] 0,.sl 1 ((qfx l S0).map il) false]):=by
 obtain ⟨w,hw,h⟩:=Qp0 hl.fine hl.len l (j:=0) (s:=S0) (v:=.nilS) (outs:=[]) (m:=0) rfl (Nat.zero_le _) rfl Qpd rfl (by have:=hl.len;unfold big;omega)
 refine ⟨w,hw,?_⟩
 refine call (d:=fun _=>.cl) rfl (by decide) (by simp [qca]) rfl ?_
 rw [List.map_cons,List.map_nil,run32,qze,qbb]
 rw [show qbs [nI 0,sl4 l,I (l.length:Nat),.int .i64 0]=true from rfl,qbg]
 exact h
theorem means_run {l:List St} (hl:qrp l):qb3 B0 .cl (.fn 17 []) [sl4 l]=some (.sl 1 ((qfx l S0).map il) false):=by
 obtain ⟨w,hw,h⟩:=qr7 hl
 refine call (d:=fun _=>.cl) rfl (by decide) (by simp [qca]) rfl ?_
 rw [List.map_cons,List.map_nil,run17,h,qbb]
 rfl
theorem Qpb {l:List St} (hl:qrp l):qb3 B0 .cl (.fn 14 []) [sl4 l]=some (.sl 1 (qfl (qh8 l S0).texts) false):=by
 obtain ⟨w,hw,h⟩:=qr7 hl
 refine call (d:=fun _=>.cl) rfl (by decide) (by simp [qca]) rfl ?_
 rw [List.map_cons,List.map_nil,run14,h,qbb]
 rfl
end Go.Ab.Core


namespace Go.Ab.Core
open Go Go.Ab
def qje (k:Int):Bool:=k==3||k==14||k==8
theorem index_run (k:Int):qb3 B0 .cl (.fn 88 []) [il [3,14,8],I k]=some (I (if k=3 then 0 else if k=14 then 1 else if k=8 then 2 else -1)):=by
 refine call (d:=fun _=>.cl) rfl (by decide) rfl rfl ?_
 rw [List.map_cons,List.map_cons,List.map_nil,run88,qh1,qbb]
 rw [show qbs [il [3,14,8],I k,I (([3,14,8]:List Int).length:Nat),.int .i64 0]=true from rfl,qbg]
 by_cases h3:k=3
 ·subst h3
  rw [if_pos rfl]
  exact qde rfl
 ·rw [if_neg h3]
  by_cases h14:k=14
  ·subst h14
   rw [if_pos rfl]
   rw [qdj (s':=([il [3,14,8],I 14,I 3,I 1],())) rfl]
   exact qde rfl
  ·rw [if_neg h14]
   by_cases h8:k=8
   ·subst h8
    rw [if_pos rfl]
    rw [qdj (s':=([il [3,14,8],I 8,I 3,I 1],())) rfl,qdj (s':=([il [3,14,8],I 8,I 3,I 2],())) rfl]
    exact qde rfl
   ·rw [if_neg h8]
    have one:∀ (i:Nat) (h:i < 3) (hk:¬ k=([3,14,8]:List Int)[i]),(fun z2:List PV×Unit=>(qba (qbc (.bin .lss .num false (.c (nth z2.1 3)) (.c (nth z2.1 2)))) (fun z3=>qck z3 (qba (qbc (.idxAddr 1 (.c (nth z2.1 0)) (.c (nth z2.1 3)))) (fun z4=>qba (qbc (.load 1 false (.c z4))) (fun z5=>qba (qbc (.bin .eql .num false (.c (nth z2.1 1)) (.c z5))) (fun z6=>qck z6 (qba (some (nth z2.1 3,z2.2)) (fun z7=>some (.inr z7))) (qba (qbc (.bin .add .num true (.c (nth z2.1 3)) (.c (.int .i64 1)))) (fun z8=>some (.inl ([nth z2.1 0,nth z2.1 1,nth z2.1 2,z8],z2.2)))))))) (qba (some (.int .i64 (-1),z2.2)) (fun z9=>some (.inr z9)))):Option (Sum (List PV×Unit) (PV×Unit)))) ([il [3,14,8],I k,I 3,I (i:Nat)],())=some (.inl ([il [3,14,8],I k,I 3,I ((i+1:Nat):Int)],())):=fun i h hk=>by
     simp only [qdd,qdc,qdg,qdq,qdp,qbb,qd0]
     rw [show decide ((i:Int) < 3)=true by simp;omega,qb6,qrw (by simpa using h),qbb,qnd,qbb,Qhp,qbb]
     rw [show (k==([3,14,8]:List Int)[i])=false by simpa using hk,qbm,qg9,qbb,qhd (by omega)]
    rw [qdj (one 0 (by omega) h3),qdj (one 1 (by omega) h14),qdj (one 2 (by omega) h8)]
    exact qde rfl
theorem Qlu (k:Int):qkw B0 .cl true 61 [il [3,14,8],I k]=some (.bool (qje k)):=by
 refine qhq (qhk fun _=>.cl) (fn:=fn61) rfl rfl (Nat.le_of_ble_eq_true rfl) ?_ rfl
 rw [List.map_cons,List.map_cons,List.map_nil,run61,index_run,qbb,qd0,I_geq,qbb]
 unfold qje
 by_cases h3:k=3
 ·subst h3;rfl
 ·by_cases h14:k=14
  ·subst h14;rfl
  ·by_cases h8:k=8
   ·subst h8;rfl
   ·rw [if_neg h3,if_neg h14,if_neg h8]
    have e3:(k==3)=false:=by simpa using h3
    have e14:(k==14)=false:=by simpa using h14
    have e8:(k==8)=false:=by simpa using h8
    rw [e3,e14,e8]
    rfl
theorem Qdv (n:Nd):qb3 B0 .cl (.fn 37 []) [nd n]=some (.bool (qje n.kind)):=by
 refine call (d:=fun _=>.cl) rfl (by decide) (by simp [qca,qyt]) rfl ?_
 rw [List.map_cons,List.map_nil,run37,show Qmc (nd n)=true from rfl,qbg]
 rw [show qdx 1 [.int .i64 3,.int .i64 14,.int .i64 8]=true from rfl,qbg]
 simp only [nd,Qmn,qn2,sel3_0,qbb]
 rw [show slO 1 1 [.int .i64 3,.int .i64 14,.int .i64 8] 0 (qbv [.int .i64 3,.int .i64 14,.int .i64 8])=il [3,14,8] from rfl,Qlu,qbb]
def qtf (n:Int):Tx:=if n < 0 then [63] else itoaF n
def mk2 (t:List Nd) (ms:List Int):PV:=.agg [tl t,il ms]
theorem itoa_call {n:Int} (h0 : -9223372036854775808≤n) (h1:n≤9223372036854775807):qb3 B0 .cl (.fn 79 []) [I n]=some (.str (itoaF n)):=by
 refine call_of_sp (qhk fun _=>.cl) (cap:=[]) ?_ rfl
 show Qh3 [.int .i64 n]=_
 unfold Qh3
 simp only
 rw [if_pos ⟨h0,h1⟩]
theorem text_run (t:List Nd) (m:Int) (ms:List Int) (h0 : -9223372036854775808≤m) (h1:m≤9223372036854775807):ioO B0 sh58 58 [mk2 t (m :: ms)]=some [.str (qtf m),mk2 t ms]:=by
 refine qhi (qhk fun _=>.cl) (fn:=fn58) rfl (Pf:=shs58) rfl (xs:=[]) (obs:=[]) rfl rfl (by simp [qca,mk2,okV]) ?_
 rw [show shs58 [] []=sh58 from rfl,run58]
 rw [show Qb5 (mk2 t (m :: ms)) 1 1 false=some (il (m :: ms)) from rfl,qbb]
 rw [show qbc (.idxAddr 1 (.c (il (m :: ms))) (.c (.int .i64 0)))=some (.ptr [I m] 0) from rfl,qbb,qnd,qbb,qbb]
 have hs:qbc (.slice 1 (.c (il (m :: ms))) (some (.c (.int .i64 1))) none none)=some (il ms):=by
  simp [qbc,exec,RX.ev,evO,qjq,qjv,chk,qhf,il,qg6]
  exact List.take_of_length_le (by simp)
 rw [hs,qbb,show okSto (il ms) (mk2 t (m :: ms)) 1 1=true from rfl,qbg]
 simp only [qd0,qdp,qbb,qco]
 rw [show PV.agg (qf7 (stoP (il ms) (mk2 t (m :: ms)) 1))=mk2 t ms from rfl]
 unfold qtf
 by_cases hm:m < 0
 ·rw [if_pos (by simpa using hm),if_pos hm]
 ·rw [if_neg (by simpa using hm),if_neg hm,itoa_call h0 h1,qbb]
end Go.Ab.Core


namespace Go.Ab.Core
open Go Go.Ab
def qd4:List Tr→Nat→List Int
 | [],_=>[]
 | a :: ks,o=>((o+a.size - 1:Nat):Int) :: qd4 ks (o+a.size)
mutual
def flat:Tr→Nat→List Nd
 | .mk k x ks,o=>qjm ks o++[⟨k,x,qd4 ks o⟩]
def qjm:List Tr→Nat→List Nd
 | [],_=>[]
 | a :: ks,o=>flat a o++qjm ks (o+a.size)
end
theorem qm5:∀ (ks:List Tr) (o:Nat),(qd4 ks o).length=ks.length
 | [],_=>rfl
 | a :: ks,o=>by simp [qd4,qm5 ks]
mutual
theorem qtx:∀ (a:Tr) (o:Nat),(flat a o).length=a.size
 | .mk k x ks,o=>by simp [flat,Tr.size,qnn ks]
theorem qnn:∀ (ks:List Tr) (o:Nat),(qjm ks o).length=qcp ks
 | [],_=>rfl
 | a :: ks,o=>by simp [qjm,qcp,qtx a,qnn ks]
end
theorem qqe:∀ ks:List Tr,ks.length≤qcp ks
 | []=>Nat.le_refl _
 | a :: ks=>by have:=qqe ks;have:=qk9 a;simp only [List.length_cons,qcp];omega
def qkb (d:Nat) (n:Nd):Nd:=⟨n.kind,n.text,n.kids.map (·+(d:Int))⟩
theorem qyk (d:Nat):∀ (ks:List Tr) (o:Nat),(qd4 ks o).map (·+(d:Int))=qd4 ks (o+d)
 | [],_=>rfl
 | a :: ks,o=>by
  have:=qk9 a
  simp only [qd4,List.map_cons,qyk d ks]
  rw [show o+a.size+d=o+d+a.size by omega]
  congr 1
  omega
mutual
theorem Qd0 (d:Nat):∀ (a:Tr) (o:Nat),(flat a o).map (qkb d)=flat a (o+d)
 | .mk k x ks,o=>by simp [flat,qkb,qz7 d ks,qyk]
theorem qz7 (d:Nat):∀ (ks:List Tr) (o:Nat),(qjm ks o).map (qkb d)=qjm ks (o+d)
 | [],_=>rfl
 | a :: ks,o=>by
  simp only [qjm,List.map_append,Qd0 d a,qz7 d ks]
  rw [show o+a.size+d=o+d+a.size by omega]
end
def Qpl:List Tr→List Int
 | []=>[]
 | a :: ks=>List.replicate (a.size - 1) 1++0 :: Qpl ks
theorem Qdn:∀ (ks:List Tr) (i:Int) (last:Int) (o:Nat),last < o→(o:Int)+qcp ks≤i→qtm i last (qd4 ks o)=true
 | [],_,_,_,_,_=>rfl
 | a :: ks,i,last,o,h1,h2=>by
  have:=qk9 a
  simp only [qcp] at h2
  simp only [qd4,qtm,Bool.and_eq_true,decide_eq_true_eq]
  refine ⟨⟨by omega,by omega⟩,Qdn ks i _ _ (by omega) (by omega)⟩
theorem Qfg:∀ (ks:List Tr) (P Z:List Int),bump (P++Qpl ks++Z) (qd4 ks P.length)=P++List.replicate (qcp ks) 1++Z
 | [],P,Z=>by simp [Qpl,qd4,bump,qcp]
 | a :: ks,P,Z=>by
  have hz:=qk9 a
  have e1:P++Qpl (a :: ks)++Z=(P++List.replicate (a.size - 1) 1)++0 :: (Qpl ks++Z):=by simp [Qpl]
  have hl:(P++List.replicate (a.size - 1) (1:Int)).length=P.length+a.size - 1:=by simp;omega
  show bump ((P++Qpl (a :: ks)++Z).set (((P.length+a.size - 1:Nat):Int)).toNat ((P++Qpl (a :: ks)++Z).getD (((P.length+a.size - 1:Nat):Int)).toNat 0+1)) (qd4 ks (P.length+a.size))=_
  rw [Int.toNat_natCast,e1,← hl]
  rw [show ((P++List.replicate (a.size - 1) (1:Int))++0 :: (Qpl ks++Z)).getD (P++List.replicate (a.size - 1) (1:Int)).length 0=0 by simp [List.getD_eq_getElem?_getD]]
  rw [show ((P++List.replicate (a.size - 1) (1:Int))++0 :: (Qpl ks++Z)).set (P++List.replicate (a.size - 1) (1:Int)).length (0+1)=(P++List.replicate a.size 1)++Qpl ks++Z by
   rw [List.set_append_right _ _ (Nat.le_refl _),Nat.sub_self]
   have:List.replicate a.size (1:Int)=List.replicate (a.size - 1) 1++[1]:=by
    rw [← List.replicate_succ'];congr 1;omega
   rw [this]
   simp]
  have h2:=Qfg ks (P++List.replicate a.size 1) Z
  rw [show (P++List.replicate a.size (1:Int)).length=P.length+a.size by simp] at h2
  rw [h2]
  simp [qcp,← List.replicate_append_replicate]
mutual
theorem Qcz:∀ (a:Tr) (P:List Int) (n:Nat) (rest:List Nd),a.Ok→a.size≤n→qdh P.length (P++List.replicate n 0) (flat a P.length++rest)=qdh (P.length+a.size) (P++(List.replicate (a.size - 1) 1++0 :: List.replicate (n - a.size) 0)) rest
 | .mk k x ks,P,n,rest,hok,hn=>by
  simp only [Tr.size] at hn
  have h1:=qym ks P n (⟨k,x,qd4 ks P.length⟩ :: rest) hok.2 (by omega)
  simp only [flat,List.append_assoc,List.singleton_append,Tr.size]
  rw [h1]
  simp only [qdh]
  rw [Qdn ks _ _ _ (by omega) (by omega),Qk3 (l':=List.replicate ks.length 0) (by simp [qm5]),hok.1]
  simp only [Bool.and_self,if_true]
  have h2:=Qfg ks P (List.replicate (n - qcp ks) 0)
  rw [List.append_assoc] at h2
  rw [h2]
  have e:List.replicate (n - qcp ks) (0:Int)=0 :: List.replicate (n - (qcp ks+1)) 0:=by
   rw [← List.replicate_succ];congr 1;omega
  rw [e,List.append_assoc]
  rfl
theorem qym:∀ (ks:List Tr) (P:List Int) (n:Nat) (rest:List Nd),OkL ks→qcp ks≤n→qdh P.length (P++List.replicate n 0) (qjm ks P.length++rest)=qdh (P.length+qcp ks) (P++(Qpl ks++List.replicate (n - qcp ks) 0)) rest
 | [],P,n,rest,_,_=>by simp [qjm,qcp,Qpl]
 | a :: ks,P,n,rest,hok,hn=>by
  simp only [qcp] at hn
  have hz:=qk9 a
  simp only [qjm,List.append_assoc]
  rw [Qcz a P n _ hok.1 (by omega)]
  have e:P++(List.replicate (a.size - 1) 1++0 :: List.replicate (n - a.size) 0)=(P++(List.replicate (a.size - 1) 1++[0]))++List.replicate (n - a.size) 0:=by simp
  have hl:(P++(List.replicate (a.size - 1) (1:Int)++[0])).length=P.length+a.size:=by simp;omega
  have h2:=qym ks (P++(List.replicate (a.size - 1) 1++[0])) (n - a.size) rest hok.2 (by omega)
  rw [hl] at h2
  rw [e,h2]
  simp only [qcp,Qpl]
  rw [show P.length+(a.size+qcp ks)=P.length+a.size+qcp ks by omega,show n - (a.size+qcp ks)=n - a.size - qcp ks by omega]
  simp
end
theorem Qd1 {a:Tr} (h:a.Ok) (hs:a.size≤400):qc7 (flat a 0)=true:=by
 have hz:=qk9 a
 have h1:=Qcz a [] a.size [] h (Nat.le_refl _)
 simp only [List.append_nil,List.nil_append,List.length_nil,Nat.sub_self,List.replicate_zero,qdh,Nat.zero_add] at h1
 unfold qc7
 rw [qtx,h1]
 simp only [Bool.and_eq_true,decide_eq_true_eq]
 refine ⟨⟨hz,hs⟩,?_⟩
 rw [List.all_eq_true]
 intro u hu
 unfold qkf at hu
 have hl:(List.replicate (a.size - 1) (1:Int)++[0]).length - 1=(List.replicate (a.size - 1) (1:Int)).length:=by simp
 rw [hl,List.set_append_right _ _ (Nat.le_refl _),Nat.sub_self] at hu
 have hg:(List.replicate (a.size - 1) (1:Int)++[0]).getD (List.replicate (a.size - 1) (1:Int)).length (0:Int)=(0:Int):=by simp [List.getD_eq_getElem?_getD]
 rw [hg] at hu
 rcases List.mem_append.1 hu with hu | hu
 ·have:=List.eq_of_mem_replicate hu
  simp [this]
 ·have:u=1:=by simpa using hu
  simp [this]
mutual
theorem Qqx {t:List Nd}:∀ {a b:Tr} {i:Nat},Qme t a i→Qme t b i→a=b
 | .mk k x ks,.mk k' x' ks',i,h,h'=>by
  obtain ⟨l,h1,h2⟩:=h
  obtain ⟨l',h3,h4⟩:=h'
  rw [h1] at h3
  injection h3 with h3
  injection h3 with e1 e2 e3
  subst e1;subst e2;subst e3
  rw [Qkr h2 h4]
theorem Qkr {t:List Nd}:∀ {ks ks':List Tr} {l:List Int},Qch t ks l→Qch t ks' l→ks=ks'
 | [],[],_,_,_=>rfl
 | [],b :: ks',l,h,h'=>by
  obtain ⟨k,l',h1,_⟩:=h'
  have h:l=[]:=h
  subst h
  cases h1
 | a :: ks,[],l,h,h'=>by
  obtain ⟨k,l',h1,_⟩:=h
  have h':l=[]:=h'
  subst h'
  cases h1
 | a :: ks,b :: ks',l,h,h'=>by
  obtain ⟨k,m,h1,h2,h3⟩:=h
  obtain ⟨k',m',h4,h5,h6⟩:=h'
  rw [h1] at h4
  injection h4 with e1 e2
  have e1:k=k':=by omega
  subst e1;subst e2
  rw [Qqx h2 h5,Qkr h3 h6]
end
end Go.Ab.Core


namespace Go.Ab.Core
open Go Go.Ab
noncomputable def addIn:List PV×Unit→Option (Sum (List PV×Unit) (Sum (List PV×Unit) (List PV))):=(fun z9=>qba (qbc (.bin .lss .num false (.c (nth z9.1 6)) (.c (nth z9.1 5)))) (fun z10=>qck z10 (qba (qvp (nth z9.1 6)) (fun z11=>qby (ltN z11 (qbj (nth z9.1 1))) (qba (qpo (qbd (nth z9.1 15)) (qc1 0 z11) 0 1 false) (fun z12=>qba (qbc (.bin .add .num false (.c z12) (.c (nth z9.1 0)))) (fun z13=>qba (qvp (nth z9.1 6)) (fun z14=>qby (ltN z14 (qbj (nth z9.1 1))) (qba (setO 1 (qbd (nth z9.1 15)) (qc1 0 z14) 0 1 z13) (fun z15=>qba (qbc (.bin .add .num true (.c (nth z9.1 6)) (.c (.int .i64 1)))) (fun z16=>some (.inl ([nth z9.1 0,nI (qbj (nth z9.1 1)),nth z9.1 2,nth z9.1 3,nth z9.1 4,nth z9.1 5,z16,nI (qbj (nth z9.1 7)),nI (qbj (nth z9.1 8)),nth z9.1 9,.sl 3 (qbd (nth z9.1 10)) false,.sl 1 (qbd (nth z9.1 11)) false,nth z9.1 12,nth z9.1 13,nth z9.1 14,.sl 1 z15 false],z9.2))))))))))) (qba (qby (qb8 (nth z9.1 12) 1) (qby (qb8 (nth z9.1 13) 1) (qby (qdx 3 [.agg [qbi (nth z9.1 12) 0,qbi (nth z9.1 13) 0,slO 1 1 (qbd (nth z9.1 15)) 0 (qbj (nth z9.1 1))]]) (qby (leN (qc1 0 (qbv [.agg [qbi (nth z9.1 12) 0,qbi (nth z9.1 13) 0,slO 1 1 (qbd (nth z9.1 15)) 0 (qbj (nth z9.1 1))]])) (qbv [.agg [qbi (nth z9.1 12) 0,qbi (nth z9.1 13) 0,slO 1 1 (qbd (nth z9.1 15)) 0 (qbj (nth z9.1 1))]])) (qby (qrn (leN (qbj (nth z9.1 7)) (qbv (qbd (nth z9.1 10)))) (leN (qc1 (qbj (nth z9.1 7)) (qbv (qbw (qbv [.agg [qbi (nth z9.1 12) 0,qbi (nth z9.1 13) 0,slO 1 1 (qbd (nth z9.1 15)) 0 (qbj (nth z9.1 1))]]) (qb5 0 [.agg [qbi (nth z9.1 12) 0,qbi (nth z9.1 13) 0,slO 1 1 (qbd (nth z9.1 15)) 0 (qbj (nth z9.1 1))]])))) 2147483648)) (qba (qbc (.bin .add .num true (.c (nth z9.1 4)) (.c (.int .i64 1)))) (fun z17=>some (.inl ([nth z9.1 0,nth z9.1 2,nth z9.1 3,z17,nI (qc1 (qbj (nth z9.1 7)) (qbv (qbw (qbv [.agg [qbi (nth z9.1 12) 0,qbi (nth z9.1 13) 0,slO 1 1 (qbd (nth z9.1 15)) 0 (qbj (nth z9.1 1))]]) (qb5 0 [.agg [qbi (nth z9.1 12) 0,qbi (nth z9.1 13) 0,slO 1 1 (qbd (nth z9.1 15)) 0 (qbj (nth z9.1 1))]])))),nI (qbj (nth z9.1 8)),nth z9.1 9,.sl 3 (ql3 (qbw (qbj (nth z9.1 7)) (qbd (nth z9.1 10))) (qbw (qbv [.agg [qbi (nth z9.1 12) 0,qbi (nth z9.1 13) 0,slO 1 1 (qbd (nth z9.1 15)) 0 (qbj (nth z9.1 1))]]) (qb5 0 [.agg [qbi (nth z9.1 12) 0,qbi (nth z9.1 13) 0,slO 1 1 (qbd (nth z9.1 15)) 0 (qbj (nth z9.1 1))]]))) false,.sl 1 (qbd (nth z9.1 11)) false],z9.2))))))))) (fun z18=>some (.inr z18)))))
noncomputable def addOut:List PV×Unit→Option (Sum (List PV×Unit) (List PV)):=(fun z2=>qba (qbc (.bin .lss .num false (.c (nth z2.1 3)) (.c (nth z2.1 2)))) (fun z3=>qck z3 (qba (qbc (.idxAddr 3 (.c (nth z2.1 1)) (.c (nth z2.1 3)))) (fun z4=>qba (qbc (.load 3 true (.c z4))) (fun z5=>qby (qb8 z5 3) (qba (qbc (.len .slice (.c (qbi z5 2)))) (fun z6=>qba (mkSO z6 z6) (fun z7=>qba (qnu 1 (qbi z5 2)) (fun z8=>qby (leN (qc1 0 z7) (qbv (ql6 z7 (.int .i64 0)))) (qby (qbs [nth z2.1 0,nI z7,nth z2.1 1,nth z2.1 2,nth z2.1 3,nI z7,.int .i64 0]) (qci addIn ([nth z2.1 0,nI z7,nth z2.1 1,nth z2.1 2,nth z2.1 3,nI z7,.int .i64 0,nI (qbj (nth z2.1 4)),nI (qbj (nth z2.1 5)),nth z2.1 6,.sl 3 (qbd (nth z2.1 7)) false,.sl 1 (qbd (nth z2.1 8)) false,qbi z5 0,qbi z5 1,qbi z5 2,.sl 1 (ql3 (ql3 (qbw 0 (ql6 z7 (.int .i64 0))) (qbw z7 z8)) (qb5 (qc1 0 (qbv (qbw z7 z8))) (ql6 z7 (.int .i64 0)))) false],z2.2)))))))))) (qba (some [nI (qbj (nth z2.1 4)),nI (qbj (nth z2.1 5)),nth z2.1 6,.sl 3 (qbd (nth z2.1 7)) false,.sl 1 (qbd (nth z2.1 8)) false]) (fun z19=>some (.inr z19)))))
noncomputable def Qgr:List PV×Unit→Option (Sum (List PV×Unit) (PV×Unit)):=(fun z2=>qba (qbc (.bin .lss .num false (.c (nth z2.1 4)) (.c (nth z2.1 3)))) (fun z3=>qck z3 (qba (qbc (.idxAddr 1 (.c (nth z2.1 2)) (.c (nth z2.1 4)))) (fun z4=>qba (qbc (.load 1 false (.c z4))) (fun z5=>qba (ioO B0 sh86 86 [z5,nI (qbj (nth z2.1 5)),nI (qbj (nth z2.1 6)),nth z2.1 7,.sl 3 (qbd (nth z2.1 8)) false,.sl 1 (qbd (nth z2.1 9)) false]) (fun z6=>qba (qbc (.bin .neq .iface true (.c (nth z6 2)) (.c .nilI))) (fun z7=>qck z7 (qba (qba (qb3 B0 .cl (.fn 87 []) [nth z6 2]) (fun z8=>some (.tup [.nilS,z8],z2.2))) (fun z9=>some (.inr z9))) (qba (qbc (.bin .add .num true (.c (nth z2.1 4)) (.c (.int .i64 1)))) (fun z10=>some (.inl ([nth z2.1 0,nth z2.1 1,nth z2.1 2,nth z2.1 3,z10,nI (qbj (nth z6 0)),nI (qbj (nth z6 1)),nth z6 2,.sl 3 (qbd (nth z6 3)) false,.sl 1 (qbd (nth z6 4)) false],z2.2))))))))) (qba (qby (qb8 (nth z2.1 0) 1) (qby (qb8 (nth z2.1 1) 1) (qby (qdx 3 [.agg [qbi (nth z2.1 0) 0,qbi (nth z2.1 1) 0,slO 1 1 (qbd (nth z2.1 9)) 0 (qbj (nth z2.1 6))]]) (qby (leN (qc1 0 (qbv [.agg [qbi (nth z2.1 0) 0,qbi (nth z2.1 1) 0,slO 1 1 (qbd (nth z2.1 9)) 0 (qbj (nth z2.1 6))]])) (qbv [.agg [qbi (nth z2.1 0) 0,qbi (nth z2.1 1) 0,slO 1 1 (qbd (nth z2.1 9)) 0 (qbj (nth z2.1 6))]])) (qby (qrn (leN (qbj (nth z2.1 5)) (qbv (qbd (nth z2.1 8)))) (leN (qc1 (qbj (nth z2.1 5)) (qbv (qbw (qbv [.agg [qbi (nth z2.1 0) 0,qbi (nth z2.1 1) 0,slO 1 1 (qbd (nth z2.1 9)) 0 (qbj (nth z2.1 6))]]) (qb5 0 [.agg [qbi (nth z2.1 0) 0,qbi (nth z2.1 1) 0,slO 1 1 (qbd (nth z2.1 9)) 0 (qbj (nth z2.1 6))]])))) 2147483648)) (qba (qkw B0 .cl true 33 [slO 3 3 (ql3 (qbw (qbj (nth z2.1 5)) (qbd (nth z2.1 8))) (qbw (qbv [.agg [qbi (nth z2.1 0) 0,qbi (nth z2.1 1) 0,slO 1 1 (qbd (nth z2.1 9)) 0 (qbj (nth z2.1 6))]]) (qb5 0 [.agg [qbi (nth z2.1 0) 0,qbi (nth z2.1 1) 0,slO 1 1 (qbd (nth z2.1 9)) 0 (qbj (nth z2.1 6))]]))) 0 (qc1 (qbj (nth z2.1 5)) (qbv (qbw (qbv [.agg [qbi (nth z2.1 0) 0,qbi (nth z2.1 1) 0,slO 1 1 (qbd (nth z2.1 9)) 0 (qbj (nth z2.1 6))]]) (qb5 0 [.agg [qbi (nth z2.1 0) 0,qbi (nth z2.1 1) 0,slO 1 1 (qbd (nth z2.1 9)) 0 (qbj (nth z2.1 6))]]))))]) (fun z11=>qck z11 (qby (okU (.tup [slO 3 3 (ql3 (qbw (qbj (nth z2.1 5)) (qbd (nth z2.1 8))) (qbw (qbv [.agg [qbi (nth z2.1 0) 0,qbi (nth z2.1 1) 0,slO 1 1 (qbd (nth z2.1 9)) 0 (qbj (nth z2.1 6))]]) (qb5 0 [.agg [qbi (nth z2.1 0) 0,qbi (nth z2.1 1) 0,slO 1 1 (qbd (nth z2.1 9)) 0 (qbj (nth z2.1 6))]]))) 0 (qc1 (qbj (nth z2.1 5)) (qbv (qbw (qbv [.agg [qbi (nth z2.1 0) 0,qbi (nth z2.1 1) 0,slO 1 1 (qbd (nth z2.1 9)) 0 (qbj (nth z2.1 6))]]) (qb5 0 [.agg [qbi (nth z2.1 0) 0,qbi (nth z2.1 1) 0,slO 1 1 (qbd (nth z2.1 9)) 0 (qbj (nth z2.1 6))]])))),.int .i64 0])) (some (.tup [slO 3 3 (ql3 (qbw (qbj (nth z2.1 5)) (qbd (nth z2.1 8))) (qbw (qbv [.agg [qbi (nth z2.1 0) 0,qbi (nth z2.1 1) 0,slO 1 1 (qbd (nth z2.1 9)) 0 (qbj (nth z2.1 6))]]) (qb5 0 [.agg [qbi (nth z2.1 0) 0,qbi (nth z2.1 1) 0,slO 1 1 (qbd (nth z2.1 9)) 0 (qbj (nth z2.1 6))]]))) 0 (qc1 (qbj (nth z2.1 5)) (qbv (qbw (qbv [.agg [qbi (nth z2.1 0) 0,qbi (nth z2.1 1) 0,slO 1 1 (qbd (nth z2.1 9)) 0 (qbj (nth z2.1 6))]]) (qb5 0 [.agg [qbi (nth z2.1 0) 0,qbi (nth z2.1 1) 0,slO 1 1 (qbd (nth z2.1 9)) 0 (qbj (nth z2.1 6))]])))),.int .i64 0],z2.2))) (qba (qbc (.load 1 false (.c (.ptr [.glob 1 407] 0)))) (fun z12=>qby (qb8 z12 1) (qba (qb3 B0 .cl (.fn 87 []) [qbi z12 0]) (fun z13=>some (.tup [.nilS,z13],z2.2)))))))))))) (fun z14=>some (.inr z14)))))
@[simp] theorem nth_14 (a b c d e f g h i j k m n o x:PV) (l:List PV):nth (a :: b :: c :: d :: e :: f :: g :: h :: i :: j :: k :: m :: n :: o :: x :: l) 14=x:=rfl
@[simp] theorem nth_15 (a b c d e f g h i j k m n o p x:PV) (l:List PV):nth (a :: b :: c :: d :: e :: f :: g :: h :: i :: j :: k :: m :: n :: o :: p :: x :: l) 15=x:=rfl
def Low (t:List Nd):Prop:=∀ n∈t,n.kids.length≤big∧∀ k∈n.kids,0≤k∧k≤big
theorem take_nds (l:List Nd):(nds l).take l.length=nds l:=List.take_of_length_le (by simp)
theorem Qpt (l:List Nd) (x:Nd):nds l++[nd x]=nds (l++[x]):=by simp [nds]
theorem slO_nds (l:List Nd):slO 3 3 (nds l) 0 l.length=tl l:=by
 have:=qmr 3 (nds l)
 rwa [Qgg] at this
theorem Qll (l:List Int):qnu 1 (il l)=some (qg6 l):=by simp [qnu,ql8,il,chk]
theorem Qls (l:List Int):List.take 0 (qg6 (List.replicate l.length 0))++List.take l.length (qg6 l)++List.drop (0+(List.take l.length (qg6 l)).length) (qg6 (List.replicate l.length 0))=qg6 l:=by
 rw [qpx]
 simp
theorem set_map {α:Type} (f:α→α) {l:List α} {j:Nat} (hj:j < l.length):((l.take j).map f++l.drop j).set j (f l[j])=(l.take (j+1)).map f++l.drop (j+1):=by
 have hl:((l.take j).map f).length=j:=by simp;omega
 rw [List.set_append_right _ _ (by omega),hl,Nat.sub_self,List.drop_eq_getElem_cons hj,List.set_cons_zero,List.take_succ_eq_append_getElem hj,List.map_append]
 simp only [List.map_cons,List.map_nil,List.append_assoc,List.singleton_append]
theorem okS_nd (n:Nd):qdx 3 [nd n]=true:=rfl
theorem addIn_loop {t:List Nd} {i off nb nk:Nat} {err:PV} {bs ks:List PV} {n:Nd} (hn:n.kids.length≤big) (hk:∀ k∈n.kids,0≤k∧k≤big) (ho:off≤big) (hi:i < t.length) (ht:t.length≤big) (hb:bs.length=nb) (hnb:nb≤big) :
  qci addIn ([I (off:Nat),I (n.kids.length:Nat),tl t,I (t.length:Nat),I (i:Nat),I (n.kids.length:Nat),I ((0:Nat):Int),I (nb:Nat),I (nk:Nat),err,.sl 3 bs false,.sl 1 ks false,I n.kind,.str n.text,il n.kids,il n.kids],()) =
   some (.inl ([I (off:Nat),tl t,I (t.length:Nat),I ((i+1:Nat):Int),I ((nb+1:Nat):Int),I (nk:Nat),err,.sl 3 (bs++[nd (qkb off n)]) false,.sl 1 ks false],())):=by
 have hbl:=qfu
 refine qmc (fun j=>([I (off:Nat),I (n.kids.length:Nat),tl t,I (t.length:Nat),I (i:Nat),I (n.kids.length:Nat),I (j:Nat),I (nb:Nat),I (nk:Nat),err,.sl 3 bs false,.sl 1 ks false,I n.kind,.str n.text,il n.kids,il ((n.kids.take j).map (·+(off:Int))++n.kids.drop j)],())) n.kids.length rfl (fun j hj=>?_) ?_
 ·have hl:((n.kids.take j).map (·+(off:Int))++n.kids.drop j).length=n.kids.length:=by simp;omega
  have hlt:j < ((n.kids.take j).map (·+(off:Int))++n.kids.drop j).length:=by omega
  have hget:((n.kids.take j).map (·+(off:Int))++n.kids.drop j)[j]=n.kids[j]:=by
   rw [List.getElem_append_right (by simp;omega)]
   simp [Nat.min_eq_left (Nat.le_of_lt hj)]
  have hkj:=hk _ (List.getElem_mem hj)
  unfold addIn
  simp only [qdd,qdc,qdg,qdq,qfv,qgl,qjb,qju,qms,qnb,qk1,qte,Qjv,Qju,nth_14,nth_15,qcj,qh5,qb1,qce,qgd,qd0,qdp,qbb]
  rw [show decide ((j:Int) < (n.kids.length:Nat))=true by simp;omega,qb6]
  simp only [qwt,qbb,qru,qd3,Nat.zero_add,show decide (j < n.kids.length)=true by simpa using hj,qbg]
  rw [qnv hlt,qbb,hget,qg9,qbb,w64 (by omega) (by omega),qxn hlt,qbb,qg9,qbb,qhd (by omega)]
  rw [set_map (·+(off:Int)) hj]
  rfl
 ·have hfin:(n.kids.take n.kids.length).map (·+(off:Int))++n.kids.drop n.kids.length=n.kids.map (·+(off:Int)):=by simp
  unfold addIn
  simp only [qdd,qdc,qdg,qdq,qfv,qgl,qjb,qju,qms,qnb,qk1,qte,Qjv,Qju,nth_14,nth_15,qcj,qh5,qb1,qce,qgd,qd0,qdp,qbb,hfin]
  rw [show decide ((n.kids.length:Int) < (n.kids.length:Nat))=false by simp,qbm]
  have e1:slO 1 1 (qg6 (n.kids.map (·+(off:Int)))) 0 n.kids.length=il (n.kids.map (·+(off:Int))):=by
   have:=qqy (n.kids.map (·+(off:Int)))
   rwa [List.length_map] at this
  have e2:PV.agg [qbi (I n.kind) 0,qbi (.str n.text) 0,il (n.kids.map (·+(off:Int)))]=nd (qkb off n):=rfl
  rw [e1,e2,show qb8 (I n.kind) 1=true from rfl,show qb8 (.str n.text) 1=true from rfl,okS_nd]
  simp only [qbg,qf4,List.length_singleton,qd3,Nat.zero_add,qke,Nat.le_refl,decide_true,qfk,qfq,List.drop_zero,List.take_succ_cons,List.take_zero,qg5,Bool.true_and,qg3,hb]
  rw [show decide (nb+1≤2147483648)=true by simp;omega,qbg,List.take_of_length_le (by omega)]
  simp only [qg9,qbb]
  rw [qhd (by omega)]
theorem Qb2 {t:List Nd} {off nk:Nat} {err:PV} {ks:List PV} (hlow:Low t) (ht:t.length≤big) (ho:off≤big):∀ (rest:List Nd) (i:Nat) (b:List Nd),t.drop i=rest→i≤t.length→b.length+rest.length≤big →
  qci addOut ([I (off:Nat),tl t,I (t.length:Nat),I (i:Nat),I (b.length:Nat),I (nk:Nat),err,.sl 3 (nds b) false,.sl 1 ks false],()) =
   some [I ((b++rest.map (qkb off)).length:Nat),I (nk:Nat),err,.sl 3 (nds (b++rest.map (qkb off))) false,.sl 1 ks false]
 | [],i,b,hd,hi,hb=>by
  have e:i=t.length:=by have:=List.drop_eq_nil_iff.1 hd;omega
  subst e
  refine qde ?_
  unfold addOut
  simp only [qdd,qdc,qdg,qdq,qfv,qgl,qjb,qju,qms,qcj,qh5,qb1,qd0,qdp,qbb]
  rw [show decide ((t.length:Int) < (t.length:Nat))=false by simp,qbm]
  simp
 | n :: rest,i,b,hd,hi,hb=>by
  obtain ⟨hi',h1,h2⟩:=qjg hd
  have hbl:=qfu
  have hln:=hlow n (by rw [← h1];exact List.getElem_mem hi')
  simp only [List.length_cons] at hb
  have hin:=addIn_loop (t:=t) (i:=i) (off:=off) (nb:=b.length) (nk:=nk) (err:=err) (bs:=nds b) (ks:=ks) hln.1 hln.2 ho hi' ht (by simp) (by omega)
  rw [qdj (s':=([I (off:Nat),tl t,I (t.length:Nat),I ((i+1:Nat):Int),I ((b++[qkb off n]).length:Nat),I (nk:Nat),err,.sl 3 (nds (b++[qkb off n])) false,.sl 1 ks false],()))]
  ·have h3:=Qb2 (nk:=nk) (err:=err) (ks:=ks) hlow ht ho rest (i+1) (b++[qkb off n]) h2 (by omega) (by simp;omega)
   simp only [List.map_cons]
   rw [h3]
   simp
  ·unfold addOut
   simp only [qdd,qdc,qdg,qdq,qfv,qgl,qjb,qju,qms,qcj,qh5,qb1,qd0,qdp,qbb]
   rw [show decide ((i:Int) < (t.length:Nat))=true by simp;omega,qb6,qmh hi',h1]
   simp only [qbb,Qj6,qm9,qbg,qmo,qmn,qmm,qh1,Qll]
   rw [Qqh (by unfold qdr;omega)]
   simp only [qbb,qs9,qf4,qcz,List.length_replicate,qd3,Nat.zero_add,qke,Nat.le_refl,decide_true,qbg,qfk,qfq,qg3]
   rw [show qbs [I (off:Nat),I (n.kids.length:Nat),tl t,I (t.length:Nat),I (i:Nat),I (n.kids.length:Nat),I 0]=true from rfl,qbg]
   have hc:=Qls n.kids
   rw [Nat.zero_add] at hc
   rw [hc,qgd]
   have hin':=hin
   rw [show I ((0:Nat):Int)=I 0 from rfl] at hin'
   rw [hin']
   rw [show nds b++[nd (qkb off n)]=nds (b++[qkb off n]) from Qpt b _]
   simp
theorem add_run {t b:List Nd} {off nk:Nat} {err:PV} {kk:List Int} (hlow:Low t) (ho:off≤big) (hb:b.length+t.length≤big) (he:okV err=true) :
  ioO B0 sh119 119 [I (off:Nat),tl t,I (b.length:Nat),I (nk:Nat),err,.sl 3 (nds b) false,.sl 1 (qg6 kk) false] =
   some [I ((b++t.map (qkb off)).length:Nat),I (nk:Nat),err,.sl 3 (nds (b++t.map (qkb off))) false,.sl 1 (qg6 kk) false]:=by
 refine qhi (qhk fun _=>.cl) (fn:=fn119) rfl (Pf:=shs119) rfl (xs:=[]) (obs:=[]) rfl rfl (by simp [qca,he,okV,Qf5,qtd]) ?_
 rw [show shs119 [] []=sh119 from rfl,run119,qk2,qbb]
 simp only [qcj,qh5,qb1,qd0]
 rw [show qbs [I (off:Nat),tl t,I (t.length:Nat),I 0]=true from rfl,qbg]
 exact Qb2 hlow (by omega) ho t 0 b rfl (Nat.zero_le _) hb
theorem kid_run {t b:List Nd} {err:PV} {kk:List Int} (hf:Fine t) (hr:qc7 t=true) (hlow:Low t) (hb:b.length+t.length≤big) (hk:kk.length≤big) (he:okV err=true) :
  ioO B0 sh86 86 [tl t,I (b.length:Nat),I (kk.length:Nat),err,.sl 3 (nds b) false,.sl 1 (qg6 kk) false] =
   some [I ((b++t.map (qkb b.length)).length:Nat),I ((kk++[((b.length+t.length - 1:Nat):Int)]).length:Nat),err,.sl 3 (nds (b++t.map (qkb b.length))) false,.sl 1 (qg6 (kk++[((b.length+t.length - 1:Nat):Int)])) false]:=by
 have hbl:=qfu
 have h1:1≤t.length:=(qgu hr).choose_spec.2.2.2.2.1
 refine qhi (qhk fun _=>.cl) (fn:=fn86) rfl (Pf:=shs86) rfl (xs:=[]) (obs:=[]) rfl rfl (by simp [qca,he,okV,Qf5,qtd]) ?_
 rw [show shs86 [] []=sh86 from rfl,run86,qs8 hf,qbb,hr]
 simp only [qpg,qbb,qcj,qh5,qb1,qd0]
 rw [show (!true)=false from rfl,qbm]
 have ha:=add_run (t:=t) (b:=b) (off:=b.length) (nk:=kk.length) (err:=err) (kk:=kk) hlow (by omega) hb he
 rw [show ioO B0 (.mk _ _ _ _ _ _) 119 _=_ from ha,qbb]
 simp only [qdd,qdc,qdg,qdq,qfv,qcj,qb1,Qpg,qbb]
 have hl:(b++t.map (qkb b.length)).length=b.length+t.length:=by simp
 rw [hl,Qmf (by omega) (by omega)]
 rw [show qdx 1 [I ((b.length+t.length - 1:Nat):Int)]=true from rfl]
 simp only [qbg,qf4,List.length_singleton,qcz,qd3,Nat.zero_add,qke,Nat.le_refl,decide_true,qfk,qfq,List.drop_zero,List.take_succ_cons,List.take_zero,qg5,Bool.true_and,qg3,qpx,qs6]
 rw [show decide (kk.length+1≤2147483648)=true by simp;omega,qbg]
 simp
theorem Qjd:∀ (ks:List Tr) (o:Nat),∀ k∈qd4 ks o,0≤k∧k < ((o+qcp ks:Nat):Int)
 | [],_,k,h=>by cases h
 | a :: ks,o,k,h=>by
  have hz:=qk9 a
  simp only [qd4,List.mem_cons] at h
  simp only [qcp]
  rcases h with rfl | h
  ·omega
  ·have:=Qjd ks _ k h
   omega
mutual
theorem Qgy:∀ (a:Tr) (o:Nat),o+a.size≤big→Low (flat a o)
 | .mk k x ks,o,h,n,hn=>by
  simp only [Tr.size] at h
  simp only [flat,List.mem_append,List.mem_singleton] at hn
  rcases hn with hn | rfl
  ·exact Qk5 ks o (by omega) n hn
  ·have:=qqe ks
   refine ⟨by simp only [qm5];omega,fun j hj=>?_⟩
   have:=Qjd ks o j hj
   omega
theorem Qk5:∀ (ks:List Tr) (o:Nat),o+qcp ks≤big→Low (qjm ks o)
 | [],_,_,n,hn=>by cases hn
 | a :: ks,o,h,n,hn=>by
  simp only [qcp] at h
  simp only [qjm,List.mem_append] at hn
  rcases hn with hn | hn
  ·exact Qgy a o (by omega) n hn
  ·exact Qk5 ks _ (by omega) n hn
end
theorem qz6 {a:Tr} (h:a.size≤400):Fine (flat a 0):=⟨by rw [qtx];unfold big;omega,fun n hn=>⟨(Qgy a 0 (by unfold big;omega) n hn).1⟩⟩
theorem Qd2 (a:Tr):∀ (ks:List Tr) (o:Nat),qjm (ks++[a]) o=qjm ks o++flat a (o+qcp ks)
 | [],o=>by simp [qjm,qcp]
 | b :: ks,o=>by simp only [List.cons_append,qjm,Qd2 a ks,qcp,List.append_assoc];rw [Nat.add_assoc]
theorem qyl (a:Tr):∀ (ks:List Tr) (o:Nat),qd4 (ks++[a]) o=qd4 ks o++[((o+qcp ks+a.size - 1:Nat):Int)]
 | [],o=>by simp [qd4,qcp]
 | b :: ks,o=>by simp only [List.cons_append,qd4,qyl a ks,qcp];rw [Nat.add_assoc o]
theorem Qcu (a:Tr):∀ (ks:List Tr),qcp (ks++[a])=qcp ks+a.size
 | []=>by simp [qcp]
 | b :: ks=>by simp only [List.cons_append,qcp,Qcu a ks];omega
def qki (ks:List Tr):List PV:=ks.map fun a=>tl (flat a 0)
theorem okVL_flats (ks:List Tr):qca (qki ks)=true:=by
 induction ks with
 | nil=>rfl
 | cons a ks ih=>simp only [qki,List.map_cons,qca,Qqa,Bool.true_and];exact ih
theorem Qkp {k:Int} {x:Tx} {ks:List Tr} (hok:OkL ks) (hfm:qge ⟨k,x,List.replicate ks.length 0⟩=true) (hs:qcp ks+1≤400):∀ (rest pre:List Tr),ks=pre++rest→OkL rest →
  qci Qgr ([I k,.str x,.sl 1 (qki ks) false,I (ks.length:Nat),I (pre.length:Nat),I ((qjm pre 0).length:Nat),I ((qd4 pre 0).length:Nat),.nilI,.sl 3 (nds (qjm pre 0)) false,.sl 1 (qg6 (qd4 pre 0)) false],()) =
   some (.tup [tl (flat (.mk k x ks) 0),I 0],())
 | [],pre,he,_=>by
  have he:ks=pre:=by simpa using he
  subst he
  have hbl:=qfu
  have hokT:Tr.Ok (.mk k x ks):=⟨hfm,hok⟩
  have hsT:Tr.size (.mk k x ks)≤400:=by simpa [Tr.size] using hs
  have hl1:=qnn ks 0
  have hl2:=qm5 ks 0
  have hl3:=qqe ks
  refine qde ?_
  unfold Qgr
  simp only [qdd,qdc,qdg,qdq,qfv,qgl,qjb,qju,qms,qnb,qcj,qh5,qb1,qd0,qdp,qbb]
  rw [show decide ((ks.length:Int) < (ks.length:Nat))=false by simp,qbm]
  have e1:slO 1 1 (qg6 (qd4 ks 0)) 0 (qd4 ks 0).length=il (qd4 ks 0):=qqy _
  have e2:PV.agg [qbi (I k) 0,qbi (.str x) 0,il (qd4 ks 0)]=nd ⟨k,x,qd4 ks 0⟩:=rfl
  rw [e1,e2,show qb8 (I k) 1=true from rfl,show qb8 (.str x) 1=true from rfl,okS_nd]
  simp only [qbg,qf4,List.length_singleton,Qgg,qd3,Nat.zero_add,qke,Nat.le_refl,decide_true,qfk,qfq,List.drop_zero,List.take_succ_cons,List.take_zero,qg5,Bool.true_and,qg3,take_nds,Qpt]
  rw [show decide ((qjm ks 0).length+1≤2147483648)=true by simp;omega,qbg]
  have e3:qjm ks 0++[⟨k,x,qd4 ks 0⟩]=flat (.mk k x ks) 0:=rfl
  have e4:(qjm ks 0).length+1=(flat (.mk k x ks) 0).length:=by rw [← e3];simp
  rw [e3,e4,slO_nds,right_lend (qz6 hsT),Qd1 hokT hsT,qbb,qb6]
  rw [show okU (.tup [tl (flat (.mk k x ks) 0),I 0])=true by simp [okU,okV,qca],qbg]
  rfl
 | a :: rest,pre,he,ho=>by
  have hbl:=qfu
  have hsz:qcp ks=qcp pre+a.size+qcp rest:=by
   rw [he,show pre++a :: rest=(pre++[a])++rest by simp]
   have:∀ (u v:List Tr),qcp (u++v)=qcp u+qcp v:=fun u v=>by
    induction u with
    | nil=>simp [qcp]
    | cons b u ih=>simp only [List.cons_append,qcp,ih];omega
   rw [this,Qcu]
  have hlt:pre.length < ks.length:=by rw [he];simp
  have hsa:a.size≤400:=by omega
  have hk:=kid_run (t:=flat a 0) (b:=qjm pre 0) (err:=.nilI) (kk:=qd4 pre 0) (qz6 hsa) (Qd1 ho.1 hsa) (Qgy a 0 (by unfold big;omega)) (by rw [qnn,qtx];unfold big;omega) (by rw [qm5];have:=qqe pre;unfold big;omega) rfl
  rw [Qd0,Nat.zero_add] at hk
  have e1:qjm pre 0++flat a (qjm pre 0).length=qjm (pre++[a]) 0:=by rw [Qd2,qnn,Nat.zero_add]
  have e2:qd4 pre 0++[(((qjm pre 0).length+(flat a 0).length - 1:Nat):Int)]=qd4 (pre++[a]) 0:=by rw [qyl,qnn,qtx,Nat.zero_add]
  rw [e1,e2] at hk
  rw [qdj (s':=([I k,.str x,.sl 1 (qki ks) false,I (ks.length:Nat),I ((pre++[a]).length:Nat),I ((qjm (pre++[a]) 0).length:Nat),I ((qd4 (pre++[a]) 0).length:Nat),.nilI,.sl 3 (nds (qjm (pre++[a]) 0)) false,.sl 1 (qg6 (qd4 (pre++[a]) 0)) false],()))]
  ·exact Qkp hok hfm hs rest (pre++[a]) (by rw [he];simp) ho.2
  ·unfold Qgr
   simp only [qdd,qdc,qdg,qdq,qfv,qgl,qjb,qju,qms,qnb,qcj,qh5,qb1,qd0,qdp,qbb]
   rw [show decide ((pre.length:Int) < (ks.length:Nat))=true by simp;omega,qb6]
   have hidx:qbc (.idxAddr 1 (.c (.sl 1 (qki ks) false)) (.c (I (pre.length:Int))))=some (.ptr [tl (flat a 0)] 0) :=
    qgj (by omega) (show (qki ks)[pre.length]?=some (tl (flat a 0)) by rw [he];simp [qki])
   rw [hidx,qbb,show qbc (.load 1 false (.c (.ptr [tl (flat a 0)] 0)))=some (tl (flat a 0)) from rfl,qbb]
   rw [show ioO B0 sh86 86 _=_ from hk,qbb]
   simp only [qdd,qdc,qdg,qdq,qfv,qcj,qb1]
   rw [show qbc (.bin .neq .iface true (.c .nilI) (.c .nilI))=some (.bool false) from rfl,qbb,qbm,qg9,qbb,qhd (by have:=qqe ks;omega)]
   simp
theorem join_run {k:Int} {x:Tx} {ks:List Tr} (h:Tr.Ok (.mk k x ks)) (hs:Tr.size (.mk k x ks)≤400):qkw B0 .cl false 59 [I k,.str x,.sl 1 (qki ks) false]=some (.tup [tl (flat (.mk k x ks) 0),I 0]):=by
 refine qhq (qhk fun _=>.cl) (fn:=fn59) rfl (by simp [qca,okV,okVL_flats]) (Nat.le_of_ble_eq_true rfl) ?_ rfl
 rw [List.map_cons,List.map_cons,List.map_cons,List.map_nil,run59,qgk,qbb]
 rw [show (qki ks).length=ks.length by simp [qki]]
 simp only [qd0]
 rw [show qbs [I k,.str x,.sl 1 (qki ks) false,I (ks.length:Nat),I 0]=true from rfl,qbg]
 exact Qkp h.2 h.1 (by simpa [Tr.size] using hs) ks [] rfl h.2
end Go.Ab.Core


namespace Go.Ab.Core
open Go Go.Ab
mutual
def ofT:Tr→List Int→Tr×List Int
 | .mk k x ks,ms =>
  if k=5 then Qqg ks ms
  else if qje k=true then (.mk k (qtf (ms.headD 0)) (ofL ks ms.tail).1,(ofL ks ms.tail).2)
  else (.mk k x (ofL ks ms).1,(ofL ks ms).2)
def Qqg:List Tr→List Int→Tr×List Int
 | [],ms=>(.mk 0 [] [],ms)
 | a :: _,ms=>ofT a ms
def ofL:List Tr→List Int→List Tr×List Int
 | [],ms=>([],ms)
 | a :: ks,ms=>((ofT a ms).1 :: (ofL ks (ofT a ms).2).1,(ofL ks (ofT a ms).2).2)
end
mutual
def Qrq:Tr→Nat
 | .mk k _ ks=>(if qje k=true then 1 else 0)+Qrr ks
def Qrr:List Tr→Nat
 | []=>0
 | a :: ks=>Qrq a+Qrr ks
end
theorem Qj1 (n:Int):qtf n≠[]:=by
 unfold qtf itoaF
 split
 ·simp
 ·rw [digs]
  split<;>simp
theorem Qdx {k:Int} {x x':Tx} {l:List Int} (h:(x != [])=(x' != [])):qge ⟨k,x,l⟩=qge ⟨k,x',l⟩:=by
 unfold qge
 simp only [h]
theorem Qk2 {k:Int} {x:Tx} {l:List Int} (hk:qje k=true) (h:qge ⟨k,x,l⟩=true):x≠[]:=by
 unfold qge at h
 simp only [qje,Bool.or_eq_true,beq_iff_eq] at hk
 intro e
 subst e
 rcases hk with (rfl | rfl) | rfl<;>simp [Qgv,List.find?] at h
theorem qv5 {x:Tx} {ks:List Tr} (h:qge ⟨5,x,List.replicate ks.length 0⟩=true):∃ a,ks=[a]:=by
 unfold qge at h
 simp only [Qgv,List.find?] at h
 have:ks.length=1:=by
  simp at h
  omega
 match ks,this with
 | [a],_=>exact ⟨a,rfl⟩
theorem qy5:∀ (ks:List Tr) (ms:List Int),(ofL ks ms).1.length=ks.length
 | [],_=>rfl
 | a :: ks,ms=>by simp [ofL,qy5 ks]
mutual
theorem ofT_ok:∀ (a:Tr) (ms:List Int),a.Ok→(ofT a ms).1.Ok∧(ofT a ms).1.size≤a.size
 | .mk k x ks,ms,h=>by
  simp only [ofT]
  split
  ·rename_i e
   subst e
   obtain ⟨a,rfl⟩:=qv5 h.1
   obtain ⟨h1,h2⟩:=ofT_ok a ms h.2.1
   simp only [Qqg,Tr.size,qcp]
   exact ⟨h1,by omega⟩
  ·split
   ·rename_i hk
    obtain ⟨h1,h2⟩:=qy4 ks ms.tail h.2
    have hx:=Qk2 hk h.1
    refine ⟨⟨?_,h1⟩,by simp only [Tr.size];omega⟩
    rw [qy5,Qdx (x':=x) (by rw [bne_iff_ne.2 (Qj1 _),bne_iff_ne.2 hx])]
    exact h.1
   ·obtain ⟨h1,h2⟩:=qy4 ks ms h.2
    refine ⟨⟨?_,h1⟩,by simp only [Tr.size];omega⟩
    rw [qy5]
    exact h.1
theorem qy4:∀ (ks:List Tr) (ms:List Int),OkL ks→OkL (ofL ks ms).1∧qcp (ofL ks ms).1≤qcp ks
 | [],_,_=>⟨trivial,Nat.le_refl _⟩
 | a :: ks,ms,h=>by
  obtain ⟨h1,h2⟩:=ofT_ok a ms h.1
  obtain ⟨h3,h4⟩:=qy4 ks (ofT a ms).2 h.2
  simp only [ofL,qcp]
  exact ⟨⟨h1,h3⟩,by omega⟩
end
mutual
theorem Qf7:∀ (a:Tr) (ms:List Int),a.Ok→(ofT a ms).2=ms.drop (Qrq a)
 | .mk k x ks,ms,h=>by
  simp only [ofT,Qrq]
  split
  ·rename_i e
   subst e
   obtain ⟨a,rfl⟩:=qv5 h.1
   simp only [Qqg,Qrr]
   rw [Qf7 a ms h.2.1]
   simp [qje]
  ·split
   ·rw [Qf8 ks _ h.2,← List.drop_one,List.drop_drop]
   ·rw [Qf8 ks _ h.2,Nat.zero_add]
theorem Qf8:∀ (ks:List Tr) (ms:List Int),OkL ks→(ofL ks ms).2=ms.drop (Qrr ks)
 | [],_,_=>rfl
 | a :: ks,ms,h=>by
  simp only [ofL,Qrr]
  rw [Qf8 ks _ h.2,Qf7 a ms h.1,List.drop_drop]
end
noncomputable def qy3:List PV×Unit→Option (Sum (List PV×Unit) (List PV)):=(fun z13=>qba (qbc (.bin .lss .num false (.c (nth z13.1 3)) (.c (nth z13.1 2)))) (fun z14=>qck z14 (qba (qvp (nth z13.1 3)) (fun z15=>qby (ltN z15 (qbj (nth z13.1 1))) (qba (qpo (qbd (nth z13.1 9)) (qc1 0 z15) 0 1 false) (fun z16=>qba (ioO B0 sh34 34 [z16,nth z13.1 4]) (fun z17=>qby (qdx 1 [nth z17 0]) (qby (leN (qc1 0 (qbv [nth z17 0])) (qbv [nth z17 0])) (qby (qrn (leN (qbj (nth z13.1 0)) (qbv (qbd (nth z13.1 8)))) (leN (qc1 (qbj (nth z13.1 0)) (qbv (qbw (qbv [nth z17 0]) (qb5 0 [nth z17 0])))) 2147483648)) (qba (qbc (.bin .add .num true (.c (nth z13.1 3)) (.c (.int .i64 1)))) (fun z18=>some (.inl ([nI (qc1 (qbj (nth z13.1 0)) (qbv (qbw (qbv [nth z17 0]) (qb5 0 [nth z17 0])))),nI (qbj (nth z13.1 1)),nth z13.1 2,z18,nth z17 1,nth z13.1 5,nth z13.1 6,nth z13.1 7,.sl 1 (ql3 (qbw (qbj (nth z13.1 0)) (qbd (nth z13.1 8))) (qbw (qbv [nth z17 0]) (qb5 0 [nth z17 0]))) false,.sl 1 (qbd (nth z13.1 9)) false],z13.2))))))))))) (qba (qba (qkw B0 .cl false 59 [nth z13.1 5,nth z13.1 6,slO 1 1 (qbd (nth z13.1 8)) 0 (qbj (nth z13.1 0))]) (fun z19=>qba (qbc (.extract 0 (.c z19))) (fun z20=>qba (qbc (.extract 1 (.c z19))) (fun z21=>some [z20,.agg (qf7 (nth z13.1 4))])))) (fun z22=>some (.inr z22)))))
def I64 (ms:List Int):Prop:=∀ m∈ms, -9223372036854775808≤m∧m≤9223372036854775807
theorem I64.drop {ms:List Int} (h:I64 ms) (n:Nat):I64 (ms.drop n):=fun m hm=>h m (List.mem_of_mem_drop hm)
theorem okV_mk2 (t:List Nd) (ms:List Int):okV (mk2 t ms)=true:=by simp [mk2,okV,qca]
theorem of_step {t:List Nd} {l ms ms':List Int} {k:Int} {x:Tx} {b:Tr} {j i:Nat} {kv:PV} {outs:List Tr} (hj:j < l.length) (hi:l[j]=(i:Int)) (hl:l.length≤big) (ho:outs.length=j)
  (h:ioO B0 sh34 34 [I (i:Int),mk2 t ms]=some [tl (flat b 0),mk2 t ms']) :
  qy3 ([I (outs.length:Nat),I (l.length:Nat),I (l.length:Nat),I (j:Nat),mk2 t ms,I k,.str x,kv,.sl 1 (qki outs) false,il l],()) =
   some (.inl ([I ((outs++[b]).length:Nat),I (l.length:Nat),I (l.length:Nat),I ((j+1:Nat):Int),mk2 t ms',I k,.str x,kv,.sl 1 (qki (outs++[b])) false,il l],())):=by
 have hbl:=qfu
 unfold qy3
 simp only [qdd,qdc,qdg,qdq,qfv,qgl,qjb,qju,qms,qnb,qcj,qh5,qb1,qce,qgd,qd0,qdp,qbb]
 rw [show decide ((j:Int) < (l.length:Nat))=true by simp;omega,qb6]
 simp only [qwt,qbb,qru,qd3,Nat.zero_add,show decide (j < l.length)=true by simpa using hj,qbg]
 rw [qnv hj,qbb,hi,h,qbb]
 simp only [qdd,qdc]
 rw [show qdx 1 [tl (flat b 0)]=true from rfl]
 have hfl:(qki outs).length=outs.length:=by simp [qki]
 have hsn:qki outs++[tl (flat b 0)]=qki (outs++[b]):=by simp [qki]
 simp only [qbg,qf4,List.length_singleton,hfl,qd3,Nat.zero_add,qke,Nat.le_refl,decide_true,qfk,qfq,List.drop_zero,List.take_succ_cons,List.take_zero,qg5,Bool.true_and,qg3]
 rw [show decide (outs.length+1≤2147483648)=true by simp;omega,qbg,List.take_of_length_le (by omega),hsn]
 simp only [qg9,qbb]
 rw [qhd (by omega)]
 simp
theorem of_end {t:List Nd} {l ms:List Int} {k:Int} {x:Tx} {kv:PV} {outs:List Tr} (h:Tr.Ok (.mk k x outs)) (hs:Tr.size (.mk k x outs)≤400) :
  qy3 ([I (outs.length:Nat),I (l.length:Nat),I (l.length:Nat),I (l.length:Nat),mk2 t ms,I k,.str x,kv,.sl 1 (qki outs) false,il l],())=some (.inr [tl (flat (.mk k x outs) 0),mk2 t ms]):=by
 unfold qy3
 simp only [qdd,qdc,qdg,qdq,qfv,qgl,qjb,qju,qms,qnb,qcj,qh5,qb1,qce,qgd,qd0,qdp,qbb]
 rw [show decide ((l.length:Int) < (l.length:Nat))=false by simp,qbm]
 have hfl:slO 1 1 (qki outs) 0 outs.length=.sl 1 (qki outs) false:=by
  have:=qmr 1 (qki outs)
  rwa [show (qki outs).length=outs.length by simp [qki]] at this
 rw [hfl,join_run h hs,qbb]
 rfl
theorem of_case {t:List Nd} (ht:Fine t) {k:Int} {x:Tx} {ks:List Tr} {i:Nat} {ms:List Int} {l:List Int} (hl:t[i]?=some ⟨k,x,l⟩) (hok:Tr.Ok (.mk k x ks)) (hc:Qrq (.mk k x ks)≤ms.length) (hm:I64 ms) (h5:k≠5) (hlen:l.length≤big)
  (hk:∀ (x':Tx) (ms':List Int) (kv:PV),Tr.Ok (.mk k x' (ofL ks ms').1)→Qrr ks≤ms'.length→I64 ms'→qci qy3 ([I (([]:List Tr).length:Nat),I (l.length:Nat),I (l.length:Nat),I ((0:Nat):Int),mk2 t ms',I k,.str x',kv,.sl 1 (qki []) false,il l],())=some [tl (flat (.mk k x' (ofL ks ms').1) 0),mk2 t (ofL ks ms').2]) :
  ioO B0 sh34 34 [I (i:Int),mk2 t ms]=some [tl (flat (ofT (.mk k x ks) ms).1 0),mk2 t (ofT (.mk k x ks) ms).2]:=by
 have hbl:=qfu
 refine qhi (qhk fun _=>.cl) (fn:=fn34) rfl (Pf:=shs34) rfl (xs:=[]) (obs:=[]) rfl rfl (by simp [qca,okV_mk2]) ?_
 rw [show shs34 [] []=sh34 from rfl]
 obtain ⟨hlt,hti⟩:=getE hl
 rw [run34,show Qb5 (mk2 t ms) 0 1 false=some (tl t) from rfl,qbb,qmh hlt,hti]
 simp only [qbb,Qj6,qm9,qbg,qmo,qmn,qmm,qd0,Qhp]
 rw [show (k==5)=false by simpa using h5,qbm]
 rw [show qb3 B0 .cl (.fn 37 []) [.agg [I k,.str x,il l]]=some (.bool (qje k)) from Qdv ⟨k,x,l⟩,qbb,qco]
 have hc2:∀ (x':Tx) (ms':List Int),Tr.Ok (.mk k x' (ofL ks ms').1)→Qrr ks≤ms'.length→I64 ms'→qba (qbc (.len .slice (.c (il l)))) (fun z10=>qba (mkSO z10 z10) (fun z11=>qba (qnu 1 (il l)) (fun z12=>qby (leN (qc1 0 z11) (qbv (ql6 z11 (I 0)))) (qby (qbs [nI 0,nI z11,nI z11,I 0]) (qci qy3 ([nI 0,nI z11,nI z11,I 0,mk2 t ms',I k,.str x',il l,.sl 1 [] false,.sl 1 (ql3 (ql3 (qbw 0 (ql6 z11 (I 0))) (qbw z11 z12)) (qb5 (qc1 0 (qbv (qbw z11 z12))) (ql6 z11 (I 0)))) false],()))))))=some [tl (flat (.mk k x' (ofL ks ms').1) 0),mk2 t (ofL ks ms').2]:=fun x' ms' g1 g2 g3=>by
  rw [qh1,qbb,Qqh (by unfold qdr;omega),qbb,Qll,qbb]
  simp only [qs9,qf4,qcz,List.length_replicate,qd3,qke,qfk,qfq,qg3]
  rw [show decide (0+l.length≤l.length)=true by simp,qbg]
  rw [show qbs [nI 0,nI l.length,nI l.length,I 0]=true from rfl,qbg,Qls l,qgd]
  exact hk x' ms' (il l) g1 g2 g3
 simp only [ofT,if_neg h5]
 by_cases hn:qje k=true
 ·rw [if_pos hn,if_pos hn]
  match ms,hc,hm with
  | [],hc,_=>simp only [Qrq,if_pos hn,List.length_nil] at hc;omega
  | m :: ms,hc,hm =>
   have hm0:=hm m (by simp)
   rw [show ioO B0 (.mk _ _ _ _ _ _) 58 _=_ from text_run t m ms hm0.1 hm0.2,qbb]
   simp only [qdd,qdc]
   rw [show qb8 (.str (qtf m)) 1=true from rfl,qbg,show qbi (.str (qtf m)) 0=.str (qtf m) from rfl]
   have hokL:=qy4 ks ms hok.2
   simp only [Qrq,if_pos hn,List.length_cons] at hc
   refine hc2 (qtf m) ms ⟨?_,hokL.1⟩ (by omega) fun q hq=>hm q (by simp [hq])
   rw [qy5,Qdx (x':=x) (by rw [bne_iff_ne.2 (Qj1 _),bne_iff_ne.2 (Qk2 hn hok.1)])]
   exact hok.1
 ·rw [if_neg hn,if_neg hn]
  have hokL:=qy4 ks ms hok.2
  simp only [Qrq,if_neg hn,Nat.zero_add] at hc
  exact hc2 x ms ⟨by rw [qy5];exact hok.1,hokL.1⟩ hc hm
mutual
theorem of_run {t:List Nd} (ht:Fine t):∀ (a:Tr) {i:Nat} {ms:List Int},Qme t a i→a.Ok→a.size≤400→Qrq a≤ms.length→I64 ms→ioO B0 sh34 34 [I (i:Int),mk2 t ms]=some [tl (flat (ofT a ms).1 0),mk2 t (ofT a ms).2]
 | .mk k x ks,i,ms,hi,hok,hs,hc,hm=>by
  obtain ⟨l,hl,hL⟩:=hi
  have hlen:l.length≤big:=by
   obtain ⟨hlt,hti⟩:=getE hl
   have:=(ht.nd _ (List.getElem_mem hlt)).kids
   rw [hti] at this
   exact this
  simp only [Tr.size] at hs
  by_cases h5:k=5
  ·subst h5
   obtain ⟨hlt,hti⟩:=getE hl
   match ks,qv5 hok.1,hL,hok,hs,hc with
   | [b],_,hL,hok,hs,hc =>
    obtain ⟨kk,l',e,h2,h3⟩:=hL
    have h3:l'=[]:=h3
    subst h3
    simp only [qcp] at hs
    have hb:=of_run ht b h2 hok.2.1 (by omega) (by simpa [Qrq,Qrr,qje] using hc) hm
    refine qhi (qhk fun _=>.cl) (fn:=fn34) rfl (Pf:=shs34) rfl (xs:=[]) (obs:=[]) rfl rfl (by simp [qca,okV_mk2]) ?_
    rw [show shs34 [] []=sh34 from rfl]
    rw [run34,show Qb5 (mk2 t ms) 0 1 false=some (tl t) from rfl,qbb,qmh hlt,hti]
    simp only [qbb,Qj6,qm9,qbg,qmo,qmn,qmm,qd0,Qhp]
    rw [show ((5:Int)==5)=true from rfl,qb6,e]
    rw [show qbc (.idxAddr 1 (.c (il [(kk:Int)])) (.c (I 0)))=some (.ptr [I kk] 0) from rfl,qbb,qnd,qbb]
    rw [show ioO B0 (.mk _ _ _ _ _ _) 34 _=_ from hb,qbb]
    simp only [ofT,Qqg,if_true]
    rfl
  ·have hokL:=qy4 ks
   refine of_case ht hl hok hc hm h5 hlen fun x' ms' kv g1 g2 g3=>?_
   have hsz:=(qy4 ks ms' hok.2).2
   exact ofL_run ht ks (l:=l) (j:=0) (outs:=[]) (F:=(ofL ks ms').1) hL (Nat.zero_le _) hlen rfl hok.2 (by omega) g2 g3 rfl g1 (by simp only [Tr.size];omega)
theorem ofL_run {t:List Nd} (ht:Fine t):∀ (ks:List Tr) {l:List Int} {j:Nat} {ms:List Int} {k:Int} {x:Tx} {kv:PV} {outs F:List Tr},Qch t ks (l.drop j)→j≤l.length→l.length≤big→outs.length=j→OkL ks→qcp ks≤400→Qrr ks≤ms.length→I64 ms →
  F=outs++(ofL ks ms).1→Tr.Ok (.mk k x F)→Tr.size (.mk k x F)≤400 →
  qci qy3 ([I (outs.length:Nat),I (l.length:Nat),I (l.length:Nat),I (j:Nat),mk2 t ms,I k,.str x,kv,.sl 1 (qki outs) false,il l],())=some [tl (flat (.mk k x F) 0),mk2 t (ofL ks ms).2]
 | [],l,j,ms,k,x,kv,outs,F,hL,hj,hl,ho,hok,hs,hc,hm,hF,h1,h2=>by
  have e:j=l.length:=by have:=List.drop_eq_nil_iff.1 (qzr hL);omega
  subst e
  simp only [ofL,List.append_nil] at hF
  subst hF
  exact qde (of_end h1 h2)
 | a :: ks,l,j,ms,k,x,kv,outs,F,hL,hj,hl,ho,hok,hs,hc,hm,hF,h1,h2=>by
  obtain ⟨kk,l',e1,e2,e3⟩:=hL
  obtain ⟨hj',e4,e5⟩:=qjg e1
  simp only [qcp] at hs
  simp only [Qrr] at hc
  have hr:=Qf7 a ms hok.1
  rw [qdj (of_step hj' e4 hl ho (of_run ht a e2 hok.1 (by omega) (by omega) hm))]
  rw [← e5] at e3
  exact ofL_run ht ks e3 (by omega) hl (by simp [ho]) hok.2 (by omega) (by rw [hr,List.length_drop];omega) (by rw [hr];exact hm.drop _) (by rw [hF];simp [ofL]) h1 h2
end
end Go.Ab.Core


namespace Go.Ab.Core
open Go Go.Ab
mutual
def nmT:Tr→List Tx
 | .mk k x ks=>(if qje k=true then [x] else [])++nmL ks
def nmL:List Tr→List Tx
 | []=>[]
 | a :: ks=>nmT a++nmL ks
end
mutual
theorem Qm2:∀ a:Tr,(nmT a).length=Qrq a
 | .mk k x ks=>by simp only [nmT,Qrq,List.length_append,nmL_len ks];split<;>simp
theorem nmL_len:∀ ks:List Tr,(nmL ks).length=Qrr ks
 | []=>rfl
 | a :: ks=>by simp only [nmL,Qrr,List.length_append,Qm2 a,nmL_len ks]
end
mutual
def setT:Tr→Nat
 | .mk k _ ks=>(if k=8 then 1 else 0)+setL ks
def setL:List Tr→Nat
 | []=>0
 | a :: ks=>setT a+setL ks
end
inductive Qfl (texts:List Tx):List Int→List Tx→Prop
 | nil:Qfl texts [] []
 | cons {v:Int} {x:Tx} {vs:List Int} {xs:List Tx} (h:v = -1∨∃ n:Nat,v=n∧texts[n]?=some x) (hs:Qfl texts vs xs):Qfl texts (v :: vs) (x :: xs)
theorem Qfl.append {texts:List Tx} {vs vs':List Int} {xs xs':List Tx} (h:Qfl texts vs xs) (h':Qfl texts vs' xs'):Qfl texts (vs++vs') (xs++xs'):=by
 induction h with
 | nil=>exact h'
 | cons h _ ih=>exact .cons h ih
theorem Qnp {α:Type} {l l':List α} {n:Nat} {x:α} (h:l[n]?=some x):(l++l')[n]?=some x:=by
 rw [List.getElem?_append_left (List.getElem?_eq_some_iff.1 h).1]
 exact h
theorem Qfl.more {texts more:List Tx} {vs:List Int} {xs:List Tx} (h:Qfl texts vs xs):Qfl (texts++more) vs xs:=by
 induction h with
 | nil=>exact .nil
 | cons h _ ih =>
  refine .cons ?_ ih
  rcases h with h | ⟨n,h1,h2⟩
  ·exact .inl h
  ·exact .inr ⟨n,h1,Qnp h2⟩
theorem Qfl.length {texts:List Tx} {vs:List Int} {xs:List Tx} (h:Qfl texts vs xs):vs.length=xs.length:=by induction h<;>simp_all
def S.Tied (s:S):Prop:=∀ k,∀ v∈qjj s.ahead k,∃ n:Nat,v=n∧s.texts[n]?=some k
structure Qb6 (s r:S) (names:List Tx) (sets:Nat):Prop where
 tied:r.Tied
 texts:∃ more,r.texts=s.texts++more∧more.length=sets
 means:∃ new,r.means=s.means++new∧Qfl r.texts new names
theorem Qb6.trans {s r q:S} {a b:List Tx} {m n:Nat} (h:Qb6 s r a m) (h':Qb6 r q b n):Qb6 s q (a++b) (m+n) where
 tied:=h'.tied
 texts:=by
  obtain ⟨x,h1,h2⟩:=h.texts
  obtain ⟨y,h3,h4⟩:=h'.texts
  exact ⟨x++y,by rw [h3,h1,List.append_assoc],by simp [h2,h4]⟩
 means:=by
  obtain ⟨x,h1,h2⟩:=h.means
  obtain ⟨y,h3,h4⟩:=h'.means
  obtain ⟨z,h5,_⟩:=h'.texts
  refine ⟨x++y,by rw [h3,h1,List.append_assoc],Qfl.append ?_ h4⟩
  rw [h5]
  exact h2.more
theorem Qb6.refl {s:S} (h:s.Tied):Qb6 s s [] 0:=⟨h,⟨[],by simp,rfl⟩,⟨[],by simp,.nil⟩⟩
theorem popN_mem {a:Env} {x k:Tx} {v:Int} (h:v∈qjj (popN a x) k):v∈qjj a k:=by
 unfold popN at h
 rw [ql2] at h
 split at h
 ·rename_i e
  subst e
  exact List.dropLast_subset _ h
 ·exact h
theorem Qp6:∀ (ks:List Tx) {a:Env} {k:Tx} {v:Int},v∈qjj (ks.foldl popN a) k→v∈qjj a k
 | [],_,_,_,h=>h
 | x :: ks,_,_,_,h=>popN_mem (Qp6 ks h)
theorem Qb6.leave {s r:S} {a:List Tx} {m:Nat} (h:Qb6 s r a m) (n:Nat):Qb6 s (r.leave n) a m :=
 ⟨fun k v hv=>h.tied k v (Qp6 _ hv),h.texts,h.means⟩
theorem Qb6.bind {s r:S} {a:List Tx} {m:Nat} (h:Qb6 s r a m) {n:Nat} {x:Tx} (hx:r.texts[n]?=some x):Qb6 s (r.bind n x) a m:=by
 refine ⟨fun k v hv=>?_,h.texts,h.means⟩
 simp only [S.bind,ql2] at hv
 split at hv
 ·rename_i e
  subst e
  rcases List.mem_append.1 hv with hv | hv
  ·exact h.tied _ v hv
  ·have:v=n:=by simpa using hv
   exact ⟨n,this,hx⟩
 ·exact h.tied k v hv
theorem came_last {s:S} (h:s.Tied) (x:Tx):Qb6 s { s with means:=s.means++[qnf s.ahead x] } [x] 0:=by
 refine ⟨h,⟨[],by simp,rfl⟩,⟨[qnf s.ahead x],rfl,.cons ?_ .nil⟩⟩
 unfold qnf
 cases hq:(qjj s.ahead x).getLast? with
 | none=>exact .inl rfl
 | some v =>
  obtain ⟨n,h1,h2⟩:=h x v (List.mem_of_getLast? hq)
  exact .inr ⟨n,h1,h2⟩
theorem Qrw {s:S} (h:s.Tied) (x:Tx):Qb6 s { s with means:=s.means++[(s.texts.length:Int)],texts:=s.texts++[x] } [x] 1:=by
 refine ⟨fun k v hv=>?_,⟨[x],rfl,rfl⟩,⟨[(s.texts.length:Int)],rfl,.cons (.inr ⟨s.texts.length,rfl,by simp⟩) .nil⟩⟩
 obtain ⟨n,h1,h2⟩:=h k v hv
 exact ⟨n,h1,Qnp h2⟩
mutual
theorem Qdd:∀ (a:Tr) {s:S},s.Tied→Qb6 s (qgy a s) (nmT a) (setT a)
 | .mk k x ks,s,h=>by
  simp only [qgy,nmT,setT]
  by_cases h11:k=11
  ·subst h11
   rw [if_pos rfl]
   have:=(qqx ks h).leave s.nown
   simpa [qje] using this
  ·rw [if_neg h11]
   by_cases h8:k=8
   ·subst h8
    rw [if_pos rfl]
    have h1:=Qrw h x
    have:=h1.trans (qnc ks h1.tied)
    simpa [qje] using this
   ·rw [if_neg h8,if_neg h8]
    by_cases h3:k=3∨k=14
    ·rw [if_pos h3]
     have h1:=came_last h x
     have:=h1.trans (qnc ks h1.tied)
     rw [if_pos (by rcases h3 with rfl | rfl<;>rfl)]
     exact this
    ·rw [if_neg h3,if_neg (by simp only [qje,Bool.or_eq_true,beq_iff_eq];intro e;rcases e with e | e;exact h3 e;exact h8 e)]
     simpa using qnc ks h
theorem qnc:∀ (ks:List Tr) {s:S},s.Tied→Qb6 s (Qcc ks s) (nmL ks) (setL ks)
 | [],_,h=>Qb6.refl h
 | a :: ks,s,h=>by
  have h1:=Qdd a h
  exact h1.trans (qnc ks h1.tied)
theorem qqx:∀ (ks:List Tr) {s:S},s.Tied→Qb6 s (Qfr ks s) (nmL ks) (setL ks)
 | [],_,h=>Qb6.refl h
 | a :: ks,s,h=>by
  have h1:=Qdd a h
  simp only [Qfr,nmL,setL]
  split
  ·rename_i e
   have hx:(qgy a s).texts[s.texts.length]?=some a.text:=by
    match a,e with
    | .mk k x ks',e =>
     have e:k=8:=e
     subst e
     simp only [qgy]
     rw [if_neg (by decide),if_pos trivial]
     obtain ⟨more,h5,_⟩:=(qnc ks' (Qrw h x).tied).texts
     rw [h5]
     exact Qnp (by simp [Tr.text])
   have h2:=h1.bind hx
   exact h2.trans (qqx ks h2.tied)
  ·exact h1.trans (qqx ks h1.tied)
end
theorem stmtT_came (a:Tr) {s:S} (h:s.Tied):Qb6 s (qxe a s) (nmT a) (setT a):=by
 have:=qqx [a] h
 simp only [nmL,setL,List.append_nil,Nat.add_zero] at this
 exact this
theorem Qfl.i64 {texts:List Tx} {vs:List Int} {xs:List Tx} (h:Qfl texts vs xs) (ht:texts.length≤big):I64 vs:=by
 have hb:=qfu
 induction h with
 | nil=>intro m hm;cases hm
 | cons h _ ih =>
  intro m hm
  rcases List.mem_cons.1 hm with rfl | hm
  ·rcases h with rfl | ⟨n,rfl,h2⟩
   ·omega
   ·have:=(List.getElem?_eq_some_iff.1 h2).1
    omega
  ·exact ih m hm
end Go.Ab.Core


namespace Go.Ab.Core
open Go Go.Ab
noncomputable def qd2 (t:List Nd) (ms:List Int):PV :=
 match qrq t with
 | some a=>tl (flat (ofT a ms).1 0)
 | none=>.nilS
noncomputable def qfb:List St→S→List PV
 | [],_=>[]
 | x :: l,s=>qd2 x.t (qcn s x.t).means :: qfb l (qcn s x.t)
noncomputable def qfh (t:List Nd):List Tx :=
 match qrq t with
 | some a=>nmT a
 | none=>[]
noncomputable def Qpv (t:List Nd):Nat :=
 match qrq t with
 | some a=>setT a
 | none=>0
theorem Tied.clear {s:S} (h:s.Tied):({ s with means:=[] }:S).Tied:=h
theorem qlo {s:S} (h:s.Tied) (t:List Nd):Qb6 { s with means:=[] } (qcn s t) (qfh t) (Qpv t):=by
 unfold qcn qfh Qpv
 cases qrq t with
 | none=>exact Qb6.refl h
 | some a=>exact stmtT_came a h
theorem S0_tied:S0.Tied:=fun k v hv=>by cases hv
theorem Qfc (t:List Nd) (ms:List Int):okV (qd2 t ms)=true∧qdx 1 [qd2 t ms]=true:=by
 unfold qd2
 cases qrq t with
 | none=>exact ⟨rfl,rfl⟩
 | some a=>exact ⟨Qqa _,rfl⟩
theorem Qbs:∀ (l:List St) (s:S),(qfb l s).length=l.length
 | [],_=>rfl
 | x :: l,s=>by simp [qfb,Qbs l]
theorem qqc:∀ (l:List St) (s:S),(qfx l s).length=l.length
 | [],_=>rfl
 | x :: l,s=>by simp [qfx,qqc l]
noncomputable def qx1:List PV×Unit→Option (Sum (List PV×Unit) (PV×Unit)):=(fun z3=>qba (qbc (.bin .lss .num false (.c (nth z3.1 4)) (.c (nth z3.1 3)))) (fun z4=>qck z4 (qba (qbc (.idxAddr 1 (.c (nth z3.1 2)) (.c (nth z3.1 4)))) (fun z5=>qba (qbc (.load 1 false (.c z5))) (fun z6=>qba (qbc (.idxAddr 4 (.c (nth z3.1 0)) (.c (nth z3.1 4)))) (fun z7=>qba (qbc (.fieldAddr 2 (.c z7))) (fun z8=>qba (qbc (.load 1 false (.c z8))) (fun z9=>qba (qb3 B0 .cl (.fn 33 []) [z9]) (fun z10=>qck z10 (qba (qbc (.idxAddr 4 (.c (nth z3.1 0)) (.c (nth z3.1 4)))) (fun z11=>qba (qbc (.fieldAddr 2 (.c z11))) (fun z12=>qba (qbc (.load 1 false (.c z12))) (fun z13=>qba (qbc (.build [.nilS,.nilS] [(0,(1,.c z13)),(1,(1,.c z6))])) (fun z14=>qby (Qmc z14) (qba (qbc (.idxAddr 4 (.c (nth z3.1 0)) (.c (nth z3.1 4)))) (fun z15=>qba (qbc (.fieldAddr 2 (.c z15))) (fun z16=>qba (qbc (.load 1 false (.c z16))) (fun z17=>qba (qbc (.len .slice (.c z17))) (fun z18=>qba (qbc (.bin .sub .num true (.c z18) (.c (.int .i64 1)))) (fun z19=>qba (ioO B0 sh34 34 [z19,z14]) (fun z20=>qby (qdx 1 [nth z20 0]) (qby (leN (qc1 0 (qbv [nth z20 0])) (qbv [nth z20 0])) (qby (qrn (leN (qbj (nth z3.1 1)) (qbv (qbd (nth z3.1 5)))) (leN (qc1 (qbj (nth z3.1 1)) (qbv (qbw (qbv [nth z20 0]) (qb5 0 [nth z20 0])))) 2147483648)) (qba (qbc (.bin .add .num true (.c (nth z3.1 4)) (.c (.int .i64 1)))) (fun z21=>some (.inl ([nth z3.1 0,nI (qc1 (qbj (nth z3.1 1)) (qbv (qbw (qbv [nth z20 0]) (qb5 0 [nth z20 0])))),nth z3.1 2,nth z3.1 3,z21,.sl 1 (ql3 (qbw (qbj (nth z3.1 1)) (qbd (nth z3.1 5))) (qbw (qbv [nth z20 0]) (qb5 0 [nth z20 0]))) false],z3.2)))))))))))))))))) (qby (qdx 1 [.nilS]) (qby (leN (qc1 0 (qbv [.nilS])) (qbv [.nilS])) (qby (qrn (leN (qbj (nth z3.1 1)) (qbv (qbd (nth z3.1 5)))) (leN (qc1 (qbj (nth z3.1 1)) (qbv (qbw (qbv [.nilS]) (qb5 0 [.nilS])))) 2147483648)) (qba (qbc (.bin .add .num true (.c (nth z3.1 4)) (.c (.int .i64 1)))) (fun z22=>some (.inl ([nth z3.1 0,nI (qc1 (qbj (nth z3.1 1)) (qbv (qbw (qbv [.nilS]) (qb5 0 [.nilS])))),nth z3.1 2,nth z3.1 3,z22,.sl 1 (ql3 (qbw (qbj (nth z3.1 1)) (qbd (nth z3.1 5))) (qbw (qbv [.nilS]) (qb5 0 [.nilS]))) false],z3.2)))))))))))))) (qba (qby (okU (slO 1 1 (qbd (nth z3.1 5)) 0 (qbj (nth z3.1 1)))) (some (slO 1 1 (qbd (nth z3.1 5)) 0 (qbj (nth z3.1 1)),z3.2))) (fun z23=>some (.inr z23)))))
theorem core_step {l:List St} {j:Nat} {s:S} {outs:List PV} {M:List (List Int)} {m:Nat} (hj:j < l.length) (hf:qrp l) (hM:M[j]?=some (qcn s l[j].t).means) (ho:outs.length=j) (hs:s.Good m) (hm:m+1200 < big) (ht:s.Tied) :
  qx1 ([sl4 l,I (outs.length:Nat),.sl 1 (M.map il) false,I (l.length:Nat),I (j:Nat),.sl 1 outs false],()) =
   some (.inl ([sl4 l,I ((outs++[qd2 l[j].t (qcn s l[j].t).means]).length:Nat),.sl 1 (M.map il) false,I (l.length:Nat),I ((j+1:Nat):Int),.sl 1 (outs++[qd2 l[j].t (qcn s l[j].t).means]) false],())):=by
 have hbl:=qfu
 have hfj:=hf.fine _ (List.getElem_mem hj)
 have hll:=hf.len
 have hgood:=qpd hs l[j].t
 have hcame:=qlo ht l[j].t
 unfold qx1
 simp only [qdd,qdc,qdg,qdq,qfv,qgl,qcj,qh5,qb1,qd0,qdp,qbb]
 have hidx:qbc (.idxAddr 1 (.c (.sl 1 (M.map il) false)) (.c (I (j:Int))))=some (.ptr [il (qcn s l[j].t).means] 0) :=
  qgj (by omega) (show (M.map il)[j]?=some (il (qcn s l[j].t).means) by rw [List.getElem?_map,hM];rfl)
 rw [show decide ((j:Int) < (l.length:Nat))=true by simp;omega,qb6,hidx,qbb,show ∀ v:List Int,qbc (.load 1 false (.c (.ptr [il v] 0)))=some (il v) from fun _=>rfl,qbb,qzw hj]
 simp only [qbb,fa4_2,qzc]
 rw [qs8 hfj,qbb,qco]
 have hout:outs.take outs.length=outs:=List.take_of_length_le (Nat.le_refl _)
 cases hr:qc7 l[j].t with
 | false =>
  have hc:qd2 l[j].t (qcn s l[j].t).means=.nilS:=by unfold qd2;rw [qhn hr]
  rw [if_neg (by simp),hc,show qdx 1 [PV.nilS]=true from rfl]
  simp only [qbg,qf4,List.length_singleton,qd3,Nat.zero_add,qke,Nat.le_refl,decide_true,qfk,qfq,List.drop_zero,List.take_succ_cons,List.take_zero,qg5,Bool.true_and,qg3,hout]
  rw [show decide (outs.length+1≤2147483648)=true by simp;omega,qbg]
  simp only [qg9,qbb]
  rw [qhd (by omega)]
  simp
 | true =>
  obtain ⟨a,h1,h2,h3,h4,h5,h6⟩:=qgu hr
  have hc:qd2 l[j].t (qcn s l[j].t).means=tl (flat (ofT a (qcn s l[j].t).means).1 0):=by unfold qd2;rw [h1]
  obtain ⟨new,n1,n2⟩:=hcame.means
  have n1:(qcn s l[j].t).means=new:=n1
  have hnm:qfh l[j].t=nmT a:=by unfold qfh;rw [h1]
  rw [hnm] at n2
  have hcnt:Qrq a≤(qcn s l[j].t).means.length:=by rw [n1,n2.length,Qm2];exact Nat.le_refl _
  have hi64:I64 (qcn s l[j].t).means:=by rw [n1];exact n2.i64 (by have:=hgood.fine.texts;omega)
  rw [if_pos rfl,show qbc (.build [.nilS,.nilS] [(0,(1,.c (tl l[j].t))),(1,(1,.c (il (qcn s l[j].t).means)))])=some (mk2 l[j].t (qcn s l[j].t).means) from rfl,qbb]
  rw [show Qmc (mk2 l[j].t (qcn s l[j].t).means)=true from rfl,qbg,qk2,qbb,Qpg,qbb,Qmf (by omega) (by omega)]
  rw [show ioO B0 sh34 34 _=_ from of_run hfj a h2 h3 (by omega) hcnt hi64,qbb]
  simp only [qdd]
  rw [← hc,(Qfc _ _).2]
  simp only [qbg,qf4,List.length_singleton,qd3,Nat.zero_add,qke,Nat.le_refl,decide_true,qfk,qfq,List.drop_zero,List.take_succ_cons,List.take_zero,qg5,Bool.true_and,qg3,hout]
  rw [show decide (outs.length+1≤2147483648)=true by simp;omega,qbg]
  simp only [qg9,qbb]
  rw [qhd (by omega)]
  simp
theorem Qlr {l:List St} (hf:qrp l) {M:List (List Int)}:∀ (rest:List St) {j:Nat} {s:S} {outs:List PV} {m:Nat},l.drop j=rest→j≤l.length→M.drop j=qfx rest s→outs.length=j→qca outs=true→s.Good m→s.Tied→m+1200 * rest.length < big →
  qci qx1 ([sl4 l,I (outs.length:Nat),.sl 1 (M.map il) false,I (l.length:Nat),I (j:Nat),.sl 1 outs false],())=some (.sl 1 (outs++qfb rest s) false,())
 | [],j,s,outs,m,hd,hj,hM,ho,hok,hs,ht,hm=>by
  have e:j=l.length:=by have:=List.drop_eq_nil_iff.1 hd;omega
  refine qde ?_
  subst e
  unfold qx1
  simp only [qdd,qdc,qdg,qdq,qfv,qgl,qcj,qh5,qb1,qd0,qdp,qbb]
  rw [show decide ((l.length:Int) < (l.length:Nat))=false by simp,qbm,qmr]
  rw [show okU (.sl 1 outs false)=true by simp [okU,okV,hok],qbg]
  simp [qfb]
 | x :: rest,j,s,outs,m,hd,hj,hM,ho,hok,hs,ht,hm=>by
  obtain ⟨hj',h1,h2⟩:=qjg hd
  subst h1
  simp only [List.length_cons] at hm
  have h6:m+1200 < big:=Nat.lt_of_le_of_lt (by rw [Nat.mul_add];exact Nat.add_le_add_left (Nat.le_add_left _ _) m) hm
  have h9:m+1200+1200 * rest.length < big:=by rw [Nat.mul_add,Nat.mul_one,Nat.add_comm (1200 * _),← Nat.add_assoc] at hm;exact hm
  obtain ⟨hM1,hM2,hM3⟩:=qjg (show M.drop j=(qcn s l[j].t).means :: qfx rest (qcn s l[j].t) from hM)
  have h7:=core_step (outs:=outs) (M:=M) hj' hf (by rw [List.getElem?_eq_getElem hM1,hM2]) ho hs h6 ht
  rw [qdj h7]
  have h8:=Qlr hf rest (j:=j+1) (s:=qcn s l[j].t) (outs:=outs++[qd2 l[j].t (qcn s l[j].t).means]) h2 (by omega) hM3 (by simp [ho]) (qdw hok (by simp [qca,Qfc])) (qpd hs _) (qlo ht _).tied h9
  rw [h8]
  simp [qfb]
theorem Qrn {l:List St} (hf:qrp l):qm2 (qk6 B0 fun _=>.cl) fn15 .cl qbe 0 ([sl4 l].map KV.cv) ()=some (.sl 1 (qfb l S0) false,()):=by
 rw [List.map_cons,List.map_nil,run15,means_run hf,qbb,qgk,qbb]
 rw [show ((qfx l S0).map il).length=l.length by simp [qqc]]
 simp only [qd0]
 rw [show qbs [sl4 l,nI 0,.sl 1 ((qfx l S0).map il) false,I (l.length:Nat),I 0]=true from rfl,qbg]
 exact Qlr hf l (j:=0) (s:=S0) (outs:=[]) (m:=0) rfl (Nat.zero_le _) rfl rfl rfl Qpd S0_tied (by have:=hf.len;unfold big;omega)
theorem core_run {l:List St} (hf:qrp l):qb3 B0 .cl (.fn 15 []) [sl4 l]=some (.sl 1 (qfb l S0) false) :=
 call (d:=fun _=>.cl) rfl (by decide) (by simp [qca]) rfl (Qrn hf)
theorem core_lend {l:List St} (hf:qrp l):qkw B0 .cl false 15 [sl4 l]=some (.sl 1 (qfb l S0) false) :=
 qhq (qhk fun _=>.cl) (fn:=fn15) rfl (by simp [qca]) (Nat.le_of_ble_eq_true rfl) (Qrn hf) rfl
end Go.Ab.Core


namespace Go.Ab.Core
open Go Go.Ab
theorem ints_refl (l:List Int) (hl:l.length≤big):qb3 B0 .cl (.fn 24 []) [il l,il l]=some (.bool true):=by
 have hbl:=qfu
 refine call (d:=fun _=>.cl) rfl (by decide) (by simp [qca]) rfl ?_
 rw [List.map_cons,List.map_cons,List.map_nil,run24,qh1,qbb,qbb,Qho,qbb]
 rw [show (((l.length:Nat):Int) != ((l.length:Nat):Int))=false by simp,qbm]
 rw [show qbs [il l,il l,.int .i64 0]=true from rfl,qbg]
 refine qmc (fun i=>([il l,il l,I (i:Nat)],())) l.length rfl (fun i hi=>?_) ?_
 ·simp only [qdd,qdc,qdg,qh1,qbb,qdp]
  rw [show decide ((i:Int) < (l.length:Nat))=true by simp;omega,qb6,qrw hi]
  simp only [qbb,qnd,Qho,qd0,qg9]
  rw [show (l[i] != l[i])=false by simp,qbm,qhd (by omega)]
 ·simp only [qdd,qdc,qdg,qh1,qbb,qdp]
  rw [show decide ((l.length:Int) < (l.length:Nat))=false by simp,qbm]
theorem one_refl (n:Nd) (hn:n.Fine):qb3 B0 .cl (.fn 35 []) [nd n,nd n]=some (.bool true):=by
 refine call (d:=fun _=>.cl) rfl (by decide) (by simp [qca,qyt]) rfl ?_
 rw [List.map_cons,List.map_cons,List.map_nil,run35,show Qmc (nd n)=true from rfl,qbg,qbg]
 simp only [nd,Qmn,qn2,sel3_0,sel3_1,sel3_2,qbb,Qhp,pure_eqs]
 rw [show (n.kind==n.kind)=true by simp,qb6]
 rw [show (n.text==n.text)=true by simp,qb6,ints_refl n.kids hn.kids,qbb]
theorem same_refl {t:List Nd} (ht:Fine t):qb3 B0 .cl (.fn 16 []) [tl t,tl t]=some (.bool true):=by
 have hbl:=qfu
 have hl:=ht.len
 refine call (d:=fun _=>.cl) rfl (by decide) (by simp [qca]) rfl ?_
 rw [List.map_cons,List.map_cons,List.map_nil,run16,qk2,qbb,qbb,Qho,qbb]
 rw [show (((t.length:Nat):Int) != ((t.length:Nat):Int))=false by simp,qbm]
 rw [show qbs [tl t,tl t,.int .i64 0]=true from rfl,qbg]
 refine qmc (fun i=>([tl t,tl t,I (i:Nat)],())) t.length rfl (fun i hi=>?_) ?_
 ·simp only [qdd,qdc,qdg,qk2,qbb,qdp]
  rw [show decide ((i:Int) < (t.length:Nat))=true by simp;omega,qb6,qmh hi]
  simp only [qbb,Qj6]
  rw [show qb3 B0 .cl (.fn 35 []) [.agg [I t[i].kind,.str t[i].text,il t[i].kids],.agg [I t[i].kind,.str t[i].text,il t[i].kids]]=some (.bool true) from one_refl t[i] (ht.nd _ (List.getElem_mem hi)),qbb,qpg,qbb]
  rw [show (!true)=false from rfl,qbm,qd0,qg9,qbb,qhd (by omega)]
 ·simp only [qdd,qdc,qdg,qk2,qbb,qdp]
  rw [show decide ((t.length:Int) < (t.length:Nat))=false by simp,qbm]
theorem same_nil:qb3 B0 .cl (.fn 16 []) [.nilS,.nilS]=some (.bool true):=by
 refine call (d:=fun _=>.cl) rfl (by decide) rfl rfl ?_
 rw [List.map_cons,List.map_cons,List.map_nil,run16,show qbc (.len .slice (.c PV.nilS))=some (I 0) from rfl,qbb,qbb,Qho,qbb,show ((0:Int) != 0)=false from rfl,qbm]
 rw [show qbs [.nilS,.nilS,.int .i64 0]=true from rfl,qbg]
 exact qde rfl
theorem same_core {t:List Nd} (ms:List Int):qb3 B0 .cl (.fn 16 []) [qd2 t ms,qd2 t ms]=some (.bool true):=by
 unfold qd2
 cases hr:qc7 t with
 | false=>rw [qhn hr];exact same_nil
 | true =>
  obtain ⟨a,h1,_,h2,h3,_,h4⟩:=qgu hr
  rw [h1]
  have:=(ofT_ok a ms h2).2
  exact same_refl (qz6 (by omega))
theorem Qlq:∀ (l:List St) (n:Nat) (s:S),qfb (l.take n) s=(qfb l s).take n
 | _,0,_=>by simp [qfb]
 | [],n+1,_=>by simp [qfb]
 | x :: l,n+1,s=>by simp [qfb,Qlq l n]
theorem Qro:∀ (l:List St) (s:S) (i:Nat),i < l.length→∃ (t:List Nd) (ms:List Int),(qfb l s)[i]?=some (qd2 t ms)
 | [],_,_,h=>by simp at h
 | x :: l,s,0,_=>⟨x.t,(qcn s x.t).means,rfl⟩
 | x :: l,s,i+1,h=>by
  obtain ⟨t,ms,e⟩:=Qro l (qcn s x.t) i (by simpa using h)
  exact ⟨t,ms,by simpa [qfb] using e⟩
theorem Qld (l:List St):qrp (fewL l) where
 fine x hx:=by
  obtain ⟨y,_,rfl⟩:=List.mem_map.1 hx
  exact fewT_fine y.t
 len:=by simp [fewL];omega
theorem qrp.take {l:List St} (h:qrp l) (n:Nat):qrp (l.take n):=⟨fun x hx=>h.fine x (List.mem_of_mem_take hx),by have:=h.len;simp;omega⟩
theorem max_run (n:Int):qbc (.minmax true [.c (I n),.c (.int .i64 0)])=some (I ((max n 0).toNat:Nat)):=by
 simp only [qbc,exec,List.map_cons,List.map_nil,RX.ev,qz4,I]
 by_cases h:n < 0
 ·have e:max n 0=0:=by omega
  simp [h,e,chk]
 ·have e:max n 0=n:=by omega
  simp [h,e,chk]
theorem ahead_raw (hsh:qb3 B0 .cl (.fn 8 []) []=some (.bool true)) {v:PV} {xs:List PV} {l:List St} (hv:IsR 4 v xs) (hx:RawL RawS xs l) (hok:okV v=true) (n:Int) :
  qm2 (qk6 B0 fun _=>.cl) fn5 .cl qbe 0 ([v,I n].map KV.cv) ()=some (.bool true,()):=by
 have hbl:=qfu
 have hf:=Qld l
 have hll:=hf.len
 rw [List.map_cons,List.map_cons,List.map_nil,run5,hsh,qbb,few_run hv hx hok,qbb]
 generalize hL:fewL l=L at *
 rw [show ∀ A B:Option (PV×Unit),nilB (sl4 L) A B=B from fun _ _=>rfl,max_run,qbb]
 simp only [qvx,qf4,qx9,qh5]
 have hsl:slO 4 4 (svs L) 0 L.length=sl4 L:=by
  have:=qmr 4 (svs L)
  rwa [qx9] at this
 rw [hsl,show I (L.length:Int)=.int .i64 (L.length:Int) from rfl,Qm4 L.length _ rfl,qbb]
 generalize hN:min (max n 0).toNat L.length=N
 have hNL:N≤L.length:=by omega
 rw [core_lend hf,qbb]
 have hcut:qbc (.slice 4 (.c (sl4 L)) none (some (.c (I (N:Int)))) none)=some (sl4 (L.take N)):=by
  simp [qbc,exec,RX.ev,evO,qjq,qjv,chk,I,qhf,sl4,svs,hNL,List.map_take]
 rw [hcut,qbb,core_run (hf.take N),qbb]
 simp only [qgk,qze,qbb,Qbs,qd0,Qho]
 rw [show (((L.length:Nat):Int) != ((L.length:Nat):Int))=false by simp,qbm]
 rw [show (((L.take N).length:Nat):Int)=(N:Int) by simp;omega]
 simp only [qbb]
 rw [show ((N:Int) != (N:Int))=false by simp,qbm]
 rw [show qbs [I (N:Int),.bool true,.sl 1 (qfb L S0) false,.sl 1 (qfb (L.take N) S0) false,I 0]=true from rfl,qbg]
 refine qmc (fun i=>([I (N:Int),.bool true,.sl 1 (qfb L S0) false,.sl 1 (qfb (L.take N) S0) false,I (i:Nat)],())) N rfl (fun i hi=>?_) ?_
 ·simp only [qdd,qdc,qdg,qdq,qfv,qbb,qdp]
  obtain ⟨t,ms,e⟩:=Qro L S0 i (by omega)
  have e2:(qfb (L.take N) S0)[i]?=some (qd2 t ms):=by
   rw [Qlq,List.getElem?_take_of_lt hi,e]
  have hc:(qd2 t ms).cells=[qd2 t ms]:=by
   unfold qd2
   cases qrq t<;>rfl
  have hld:qbc (.load 1 false (.c (.ptr [qd2 t ms] 0)))=some (qd2 t ms):=by
   unfold qd2
   cases qrq t<;>rfl
  have q1:qbc (.idxAddr 1 (.c (.sl 1 (qfb L S0) false)) (.c (I (i:Int))))=some (.ptr (qd2 t ms).cells 0):=qgj (by omega) e
  have q2:qbc (.idxAddr 1 (.c (.sl 1 (qfb (L.take N) S0) false)) (.c (I (i:Int))))=some (.ptr (qd2 t ms).cells 0):=qgj (by omega) e2
  rw [show decide ((i:Int) < (N:Int))=true by simp;omega,qb6,q1,qbb,hc,hld,qbb,q2,qbb,hc,hld,qbb,same_core ms,qbb,qpg,qbb]
  rw [show (!true)=false from rfl,qbm,qg9,qbb,qhd (by omega)]
 ·simp only [qdd,qdc,qdg,qdq,qfv,qbb,qdp]
  rw [show decide ((N:Int) < (N:Int))=false by simp,qbm]
end Go.Ab.Core


namespace Go.Proofs.AbIsC
open Go.RowKit Go.Extern.Stop Go.Stop Go.Extern Go.Proofs
theorem Qqw (v:Value) (w:World):(Extern.ReflectliteType.typeOf #[.iface 407 v]).run Tryz.prog w=.ok (.iface 229 (.agg #[.pointer (some ⟨12,407,none⟩)])) w:=by kernel_rfl
theorem qw1 (w:World):((Extern.ReflectliteType.method fun t=>do Extern.Rtype.noPackHeld "Comparable" t;(fun a=>Value.bool a.comparable) <$> typeInfo t) #[.agg #[.pointer (some ⟨12,407,none⟩)]]).run Tryz.prog w=.ok (.bool true) w:=by kernel_rfl
theorem qmf (v:Value) (w:World):(Go.method 537 229 v "Comparable").run Tryz.prog w=.ok (325,v) w:=by kernel_rfl
theorem isComp:(Tryz.prog.info? 407).map (·.comparable)=some true:=by kernel_rfl
theorem isSize:(Tryz.prog.info? 425).map (·.size)=some 1:=by kernel_rfl
theorem noIs407 (v:Value) (xT:TypeId) (w:World):(Instr.typeAssert (.iface 407 v) xT 231 true).run Tryz.prog w=.ok (.tuple #[.nilIface,.bool false]) w:=run_typeAssert_lacksB Tryz.underlying231 (by kernel_rfl) (by kernel_rfl) v xT w
theorem noUn407 (v:Value) (xT:TypeId) (w:World):(Instr.typeAssert (.iface 407 v) xT 234 true).run Tryz.prog w=.ok (.tuple #[.nilIface,.bool false]) w:=run_typeAssert_lacksB Tryz.underlying234 (by kernel_rfl) (by kernel_rfl) v xT w
theorem noUs407 (v:Value) (xT:TypeId) (w:World):(Instr.typeAssert (.iface 407 v) xT 236 true).run Tryz.prog w=.ok (.tuple #[.nilIface,.bool false]) w:=run_typeAssert_lacksB Tryz.underlying236 (by kernel_rfl) (by kernel_rfl) v xT w
set_option maxHeartbeats 1000000 in
set_option maxRecDepth 100000 in
theorem is_same (a:Addr) (w:World) :
  Calls Tryz.prog 89 #[.iface 407 (.pointer (some a)),.iface 407 (.pointer (some a))] w fun e w'=>e=.returned (.bool true)∧w'=w:=by
 obtain ⟨i,hi,hcmp⟩:=Option.map_eq_some_iff.1 isComp
 obtain ⟨j,hj,hjs⟩:=Option.map_eq_some_iff.1 isSize
 have h8:=@run_callFunc_extern Tryz.prog 120 _ Extern.ReflectliteType.typeOf Tryz.func120 (by kernel_rfl) (by kernel_rfl) (by kernel_rfl) (by kernel_rfl)
 have h32:=@run_callFunc_extern Tryz.prog 325 _ (Extern.ReflectliteType.method fun t=>do Extern.Rtype.noPackHeld "Comparable" t;pure (.bool (← typeInfo t).comparable)) Tryz.func325 (by kernel_rfl) (by kernel_rfl) (by kernel_rfl) (by kernel_rfl)
 have tT:=Qqw
 have cT:=qw1
 have mR:=qmf
 have heq:=run_eql_iface_ptr_same (P:=Tryz.prog) w a Tryz.underlying67 Tryz.underlying407 hi hcmp hj
 go_enter Tryz.func89,Tryz.ntmps89
 go_wp2
 refine wp_loop_rounds 1 ?_
 rw [rounds_succ]
 go_wp2
 go_ret
 exact ⟨rfl,rfl⟩
set_option maxHeartbeats 1000000 in
set_option maxRecDepth 100000 in
theorem is_nil (b:Addr) (w:World) :
  Calls Tryz.prog 89 #[.nilIface,.iface 407 (.pointer (some b))] w fun e w'=>e=.returned (.bool false)∧w'=w:=by
 have hn:=run_eql_iface_nil_left (P:=Tryz.prog) w 407 (.pointer (some b)) Tryz.underlying67
 go_enter Tryz.func89,Tryz.ntmps89
 go_wp2
 go_ret
 exact ⟨rfl,rfl⟩
set_option maxHeartbeats 1000000 in
set_option maxRecDepth 100000 in
theorem is_other (a b:Addr) (ca cb:Array Value) (ta tb:TypeId) (w:World) (hne:a≠b) (ha:w.heap[a.block]?=some (.cells ca ta (0,0))) (hb:w.heap[b.block]?=some (.cells cb tb (0,0))) :
  Calls Tryz.prog 89 #[.iface 407 (.pointer (some a)),.iface 407 (.pointer (some b))] w fun e w'=>e=.returned (.bool false)∧w'=w:=by
 obtain ⟨i,hi,hcmp⟩:=Option.map_eq_some_iff.1 isComp
 obtain ⟨j,hj,hjs⟩:=Option.map_eq_some_iff.1 isSize
 have h8:=@run_callFunc_extern Tryz.prog 120 _ Extern.ReflectliteType.typeOf Tryz.func120 (by kernel_rfl) (by kernel_rfl) (by kernel_rfl) (by kernel_rfl)
 have h32:=@run_callFunc_extern Tryz.prog 325 _ (Extern.ReflectliteType.method fun t=>do Extern.Rtype.noPackHeld "Comparable" t;pure (.bool (← typeInfo t).comparable)) Tryz.func325 (by kernel_rfl) (by kernel_rfl) (by kernel_rfl) (by kernel_rfl)
 have tT:=Qqw
 have cT:=qw1
 have mR:=qmf
 have nE:=noIs407
 have uE:=noUn407
 have vE:=noUs407
 have heq:=run_eql_iface_ptr_other (P:=Tryz.prog) w Tryz.underlying67 Tryz.underlying407 hi hcmp hj (by rw [hjs];decide) hne ha hb
 go_enter Tryz.func89,Tryz.ntmps89
 go_wp2
 refine wp_loop_rounds 1 ?_
 rw [rounds_succ]
 go_wp2
 go_ret
 exact ⟨rfl,rfl⟩
end Go.Proofs.AbIsC


namespace Go.Proofs.AbCS
open Go.RowKit Go.Proofs
theorem lies_b:liesAt Tryz.prog Tryz.prog.depth 64 (2 / Tryz.prog.cellsOf 64) 0 64 1=true:=by kernel_rfl
theorem info_b':(Tryz.prog.info? 64).map (·.size)=some 2:=by kernel_rfl
theorem info_b:∃ j,Tryz.prog.info? 64=some j∧j.size=2:=Option.map_eq_some_iff.1 info_b'
theorem cells5:Tryz.prog.cellsOf 5=1:=by kernel_rfl
set_option maxHeartbeats 1000000 in
set_option maxRecDepth 100000 in
theorem check_used (b:Nat) (w:World) (h0:w.cell? ⟨b,0,none⟩=some (.pointer (some ⟨b,0,none⟩))) :
  Calls Tryz.prog 53 #[.pointer (some ⟨b,0,none⟩)] w fun e w'=>e=.returned (.tuple #[])∧w'=w:=by
 obtain ⟨j,hj,_⟩:=info_b
 go_enter Tryz.func53,Tryz.ntmps53
 go_wp2
 rw [Lib.run_neq_ptr_same w _ Tryz.underlying61 hj]
 go_wp2
 go_end0
 exact ⟨rfl,rfl⟩
set_option maxHeartbeats 1000000 in
set_option maxRecDepth 100000 in
theorem check_fresh (b:Nat) (w:World) (h0:w.cell? ⟨b,0,none⟩=some (.pointer none)) (hsh:w.shape? b=some (64,2)) (hfz:w.frozen? ⟨b,0,none⟩=false) :
  Calls Tryz.prog 53 #[.pointer (some ⟨b,0,none⟩)] w fun e w'=>e=.returned (.tuple #[])∧w'=w.setCell ⟨b,0,none⟩ (.pointer (some ⟨b,0,none⟩)):=by
 obtain ⟨j,hj,hjs⟩:=info_b
 go_enter Tryz.func53,Tryz.ntmps53
 go_wp2
 rw [Lib.run_to_unsafe w ⟨b,0,none⟩ Tryz.underlying61 Tryz.underlying151 hj (by rw [hjs];decide) hsh (Nat.zero_lt_succ 1)]
 simp only [Result.andThen]
 rw [Oper.upon_value]
 go_wp2
 rw [run_callFunc_extern Tryz.func81 (by kernel_rfl) (by kernel_rfl) (by kernel_rfl) (e:=Extern.AbiNoEscape.same) (by kernel_rfl)]
 rw [Lib.run_noEscape]
 simp only [Result.andThen]
 rw [Oper.upon_value]
 go_wp2
 rw [Lib.run_from_unsafe w ⟨b,0,none⟩ Tryz.underlying151 Tryz.underlying61 hj hsh lies_b]
 simp only [Result.andThen]
 rw [Oper.upon_value]
 go_wp2
 go_end0
 exact ⟨rfl,rfl⟩
set_option maxHeartbeats 1000000 in
set_option maxRecDepth 100000 in
theorem string_some (b g cap:Nat) (p:Value) (cur:Array Value) (l:List UInt8) (w:World) (hbk:w.heap[b]?=some (.cells #[p,.slice (some ⟨g,0,none⟩) l.length cap] 64 (0,0)))
  (hg:w.heap[g]?=some (.cells cur 5 (0,0))) (h0:l≠[]) (hcap:l.length≤cap) (hcs:l.length≤cur.size) (h63:l.length≤9223372036854775807) (hl:∀ (j:Nat) (x:UInt8),l[j]?=some x→cur[j]?=some (Value.int .u8 (x.toNat:Int))) :
  Calls Tryz.prog 31 #[.pointer (some ⟨b,0,none⟩)] w fun e w'=>e=.returned (.string ⟨l.toArray⟩)∧w'=w.drew.freeze ⟨g,0,none⟩ l.length:=by
 have hl0:l.length≠0:=by simpa using h0
 have c1:w.drew.cell? ⟨b,1,none⟩=some (.slice (some ⟨g,0,none⟩) l.length cap):=by
  have:w.drew.heap[b]?=some (.cells #[p,.slice (some ⟨g,0,none⟩) l.length cap] 64 (0,0)):=hbk
  rw [Lib.cell_of_heap this];rfl
 have hSD:(Builtin.unsafeSliceData_ #[62] 117 #[.slice (some ⟨g,0,none⟩) l.length cap]).run Tryz.prog w.drew=.ok (.pointer (some ⟨g,0,none⟩)) w.drew :=
  Lib.run_unsafeSliceData_row _ _ _ _ _ _ (by omega)
 have hUS:(Builtin.unsafeString_ #[117,3] 9 #[.pointer (some ⟨g,0,none⟩),.int .i64 l.length]).run Tryz.prog w.drew=.ok (.string ⟨l.toArray⟩) (w.drew.freeze ⟨g,0,none⟩ l.length):=by
  refine Lib.run_unsafeString_row w.drew 117 3 9 5 Tryz.underlying117 cells5 g cur.size (by have hg':w.drew.heap[g]?=some (.cells cur 5 (0,0)):=hg;simp [World.shape?,hg']) l h0 hcs h63 ?_
  intro j x hx
  have hg':w.drew.heap[g]?=some (.cells cur 5 (0,0)):=hg
  have e:((⟨g,0,none⟩:Addr).add j)=⟨g,j,none⟩:=by cases j<;>simp [Addr.add]
  rw [e,Lib.cell_of_heap hg']
  exact hl j x hx
 have mixed:Tryz.prog.follows .mixedOrders=true:=by kernel_rfl
 go_enter Tryz.func31,Tryz.ntmps31
 go_wp2
 go_region_o
 all_goals (go_wp2;go_ret;exact ⟨rfl,rfl⟩)
set_option maxHeartbeats 1000000 in
set_option maxRecDepth 100000 in
theorem string_nil (b:Nat) (p:Value) (w:World) (hbk:w.heap[b]?=some (.cells #[p,.slice none 0 0] 64 (0,0))) :
  Calls Tryz.prog 31 #[.pointer (some ⟨b,0,none⟩)] w fun e w'=>e=.returned (.string ⟨#[]⟩)∧w'=w.drew:=by
 have hUS:∀ W q,(Builtin.unsafeString_ #[117,3] 9 #[.pointer q,.int .i64 0]).run Tryz.prog W=.ok (.string .empty) W:=fun W q=>Lib.run_unsafeString_none W _ _ _ q
 have c1:w.drew.cell? ⟨b,1,none⟩=some (.slice none 0 0):=by
  have:w.drew.heap[b]?=some (.cells #[p,.slice none 0 0] 64 (0,0)):=hbk
  rw [Lib.cell_of_heap this];rfl
 have hSD:(Builtin.unsafeSliceData_ #[62] 117 #[.slice none 0 0]).run Tryz.prog w.drew=.ok (.pointer none) w.drew:=rfl
 have mixed:Tryz.prog.follows .mixedOrders=true:=by kernel_rfl
 go_enter Tryz.func31,Tryz.ntmps31
 go_wp2
 go_region_o
 all_goals (go_wp2;go_ret;exact ⟨rfl,rfl⟩)
end Go.Proofs.AbCS


namespace Go.Proofs
open Go.Shelf Go.RowKit Go.Sort Go.Lib
def Tryz.lays171_ren:Go.Shelf.Ren:=⟨fun | 171=>79 | 243=>114 | 246=>150 | 283=>180 | 284=>181 | 285=>182 | 286=>183 | 129=>216 | 317=>215 | 318=>217 | 319=>218 | 320=>219 | 337=>248 | 338=>249 | n=>n,fun | 3=>3 | 9=>9 | 2=>2 | 4=>4 | 171=>262 | 0=>0 | 53=>263 | 37=>62 | 5=>5 | 173=>266 | 212=>294 | 51=>295 | 20=>20 | 213=>296 | 46=>191 | 232=>377 | 233=>378 | n=>n,fun | 17=>6 | 18=>10 | 19=>11 | n=>n⟩
theorem Tryz.lays171:Go.Proofs.LaysM.n171 Tryz.prog Tryz.lays171_ren:={
 mixed:=by kernel_rfl
 f129:=Tryz.func216.trans (congrArg some (by kernel_rfl))
 f171:=Tryz.func79.trans (congrArg some (by kernel_rfl))
 f243:=Tryz.func114.trans (congrArg some (by kernel_rfl))
 f246:=Tryz.func150.trans (congrArg some (by kernel_rfl))
 f283:=Tryz.func180.trans (congrArg some (by kernel_rfl))
 f284:=Tryz.func181.trans (congrArg some (by kernel_rfl))
 f285:=Tryz.func182.trans (congrArg some (by kernel_rfl))
 f286:=Tryz.func183.trans (congrArg some (by kernel_rfl))
 f317:=Tryz.func215.trans (congrArg some (by kernel_rfl))
 f318:=Tryz.func217.trans (congrArg some (by kernel_rfl))
 f319:=Tryz.func218.trans (congrArg some (by kernel_rfl))
 f320:=Tryz.func219.trans (congrArg some (by kernel_rfl))
 f337:=Tryz.func248.trans (congrArg some (by kernel_rfl))
 f338:=Tryz.func249.trans (congrArg some (by kernel_rfl))
 t0:=Tryz.underlying0
 a0:=Tryz.isAgg0
 z0:=Tryz.sizeOf0
 v0:=Tryz.zeroValue0
 t2:=Tryz.underlying2
 a2:=Tryz.isAgg2
 z2:=Tryz.sizeOf2
 v2:=Tryz.zeroValue2
 t3:=Tryz.underlying3
 a3:=Tryz.isAgg3
 z3:=Tryz.sizeOf3
 v3:=Tryz.zeroValue3
 t4:=Tryz.underlying4
 a4:=Tryz.isAgg4
 z4:=Tryz.sizeOf4
 v4:=Tryz.zeroValue4
 t5:=Tryz.underlying5
 a5:=Tryz.isAgg5
 z5:=Tryz.sizeOf5
 v5:=Tryz.zeroValue5
 t9:=Tryz.underlying9
 a9:=Tryz.isAgg9
 z9:=Tryz.sizeOf9
 v9:=Tryz.zeroValue9
 t20:=Tryz.underlying20
 a20:=Tryz.isAgg20
 z20:=Tryz.sizeOf20
 v20:=Tryz.zeroValue20
 t37:=Tryz.underlying62
 a37:=Tryz.isAgg62
 z37:=Tryz.sizeOf62
 v37:=Tryz.zeroValue62
 t46:=Tryz.underlying191
 a46:=Tryz.isAgg191
 z46:=Tryz.sizeOf191
 v46:=Tryz.zeroValue191
 t51:=Tryz.underlying295
 a51:=Tryz.isAgg295
 z51:=Tryz.sizeOf295
 v51:=Tryz.zeroValue295
 t53:=Tryz.underlying263
 a53:=Tryz.isAgg263
 z53:=Tryz.sizeOf263
 v53:=Tryz.zeroValue263
 t171:=Tryz.underlying262
 a171:=Tryz.isAgg262
 z171:=Tryz.sizeOf262
 v171:=Tryz.zeroValue262
 t173:=Tryz.underlying266
 a173:=Tryz.isAgg266
 z173:=Tryz.sizeOf266
 v173:=Tryz.zeroValue266
 t212:=Tryz.underlying294
 a212:=Tryz.isAgg294
 z212:=Tryz.sizeOf294
 v212:=Tryz.zeroValue294
 t213:=Tryz.underlying296
 a213:=Tryz.isAgg296
 z213:=Tryz.sizeOf296
 t232:=Tryz.underlying377
 a232:=Tryz.isAgg377
 z232:=Tryz.sizeOf377
 v232:=Tryz.zeroValue377
 t233:=Tryz.underlying378
 a233:=Tryz.isAgg378
 z233:=Tryz.sizeOf378
 v233:=Tryz.zeroValue378
 g17:=by kernel_rfl
 g18:=by kernel_rfl
 g19:=by kernel_rfl
 i0:=by kernel_rfl
 i2:=by kernel_rfl
 i3:=by kernel_rfl
 i4:=by kernel_rfl
 i5:=by kernel_rfl
 i9:=by kernel_rfl
 i20:=by kernel_rfl
 i37:=by kernel_rfl
 i46:=by kernel_rfl
 i51:=by kernel_rfl
 i53:=by kernel_rfl
 i171:=by kernel_rfl
 i173:=by kernel_rfl
 i212:=by kernel_rfl
 i232:=by kernel_rfl
 i233:=by kernel_rfl
 m17:=by kernel_rfl
 m18:=by kernel_rfl
 m19:=by kernel_rfl }
namespace AbShC
theorem itoa_run (n:Int) (h0 : -9223372036854775808≤n) (h1:n≤9223372036854775807) (w:World) (ht:Lib.TabIs Tryz.prog w "internal/strconv.uint64pow10" .u64 Lib.pow10Tab) :
  Calls Tryz.prog 79 #[.int .i64 n] w fun e w'=>e=.returned (.string ⟨(Lib.itoa n).toArray⟩)∧∃ k os,w'=grow (w.drewN k) os :=
 Any.strconv_Itoa Tryz.lays171 n h0 h1 w ht
set_option maxHeartbeats 1000000 in
set_option maxRecDepth 100000 in
theorem index_run (s:ByteArray) (c:Int) (w:World) :
  Calls Tryz.prog 151 #[.string s,.int .u8 c] w fun e w'=>e=.returned (.int .i64 (Lib.indexByte s.data.toList c.toNat.toUInt8))∧w'=w:=by
 go_enter Tryz.func151,Tryz.ntmps151
 go_wp2
 rw [run_callFunc_extern Tryz.func184 (by kernel_rfl) (by kernel_rfl) (by kernel_rfl) (e:=Extern.BytealgIndexByte.indexByte) (by kernel_rfl),Lib.run_indexByteString]
 simp only [Result.andThen]
 rw [Oper.upon_value]
 go_wp2
 go_ret
 exact ⟨rfl,rfl⟩
end AbShC
end Go.Proofs


namespace Go.Ab.Core
open Go Go.Ab Go.Proofs
def tabs0:List (Nat×Array Value):=[(6,(Lib.pow10Tab.map fun z=>Value.int .u64 z).toArray)]
noncomputable def cx0:Cx:=cxOf Tryz.prog (by kernel_rfl) [1] 407 [] tabs0 []
theorem enters89:qhc Tryz.prog 89:=⟨_,Tryz.func89,by rfl,by rfl⟩
theorem enters151:qhc Tryz.prog 151:=⟨_,Tryz.func151,by rfl,by rfl⟩
theorem enters79:qhc Tryz.prog 79:=⟨_,Tryz.func79,by rfl,by rfl⟩
theorem enters53:qhc Tryz.prog 53:=⟨_,Tryz.func53,by rfl,by rfl⟩
theorem enters31:qhc Tryz.prog 31:=⟨_,Tryz.func31,by rfl,by rfl⟩
theorem is_ok:IsOK Tryz.prog 89 407 [] where
 enters:=enters89
 none a w:=Go.Proofs.AbIsC.is_nil a w
 same a w:=Go.Proofs.AbIsC.is_same a w
 other a b ca cb ta tb w h h1 h2:=Go.Proofs.AbIsC.is_other a b ca cb ta tb w h h1 h2
 type s hs v b w:=by
  simp only [List.mem_cons,List.not_mem_nil,or_false] at hs
theorem bld_ok:BldOK Tryz.prog 53 31 64 5 where
 entersC:=enters53
 entersS:=enters31
 nzT:=by decide
 nzU:=by decide
 used:=Go.Proofs.AbCS.check_used
 fresh b w h0 h1 h2:=Go.Proofs.AbCS.check_fresh b w h0 h1 h2
 strNil b p w h:=Go.Proofs.AbCS.string_nil b p w h
 strSome b g cap p cur l w h1 h2 h3 h4 h5 h6 h7:=Go.Proofs.AbCS.string_some b g cap p cur l w h1 h2 h3 h4 h5 h6 h7
theorem sp_ok:SpOK cx0 sp0:=by
 intro g st vs out h
 unfold sp0 at h
 split at h
 ·rename_i hg
  subst hg
  exact .inr (is_at is_ok h)
 split at h
 ·rename_i hg
  subst hg
  exact .inr (idx_at enters151 Go.Proofs.AbShC.index_run h)
 split at h
 ·rename_i hg
  subst hg
  exact .inr (itoa_at enters79 (gt:=6) (List.mem_singleton.2 rfl) (by kernel_rfl) (fun n h0 h1 w ht=>Go.Proofs.AbShC.itoa_run n h0 h1 w ht) h)
 split at h
 ·rename_i hg
  subst hg
  exact .inr (check_at bld_ok h)
 split at h
 ·rename_i hg
  subst hg
  exact .inr (str_at bld_ok h)
 cases h
end Go.Ab.Core


namespace Go.Ab.Core
open Go Go.Ab Go.Proofs
theorem sp_loc:Qhn sp0:=fun g=>sp_here g
theorem tab_ok:Qpc cx0 qc3 (deadH Qkw Tryz.prog):=by
 intro f fn h
 unfold qc3 at h
 split at h
 ·cases h;exact qbk (by kernel_rfl)
 ·cases h;exact qbk (by kernel_rfl)
 ·cases h;exact qbk (by kernel_rfl)
 ·cases h;exact qbk (by kernel_rfl)
 ·cases h;exact qbk (by kernel_rfl)
 ·cases h;exact qbk (by kernel_rfl)
 ·cases h;exact qbk (by kernel_rfl)
 ·cases h;exact qbk (by kernel_rfl)
 ·cases h;exact qbk (by kernel_rfl)
 ·cases h;exact qbk (by kernel_rfl)
 ·cases h;exact qbk (by kernel_rfl)
 ·cases h;exact qbk (by kernel_rfl)
 ·cases h;exact qbk (by kernel_rfl)
 ·cases h;exact qbk (by kernel_rfl)
 ·cases h;exact qbk (by kernel_rfl)
 ·cases h;exact qbk (by kernel_rfl)
 ·cases h;exact qbk (by kernel_rfl)
 ·cases h;exact qbk (by kernel_rfl)
 ·cases h;exact qbk (by kernel_rfl)
 ·cases h;exact qbk (by kernel_rfl)
 ·cases h;exact qbk (by kernel_rfl)
 ·cases h;exact qbk (by kernel_rfl)
 ·cases h;exact qbk (by kernel_rfl)
 ·cases h;exact qbk (by kernel_rfl)
 ·cases h;exact qbk (by kernel_rfl)
 ·cases h;exact qbk (by kernel_rfl)
 ·cases h;exact qbk (by kernel_rfl)
 ·cases h;exact qbk (by kernel_rfl)
 ·cases h;exact qbk (by kernel_rfl)
 ·cases h;exact qbk (by kernel_rfl)
 ·cases h;exact qbk (by kernel_rfl)
 ·cases h;exact qbk (by kernel_rfl)
 ·cases h;exact qbk (by kernel_rfl)
 ·cases h;exact qbk (by kernel_rfl)
 ·cases h;exact qbk (by kernel_rfl)
 ·cases h;exact qbk (by kernel_rfl)
 ·cases h;exact qbk (by kernel_rfl)
 ·cases h;exact qbk (by kernel_rfl)
 ·cases h;exact qbk (by kernel_rfl)
 ·cases h;exact qbk (by kernel_rfl)
 ·cases h;exact qbk (by kernel_rfl)
 ·cases h;exact qbk (by kernel_rfl)
 ·cases h;exact qbk (by kernel_rfl)
 ·cases h;exact qbk (by kernel_rfl)
 ·cases h;exact qbk (by kernel_rfl)
 ·cases h;exact qbk (by kernel_rfl)
 ·cases h;exact qbk (by kernel_rfl)
 ·cases h;exact qbk (by kernel_rfl)
 ·cases h;exact qbk (by kernel_rfl)
 ·cases h;exact qbk (by kernel_rfl)
 ·cases h;exact qbk (by kernel_rfl)
 ·cases h;exact qbk (by kernel_rfl)
 ·cases h;exact qbk (by kernel_rfl)
 ·cases h;exact qbk (by kernel_rfl)
 ·cases h;exact qbk (by kernel_rfl)
 ·cases h;exact qbk (by kernel_rfl)
 ·cases h;exact qbk (by kernel_rfl)
 ·cases h;exact qbk (by kernel_rfl)
 ·cases h;exact qbk (by kernel_rfl)
 ·cases h;exact qbk (by kernel_rfl)
 ·cases h;exact qbk (by kernel_rfl)
 ·cases h;exact qbk (by kernel_rfl)
 ·cases h;exact qbk (by kernel_rfl)
 ·cases h;exact qbk (by kernel_rfl)
 ·cases h;exact qbk (by kernel_rfl)
 ·cases h;exact qbk (by kernel_rfl)
 ·cases h;exact qbk (by kernel_rfl)
 ·cases h;exact qbk (by kernel_rfl)
 ·cases h;exact qbk (by kernel_rfl)
 ·cases h;exact qbk (by kernel_rfl)
 ·cases h;exact qbk (by kernel_rfl)
 ·cases h;exact qbk (by kernel_rfl)
 ·cases h;exact qbk (by kernel_rfl)
 ·cases h;exact qbk (by kernel_rfl)
 ·cases h;exact qbk (by kernel_rfl)
 ·cases h;exact qbk (by kernel_rfl)
 ·cases h;exact qbk (by kernel_rfl)
 ·cases h;exact qbk (by kernel_rfl)
 ·cases h;exact qbk (by kernel_rfl)
 ·cases h;exact qbk (by kernel_rfl)
 ·cases h;exact qbk (by kernel_rfl)
 ·cases h;exact qbk (by kernel_rfl)
 ·cases h;exact qbk (by kernel_rfl)
 ·cases h;exact qbk (by kernel_rfl)
 ·cases h;exact qbk (by kernel_rfl)
 ·cases h;exact qbk (by kernel_rfl)
 ·cases h;exact qbk (by kernel_rfl)
 ·cases h;exact qbk (by kernel_rfl)
 ·cases h;exact qbk (by kernel_rfl)
 ·cases h;exact qbk (by kernel_rfl)
 ·cases h;exact qbk (by kernel_rfl)
 ·cases h;exact qbk (by kernel_rfl)
 ·cases h;exact qbk (by kernel_rfl)
 ·cases h;exact qbk (by kernel_rfl)
 ·cases h;exact qbk (by kernel_rfl)
 ·cases h;exact qbk (by kernel_rfl)
 ·cases h;exact qbk (by kernel_rfl)
 ·cases h;exact qbk (by kernel_rfl)
 ·cases h;exact qbk (by kernel_rfl)
 ·cases h;exact qbk (by kernel_rfl)
 ·cases h;exact qbk (by kernel_rfl)
 ·cases h
theorem Qql {g:FuncId} {fn:RFn} (ht:qc3 g=some fn) {args:List PV} (ha:qca args=true) (hl:args.length≤fn.nt)
  (hr:qm2 (qk6 B0 fun _=>.cl) fn .cl qbe 0 (args.map KV.cv) ()=some (.bool true,())) {I:Nat→Prop} {w:World} {vs:List Value}
  (hI:∀ b,I b→b < w.heap.size) (hw:cx0.Wd I w) (hrep:qb0 w I (fun _=>none) none args vs) :
  Calls cx0.P g vs.toArray w fun e w'=>e=.returned (.bool true)∧Qma w w':=by
 obtain ⟨n,hn⟩:=law_of_run (qhk fun _=>.cl) ht ha hl hr
 exact law_calls (fn_ok sp_ok sp_loc tab_ok n) hn hI hw hrep
def Told (fn:RFn) (Ds:List DTy):Prop:=∀ us,HasVs Ds us→qca us=true∧us.length≤fn.nt∧qm2 (qk6 B0 fun _=>.cl) fn .cl qbe 0 (us.map KV.cv) ()=some (.bool true,())
end Go.Ab.Core


namespace Go.Ab
def Qgc (memo:FuncId→List PV→Option PV) (c:qvd):qvd:=fun E h dep g args e =>
 match dep,memo g args with
 | 0,some r=>some (r,[],e)
 | _,_=>c E h dep g args e
def Qbl (memo:FuncId→List PV→Option PV) (sp:FuncId→(Nm→Option Ob)→List PV→Option Out) (tab:FuncId→Option RFn):Nat→qfw
 | 0=>ql7 sp tab 0
 | n+1=>{ ql7 sp tab 0 with call:=Qgc memo (qqu (Qbl memo sp tab n) n tab),io:=Qmd (Qbl memo sp tab n) n tab }
def evalFm (memo:FuncId→List PV→Option PV) (sp:FuncId→(Nm→Option Ob)→List PV→Option Out) (tab:FuncId→Option RFn) (n:Nat):qvd:=(Qbl memo sp tab n).call
section memo
variable {memo:FuncId→List PV→Option PV} {sp:FuncId→(Nm→Option Ob)→List PV→Option Out} {tab:FuncId→Option RFn}
 (hm:∀ g args r,memo g args=some r→∃ n,qbn sp tab n Unit qbe 0 g args ()=some (r,[],()))
include hm
theorem evalMm_le:∀ n,MLe (Qbl memo sp tab n) (ql7 sp tab):=by
 intro n
 induction n with
 | zero=>exact Qrg 0
 | succ n ih =>
  have hk:=Qff ih n tab
  refine MLe.of_tail ⟨fun k=>rfl,?_,fun k=>rfl,fun k=>rfl,fun k=>rfl,fun g dst σ vs out h=>Qqy ih n tab g dst σ vs out h⟩ rfl rfl rfl rfl
  intro E1 E2 RE h1 h2 hh dep g args e1 e2 he r obs e1' h
  simp only [Qbl,Qgc] at h
  split at h
  ·rename_i r' hr
   cases h
   obtain ⟨m,hm'⟩:=hm g args r hr
   obtain ⟨_,rfl,a,ha⟩:=qwe m Unit E2 (fun _ e=>e2=e) qbe (fun k=>h2 (k - 1)) (fun _ _ _ _ _ _ _ h=>by cases h) 0 g args () e2 rfl r [] () hm'
   exact ⟨e2,he,a,fun k hk=>ha (k+1) (by omega)⟩
  ·exact hk E1 E2 RE h1 h2 hh _ g args e1 e2 he r obs e1' h
theorem ev_memo {n:Nat} {g:FuncId} {args:List PV} {r:PV} (h:evalFm memo sp tab n Unit qbe 0 g args ()=some (r,[],())):∃ m,qbn sp tab m Unit qbe 0 g args ()=some (r,[],()):=by
 obtain ⟨m,hm'⟩:=qx6 (evalMm_le hm n) g args h
 exact ⟨m,hm' m (Nat.le_refl _)⟩
end memo
mutual
def sameV:PV→PV→Bool
 | .bool a,.bool b=>a==b
 | .int k n,.int k' n'=>decide (k=k')&&decide (n=n')
 | .str s,.str s'=>decide (s=s')
 | .nilS,.nilS=>true
 | .nilI,.nilI=>true
 | .agg cs,.agg cs'=>sameL cs cs'
 | .sl k xs f,.sl k' xs' f'=>decide (k=k')&&(f==f')&&sameL xs xs'
 | _,_=>false
def sameL:List PV→List PV→Bool
 | [],[]=>true
 | x :: xs,y :: ys=>sameV x y&&sameL xs ys
 | _,_=>false
end
mutual
theorem sameV_eq:∀ (x y:PV),sameV x y=true→x=y
 | x,y,h=>by
  unfold sameV at h
  split at h
  ·simpa using h
  ·simp only [Bool.and_eq_true,decide_eq_true_eq] at h;rw [h.1,h.2]
  ·simp only [decide_eq_true_eq] at h;rw [h]
  ·rfl
  ·rfl
  ·rename_i cs cs';rw [qxo cs cs' h]
  ·rename_i k xs f k' xs' f'
   simp only [Bool.and_eq_true,decide_eq_true_eq,beq_iff_eq] at h
   rw [h.1.1,h.1.2,qxo xs xs' h.2]
  ·cases h
theorem qxo:∀ (xs ys:List PV),sameL xs ys=true→xs=ys
 | xs,ys,h=>by
  unfold sameL at h
  split at h
  ·rfl
  ·rename_i x xs y ys
   simp only [Bool.and_eq_true] at h
   rw [sameV_eq x y h.1,qxo xs ys h.2]
  ·cases h
end
abbrev qro:=List (FuncId×List PV×PV)
def Qj2:qro→FuncId→List PV→Option PV
 | [],_,_=>none
 | p :: l,g,args=>if p.1=g∧sameL p.2.1 args=true then some p.2.2 else Qj2 l g args
def qk8 (sp:FuncId→(Nm→Option Ob)→List PV→Option Out) (tab:FuncId→Option RFn) (l:qro):Prop :=
 ∀ p∈l,∃ n,qbn sp tab n Unit qbe 0 p.1 p.2.1 ()=some (p.2.2,[],())
theorem Qcx {sp:FuncId→(Nm→Option Ob)→List PV→Option Out} {tab:FuncId→Option RFn}:qk8 sp tab []:=fun _ h=>by cases h
theorem qbf {sp:FuncId→(Nm→Option Ob)→List PV→Option Out} {tab:FuncId→Option RFn} {g:FuncId} {args:List PV} {r:PV} {l:qro}
  (h:∃ n,qbn sp tab n Unit qbe 0 g args ()=some (r,[],())) (hl:qk8 sp tab l):qk8 sp tab ((g,args,r) :: l):=fun p hp=>by
 rcases List.mem_cons.1 hp with rfl | hp
 ·exact h
 ·exact hl p hp
theorem Qdf {sp:FuncId→(Nm→Option Ob)→List PV→Option Out} {tab:FuncId→Option RFn}:∀ {l:qro},qk8 sp tab l→∀ g args r,Qj2 l g args=some r→∃ n,qbn sp tab n Unit qbe 0 g args ()=some (r,[],())
 | [],_,_,_,_,h=>by cases h
 | p :: l,hl,g,args,r,h=>by
  unfold Qj2 at h
  split at h
  ·rename_i hp
   cases h
   have:=hl p List.mem_cons_self
   rwa [hp.1,qxo _ _ hp.2] at this
  ·exact Qdf (fun q hq=>hl q (List.mem_cons_of_mem _ hq)) g args r h
theorem ev_known {sp:FuncId→(Nm→Option Ob)→List PV→Option Out} {tab:FuncId→Option RFn} {l:qro} (hl:qk8 sp tab l) {n:Nat} {g:FuncId} {args:List PV} {r:PV}
  (h:evalFm (Qj2 l) sp tab n Unit qbe 0 g args ()=some (r,[],())):∃ m,qbn sp tab m Unit qbe 0 g args ()=some (r,[],()):=ev_memo (Qdf hl) h
end Go.Ab


namespace Go.Ab
noncomputable section
section qjy
variable {R:Type}
def fN (n:Nat) (K:Nat→R):R:=match n with
 | 0=>K 0
 | m+1=>K (Nat.succ m)
def fI (n:Int) (K:Int→R):R:=match n with
 | .ofNat m=>fN m fun m=>K (.ofNat m)
 | .negSucc m=>fN m fun m=>K (.negSucc m)
def fB (b:Bool) (K:Bool→R):R:=match b with
 | true=>K true
 | false=>K false
def fKd (k:IntKind) (K:IntKind→R):R:=match k with
 | .i8=>K .i8 | .i16=>K .i16 | .i32=>K .i32 | .i64=>K .i64
 | .u8=>K .u8 | .u16=>K .u16 | .u32=>K .u32 | .u64=>K .u64
def fS:List UInt8→(List UInt8→R)→R
 | [],K=>K []
 | x :: xs,K=>fS xs fun xs=>K (x :: xs)
def fP {α β:Type} (p:α×β) (K:α×β→R):R:=match p with
 |(a,b)=>K (a,b)
def fSp {α:Type}:List α→(List α→R)→R
 | [],K=>K []
 | x :: xs,K=>fSp xs fun xs=>K (x :: xs)
mutual
def fV (d:Bool):PV→(PV→R)→R
 | .undef,K=>K .undef
 | .bool b,K=>fB b fun b=>K (.bool b)
 | .int k n,K=>fKd k fun k=>fI n fun n=>K (.int k n)
 | .str s,K=>fS s fun s=>K (.str s)
 | .nilS,K=>K .nilS | .nilP,K=>K .nilP | .nilF,K=>K .nilF | .nilI,K=>K .nilI | .nilM,K=>K .nilM
 | .sl k xs f,K=>match d with
  | true=>fVL true xs fun xs=>K (.sl k xs f)
  | false=>fSp xs fun xs=>K (.sl k xs f)
 | .ptr cs o,K=>match d with
  | true=>fVL true cs fun cs=>K (.ptr cs o)
  | false=>fSp cs fun cs=>K (.ptr cs o)
 | .agg cs,K=>fVL d cs fun cs=>K (.agg cs)
 | .iface t x,K=>fV d x fun x=>K (.iface t x)
 | .fn f cap,K=>fVL d cap fun cap=>K (.fn f cap)
 | .yld l,K=>K (.yld l)
 | .tup xs,K=>fVL d xs fun xs=>K (.tup xs)
 | .imap es,K=>match d with
  | true=>fVL true es fun es=>K (.imap es)
  | false=>fSp es fun es=>K (.imap es)
 | .glob g t,K=>K (.glob g t)
 | .ref nm o,K=>fP nm fun nm=>fN o fun o=>K (.ref nm o)
 | .aref nm k i o,K=>fP nm fun nm=>fN i fun i=>fN o fun o=>K (.aref nm k i o)
 | .arr nm k o n,K=>fP nm fun nm=>fN o fun o=>fN n fun n=>K (.arr nm k o n)
 | .mp nm,K=>fP nm fun nm=>K (.mp nm)
 | .it nm,K=>fP nm fun nm=>K (.it nm)
def fVL (d:Bool):List PV→(List PV→R)→R
 | [],K=>K []
 | x :: xs,K=>fV d x fun x=>fVL d xs fun xs=>K (x :: xs)
end
def fH:PV→(PV→R)→R
 | .undef,K=>K .undef
 | .bool b,K=>K (.bool b) | .int k n,K=>K (.int k n) | .str s,K=>K (.str s)
 | .nilS,K=>K .nilS | .nilP,K=>K .nilP | .nilF,K=>K .nilF | .nilI,K=>K .nilI | .nilM,K=>K .nilM
 | .sl k xs f,K=>K (.sl k xs f)
 | .ptr cs o,K=>K (.ptr cs o)
 | .agg cs,K=>fVL false cs fun cs=>K (.agg cs)
 | .iface t x,K=>fV false x fun x=>K (.iface t x)
 | .fn f cap,K=>fVL false cap fun cap=>K (.fn f cap)
 | .yld l,K=>K (.yld l)
 | .tup xs,K=>fVL false xs fun xs=>K (.tup xs)
 | .imap es,K=>K (.imap es)
 | .glob g t,K=>K (.glob g t)
 | .ref nm o,K=>fP nm fun nm=>K (.ref nm o)
 | .aref nm k i o,K=>fP nm fun nm=>K (.aref nm k i o)
 | .arr nm k o n,K=>fP nm fun nm=>K (.arr nm k o n)
 | .mp nm,K=>fP nm fun nm=>K (.mp nm)
 | .it nm,K=>fP nm fun nm=>K (.it nm)
def fHL (l:List PV):(List PV→R)→R:=List.rec (motive:=fun _=>(List PV→R)→R) (fun K=>K []) (fun x _ ih K=>fH x fun x=>ih fun xs=>K (x :: xs)) l
def fOb (d:Bool):Ob→(Ob→R)→R
 | .cells ty cs,K=>fVL d cs fun cs=>K (.cells ty cs)
 | .arr k ty xs,K=>match d with
  | true=>fVL true xs fun xs=>K (.arr k ty xs)
  | false=>fSp xs fun xs=>K (.arr k ty xs)
 | .map es,K=>fSp es fun es=>K (.map es)
 | .siter s p,K=>fN p fun p=>K (.siter s p)
def fObs (d:Bool):List Ob→(List Ob→R)→R
 | [],K=>K []
 | x :: xs,K=>fOb d x fun x=>fObs d xs fun xs=>K (x :: xs)
def fObH:Ob→(Ob→R)→R
 | .cells ty cs,K=>fVL false cs fun cs=>K (.cells ty cs)
 | .arr k ty xs,K=>K (.arr k ty xs)
 | .map es,K=>K (.map es)
 | .siter s p,K=>K (.siter s p)
def fObHs:List Ob→(List Ob→R)→R
 | [],K=>K []
 | x :: xs,K=>fObH x fun x=>fObHs xs fun xs=>K (x :: xs)
def fOL:List (List Ob)→(List (List Ob)→R)→R
 | [],K=>K []
 | x :: xs,K=>fObHs x fun x=>fOL xs fun xs=>K (x :: xs)
def fSt (st:St) (K:St→R):R:=match st with
 | ⟨tmps,objs,keep⟩=>fHL tmps fun tmps=>fOL objs fun objs=>fHL keep fun keep=>K ⟨tmps,objs,keep⟩
def fTm (st:St) (K:St→R):R:=match st with
 | ⟨tmps,objs,keep⟩=>fHL tmps fun tmps=>K ⟨tmps,objs,keep⟩
def fUpd (u:Option (Nm×Ob)) (K:Option (Nm×Ob)→R):R:=match u with
 | none=>K none
 | some (nm,o)=>fP nm fun nm=>fOb false o fun o=>K (some (nm,o))
def deepOp:ROp→Bool
 | .call _ _=>true
 | .toBytes _=>true
 | _=>false
def fOut (d:Bool) (o:Out) (K:Out→R):R:=match o with
 | ⟨v,new,upd,kill,frz,gone,ups,io,slot⟩=>fV d v fun v=>fObs d new fun new=>fUpd upd fun upd=>K ⟨v,new,upd,kill,frz,gone,ups,io,slot⟩
end qjy
def getR {α:Type} (l:List α):Nat→Option α:=List.rec (motive:=fun _=>Nat→Option α) (fun _=>none) (fun x _ ih n=>Nat.rec (motive:=fun _=>Option α) (some x) (fun m _=>ih m) n) l
def nthR (l:List PV):Nat→PV:=List.rec (motive:=fun _=>Nat→PV) (fun _=>.undef) (fun x _ ih n=>Nat.rec (motive:=fun _=>PV) x (fun m _=>ih m) n) l
def setR (l:List PV):Nat→PV→List PV:=List.rec (motive:=fun _=>Nat→PV→List PV) (fun _ _=>[]) (fun x xs ih n v=>Nat.rec (motive:=fun _=>List PV) (v :: xs) (fun m _=>x :: ih m v) n) l
def lookR (σ:List (List Ob)) (nm:Nm):Option Ob:=match getR σ nm.1 with
 | some l=>getR l nm.2
 | none=>none
def RX.evR (tm:List PV):RX→RX
 | .t i=>.c (nthR tm i)
 | .c v=>.c v
def RX.evF (tm:List PV):RX→PV
 | .t i=>nthR tm i
 | .c v=>v
def Ql3 (m i:Nat):Bool:=Nat.beq (Nat.land (Nat.shiftRight m i) 1) 1
def qvs:List Nat→Nat
 | []=>0
 | d :: ds=>Nat.lor (Nat.shiftLeft 1 d) (qvs ds)
def Qkn (m:Nat) (b:Bool):Nat→List PV→List PV
 | _,[]=>[]
 | i,v :: vs=>(match Ql3 m i with
  | true=>bif b then v else .undef
  | false=>bif b then .undef else v) :: Qkn m b (Nat.succ i) vs
def qx7:Nat→List PV→List Nat
 | _,[]=>[]
 | i,v :: vs=>match v with
  | .undef=>i :: qx7 (Nat.succ i) vs
  | _=>qx7 (Nat.succ i) vs
def qgt (R:List Nm):Nat→List (List Ob)→List Nat
 | _,[]=>[]
 | i,l :: ls=>match l with
  | []=>qgt R (Nat.succ i) ls
  | _ :: _=>match R.all fun nm=>nm.1 != i with
   | true=>i :: qgt R (Nat.succ i) ls
   | false=>qgt R (Nat.succ i) ls
def Qfn (ds:List Nat) (st:St):St:={ st with tmps:=Qkn (qvs ds) false 0 st.tmps }
def qzm (ks:List Nat) (st:St):St:={ st with tmps:=Qkn (qvs ks) true 0 st.tmps }
def Qfm (st:St):List Nat:=qgt (qbo st.tmps++qbo st.keep++st.objs.flatMap fun l=>l.flatMap Ob.names) 0 st.objs
def undefsQ (st:St):List Nat:=qx7 0 st.tmps
def Qg8 (m:Nat):Nat→List (List Ob)→List (List Ob)
 | _,[]=>[]
 | i,l :: ls=>(match Ql3 m i with
  | true=>[]
  | false=>l) :: Qg8 m (Nat.succ i) ls
def Qtf (objs:List (List Ob)):List Nat→Bool
 | []=>true
 | d :: ds=>match getR objs d with
  | some (_ :: _)=>false
  | _=>Qtf objs ds
def Qru (ds:List Nat) (st:St):St :=
 let st:=qlk (fun m=>match Ql3 (qvs ds) m.1 with | true=>some none | false=>none) st
 {st with objs:=Qg8 (qvs ds) 0 st.objs }
def Qlw (ds:List Nat) (st:St):St:=match Qtf st.objs ds with
 | true=>st
 | false=>Qru ds st
def Qrt (st:St):St:=match Qfm st with
 | []=>st
 | d :: ds=>Qru (d :: ds) st
def dropQ (ds:List Nat) (st:St):St:=Qrt (Qfn ds st)
def qzx (m:Nat):Nat→List PV→Bool
 | _,[]=>true
 | i,v :: vs=>match v with
  | .arr nm _ _ _=>(match Ql3 m i with
   | true=>(match nm with
    |(a,b)=>(match Nat.beq a i with
     | true=>(match b with
      | 0=>qzx m (Nat.succ i) vs
      | _+1=>false)
     | false=>false))
   | false=>qzx m (Nat.succ i) vs)
  | _=>qzx m (Nat.succ i) vs
def qta {R:Type}:List Nat→St→(St→R)→R
 | [],st,K=>K st
 | t :: asg,st,K=>match nthR st.tmps t with
  | .arr nm k o n=>fSt (qku t st) fun st=>qta asg st K
  | _=>qta asg st K
def norm0K {R:Type} (asg:List Nat) (grow:List (Nat×Nat)) (st:St) (K:St→R):R:=match qzx (qvs asg) 0 st.tmps with
 | true=>K (grow.foldl (fun st (t,k)=>Qgu t k st) st)
 | false=>qta asg st fun st=>K (grow.foldl (fun st (t,k)=>Qgu t k st) st)
def normQ (asg:List Nat) (grow:List (Nat×Nat)) (st:St):St:=norm0K asg grow st fun st=>fSt st fun st=>dropQ (undefsQ st) st
def tidyQ (live:Option (List Nat)) (st:St):St :=
 match live with
 | none=>st
 | some ks=>Qrt (qzm ks st)
def stillO (o:Out):Bool:=qcc o&&o.new.isEmpty
def Qfi (st:St) (dst:Option Nat) (o:Out):St:=match stillO o with
 | true=>(match dst with
  | some d=>{ st with tmps:=setR st.tmps d o.v }
  | none=>st)
 | false=>apply st dst o
def freshQ (o:qb2) (st:St):Bool :=
 if Qj4 o.op then
  match o.dst with
  | some d=>match getR st.objs d with
   | some []=>true
   | _=>false
  | none=>match o.op with
   | .call _ _=>true
   | _=>false
 else true
def outQ (M:qfw) {E:Type} (h:qbl E) (dep:Nat) (o:qb2) (st:St) (e:E):Option (Out×E) :=
 chk (freshQ o st) (match o.op with
  | .call f args=>match qcs M h dep (o.dst.getD 0) (lookR st.objs) [] (f.evR st.tmps) (args.map (RX.evR st.tmps)) e with
   | some (out,e)=>chk (qql o.dst out) (some (out,e))
   | none=>none
  | op=>match exec (o.dst.getD 0) (lookR st.objs) [] (op.mapX (RX.evR st.tmps)) with
   | some out=>some (out,e)
   | none=>none)
def Qpj (ops:List qb2) (o:qb2) (tm:List PV):Option Bool :=
 match o.guard with
 | none=>some true
 | some (j,want) =>
  match getR ops j with
  | some p=>match p.dst with
   | some d=>match nthR tm d with
    | .bool b=>some (b==want)
    | .tup []=>some false
    | _=>none
   | none=>none
  | none=>none
def stepQ (M:qfw) {E:Type} (h:qbl E) (dep:Nat) (ops:List qb2) (o:qb2) (st:St) (e:E):Option (St×E) :=
 match Qpj ops o st.tmps with
 | some true=>match outQ M h dep o st e with
  | some (out,e)=>fOut (deepOp o.op) out fun out=>some (Qfi st o.dst out,e)
  | none=>none
 | some false=>some (Qfi st o.dst { v:=.tup [] },e)
 | none=>none
def runQ (M:qfw) {E:Type} (h:qbl E) (dep:Nat) (ops:List qb2):List qb2→St→E→Option (St×E)
 | [],st,e=>some (st,e)
 | o :: rest,st,e=>match stepQ M h dep ops o st e with
  | some (st,e)=>runQ M h dep ops rest st e
  | none=>none
def rnQ (o:qb2) (st:St) (out:Out):List Nm :=
 if qxi o.op&&qcc out then [] else qct (lookR st.objs) (qla o.op (qcc out)) (qbo (o.op.xs.map (RX.evF st.tmps))++out.frz)
def yldQ (op:ROp) (tm:List PV):Bool :=
 match op with
 | .call f args=>match f.evF tm with
  | .yld _=>(qbo (args.map (RX.evF tm))).isEmpty
  | _=>false
 | _=>false
def infoQ (ops:List qb2) (i:Nat) (o:qb2) (st:St) (out:Out):qsx :=
 let vs:=o.op.xs.map (RX.evF st.tmps)
 {i,dst:=o.dst,reads:=qvj o.op.xs++qdk ops o,rn:=rnQ o st out,rv:=if qkh o.op then [] else Qgt (lookR st.objs) (rnQ o st out),
  cls:=if qjr o.op&&qdt vs then (if yldQ o.op st.tmps then .calls else .other) else if qcc out then .quiet else if qdv out then .turns else .other,
  on:=out.v.names++out.new.flatMap Ob.names,tch:=qfj out++(out.frz++out.kill.toList),frz:=!(out.frz++out.kill.toList).isEmpty,
  vn:=(qvj o.op.xs++qdk ops o).flatMap fun s=>(nthR st.tmps s).names }
def outDQ (M:qfw) {E:Type} (h:qbl E) (dep:Nat) (ops:List qb2) (i:Nat) (o:qb2) (st:St) (e:E):Option (St×E×qsx) :=
 match Qpj ops o st.tmps with
 | some true=>match outQ M h dep o st e with
  | some (out,e)=>fOut (deepOp o.op) out fun out=>some (Qfi st o.dst out,e,infoQ ops i o st out)
  | none=>none
 | some false=>some (Qfi st o.dst { v:=.tup [] },e,{ i,cls:=.quiet,dst:=o.dst,reads:=qdk ops o,rn:=[],vn:=(qdk ops o).flatMap fun s=>(nthR st.tmps s).names })
 | none=>none
def runDQ (M:qfw) {E:Type} (h:qbl E) (dep:Nat) (ops:List qb2):List (Nat×Nat)→List qsx→St→E→Option (St×E)
 | [],_,st,e=>some (st,e)
 |(i,bef) :: rest,infos,st,e=>match getR ops i with
  | some o=>match outDQ M h dep ops i o st e with
   | some (st,e,info)=>chk (infos.all fun j=>bef.testBit j.i||Qce j info) (runDQ M h dep ops rest (info :: infos) st e)
   | none=>none
  | none=>none
def qnt (M:qfw) (fuel:Nat):qdf→{E:Type}→qbl E→Nat→St→E→Option (Ex×St×E)
 | .skip,_,_,_,st,e=>some (.normal,st,e)
 | .region ops none qh7,_,h,dep,st,e=>match runQ M h dep ops ops (Qlw (qsu ops) st) e with
  | some (st,e)=>fTm (tidyQ qh7 st) fun st=>some (.normal,st,e)
  | none=>none
 | .region ops (some bef) qh7,_,h,dep,st,e=>match runDQ M h dep ops bef [] (Qlw (qsu ops) st) e with
  | some (st,e)=>fTm (tidyQ qh7 st) fun st=>some (.normal,st,e)
  | none=>none
 | .seq a b,_,h,dep,st,e=>match qnt M fuel a h dep st e with
  | some (.normal,st,e)=>qnt M fuel b h dep st e
  | r=>r
 | .cond c a b,_,h,dep,st,e=>match c.ev st.tmps with
  | .bool true=>qnt M fuel a h dep st e
  | .bool false=>qnt M fuel b h dep st e
  | _=>none
 | .block id body,_,h,dep,st,e=>match qnt M fuel body h dep st e with
  | some (.exit id',st,e)=>if id'=id then some (.normal,st,e) else some (.exit id',st,e)
  | r=>r
 | .loop asg grow body,E,h,dep,st,e=>fSt (normQ asg grow st) fun st =>
  match qho (fun (s:St×E)=>match qnt M fuel body h dep s.1 s.2 with
   | some (.normal,st1,e)=>fSt (dropQ (undefs st) st1) fun st1=>fSt (normQ asg grow st1) fun st=>some (.inl (st,e))
   | some (x,st,e)=>some (.inr (x,st,e))
   | none=>none) fuel (st,e) with
  | some (x,st,e)=>some (x,st,e)
  | none=>none
 | .scope body,_,h,dep,st,e=>match qnt M fuel body h dep st e with
  | some (.exit id,st,e)=>if id < qht then some (.exit id,st,e) else none
  | r=>r
 | .norm grow,_,_,_,st,e=>fSt (normQ [] grow (trim st)) fun st=>some (.normal,st,e)
 | .rangeFunc f ps a b,_,h,dep,st,e=>qbz M fuel (.rangeFunc f ps a b) h dep st e
 | .exit id,_,_,_,st,e=>some (.exit id,st,e)
 | .ret,_,_,_,st,e=>some (.ret,st,e)
 | .dreg _ _ _ _,_,_,_,_,_=>none
 | .bad,_,_,_,_,_=>none
def callQ (M:qfw) (n:Nat) (tab:FuncId→Option RFn):qvd:=fun _ h dep f args e =>
 match tab f with
 | none=>none
 | some fn=>fVL false args fun args =>
  match qnt M n fn.code h dep { tmps:=args++List.replicate (fn.nt - args.length) .undef,objs:=List.replicate fn.nt [],keep:=[] } e with
  | some (x,st,e) =>
   match x with
   | .exit _=>none
   | _=>match qpc st fn.res with
    | some vs=>match qld fn.shut st (qsb vs) with
     | some (v,obs)=>fV true v fun v=>fObs true obs fun obs=>some (v,obs,e)
     | none=>none
    | none=>none
  | none=>none
def qmk (M:qfw) (fuel nt:Nat):qdf→St→Option (Ex×St×List Nat)
 | .dreg ops f args live,st=>match runQ M qbe 0 ops ops (Qlw (qsu ops) st) () with
  | some (st,_)=>chk (decide (args.length+1≤nt)&&isFn (f.ev st.tmps))
    (fTm (tidyQ live (pushD nt (f.ev st.tmps :: args.map (RX.ev st.tmps)) st)) fun st=>some (.normal,st,[args.length]))
  | none=>none
 | .seq a b,st=>match qmk M fuel nt a st with
  | some (.normal,st,l)=>match qmk M fuel nt b st with
   | some (x,st,l')=>some (x,st,l'++l)
   | none=>none
  | r=>r
 | .cond c a b,st=>match c.ev st.tmps with
  | .bool true=>qmk M fuel nt a st
  | .bool false=>qmk M fuel nt b st
  | _=>none
 | .block id body,st=>match qmk M fuel nt body st with
  | some (.exit id',st,l)=>if id'=id then some (.normal,st,l) else some (.exit id',st,l)
  | r=>r
 | .scope body,st=>if qxt body then none else match qmk M fuel nt body st with
  | some (.exit id,st,l)=>if id < qht then some (.exit id,st,l) else none
  | r=>r
 | c,st=>qsf (qnt M fuel c qbe 0 st ())
def ioRawQ (M:qfw) (n:Nat) (fn:RFn) (ins:List Ob) (vs:List PV):Option (St×PV) :=
 if noD fn.code then fSt (ioSt fn.gone fn.nt ins vs) fun st0=>match qnt M n fn.code qbe 0 st0 () with
  | some (x,st,_) =>
   match x with
   | .exit _=>none
   | _=>match qpc st fn.res with
    | some rs=>some (st,qsb rs)
    | none=>none
  | none=>none
 else fSt (ioSt fn.gone fn.nt ins vs) fun st0=>match qmk M n fn.nt fn.code st0 with
  | some (x,st,l) =>
   match x with
   | .exit _=>none
   | _=>match Qrj M fn.nt l st with
    | some st=>match qpc st fn.res with
     | some rs=>some (st,qsb rs)
     | none=>none
    | none=>none
  | none=>none
def fObD {R:Type}:Ob→(Ob→R)→R
 | .cells ty cs,K=>fVL false cs fun cs=>K (.cells ty cs)
 | .arr k ty xs,K=>fVL false xs fun xs=>K (.arr k ty xs)
 | .map es,K=>fSp es fun es=>K (.map es)
 | .siter s p,K=>K (.siter s p)
def fObDs {R:Type}:List Ob→(List Ob→R)→R
 | [],K=>K []
 | x :: xs,K=>fObD x fun x=>fObDs xs fun xs=>K (x :: xs)
def ioOfQ (M:qfw) (n:Nat) (tab:FuncId→Option RFn) (f:FuncId) (dst:Nat) (σ:Nm→Option Ob) (vs:List PV):Option Out :=
 match tab f with
 | none=>none
 | some fn =>
  fSp (qgr (qct σ qbp (qbo vs))) fun R =>
  match R.mapM σ with
  | none=>none
  | some ins =>
   chk (!qdt vs&&qka σ R&&ins.all (fun o=>!o.hasY)&&(decide (vs.length≤fn.nt)&&decide (R.length≤fn.nt)&&decide (0 < fn.nt))) (
    fObDs (ins.map (Ob.ren fun m=>(0,R.idxOf m))) fun ins=>fVL false (qjl (fun m=>(0,R.idxOf m)) vs) fun vs =>
    match ioRawQ M n fn ins vs with
    | some (st,v)=>fSt st fun st=>qsl σ dst R st v
    | none=>none)
def Qli (memo:FuncId→List PV→Option PV) (sp:FuncId→(Nm→Option Ob)→List PV→Option Out) (tab:FuncId→Option RFn):Nat→qfw
 | 0=>ql7 sp tab 0
 | n+1=>{ ql7 sp tab 0 with call:=Qgc memo (callQ (Qli memo sp tab n) n tab),io:=ioOfQ (Qli memo sp tab n) n tab }
def evalFq (memo:FuncId→List PV→Option PV) (sp:FuncId→(Nm→Option Ob)→List PV→Option Out) (tab:FuncId→Option RFn) (n:Nat):qvd:=(Qli memo sp tab n).call
section qc9
variable {R:Type}
theorem fN_eq (n:Nat) (K:Nat→R):fN n K=K n:=by cases n<;>rfl
theorem fI_eq (n:Int) (K:Int→R):fI n K=K n:=by cases n<;>simp only [fI,fN_eq]
theorem fB_eq (b:Bool) (K:Bool→R):fB b K=K b:=by cases b<;>rfl
theorem fKd_eq (k:IntKind) (K:IntKind→R):fKd k K=K k:=by cases k<;>rfl
theorem fS_eq:∀ (s:List UInt8) (K:List UInt8→R),fS s K=K s
 | [],_=>rfl
 | x :: xs,K=>by simp only [fS];rw [fS_eq xs]
theorem Qnv {α β:Type} (p:α×β) (K:α×β→R):fP p K=K p:=rfl
theorem Qbj {α:Type}:∀ (s:List α) (K:List α→R),fSp s K=K s
 | [],_=>rfl
 | x :: xs,K=>by simp only [fSp];rw [Qbj xs]
mutual
theorem fV_eq (d:Bool):∀ (v:PV) (K:PV→R),fV d v K=K v
 | .undef,K | .nilS,K | .nilP,K | .nilF,K | .nilI,K | .nilM,K | .yld _,K | .glob _ _,K=>by simp only [fV]
 | .bool b,K=>by simp only [fV,fB_eq]
 | .int k n,K=>by simp only [fV,fKd_eq,fI_eq]
 | .str s,K=>by simp only [fV,fS_eq]
 | .sl k xs f,K=>by cases d<;>simp only [fV,Qbj];rw [qns true xs]
 | .ptr cs o,K=>by cases d<;>simp only [fV,Qbj];rw [qns true cs]
 | .imap es,K=>by cases d<;>simp only [fV,Qbj];rw [qns true es]
 | .agg cs,K=>by simp only [fV];rw [qns d cs]
 | .iface t x,K=>by simp only [fV];rw [fV_eq d x]
 | .fn f cap,K=>by simp only [fV];rw [qns d cap]
 | .tup xs,K=>by simp only [fV];rw [qns d xs]
 | .ref nm o,K=>by simp only [fV,Qnv,fN_eq]
 | .aref nm k i o,K=>by simp only [fV,Qnv,fN_eq]
 | .arr nm k o n,K=>by simp only [fV,Qnv,fN_eq]
 | .mp nm,K=>by simp only [fV,Qnv]
 | .it nm,K=>by simp only [fV,Qnv]
theorem qns (d:Bool):∀ (xs:List PV) (K:List PV→R),fVL d xs K=K xs
 | [],K=>by simp only [fVL]
 | x :: xs,K=>by simp only [fVL];rw [fV_eq d x,qns d xs]
end
theorem fH_eq (v:PV) (K:PV→R):fH v K=K v:=by cases v<;>simp only [fH,qns,fV_eq,Qnv]
theorem fHL_eq:∀ (xs:List PV) (K:List PV→R),fHL xs K=K xs
 | [],_=>rfl
 | x :: xs,K=>by
  show fH x (fun x=>fHL xs fun xs=>K (x :: xs))=_
  rw [fH_eq,fHL_eq xs]
theorem fOb_eq (d:Bool) (o:Ob) (K:Ob→R):fOb d o K=K o:=by cases o<;>cases d<;>simp only [fOb,qns,Qbj,fN_eq]
theorem Qnw (d:Bool):∀ (xs:List Ob) (K:List Ob→R),fObs d xs K=K xs
 | [],_=>rfl
 | x :: xs,K=>by simp only [fObs];rw [fOb_eq,Qnw d xs]
theorem fObH_eq (o:Ob) (K:Ob→R):fObH o K=K o:=by cases o<;>simp only [fObH,qns]
theorem Qre:∀ (xs:List Ob) (K:List Ob→R),fObHs xs K=K xs
 | [],_=>rfl
 | x :: xs,K=>by simp only [fObHs];rw [fObH_eq,Qre xs]
theorem fOL_eq:∀ (xs:List (List Ob)) (K:List (List Ob)→R),fOL xs K=K xs
 | [],_=>rfl
 | x :: xs,K=>by simp only [fOL];rw [Qre,fOL_eq xs]
theorem qw6 (st:St) (K:St→R):fSt st K=K st:=by cases st;simp only [fSt,fHL_eq,fOL_eq]
theorem Qle (st:St) (K:St→R):fTm st K=K st:=by cases st;simp only [fTm,fHL_eq]
theorem fUpd_eq (u:Option (Nm×Ob)) (K:Option (Nm×Ob)→R):fUpd u K=K u:=by
 cases u with
 | none=>rfl
 | some p=>simp only [fUpd,Qnv,fOb_eq]
theorem fOut_eq (d:Bool) (o:Out) (K:Out→R):fOut d o K=K o:=by cases o;simp only [fOut,fV_eq,Qnw,fUpd_eq]
end qc9
theorem qsn {α:Type}:∀ (l:List α) (n:Nat),getR l n=l[n]?
 | [],_=>by simp [getR]
 | x :: xs,0=>rfl
 | x :: xs,n+1=>by rw [List.getElem?_cons_succ,← qsn xs n];rfl
theorem qsd:∀ (l:List PV) (n:Nat),nthR l n=l.getD n .undef
 | [],_=>by simp [nthR]
 | x :: xs,0=>rfl
 | x :: xs,n+1=>by rw [List.getD_cons_succ,← qsd xs n];rfl
theorem setR_eq:∀ (l:List PV) (n:Nat) (v:PV),setR l n v=l.set n v
 | [],_,_=>by simp [setR]
 | x :: xs,0,_=>rfl
 | x :: xs,n+1,v=>by rw [List.set_cons_succ,← setR_eq xs n];rfl
theorem evR_eq (tm:List PV):RX.evR tm=fun x=>.c (x.ev tm):=by
 funext x
 cases x with
 | t i=>simp only [RX.evR,RX.ev,qsd]
 | c v=>rfl
theorem Qqj (σ:List (List Ob)):lookR σ=qbq σ:=by
 funext nm
 unfold lookR qbq
 rw [qsn]
 cases σ[nm.1]? with
 | none=>rfl
 | some l=>exact qsn l nm.2
theorem evF_eq (tm:List PV):RX.evF tm=RX.ev tm:=by
 funext x
 cases x with
 | t i=>exact qsd tm i
 | c v=>rfl
theorem Qte (m i:Nat):Ql3 m i=m.testBit i:=by
 unfold Ql3
 rw [Nat.testBit_eq_decide_div_mod_eq]
 show ((m >>> i) &&& 1).beq 1=_
 rw [Nat.and_one_is_mod,Nat.shiftRight_eq_div_pow]
 by_cases h:m / 2 ^ i % 2=1
 ·rw [h];rfl
 ·cases hb:(m / 2 ^ i % 2).beq 1 with
  | false=>simp [h]
  | true=>exact absurd (Nat.eq_of_beq_eq_true hb) h
theorem qy9 (i:Nat):∀ ds:List Nat,Ql3 (qvs ds) i=ds.contains i
 | []=>by rw [Qte];simp [qvs]
 | d :: ds=>by
  have ih:=qy9 i ds
  rw [Qte] at ih ⊢
  show (1 <<< d ||| qvs ds).testBit i=_
  rw [Nat.testBit_or,ih,Nat.one_shiftLeft,Nat.testBit_two_pow,List.contains_cons]
  congr 1
  by_cases h:i=d
  ·simp [h]
  ·have h2:¬d=i:=fun e=>h e.symm
   simp [h,h2]
theorem qzn (ds:List Nat) (b:Bool):∀ (l:List PV) (i:Nat),Qkn (qvs ds) b i l=(l.zipIdx i).map fun (v,j)=>if ds.contains j=b then v else .undef
 | [],_=>rfl
 | v :: vs,i=>by
  simp only [Qkn,List.zipIdx_cons,List.map_cons,qzn ds b vs,qy9]
  congr 1
  cases ds.contains i<;>cases b<;>simp
theorem Qmg (ds:List Nat) (st:St):Qfn ds st=qn5 ds st:=by
 unfold Qfn qn5
 rw [qzn]
 congr 2
 funext p
 cases ds.contains p.2<;>simp
theorem Qkm (ds:List Nat) (st:St):qzm ds st=qlc ds st:=by
 unfold qzm qlc
 rw [qzn]
theorem Qcl:∀ (l:List PV) (i:Nat),qx7 i l=((l.zipIdx i).filter fun (v,_)=>qhg v).map (·.2)
 | [],_=>rfl
 | v :: vs,i=>by
  simp only [qx7,List.zipIdx_cons,List.filter_cons,Qcl vs]
  cases v<;>simp [qhg]
theorem undefsQ_eq (st:St):undefsQ st=undefs st:=Qcl _ _
theorem qwn (R:List Nm):∀ (objs:List (List Ob)) (i:Nat) (f:Nat→List Ob),(∀ j,j < objs.length→f (i+j)=objs.getD j []) →
  (List.range' i objs.length).filter (fun d=>!(f d).isEmpty&&R.all fun nm=>nm.1 != d)=qgt R i objs
 | [],_,_,_=>rfl
 | l :: ls,i,f,hf=>by
  have ih:=qwn R ls (i+1) f fun j hj=>by
   have:=hf (j+1) (by simpa using hj)
   rw [show i+1+j=i+(j+1) by omega,this]
   rfl
  have h0:f i=l:=hf 0 (by simp)
  simp only [List.length_cons,List.range'_succ,List.filter_cons,h0,qgt]
  rw [ih]
  cases l with
  | nil=>simp
  | cons a l=>cases (R.all fun nm=>nm.1 != i)<;>simp
theorem qx5 (st:St):Qfm st=qry st:=by
 unfold Qfm qry
 rw [← qwn _ st.objs 0 (fun d=>st.objs.getD d []) (fun j _=>by rw [Nat.zero_add]),List.range_eq_range']
theorem Qd9 (ds:List Nat):∀ (l:List (List Ob)) (i:Nat),Qg8 (qvs ds) i l=(l.zipIdx i).map fun (v,j)=>if ds.contains j then [] else v
 | [],_=>rfl
 | v :: vs,i=>by
  simp only [Qg8,List.zipIdx_cons,List.map_cons,Qd9 ds vs,qy9]
  congr 1
  cases ds.contains i<;>simp
theorem Ql7 (objs:List (List Ob)):∀ ds:List Nat,Qtf objs ds=ds.all fun d=>(objs.getD d []).isEmpty
 | []=>rfl
 | d :: ds=>by
  simp only [Qtf,List.all_cons,Ql7 objs ds,qsn,List.getD_eq_getElem?_getD]
  cases objs[d]? with
  | none=>simp
  | some l=>cases l<;>simp
theorem Qlx (ds:List Nat) (st:St) (h:(ds.all fun d=>(st.objs.getD d []).isEmpty)=false):Qru ds st=ql1 ds st:=by
 unfold ql1
 rw [if_neg (by rw [h];decide)]
 unfold Qru
 rw [show (fun m:Nm=>match Ql3 (qvs ds) m.1 with | true=>some (none:Option Ob) | false=>none)=fun m=>if ds.contains m.1 then some none else none by
  funext m
  rw [qy9]
  cases ds.contains m.1<;>rfl]
 simp only [Qd9]
theorem qqs (ds:List Nat) (st:St):Qlw ds st=ql1 ds st:=by
 unfold Qlw
 rw [Ql7]
 split
 ·rename_i h;unfold ql1;rw [if_pos h]
 ·rename_i h;exact Qlx ds st h
theorem qwm (R:List Nm):∀ (objs:List (List Ob)) (i d:Nat),d∈qgt R i objs→i≤d∧∃ a l,objs[d - i]?=some (a :: l)
 | [],_,_,h=>by simp [qgt] at h
 | l :: ls,i,d,h=>by
  have ih:=qwm R ls (i+1) d
  have step:d∈qgt R (i+1) ls→i≤d∧∃ a l',(l :: ls)[d - i]?=some (a :: l'):=fun h=>by
   obtain ⟨h1,a,l',h2⟩:=ih h
   refine ⟨by omega,a,l',?_⟩
   rw [show d - i=d - (i+1)+1 by omega,List.getElem?_cons_succ]
   exact h2
  simp only [qgt] at h
  split at h
  ·exact step h
  ·split at h
   ·rcases List.mem_cons.1 h with rfl | h
    ·exact ⟨Nat.le_refl _,_,_,by rw [Nat.sub_self];rfl⟩
    ·exact step h
   ·exact step h
theorem Qlv (st:St):Qrt st=ql1 (qry st) st:=by
 unfold Qrt
 split
 ·rename_i h;rw [← qx5,h];rfl
 ·rename_i d ds h
  rw [← qx5,h]
  refine Qlx _ _ ?_
  obtain ⟨_,a,l,h2⟩:=qwm _ st.objs 0 d (by rw [show qgt _ 0 st.objs=d :: ds from h];exact List.mem_cons_self)
  rw [List.all_cons,List.getD_eq_getElem?_getD,show st.objs[d]?=some (a :: l) from h2]
  rfl
theorem qt2 (ds:List Nat) (st:St):dropQ ds st=drop ds st:=by unfold dropQ drop;rw [Qlv,Qmg]
theorem Qdw (asg:List Nat):∀ (l:List PV) (i t:Nat),qzx (qvs asg) i l=true→asg.contains (i+t)=true→∀ nm k o n,l.getD t .undef=.arr nm k o n→nm=(i+t,0)
 | [],_,_,_,_,_,_,_,_=>by simp
 | x :: xs,i,0,h,hc,nm,k,o,n=>by
  intro e
  simp only [List.getD_cons_zero] at e
  subst e
  simp only [qzx,qy9] at h
  rw [show asg.contains i=true from hc] at h
  obtain ⟨a,b⟩:=nm
  dsimp only at h
  cases hb:Nat.beq a i with
  | false=>rw [hb] at h;cases h
  | true =>
   rw [hb] at h
   cases b with
   | zero=>rw [Nat.eq_of_beq_eq_true hb];rfl
   | succ b=>cases h
 | x :: xs,i,t+1,h,hc,nm,k,o,n=>by
  rw [List.getD_cons_succ,show i+(t+1)=i+1+t by omega]
  rw [show i+(t+1)=i+1+t by omega] at hc
  refine Qdw asg xs (i+1) t ?_ hc nm k o n
  simp only [qzx] at h
  repeat' split at h
  all_goals first | exact h | cases h
theorem Qc2 (t:Nat) (st:St) (h:∀ nm k o n,st.tmps.getD t .undef=.arr nm k o n→nm=(t,0)):qku t st=st:=by
 unfold qku
 split
 ·rename_i nm k o n e
  rw [if_neg]
  exact fun hh=>hh.1 (h nm k o n e)
 ·rfl
theorem Qc1 (st:St):∀ (asg:List Nat),(∀ t∈asg,∀ nm k o n,st.tmps.getD t .undef=.arr nm k o n→nm=(t,0))→asg.foldl (fun st t=>qku t st) st=st
 | [],_=>rfl
 | t :: asg,h=>by rw [List.foldl_cons,Qc2 t st (h t List.mem_cons_self)];exact Qc1 st asg fun u hu=>h u (List.mem_cons_of_mem _ hu)
theorem qr8 {R:Type}:∀ (asg:List Nat) (st:St) (K:St→R),qta asg st K=K (asg.foldl (fun st t=>qku t st) st)
 | [],_,_=>rfl
 | t :: asg,st,K=>by
  rw [List.foldl_cons]
  simp only [qta]
  split
  ·rw [qw6];exact qr8 asg _ K
  ·rename_i h
   rw [Qc2 t st (fun nm k o n e=>absurd (by rw [qsd];exact e) (h nm k o n))]
   exact qr8 asg st K
theorem norm0K_eq {R:Type} (asg:List Nat) (grow:List (Nat×Nat)) (st:St) (K:St→R):norm0K asg grow st K=K (norm0 asg grow st):=by
 unfold norm0K norm0
 split
 ·rename_i h;rw [Qc1 st asg fun t ht nm k o n e=>by have:=Qdw asg st.tmps 0 t h (by simpa using ht) nm k o n e;simpa using this]
 ·rw [qr8]
theorem qxq (asg:List Nat) (grow:List (Nat×Nat)) (st:St):normQ asg grow st=norm asg grow st:=by unfold normQ norm;rw [norm0K_eq,qw6,qt2,undefsQ_eq]
theorem qsy (live:Option (List Nat)) (st:St):tidyQ live st=Qpp live st:=by
 unfold tidyQ Qpp
 split
 ·rfl
 ·rw [Qlv,Qkm]
theorem evRs_eq (tm tm':List PV) (xs:List RX):(xs.map fun x=>RX.c (x.ev tm)).map (RX.ev tm')=xs.map (RX.ev tm):=by
 rw [List.map_map];rfl
theorem exec_instA (d:Nat) (σ:Nm→Option Ob) (T:List PV) (op:ROp):exec d σ [] (op.mapX fun x=>.c (x.ev T))=exec d σ T op:=by
 cases op with
 | build z ps=>simp only [ROp.mapX,exec];rw [Qrb T]
 | slice k x lo hi mx=>simp only [ROp.mapX,exec];rw [qmx,qmx,qmx];rfl
 | strSlice x lo hi=>simp only [ROp.mapX,exec];rw [qmx,qmx];rfl
 | minmax mx xs=>simp only [ROp.mapX,exec,List.map_map];rfl
 | mkSl k xs=>simp only [ROp.mapX,exec,List.map_map];rfl
 | mkF f xs=>simp only [ROp.mapX,exec,List.map_map];rfl
 | _=>rfl
theorem Qb1 (st:St) (dst:Option Nat) (o:Out):Qfi st dst o=apply st dst o:=by
 unfold Qfi
 split
 ·rename_i h
  obtain ⟨v,new,upd,kill,frz,gone,ups,io,slot⟩:=o
  simp only [stillO,qcc,Bool.and_eq_true,Option.isNone_iff_eq_none,List.isEmpty_iff] at h
  obtain ⟨⟨⟨⟨⟨⟨rfl,rfl⟩,rfl⟩,rfl⟩,rfl⟩,rfl⟩,rfl⟩:=h
  unfold apply
  cases dst<;>simp [setR_eq]
 ·rfl
section eval_eq
variable (M:qfw) {E:Type} (h:qbl E) (dep:Nat) (ops:List qb2)
theorem Qg3 (dst:Nat) (σ:Nm→Option Ob) (tm:List PV) (f:RX) (args:List RX) (e:E):qcs M h dep dst σ [] (.c (f.ev tm)) (args.map fun x=>.c (x.ev tm)) e=qcs M h dep dst σ tm f args e:=by
 have hv:=evRs_eq tm [] args
 unfold qcs
 simp only [hv]
 rfl
theorem outQ_eq (o:qb2) (st:St) (e:E):outQ M h dep o st e=qjs M h dep o st e:=by
 unfold outQ qjs
 rw [show freshQ o st=qgo o st by unfold freshQ qgo;simp only [qsn]<;>rfl,Qqj,evR_eq]
 congr 1
 cases o.op with
 | call f args=>have hc:=Qg3 M h dep (o.dst.getD 0) (qbq st.objs) st.tmps f args e;simp only [hc]<;>rfl
 | _=>simp only [exec_instA]<;>rfl
theorem Qhs (o:qb2) (tm:List PV):Qpj ops o tm=qj8 ops o tm:=by
 unfold Qpj qj8
 simp only [qsn,qsd]<;>rfl
theorem stepQ_eq (o:qb2) (st:St) (e:E):stepQ M h dep ops o st e=stepG M h dep ops o st e:=by
 unfold stepQ stepG qs0
 rw [Qhs]
 split<;>rename_i hw<;>simp only [hw,fOut_eq,outQ_eq,Qb1]<;>rfl
theorem Qmp:∀ (l:List qb2) (st:St) (e:E),runQ M h dep ops l st e=qhz M h dep ops l st e
 | [],_,_=>rfl
 | o :: l,st,e=>by
  simp only [runQ,qhz,stepQ_eq,Qmp l]<;>rfl
theorem infoQ_eq (i:Nat) (o:qb2) (st:St) (out:Out):infoQ ops i o st out=qlu ops i o st out:=by
 unfold infoQ qlu rnQ Qje yldQ qvy
 simp only [evF_eq,Qqj,qsd]<;>rfl
theorem outDQ_eq (i:Nat) (o:qb2) (st:St) (e:E):outDQ M h dep ops i o st e=Qh1 M h dep ops i o st e:=by
 unfold outDQ Qh1 qn4
 rw [Qhs,outQ_eq]
 cases qj8 ops o st.tmps with
 | none=>rfl
 | some b =>
  cases b with
  | true =>
   cases qjs M h dep o st e with
   | none=>rfl
   | some p=>simp only [fOut_eq,Qb1,infoQ_eq]
  | false=>simp only [Qb1,qsd]
theorem Qpy:∀ (l:List (Nat×Nat)) (infos:List qsx) (st:St) (e:E),runDQ M h dep ops l infos st e=Qpz M h dep ops l infos st e
 | [],_,_,_=>rfl
 |(i,bef) :: l,infos,st,e=>by
  simp only [runDQ,Qpz,qsn,outDQ_eq,Qpy l]<;>rfl
end eval_eq
theorem qj7 (M:qfw) (fuel:Nat):∀ (c:qdf) {E:Type} (h:qbl E) (dep:Nat) (st:St) (e:E),qnt M fuel c h dep st e=qbz M fuel c h dep st e
 | .skip,_,_,_,_,_ | .exit _,_,_,_,_,_ | .ret,_,_,_,_,_ | .bad,_,_,_,_,_ | .dreg _ _ _ _,_,_,_,_,_ | .rangeFunc _ _ _ _,_,_,_,_,_=>by simp only [qnt,qbz]<;>rfl
 | .norm _,_,_,_,_,_=>by simp only [qnt,qbz,qw6,Qle,qqs,qsy,qxq,qt2]<;>rfl
 | .region ops none qh7,_,h,dep,st,e=>by simp only [qnt,qbz,qw6,Qle,qqs,qsy,qxq,qt2,Qmp]<;>rfl
 | .region ops (some bef) qh7,_,h,dep,st,e=>by simp only [qnt,qbz,qw6,Qle,qqs,qsy,qxq,qt2,Qpy]<;>rfl
 | .seq a b,_,h,dep,st,e=>by simp only [qnt,qbz,qj7 M fuel a,qj7 M fuel b]<;>rfl
 | .cond c a b,_,h,dep,st,e=>by simp only [qnt,qbz,qj7 M fuel a,qj7 M fuel b]<;>rfl
 | .block id b,_,h,dep,st,e=>by simp only [qnt,qbz,qj7 M fuel b]<;>rfl
 | .scope b,_,h,dep,st,e=>by simp only [qnt,qbz,qj7 M fuel b]<;>rfl
 | .loop asg grow b,_,h,dep,st,e=>by simp only [qnt,qbz,qw6,Qle,qqs,qsy,qxq,qt2,qj7 M fuel b]<;>rfl
theorem callQ_eq (M:qfw) (n:Nat) (tab:FuncId→Option RFn):callQ M n tab=qqu M n tab:=by
 funext E h dep f args e
 simp only [callQ,qqu,qns,qj7,fV_eq,Qnw]<;>rfl
theorem qlw (M:qfw) (fuel nt:Nat):∀ (c:qdf) (st:St),qmk M fuel nt c st=qcu M fuel nt c st
 | .dreg ops f args live,st=>by simp only [qmk,qcu,Qmp,qqs,Qle,qsy]<;>rfl
 | .seq a b,st=>by simp only [qmk,qcu,qlw M fuel nt a,qlw M fuel nt b]<;>rfl
 | .cond c a b,st=>by simp only [qmk,qcu,qlw M fuel nt a,qlw M fuel nt b]<;>rfl
 | .block id b,st=>by simp only [qmk,qcu,qlw M fuel nt b]<;>rfl
 | .scope b,st=>by simp only [qmk,qcu,qlw M fuel nt b]<;>rfl
 | .skip,_ | .region _ _ _,_ | .loop _ _ _,_ | .rangeFunc _ _ _ _,_ | .exit _,_ | .ret,_ | .norm _,_ | .bad,_=>by simp only [qmk,qcu,qj7]<;>rfl
theorem ioRawQ_eq (M:qfw) (n:Nat) (fn:RFn) (ins:List Ob) (vs:List PV):ioRawQ M n fn ins vs=qv0 M n fn ins vs:=by
 unfold ioRawQ qv0
 simp only [qw6,qj7,qlw]<;>rfl
theorem fObD_eq {R:Type} (o:Ob) (K:Ob→R):fObD o K=K o:=by cases o<;>simp only [fObD,qns,Qbj]
theorem Qrf {R:Type}:∀ (xs:List Ob) (K:List Ob→R),fObDs xs K=K xs
 | [],_=>rfl
 | x :: xs,K=>by simp only [fObDs];rw [fObD_eq,Qrf xs]
theorem ioOfQ_eq (M:qfw) (n:Nat) (tab:FuncId→Option RFn):ioOfQ M n tab=Qmd M n tab:=by
 funext f dst σ vs
 unfold ioOfQ Qmd
 simp only [Qbj,Qrf,qns,ioRawQ_eq,qw6]<;>rfl
theorem Qlh (memo:FuncId→List PV→Option PV) (sp:FuncId→(Nm→Option Ob)→List PV→Option Out) (tab:FuncId→Option RFn):∀ n,Qli memo sp tab n=Qbl memo sp tab n
 | 0=>rfl
 | n+1=>by simp only [Qli,Qbl,Qlh memo sp tab n,callQ_eq,ioOfQ_eq]
theorem qbh {sp:FuncId→(Nm→Option Ob)→List PV→Option Out} {tab:FuncId→Option RFn} {l:qro} (hl:qk8 sp tab l) {n:Nat} {g:FuncId} {args:List PV} {r:PV}
  (h:evalFq (Qj2 l) sp tab n Unit qbe 0 g args ()=some (r,[],())):∃ m,qbn sp tab m Unit qbe 0 g args ()=some (r,[],()) :=
 ev_known hl (n:=n) (by unfold evalFm;rw [← Qlh];exact h)
end
end Go.Ab

